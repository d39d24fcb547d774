/- Lines, plainly: what the program's and the reference's functions on lines answer. -/
import Derived.Test.YtdnneofebehpaaaDoorLx12
import Derived.Test.YtdnneofebehpaaaDoorEv
import Derived.Test.YtdnneofebehpaaaDoorPlLn
namespace Go.Proofs.YtdnneofebehpaaaDoor.L
open Go.RowKit Go.Proofs.YtdnneofebehpaaaDoorW.PrintWords Go.Proofs.YtdnneofebehpaaaDoorW.PrintLast Go.Proofs.YtdnneofebehpaaaDoorW.PrintMore Go.Proofs.YtdnneofebehpaaaDoor.LexPlain
def toB (l : List UInt8) : ByteArray := ⟨l.toArray⟩
theorem toB_list (l : List UInt8) : (toB l).data.toList = l := by simp [toB]
theorem toB_of (s : ByteArray) : toB s.data.toList = s := by
  obtain ⟨⟨l⟩⟩ := s
  rfl
theorem toB_size (l : List UInt8) : (toB l).size = l.length := by rw [Lib.size_eq, toB_list]
theorem toB_tl (l : List UInt8) : (toB l).toList = l := by rw [Lib.toList_data, toB_list]
theorem toB_append (l r : List UInt8) : toB l ++ toB r = toB (l ++ r) := by
  have : (toB l ++ toB r).data.toList = (toB (l ++ r)).data.toList := by
    rw [ByteArray.data_append, Array.toList_append, toB_list, toB_list, toB_list]
  have h := congrArg toB this
  rwa [toB_of, toB_of] at h
theorem bt_list (s : ByteArray) (j : Nat) (h : j < s.data.toList.length) : bt s (j : Int) = ((s.data.toList[j]).toNat : Int) := by
  have h' : (j : Int).toNat < s.size := by rw [Lib.size_eq]; omega
  rw [← bt_at s (j : Int) h']
  rfl
theorem rdB (xs : List ByteArray) (j : Nat) (h : j < xs.length) : rdOf ByteArray.empty xs (j : Int) = xs[j] := by
  simp [rdOf, List.getD_eq_getElem?_getD, List.getElem?_eq_getElem h]
theorem mayB_iff (b : UInt8) : mayB b = true ↔ (32 ≤ b.toNat ∧ b.toNat ≤ 126) ∨ b.toNat = 9 ∨ b.toNat = 10 := by
  unfold mayB
  have e9 : (b == 9) = decide (b.toNat = 9) := by
    rw [Bool.eq_iff_iff, beq_iff_eq, decide_eq_true_iff]
    exact ⟨fun q => by rw [q]; rfl, fun q => UInt8.toNat_inj.1 q⟩
  have e10 : (b == 10) = decide (b.toNat = 10) := by
    rw [Bool.eq_iff_iff, beq_iff_eq, decide_eq_true_iff]
    exact ⟨fun q => by rw [q]; rfl, fun q => UInt8.toNat_inj.1 q⟩
  rw [e9, e10]
  simp [or_assoc]
def askV (s : ByteArray) : Int := if 65536 < s.size then 6 else if s.data.toList.all mayB then 0 else 4
theorem ask_loop (s : ByteArray) (hs : s.size ≤ 65536) : ∀ (m j : Nat), j + m = s.size → Ev (fun k => lex_ask.l0 k s (s.size : Int) (j : Int)) (if (s.data.toList.drop j).all mayB then 0 else 4) := by
  intro m
  have hsz := Lib.size_eq s
  induction m with
  | zero =>
    intro j hj
    refine Ev.step (by intro k; rw [lex_ask.l0]) ?_
    refine Ev.ite_neg (by omega) ?_
    rw [List.drop_of_length_le (by omega)]
    exact Ev.now _
  | succ m ih =>
    intro j hj
    have hlt : j < s.data.toList.length := by omega
    refine Ev.step (by intro k; rw [lex_ask.l0]) ?_
    refine Ev.ite_pos (by omega) (Ev.ite_pos (by omega) (Ev.ite_pos (by omega) ?_))
    rw [bt_list s j hlt, w64s j (by omega), dropc _ j hlt, List.all_cons]
    have next := ih (j + 1) (by omega)
    generalize s.data.toList[j] = b
    have hm := mayB_iff b
    by_cases h : mayB b = true
    · have h' := hm.1 h
      rw [h, Bool.true_and]
      by_cases c1 : (b.toNat : Int) < 32
      · refine Ev.ite_pos c1 ?_
        by_cases c2 : (b.toNat : Int) = 9
        · exact Ev.ite_pos c2 next
        · exact Ev.ite_neg c2 (Ev.ite_pos (by omega) next)
      · exact Ev.ite_neg c1 (Ev.ite_neg (by omega) next)
    · have h' : ¬ ((32 ≤ b.toNat ∧ b.toNat ≤ 126) ∨ b.toNat = 9 ∨ b.toNat = 10) := fun q => h (hm.2 q)
      rw [Bool.eq_false_iff.2 h, Bool.false_and, if_neg (by decide)]
      by_cases c1 : (b.toNat : Int) < 32
      · exact Ev.ite_pos c1 (Ev.ite_neg (by omega) (Ev.ite_neg (by omega) (Ev.now _)))
      · exact Ev.ite_neg c1 (Ev.ite_pos (by omega) (Ev.ite_neg (by omega) (Ev.ite_neg (by omega) (Ev.now _))))
theorem ask_ev (s : ByteArray) : Ev (fun k => lex_ask.f k s) (askV s) := by
  refine Ev.congr (fun k => by rw [lex_ask.f]) ?_
  unfold askV
  by_cases h : 65536 < s.size
  · rw [if_pos h]
    exact Ev.ite_pos (by omega) (Ev.now _)
  · rw [if_neg h]
    refine Ev.ite_neg (by omega) ?_
    have := ask_loop s (by omega) s.size 0 (by omega)
    rw [List.drop_zero] at this
    exact this
theorem may_loop (s : ByteArray) (hs : s.size ≤ 65536) : ∀ (m j : Nat), j + m = s.size → Ev (fun k => dragomanref14_may.l0 k s (j : Int)) ((s.data.toList.drop j).all mayB) := by
  intro m
  have hsz := Lib.size_eq s
  induction m with
  | zero =>
    intro j hj
    refine Ev.step (by intro k; rw [dragomanref14_may.l0]) ?_
    refine Ev.ite_neg (by omega) ?_
    rw [List.drop_of_length_le (by omega)]
    exact Ev.now _
  | succ m ih =>
    intro j hj
    have hlt : j < s.data.toList.length := by omega
    refine Ev.step (by intro k; rw [dragomanref14_may.l0]) ?_
    refine Ev.ite_pos (by omega) (Ev.ite_pos (by omega) ?_)
    rw [bt_list s j hlt, w64s j (by omega), dropc _ j hlt, List.all_cons]
    have next := ih (j + 1) (by omega)
    generalize s.data.toList[j] = b
    have hm := mayB_iff b
    by_cases h : mayB b = true
    · have h' := hm.1 h
      rw [h, Bool.true_and]
      by_cases c1 : (b.toNat : Int) ≥ 32
      · exact Ev.ite_pos c1 (Ev.ite_pos (by omega) next)
      · refine Ev.ite_neg c1 ?_
        by_cases c2 : (b.toNat : Int) = 9
        · exact Ev.ite_pos c2 next
        · exact Ev.ite_neg c2 (Ev.ite_pos (by omega) next)
    · have h' : ¬ ((32 ≤ b.toNat ∧ b.toNat ≤ 126) ∨ b.toNat = 9 ∨ b.toNat = 10) := fun q => h (hm.2 q)
      rw [Bool.eq_false_iff.2 h, Bool.false_and]
      by_cases c1 : (b.toNat : Int) ≥ 32
      · exact Ev.ite_pos c1 (Ev.ite_neg (by omega) (Ev.ite_neg (by omega) (Ev.ite_neg (by omega) (Ev.now _))))
      · exact Ev.ite_neg c1 (Ev.ite_neg (by omega) (Ev.ite_neg (by omega) (Ev.now _)))
theorem may_ev (s : ByteArray) (hs : s.size ≤ 65536) : Ev (fun k => dragomanref14_may.f k s) (s.data.toList.all mayB) := by
  refine Ev.congr (fun k => by rw [dragomanref14_may.f]) ?_
  have := may_loop s hs s.size 0 (by omega)
  rw [List.drop_zero] at this
  exact this
def byB (y : List UInt8) (b : UInt8) : Bool := y.any (fun c => b == c)
theorem beq_nat (b c : UInt8) : ((b.toNat : Int) == (c.toNat : Int)) = (b == c) := by
  rw [Bool.eq_iff_iff, beq_iff_eq, beq_iff_eq]
  exact ⟨fun q => UInt8.toNat_inj.1 (by omega), fun q => by rw [q]⟩
theorem set_last {α : Type} (acc : List α) (x y : α) : (acc ++ [x]).set acc.length y = acc ++ [y] := by
  rw [List.set_append_right _ _ (Nat.le_refl _), Nat.sub_self]
  rfl
theorem extract_one (s : ByteArray) (i : Nat) (h : i < s.data.toList.length) : s.extract i (i + 1) = toB [s.data.toList[i]] := by
  rw [Lib.extract_eq]
  unfold toB
  congr 2
  rw [dropc _ i h, show i + 1 - i = 1 by omega]
  rfl
theorem pieces_in (s y : ByteArray) (hy : y.size ≤ 65536) (x5 : List ByteArray) (i : Nat) (hi : i < s.data.toList.length) (r : List ByteArray)
    (cont : Nat → Bool → Option (List ByteArray)) (hc : ∀ k c, cont k c = (if c = true then (if x5.length < 8796093022208 then (dragomanref14_pieces.l0 k s y (x5 ++ [(⟨#[]⟩ : ByteArray)]) (wrap64 ((i : Int) + 1))) else (none)) else (if 0 ≤ (wrap64 ((x5.length : Int) - 1)) then (if (wrap64 ((x5.length : Int) - 1)) < (x5.length : Int) then (if 0 ≤ (i : Int) then (if (i : Int) ≤ (wrap64 ((i : Int) + 1)) then (if (wrap64 ((i : Int) + 1)) ≤ (s.size : Int) then (if (rdOf ByteArray.empty x5 (wrap64 ((x5.length : Int) - 1))).size + (s.extract ((i : Int) : Int).toNat ((wrap64 ((i : Int) + 1)) : Int).toNat).size ≤ 9223372036854775807 then (dragomanref14_pieces.l0 k s y (x5.set ((wrap64 ((x5.length : Int) - 1)) : Int).toNat ((rdOf ByteArray.empty x5 (wrap64 ((x5.length : Int) - 1))) ++ (s.extract ((i : Int) : Int).toNat ((wrap64 ((i : Int) + 1)) : Int).toNat))) (wrap64 ((i : Int) + 1))) else (none)) else (none)) else (none)) else (none)) else (none)) else (none))))
    (hr : Ev (fun k => cont k (byB y.data.toList s.data.toList[i])) r) : ∀ (m j : Nat) (c : Bool), j + m = y.size → (c || byB (y.data.toList.drop j) s.data.toList[i]) = byB y.data.toList s.data.toList[i] → Ev (fun k => dragomanref14_pieces.l1 k s y x5 (i : Int) c (j : Int)) r := by
  intro m
  have hsz := Lib.size_eq y
  have hss := Lib.size_eq s
  induction m with
  | zero =>
    intro j c hj hb
    refine Ev.step (by intro k; rw [dragomanref14_pieces.l1]) ?_
    refine Ev.ite_neg (by omega) ?_
    rw [List.drop_of_length_le (by omega)] at hb
    have e : c = byB y.data.toList s.data.toList[i] := by simpa [byB] using hb
    rw [e]
    refine Ev.congr (fun k => ?_) hr
    rw [hc]
  | succ m ih =>
    intro j c hj hb
    have hlt : j < y.data.toList.length := by omega
    refine Ev.step (by intro k; rw [dragomanref14_pieces.l1]) ?_
    refine Ev.ite_pos (by omega) ?_
    rw [dropc _ j hlt] at hb
    rw [w64s j (by omega)]
    cases c with
    | true =>
      exact Ev.ite_pos rfl (ih (j + 1) true (by omega) (by simpa using hb))
    | false =>
      refine Ev.ite_neg (by decide) (Ev.ite_pos (by omega) (Ev.ite_pos (by omega) (Ev.ite_pos (by omega) ?_)))
      rw [bt_list s i hi, bt_list y j hlt, beq_nat]
      refine ih (j + 1) _ (by omega) ?_
      rw [← hb]
      simp [byB]
theorem pieces_loop (s y : ByteArray) (hs : s.size ≤ 65536) (hy : y.size ≤ 65536) : ∀ (m i : Nat) (acc : List ByteArray) (cur : List UInt8), i + m = s.size → acc.length ≤ i → cur.length ≤ i →
    Ev (fun k => dragomanref14_pieces.l0 k s y (acc ++ [toB cur]) (i : Int)) (acc ++ (pcs (byB y.data.toList) cur (s.data.toList.drop i)).map toB) := by
  intro m
  have hsz := Lib.size_eq s
  induction m with
  | zero =>
    intro i acc cur hi ha hc
    refine Ev.step (by intro k; rw [dragomanref14_pieces.l0]) ?_
    refine Ev.ite_neg (by omega) ?_
    rw [List.drop_of_length_le (by omega), pcs]
    exact Ev.now _
  | succ m ih =>
    intro i acc cur hi ha hc
    have hlt : i < s.data.toList.length := by omega
    refine Ev.step (by intro k; rw [dragomanref14_pieces.l0]) ?_
    refine Ev.ite_pos (by omega) ?_
    refine pieces_in s y hy (acc ++ [toB cur]) i hlt _ _ (fun k c => rfl) ?_ y.size 0 false (by omega) (by simp)
    rw [dropc _ i hlt, pcs, w64s i (by omega)]
    have hl : ((acc ++ [toB cur]).length : Int) - 1 = (acc.length : Int) := by simp
    rw [hl, w64 (by omega) (by omega)]
    by_cases h : byB y.data.toList s.data.toList[i] = true
    · rw [if_pos h]
      refine Ev.ite_pos h (Ev.ite_pos (by simp; omega) ?_)
      have := ih (i + 1) (acc ++ [toB cur]) [] (by omega) (by simp; omega) (by simp)
      have e0 : (⟨#[]⟩ : ByteArray) = toB [] := rfl
      rw [List.map_cons, e0]
      have e1 : acc ++ [toB cur] ++ List.map toB (pcs (byB y.data.toList) [] (List.drop (i + 1) s.data.toList)) = acc ++ toB cur :: List.map toB (pcs (byB y.data.toList) [] (List.drop (i + 1) s.data.toList)) := by simp
      rw [← e1]
      exact this
    · rw [if_neg h]
      have el : rdOf ByteArray.empty (acc ++ [toB cur]) (acc.length : Int) = toB cur := by
        rw [rdB _ acc.length (by simp)]
        simp
      refine Ev.ite_neg h (Ev.ite_pos (by omega) (Ev.ite_pos (by simp; omega) (Ev.ite_pos (by omega) (Ev.ite_pos (by omega) (Ev.ite_pos (by omega) ?_)))))
      rw [el, Int.toNat_natCast, Int.toNat_natCast, Int.toNat_natCast, extract_one s i hlt, toB_append, set_last]
      refine Ev.ite_pos (by rw [toB_size, toB_size]; simp; omega) ?_
      exact ih (i + 1) acc (cur ++ [s.data.toList[i]]) (by omega) (by omega) (by simp; omega)
theorem pieces_ev (s y : ByteArray) (hs : s.size ≤ 65536) (hy : y.size ≤ 65536) : Ev (fun k => dragomanref14_pieces.f k s y) ((pcs (byB y.data.toList) [] s.data.toList).map toB) := by
  refine Ev.congr (fun k => by rw [dragomanref14_pieces.f]) ?_
  have := pieces_loop s y hs hy s.size 0 [] [] (by omega) (by simp) (by simp)
  rw [List.drop_zero] at this
  exact this
theorem pcs_len (p : UInt8 → Bool) : ∀ (s cur : List UInt8), (pcs p cur s).length ≤ s.length + 1 ∧ ∀ x ∈ pcs p cur s, x.length ≤ cur.length + s.length
  | [], cur => by simp [pcs]
  | b :: s, cur => by
    rw [pcs]
    split
    · obtain ⟨h1, h2⟩ := pcs_len p s []
      refine ⟨by simp only [List.length_cons]; omega, fun x hx => ?_⟩
      rcases List.mem_cons.1 hx with rfl | hx
      · omega
      · have := h2 x hx
        simp only [List.length_cons, List.length_nil] at this ⊢
        omega
    · obtain ⟨h1, h2⟩ := pcs_len p s (cur ++ [b])
      refine ⟨by simp only [List.length_cons]; omega, fun x hx => ?_⟩
      have := h2 x hx
      simp only [List.length_append, List.length_cons, List.length_nil] at this ⊢
      omega
theorem words_loop (l : List (List UInt8)) (hl : l.length ≤ 70000) : ∀ (m i : Nat) (acc : List ByteArray), i + m = l.length → acc.length ≤ i →
    Ev (fun k => dragomanref14_Words.l0 k acc (l.map toB) ((l.map toB).length : Int) (i : Int)) (acc ++ ((l.drop i).filter (fun w => !w.isEmpty)).map toB) := by
  intro m
  induction m with
  | zero =>
    intro i acc hi ha
    refine Ev.step (by intro k; rw [dragomanref14_Words.l0]) ?_
    refine Ev.ite_neg (by rw [List.length_map]; omega) ?_
    rw [List.drop_of_length_le (by omega)]
    simp only [List.filter_nil, List.map_nil, List.append_nil]
    exact Ev.now _
  | succ m ih =>
    intro i acc hi ha
    have hlt : i < l.length := by omega
    refine Ev.step (by intro k; rw [dragomanref14_Words.l0]) ?_
    refine Ev.ite_pos (by rw [List.length_map]; omega) (Ev.ite_pos (by omega) (Ev.ite_pos (by rw [List.length_map]; omega) ?_))
    rw [rdB _ i (by rw [List.length_map]; exact hlt), List.getElem_map, toB_tl, w64s i (by omega), dropc _ i hlt, List.filter_cons]
    by_cases h : l[i] = []
    · rw [h]
      refine Ev.ite_pos rfl ?_
      exact ih (i + 1) acc (by omega) (by omega)
    · have h' : (!l[i].isEmpty) = true := by simp [h]
      rw [if_pos h']
      refine Ev.ite_neg h (Ev.ite_pos (by omega) ?_)
      have := ih (i + 1) (acc ++ [toB l[i]]) (by omega) (by simp; omega)
      rw [List.append_assoc] at this
      exact this
theorem byB_word : byB [32, 9] = wordB := by
  funext b
  simp [byB, wordB]
theorem byB_nl : byB [10] = nlB := by
  funext b
  simp [byB, nlB]
theorem words_ev (s : ByteArray) (hs : s.size ≤ 65536) : Ev (fun k => dragomanref14_Words.f k s) ((wordsL s.data.toList).map toB) := by
  refine Ev.congr (fun k => by rw [dragomanref14_Words.f]) ?_
  refine Ev.bind1 _ (pieces_ev s ⟨#[32, 9]⟩ hs (by decide)) ?_
  have e : byB (⟨#[32, 9]⟩ : ByteArray).data.toList = wordB := byB_word
  rw [e]
  have hsz := Lib.size_eq s
  have hp := (pcs_len wordB s.data.toList []).1
  have := words_loop (pcs wordB [] s.data.toList) (by omega) _ 0 [] (by rw [Nat.zero_add]) (by simp)
  rw [List.drop_zero] at this
  exact this
theorem words_ne {s w : List UInt8} (h : w ∈ wordsL s) : w ≠ [] := by
  unfold wordsL at h
  have := (List.mem_filter.1 h).2
  intro q
  rw [q] at this
  simp at this
def linesB (s : List UInt8) : List (List ByteArray) := (linesL s).map (·.map toB)
theorem kept_cons (w : List UInt8) (ws : List (List UInt8)) (h : w ≠ []) : ∃ b, ∃ (hb : 0 < w.length), w[0] = b ∧ keptW (w :: ws) = !(b == 33) := by
  cases w with
  | nil => exact absurd rfl h
  | cons b w =>
    refine ⟨b, by simp, rfl, ?_⟩
    simp [keptW]
theorem line_step (x : List UInt8) (f : Nat → List (List ByteArray) → Option (List (List ByteArray) × Int)) (acc : List (List ByteArray)) (r : List (List ByteArray) × Int) (ha : acc.length ≤ 70000)
    (h1 : keptW (wordsL x) = false → Ev (fun k => f k acc) r) (h2 : keptW (wordsL x) = true → Ev (fun k => f k (acc ++ [(wordsL x).map toB])) r) :
    Ev (fun k => if (((wordsL x).map toB).length : Int) > 0 then (if 0 < (((wordsL x).map toB).length : Int) then (if 0 < ((rdOf ByteArray.empty ((wordsL x).map toB) 0).size : Int) then (if (bt (rdOf ByteArray.empty ((wordsL x).map toB) 0) 0) = 33 then f k acc else (if acc.length < 5864062014805 then f k (acc ++ [(wordsL x).map toB]) else (none))) else (none)) else (none)) else f k acc) r := by
  cases hw : wordsL x with
  | nil =>
    rw [hw] at h1 h2
    exact Ev.ite_neg (by simp) (h1 rfl)
  | cons w ws =>
    rw [hw] at h1 h2
    have hne : w ≠ [] := words_ne (s := x) (by rw [hw]; simp)
    obtain ⟨b, hb, hwb, hk⟩ := kept_cons w ws hne
    have e0 : rdOf ByteArray.empty ((w :: ws).map toB) 0 = toB w := rfl
    have e1 : bt (toB w) 0 = (b.toNat : Int) := by
      have := bt_list (toB w) 0 (by rw [toB_list]; exact hb)
      rw [show ((0 : Nat) : Int) = 0 from rfl] at this
      rw [this]
      simp only [toB_list, hwb]
    refine Ev.ite_pos (by simp) (Ev.ite_pos (by simp) (Ev.ite_pos (by rw [e0, toB_size]; omega) ?_))
    rw [e0, e1]
    by_cases h33 : b = 33
    · subst h33
      exact Ev.ite_pos rfl (h1 (by rw [hk]; rfl))
    · refine Ev.ite_neg (fun q => h33 (UInt8.toNat_inj.1 (by have : (33 : UInt8).toNat = 33 := rfl; omega))) (Ev.ite_pos (by omega) (h2 ?_))
      rw [hk]
      simp [h33]
theorem rlines_loop (l : List (List UInt8)) (hl : l.length ≤ 65537) (hx : ∀ x ∈ l, x.length ≤ 65536) : ∀ (m i : Nat) (acc : List (List ByteArray)), i + m = l.length → acc.length ≤ i →
    Ev (fun k => dragomanref14_Lines.l0 k acc (l.map toB) ((l.map toB).length : Int) (i : Int)) (acc ++ (((l.drop i).map wordsL).filter keptW).map (·.map toB), 0) := by
  intro m
  induction m with
  | zero =>
    intro i acc hi ha
    refine Ev.step (by intro k; rw [dragomanref14_Lines.l0]) ?_
    refine Ev.ite_neg (by rw [List.length_map]; omega) ?_
    rw [List.drop_of_length_le (by omega)]
    simp only [List.filter_nil, List.map_nil, List.append_nil]
    exact Ev.now _
  | succ m ih =>
    intro i acc hi ha
    have hlt : i < l.length := by omega
    refine Ev.step (by intro k; rw [dragomanref14_Lines.l0]) ?_
    refine Ev.ite_pos (by rw [List.length_map]; omega) (Ev.ite_pos (by omega) (Ev.ite_pos (by rw [List.length_map]; omega) ?_))
    rw [rdB _ i (by rw [List.length_map]; exact hlt), List.getElem_map, w64s i (by omega), dropc _ i hlt]
    refine Ev.bind1 _ (words_ev (toB l[i]) (by rw [toB_size]; exact hx _ (List.getElem_mem hlt))) ?_
    rw [toB_list, List.map_cons, List.filter_cons]
    refine line_step l[i] (fun k a => dragomanref14_Lines.l0 k a (l.map toB) ((l.map toB).length : Int) ((i + 1 : Nat) : Int)) acc _ (by omega) (fun h => ?_) (fun h => ?_)
    · rw [h, if_neg (by decide)]
      exact ih (i + 1) acc (by omega) (by omega)
    · rw [h, if_pos rfl]
      have := ih (i + 1) (acc ++ [(wordsL l[i]).map toB]) (by omega) (by simp; omega)
      rw [List.append_assoc] at this
      exact this
def linesV (s : ByteArray) : List (List ByteArray) × Int := if askV s = 0 then (linesB s.data.toList, 0) else ([], askV s)
theorem rlines_ev (s : ByteArray) : Ev (fun k => dragomanref14_Lines.f k s) (linesV s) := by
  refine Ev.congr (fun k => by rw [dragomanref14_Lines.f]) ?_
  have hsz := Lib.size_eq s
  unfold linesV askV
  by_cases h : 65536 < s.size
  · rw [if_pos h, if_neg (by decide)]
    exact Ev.ite_pos (by omega) (Ev.now _)
  · rw [if_neg h]
    refine Ev.ite_neg (by omega) ?_
    refine Ev.bind1 _ (may_ev s (by omega)) ?_
    by_cases hm : s.data.toList.all mayB = true
    · rw [if_pos hm, if_pos rfl]
      refine Ev.ite_pos hm ?_
      refine Ev.bind1 _ (pieces_ev s ⟨#[10]⟩ (by omega) (by decide)) ?_
      have e : byB (⟨#[10]⟩ : ByteArray).data.toList = nlB := byB_nl
      rw [e]
      obtain ⟨hp, hq⟩ := pcs_len nlB s.data.toList []
      have := rlines_loop (pcs nlB [] s.data.toList) (by omega) (fun x hx => by have := hq x hx; simp at this; omega) _ 0 [] (by rw [Nat.zero_add]) (by simp)
      rw [List.drop_zero] at this
      exact this
    · rw [if_neg hm, if_neg (by decide)]
      exact Ev.ite_neg hm (Ev.now _)
theorem split_pcs (s : ByteArray) (c : UInt8) : Lib.splitB ⟨#[c]⟩ 0 (Lib.countB s ⟨#[c]⟩) s = (pcs (fun b => b == c) [] s.data.toList).map toB := by
  have h := Lib.splitB_data ⟨#[c]⟩ 0 (Lib.countB s ⟨#[c]⟩) s
  have h2 : ∀ l : List ByteArray, l = (l.map (·.data.toList)).map toB := by
    intro l
    rw [List.map_map]
    induction l with
    | nil => rfl
    | cons a l ih => rw [List.map_cons, ← ih]; simp only [Function.comp, toB_of]
  rw [h2 (Lib.splitB ⟨#[c]⟩ 0 (Lib.countB s ⟨#[c]⟩) s), h]
  congr 1
  rw [← split_one]
  rfl
theorem llines_loop (s : List UInt8) (hs : ∀ b ∈ s, mayB b = true) (l : List (List UInt8)) (hl : l.length ≤ 65537) (hx : ∀ x ∈ l, x.length ≤ 65536 ∧ x ∈ Lib.split s [10]) : ∀ (m i : Nat) (acc : List (List ByteArray)), i + m = l.length → acc.length ≤ i →
    Ev (fun k => lex_Lines.l0 k acc (l.map toB) ((l.map toB).length : Int) (i : Int)) (acc ++ (((l.drop i).map wordsL).filter keptW).map (·.map toB), 0) := by
  intro m
  induction m with
  | zero =>
    intro i acc hi ha
    refine Ev.step (by intro k; rw [lex_Lines.l0]) ?_
    refine Ev.ite_neg (by rw [List.length_map]; omega) ?_
    rw [List.drop_of_length_le (by omega)]
    simp only [List.filter_nil, List.map_nil, List.append_nil]
    exact Ev.now _
  | succ m ih =>
    intro i acc hi ha
    have hlt : i < l.length := by omega
    obtain ⟨hlen, hmem⟩ := hx _ (List.getElem_mem hlt)
    refine Ev.step (by intro k; rw [lex_Lines.l0]) ?_
    refine Ev.ite_pos (by rw [List.length_map]; omega) (Ev.ite_pos (by omega) (Ev.ite_pos (by rw [List.length_map]; omega) ?_))
    rw [rdB _ i (by rw [List.length_map]; exact hlt), List.getElem_map, w64s i (by omega), dropc _ i hlt]
    have hF : strings_Fields.f (toB l[i]) = some ((wordsL l[i]).map toB) := by
      unfold strings_Fields.f
      have ha : asciiB (toB l[i]) = true := by
        unfold asciiB
        rw [toB_list, List.all_eq_true]
        intro b hb
        rw [split_one] at hmem
        rcases pcs_mem _ s [] _ hmem b hb with h | ⟨h1, _⟩
        · simp at h
        · have := (mayB_iff b).1 (hs b h1)
          exact decide_eq_true (by omega)
      rw [if_pos ⟨by rw [toB_size]; omega, ha⟩, toB_list, words_line hs hmem]
      rfl
    rw [hF]
    refine Ev.some ?_
    rw [List.map_cons, List.filter_cons]
    refine line_step l[i] (fun k a => lex_Lines.l0 k a (l.map toB) ((l.map toB).length : Int) ((i + 1 : Nat) : Int)) acc _ (by omega) (fun h => ?_) (fun h => ?_)
    · rw [h, if_neg (by decide)]
      exact ih (i + 1) acc (by omega) (by omega)
    · rw [h, if_pos rfl]
      have := ih (i + 1) (acc ++ [(wordsL l[i]).map toB]) (by omega) (by simp; omega)
      rw [List.append_assoc] at this
      exact this
theorem llines_ev (s : ByteArray) : Ev (fun k => lex_Lines.f k s) (linesV s) := by
  refine Ev.congr (fun k => by rw [lex_Lines.f]) ?_
  have hsz := Lib.size_eq s
  refine Ev.bind1 _ (ask_ev s) ?_
  unfold linesV
  by_cases h : askV s = 0
  · rw [if_pos h]
    refine Ev.ite_pos h ?_
    have h1 : ¬ 65536 < s.size := by intro q; unfold askV at h; rw [if_pos q] at h; exact absurd h (by decide)
    have h2 : s.data.toList.all mayB = true := by
      unfold askV at h
      rw [if_neg h1] at h
      by_cases g : s.data.toList.all mayB = true
      · exact g
      · rw [if_neg g] at h; exact absurd h (by decide)
    have hS : strings_Split.f s ⟨#[10]⟩ = some ((pcs nlB [] s.data.toList).map toB) := by
      unfold strings_Split.f
      rw [if_pos ⟨by omega, by decide⟩, split_pcs]
      rfl
    rw [hS]
    refine Ev.some ?_
    obtain ⟨hp, hq⟩ := pcs_len nlB s.data.toList []
    have := llines_loop s.data.toList (fun b hb => List.all_eq_true.1 h2 b hb) (pcs nlB [] s.data.toList) (by omega) (fun x hx => ⟨by have := hq x hx; simp at this; omega, by rw [split_one]; exact hx⟩) _ 0 [] (by rw [Nat.zero_add]) (by simp)
    rw [List.drop_zero] at this
    exact this
  · rw [if_neg h]
    exact Ev.ite_neg h (Ev.now _)
theorem strings_loop (l : List ByteArray) (hl : l.length ≤ 8796093022208) : ∀ (m i : Nat), i + m = l.length → Ev (fun k => dragomanref14_Strings.l0 k l l (l.length : Int) (i : Int)) true := by
  intro m
  induction m with
  | zero =>
    intro i hi
    refine Ev.step (by intro k; rw [dragomanref14_Strings.l0]) ?_
    exact Ev.ite_neg (by omega) (Ev.now _)
  | succ m ih =>
    intro i hi
    refine Ev.step (by intro k; rw [dragomanref14_Strings.l0]) ?_
    refine Ev.ite_pos (by omega) (Ev.ite_pos (by omega) (Ev.ite_pos (by omega) (Ev.ite_pos (by omega) (Ev.ite_pos rfl ?_))))
    rw [w64s i (by omega)]
    exact ih (i + 1) (by omega)
theorem strings_ev (l : List ByteArray) (hl : l.length ≤ 8796093022208) : Ev (fun k => dragomanref14_Strings.f k l l) true := by
  refine Ev.congr (fun k => by rw [dragomanref14_Strings.f]) ?_
  exact Ev.ite_pos rfl (strings_loop l hl l.length 0 (by omega))
end Go.Proofs.YtdnneofebehpaaaDoor.L
