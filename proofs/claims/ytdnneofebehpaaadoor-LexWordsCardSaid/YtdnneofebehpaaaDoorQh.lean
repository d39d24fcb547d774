/- Lines, plainly: what the program's and the reference's functions on lines answer. -/
import Derived.Test.YtdnneofebehpaaaDoorLx12
import Derived.Test.YtdnneofebehpaaaDoorEv
import Derived.Test.YtdnneofebehpaaaDoorPlLn
import Derived.Lib.EndianBits
import Derived.Laws.BitsAllLaws
import Derived.Test.YtdnneofebehpaaaDoorLx10
import Derived.Test.YtdnneofebehpaaaDoorLx13
import Derived.Test.YtdnneofebehpaaaDoorLx22
namespace Go.Proofs.YtdnneofebehpaaaDoor.L
open Go.RowKit Go.Proofs.YtdnneofebehpaaaDoorW.PrintWords Go.Proofs.YtdnneofebehpaaaDoorW.PrintLast Go.Proofs.YtdnneofebehpaaaDoorW.PrintMore Go.Proofs.YtdnneofebehpaaaDoor.LexPlain
def toB (l : List UInt8) : ByteArray := ⟨l.toArray⟩
theorem toB_list (l : List UInt8) : (toB l).data.toList = l := by simp [toB]
theorem toB_of (s : ByteArray) : toB s.data.toList = s := by
  obtain ⟨⟨l⟩⟩ := s
  rfl
theorem toB_size (l : List UInt8) : (toB l).size = l.length := by rw [Lib.size_eq, toB_list]
theorem toB_tl (l : List UInt8) : (toB l).toList = l := by rw [Lib.toList_data, toB_list]
theorem toB_append (l r : List UInt8) : toB l ++ toB r = toB (l ++ r) := by
  have : (toB l ++ toB r).data.toList = (toB (l ++ r)).data.toList := by
    rw [ByteArray.data_append, Array.toList_append, toB_list, toB_list, toB_list]
  have h := congrArg toB this
  rwa [toB_of, toB_of] at h
theorem bt_list (s : ByteArray) (j : Nat) (h : j < s.data.toList.length) : bt s (j : Int) = ((s.data.toList[j]).toNat : Int) := by
  have h' : (j : Int).toNat < s.size := by rw [Lib.size_eq]; omega
  rw [← bt_at s (j : Int) h']
  rfl
theorem rdB (xs : List ByteArray) (j : Nat) (h : j < xs.length) : rdOf ByteArray.empty xs (j : Int) = xs[j] := by
  simp [rdOf, List.getD_eq_getElem?_getD, List.getElem?_eq_getElem h]
theorem mayB_iff (b : UInt8) : mayB b = true ↔ (32 ≤ b.toNat ∧ b.toNat ≤ 126) ∨ b.toNat = 9 ∨ b.toNat = 10 := by
  unfold mayB
  have e9 : (b == 9) = decide (b.toNat = 9) := by
    rw [Bool.eq_iff_iff, beq_iff_eq, decide_eq_true_iff]
    exact ⟨fun q => by rw [q]; rfl, fun q => UInt8.toNat_inj.1 q⟩
  have e10 : (b == 10) = decide (b.toNat = 10) := by
    rw [Bool.eq_iff_iff, beq_iff_eq, decide_eq_true_iff]
    exact ⟨fun q => by rw [q]; rfl, fun q => UInt8.toNat_inj.1 q⟩
  rw [e9, e10]
  simp [or_assoc]
def askV (s : ByteArray) : Int := if 65536 < s.size then 6 else if s.data.toList.all mayB then 0 else 4
theorem ask_loop (s : ByteArray) (hs : s.size ≤ 65536) : ∀ (m j : Nat), j + m = s.size → Ev (fun k => lex_ask.l0 k s (s.size : Int) (j : Int)) (if (s.data.toList.drop j).all mayB then 0 else 4) := by
  intro m
  have hsz := Lib.size_eq s
  induction m with
  | zero =>
    intro j hj
    refine Ev.step (by intro k; rw [lex_ask.l0]) ?_
    refine Ev.ite_neg (by omega) ?_
    rw [List.drop_of_length_le (by omega)]
    exact Ev.now _
  | succ m ih =>
    intro j hj
    have hlt : j < s.data.toList.length := by omega
    refine Ev.step (by intro k; rw [lex_ask.l0]) ?_
    refine Ev.ite_pos (by omega) (Ev.ite_pos (by omega) (Ev.ite_pos (by omega) ?_))
    rw [bt_list s j hlt, w64s j (by omega), dropc _ j hlt, List.all_cons]
    have next := ih (j + 1) (by omega)
    generalize s.data.toList[j] = b
    have hm := mayB_iff b
    by_cases h : mayB b = true
    · have h' := hm.1 h
      rw [h, Bool.true_and]
      by_cases c1 : (b.toNat : Int) < 32
      · refine Ev.ite_pos c1 ?_
        by_cases c2 : (b.toNat : Int) = 9
        · exact Ev.ite_pos c2 next
        · exact Ev.ite_neg c2 (Ev.ite_pos (by omega) next)
      · exact Ev.ite_neg c1 (Ev.ite_neg (by omega) next)
    · have h' : ¬ ((32 ≤ b.toNat ∧ b.toNat ≤ 126) ∨ b.toNat = 9 ∨ b.toNat = 10) := fun q => h (hm.2 q)
      rw [Bool.eq_false_iff.2 h, Bool.false_and, if_neg (by decide)]
      by_cases c1 : (b.toNat : Int) < 32
      · exact Ev.ite_pos c1 (Ev.ite_neg (by omega) (Ev.ite_neg (by omega) (Ev.now _)))
      · exact Ev.ite_neg c1 (Ev.ite_pos (by omega) (Ev.ite_neg (by omega) (Ev.ite_neg (by omega) (Ev.now _))))
theorem ask_ev (s : ByteArray) : Ev (fun k => lex_ask.f k s) (askV s) := by
  refine Ev.congr (fun k => by rw [lex_ask.f]) ?_
  unfold askV
  by_cases h : 65536 < s.size
  · rw [if_pos h]
    exact Ev.ite_pos (by omega) (Ev.now _)
  · rw [if_neg h]
    refine Ev.ite_neg (by omega) ?_
    have := ask_loop s (by omega) s.size 0 (by omega)
    rw [List.drop_zero] at this
    exact this
def byB (y : List UInt8) (b : UInt8) : Bool := y.any (fun c => b == c)
theorem beq_nat (b c : UInt8) : ((b.toNat : Int) == (c.toNat : Int)) = (b == c) := by
  rw [Bool.eq_iff_iff, beq_iff_eq, beq_iff_eq]
  exact ⟨fun q => UInt8.toNat_inj.1 (by omega), fun q => by rw [q]⟩
theorem set_last {α : Type} (acc : List α) (x y : α) : (acc ++ [x]).set acc.length y = acc ++ [y] := by
  rw [List.set_append_right _ _ (Nat.le_refl _), Nat.sub_self]
  rfl
theorem extract_one (s : ByteArray) (i : Nat) (h : i < s.data.toList.length) : s.extract i (i + 1) = toB [s.data.toList[i]] := by
  rw [Lib.extract_eq]
  unfold toB
  congr 2
  rw [dropc _ i h, show i + 1 - i = 1 by omega]
  rfl
theorem pieces_in (s y : ByteArray) (hy : y.size ≤ 65536) (x5 : List ByteArray) (i : Nat) (hi : i < s.data.toList.length) (r : List ByteArray)
    (cont : Nat → Bool → Option (List ByteArray)) (hc : ∀ k c, cont k c = (if c = true then (if x5.length < 8796093022208 then (dragomanref14_pieces.l0 k s y (x5 ++ [(⟨#[]⟩ : ByteArray)]) (wrap64 ((i : Int) + 1))) else (none)) else (if 0 ≤ (wrap64 ((x5.length : Int) - 1)) then (if (wrap64 ((x5.length : Int) - 1)) < (x5.length : Int) then (if 0 ≤ (i : Int) then (if (i : Int) ≤ (wrap64 ((i : Int) + 1)) then (if (wrap64 ((i : Int) + 1)) ≤ (s.size : Int) then (if (rdOf ByteArray.empty x5 (wrap64 ((x5.length : Int) - 1))).size + (s.extract ((i : Int) : Int).toNat ((wrap64 ((i : Int) + 1)) : Int).toNat).size ≤ 9223372036854775807 then (dragomanref14_pieces.l0 k s y (x5.set ((wrap64 ((x5.length : Int) - 1)) : Int).toNat ((rdOf ByteArray.empty x5 (wrap64 ((x5.length : Int) - 1))) ++ (s.extract ((i : Int) : Int).toNat ((wrap64 ((i : Int) + 1)) : Int).toNat))) (wrap64 ((i : Int) + 1))) else (none)) else (none)) else (none)) else (none)) else (none)) else (none))))
    (hr : Ev (fun k => cont k (byB y.data.toList s.data.toList[i])) r) : ∀ (m j : Nat) (c : Bool), j + m = y.size → (c || byB (y.data.toList.drop j) s.data.toList[i]) = byB y.data.toList s.data.toList[i] → Ev (fun k => dragomanref14_pieces.l1 k s y x5 (i : Int) c (j : Int)) r := by
  intro m
  have hsz := Lib.size_eq y
  have hss := Lib.size_eq s
  induction m with
  | zero =>
    intro j c hj hb
    refine Ev.step (by intro k; rw [dragomanref14_pieces.l1]) ?_
    refine Ev.ite_neg (by omega) ?_
    rw [List.drop_of_length_le (by omega)] at hb
    have e : c = byB y.data.toList s.data.toList[i] := by simpa [byB] using hb
    rw [e]
    refine Ev.congr (fun k => ?_) hr
    rw [hc]
  | succ m ih =>
    intro j c hj hb
    have hlt : j < y.data.toList.length := by omega
    refine Ev.step (by intro k; rw [dragomanref14_pieces.l1]) ?_
    refine Ev.ite_pos (by omega) ?_
    rw [dropc _ j hlt] at hb
    rw [w64s j (by omega)]
    cases c with
    | true =>
      exact Ev.ite_pos rfl (ih (j + 1) true (by omega) (by simpa using hb))
    | false =>
      refine Ev.ite_neg (by decide) (Ev.ite_pos (by omega) (Ev.ite_pos (by omega) (Ev.ite_pos (by omega) ?_)))
      rw [bt_list s i hi, bt_list y j hlt, beq_nat]
      refine ih (j + 1) _ (by omega) ?_
      rw [← hb]
      simp [byB]
theorem pieces_loop (s y : ByteArray) (hs : s.size ≤ 65536) (hy : y.size ≤ 65536) : ∀ (m i : Nat) (acc : List ByteArray) (cur : List UInt8), i + m = s.size → acc.length ≤ i → cur.length ≤ i →
    Ev (fun k => dragomanref14_pieces.l0 k s y (acc ++ [toB cur]) (i : Int)) (acc ++ (pcs (byB y.data.toList) cur (s.data.toList.drop i)).map toB) := by
  intro m
  have hsz := Lib.size_eq s
  induction m with
  | zero =>
    intro i acc cur hi ha hc
    refine Ev.step (by intro k; rw [dragomanref14_pieces.l0]) ?_
    refine Ev.ite_neg (by omega) ?_
    rw [List.drop_of_length_le (by omega), pcs]
    exact Ev.now _
  | succ m ih =>
    intro i acc cur hi ha hc
    have hlt : i < s.data.toList.length := by omega
    refine Ev.step (by intro k; rw [dragomanref14_pieces.l0]) ?_
    refine Ev.ite_pos (by omega) ?_
    refine pieces_in s y hy (acc ++ [toB cur]) i hlt _ _ (fun k c => rfl) ?_ y.size 0 false (by omega) (by simp)
    rw [dropc _ i hlt, pcs, w64s i (by omega)]
    have hl : ((acc ++ [toB cur]).length : Int) - 1 = (acc.length : Int) := by simp
    rw [hl, w64 (by omega) (by omega)]
    by_cases h : byB y.data.toList s.data.toList[i] = true
    · rw [if_pos h]
      refine Ev.ite_pos h (Ev.ite_pos (by simp; omega) ?_)
      have := ih (i + 1) (acc ++ [toB cur]) [] (by omega) (by simp; omega) (by simp)
      have e0 : (⟨#[]⟩ : ByteArray) = toB [] := rfl
      rw [List.map_cons, e0]
      have e1 : acc ++ [toB cur] ++ List.map toB (pcs (byB y.data.toList) [] (List.drop (i + 1) s.data.toList)) = acc ++ toB cur :: List.map toB (pcs (byB y.data.toList) [] (List.drop (i + 1) s.data.toList)) := by simp
      rw [← e1]
      exact this
    · rw [if_neg h]
      have el : rdOf ByteArray.empty (acc ++ [toB cur]) (acc.length : Int) = toB cur := by
        rw [rdB _ acc.length (by simp)]
        simp
      refine Ev.ite_neg h (Ev.ite_pos (by omega) (Ev.ite_pos (by simp; omega) (Ev.ite_pos (by omega) (Ev.ite_pos (by omega) (Ev.ite_pos (by omega) ?_)))))
      rw [el, Int.toNat_natCast, Int.toNat_natCast, Int.toNat_natCast, extract_one s i hlt, toB_append, set_last]
      refine Ev.ite_pos (by rw [toB_size, toB_size]; simp; omega) ?_
      exact ih (i + 1) acc (cur ++ [s.data.toList[i]]) (by omega) (by omega) (by simp; omega)
theorem pieces_ev (s y : ByteArray) (hs : s.size ≤ 65536) (hy : y.size ≤ 65536) : Ev (fun k => dragomanref14_pieces.f k s y) ((pcs (byB y.data.toList) [] s.data.toList).map toB) := by
  refine Ev.congr (fun k => by rw [dragomanref14_pieces.f]) ?_
  have := pieces_loop s y hs hy s.size 0 [] [] (by omega) (by simp) (by simp)
  rw [List.drop_zero] at this
  exact this
theorem pcs_len (p : UInt8 → Bool) : ∀ (s cur : List UInt8), (pcs p cur s).length ≤ s.length + 1 ∧ ∀ x ∈ pcs p cur s, x.length ≤ cur.length + s.length
  | [], cur => by simp [pcs]
  | b :: s, cur => by
    rw [pcs]
    split
    · obtain ⟨h1, h2⟩ := pcs_len p s []
      refine ⟨by simp only [List.length_cons]; omega, fun x hx => ?_⟩
      rcases List.mem_cons.1 hx with rfl | hx
      · omega
      · have := h2 x hx
        simp only [List.length_cons, List.length_nil] at this ⊢
        omega
    · obtain ⟨h1, h2⟩ := pcs_len p s (cur ++ [b])
      refine ⟨by simp only [List.length_cons]; omega, fun x hx => ?_⟩
      have := h2 x hx
      simp only [List.length_append, List.length_cons, List.length_nil] at this ⊢
      omega
theorem words_ne {s w : List UInt8} (h : w ∈ wordsL s) : w ≠ [] := by
  unfold wordsL at h
  have := (List.mem_filter.1 h).2
  intro q
  rw [q] at this
  simp at this
def linesB (s : List UInt8) : List (List ByteArray) := (linesL s).map (·.map toB)
theorem kept_cons (w : List UInt8) (ws : List (List UInt8)) (h : w ≠ []) : ∃ b, ∃ (hb : 0 < w.length), w[0] = b ∧ keptW (w :: ws) = !(b == 33) := by
  cases w with
  | nil => exact absurd rfl h
  | cons b w =>
    refine ⟨b, by simp, rfl, ?_⟩
    simp [keptW]
theorem line_step (x : List UInt8) (f : Nat → List (List ByteArray) → Option (List (List ByteArray) × Int)) (acc : List (List ByteArray)) (r : List (List ByteArray) × Int) (ha : acc.length ≤ 70000)
    (h1 : keptW (wordsL x) = false → Ev (fun k => f k acc) r) (h2 : keptW (wordsL x) = true → Ev (fun k => f k (acc ++ [(wordsL x).map toB])) r) :
    Ev (fun k => if (((wordsL x).map toB).length : Int) > 0 then (if 0 < (((wordsL x).map toB).length : Int) then (if 0 < ((rdOf ByteArray.empty ((wordsL x).map toB) 0).size : Int) then (if (bt (rdOf ByteArray.empty ((wordsL x).map toB) 0) 0) = 33 then f k acc else (if acc.length < 5864062014805 then f k (acc ++ [(wordsL x).map toB]) else (none))) else (none)) else (none)) else f k acc) r := by
  cases hw : wordsL x with
  | nil =>
    rw [hw] at h1 h2
    exact Ev.ite_neg (by simp) (h1 rfl)
  | cons w ws =>
    rw [hw] at h1 h2
    have hne : w ≠ [] := words_ne (s := x) (by rw [hw]; simp)
    obtain ⟨b, hb, hwb, hk⟩ := kept_cons w ws hne
    have e0 : rdOf ByteArray.empty ((w :: ws).map toB) 0 = toB w := rfl
    have e1 : bt (toB w) 0 = (b.toNat : Int) := by
      have := bt_list (toB w) 0 (by rw [toB_list]; exact hb)
      rw [show ((0 : Nat) : Int) = 0 from rfl] at this
      rw [this]
      simp only [toB_list, hwb]
    refine Ev.ite_pos (by simp) (Ev.ite_pos (by simp) (Ev.ite_pos (by rw [e0, toB_size]; omega) ?_))
    rw [e0, e1]
    by_cases h33 : b = 33
    · subst h33
      exact Ev.ite_pos rfl (h1 (by rw [hk]; rfl))
    · refine Ev.ite_neg (fun q => h33 (UInt8.toNat_inj.1 (by have : (33 : UInt8).toNat = 33 := rfl; omega))) (Ev.ite_pos (by omega) (h2 ?_))
      rw [hk]
      simp [h33]
def linesV (s : ByteArray) : List (List ByteArray) × Int := if askV s = 0 then (linesB s.data.toList, 0) else ([], askV s)
theorem split_pcs (s : ByteArray) (c : UInt8) : Lib.splitB ⟨#[c]⟩ 0 (Lib.countB s ⟨#[c]⟩) s = (pcs (fun b => b == c) [] s.data.toList).map toB := by
  have h := Lib.splitB_data ⟨#[c]⟩ 0 (Lib.countB s ⟨#[c]⟩) s
  have h2 : ∀ l : List ByteArray, l = (l.map (·.data.toList)).map toB := by
    intro l
    rw [List.map_map]
    induction l with
    | nil => rfl
    | cons a l ih => rw [List.map_cons, ← ih]; simp only [Function.comp, toB_of]
  rw [h2 (Lib.splitB ⟨#[c]⟩ 0 (Lib.countB s ⟨#[c]⟩) s), h]
  congr 1
  rw [← split_one]
  rfl
theorem llines_loop (s : List UInt8) (hs : ∀ b ∈ s, mayB b = true) (l : List (List UInt8)) (hl : l.length ≤ 65537) (hx : ∀ x ∈ l, x.length ≤ 65536 ∧ x ∈ Lib.split s [10]) : ∀ (m i : Nat) (acc : List (List ByteArray)), i + m = l.length → acc.length ≤ i →
    Ev (fun k => lex_Lines.l0 k acc (l.map toB) ((l.map toB).length : Int) (i : Int)) (acc ++ (((l.drop i).map wordsL).filter keptW).map (·.map toB), 0) := by
  intro m
  induction m with
  | zero =>
    intro i acc hi ha
    refine Ev.step (by intro k; rw [lex_Lines.l0]) ?_
    refine Ev.ite_neg (by rw [List.length_map]; omega) ?_
    rw [List.drop_of_length_le (by omega)]
    simp only [List.filter_nil, List.map_nil, List.append_nil]
    exact Ev.now _
  | succ m ih =>
    intro i acc hi ha
    have hlt : i < l.length := by omega
    obtain ⟨hlen, hmem⟩ := hx _ (List.getElem_mem hlt)
    refine Ev.step (by intro k; rw [lex_Lines.l0]) ?_
    refine Ev.ite_pos (by rw [List.length_map]; omega) (Ev.ite_pos (by omega) (Ev.ite_pos (by rw [List.length_map]; omega) ?_))
    rw [rdB _ i (by rw [List.length_map]; exact hlt), List.getElem_map, w64s i (by omega), dropc _ i hlt]
    have hF : strings_Fields.f (toB l[i]) = some ((wordsL l[i]).map toB) := by
      unfold strings_Fields.f
      have ha : asciiB (toB l[i]) = true := by
        unfold asciiB
        rw [toB_list, List.all_eq_true]
        intro b hb
        rw [split_one] at hmem
        rcases pcs_mem _ s [] _ hmem b hb with h | ⟨h1, _⟩
        · simp at h
        · have := (mayB_iff b).1 (hs b h1)
          exact decide_eq_true (by omega)
      rw [if_pos ⟨by rw [toB_size]; omega, ha⟩, toB_list, words_line hs hmem]
      rfl
    rw [hF]
    refine Ev.some ?_
    rw [List.map_cons, List.filter_cons]
    refine line_step l[i] (fun k a => lex_Lines.l0 k a (l.map toB) ((l.map toB).length : Int) ((i + 1 : Nat) : Int)) acc _ (by omega) (fun h => ?_) (fun h => ?_)
    · rw [h, if_neg (by decide)]
      exact ih (i + 1) acc (by omega) (by omega)
    · rw [h, if_pos rfl]
      have := ih (i + 1) (acc ++ [(wordsL l[i]).map toB]) (by omega) (by simp; omega)
      rw [List.append_assoc] at this
      exact this
theorem llines_ev (s : ByteArray) : Ev (fun k => lex_Lines.f k s) (linesV s) := by
  refine Ev.congr (fun k => by rw [lex_Lines.f]) ?_
  have hsz := Lib.size_eq s
  refine Ev.bind1 _ (ask_ev s) ?_
  unfold linesV
  by_cases h : askV s = 0
  · rw [if_pos h]
    refine Ev.ite_pos h ?_
    have h1 : ¬ 65536 < s.size := by intro q; unfold askV at h; rw [if_pos q] at h; exact absurd h (by decide)
    have h2 : s.data.toList.all mayB = true := by
      unfold askV at h
      rw [if_neg h1] at h
      by_cases g : s.data.toList.all mayB = true
      · exact g
      · rw [if_neg g] at h; exact absurd h (by decide)
    have hS : strings_Split.f s ⟨#[10]⟩ = some ((pcs nlB [] s.data.toList).map toB) := by
      unfold strings_Split.f
      rw [if_pos ⟨by omega, by decide⟩, split_pcs]
      rfl
    rw [hS]
    refine Ev.some ?_
    obtain ⟨hp, hq⟩ := pcs_len nlB s.data.toList []
    have := llines_loop s.data.toList (fun b hb => List.all_eq_true.1 h2 b hb) (pcs nlB [] s.data.toList) (by omega) (fun x hx => ⟨by have := hq x hx; simp at this; omega, by rw [split_one]; exact hx⟩) _ 0 [] (by rw [Nat.zero_add]) (by simp)
    rw [List.drop_zero] at this
    exact this
  · rw [if_neg h]
    exact Ev.ite_neg h (Ev.now _)
theorem strings_loop (l : List ByteArray) (hl : l.length ≤ 8796093022208) : ∀ (m i : Nat), i + m = l.length → Ev (fun k => dragomanref14_Strings.l0 k l l (l.length : Int) (i : Int)) true := by
  intro m
  induction m with
  | zero =>
    intro i hi
    refine Ev.step (by intro k; rw [dragomanref14_Strings.l0]) ?_
    exact Ev.ite_neg (by omega) (Ev.now _)
  | succ m ih =>
    intro i hi
    refine Ev.step (by intro k; rw [dragomanref14_Strings.l0]) ?_
    refine Ev.ite_pos (by omega) (Ev.ite_pos (by omega) (Ev.ite_pos (by omega) (Ev.ite_pos (by omega) (Ev.ite_pos rfl ?_))))
    rw [w64s i (by omega)]
    exact ih (i + 1) (by omega)
theorem strings_ev (l : List ByteArray) (hl : l.length ≤ 8796093022208) : Ev (fun k => dragomanref14_Strings.f k l l) true := by
  refine Ev.congr (fun k => by rw [dragomanref14_Strings.f]) ?_
  exact Ev.ite_pos rfl (strings_loop l hl l.length 0 (by omega))
end Go.Proofs.YtdnneofebehpaaaDoor.L
/- Numbers, plainly: what the program's function on a number answers; the reference's answers so, too. -/
namespace Go.Proofs.YtdnneofebehpaaaDoor.L
open Go.RowKit Go.Proofs.YtdnneofebehpaaaDoorW.PrintWords Go.Proofs.YtdnneofebehpaaaDoorW.PrintLast Go.Proofs.YtdnneofebehpaaaDoorW.PrintMore Go.Proofs.YtdnneofebehpaaaDoor.LexPlain
def digB (c : UInt8) : Bool := decide (48 ≤ c.toNat) && decide (c.toNat ≤ 57)
def digD (l : List UInt8) : Bool := l.all digB
def valD (acc : Nat) (l : List UInt8) : Nat := l.foldl (fun a c => a * 10 + (c.toNat - 48)) acc
theorem valD_nil (acc : Nat) : valD acc [] = acc := rfl
theorem valD_cons (acc : Nat) (c : UInt8) (r : List UInt8) : valD acc (c :: r) = valD (acc * 10 + (c.toNat - 48)) r := by
  unfold valD
  rw [List.foldl_cons]
theorem digB_iff (c : UInt8) : digB c = true ↔ 48 ≤ c.toNat ∧ c.toNat ≤ 57 := by simp [digB]
theorem vals_ge : ∀ (l : List UInt8) (acc : Nat), acc ≤ valD acc l
  | [], _ => Nat.le_refl _
  | c :: r, acc => by
    have := vals_ge r (acc * 10 + (c.toNat - 48))
    rw [valD_cons]
    omega
theorem vals_snoc : ∀ (l : List UInt8) (acc : Nat) (c : UInt8), valD acc (l ++ [c]) = valD acc l * 10 + (c.toNat - 48)
  | [], _, _ => rfl
  | d :: r, acc, c => by
    rw [List.cons_append, valD_cons, vals_snoc r _ c, valD_cons]
theorem parse_ok {M : Nat} (hM : M < 1844674407370955162) : ∀ (l : List UInt8) (acc : Nat), acc ≤ M → (digD l = true ∧ valD acc l ≤ M → Lib.parseUintM M acc l = .ok (valD acc l)) ∧ (¬ (digD l = true ∧ valD acc l ≤ M) → ∀ u, Lib.parseUintM M acc l ≠ .ok u)
  | [], acc, ha => ⟨fun _ => rfl, fun h => absurd ⟨rfl, ha⟩ h⟩
  | c :: r, acc, ha => by
    rw [Lib.parseUintM, valD_cons]
    unfold digD
    rw [List.all_cons, Bool.and_eq_true, digB_iff]
    by_cases hc : 48 ≤ c.toNat ∧ c.toNat ≤ 57
    · rw [if_pos hc, if_neg (by omega)]
      by_cases hr : M < acc * 10 + (c.toNat - 48)
      · rw [if_pos hr]
        have := vals_ge r (acc * 10 + (c.toNat - 48))
        refine ⟨fun h => by omega, fun _ u h => by cases h⟩
      · rw [if_neg hr]
        obtain ⟨h1, h2⟩ := parse_ok hM r (acc * 10 + (c.toNat - 48)) (by omega)
        exact ⟨fun h => h1 ⟨h.1.2, h.2⟩, fun h => h2 (fun g => h ⟨⟨hc, g.1⟩, g.2⟩)⟩
    · rw [if_neg hc]
      exact ⟨fun h => absurd h.1.1 hc, fun _ u h => by cases h⟩
theorem dec_big {u : Nat} (h : ¬ u < 10) : Lib.decDigits u = Lib.decDigits (u / 10) ++ [UInt8.ofNat (48 + u % 10)] := by
  rw [Lib.decDigits, dif_neg h]
theorem dec_of {l : List UInt8} : ∀ (n : Nat), l.length = n → l ≠ [] → digD l = true → (l.head? ≠ some 48 ∨ l = [48]) → Lib.decDigits (valD 0 l) = l := by
  intro n
  induction n using Nat.strongRecOn generalizing l with
  | _ n ih =>
    intro hl hne hd hz
    obtain ⟨r, c, rfl⟩ : ∃ r c, l = r ++ [c] := ⟨l.dropLast, l.getLast hne, (List.dropLast_concat_getLast hne).symm⟩
    rw [vals_snoc]
    unfold digD at hd
    rw [List.all_append, Bool.and_eq_true] at hd
    obtain ⟨hd1, hd2⟩ := hd
    have hc : 48 ≤ c.toNat ∧ c.toNat ≤ 57 := by
      rw [List.all_cons, Bool.and_eq_true, digB_iff] at hd2
      exact hd2.1
    have ec : UInt8.ofNat (48 + (c.toNat - 48)) = c := by
      apply UInt8.toNat_inj.1
      have := c.toNat_lt
      rw [UInt8.toNat_ofNat', Nat.mod_eq_of_lt (by omega)]
      omega
    cases r with
    | nil =>
      rw [show valD 0 [] = 0 from rfl, Nat.zero_mul, Nat.zero_add, Lib.decDigits_one (by omega), ec]
      rfl
    | cons a r =>
      have ha : a ≠ 48 := by
        rcases hz with hz | hz
        · intro q; subst q; exact hz rfl
        · simp at hz
      have ha2 : 48 ≤ a.toNat ∧ a.toNat ≤ 57 := by
        rw [List.all_cons, Bool.and_eq_true, digB_iff] at hd1
        exact hd1.1
      have hv : 1 ≤ valD 0 (a :: r) := by
        rw [valD_cons]
        have := vals_ge r (0 * 10 + (a.toNat - 48))
        have : a.toNat ≠ 48 := fun q => ha (UInt8.toNat_inj.1 q)
        omega
      rw [dec_big (by omega)]
      have e1 : (valD 0 (a :: r) * 10 + (c.toNat - 48)) / 10 = valD 0 (a :: r) := by omega
      have e2 : (valD 0 (a :: r) * 10 + (c.toNat - 48)) % 10 = c.toNat - 48 := by omega
      rw [e1, e2, ec, ih (a :: r).length (by simp only [List.length_append, List.length_cons, List.length_nil] at hl ⊢; omega) rfl (by simp) hd1 (Or.inl (by simp [ha]))]
theorem dec_head : ∀ (n u : Nat), u ≤ n → 1 ≤ u → ∃ a r, Lib.decDigits u = a :: r ∧ a ≠ 48 := by
  intro n
  induction n with
  | zero => intro u h h1; omega
  | succ n ih =>
    intro u h h1
    by_cases hs : u < 10
    · refine ⟨_, [], Lib.decDigits_one hs, fun q => ?_⟩
      have := congrArg UInt8.toNat q
      rw [UInt8.toNat_ofNat', Nat.mod_eq_of_lt (by omega)] at this
      have e : (48 : UInt8).toNat = 48 := rfl
      omega
    · obtain ⟨a, r, h2, h3⟩ := ih (u / 10) (by omega) (by omega)
      rw [dec_big hs, h2]
      exact ⟨a, r ++ [_], rfl, h3⟩
theorem dec_len : ∀ (n u : Nat), u < 10 ^ (n + 1) → (Lib.decDigits u).length ≤ n + 1 ∧ 1 ≤ (Lib.decDigits u).length := by
  intro n
  induction n with
  | zero =>
    intro u h
    rw [Lib.decDigits_one (by simpa using h)]
    simp
  | succ n ih =>
    intro u h
    by_cases hs : u < 10
    · rw [Lib.decDigits_one hs]
      simp
    · rw [dec_big hs]
      have := ih (u / 10) (by rw [Nat.pow_succ] at h; omega)
      simp only [List.length_append, List.length_cons, List.length_nil]
      omega
def numR (l : List UInt8) : Int × Bool := if l.length < 1 ∨ 10 < l.length ∨ (l.head? = some 48 ∧ 1 < l.length) then (0, false) else if digD l = true ∧ valD 0 l ≤ 4294967295 then ((valD 0 l : Int), true) else (0, false)
theorem numS_R (l : List UInt8) : numS l = numR l := by
  unfold numS numR Lib.parseUintB
  cases hl : l with
  | nil => rfl
  | cons a r =>
    rw [if_neg (by simp)]
    rw [← hl]
    have hne : l ≠ [] := by rw [hl]; simp
    obtain ⟨p1, p2⟩ := parse_ok (M := 2 ^ 32 - 1) (by decide) l 0 (by decide)
    by_cases h : digD l = true ∧ valD 0 l ≤ 2 ^ 32 - 1
    · rw [p1 h]
      show (if Lib.decDigits (valD 0 l) = l then ((valD 0 l : Int), true) else (0, false)) = _
      by_cases hz : l.head? = some 48 ∧ 1 < l.length
      · rw [if_pos (Or.inr (Or.inr hz)), if_neg]
        intro q
        by_cases hv : valD 0 l < 10
        · rw [Lib.decDigits_one hv] at q
          have := congrArg List.length q
          simp at this
          omega
        · obtain ⟨b, s, h2, h3⟩ := dec_head _ _ (Nat.le_refl _) (show 1 ≤ valD 0 l by omega)
          rw [q] at h2
          rw [h2] at hz
          exact h3 (by simpa using hz.1)
      · have hlen : 1 ≤ l.length := by rw [hl]; simp
        have hd : Lib.decDigits (valD 0 l) = l := by
          refine dec_of l.length rfl hne h.1 ?_
          by_cases q : l.head? = some 48
          · right
            have h1 : l.length = 1 := by
              have : ¬ 1 < l.length := fun g => hz ⟨q, g⟩
              omega
            obtain ⟨x, rfl⟩ := List.length_eq_one_iff.1 h1
            simp at q
            rw [q]
          · exact Or.inl q
        have h10 : l.length ≤ 10 := by
          have := (dec_len 9 (valD 0 l) (by have := h.2; omega)).1
          rwa [hd] at this
        rw [if_pos hd, if_neg (by rintro (g | g | g); omega; omega; exact hz g), if_pos ⟨h.1, by have := h.2; omega⟩]
    · have hq : ∀ x : Lib.NumEnd Nat, (∀ u, x ≠ .ok u) → (match x with | .ok u => if Lib.decDigits u = l then ((u : Int), true) else (0, false) | _ => ((0 : Int), false)) = (0, false) := by
        intro x hx
        rcases x with u | _ | _
        · exact absurd rfl (hx u)
        · rfl
        · rfl
      have e1 := hq _ (p2 h)
      refine e1.trans ?_
      have h' : ¬ (digD l = true ∧ valD 0 l ≤ 4294967295) := fun g => h ⟨g.1, by have := g.2; omega⟩
      rw [if_neg h']
      split <;> rfl
end Go.Proofs.YtdnneofebehpaaaDoor.L
/- Words, plainly: the program's answers on addresses, prefixes, communities; the document's examples. -/
namespace Go.Proofs.YtdnneofebehpaaaDoor.L
open Go.RowKit Go.Proofs.YtdnneofebehpaaaDoorW.PrintWords Go.Proofs.YtdnneofebehpaaaDoorW.PrintLast Go.Proofs.YtdnneofebehpaaaDoorW.PrintMore Go.Proofs.YtdnneofebehpaaaDoor.LexPlain
theorem numR_bound (l : List UInt8) : 0 ≤ (numR l).1 ∧ (numR l).1 ≤ 4294967295 := by
  unfold numR
  split
  · exact ⟨by decide, by decide⟩
  · split
    · rename_i h
      exact ⟨by show 0 ≤ (valD 0 l : Int); omega, by show (valD 0 l : Int) ≤ 4294967295; have := h.2; omega⟩
    · exact ⟨by decide, by decide⟩
theorem numR_digs {l : List UInt8} (h : (numR l).2 = true) : digD l = true := by
  unfold numR at h
  split at h
  · exact absurd h (by decide)
  · split at h
    · rename_i g
      exact g.1
    · exact absurd h (by decide)
theorem num_some (s : ByteArray) (hs : s.size ≤ 65536) : lex_Num.f s = some (numR s.data.toList) := by
  unfold lex_Num.f
  rw [if_pos (by omega), numS_R]
def smallV (l : List UInt8) (m : Int) : Int × Bool := if (numR l).2 = true then (if (numR l).1 > m then (0, false) else ((numR l).1, true)) else (0, false)
theorem small_some (s : ByteArray) (m : Int) (hs : s.size ≤ 65536) : lex_small.f s m = some (smallV s.data.toList m) := by
  unfold lex_small.f smallV
  rw [num_some s hs, Option.bind_some]
  split
  · split <;> rfl
  · rfl
def addrV : Int → List (List UInt8) → Int × Bool
  | acc, [] => (acc, true)
  | acc, w :: ws => if (smallV w 255).2 = true then addrV ((256 * acc + (smallV w 255).1) % 4294967296) ws else (0, false)
def pc1 (c : UInt8) (l : List UInt8) : List (List UInt8) := pcs (fun b => b == c) [] l
def addrW (l : List UInt8) : Int × Bool := if (pc1 46 l).length = 4 then addrV 0 (pc1 46 l) else (0, false)
theorem smallV_bound (l : List UInt8) (m : Int) : 0 ≤ (smallV l m).1 ∧ (smallV l m).1 ≤ 4294967295 ∧ ((smallV l m).2 = true → (smallV l m).1 ≤ m) := by
  have hb := numR_bound l
  unfold smallV
  split
  · split
    · exact ⟨by decide, by decide, fun h => absurd h (by decide)⟩
    · exact ⟨hb.1, hb.2, fun _ => by show (numR l).1 ≤ m; omega⟩
  · exact ⟨by decide, by decide, fun h => absurd h (by decide)⟩
theorem or8 (x n : Int) (h0 : 0 ≤ n) (h1 : n ≤ 255) : Go.bits .or .u32 ((x * 256) % 4294967296) n = (256 * x + n) % 4294967296 := by
  rw [bits_join .u32 32 (by decide) wraps_u32 8 _ n (by omega) (by omega) (by omega) h0 (by omega) (by omega)]
  omega
theorem or16 (x n : Int) (h0 : 0 ≤ n) (h1 : n ≤ 65535) (hx0 : 0 ≤ x) (hx : x ≤ 65535) : Go.bits .or .u32 ((x * 65536) % 4294967296) n = 65536 * x + n := by
  rw [bits_join .u32 32 (by decide) wraps_u32 16 _ n (by omega) (by omega) (by omega) h0 (by omega) (by omega)]
  omega
theorem byB_one (c : UInt8) : byB [c] = fun b => b == c := by
  funext b
  simp [byB]
theorem addr_loop (l : List (List UInt8)) (hl : l.length ≤ 70000) (hx : ∀ x ∈ l, x.length ≤ 65536) : ∀ (m i : Nat) (acc : Int), i + m = l.length →
    Ev (fun k => lex_Addr.l0 k acc (l.map toB) ((l.map toB).length : Int) (i : Int)) (addrV acc (l.drop i)) := by
  intro m
  induction m with
  | zero =>
    intro i acc hi
    refine Ev.step (by intro k; rw [lex_Addr.l0]) ?_
    refine Ev.ite_neg (by rw [List.length_map]; omega) ?_
    rw [List.drop_of_length_le (by omega), addrV]
    exact Ev.now _
  | succ m ih =>
    intro i acc hi
    have hlt : i < l.length := by omega
    refine Ev.step (by intro k; rw [lex_Addr.l0]) ?_
    refine Ev.ite_pos (by rw [List.length_map]; omega) (Ev.ite_pos (by omega) (Ev.ite_pos (by rw [List.length_map]; omega) ?_))
    rw [rdB _ i (by rw [List.length_map]; exact hlt), List.getElem_map, w64s i (by omega), dropc _ i hlt, small_some _ _ (by rw [toB_size]; exact hx _ (List.getElem_mem hlt)), toB_list, addrV]
    refine Ev.some ?_
    have hb := smallV_bound l[i] 255
    by_cases h : (smallV l[i] 255).2 = true
    · rw [if_pos h]
      refine Ev.ite_pos h ?_
      rw [or8 _ _ hb.1 (hb.2.2 h)]
      exact ih (i + 1) _ (by omega)
    · rw [if_neg h]
      exact Ev.ite_neg h (Ev.now _)
theorem split_some (s : ByteArray) (c : UInt8) (hs : s.size ≤ 65536) : strings_Split.f s ⟨#[c]⟩ = some ((pc1 c s.data.toList).map toB) := by
  unfold strings_Split.f
  rw [if_pos ⟨by omega, by show 1 ≤ [c].toArray.size; simp⟩, split_pcs]
  rfl
theorem addr_ev (s : ByteArray) (hs : s.size ≤ 65536) : Ev (fun k => lex_Addr.f k s) (addrW s.data.toList) := by
  refine Ev.congr (fun k => by rw [lex_Addr.f]) ?_
  rw [split_some s 46 hs]
  refine Ev.some ?_
  have hsz := Lib.size_eq s
  unfold addrW
  obtain ⟨hp, hq⟩ := pcs_len (fun b => b == 46) s.data.toList []
  by_cases h : (pc1 46 s.data.toList).length = 4
  · rw [if_pos h]
    refine Ev.ite_pos (by rw [List.length_map, h]; rfl) ?_
    have := addr_loop (pc1 46 s.data.toList) (by unfold pc1; omega) (fun x hx => by have := hq x hx; simp at this; omega) _ 0 0 (by rw [Nat.zero_add])
    rw [List.drop_zero] at this
    exact this
  · rw [if_neg h]
    exact Ev.ite_neg (by rw [List.length_map]; omega) (Ev.now _)
theorem addrV_bound : ∀ (l : List (List UInt8)) (acc : Int), 0 ≤ acc → acc ≤ 4294967295 → 0 ≤ (addrV acc l).1 ∧ (addrV acc l).1 ≤ 4294967295
  | [], acc, h0, h1 => ⟨h0, h1⟩
  | w :: ws, acc, h0, h1 => by
    rw [addrV]
    split
    · exact addrV_bound ws _ (by omega) (by omega)
    · exact ⟨by decide, by decide⟩
theorem addrW_bound (l : List UInt8) : 0 ≤ (addrW l).1 ∧ (addrW l).1 ≤ 4294967295 := by
  unfold addrW
  split
  · exact addrV_bound _ _ (by decide) (by decide)
  · exact ⟨by decide, by decide⟩
theorem index_one_ne (b c : UInt8) (h : b ≠ c) (l : List UInt8) : Lib.index (b :: l) [c] = if Lib.index l [c] == -1 then -1 else Lib.index l [c] + 1 := by
  rw [Lib.index_one, Lib.index_one, Lib.indexByte, if_neg (by simpa using h)]
theorem cut_pcs (c : UInt8) : ∀ l : List UInt8, (pc1 c l = [l] ∧ Lib.cut l [c] = (l, [], false)) ∨ ∃ x r, pc1 c l = x :: pc1 c r ∧ Lib.cut l [c] = (x, r, true) ∧ l = x ++ c :: r
  | [] => Or.inl ⟨rfl, rfl⟩
  | b :: l => by
    by_cases h : b = c
    · subst h
      refine Or.inr ⟨[], l, ?_, ?_, rfl⟩
      · unfold pc1
        rw [pcs, if_pos (by simp)]
      · have e : Lib.index (b :: l) [b] = 0 := by rw [Lib.index_one, Lib.indexByte, if_pos (by simp)]
        unfold Lib.cut
        rw [e]
        simp
    · have e := index_one_ne b c h l
      have hp : ∀ y ys, pc1 c l = y :: ys → pc1 c (b :: l) = (b :: y) :: ys := by
        intro y ys hy
        unfold pc1 at hy ⊢
        rw [pcs, if_neg (by simpa using h), List.nil_append]
        obtain ⟨x, xs, h1, h2⟩ := pcs_cur (fun b => b == c) l [b]
        rw [h2]
        rw [h1] at hy
        injection hy with q1 q2
        rw [q1, q2]
        rfl
      rcases cut_pcs c l with ⟨h1, h2⟩ | ⟨x, r, h1, h2, h3⟩
      · refine Or.inl ⟨hp _ _ h1, ?_⟩
        have hi : ¬ 0 ≤ Lib.index l [c] := by
          intro q
          unfold Lib.cut at h2
          rw [if_pos q] at h2
          injection h2 with _ h2
          injection h2 with _ h2
          exact absurd h2 (by decide)
        have hge := Lib.index_ge l [c]
        have hz : Lib.index l [c] = -1 := by omega
        have e' : Lib.index (b :: l) [c] = -1 := by rw [e, hz]; rfl
        unfold Lib.cut
        rw [e', if_neg (by decide)]
      · refine Or.inr ⟨b :: x, r, hp _ _ h1, ?_, by rw [h3]; rfl⟩
        have hi : 0 ≤ Lib.index l [c] := by
          apply Classical.byContradiction
          intro q
          unfold Lib.cut at h2
          rw [if_neg q] at h2
          injection h2 with _ h2
          injection h2 with _ h2
          exact absurd h2 (by decide)
        unfold Lib.cut at h2 ⊢
        rw [if_pos hi] at h2
        have g : ¬ (Lib.index l [c] == -1) = true := by simp; omega
        rw [e, if_neg g, if_pos (by omega)]
        have n : (Lib.index l [c] + 1).toNat = (Lib.index l [c]).toNat + 1 := by omega
        injection h2 with h4 h5
        injection h5 with h5 _
        rw [n, ← h4, ← h5, List.take_succ_cons, show (Lib.index l [c]).toNat + 1 + [c].length = (Lib.index l [c]).toNat + [c].length + 1 by omega, List.drop_succ_cons]
theorem cut_some (s : ByteArray) (c : UInt8) (hs : s.size ≤ 65536) : strings_Cut.f s ⟨#[c]⟩ = some (toB (Lib.cut s.data.toList [c]).1, toB (Lib.cut s.data.toList [c]).2.1, (Lib.cut s.data.toList [c]).2.2) := by
  unfold strings_Cut.f
  rw [if_pos (by omega)]
  rfl
theorem cut_len (c : UInt8) (l : List UInt8) : (Lib.cut l [c]).1.length ≤ l.length ∧ (Lib.cut l [c]).2.1.length ≤ l.length := by
  rcases cut_pcs c l with ⟨_, h⟩ | ⟨x, r, _, h, h3⟩
  · rw [h]; simp
  · rw [h, h3]; simp; omega
def pfxV (a n : Int × Bool) : Int × Int × Bool := if a.2 = true ∧ n.2 = true ∧ (a.1 / 2 ^ (32 - n.1).toNat * 2 ^ (32 - n.1).toNat = a.1) then (a.1, n.1, true) else (0, 0, false)
def pfxW (l : List UInt8) : Int × Int × Bool := if (Lib.cut l [47]).2.2 = true then pfxV (addrW (Lib.cut l [47]).1) (smallV (Lib.cut l [47]).2.1 32) else (0, 0, false)
theorem mask_in (a n : Int) (ha : 0 ≤ a) (ha1 : a ≤ 4294967295) (hn : 0 ≤ n) (hn1 : n ≤ 32) : route_Mask.f a n = some (a / 2 ^ (32 - n).toNat * 2 ^ (32 - n).toNat, n) := by
  have hc : mx 0 (mn n 32) = n := by rw [mx_eq, mn_eq]; omega
  have hp : (0 : Int) < 2 ^ (32 - n).toNat := Int.pow_pos (by decide)
  have h1 : 0 ≤ a / 2 ^ (32 - n).toNat * 2 ^ (32 - n).toNat := Int.mul_nonneg (Int.ediv_nonneg ha (Int.le_of_lt hp)) (Int.le_of_lt hp)
  have h2 : a / 2 ^ (32 - n).toNat * 2 ^ (32 - n).toNat ≤ a := Int.ediv_mul_le _ (by omega)
  unfold route_Mask.f
  rw [hc, u64_wrap_id a ha (by omega), u64_wrap_id _ h1 (by omega), Int.emod_eq_of_lt h1 (by omega)]
theorem pfx_ev (s : ByteArray) (hs : s.size ≤ 65536) : Ev (fun k => lex_Prefix.f k s) (pfxW s.data.toList) := by
  refine Ev.congr (fun k => by rw [lex_Prefix.f]) ?_
  have hsz := Lib.size_eq s
  obtain ⟨hl1, hl2⟩ := cut_len 47 s.data.toList
  rw [cut_some s 47 hs]
  refine Ev.some ?_
  refine Ev.bind1 _ (addr_ev _ (by show (toB _).size ≤ _; rw [toB_size]; omega)) ?_
  rw [small_some _ _ (by show (toB _).size ≤ _; rw [toB_size]; omega)]
  refine Ev.some ?_
  show Ev (fun k => if (Lib.cut s.data.toList [47]).2.2 = true then _ else _) _
  rw [toB_list, toB_list]
  unfold pfxW
  generalize hc : Lib.cut s.data.toList [47] = ct
  have hb := addrW_bound ct.1
  have hn := smallV_bound ct.2.1 32
  generalize addrW ct.1 = a at *
  generalize smallV ct.2.1 32 = n at *
  unfold pfxV
  by_cases h1 : ct.2.2 = true
  · refine Ev.ite_pos h1 ?_
    rw [if_pos h1]
    by_cases h2 : a.2 = true
    · refine Ev.ite_pos h2 ?_
      by_cases h3 : n.2 = true
      · refine Ev.ite_pos h3 ?_
        rw [w64 (by omega) (by omega), mask_in a.1 n.1 hb.1 hb.2 hn.1 (hn.2.2 h3)]
        refine Ev.some ?_
        show Ev (fun k => if (!(a.1 == a.1 / 2 ^ (32 - n.1).toNat * 2 ^ (32 - n.1).toNat) || (!(n.1 == n.1))) = true then _ else _) _
        by_cases h4 : a.1 / 2 ^ (32 - n.1).toNat * 2 ^ (32 - n.1).toNat = a.1
        · refine Ev.ite_neg (by rw [h4]; simp) ?_
          rw [if_pos ⟨h2, h3, h4⟩]
          exact Ev.now _
        · refine Ev.ite_pos ?_ ?_
          · have : (a.1 == a.1 / 2 ^ (32 - n.1).toNat * 2 ^ (32 - n.1).toNat) = false := beq_eq_false_iff_ne.mpr (fun q => h4 q.symm)
            rw [this]
            rfl
          · rw [if_neg (fun g => h4 g.2.2)]
            exact Ev.now _
      · refine Ev.ite_neg h3 ?_
        rw [if_neg (fun g => h3 g.2.1)]
        exact Ev.now _
    · refine Ev.ite_neg h2 ?_
      rw [if_neg (fun g => h2 g.1)]
      exact Ev.now _
  · refine Ev.ite_neg h1 ?_
    rw [if_neg h1]
    exact Ev.now _
def halfV (l : List UInt8) : Int × Int × Bool := if l = [42] then (0, 65535, true) else ((smallV l 65535).1, (smallV l 65535).1, (smallV l 65535).2)
theorem half_some (s : ByteArray) (hs : s.size ≤ 65536) : lex_half.f s = some (halfV s.data.toList) := by
  unfold lex_half.f halfV
  rw [Lib.toList_data]
  split
  · rfl
  · rw [small_some s _ hs]
    rfl
theorem halfV_bound (l : List UInt8) : (halfV l).2.2 = true → (0 ≤ (halfV l).1 ∧ (halfV l).1 ≤ 65535) ∧ 0 ≤ (halfV l).2.1 ∧ (halfV l).2.1 ≤ 65535 := by
  have hb := smallV_bound l 65535
  unfold halfV
  split
  · exact fun _ => ⟨⟨by decide, by decide⟩, by decide, by decide⟩
  · exact fun h => ⟨⟨hb.1, hb.2.2 h⟩, hb.1, hb.2.2 h⟩
def commV (a c : Int × Int × Bool) : Int × Int × Bool := if a.2.2 = true ∧ c.2.2 = true then (65536 * a.1 + c.1, 65536 * a.2.1 + c.2.1, true) else (0, 0, false)
def commW (l : List UInt8) : Int × Int × Bool := if (Lib.cut l [58]).2.2 = true then commV (halfV (Lib.cut l [58]).1) (halfV (Lib.cut l [58]).2.1) else (0, 0, false)
theorem comm_some (s : ByteArray) (hs : s.size ≤ 65536) : lex_Comm.f s = some (commW s.data.toList) := by
  have hsz := Lib.size_eq s
  obtain ⟨hl1, hl2⟩ := cut_len 58 s.data.toList
  unfold lex_Comm.f
  rw [cut_some s 58 hs, Option.bind_some, half_some _ (by show (toB _).size ≤ _; rw [toB_size]; omega), Option.bind_some, half_some _ (by show (toB _).size ≤ _; rw [toB_size]; omega), Option.bind_some]
  rw [toB_list, toB_list]
  unfold commW
  generalize Lib.cut s.data.toList [58] = ct
  have ha := halfV_bound ct.1
  have hc := halfV_bound ct.2.1
  generalize halfV ct.1 = a at *
  generalize halfV ct.2.1 = c at *
  unfold commV
  by_cases h1 : ct.2.2 = true
  · rw [if_pos h1, if_pos h1]
    by_cases h2 : a.2.2 = true
    · rw [if_pos h2]
      by_cases h3 : c.2.2 = true
      · obtain ⟨⟨a1, a2⟩, a3, a4⟩ := ha h2
        obtain ⟨⟨b1, b2⟩, b3, b4⟩ := hc h3
        rw [if_pos h3, if_pos ⟨h2, h3⟩, or16 _ _ b1 b2 a1 a2, or16 _ _ b3 b4 a3 a4]
      · rw [if_neg h3, if_neg (fun g => h3 g.2)]
    · rw [if_neg h2, if_neg (fun g => h2 g.1)]
  · rw [if_neg h1, if_neg h1]
def tokV (s : ByteArray) : List S40 × Int := if askV s = 0 then tokAll s else ([], askV s)
theorem tokens_ev (s : ByteArray) : Ev (fun k => lex_Tokens.f k s) (tokV s) := by
  refine Ev.congr (fun k => by rw [lex_Tokens.f]) ?_
  refine Ev.bind1 _ (ask_ev s) ?_
  unfold tokV
  by_cases h : askV s = 0
  · have h1 : ¬ 65536 < s.size := by intro q; unfold askV at h; rw [if_pos q] at h; exact absurd h (by decide)
    have h2 : s.data.toList.all mayB = true := by
      unfold askV at h
      rw [if_neg h1] at h
      by_cases g : s.data.toList.all mayB = true
      · exact g
      · rw [if_neg g] at h; exact absurd h (by decide)
    have h3 : asciiC s = true := by
      unfold asciiC
      rw [List.all_eq_true] at h2 ⊢
      intro b hb
      have := (mayB_iff b).1 (h2 b hb)
      exact decide_eq_true (by omega)
    refine Ev.ite_pos h (Ev.ite_pos ⟨by omega, h3⟩ ?_)
    rw [if_pos h]
    exact Ev.now _
  · refine Ev.ite_neg h ?_
    rw [if_neg h]
    exact Ev.now _
theorem alive_ev : Ev (fun k => dragomanlaw14_alive.f k) true := by
  refine Ev.congr (fun k => by rw [dragomanlaw14_alive.f]) ?_
  refine Ev.bind1 _ (llines_ev _) ?_
  refine Ev.bind1 _ (tokens_ev _) ?_
  refine Ev.bind1 _ (pfx_ev _ (by decide)) ?_
  refine Ev.bind1 _ (pfx_ev _ (by decide)) ?_
  rw [comm_some _ (by decide)]
  refine Ev.some ?_
  have e1 : linesV (⟨#[105, 112, 32, 112, 114, 101, 102, 105, 120, 45, 108, 105, 115, 116, 32, 97, 10, 33, 32, 120, 10, 10, 32, 115, 101, 113, 32, 32, 53]⟩ : ByteArray) = ([[⟨#[105, 112]⟩, ⟨#[112, 114, 101, 102, 105, 120, 45, 108, 105, 115, 116]⟩, ⟨#[97]⟩], [⟨#[115, 101, 113]⟩, ⟨#[53]⟩]], 0) := by kernel_rfl
  have e2 : tokV (⟨#[97, 123, 98, 32, 34, 99, 32, 100, 34, 59, 125, 32, 35, 32, 101]⟩ : ByteArray) = ([⟨119, ⟨#[97]⟩⟩, ⟨123, ⟨#[123]⟩⟩, ⟨119, ⟨#[98]⟩⟩, ⟨113, ⟨#[99, 32, 100]⟩⟩, ⟨59, ⟨#[59]⟩⟩, ⟨125, ⟨#[125]⟩⟩], 0) := by kernel_rfl
  have e3 : pfxW (⟨#[49, 48, 46, 48, 46, 48, 46, 48, 47, 56]⟩ : ByteArray).data.toList = (167772160, 8, true) := by kernel_rfl
  have e4 : pfxW (⟨#[49, 48, 46, 48, 46, 48, 46, 49, 47, 56]⟩ : ByteArray).data.toList = (0, 0, false) := by kernel_rfl
  have e5 : commW (⟨#[54, 53, 48, 48, 48, 58, 42]⟩ : ByteArray).data.toList = (4259840000, 4259905535, true) := by kernel_rfl
  rw [e1, e2, e3, e4, e5]
  refine Ev.ite_pos rfl (Ev.ite_pos rfl (Ev.ite_pos (by decide) ?_))
  refine Ev.bind1 _ (strings_ev [⟨#[115, 101, 113]⟩, ⟨#[53]⟩] (by decide)) ?_
  refine Ev.ite_pos rfl (Ev.ite_pos rfl (Ev.ite_pos rfl (Ev.ite_pos (by decide) (Ev.ite_pos ?_ (Ev.ite_pos rfl (Ev.ite_pos (by decide) (Ev.ite_neg (by decide) (Ev.ite_pos rfl ?_))))))))
  · kernel_rfl
  · exact Ev.now _
end Go.Proofs.YtdnneofebehpaaaDoor.L
/- LexLines, plainly. -/
namespace Go.Proofs.YtdnneofebehpaaaDoor.L
open Go.RowKit Go.Proofs.YtdnneofebehpaaaDoorW.PrintWords Go.Proofs.YtdnneofebehpaaaDoorW.PrintLast Go.Proofs.YtdnneofebehpaaaDoorW.PrintMore Go.Proofs.YtdnneofebehpaaaDoor.LexPlain
end Go.Proofs.YtdnneofebehpaaaDoor.L
/- LexWords, plainly. -/
namespace Go.Proofs.YtdnneofebehpaaaDoor.L
open Go.RowKit Go.Proofs.YtdnneofebehpaaaDoorW.PrintWords Go.Proofs.YtdnneofebehpaaaDoorW.PrintLast Go.Proofs.YtdnneofebehpaaaDoorW.PrintMore Go.Proofs.YtdnneofebehpaaaDoor.LexPlain
theorem rnum_loop (s : ByteArray) (hs : s.size ≤ 10) : ∀ (m j acc : Nat), j + m = s.size → acc < 10 ^ j →
    Ev (fun k => dragomanref14_Num.l0 k s (acc : Int) (j : Int)) (if digD (s.data.toList.drop j) = true ∧ valD acc (s.data.toList.drop j) ≤ 4294967295 then ((valD acc (s.data.toList.drop j) : Int), true) else (0, false)) := by
  have hsz := Lib.size_eq s
  intro m
  induction m with
  | zero =>
    intro j acc hj ha
    refine Ev.step (by intro k; rw [dragomanref14_Num.l0]) ?_
    refine Ev.ite_neg (by omega) ?_
    rw [List.drop_of_length_le (by omega), valD_nil]
    by_cases h : (acc : Int) > 4294967295
    · refine Ev.ite_pos h ?_
      rw [if_neg (fun g => by have := g.2; omega)]
      exact Ev.now _
    · refine Ev.ite_neg h ?_
      rw [if_pos ⟨rfl, by omega⟩, Int.emod_eq_of_lt (by omega) (by omega)]
      exact Ev.now _
  | succ m ih =>
    intro j acc hj ha
    have hlt : j < s.data.toList.length := by omega
    have h10 : 10 ^ j ≤ 10 ^ 9 := Nat.pow_le_pow_right (by decide) (by omega)
    have e9 : 10 ^ 9 = 1000000000 := by decide
    refine Ev.step (by intro k; rw [dragomanref14_Num.l0]) ?_
    refine Ev.ite_pos (by omega) (Ev.ite_pos (by omega) ?_)
    rw [bt_list s j hlt, w64s j (by omega), dropc _ j hlt, valD_cons]
    unfold digD
    rw [List.all_cons]
    have next := ih (j + 1) (acc * 10 + (s.data.toList[j].toNat - 48)) (by omega)
    have hc256 := s.data.toList[j].toNat_lt
    generalize s.data.toList[j] = c at *
    by_cases h : digB c = true
    · have h' := (digB_iff c).1 h
      rw [h, Bool.true_and]
      refine Ev.ite_neg (by omega) (Ev.ite_neg (by omega) ?_)
      have hw : IntKind.u64.wrap ((IntKind.u64.wrap (10 * (acc : Int))) + (((c.toNat : Int) - 48) % 256)) = ((acc * 10 + (c.toNat - 48) : Nat) : Int) := by
        rw [u64_wrap_id (10 * (acc : Int)) (by omega) (by omega), u64_wrap_id _ (by omega) (by omega)]
        omega
      rw [hw]
      exact next (by rw [Nat.pow_succ]; omega)
    · have h' := fun q => h ((digB_iff c).2 q)
      rw [Bool.eq_false_iff.2 h, Bool.false_and, if_neg (fun g => absurd g.1 (by decide))]
      by_cases h1 : (c.toNat : Int) < 48
      · exact Ev.ite_pos h1 (Ev.now _)
      · exact Ev.ite_neg h1 (Ev.ite_pos (by apply Classical.byContradiction; intro q; exact h' ⟨by omega, by omega⟩) (Ev.now _))
theorem rnum_ev (s : ByteArray) : Ev (fun k => dragomanref14_Num.f k s) (numR s.data.toList) := by
  refine Ev.congr (fun k => by rw [dragomanref14_Num.f]) ?_
  have hsz := Lib.size_eq s
  have j0t : Ev (fun k => dragomanref14_Num.j0 k s true) (0, false) := by
    refine Ev.step (by intro k; rw [dragomanref14_Num.j0]) ?_
    exact Ev.ite_pos rfl (Ev.now _)
  unfold numR
  by_cases h1 : s.data.toList.length < 1
  · rw [if_pos (Or.inl h1)]
    exact Ev.ite_pos (by omega) j0t
  refine Ev.ite_neg (by omega) ?_
  by_cases h2 : 10 < s.data.toList.length
  · rw [if_pos (Or.inr (Or.inl h2))]
    exact Ev.ite_pos (by omega) j0t
  refine Ev.ite_neg (by omega) (Ev.ite_pos (by omega) ?_)
  have j0f : Ev (fun k => dragomanref14_Num.j0 k s false) (if digD s.data.toList = true ∧ valD 0 s.data.toList ≤ 4294967295 then ((valD 0 s.data.toList : Int), true) else (0, false)) := by
    refine Ev.step (by intro k; rw [dragomanref14_Num.j0]) ?_
    refine Ev.ite_neg (by decide) ?_
    have := rnum_loop s (by omega) s.size 0 0 (by omega) (by decide)
    rw [List.drop_zero] at this
    exact this
  have hb := bt_list s 0 (by omega)
  rw [show ((0 : Nat) : Int) = 0 from rfl] at hb
  rw [hb]
  have hh : s.data.toList.head? = some (s.data.toList[0]'(by omega)) := by rw [List.head?_eq_getElem?, List.getElem?_eq_getElem (by omega)]
  rw [hh]
  by_cases h48 : s.data.toList[0]'(by omega) = 48
  · refine Ev.ite_pos (by rw [h48]; rfl) ?_
    by_cases h3 : (s.size : Int) > 1
    · rw [decide_eq_true h3, if_pos (Or.inr (Or.inr ⟨by rw [h48], by omega⟩))]
      exact j0t
    · rw [decide_eq_false h3, if_neg (by rintro (g | g | g); omega; omega; have := g.2; omega)]
      exact j0f
  · refine Ev.ite_neg (fun q => h48 (UInt8.toNat_inj.1 (by have : (48 : UInt8).toNat = 48 := rfl; omega))) ?_
    rw [if_neg (by rintro (g | g | g); omega; omega; exact h48 (Option.some.inj g.1))]
    exact j0f
theorem small_iff (l : List UInt8) (m : Int) : ((smallV l m).2 = true ↔ (numR l).2 = true ∧ (numR l).1 ≤ m) ∧ ((smallV l m).2 = true → (smallV l m).1 = (numR l).1) := by
  unfold smallV
  by_cases h : (numR l).2 = true
  · rw [if_pos h]
    by_cases h2 : (numR l).1 > m
    · rw [if_pos h2]
      exact ⟨⟨fun q => absurd q (by decide), fun q => by have := q.2; omega⟩, fun q => absurd q (by decide)⟩
    · rw [if_neg h2]
      exact ⟨⟨fun _ => ⟨h, by omega⟩, fun _ => rfl⟩, fun _ => rfl⟩
  · rw [if_neg h]
    exact ⟨⟨fun q => absurd q (by decide), fun q => absurd q.1 h⟩, fun q => absurd q (by decide)⟩
theorem raddr_loop (l : List (List UInt8)) (hl : l.length ≤ 70000) : ∀ (m i : Nat) (acc : Int), i + m = l.length →
    Ev (fun k => dragomanref14_Addr.l0 k acc (l.map toB) ((l.map toB).length : Int) (i : Int)) (addrV acc (l.drop i)) := by
  intro m
  induction m with
  | zero =>
    intro i acc hi
    refine Ev.step (by intro k; rw [dragomanref14_Addr.l0]) ?_
    refine Ev.ite_neg (by rw [List.length_map]; omega) ?_
    rw [List.drop_of_length_le (by omega), addrV]
    exact Ev.now _
  | succ m ih =>
    intro i acc hi
    have hlt : i < l.length := by omega
    refine Ev.step (by intro k; rw [dragomanref14_Addr.l0]) ?_
    refine Ev.ite_pos (by rw [List.length_map]; omega) (Ev.ite_pos (by omega) (Ev.ite_pos (by rw [List.length_map]; omega) ?_))
    rw [rdB _ i (by rw [List.length_map]; exact hlt), List.getElem_map, w64s i (by omega), dropc _ i hlt, addrV]
    refine Ev.bind1 _ (rnum_ev _) ?_
    rw [toB_list]
    obtain ⟨s1, s2⟩ := small_iff l[i] 255
    by_cases h1 : (numR l[i]).2 = true
    · refine Ev.ite_pos h1 ?_
      by_cases h2 : (numR l[i]).1 > 255
      · refine Ev.ite_pos h2 ?_
        rw [if_neg (fun q => by have := (s1.1 q).2; omega)]
        exact Ev.now _
      · refine Ev.ite_neg h2 ?_
        have h3 := s1.2 ⟨h1, by omega⟩
        rw [if_pos h3, s2 h3]
        exact ih (i + 1) _ (by omega)
    · refine Ev.ite_neg h1 ?_
      rw [if_neg (fun q => h1 (s1.1 q).1)]
      exact Ev.now _
theorem rpieces (s : ByteArray) (c : UInt8) (hs : s.size ≤ 65536) : Ev (fun k => dragomanref14_pieces.f k s ⟨#[c]⟩) ((pc1 c s.data.toList).map toB) := by
  have := pieces_ev s ⟨#[c]⟩ hs (by show [c].toArray.size ≤ _; simp)
  have e : byB (⟨#[c]⟩ : ByteArray).data.toList = fun b => b == c := byB_one c
  rw [e] at this
  exact this
theorem raddr_ev (s : ByteArray) (hs : s.size ≤ 65536) : Ev (fun k => dragomanref14_Addr.f k s) (addrW s.data.toList) := by
  refine Ev.congr (fun k => by rw [dragomanref14_Addr.f]) ?_
  refine Ev.bind1 _ (rpieces s 46 hs) ?_
  have hsz := Lib.size_eq s
  unfold addrW
  obtain ⟨hp, hq⟩ := pcs_len (fun b => b == 46) s.data.toList []
  by_cases h : (pc1 46 s.data.toList).length = 4
  · refine Ev.ite_pos (by rw [List.length_map, h]; rfl) ?_
    rw [if_pos h]
    have := raddr_loop (pc1 46 s.data.toList) (by unfold pc1; omega) _ 0 0 (by rw [Nat.zero_add])
    rw [List.drop_zero] at this
    exact this
  · refine Ev.ite_neg (by rw [List.length_map]; omega) ?_
    rw [if_neg h]
    exact Ev.now _
theorem rmask_loop (c : Nat) (a n : Int) (ha : 0 ≤ a) (ha1 : a ≤ 4294967295) : ∀ (m j : Nat), j + m = 32 → c ≤ j →
    Ev (fun k => dragomanref03_Mask.l0 k (c : Int) ((2 ^ (j - c) : Nat) : Int) (j : Int) a n) (a / ((2 ^ (32 - c) : Nat) : Int) * ((2 ^ (32 - c) : Nat) : Int), (c : Int)) := by
  intro m
  induction m with
  | zero =>
    intro j hj hc
    obtain rfl : j = 32 := by omega
    refine Ev.step (by intro k; rw [dragomanref03_Mask.l0]) ?_
    have hp : 0 < 2 ^ (32 - c) := Nat.pow_pos (by decide)
    generalize 2 ^ (32 - c) = p at *
    have h1 : 0 ≤ a / (p : Int) * (p : Int) := Int.mul_nonneg (Int.ediv_nonneg ha (by omega)) (by omega)
    have h2 : a / (p : Int) * (p : Int) ≤ a := Int.ediv_mul_le _ (by omega)
    have h3 : 0 ≤ a / (p : Int) := Int.ediv_nonneg ha (by omega)
    have h4 : a / (p : Int) ≤ a := Int.ediv_le_self _ ha
    refine Ev.ite_neg (by omega) (Ev.ite_neg (by omega) ?_)
    rw [u64_wrap_id a ha (by omega), Int.tdiv_eq_ediv_of_nonneg ha, u64_wrap_id _ h3 (by omega), u64_wrap_id _ h1 (by omega), Int.emod_eq_of_lt h1 (by omega)]
    exact Ev.now _
  | succ m ih =>
    intro j hj hc
    refine Ev.step (by intro k; rw [dragomanref03_Mask.l0]) ?_
    refine Ev.ite_pos (by omega) ?_
    have h2 : 2 ^ (j - c) ≤ 2 ^ 32 := Nat.pow_le_pow_right (by decide) (by omega)
    have e32 : 2 ^ 32 = 4294967296 := by decide
    have e : IntKind.u64.wrap (2 * ((2 ^ (j - c) : Nat) : Int)) = ((2 ^ (j + 1 - c) : Nat) : Int) := by
      have : j + 1 - c = (j - c) + 1 := by omega
      rw [this, Nat.pow_succ]
      generalize 2 ^ (j - c) = p at *
      rw [u64_wrap_id _ (by omega) (by omega)]
      omega
    rw [e, w64s j (by omega)]
    exact ih (j + 1) (by omega) (by omega)
theorem rright_ev (a n : Int) (ha : 0 ≤ a) (ha1 : a ≤ 4294967295) (hn : 0 ≤ n) : Ev (fun k => dragomanref03_Right.f k a n) (decide (n ≤ 32 ∧ a / 2 ^ (32 - n).toNat * 2 ^ (32 - n).toNat = a)) := by
  refine Ev.congr (fun k => by rw [dragomanref03_Right.f]) ?_
  obtain ⟨c, hc⟩ : ∃ c : Nat, mx 0 (mn n 32) = (c : Int) := ⟨(mx 0 (mn n 32)).toNat, by rw [mx_eq, mn_eq]; omega⟩
  have hcb : c ≤ 32 ∧ (n ≤ 32 → (c : Int) = n) ∧ (¬ n ≤ 32 → c = 32) := by rw [mx_eq, mn_eq] at hc; omega
  have hM : Ev (fun k => dragomanref03_Mask.f k a n) (a / ((2 ^ (32 - c) : Nat) : Int) * ((2 ^ (32 - c) : Nat) : Int), (c : Int)) := by
    refine Ev.congr (fun k => by rw [dragomanref03_Mask.f, hc]) ?_
    have := rmask_loop c a n ha ha1 (32 - c) c (by omega) (Nat.le_refl _)
    rw [Nat.sub_self] at this
    exact this
  refine Ev.bind1 _ hM ?_
  show Ev (fun _ => some (a == a / ((2 ^ (32 - c) : Nat) : Int) * ((2 ^ (32 - c) : Nat) : Int) && (n == (c : Int)))) _
  have e : (a == a / ((2 ^ (32 - c) : Nat) : Int) * ((2 ^ (32 - c) : Nat) : Int) && (n == (c : Int))) = decide (n ≤ 32 ∧ a / 2 ^ (32 - n).toNat * 2 ^ (32 - n).toNat = a) := by
    rw [Bool.eq_iff_iff, Bool.and_eq_true, beq_iff_eq, beq_iff_eq, decide_eq_true_iff]
    by_cases h : n ≤ 32
    · have hcn := hcb.2.1 h
      have e1 : (32 - n).toNat = 32 - c := by omega
      rw [e1, Int.natCast_pow]
      exact ⟨fun q => ⟨h, q.1.symm⟩, fun q => ⟨q.2.symm, hcn.symm⟩⟩
    · have := hcb.2.2 h
      exact ⟨fun q => by have := q.2; omega, fun q => absurd q.1 h⟩
  rw [e]
  exact Ev.now _
theorem num_no {c : UInt8} (hc : digB c = false) (x r : List UInt8) : ¬ (numR (x ++ c :: r)).2 = true := by
  intro h
  have := numR_digs h
  unfold digD at this
  rw [List.all_append, Bool.and_eq_true, List.all_cons, hc] at this
  simp at this
theorem rpfx_ev (s : ByteArray) (hs : s.size ≤ 65536) : Ev (fun k => dragomanref14_Prefix.f k s) (pfxW s.data.toList) := by
  refine Ev.congr (fun k => by rw [dragomanref14_Prefix.f]) ?_
  have hsz := Lib.size_eq s
  refine Ev.bind1 _ (rpieces s 47 hs) ?_
  unfold pfxW
  rcases cut_pcs 47 s.data.toList with ⟨h1, h2⟩ | ⟨x, r, h1, h2, h3⟩
  · rw [h1, h2]
    refine Ev.ite_neg (by simp) ?_
    rw [if_neg (fun q : false = true => absurd q (by decide))]
    exact Ev.now _
  · rw [h2, h1, if_pos rfl]
    have hlen : s.data.toList.length = x.length + r.length + 1 := by rw [h3]; simp; omega
    rcases cut_pcs 47 r with ⟨g1, g2⟩ | ⟨x2, r2, g1, g2, g3⟩
    · rw [g1]
      refine Ev.ite_pos (by simp) (Ev.ite_pos (by simp) ?_)
      have e0 : rdOf ByteArray.empty ([x, r].map toB) 0 = toB x := rfl
      have e1 : rdOf ByteArray.empty ([x, r].map toB) 1 = toB r := rfl
      rw [e0, e1]
      refine Ev.bind1 _ (raddr_ev _ (by rw [toB_size]; omega)) (Ev.ite_pos (by simp) (Ev.bind1 _ (rnum_ev _) ?_))
      rw [toB_list, toB_list]
      have hb := addrW_bound x
      have hn := numR_bound r
      obtain ⟨s1, s2⟩ := small_iff r 32
      unfold pfxV
      show Ev _ (if (addrW x).2 = true ∧ (smallV r 32).2 = true ∧ ((addrW x).1 / 2 ^ (32 - (smallV r 32).1).toNat * 2 ^ (32 - (smallV r 32).1).toNat = (addrW x).1) then ((addrW x).1, (smallV r 32).1, true) else (0, 0, false))
      by_cases c1 : (addrW x).2 = true
      · refine Ev.ite_pos c1 ?_
        by_cases c2 : (numR r).2 = true
        · refine Ev.ite_pos c2 ?_
          rw [w64 (by omega) (by omega)]
          refine Ev.bind1 _ (rright_ev _ _ hb.1 hb.2 hn.1) ?_
          by_cases c3 : (numR r).1 ≤ 32 ∧ (addrW x).1 / 2 ^ (32 - (numR r).1).toNat * 2 ^ (32 - (numR r).1).toNat = (addrW x).1
          · have h5 := s1.2 ⟨c2, c3.1⟩
            rw [s2 h5]
            refine Ev.ite_pos (decide_eq_true c3) ?_
            rw [if_pos ⟨c1, h5, c3.2⟩]
            exact Ev.now _
          · refine Ev.ite_neg (by simp only [decide_eq_true_eq]; exact c3) ?_
            rw [if_neg (fun q => c3 ⟨(s1.1 q.2.1).2, by have := q.2.2; rw [s2 q.2.1] at this; exact this⟩)]
            exact Ev.now _
        · refine Ev.ite_neg c2 ?_
          rw [if_neg (fun q => c2 (s1.1 q.2.1).1)]
          exact Ev.now _
      · refine Ev.ite_neg c1 ?_
        rw [if_neg (fun q => c1 q.1)]
        exact Ev.now _
    · refine Ev.ite_neg ?_ ?_
      · rw [g1, List.length_map, List.length_cons, List.length_cons]
        have : 1 ≤ (pc1 47 r2).length := List.length_pos_iff.2 (pcs_ne _ _ _)
        omega
      · have hno : ¬ (smallV r 32).2 = true := fun q => num_no (c := 47) (by decide) x2 r2 (by rw [← g3]; exact ((small_iff r 32).1.1 q).1)
        unfold pfxV
        rw [if_neg (fun q => hno q.2.1)]
        exact Ev.now _
theorem rcomm_end (x y : List UInt8) (lo hi : Int) : Ev (fun k => dragomanref14_Comm.l0 k ([x, y].map toB) (([x, y].map toB).length : Int) 2 lo hi) (lo, hi, true) := by
  refine Ev.step (by intro k; rw [dragomanref14_Comm.l0]) ?_
  exact Ev.ite_neg (by simp) (Ev.now _)
theorem rcomm_j1 (i n lo hi : Int) (x y : List UInt8) (R : Int × Int × Bool) (b : Bool) (h1 : b = true → R = (0, 0, false))
    (h0 : b = false → i = 0 → Ev (fun k => dragomanref14_Comm.l0 k ([x, y].map toB) (([x, y].map toB).length : Int) (wrap64 (i + 1)) ((lo + (65536 * n)) % 4294967296) (((Int.tmod hi 65536) + (65536 * n)) % 4294967296)) R)
    (hn : b = false → i ≠ 0 → Ev (fun k => dragomanref14_Comm.l0 k ([x, y].map toB) (([x, y].map toB).length : Int) (wrap64 (i + 1)) (((((Int.tdiv lo 65536) % 4294967296) * 65536) + n) % 4294967296) (((((Int.tdiv hi 65536) % 4294967296) * 65536) + n) % 4294967296)) R) :
    Ev (fun k => dragomanref14_Comm.j1 k i n ([x, y].map toB) (([x, y].map toB).length : Int) i b lo hi) R := by
  refine Ev.step (by intro k; rw [dragomanref14_Comm.j1]) ?_
  cases b with
  | true => rw [h1 rfl]; exact Ev.ite_pos rfl (Ev.now _)
  | false =>
    refine Ev.ite_neg (by decide) ?_
    by_cases hi0 : i = 0
    · exact Ev.ite_pos hi0 (h0 rfl hi0)
    · exact Ev.ite_neg hi0 (hn rfl hi0)
theorem rcomm_one (x y : List UInt8) (i : Nat) (hi : i < 2) (lo hi' : Int) (w : List UInt8) (hw : ([x, y])[i]? = some w) (R : Int × Int × Bool)
    (hs : w = [42] → Ev (fun k => dragomanref14_Comm.l0 k ([x, y].map toB) (([x, y].map toB).length : Int) ((i + 1 : Nat) : Int) lo hi') R)
    (hbad : w ≠ [42] → ¬ (smallV w 65535).2 = true → R = (0, 0, false))
    (h0 : w ≠ [42] → (smallV w 65535).2 = true → i = 0 → Ev (fun k => dragomanref14_Comm.l0 k ([x, y].map toB) (([x, y].map toB).length : Int) ((i + 1 : Nat) : Int) ((lo + (65536 * (smallV w 65535).1)) % 4294967296) (((Int.tmod hi' 65536) + (65536 * (smallV w 65535).1)) % 4294967296)) R)
    (hn : w ≠ [42] → (smallV w 65535).2 = true → i ≠ 0 → Ev (fun k => dragomanref14_Comm.l0 k ([x, y].map toB) (([x, y].map toB).length : Int) ((i + 1 : Nat) : Int) (((((Int.tdiv lo 65536) % 4294967296) * 65536) + (smallV w 65535).1) % 4294967296) (((((Int.tdiv hi' 65536) % 4294967296) * 65536) + (smallV w 65535).1) % 4294967296)) R) :
    Ev (fun k => dragomanref14_Comm.l0 k ([x, y].map toB) (([x, y].map toB).length : Int) (i : Int) lo hi') R := by
  refine Ev.step (by intro k; rw [dragomanref14_Comm.l0]) ?_
  have hr : rdOf ByteArray.empty ([x, y].map toB) (i : Int) = toB w := by
    have : i < ([x, y].map toB).length := by simpa using hi
    rw [rdB _ i this, List.getElem_map]
    congr 1
    rw [List.getElem?_eq_getElem (by simpa using hi)] at hw
    exact Option.some.inj hw
  refine Ev.ite_pos (by simp; omega) (Ev.ite_pos (by omega) (Ev.ite_pos (by simp; omega) ?_))
  rw [hr, toB_tl, w64s i (by omega)]
  by_cases h42 : w = [42]
  · exact Ev.ite_pos h42 (hs h42)
  refine Ev.ite_neg h42 (Ev.bind1 _ (rnum_ev _) ?_)
  rw [toB_list]
  obtain ⟨s1, s2⟩ := small_iff w 65535
  have hj : ∀ b : Bool, (b = false ↔ (smallV w 65535).2 = true) → Ev (fun k => dragomanref14_Comm.j1 k (i : Int) (numR w).1 ([x, y].map toB) (([x, y].map toB).length : Int) (i : Int) b lo hi') R := by
    intro b hb
    refine rcomm_j1 _ _ _ _ _ _ _ _ (fun q => hbad h42 (fun g => by rw [hb.2 g] at q; exact absurd q (by decide))) (fun q g => ?_) (fun q g => ?_)
    · have := h0 h42 (hb.1 q) (by omega)
      rw [s2 (hb.1 q)] at this
      rw [w64s i (by omega)]
      exact this
    · have := hn h42 (hb.1 q) (by omega)
      rw [s2 (hb.1 q)] at this
      rw [w64s i (by omega)]
      exact this
  by_cases c2 : (numR w).2 = true
  · refine Ev.ite_pos c2 (hj _ ?_)
    rw [decide_eq_false_iff_not, s1]
    exact ⟨fun q => ⟨c2, by omega⟩, fun q => by have := q.2; omega⟩
  · refine Ev.ite_neg c2 (hj _ ?_)
    exact ⟨fun q => absurd q (by decide), fun q => absurd (s1.1 q).1 c2⟩
theorem rcomm_ev (s : ByteArray) (hs : s.size ≤ 65536) : Ev (fun k => dragomanref14_Comm.f k s) (commW s.data.toList) := by
  refine Ev.congr (fun k => by rw [dragomanref14_Comm.f]) ?_
  have hsz := Lib.size_eq s
  refine Ev.bind1 _ (rpieces s 58 hs) ?_
  unfold commW
  rcases cut_pcs 58 s.data.toList with ⟨h1, h2⟩ | ⟨x, y, h1, h2, h3⟩
  · rw [h1, h2]
    refine Ev.ite_neg (by simp) ?_
    rw [if_neg (fun q : false = true => absurd q (by decide))]
    exact Ev.now _
  · rw [h2, h1, if_pos rfl]
    rcases cut_pcs 58 y with ⟨g1, g2⟩ | ⟨x2, r2, g1, g2, g3⟩
    · rw [g1]
      refine Ev.ite_pos (by simp) ?_
      have hx := smallV_bound x 65535
      have hy := smallV_bound y 65535
      have second : ∀ (a b : Int), 0 ≤ a → a ≤ 65535 → 0 ≤ b → b ≤ 65535 → ∀ lo hi : Int, lo = 65536 * a → hi = 65536 * b + 65535 →
          Ev (fun k => dragomanref14_Comm.l0 k ([x, y].map toB) (([x, y].map toB).length : Int) ((1 : Nat) : Int) lo hi) (commV (a, b, true) (halfV y)) := by
        intro a b a0 a1 b0 b1 lo hi hlo hhi
        subst hlo hhi
        refine rcomm_one x y 1 (by decide) _ _ y rfl _ (fun q => ?_) (fun q1 q2 => ?_) (fun _ _ q => absurd q (by decide)) (fun q1 q2 _ => ?_)
        · have e : commV (a, b, true) (halfV y) = (65536 * a, 65536 * b + 65535, true) := by
            unfold commV halfV
            rw [if_pos q, if_pos ⟨rfl, rfl⟩]
            simp
          rw [e]
          exact rcomm_end x y _ _
        · unfold commV halfV
          rw [if_neg q1, if_neg (fun g => q2 g.2)]
        · have hy3 := hy.2.2 q2
          have e : commV (a, b, true) (halfV y) = (65536 * a + (smallV y 65535).1, 65536 * b + (smallV y 65535).1, true) := by
            unfold commV halfV
            rw [if_neg q1, if_pos ⟨rfl, q2⟩]
          rw [e]
          have t1 : Int.tdiv (65536 * a) 65536 = a := by rw [Int.tdiv_eq_ediv_of_nonneg (by omega)]; omega
          have t2 : Int.tdiv (65536 * b + 65535) 65536 = b := by rw [Int.tdiv_eq_ediv_of_nonneg (by omega)]; omega
          rw [t1, t2]
          have e1 : (a % 4294967296 * 65536 + (smallV y 65535).1) % 4294967296 = 65536 * a + (smallV y 65535).1 := by omega
          have e2 : (b % 4294967296 * 65536 + (smallV y 65535).1) % 4294967296 = 65536 * b + (smallV y 65535).1 := by omega
          rw [e1, e2]
          exact rcomm_end x y _ _
      have key := rcomm_one x y 0 (by decide) 0 4294967295 x rfl (commV (halfV x) (halfV y)) (fun q => ?_) (fun q1 q2 => ?_) (fun q1 q2 _ => ?_) (fun _ _ q => absurd rfl q)
      · exact key
      · have e : halfV x = (0, 65535, true) := by unfold halfV; rw [if_pos q]
        rw [e]
        exact second 0 65535 (by decide) (by decide) (by decide) (by decide) _ _ (by decide) (by decide)
      · unfold commV halfV
        rw [if_neg q1, if_neg (fun g => q2 g.1)]
      · have hx3 := hx.2.2 q2
        have e : halfV x = ((smallV x 65535).1, (smallV x 65535).1, true) := by unfold halfV; rw [if_neg q1, q2]
        rw [e]
        have t1 : Int.tmod 4294967295 65536 = 65535 := by decide
        rw [t1]
        exact second _ _ hx.1 hx3 hx.1 hx3 _ _ (by omega) (by omega)
    · refine Ev.ite_neg ?_ ?_
      · rw [g1, List.length_map, List.length_cons, List.length_cons]
        have : 1 ≤ (pc1 58 r2).length := List.length_pos_iff.2 (pcs_ne _ _ _)
        omega
      · have hno : ¬ (halfV y).2.2 = true := by
          unfold halfV
          rw [if_neg (by rw [g3]; intro q; have := congrArg List.length q; cases x2 with
            | nil => simp at q
            | cons a b => simp at this)]
          exact fun q => num_no (c := 58) (by decide) x2 r2 (by rw [← g3]; exact ((small_iff y 65535).1.1 q).1)
        unfold commV
        show Ev _ (if (halfV x).2.2 = true ∧ (halfV y).2.2 = true then _ else _)
        rw [if_neg (fun q => hno q.2)]
        exact Ev.now _
theorem lexWords_ev (s : ByteArray) : Ev (fun k => dragomanlaw14_LexWords.f k s) true := by
  refine Ev.congr (fun k => by rw [dragomanlaw14_LexWords.f]) ?_
  refine Ev.bind1 _ alive_ev ?_
  refine Ev.ite_pos rfl ?_
  by_cases h : (s.size : Int) > 1000
  · exact Ev.ite_pos h (Ev.now _)
  refine Ev.ite_neg h ?_
  have hs : s.size ≤ 65536 := by omega
  rw [num_some s hs]
  refine Ev.some (Ev.bind1 _ (rnum_ev s) (Ev.ite_pos rfl ?_))
  have e1 : ((numR s.data.toList).2 != (numR s.data.toList).2) = false := by simp
  rw [e1]
  refine Ev.step (by intro k; rw [dragomanlaw14_LexWords.j0]) ?_
  refine Ev.ite_neg (by decide) (Ev.bind1 _ (addr_ev s hs) (Ev.bind1 _ (raddr_ev s hs) (Ev.ite_pos rfl ?_)))
  have e2 : ((addrW s.data.toList).2 != (addrW s.data.toList).2) = false := by simp
  rw [e2]
  refine Ev.step (by intro k; rw [dragomanlaw14_LexWords.j1]) ?_
  refine Ev.ite_neg (by decide) (Ev.bind1 _ (pfx_ev s hs) (Ev.bind1 _ (rpfx_ev s hs) (Ev.ite_neg (by simp) ?_)))
  have e3 : ((pfxW s.data.toList).2.2 != (pfxW s.data.toList).2.2) = false := by simp
  rw [e3]
  refine Ev.step (by intro k; rw [dragomanlaw14_LexWords.j2]) ?_
  refine Ev.ite_neg (by decide) ?_
  rw [comm_some s hs]
  refine Ev.some (Ev.bind1 _ (rcomm_ev s hs) (Ev.ite_neg (by simp) ?_))
  have e4 : ((commW s.data.toList).2.2 != (commW s.data.toList).2.2) = false := by simp
  rw [e4]
  refine Ev.step (by intro k; rw [dragomanlaw14_LexWords.j3]) ?_
  refine Ev.ite_neg (by decide) ?_
  have eo : lex_Origin.f s = dragomanref14_Origin.f s := rfl
  rw [eo]
  obtain ⟨v, hv⟩ : ∃ v, dragomanref14_Origin.f s = some v := by
    unfold dragomanref14_Origin.f
    repeat' split
    all_goals exact ⟨_, rfl⟩
  rw [hv]
  refine Ev.some (Ev.some (Ev.ite_pos rfl ?_))
  have e5 : (v.2 == v.2) = true := by simp
  rw [e5]
  exact Ev.now _
end Go.Proofs.YtdnneofebehpaaaDoor.L
