/- Lines, plainly: what the program's and the reference's functions on lines answer. -/
import Derived.Test.YtdnneofebehpaaaGreatDoorLx12
import Derived.Test.YtdnneofebehpaaaGreatDoorLx11
import Derived.Test.YtdnneofebehpaaaGreatDoorEv
import Derived.Test.YtdnneofebehpaaaGreatDoorPlLn
import Derived.Lib.EndianBits
import Derived.Laws.BitsAllLaws
import Derived.Lib.ItoaMem
import Derived.Lib.Join
import Derived.Test.YtdnneofebehpaaaGreatDoorLx13
namespace Go.Proofs.YtdnneofebehpaaaGreatDoor.L
open Go.RowKit Go.Proofs.YtdnneofebehpaaaGreatDoorW.PrintWords Go.Proofs.YtdnneofebehpaaaGreatDoorW.PrintLast Go.Proofs.YtdnneofebehpaaaGreatDoorW.PrintMore Go.Proofs.YtdnneofebehpaaaGreatDoor.LexPlain
def toB (l : List UInt8) : ByteArray := ⟨l.toArray⟩
theorem toB_list (l : List UInt8) : (toB l).data.toList = l := by simp [toB]
theorem toB_of (s : ByteArray) : toB s.data.toList = s := by
  obtain ⟨⟨l⟩⟩ := s
  rfl
theorem toB_size (l : List UInt8) : (toB l).size = l.length := by rw [Lib.size_eq, toB_list]
theorem toB_tl (l : List UInt8) : (toB l).toList = l := by rw [Lib.toList_data, toB_list]
theorem toB_append (l r : List UInt8) : toB l ++ toB r = toB (l ++ r) := by
  have : (toB l ++ toB r).data.toList = (toB (l ++ r)).data.toList := by
    rw [ByteArray.data_append, Array.toList_append, toB_list, toB_list, toB_list]
  have h := congrArg toB this
  rwa [toB_of, toB_of] at h
theorem bt_list (s : ByteArray) (j : Nat) (h : j < s.data.toList.length) : bt s (j : Int) = ((s.data.toList[j]).toNat : Int) := by
  have h' : (j : Int).toNat < s.size := by rw [Lib.size_eq]; omega
  rw [← bt_at s (j : Int) h']
  rfl
theorem rdB (xs : List ByteArray) (j : Nat) (h : j < xs.length) : rdOf ByteArray.empty xs (j : Int) = xs[j] := by
  simp [rdOf, List.getD_eq_getElem?_getD, List.getElem?_eq_getElem h]
theorem mayB_iff (b : UInt8) : mayB b = true ↔ (32 ≤ b.toNat ∧ b.toNat ≤ 126) ∨ b.toNat = 9 ∨ b.toNat = 10 := by
  unfold mayB
  have e9 : (b == 9) = decide (b.toNat = 9) := by
    rw [Bool.eq_iff_iff, beq_iff_eq, decide_eq_true_iff]
    exact ⟨fun q => by rw [q]; rfl, fun q => UInt8.toNat_inj.1 q⟩
  have e10 : (b == 10) = decide (b.toNat = 10) := by
    rw [Bool.eq_iff_iff, beq_iff_eq, decide_eq_true_iff]
    exact ⟨fun q => by rw [q]; rfl, fun q => UInt8.toNat_inj.1 q⟩
  rw [e9, e10]
  simp [or_assoc]
def askV (s : ByteArray) : Int := if 65536 < s.size then 6 else if s.data.toList.all mayB then 0 else 4
theorem ask_loop (s : ByteArray) (hs : s.size ≤ 65536) : ∀ (m j : Nat), j + m = s.size → Ev (fun k => lex_ask.l0 k s (s.size : Int) (j : Int)) (if (s.data.toList.drop j).all mayB then 0 else 4) := by
  intro m
  have hsz := Lib.size_eq s
  induction m with
  | zero =>
    intro j hj
    refine Ev.step (by intro k; rw [lex_ask.l0]) ?_
    refine Ev.ite_neg (by omega) ?_
    rw [List.drop_of_length_le (by omega)]
    exact Ev.now _
  | succ m ih =>
    intro j hj
    have hlt : j < s.data.toList.length := by omega
    refine Ev.step (by intro k; rw [lex_ask.l0]) ?_
    refine Ev.ite_pos (by omega) (Ev.ite_pos (by omega) (Ev.ite_pos (by omega) ?_))
    rw [bt_list s j hlt, w64s j (by omega), dropc _ j hlt, List.all_cons]
    have next := ih (j + 1) (by omega)
    generalize s.data.toList[j] = b
    have hm := mayB_iff b
    by_cases h : mayB b = true
    · have h' := hm.1 h
      rw [h, Bool.true_and]
      by_cases c1 : (b.toNat : Int) < 32
      · refine Ev.ite_pos c1 ?_
        by_cases c2 : (b.toNat : Int) = 9
        · exact Ev.ite_pos c2 next
        · exact Ev.ite_neg c2 (Ev.ite_pos (by omega) next)
      · exact Ev.ite_neg c1 (Ev.ite_neg (by omega) next)
    · have h' : ¬ ((32 ≤ b.toNat ∧ b.toNat ≤ 126) ∨ b.toNat = 9 ∨ b.toNat = 10) := fun q => h (hm.2 q)
      rw [Bool.eq_false_iff.2 h, Bool.false_and, if_neg (by decide)]
      by_cases c1 : (b.toNat : Int) < 32
      · exact Ev.ite_pos c1 (Ev.ite_neg (by omega) (Ev.ite_neg (by omega) (Ev.now _)))
      · exact Ev.ite_neg c1 (Ev.ite_pos (by omega) (Ev.ite_neg (by omega) (Ev.ite_neg (by omega) (Ev.now _))))
theorem ask_ev (s : ByteArray) : Ev (fun k => lex_ask.f k s) (askV s) := by
  refine Ev.congr (fun k => by rw [lex_ask.f]) ?_
  unfold askV
  by_cases h : 65536 < s.size
  · rw [if_pos h]
    exact Ev.ite_pos (by omega) (Ev.now _)
  · rw [if_neg h]
    refine Ev.ite_neg (by omega) ?_
    have := ask_loop s (by omega) s.size 0 (by omega)
    rw [List.drop_zero] at this
    exact this
theorem pcs_len (p : UInt8 → Bool) : ∀ (s cur : List UInt8), (pcs p cur s).length ≤ s.length + 1 ∧ ∀ x ∈ pcs p cur s, x.length ≤ cur.length + s.length
  | [], cur => by simp [pcs]
  | b :: s, cur => by
    rw [pcs]
    split
    · obtain ⟨h1, h2⟩ := pcs_len p s []
      refine ⟨by simp only [List.length_cons]; omega, fun x hx => ?_⟩
      rcases List.mem_cons.1 hx with rfl | hx
      · omega
      · have := h2 x hx
        simp only [List.length_cons, List.length_nil] at this ⊢
        omega
    · obtain ⟨h1, h2⟩ := pcs_len p s (cur ++ [b])
      refine ⟨by simp only [List.length_cons]; omega, fun x hx => ?_⟩
      have := h2 x hx
      simp only [List.length_append, List.length_cons, List.length_nil] at this ⊢
      omega
theorem words_ne {s w : List UInt8} (h : w ∈ wordsL s) : w ≠ [] := by
  unfold wordsL at h
  have := (List.mem_filter.1 h).2
  intro q
  rw [q] at this
  simp at this
def linesB (s : List UInt8) : List (List ByteArray) := (linesL s).map (·.map toB)
theorem kept_cons (w : List UInt8) (ws : List (List UInt8)) (h : w ≠ []) : ∃ b, ∃ (hb : 0 < w.length), w[0] = b ∧ keptW (w :: ws) = !(b == 33) := by
  cases w with
  | nil => exact absurd rfl h
  | cons b w =>
    refine ⟨b, by simp, rfl, ?_⟩
    simp [keptW]
theorem line_step (x : List UInt8) (f : Nat → List (List ByteArray) → Option (List (List ByteArray) × Int)) (acc : List (List ByteArray)) (r : List (List ByteArray) × Int) (ha : acc.length ≤ 70000)
    (h1 : keptW (wordsL x) = false → Ev (fun k => f k acc) r) (h2 : keptW (wordsL x) = true → Ev (fun k => f k (acc ++ [(wordsL x).map toB])) r) :
    Ev (fun k => if (((wordsL x).map toB).length : Int) > 0 then (if 0 < (((wordsL x).map toB).length : Int) then (if 0 < ((rdOf ByteArray.empty ((wordsL x).map toB) 0).size : Int) then (if (bt (rdOf ByteArray.empty ((wordsL x).map toB) 0) 0) = 33 then f k acc else (if acc.length < 5864062014805 then f k (acc ++ [(wordsL x).map toB]) else (none))) else (none)) else (none)) else f k acc) r := by
  cases hw : wordsL x with
  | nil =>
    rw [hw] at h1 h2
    exact Ev.ite_neg (by simp) (h1 rfl)
  | cons w ws =>
    rw [hw] at h1 h2
    have hne : w ≠ [] := words_ne (s := x) (by rw [hw]; simp)
    obtain ⟨b, hb, hwb, hk⟩ := kept_cons w ws hne
    have e0 : rdOf ByteArray.empty ((w :: ws).map toB) 0 = toB w := rfl
    have e1 : bt (toB w) 0 = (b.toNat : Int) := by
      have := bt_list (toB w) 0 (by rw [toB_list]; exact hb)
      rw [show ((0 : Nat) : Int) = 0 from rfl] at this
      rw [this]
      simp only [toB_list, hwb]
    refine Ev.ite_pos (by simp) (Ev.ite_pos (by simp) (Ev.ite_pos (by rw [e0, toB_size]; omega) ?_))
    rw [e0, e1]
    by_cases h33 : b = 33
    · subst h33
      exact Ev.ite_pos rfl (h1 (by rw [hk]; rfl))
    · refine Ev.ite_neg (fun q => h33 (UInt8.toNat_inj.1 (by have : (33 : UInt8).toNat = 33 := rfl; omega))) (Ev.ite_pos (by omega) (h2 ?_))
      rw [hk]
      simp [h33]
def linesV (s : ByteArray) : List (List ByteArray) × Int := if askV s = 0 then (linesB s.data.toList, 0) else ([], askV s)
theorem split_pcs (s : ByteArray) (c : UInt8) : Lib.splitB ⟨#[c]⟩ 0 (Lib.countB s ⟨#[c]⟩) s = (pcs (fun b => b == c) [] s.data.toList).map toB := by
  have h := Lib.splitB_data ⟨#[c]⟩ 0 (Lib.countB s ⟨#[c]⟩) s
  have h2 : ∀ l : List ByteArray, l = (l.map (·.data.toList)).map toB := by
    intro l
    rw [List.map_map]
    induction l with
    | nil => rfl
    | cons a l ih => rw [List.map_cons, ← ih]; simp only [Function.comp, toB_of]
  rw [h2 (Lib.splitB ⟨#[c]⟩ 0 (Lib.countB s ⟨#[c]⟩) s), h]
  congr 1
  rw [← split_one]
  rfl
theorem llines_loop (s : List UInt8) (hs : ∀ b ∈ s, mayB b = true) (l : List (List UInt8)) (hl : l.length ≤ 65537) (hx : ∀ x ∈ l, x.length ≤ 65536 ∧ x ∈ Lib.split s [10]) : ∀ (m i : Nat) (acc : List (List ByteArray)), i + m = l.length → acc.length ≤ i →
    Ev (fun k => lex_Lines.l0 k acc (l.map toB) ((l.map toB).length : Int) (i : Int)) (acc ++ (((l.drop i).map wordsL).filter keptW).map (·.map toB), 0) := by
  intro m
  induction m with
  | zero =>
    intro i acc hi ha
    refine Ev.step (by intro k; rw [lex_Lines.l0]) ?_
    refine Ev.ite_neg (by rw [List.length_map]; omega) ?_
    rw [List.drop_of_length_le (by omega)]
    simp only [List.filter_nil, List.map_nil, List.append_nil]
    exact Ev.now _
  | succ m ih =>
    intro i acc hi ha
    have hlt : i < l.length := by omega
    obtain ⟨hlen, hmem⟩ := hx _ (List.getElem_mem hlt)
    refine Ev.step (by intro k; rw [lex_Lines.l0]) ?_
    refine Ev.ite_pos (by rw [List.length_map]; omega) (Ev.ite_pos (by omega) (Ev.ite_pos (by rw [List.length_map]; omega) ?_))
    rw [rdB _ i (by rw [List.length_map]; exact hlt), List.getElem_map, w64s i (by omega), dropc _ i hlt]
    have hF : strings_Fields.f (toB l[i]) = some ((wordsL l[i]).map toB) := by
      unfold strings_Fields.f
      have ha : asciiB (toB l[i]) = true := by
        unfold asciiB
        rw [toB_list, List.all_eq_true]
        intro b hb
        rw [split_one] at hmem
        rcases pcs_mem _ s [] _ hmem b hb with h | ⟨h1, _⟩
        · simp at h
        · have := (mayB_iff b).1 (hs b h1)
          exact decide_eq_true (by omega)
      rw [if_pos ⟨by rw [toB_size]; omega, ha⟩, toB_list, words_line hs hmem]
      rfl
    rw [hF]
    refine Ev.some ?_
    rw [List.map_cons, List.filter_cons]
    refine line_step l[i] (fun k a => lex_Lines.l0 k a (l.map toB) ((l.map toB).length : Int) ((i + 1 : Nat) : Int)) acc _ (by omega) (fun h => ?_) (fun h => ?_)
    · rw [h, if_neg (by decide)]
      exact ih (i + 1) acc (by omega) (by omega)
    · rw [h, if_pos rfl]
      have := ih (i + 1) (acc ++ [(wordsL l[i]).map toB]) (by omega) (by simp; omega)
      rw [List.append_assoc] at this
      exact this
theorem llines_ev (s : ByteArray) : Ev (fun k => lex_Lines.f k s) (linesV s) := by
  refine Ev.congr (fun k => by rw [lex_Lines.f]) ?_
  have hsz := Lib.size_eq s
  refine Ev.bind1 _ (ask_ev s) ?_
  unfold linesV
  by_cases h : askV s = 0
  · rw [if_pos h]
    refine Ev.ite_pos h ?_
    have h1 : ¬ 65536 < s.size := by intro q; unfold askV at h; rw [if_pos q] at h; exact absurd h (by decide)
    have h2 : s.data.toList.all mayB = true := by
      unfold askV at h
      rw [if_neg h1] at h
      by_cases g : s.data.toList.all mayB = true
      · exact g
      · rw [if_neg g] at h; exact absurd h (by decide)
    have hS : strings_Split.f s ⟨#[10]⟩ = some ((pcs nlB [] s.data.toList).map toB) := by
      unfold strings_Split.f
      rw [if_pos ⟨by omega, by decide⟩, split_pcs]
      rfl
    rw [hS]
    refine Ev.some ?_
    obtain ⟨hp, hq⟩ := pcs_len nlB s.data.toList []
    have := llines_loop s.data.toList (fun b hb => List.all_eq_true.1 h2 b hb) (pcs nlB [] s.data.toList) (by omega) (fun x hx => ⟨by have := hq x hx; simp at this; omega, by rw [split_one]; exact hx⟩) _ 0 [] (by rw [Nat.zero_add]) (by simp)
    rw [List.drop_zero] at this
    exact this
  · rw [if_neg h]
    exact Ev.ite_neg h (Ev.now _)
theorem strings_loop (l : List ByteArray) (hl : l.length ≤ 8796093022208) : ∀ (m i : Nat), i + m = l.length → Ev (fun k => dragomanref14_Strings.l0 k l l (l.length : Int) (i : Int)) true := by
  intro m
  induction m with
  | zero =>
    intro i hi
    refine Ev.step (by intro k; rw [dragomanref14_Strings.l0]) ?_
    exact Ev.ite_neg (by omega) (Ev.now _)
  | succ m ih =>
    intro i hi
    refine Ev.step (by intro k; rw [dragomanref14_Strings.l0]) ?_
    refine Ev.ite_pos (by omega) (Ev.ite_pos (by omega) (Ev.ite_pos (by omega) (Ev.ite_pos (by omega) (Ev.ite_pos rfl ?_))))
    rw [w64s i (by omega)]
    exact ih (i + 1) (by omega)
theorem strings_ev (l : List ByteArray) (hl : l.length ≤ 8796093022208) : Ev (fun k => dragomanref14_Strings.f k l l) true := by
  refine Ev.congr (fun k => by rw [dragomanref14_Strings.f]) ?_
  exact Ev.ite_pos rfl (strings_loop l hl l.length 0 (by omega))
end Go.Proofs.YtdnneofebehpaaaGreatDoor.L
/- Numbers, plainly: what the program's function on a number answers; the reference's answers so, too. -/
namespace Go.Proofs.YtdnneofebehpaaaGreatDoor.L
open Go.RowKit Go.Proofs.YtdnneofebehpaaaGreatDoorW.PrintWords Go.Proofs.YtdnneofebehpaaaGreatDoorW.PrintLast Go.Proofs.YtdnneofebehpaaaGreatDoorW.PrintMore Go.Proofs.YtdnneofebehpaaaGreatDoor.LexPlain
def digB (c : UInt8) : Bool := decide (48 ≤ c.toNat) && decide (c.toNat ≤ 57)
def digD (l : List UInt8) : Bool := l.all digB
def valD (acc : Nat) (l : List UInt8) : Nat := l.foldl (fun a c => a * 10 + (c.toNat - 48)) acc
theorem valD_nil (acc : Nat) : valD acc [] = acc := rfl
theorem valD_cons (acc : Nat) (c : UInt8) (r : List UInt8) : valD acc (c :: r) = valD (acc * 10 + (c.toNat - 48)) r := by
  unfold valD
  rw [List.foldl_cons]
theorem digB_iff (c : UInt8) : digB c = true ↔ 48 ≤ c.toNat ∧ c.toNat ≤ 57 := by simp [digB]
theorem vals_ge : ∀ (l : List UInt8) (acc : Nat), acc ≤ valD acc l
  | [], _ => Nat.le_refl _
  | c :: r, acc => by
    have := vals_ge r (acc * 10 + (c.toNat - 48))
    rw [valD_cons]
    omega
theorem vals_snoc : ∀ (l : List UInt8) (acc : Nat) (c : UInt8), valD acc (l ++ [c]) = valD acc l * 10 + (c.toNat - 48)
  | [], _, _ => rfl
  | d :: r, acc, c => by
    rw [List.cons_append, valD_cons, vals_snoc r _ c, valD_cons]
theorem parse_ok {M : Nat} (hM : M < 1844674407370955162) : ∀ (l : List UInt8) (acc : Nat), acc ≤ M → (digD l = true ∧ valD acc l ≤ M → Lib.parseUintM M acc l = .ok (valD acc l)) ∧ (¬ (digD l = true ∧ valD acc l ≤ M) → ∀ u, Lib.parseUintM M acc l ≠ .ok u)
  | [], acc, ha => ⟨fun _ => rfl, fun h => absurd ⟨rfl, ha⟩ h⟩
  | c :: r, acc, ha => by
    rw [Lib.parseUintM, valD_cons]
    unfold digD
    rw [List.all_cons, Bool.and_eq_true, digB_iff]
    by_cases hc : 48 ≤ c.toNat ∧ c.toNat ≤ 57
    · rw [if_pos hc, if_neg (by omega)]
      by_cases hr : M < acc * 10 + (c.toNat - 48)
      · rw [if_pos hr]
        have := vals_ge r (acc * 10 + (c.toNat - 48))
        refine ⟨fun h => by omega, fun _ u h => by cases h⟩
      · rw [if_neg hr]
        obtain ⟨h1, h2⟩ := parse_ok hM r (acc * 10 + (c.toNat - 48)) (by omega)
        exact ⟨fun h => h1 ⟨h.1.2, h.2⟩, fun h => h2 (fun g => h ⟨⟨hc, g.1⟩, g.2⟩)⟩
    · rw [if_neg hc]
      exact ⟨fun h => absurd h.1.1 hc, fun _ u h => by cases h⟩
theorem dec_big {u : Nat} (h : ¬ u < 10) : Lib.decDigits u = Lib.decDigits (u / 10) ++ [UInt8.ofNat (48 + u % 10)] := by
  rw [Lib.decDigits, dif_neg h]
theorem dec_of {l : List UInt8} : ∀ (n : Nat), l.length = n → l ≠ [] → digD l = true → (l.head? ≠ some 48 ∨ l = [48]) → Lib.decDigits (valD 0 l) = l := by
  intro n
  induction n using Nat.strongRecOn generalizing l with
  | _ n ih =>
    intro hl hne hd hz
    obtain ⟨r, c, rfl⟩ : ∃ r c, l = r ++ [c] := ⟨l.dropLast, l.getLast hne, (List.dropLast_concat_getLast hne).symm⟩
    rw [vals_snoc]
    unfold digD at hd
    rw [List.all_append, Bool.and_eq_true] at hd
    obtain ⟨hd1, hd2⟩ := hd
    have hc : 48 ≤ c.toNat ∧ c.toNat ≤ 57 := by
      rw [List.all_cons, Bool.and_eq_true, digB_iff] at hd2
      exact hd2.1
    have ec : UInt8.ofNat (48 + (c.toNat - 48)) = c := by
      apply UInt8.toNat_inj.1
      have := c.toNat_lt
      rw [UInt8.toNat_ofNat', Nat.mod_eq_of_lt (by omega)]
      omega
    cases r with
    | nil =>
      rw [show valD 0 [] = 0 from rfl, Nat.zero_mul, Nat.zero_add, Lib.decDigits_one (by omega), ec]
      rfl
    | cons a r =>
      have ha : a ≠ 48 := by
        rcases hz with hz | hz
        · intro q; subst q; exact hz rfl
        · simp at hz
      have ha2 : 48 ≤ a.toNat ∧ a.toNat ≤ 57 := by
        rw [List.all_cons, Bool.and_eq_true, digB_iff] at hd1
        exact hd1.1
      have hv : 1 ≤ valD 0 (a :: r) := by
        rw [valD_cons]
        have := vals_ge r (0 * 10 + (a.toNat - 48))
        have : a.toNat ≠ 48 := fun q => ha (UInt8.toNat_inj.1 q)
        omega
      rw [dec_big (by omega)]
      have e1 : (valD 0 (a :: r) * 10 + (c.toNat - 48)) / 10 = valD 0 (a :: r) := by omega
      have e2 : (valD 0 (a :: r) * 10 + (c.toNat - 48)) % 10 = c.toNat - 48 := by omega
      rw [e1, e2, ec, ih (a :: r).length (by simp only [List.length_append, List.length_cons, List.length_nil] at hl ⊢; omega) rfl (by simp) hd1 (Or.inl (by simp [ha]))]
theorem dec_head : ∀ (n u : Nat), u ≤ n → 1 ≤ u → ∃ a r, Lib.decDigits u = a :: r ∧ a ≠ 48 := by
  intro n
  induction n with
  | zero => intro u h h1; omega
  | succ n ih =>
    intro u h h1
    by_cases hs : u < 10
    · refine ⟨_, [], Lib.decDigits_one hs, fun q => ?_⟩
      have := congrArg UInt8.toNat q
      rw [UInt8.toNat_ofNat', Nat.mod_eq_of_lt (by omega)] at this
      have e : (48 : UInt8).toNat = 48 := rfl
      omega
    · obtain ⟨a, r, h2, h3⟩ := ih (u / 10) (by omega) (by omega)
      rw [dec_big hs, h2]
      exact ⟨a, r ++ [_], rfl, h3⟩
theorem dec_len : ∀ (n u : Nat), u < 10 ^ (n + 1) → (Lib.decDigits u).length ≤ n + 1 ∧ 1 ≤ (Lib.decDigits u).length := by
  intro n
  induction n with
  | zero =>
    intro u h
    rw [Lib.decDigits_one (by simpa using h)]
    simp
  | succ n ih =>
    intro u h
    by_cases hs : u < 10
    · rw [Lib.decDigits_one hs]
      simp
    · rw [dec_big hs]
      have := ih (u / 10) (by rw [Nat.pow_succ] at h; omega)
      simp only [List.length_append, List.length_cons, List.length_nil]
      omega
def numR (l : List UInt8) : Int × Bool := if l.length < 1 ∨ 10 < l.length ∨ (l.head? = some 48 ∧ 1 < l.length) then (0, false) else if digD l = true ∧ valD 0 l ≤ 4294967295 then ((valD 0 l : Int), true) else (0, false)
theorem numS_R (l : List UInt8) : numS l = numR l := by
  unfold numS numR Lib.parseUintB
  cases hl : l with
  | nil => rfl
  | cons a r =>
    rw [if_neg (by simp)]
    rw [← hl]
    have hne : l ≠ [] := by rw [hl]; simp
    obtain ⟨p1, p2⟩ := parse_ok (M := 2 ^ 32 - 1) (by decide) l 0 (by decide)
    by_cases h : digD l = true ∧ valD 0 l ≤ 2 ^ 32 - 1
    · rw [p1 h]
      show (if Lib.decDigits (valD 0 l) = l then ((valD 0 l : Int), true) else (0, false)) = _
      by_cases hz : l.head? = some 48 ∧ 1 < l.length
      · rw [if_pos (Or.inr (Or.inr hz)), if_neg]
        intro q
        by_cases hv : valD 0 l < 10
        · rw [Lib.decDigits_one hv] at q
          have := congrArg List.length q
          simp at this
          omega
        · obtain ⟨b, s, h2, h3⟩ := dec_head _ _ (Nat.le_refl _) (show 1 ≤ valD 0 l by omega)
          rw [q] at h2
          rw [h2] at hz
          exact h3 (by simpa using hz.1)
      · have hlen : 1 ≤ l.length := by rw [hl]; simp
        have hd : Lib.decDigits (valD 0 l) = l := by
          refine dec_of l.length rfl hne h.1 ?_
          by_cases q : l.head? = some 48
          · right
            have h1 : l.length = 1 := by
              have : ¬ 1 < l.length := fun g => hz ⟨q, g⟩
              omega
            obtain ⟨x, rfl⟩ := List.length_eq_one_iff.1 h1
            simp at q
            rw [q]
          · exact Or.inl q
        have h10 : l.length ≤ 10 := by
          have := (dec_len 9 (valD 0 l) (by have := h.2; omega)).1
          rwa [hd] at this
        rw [if_pos hd, if_neg (by rintro (g | g | g); omega; omega; exact hz g), if_pos ⟨h.1, by have := h.2; omega⟩]
    · have hq : ∀ x : Lib.NumEnd Nat, (∀ u, x ≠ .ok u) → (match x with | .ok u => if Lib.decDigits u = l then ((u : Int), true) else (0, false) | _ => ((0 : Int), false)) = (0, false) := by
        intro x hx
        rcases x with u | _ | _
        · exact absurd rfl (hx u)
        · rfl
        · rfl
      have e1 := hq _ (p2 h)
      refine e1.trans ?_
      have h' : ¬ (digD l = true ∧ valD 0 l ≤ 4294967295) := fun g => h ⟨g.1, by have := g.2; omega⟩
      rw [if_neg h']
      split <;> rfl
end Go.Proofs.YtdnneofebehpaaaGreatDoor.L
/- Words, plainly: the program's answers on addresses, prefixes, communities; the document's examples. -/
namespace Go.Proofs.YtdnneofebehpaaaGreatDoor.L
open Go.RowKit Go.Proofs.YtdnneofebehpaaaGreatDoorW.PrintWords Go.Proofs.YtdnneofebehpaaaGreatDoorW.PrintLast Go.Proofs.YtdnneofebehpaaaGreatDoorW.PrintMore Go.Proofs.YtdnneofebehpaaaGreatDoor.LexPlain
theorem numR_bound (l : List UInt8) : 0 ≤ (numR l).1 ∧ (numR l).1 ≤ 4294967295 := by
  unfold numR
  split
  · exact ⟨by decide, by decide⟩
  · split
    · rename_i h
      exact ⟨by show 0 ≤ (valD 0 l : Int); omega, by show (valD 0 l : Int) ≤ 4294967295; have := h.2; omega⟩
    · exact ⟨by decide, by decide⟩
theorem num_some (s : ByteArray) (hs : s.size ≤ 65536) : lex_Num.f s = some (numR s.data.toList) := by
  unfold lex_Num.f
  rw [if_pos (by omega), numS_R]
def smallV (l : List UInt8) (m : Int) : Int × Bool := if (numR l).2 = true then (if (numR l).1 > m then (0, false) else ((numR l).1, true)) else (0, false)
theorem small_some (s : ByteArray) (m : Int) (hs : s.size ≤ 65536) : lex_small.f s m = some (smallV s.data.toList m) := by
  unfold lex_small.f smallV
  rw [num_some s hs, Option.bind_some]
  split
  · split <;> rfl
  · rfl
def addrV : Int → List (List UInt8) → Int × Bool
  | acc, [] => (acc, true)
  | acc, w :: ws => if (smallV w 255).2 = true then addrV ((256 * acc + (smallV w 255).1) % 4294967296) ws else (0, false)
def pc1 (c : UInt8) (l : List UInt8) : List (List UInt8) := pcs (fun b => b == c) [] l
def addrW (l : List UInt8) : Int × Bool := if (pc1 46 l).length = 4 then addrV 0 (pc1 46 l) else (0, false)
theorem smallV_bound (l : List UInt8) (m : Int) : 0 ≤ (smallV l m).1 ∧ (smallV l m).1 ≤ 4294967295 ∧ ((smallV l m).2 = true → (smallV l m).1 ≤ m) := by
  have hb := numR_bound l
  unfold smallV
  split
  · split
    · exact ⟨by decide, by decide, fun h => absurd h (by decide)⟩
    · exact ⟨hb.1, hb.2, fun _ => by show (numR l).1 ≤ m; omega⟩
  · exact ⟨by decide, by decide, fun h => absurd h (by decide)⟩
theorem or8 (x n : Int) (h0 : 0 ≤ n) (h1 : n ≤ 255) : Go.bits .or .u32 ((x * 256) % 4294967296) n = (256 * x + n) % 4294967296 := by
  rw [bits_join .u32 32 (by decide) wraps_u32 8 _ n (by omega) (by omega) (by omega) h0 (by omega) (by omega)]
  omega
theorem or16 (x n : Int) (h0 : 0 ≤ n) (h1 : n ≤ 65535) (hx0 : 0 ≤ x) (hx : x ≤ 65535) : Go.bits .or .u32 ((x * 65536) % 4294967296) n = 65536 * x + n := by
  rw [bits_join .u32 32 (by decide) wraps_u32 16 _ n (by omega) (by omega) (by omega) h0 (by omega) (by omega)]
  omega
theorem addr_loop (l : List (List UInt8)) (hl : l.length ≤ 70000) (hx : ∀ x ∈ l, x.length ≤ 65536) : ∀ (m i : Nat) (acc : Int), i + m = l.length →
    Ev (fun k => lex_Addr.l0 k acc (l.map toB) ((l.map toB).length : Int) (i : Int)) (addrV acc (l.drop i)) := by
  intro m
  induction m with
  | zero =>
    intro i acc hi
    refine Ev.step (by intro k; rw [lex_Addr.l0]) ?_
    refine Ev.ite_neg (by rw [List.length_map]; omega) ?_
    rw [List.drop_of_length_le (by omega), addrV]
    exact Ev.now _
  | succ m ih =>
    intro i acc hi
    have hlt : i < l.length := by omega
    refine Ev.step (by intro k; rw [lex_Addr.l0]) ?_
    refine Ev.ite_pos (by rw [List.length_map]; omega) (Ev.ite_pos (by omega) (Ev.ite_pos (by rw [List.length_map]; omega) ?_))
    rw [rdB _ i (by rw [List.length_map]; exact hlt), List.getElem_map, w64s i (by omega), dropc _ i hlt, small_some _ _ (by rw [toB_size]; exact hx _ (List.getElem_mem hlt)), toB_list, addrV]
    refine Ev.some ?_
    have hb := smallV_bound l[i] 255
    by_cases h : (smallV l[i] 255).2 = true
    · rw [if_pos h]
      refine Ev.ite_pos h ?_
      rw [or8 _ _ hb.1 (hb.2.2 h)]
      exact ih (i + 1) _ (by omega)
    · rw [if_neg h]
      exact Ev.ite_neg h (Ev.now _)
theorem split_some (s : ByteArray) (c : UInt8) (hs : s.size ≤ 65536) : strings_Split.f s ⟨#[c]⟩ = some ((pc1 c s.data.toList).map toB) := by
  unfold strings_Split.f
  rw [if_pos ⟨by omega, by show 1 ≤ [c].toArray.size; simp⟩, split_pcs]
  rfl
theorem addr_ev (s : ByteArray) (hs : s.size ≤ 65536) : Ev (fun k => lex_Addr.f k s) (addrW s.data.toList) := by
  refine Ev.congr (fun k => by rw [lex_Addr.f]) ?_
  rw [split_some s 46 hs]
  refine Ev.some ?_
  have hsz := Lib.size_eq s
  unfold addrW
  obtain ⟨hp, hq⟩ := pcs_len (fun b => b == 46) s.data.toList []
  by_cases h : (pc1 46 s.data.toList).length = 4
  · rw [if_pos h]
    refine Ev.ite_pos (by rw [List.length_map, h]; rfl) ?_
    have := addr_loop (pc1 46 s.data.toList) (by unfold pc1; omega) (fun x hx => by have := hq x hx; simp at this; omega) _ 0 0 (by rw [Nat.zero_add])
    rw [List.drop_zero] at this
    exact this
  · rw [if_neg h]
    exact Ev.ite_neg (by rw [List.length_map]; omega) (Ev.now _)
theorem addrV_bound : ∀ (l : List (List UInt8)) (acc : Int), 0 ≤ acc → acc ≤ 4294967295 → 0 ≤ (addrV acc l).1 ∧ (addrV acc l).1 ≤ 4294967295
  | [], acc, h0, h1 => ⟨h0, h1⟩
  | w :: ws, acc, h0, h1 => by
    rw [addrV]
    split
    · exact addrV_bound ws _ (by omega) (by omega)
    · exact ⟨by decide, by decide⟩
theorem addrW_bound (l : List UInt8) : 0 ≤ (addrW l).1 ∧ (addrW l).1 ≤ 4294967295 := by
  unfold addrW
  split
  · exact addrV_bound _ _ (by decide) (by decide)
  · exact ⟨by decide, by decide⟩
theorem index_one_ne (b c : UInt8) (h : b ≠ c) (l : List UInt8) : Lib.index (b :: l) [c] = if Lib.index l [c] == -1 then -1 else Lib.index l [c] + 1 := by
  rw [Lib.index_one, Lib.index_one, Lib.indexByte, if_neg (by simpa using h)]
theorem cut_pcs (c : UInt8) : ∀ l : List UInt8, (pc1 c l = [l] ∧ Lib.cut l [c] = (l, [], false)) ∨ ∃ x r, pc1 c l = x :: pc1 c r ∧ Lib.cut l [c] = (x, r, true) ∧ l = x ++ c :: r
  | [] => Or.inl ⟨rfl, rfl⟩
  | b :: l => by
    by_cases h : b = c
    · subst h
      refine Or.inr ⟨[], l, ?_, ?_, rfl⟩
      · unfold pc1
        rw [pcs, if_pos (by simp)]
      · have e : Lib.index (b :: l) [b] = 0 := by rw [Lib.index_one, Lib.indexByte, if_pos (by simp)]
        unfold Lib.cut
        rw [e]
        simp
    · have e := index_one_ne b c h l
      have hp : ∀ y ys, pc1 c l = y :: ys → pc1 c (b :: l) = (b :: y) :: ys := by
        intro y ys hy
        unfold pc1 at hy ⊢
        rw [pcs, if_neg (by simpa using h), List.nil_append]
        obtain ⟨x, xs, h1, h2⟩ := pcs_cur (fun b => b == c) l [b]
        rw [h2]
        rw [h1] at hy
        injection hy with q1 q2
        rw [q1, q2]
        rfl
      rcases cut_pcs c l with ⟨h1, h2⟩ | ⟨x, r, h1, h2, h3⟩
      · refine Or.inl ⟨hp _ _ h1, ?_⟩
        have hi : ¬ 0 ≤ Lib.index l [c] := by
          intro q
          unfold Lib.cut at h2
          rw [if_pos q] at h2
          injection h2 with _ h2
          injection h2 with _ h2
          exact absurd h2 (by decide)
        have hge := Lib.index_ge l [c]
        have hz : Lib.index l [c] = -1 := by omega
        have e' : Lib.index (b :: l) [c] = -1 := by rw [e, hz]; rfl
        unfold Lib.cut
        rw [e', if_neg (by decide)]
      · refine Or.inr ⟨b :: x, r, hp _ _ h1, ?_, by rw [h3]; rfl⟩
        have hi : 0 ≤ Lib.index l [c] := by
          apply Classical.byContradiction
          intro q
          unfold Lib.cut at h2
          rw [if_neg q] at h2
          injection h2 with _ h2
          injection h2 with _ h2
          exact absurd h2 (by decide)
        unfold Lib.cut at h2 ⊢
        rw [if_pos hi] at h2
        have g : ¬ (Lib.index l [c] == -1) = true := by simp; omega
        rw [e, if_neg g, if_pos (by omega)]
        have n : (Lib.index l [c] + 1).toNat = (Lib.index l [c]).toNat + 1 := by omega
        injection h2 with h4 h5
        injection h5 with h5 _
        rw [n, ← h4, ← h5, List.take_succ_cons, show (Lib.index l [c]).toNat + 1 + [c].length = (Lib.index l [c]).toNat + [c].length + 1 by omega, List.drop_succ_cons]
theorem cut_some (s : ByteArray) (c : UInt8) (hs : s.size ≤ 65536) : strings_Cut.f s ⟨#[c]⟩ = some (toB (Lib.cut s.data.toList [c]).1, toB (Lib.cut s.data.toList [c]).2.1, (Lib.cut s.data.toList [c]).2.2) := by
  unfold strings_Cut.f
  rw [if_pos (by omega)]
  rfl
theorem cut_len (c : UInt8) (l : List UInt8) : (Lib.cut l [c]).1.length ≤ l.length ∧ (Lib.cut l [c]).2.1.length ≤ l.length := by
  rcases cut_pcs c l with ⟨_, h⟩ | ⟨x, r, _, h, h3⟩
  · rw [h]; simp
  · rw [h, h3]; simp; omega
def pfxV (a n : Int × Bool) : Int × Int × Bool := if a.2 = true ∧ n.2 = true ∧ (a.1 / 2 ^ (32 - n.1).toNat * 2 ^ (32 - n.1).toNat = a.1) then (a.1, n.1, true) else (0, 0, false)
def pfxW (l : List UInt8) : Int × Int × Bool := if (Lib.cut l [47]).2.2 = true then pfxV (addrW (Lib.cut l [47]).1) (smallV (Lib.cut l [47]).2.1 32) else (0, 0, false)
theorem mask_in (a n : Int) (ha : 0 ≤ a) (ha1 : a ≤ 4294967295) (hn : 0 ≤ n) (hn1 : n ≤ 32) : route_Mask.f a n = some (a / 2 ^ (32 - n).toNat * 2 ^ (32 - n).toNat, n) := by
  have hc : mx 0 (mn n 32) = n := by rw [mx_eq, mn_eq]; omega
  have hp : (0 : Int) < 2 ^ (32 - n).toNat := Int.pow_pos (by decide)
  have h1 : 0 ≤ a / 2 ^ (32 - n).toNat * 2 ^ (32 - n).toNat := Int.mul_nonneg (Int.ediv_nonneg ha (Int.le_of_lt hp)) (Int.le_of_lt hp)
  have h2 : a / 2 ^ (32 - n).toNat * 2 ^ (32 - n).toNat ≤ a := Int.ediv_mul_le _ (by omega)
  unfold route_Mask.f
  rw [hc, u64_wrap_id a ha (by omega), u64_wrap_id _ h1 (by omega), Int.emod_eq_of_lt h1 (by omega)]
theorem pfx_ev (s : ByteArray) (hs : s.size ≤ 65536) : Ev (fun k => lex_Prefix.f k s) (pfxW s.data.toList) := by
  refine Ev.congr (fun k => by rw [lex_Prefix.f]) ?_
  have hsz := Lib.size_eq s
  obtain ⟨hl1, hl2⟩ := cut_len 47 s.data.toList
  rw [cut_some s 47 hs]
  refine Ev.some ?_
  refine Ev.bind1 _ (addr_ev _ (by show (toB _).size ≤ _; rw [toB_size]; omega)) ?_
  rw [small_some _ _ (by show (toB _).size ≤ _; rw [toB_size]; omega)]
  refine Ev.some ?_
  show Ev (fun k => if (Lib.cut s.data.toList [47]).2.2 = true then _ else _) _
  rw [toB_list, toB_list]
  unfold pfxW
  generalize hc : Lib.cut s.data.toList [47] = ct
  have hb := addrW_bound ct.1
  have hn := smallV_bound ct.2.1 32
  generalize addrW ct.1 = a at *
  generalize smallV ct.2.1 32 = n at *
  unfold pfxV
  by_cases h1 : ct.2.2 = true
  · refine Ev.ite_pos h1 ?_
    rw [if_pos h1]
    by_cases h2 : a.2 = true
    · refine Ev.ite_pos h2 ?_
      by_cases h3 : n.2 = true
      · refine Ev.ite_pos h3 ?_
        rw [w64 (by omega) (by omega), mask_in a.1 n.1 hb.1 hb.2 hn.1 (hn.2.2 h3)]
        refine Ev.some ?_
        show Ev (fun k => if (!(a.1 == a.1 / 2 ^ (32 - n.1).toNat * 2 ^ (32 - n.1).toNat) || (!(n.1 == n.1))) = true then _ else _) _
        by_cases h4 : a.1 / 2 ^ (32 - n.1).toNat * 2 ^ (32 - n.1).toNat = a.1
        · refine Ev.ite_neg (by rw [h4]; simp) ?_
          rw [if_pos ⟨h2, h3, h4⟩]
          exact Ev.now _
        · refine Ev.ite_pos ?_ ?_
          · have : (a.1 == a.1 / 2 ^ (32 - n.1).toNat * 2 ^ (32 - n.1).toNat) = false := beq_eq_false_iff_ne.mpr (fun q => h4 q.symm)
            rw [this]
            rfl
          · rw [if_neg (fun g => h4 g.2.2)]
            exact Ev.now _
      · refine Ev.ite_neg h3 ?_
        rw [if_neg (fun g => h3 g.2.1)]
        exact Ev.now _
    · refine Ev.ite_neg h2 ?_
      rw [if_neg (fun g => h2 g.1)]
      exact Ev.now _
  · refine Ev.ite_neg h1 ?_
    rw [if_neg h1]
    exact Ev.now _
def halfV (l : List UInt8) : Int × Int × Bool := if l = [42] then (0, 65535, true) else ((smallV l 65535).1, (smallV l 65535).1, (smallV l 65535).2)
theorem half_some (s : ByteArray) (hs : s.size ≤ 65536) : lex_half.f s = some (halfV s.data.toList) := by
  unfold lex_half.f halfV
  rw [Lib.toList_data]
  split
  · rfl
  · rw [small_some s _ hs]
    rfl
theorem halfV_bound (l : List UInt8) : (halfV l).2.2 = true → (0 ≤ (halfV l).1 ∧ (halfV l).1 ≤ 65535) ∧ 0 ≤ (halfV l).2.1 ∧ (halfV l).2.1 ≤ 65535 := by
  have hb := smallV_bound l 65535
  unfold halfV
  split
  · exact fun _ => ⟨⟨by decide, by decide⟩, by decide, by decide⟩
  · exact fun h => ⟨⟨hb.1, hb.2.2 h⟩, hb.1, hb.2.2 h⟩
def commV (a c : Int × Int × Bool) : Int × Int × Bool := if a.2.2 = true ∧ c.2.2 = true then (65536 * a.1 + c.1, 65536 * a.2.1 + c.2.1, true) else (0, 0, false)
def commW (l : List UInt8) : Int × Int × Bool := if (Lib.cut l [58]).2.2 = true then commV (halfV (Lib.cut l [58]).1) (halfV (Lib.cut l [58]).2.1) else (0, 0, false)
theorem comm_some (s : ByteArray) (hs : s.size ≤ 65536) : lex_Comm.f s = some (commW s.data.toList) := by
  have hsz := Lib.size_eq s
  obtain ⟨hl1, hl2⟩ := cut_len 58 s.data.toList
  unfold lex_Comm.f
  rw [cut_some s 58 hs, Option.bind_some, half_some _ (by show (toB _).size ≤ _; rw [toB_size]; omega), Option.bind_some, half_some _ (by show (toB _).size ≤ _; rw [toB_size]; omega), Option.bind_some]
  rw [toB_list, toB_list]
  unfold commW
  generalize Lib.cut s.data.toList [58] = ct
  have ha := halfV_bound ct.1
  have hc := halfV_bound ct.2.1
  generalize halfV ct.1 = a at *
  generalize halfV ct.2.1 = c at *
  unfold commV
  by_cases h1 : ct.2.2 = true
  · rw [if_pos h1, if_pos h1]
    by_cases h2 : a.2.2 = true
    · rw [if_pos h2]
      by_cases h3 : c.2.2 = true
      · obtain ⟨⟨a1, a2⟩, a3, a4⟩ := ha h2
        obtain ⟨⟨b1, b2⟩, b3, b4⟩ := hc h3
        rw [if_pos h3, if_pos ⟨h2, h3⟩, or16 _ _ b1 b2 a1 a2, or16 _ _ b3 b4 a3 a4]
      · rw [if_neg h3, if_neg (fun g => h3 g.2)]
    · rw [if_neg h2, if_neg (fun g => h2 g.1)]
  · rw [if_neg h1, if_neg h1]
def tokV (s : ByteArray) : List S54 × Int := if askV s = 0 then tokAll s else ([], askV s)
theorem tokens_ev (s : ByteArray) : Ev (fun k => lex_Tokens.f k s) (tokV s) := by
  refine Ev.congr (fun k => by rw [lex_Tokens.f]) ?_
  refine Ev.bind1 _ (ask_ev s) ?_
  unfold tokV
  by_cases h : askV s = 0
  · have h1 : ¬ 65536 < s.size := by intro q; unfold askV at h; rw [if_pos q] at h; exact absurd h (by decide)
    have h2 : s.data.toList.all mayB = true := by
      unfold askV at h
      rw [if_neg h1] at h
      by_cases g : s.data.toList.all mayB = true
      · exact g
      · rw [if_neg g] at h; exact absurd h (by decide)
    have h3 : asciiC s = true := by
      unfold asciiC
      rw [List.all_eq_true] at h2 ⊢
      intro b hb
      have := (mayB_iff b).1 (h2 b hb)
      exact decide_eq_true (by omega)
    refine Ev.ite_pos h (Ev.ite_pos ⟨by omega, h3⟩ ?_)
    rw [if_pos h]
    exact Ev.now _
  · refine Ev.ite_neg h ?_
    rw [if_neg h]
    exact Ev.now _
theorem alive_ev : Ev (fun k => dragomanlaw14_alive.f k) true := by
  refine Ev.congr (fun k => by rw [dragomanlaw14_alive.f]) ?_
  refine Ev.bind1 _ (llines_ev _) ?_
  refine Ev.bind1 _ (tokens_ev _) ?_
  refine Ev.bind1 _ (pfx_ev _ (by decide)) ?_
  refine Ev.bind1 _ (pfx_ev _ (by decide)) ?_
  rw [comm_some _ (by decide)]
  refine Ev.some ?_
  have e1 : linesV (⟨#[105, 112, 32, 112, 114, 101, 102, 105, 120, 45, 108, 105, 115, 116, 32, 97, 10, 33, 32, 120, 10, 10, 32, 115, 101, 113, 32, 32, 53]⟩ : ByteArray) = ([[⟨#[105, 112]⟩, ⟨#[112, 114, 101, 102, 105, 120, 45, 108, 105, 115, 116]⟩, ⟨#[97]⟩], [⟨#[115, 101, 113]⟩, ⟨#[53]⟩]], 0) := by kernel_rfl
  have e2 : tokV (⟨#[97, 123, 98, 32, 34, 99, 32, 100, 34, 59, 125, 32, 35, 32, 101]⟩ : ByteArray) = ([⟨119, ⟨#[97]⟩⟩, ⟨123, ⟨#[123]⟩⟩, ⟨119, ⟨#[98]⟩⟩, ⟨113, ⟨#[99, 32, 100]⟩⟩, ⟨59, ⟨#[59]⟩⟩, ⟨125, ⟨#[125]⟩⟩], 0) := by kernel_rfl
  have e3 : pfxW (⟨#[49, 48, 46, 48, 46, 48, 46, 48, 47, 56]⟩ : ByteArray).data.toList = (167772160, 8, true) := by kernel_rfl
  have e4 : pfxW (⟨#[49, 48, 46, 48, 46, 48, 46, 49, 47, 56]⟩ : ByteArray).data.toList = (0, 0, false) := by kernel_rfl
  have e5 : commW (⟨#[54, 53, 48, 48, 48, 58, 42]⟩ : ByteArray).data.toList = (4259840000, 4259905535, true) := by kernel_rfl
  rw [e1, e2, e3, e4, e5]
  refine Ev.ite_pos rfl (Ev.ite_pos rfl (Ev.ite_pos (by decide) ?_))
  refine Ev.bind1 _ (strings_ev [⟨#[115, 101, 113]⟩, ⟨#[53]⟩] (by decide)) ?_
  refine Ev.ite_pos rfl (Ev.ite_pos rfl (Ev.ite_pos rfl (Ev.ite_pos (by decide) (Ev.ite_pos ?_ (Ev.ite_pos rfl (Ev.ite_pos (by decide) (Ev.ite_neg (by decide) (Ev.ite_pos rfl ?_))))))))
  · kernel_rfl
  · exact Ev.now _
end Go.Proofs.YtdnneofebehpaaaGreatDoor.L
/- Texts, plainly: the texts of numbers, addresses, prefixes, communities and origins; what has one is told of it. -/
namespace Go.Proofs.YtdnneofebehpaaaGreatDoor.L
open Go.RowKit Go.Proofs.YtdnneofebehpaaaGreatDoorW.PrintWords Go.Proofs.YtdnneofebehpaaaGreatDoorW.PrintLast Go.Proofs.YtdnneofebehpaaaGreatDoorW.PrintMore Go.Proofs.YtdnneofebehpaaaGreatDoor.LexPlain
theorem dchar {u : Nat} (h : u < 10) : (UInt8.ofNat (48 + u)).toNat = 48 + u := UInt8.toNat_ofNat_of_lt' (by show 48 + u < 256; omega)
theorem dec_facts : ∀ (n u : Nat), u ≤ n → digD (Lib.decDigits u) = true ∧ valD 0 (Lib.decDigits u) = u := by
  intro n
  induction n with
  | zero =>
    intro u hu
    rw [Lib.decDigits_one (by omega)]
    have hc := dchar (u := u) (by omega)
    refine ⟨?_, ?_⟩
    · unfold digD
      rw [List.all_cons, Bool.and_eq_true, digB_iff, hc]
      exact ⟨by omega, rfl⟩
    · rw [valD_cons, valD_nil, hc]; omega
  | succ n ih =>
    intro u hu
    by_cases h : u < 10
    · rw [Lib.decDigits_one h]
      have hc := dchar h
      refine ⟨?_, ?_⟩
      · unfold digD
        rw [List.all_cons, Bool.and_eq_true, digB_iff, hc]
        exact ⟨by omega, rfl⟩
      · rw [valD_cons, valD_nil, hc]; omega
    · obtain ⟨i1, i2⟩ := ih (u / 10) (by omega)
      have hc := dchar (u := u % 10) (by omega)
      rw [dec_big h]
      refine ⟨?_, ?_⟩
      · unfold digD at i1 ⊢
        rw [List.all_append, i1, Bool.true_and, List.all_cons, Bool.and_eq_true, digB_iff, hc]
        exact ⟨by omega, rfl⟩
      · rw [vals_snoc, i2, hc]; omega
theorem numR_dec (u : Nat) (hu : u ≤ 4294967295) : numR (Lib.decDigits u) = ((u : Int), true) := by
  obtain ⟨d1, d2⟩ := dec_facts u u (Nat.le_refl _)
  obtain ⟨l1, l2⟩ := dec_len 9 u (by omega)
  unfold numR
  rw [if_neg, if_pos ⟨d1, by rw [d2]; exact hu⟩, d2]
  rintro (h | h | ⟨h, h'⟩)
  · omega
  · omega
  · by_cases hz : u = 0
    · subst hz
      rw [Lib.decDigits_one (by decide)] at h'
      exact absurd h' (by decide)
    · obtain ⟨a, r, e, ne⟩ := dec_head u u (Nat.le_refl _) (by omega)
      rw [e] at h
      exact ne (by simpa using h)
theorem small_dec (u m : Nat) (hu : u ≤ m) (hm : m ≤ 4294967295) : smallV (Lib.decDigits u) (m : Int) = ((u : Int), true) := by
  unfold smallV
  rw [numR_dec u (by omega)]
  simp only [if_true]
  rw [if_neg (by omega)]
theorem ntext_some (u : Nat) (hu : u < 4294967296) : lex_NumText.f (u : Int) = some (toB (Lib.decDigits u)) := by
  unfold lex_NumText.f strconv_FormatUint.f
  have e : IntKind.u64.wrap (u : Int) = (u : Int) := by
    unfold IntKind.wrap
    have h1 : ((u : Int) % (2 ^ IntKind.u64.bits : Int)) = (u : Int) := by
      show (u : Int) % (2 ^ 64 : Int) = _
      exact Int.emod_eq_of_lt (by omega) (by omega)
    simp only [h1]
    rfl
  rw [e, if_pos ⟨by omega, by omega, rfl⟩, Int.toNat_natCast]
  rfl
theorem one_char {u : Nat} (h : u < 10) : strOfNums ([((48 + (u : Int)) % 4294967296) % 256] : List Int) = toB [UInt8.ofNat (48 + u)] := by
  have e : ((48 + (u : Int)) % 4294967296) % 256 = ((48 + u : Nat) : Int) := by omega
  rw [e]
  rfl
theorem rntext_loop : ∀ (n u : Nat) (x : ByteArray), u ≤ n → u < 4294967296 → x.size + (Lib.decDigits u).length ≤ 1000 →
    Ev (fun k => dragomanref14_NumText.l0 k (u : Int) x) (toB (Lib.decDigits u) ++ x) := by
  intro n
  induction n with
  | zero =>
    intro u x hn hu hx
    refine Ev.step (by intro k; rw [dragomanref14_NumText.l0]) ?_
    refine Ev.ite_neg (by omega) (Ev.some ?_)
    rw [one_char (by omega), Lib.decDigits_one (by omega)]
    refine Ev.ite_pos (by rw [toB_size]; rw [Lib.decDigits_one (by omega)] at hx; simp at hx ⊢; omega) (Ev.now _)
  | succ n ih =>
    intro u x hn hu hx
    refine Ev.step (by intro k; rw [dragomanref14_NumText.l0]) ?_
    by_cases h : u < 10
    · refine Ev.ite_neg (by omega) (Ev.some ?_)
      rw [one_char h, Lib.decDigits_one h]
      refine Ev.ite_pos (by rw [toB_size]; rw [Lib.decDigits_one h] at hx; simp at hx ⊢; omega) (Ev.now _)
    · refine Ev.ite_pos (by omega) (Ev.some ?_)
      have e1 : Int.tmod (u : Int) 10 = ((u % 10 : Nat) : Int) := by rw [Int.tmod_eq_emod_of_nonneg (by omega)]; omega
      have e2 : Int.tdiv (u : Int) 10 % 4294967296 = ((u / 10 : Nat) : Int) := by rw [Int.tdiv_eq_ediv_of_nonneg (by omega)]; omega
      rw [e1, e2, one_char (by omega), dec_big h]
      rw [dec_big h, List.length_append] at hx
      simp only [List.length_cons, List.length_nil] at hx
      refine Ev.ite_pos (by rw [toB_size]; simp; omega) ?_
      have hb := ih (u / 10) (toB [UInt8.ofNat (48 + u % 10)] ++ x) (by omega) (by omega) (by rw [ByteArray.size_append, toB_size]; simp; omega)
      rw [← ByteArray.append_assoc, toB_append] at hb
      exact hb
theorem rntext_ev (u : Nat) (hu : u < 4294967296) : Ev (fun k => dragomanref14_NumText.f k (u : Int)) (toB (Lib.decDigits u)) := by
  have h := rntext_loop u u ⟨#[]⟩ (Nat.le_refl _) hu (by have := (dec_len 9 u (by omega)).1; have z : (⟨#[]⟩ : ByteArray).size = 0 := rfl; omega)
  have e : toB (Lib.decDigits u) ++ (⟨#[]⟩ : ByteArray) = toB (Lib.decDigits u) := by
    have := toB_append (Lib.decDigits u) []
    rw [List.append_nil] at this
    exact this
  rw [e] at h
  exact h
theorem dlen (u : Nat) (hu : u < 4294967296) : (Lib.decDigits u).length ≤ 10 := (dec_len 9 u (by omega)).1
def addrT (u : Nat) : List UInt8 := Lib.decDigits (u / 16777216) ++ 46 :: (Lib.decDigits (u / 65536 % 256) ++ 46 :: (Lib.decDigits (u / 256 % 256) ++ 46 :: Lib.decDigits (u % 256)))
theorem and255 (n : Nat) (h : n < 4294967296) : Go.bits .and .u32 (n : Int) 255 = ((n % 256 : Nat) : Int) := by
  have := bits_mask .u32 32 (by decide) wraps_u32 8 (by decide) (n : Int) (by omega) (by omega)
  rw [show (255 : Int) = 2 ^ 8 - 1 by decide, this]
  omega
theorem and65535 (n : Nat) (h : n < 4294967296) : Go.bits .and .u32 (n : Int) 65535 = ((n % 65536 : Nat) : Int) := by
  have := bits_mask .u32 32 (by decide) wraps_u32 16 (by decide) (n : Int) (by omega) (by omega)
  rw [show (65535 : Int) = 2 ^ 16 - 1 by decide, this]
  omega
theorem shr_at (u : Nat) (j : Nat) (hj : j ≤ 32) : shr .u32 (u : Int) (j : Int) = ((u / 2 ^ j : Nat) : Int) := by
  unfold shr
  rw [Int.toNat_natCast, Nat.min_eq_left (show j ≤ IntKind.u32.bits from hj)]
  norm_cast
theorem atext_ev (u : Nat) (hu : u < 4294967296) : Ev (fun k => lex_AddrText.f k (u : Int)) (toB (addrT u)) := by
  have one : ∀ (j : Nat) (x : List ByteArray) (R : ByteArray), j ≤ 24 → x.length ≤ 4 → Ev (fun k => lex_AddrText.l0 k (u : Int) (x ++ [toB (Lib.decDigits (u / 2 ^ j % 256))]) ((j : Int) - 8)) R →
      Ev (fun k => lex_AddrText.l0 k (u : Int) x (j : Int)) R := by
    intro j x R hj hx hR
    refine Ev.step (by intro k; rw [lex_AddrText.l0]) ?_
    refine Ev.ite_pos (by omega) (Ev.ite_pos (by omega) ?_)
    have hd : u / 2 ^ j < 4294967296 := Nat.lt_of_le_of_lt (Nat.div_le_self _ _) hu
    rw [shr_at u j (by omega), and255 _ hd, ntext_some _ (by omega), w64 (by omega) (by omega)]
    exact Ev.some (Ev.ite_pos (by omega) hR)
  unfold lex_AddrText.f
  refine one 24 [] _ (by decide) (by simp) ?_
  refine one 16 _ _ (by decide) (by simp) ?_
  refine one 8 _ _ (by decide) (by simp) ?_
  refine one 0 _ _ (by decide) (by simp) ?_
  refine Ev.step (by intro k; rw [lex_AddrText.l0]) ?_
  refine Ev.ite_neg (by decide) ?_
  unfold strings_Join.f
  have d0 := dlen (u / 2 ^ 24 % 256) (by omega)
  have d1 := dlen (u / 2 ^ 16 % 256) (by omega)
  have d2 := dlen (u / 2 ^ 8 % 256) (by omega)
  have d3 := dlen (u / 2 ^ 0 % 256) (by omega)
  have e0 : u / 2 ^ 24 % 256 = u / 16777216 := by omega
  have e1 : u / 2 ^ 16 % 256 = u / 65536 % 256 := by omega
  have e2 : u / 2 ^ 8 % 256 = u / 256 % 256 := by omega
  have e3 : u / 2 ^ 0 % 256 = u % 256 := by omega
  rw [e0] at d0 ⊢
  rw [e1] at d1 ⊢
  rw [e2] at d2 ⊢
  rw [e3] at d3 ⊢
  have hj : Lib.join (([] ++ [toB (Lib.decDigits (u / 16777216))] ++ [toB (Lib.decDigits (u / 65536 % 256))] ++ [toB (Lib.decDigits (u / 256 % 256))] ++ [toB (Lib.decDigits (u % 256))]).map (fun x : ByteArray => x.data.toList)) (⟨#[46]⟩ : ByteArray).data.toList = addrT u := by
    unfold addrT
    simp only [List.nil_append, List.cons_append, List.map_cons, List.map_nil, toB_list, Lib.join, List.intercalate]
    simp
  have hl : (addrT u).length ≤ 140737488355328 := by
    unfold addrT
    simp only [List.length_append, List.length_cons]
    omega
  rw [if_pos ⟨by simp, by simp, by rw [hj]; exact hl⟩, hj]
  exact Ev.now _
end Go.Proofs.YtdnneofebehpaaaGreatDoor.L
/- Texts, plainly, two: the reference's address, prefixes, communities, origins. -/
namespace Go.Proofs.YtdnneofebehpaaaGreatDoor.L
open Go.RowKit Go.Proofs.YtdnneofebehpaaaGreatDoorW.PrintWords Go.Proofs.YtdnneofebehpaaaGreatDoorW.PrintLast Go.Proofs.YtdnneofebehpaaaGreatDoorW.PrintMore Go.Proofs.YtdnneofebehpaaaGreatDoor.LexPlain
theorem evq {α : Type} {r r' : α} (h : r = r') : Ev (fun _ => Option.some r) r' := h ▸ Ev.now r
theorem dot46 : (⟨#[46]⟩ : ByteArray) = toB [46] := rfl
theorem dot47 : (⟨#[47]⟩ : ByteArray) = toB [47] := rfl
theorem dot58 : (⟨#[58]⟩ : ByteArray) = toB [58] := rfl
theorem dot45 : (⟨#[45]⟩ : ByteArray) = toB [45] := rfl
theorem ratext_ev (u : Nat) (hu : u < 4294967296) : Ev (fun k => dragomanref14_AddrText.f k (u : Int)) (toB (addrT u)) := by
  have a0 : Int.tdiv (u : Int) 16777216 % 4294967296 = ((u / 16777216 : Nat) : Int) := by rw [Int.tdiv_eq_ediv_of_nonneg (by omega)]; omega
  have a1 : Int.tdiv (u : Int) 65536 % 4294967296 % 256 = ((u / 65536 % 256 : Nat) : Int) := by rw [Int.tdiv_eq_ediv_of_nonneg (by omega)]; omega
  have a2 : Int.tdiv (u : Int) 256 % 4294967296 % 256 = ((u / 256 % 256 : Nat) : Int) := by rw [Int.tdiv_eq_ediv_of_nonneg (by omega)]; omega
  have a3 : Int.tmod (u : Int) 256 = ((u % 256 : Nat) : Int) := by rw [Int.tmod_eq_emod_of_nonneg (by omega)]; omega
  have d0 := dlen (u / 16777216) (by omega)
  have d1 := dlen (u / 65536 % 256) (by omega)
  have d2 := dlen (u / 256 % 256) (by omega)
  have d3 := dlen (u % 256) (by omega)
  refine Ev.congr (fun k => by rw [dragomanref14_AddrText.f, a0, a1, a2, a3, dot46]) ?_
  refine Ev.bind1 _ (rntext_ev _ (by omega)) (Ev.ite_pos (by simp only [toB_size]; omega) ?_)
  refine Ev.bind1 _ (rntext_ev _ (by omega)) (Ev.ite_pos (by simp only [toB_append, toB_size, List.length_append, List.length_cons, List.length_nil]; omega) ?_)
  refine Ev.ite_pos (by simp only [toB_append, toB_size, List.length_append, List.length_cons, List.length_nil]; omega) ?_
  refine Ev.bind1 _ (rntext_ev _ (by omega)) (Ev.ite_pos (by simp only [toB_append, toB_size, List.length_append, List.length_cons, List.length_nil]; omega) ?_)
  refine Ev.ite_pos (by simp only [toB_append, toB_size, List.length_append, List.length_cons, List.length_nil]; omega) ?_
  refine Ev.bind1 _ (rntext_ev _ (by omega)) (Ev.ite_pos (by simp only [toB_append, toB_size, List.length_append, List.length_cons, List.length_nil]; omega) ?_)
  refine evq ?_
  simp only [toB_append]
  unfold addrT
  simp only [List.append_assoc, List.cons_append, List.nil_append]
theorem one_charI {u : Nat} (h : u < 10) : strOfNums ([wrap64 (48 + (u : Int)) % 256] : List Int) = toB [UInt8.ofNat (48 + u)] := by
  have e : wrap64 (48 + (u : Int)) % 256 = ((48 + u : Nat) : Int) := by rw [w64 (by omega) (by omega)]; omega
  rw [e]
  rfl
theorem digits_loop : ∀ (n u : Nat) (x : ByteArray), u ≤ n → u < 9223372036854775808 → x.size + (Lib.decDigits u).length ≤ 1000 →
    Ev (fun k => dragomanref14_Digits.l0 k (u : Int) x) (toB (Lib.decDigits u) ++ x) := by
  intro n
  induction n with
  | zero =>
    intro u x hn hu hx
    refine Ev.step (by intro k; rw [dragomanref14_Digits.l0]) ?_
    refine Ev.ite_neg (by omega) (Ev.some ?_)
    rw [one_charI (by omega), Lib.decDigits_one (by omega)]
    refine Ev.ite_pos (by rw [toB_size]; rw [Lib.decDigits_one (by omega)] at hx; simp at hx ⊢; omega) (Ev.now _)
  | succ n ih =>
    intro u x hn hu hx
    refine Ev.step (by intro k; rw [dragomanref14_Digits.l0]) ?_
    by_cases h : u < 10
    · refine Ev.ite_neg (by omega) (Ev.some ?_)
      rw [one_charI h, Lib.decDigits_one h]
      refine Ev.ite_pos (by rw [toB_size]; rw [Lib.decDigits_one h] at hx; simp at hx ⊢; omega) (Ev.now _)
    · refine Ev.ite_pos (by omega) (Ev.some ?_)
      have e1 : Int.tmod (u : Int) 10 = ((u % 10 : Nat) : Int) := by rw [Int.tmod_eq_emod_of_nonneg (by omega)]; omega
      have e2 : Int.tdiv (u : Int) 10 = ((u / 10 : Nat) : Int) := by rw [Int.tdiv_eq_ediv_of_nonneg (by omega)]; omega
      rw [e1, e2, w64 (i := ((u / 10 : Nat) : Int)) (by omega) (by omega), one_charI (by omega), dec_big h]
      rw [dec_big h, List.length_append] at hx
      simp only [List.length_cons, List.length_nil] at hx
      refine Ev.ite_pos (by rw [toB_size]; simp; omega) ?_
      have hb := ih (u / 10) (toB [UInt8.ofNat (48 + u % 10)] ++ x) (by omega) (by omega) (by rw [ByteArray.size_append, toB_size]; simp; omega)
      rw [← ByteArray.append_assoc, toB_append] at hb
      exact hb
theorem neg_char {u : Nat} (h : u < 10) : strOfNums ([wrap64 (48 - (-(u : Int))) % 256] : List Int) = toB [UInt8.ofNat (48 + u)] := by
  have e : wrap64 (48 - (-(u : Int))) % 256 = ((48 + u : Nat) : Int) := by rw [w64 (by omega) (by omega)]; omega
  rw [e]
  rfl
theorem dlen20 (u : Nat) (hu : u ≤ 9223372036854775808) : (Lib.decDigits u).length ≤ 20 := (dec_len 19 u (by omega)).1
theorem digits_neg : ∀ (n u : Nat), u ≤ n → 1 ≤ u → u ≤ 9223372036854775808 → Ev (fun k => dragomanref14_Digits.f k (-(u : Int))) (toB (45 :: Lib.decDigits u)) := by
  intro n
  induction n with
  | zero => intro u h h1; omega
  | succ n ih =>
    intro u hn h1 hu
    refine Ev.step (by intro k; rw [dragomanref14_Digits.f]) ?_
    refine Ev.ite_neg (by omega) ?_
    by_cases h : u < 10
    · refine Ev.ite_pos (by omega) (Ev.some ?_)
      rw [neg_char h, Lib.decDigits_one h, dot45, toB_append]
      exact Ev.ite_pos (by rw [toB_size]; simp) (Ev.now _)
    · refine Ev.ite_neg (by omega) ?_
      have e1 : Int.tmod (-(u : Int)) 10 = -((u % 10 : Nat) : Int) := by rw [Int.neg_tmod, Int.tmod_eq_emod_of_nonneg (by omega)]; omega
      have e2 : Int.tdiv (-(u : Int)) 10 = -((u / 10 : Nat) : Int) := by rw [Int.neg_tdiv, Int.tdiv_eq_ediv_of_nonneg (by omega)]; omega
      rw [e1, e2, w64 (i := -((u / 10 : Nat) : Int)) (by omega) (by omega)]
      refine Ev.bind1 _ (ih (u / 10) (by omega) (by omega) (by omega)) (Ev.some ?_)
      have hl := dlen20 (u / 10) (by omega)
      rw [neg_char (u := u % 10) (by omega)]
      refine Ev.ite_pos (by simp only [toB_size, List.length_cons, List.length_nil]; omega) (evq ?_)
      rw [toB_append, dec_big h, List.cons_append]
theorem digits_ev (a : Int) (h0 : -9223372036854775808 ≤ a) (h1 : a ≤ 9223372036854775807) : Ev (fun k => dragomanref14_Digits.f k a) (toB (Lib.itoa a)) := by
  by_cases hn : 0 ≤ a
  · obtain ⟨u, rfl⟩ : ∃ u : Nat, a = (u : Int) := ⟨a.toNat, by omega⟩
    rw [Lib.itoa_nonneg]
    refine Ev.step (by intro k; rw [dragomanref14_Digits.f]) ?_
    refine Ev.ite_pos (by omega) ?_
    have z : (⟨#[]⟩ : ByteArray).size = 0 := rfl
    have h := digits_loop u u ⟨#[]⟩ (Nat.le_refl _) (by omega) (by have := dlen20 u (by omega); omega)
    have e : toB (Lib.decDigits u) ++ (⟨#[]⟩ : ByteArray) = toB (Lib.decDigits u) := by
      have := toB_append (Lib.decDigits u) []
      rw [List.append_nil] at this
      exact this
    rw [e] at h
    exact h
  · obtain ⟨u, rfl⟩ : ∃ u : Nat, a = -(u : Int) := ⟨(-a).toNat, by omega⟩
    rw [Lib.itoa_neg u (by omega)]
    exact digits_neg u u (Nat.le_refl _) (by omega) (by omega)
theorem itoa_len (a : Int) (h0 : -9223372036854775808 ≤ a) (h1 : a ≤ 9223372036854775807) : (Lib.itoa a).length ≤ 21 := by
  unfold Lib.itoa
  split
  · have := dlen20 a.natAbs (by omega)
    simp only [List.length_cons]; omega
  · have := dlen20 a.toNat (by omega)
    omega
theorem addrT_len (u : Nat) (hu : u < 4294967296) : (addrT u).length ≤ 43 := by
  have d0 := dlen (u / 16777216) (by omega)
  have d1 := dlen (u / 65536 % 256) (by omega)
  have d2 := dlen (u / 256 % 256) (by omega)
  have d3 := dlen (u % 256) (by omega)
  unfold addrT
  simp only [List.length_append, List.length_cons]
  omega
theorem ptext_ev (u : Nat) (hu : u < 4294967296) (a : Int) (h0 : -9223372036854775808 ≤ a) (h1 : a ≤ 9223372036854775807) : Ev (fun k => lex_PrefixText.f k (u : Int) a) (toB (addrT u ++ 47 :: Lib.itoa a)) := by
  have hl := addrT_len u hu
  have hi := itoa_len a h0 h1
  refine Ev.congr (fun k => by rw [lex_PrefixText.f, dot47]) ?_
  refine Ev.bind1 _ (atext_ev u hu) (Ev.ite_pos (by rw [toB_size]; omega) ?_)
  unfold strconv_Itoa.f
  rw [if_pos ⟨h0, h1⟩]
  refine Ev.some (Ev.ite_pos (by show (toB (addrT u) ++ toB [47]).size + (toB (Lib.itoa a)).size ≤ _; simp only [toB_append, toB_size, List.length_append, List.length_cons, List.length_nil]; omega) (evq ?_))
  show (toB (addrT u) ++ toB [47]) ++ toB (Lib.itoa a) = _
  simp only [toB_append, List.append_assoc, List.cons_append, List.nil_append]
theorem rptext_ev (u : Nat) (hu : u < 4294967296) (a : Int) (h0 : -9223372036854775808 ≤ a) (h1 : a ≤ 9223372036854775807) : Ev (fun k => dragomanref14_PrefixText.f k (u : Int) a) (toB (addrT u ++ 47 :: Lib.itoa a)) := by
  have hl := addrT_len u hu
  have hi := itoa_len a h0 h1
  refine Ev.congr (fun k => by rw [dragomanref14_PrefixText.f, dot47]) ?_
  refine Ev.bind1 _ (ratext_ev u hu) (Ev.ite_pos (by rw [toB_size]; omega) ?_)
  refine Ev.bind1 _ (digits_ev a h0 h1) (Ev.ite_pos (by simp only [toB_append, toB_size, List.length_append, List.length_cons, List.length_nil]; omega) (evq ?_))
  simp only [toB_append, List.append_assoc, List.cons_append, List.nil_append]
def halfT (p q : Nat) : Option (List UInt8) := if p = q then some (Lib.decDigits p) else if p = 0 ∧ q = 65535 then some [42] else none
def pairT (x : Option (List UInt8)) : ByteArray × Bool := match x with
  | some t => (toB t, true)
  | none => (⟨#[]⟩, false)
def commJ (x y : Option (List UInt8)) : Option (List UInt8) := x.bind fun s => y.bind fun t => some (s ++ 58 :: t)
theorem halftext_some (p q : Nat) (hp : p < 4294967296) : lex_halfText.f (p : Int) (q : Int) = some (pairT (halfT p q)) := by
  unfold lex_halfText.f halfT
  by_cases c : p = q
  · subst c
    rw [if_pos rfl, if_pos rfl, ntext_some p hp]
    rfl
  · rw [if_neg (by omega), if_neg c]
    by_cases d : p = 0
    · rw [if_pos (by omega)]
      by_cases e : q = 65535
      · rw [if_pos (by omega), if_pos ⟨d, e⟩]; rfl
      · rw [if_neg (by omega), if_neg (fun h => e h.2)]; rfl
    · rw [if_neg (by omega), if_neg (fun h => d h.1)]; rfl
theorem halfT_len {p q : Nat} {t : List UInt8} (hp : p < 4294967296) (h : halfT p q = some t) : t.length ≤ 10 := by
  unfold halfT at h
  split at h
  · injection h with h; subst h; exact dlen p hp
  · split at h
    · injection h with h; subst h; decide
    · exact absurd h (by simp)
theorem commtext_some (lo hi : Nat) (hl : lo < 4294967296) (hh : hi < 4294967296) : lex_CommText.f (lo : Int) (hi : Int) = some (pairT (commJ (halfT (lo / 65536) (hi / 65536)) (halfT (lo % 65536) (hi % 65536)))) := by
  unfold lex_CommText.f
  have e0 : (lo : Int) / 65536 = ((lo / 65536 : Nat) : Int) := by omega
  have e1 : (hi : Int) / 65536 = ((hi / 65536 : Nat) : Int) := by omega
  rw [e0, e1, and65535 lo hl, and65535 hi hh, halftext_some _ _ (by omega), Option.bind_some, halftext_some _ _ (by omega), Option.bind_some]
  rcases hx : halfT (lo / 65536) (hi / 65536) with _ | x
  · rfl
  rcases hy : halfT (lo % 65536) (hi % 65536) with _ | y
  · rfl
  have lx := halfT_len (by omega) hx
  have ly := halfT_len (by omega) hy
  show (if true = true then (if true = true then (if (toB x).size + 1 ≤ 9223372036854775807 then (if (toB x ++ toB [58]).size + (toB y).size ≤ 9223372036854775807 then some ((toB x ++ toB [58]) ++ toB y, true) else none) else none) else some (⟨#[]⟩, false)) else some (⟨#[]⟩, false)) = _
  rw [if_pos rfl, if_pos rfl, if_pos (by rw [toB_size]; omega), if_pos (by simp only [toB_append, toB_size, List.length_append, List.length_cons, List.length_nil]; omega)]
  simp only [toB_append, List.append_assoc, List.cons_append, List.nil_append]
  rfl
theorem halfR_ev (p q : Nat) (hp : p < 4294967296) : Ev (fun k => halfR k (p : Int) (q : Int)) ((halfT p q).map toB) := by
  refine Ev.congr (fun k => by rw [halfR]) ?_
  unfold halfT
  by_cases c : p = q
  · subst c
    rw [if_pos rfl]
    refine Ev.ite_pos rfl (Ev.bind1 _ (rntext_ev p hp) ?_)
    exact Ev.ite_pos (by rw [toB_size]; have := dlen p hp; omega) (Ev.now _)
  · rw [if_neg c]
    refine Ev.ite_neg (by omega) ?_
    by_cases d : p = 0 ∧ q = 65535
    · rw [if_pos d]
      exact Ev.ite_pos (by omega) (Ev.now _)
    · rw [if_neg d]
      exact Ev.ite_neg (by omega) (Ev.now _)
theorem rcommtext_ev (lo hi : Nat) (hl : lo < 4294967296) (hh : hi < 4294967296) : Ev (fun k => dragomanref14_CommText.f k (lo : Int) (hi : Int)) (pairT (commJ (halfT (lo / 65536) (hi / 65536)) (halfT (lo % 65536) (hi % 65536)))) := by
  have e0 : (lo : Int) / 65536 = ((lo / 65536 : Nat) : Int) := by omega
  have e1 : (hi : Int) / 65536 = ((hi / 65536 : Nat) : Int) := by omega
  have e2 : (lo : Int) % 65536 = ((lo % 65536 : Nat) : Int) := by omega
  have e3 : (hi : Int) % 65536 = ((hi % 65536 : Nat) : Int) := by omega
  refine Ev.congr (fun k => by rw [dragomanref14_CommText.f, if_pos ⟨by omega, by omega, by omega, by omega⟩, e0, e1, e2, e3, commR0]) ?_
  refine Ev.bind1 _ (halfR_ev _ _ (by omega)) ?_
  rcases hx : halfT (lo / 65536) (hi / 65536) with _ | x
  · exact Ev.now _
  show Ev (fun k => commR1 k _ _ (toB x)) _
  refine Ev.congr (fun k => by rw [commR1]) ?_
  refine Ev.bind1 _ (halfR_ev _ _ (by omega)) ?_
  rcases hy : halfT (lo % 65536) (hi % 65536) with _ | y
  · exact Ev.now _
  refine evq ?_
  show ((toB x ++ (⟨#[58]⟩ : ByteArray)) ++ toB y, true) = (toB (x ++ 58 :: y), true)
  rw [dot58]
  simp only [toB_append, List.append_assoc, List.cons_append, List.nil_append]
end Go.Proofs.YtdnneofebehpaaaGreatDoor.L
/- LexTexts, plainly: what has a text is told of it. -/
namespace Go.Proofs.YtdnneofebehpaaaGreatDoor.L
open Go.RowKit Go.Proofs.YtdnneofebehpaaaGreatDoorW.PrintWords Go.Proofs.YtdnneofebehpaaaGreatDoorW.PrintLast Go.Proofs.YtdnneofebehpaaaGreatDoorW.PrintMore Go.Proofs.YtdnneofebehpaaaGreatDoor.LexPlain
theorem pcs_at (c : UInt8) : ∀ (x cur r : List UInt8), (∀ b ∈ x, b ≠ c) → pcs (fun b => b == c) cur (x ++ c :: r) = (cur ++ x) :: pcs (fun b => b == c) [] r
  | [], cur, r, _ => by
    rw [List.nil_append, pcs, if_pos (by simp), List.append_nil]
  | b :: x, cur, r, h => by
    rw [List.cons_append, pcs, if_neg (by simpa using h b (by simp)), pcs_at c x (cur ++ [b]) r (fun d hd => h d (by simp [hd]))]
    simp
theorem pcs_end (c : UInt8) : ∀ (x cur : List UInt8), (∀ b ∈ x, b ≠ c) → pcs (fun b => b == c) cur x = [cur ++ x]
  | [], cur, _ => by rw [pcs, List.append_nil]
  | b :: x, cur, h => by
    rw [pcs, if_neg (by simpa using h b (by simp)), pcs_end c x (cur ++ [b]) (fun d hd => h d (by simp [hd]))]
    simp
theorem pc1_at (c : UInt8) (x r : List UInt8) (h : ∀ b ∈ x, b ≠ c) : pc1 c (x ++ c :: r) = x :: pc1 c r := by
  unfold pc1
  rw [pcs_at c x [] r h, List.nil_append]
theorem pc1_end (c : UInt8) (x : List UInt8) (h : ∀ b ∈ x, b ≠ c) : pc1 c x = [x] := by
  unfold pc1
  rw [pcs_end c x [] h, List.nil_append]
theorem dec_no {u : Nat} {c : UInt8} (hc : digB c = false) : ∀ b ∈ Lib.decDigits u, b ≠ c := by
  intro b hb e
  have h := (dec_facts u u (Nat.le_refl _)).1
  unfold digD at h
  have := List.all_eq_true.1 h b hb
  rw [e, hc] at this
  exact absurd this (by decide)
theorem addrW_T (u : Nat) (hu : u < 4294967296) : addrW (addrT u) = ((u : Int), true) := by
  have n46 : ∀ v : Nat, ∀ b ∈ Lib.decDigits v, b ≠ 46 := fun v => dec_no (by decide)
  have hp : pc1 46 (addrT u) = [Lib.decDigits (u / 16777216), Lib.decDigits (u / 65536 % 256), Lib.decDigits (u / 256 % 256), Lib.decDigits (u % 256)] := by
    unfold addrT
    rw [pc1_at 46 _ _ (n46 _), pc1_at 46 _ _ (n46 _), pc1_at 46 _ _ (n46 _), pc1_end 46 _ (n46 _)]
  have s0 := small_dec (u / 16777216) 255 (by omega) (by omega)
  have s1 := small_dec (u / 65536 % 256) 255 (by omega) (by omega)
  have s2 := small_dec (u / 256 % 256) 255 (by omega) (by omega)
  have s3 := small_dec (u % 256) 255 (by omega) (by omega)
  unfold addrW
  have h4 : (pc1 46 (addrT u)).length = 4 := by rw [hp]; rfl
  rw [if_pos h4, hp]
  simp only [addrV]
  rw [show (255 : Int) = ((255 : Nat) : Int) from rfl, s0, s1, s2, s3]
  simp only [if_true, Prod.mk.injEq, and_true]
  omega
theorem cut_at (c : UInt8) (x r : List UInt8) (h : ∀ b ∈ x, b ≠ c) : Lib.cut (x ++ c :: r) [c] = (x, r, true) := by
  rcases cut_pcs c (x ++ c :: r) with ⟨e, _⟩ | ⟨x', r', e, e2, e3⟩
  · rw [pc1_at c x r h] at e
    injection e with _ e
    exact absurd e (pcs_ne _ _ _)
  · rw [pc1_at c x r h] at e
    injection e with e _
    subst e
    have := List.append_cancel_left e3
    injection this with _ e4
    rw [e2, e4]
theorem halfV_T {p q : Nat} {t : List UInt8} (hp : p ≤ 65535) (hq : q ≤ 65535) (h : halfT p q = some t) : halfV t = ((p : Int), (q : Int), true) ∧ ∀ b ∈ t, b ≠ 58 := by
  unfold halfT at h
  split at h
  · rename_i e
    subst e
    injection h with h
    subst h
    refine ⟨?_, dec_no (by decide)⟩
    unfold halfV
    rw [if_neg, show (65535 : Int) = ((65535 : Nat) : Int) from rfl, small_dec p 65535 hp (by omega)]
    intro e
    exact dec_no (u := p) (c := 42) (by decide) 42 (by rw [e]; simp) rfl
  · split at h
    · rename_i e
      injection h with h
      subst h
      obtain ⟨rfl, rfl⟩ := e
      exact ⟨by unfold halfV; rw [if_pos rfl]; rfl, by decide⟩
    · exact absurd h (by simp)
theorem commW_T {lo hi : Nat} (hl : lo < 4294967296) (hh : hi < 4294967296) {t : List UInt8} (h : commJ (halfT (lo / 65536) (hi / 65536)) (halfT (lo % 65536) (hi % 65536)) = some t) : commW t = ((lo : Int), (hi : Int), true) := by
  rcases hx : halfT (lo / 65536) (hi / 65536) with _ | x
  · rw [hx] at h; exact absurd h (by simp [commJ])
  rcases hy : halfT (lo % 65536) (hi % 65536) with _ | y
  · rw [hx, hy] at h; exact absurd h (by simp [commJ])
  rw [hx, hy] at h
  obtain rfl : x ++ 58 :: y = t := Option.some.inj h
  obtain ⟨vx, nx⟩ := halfV_T (by omega) (by omega) hx
  obtain ⟨vy, _⟩ := halfV_T (by omega) (by omega) hy
  unfold commW
  rw [cut_at 58 x y nx]
  show (if true = true then commV (halfV x) (halfV y) else (0, 0, false)) = _
  rw [if_pos rfl, vx, vy]
  unfold commV
  rw [if_pos ⟨rfl, rfl⟩]
  simp only [Prod.mk.injEq, and_true]
  omega
theorem commJ_len {lo hi : Nat} (hl : lo < 4294967296) (hh : hi < 4294967296) {t : List UInt8} (h : commJ (halfT (lo / 65536) (hi / 65536)) (halfT (lo % 65536) (hi % 65536)) = some t) : t.length ≤ 21 := by
  rcases hx : halfT (lo / 65536) (hi / 65536) with _ | x
  · rw [hx] at h; exact absurd h (by simp [commJ])
  rcases hy : halfT (lo % 65536) (hi % 65536) with _ | y
  · rw [hx, hy] at h; exact absurd h (by simp [commJ])
  rw [hx, hy] at h
  obtain rfl : x ++ 58 :: y = t := Option.some.inj h
  have lx := halfT_len (by omega) hx
  have ly := halfT_len (by omega) hy
  simp only [List.length_append, List.length_cons]
  omega
theorem comm_back (lo hi : Nat) (hl : lo < 4294967296) (hh : hi < 4294967296) (v : ByteArray × Bool) (hv : v = pairT (commJ (halfT (lo / 65536) (hi / 65536)) (halfT (lo % 65536) (hi % 65536)))) :
    ∃ b, lex_Comm.f v.1 = some b ∧ b.2.2 = v.2 ∧ (v.2 = true → b.1 = (lo : Int) ∧ b.2.1 = (hi : Int)) := by
  rcases hj : commJ (halfT (lo / 65536) (hi / 65536)) (halfT (lo % 65536) (hi % 65536)) with _ | t
  · rw [hj] at hv
    subst hv
    refine ⟨_, comm_some _ (by show (⟨#[]⟩ : ByteArray).size ≤ _; exact Nat.zero_le _), ?_, ?_⟩
    · show (commW []).2.2 = false
      decide
    · intro h; exact absurd h (by decide)
  · rw [hj] at hv
    subst hv
    have hlen := commJ_len hl hh hj
    have hs : (toB t).size ≤ 65536 := by rw [toB_size]; omega
    have hc := comm_some (toB t) hs
    rw [toB_list, commW_T hl hh hj] at hc
    exact ⟨_, hc, rfl, fun _ => ⟨rfl, rfl⟩⟩
theorem lorig (l : List UInt8) : lex_Origin.f (toB l) = if l = [105, 103, 112] then some (0, true) else if l = [101, 103, 112] then some (1, true) else if l = [105, 110, 99, 111, 109, 112, 108, 101, 116, 101] then some (2, true) else some (0, false) := by
  unfold lex_Origin.f
  simp only [toB_tl]
theorem orig_back (o : Int) : ∃ v, lex_OriginText.f o = some v ∧ dragomanref14_OriginText.f o = some v ∧ ∃ b, lex_Origin.f v.1 = some b ∧ b.2 = v.2 ∧ (v.2 = true → b.1 = o) := by
  by_cases h0 : o = 0
  · subst h0; exact ⟨(toB [105, 103, 112], true), rfl, rfl, (0, true), by rw [lorig]; rfl, rfl, fun _ => rfl⟩
  by_cases h1 : o = 1
  · subst h1; exact ⟨(toB [101, 103, 112], true), rfl, rfl, (1, true), by rw [lorig]; rfl, rfl, fun _ => rfl⟩
  by_cases h2 : o = 2
  · subst h2; exact ⟨(toB [105, 110, 99, 111, 109, 112, 108, 101, 116, 101], true), rfl, rfl, (2, true), by rw [lorig]; rfl, rfl, fun _ => rfl⟩
  refine ⟨(toB [], false), ?_, ?_, (0, false), by rw [lorig]; rfl, rfl, fun h => absurd h (by decide)⟩
  · unfold lex_OriginText.f
    rw [if_neg h0, if_neg h1, if_neg h2]
    rfl
  · unfold dragomanref14_OriginText.f
    by_cases hn : o < 0
    · rw [if_pos hn]; rfl
    · rw [if_neg hn, if_pos (by omega)]; rfl
theorem texts_ev (n p a lo hi o : Int) (hn : 0 ≤ n ∧ n < 4294967296) (hp : 0 ≤ p ∧ p < 4294967296) (ha : -9223372036854775808 ≤ a ∧ a ≤ 9223372036854775807) (hlo : 0 ≤ lo ∧ lo < 4294967296) (hhi : 0 ≤ hi ∧ hi < 4294967296) :
    Ev (fun k => dragomanlaw14_LexTexts.f k n p a lo hi o) true := by
  obtain ⟨n, rfl⟩ : ∃ u : Nat, n = (u : Int) := ⟨n.toNat, by omega⟩
  obtain ⟨p, rfl⟩ : ∃ u : Nat, p = (u : Int) := ⟨p.toNat, by omega⟩
  obtain ⟨lo, rfl⟩ : ∃ u : Nat, lo = (u : Int) := ⟨lo.toNat, by omega⟩
  obtain ⟨hi, rfl⟩ : ∃ u : Nat, hi = (u : Int) := ⟨hi.toNat, by omega⟩
  obtain ⟨w, w1, w2, bo, w3, w4, w5⟩ := orig_back o
  generalize hv : pairT (commJ (halfT (lo / 65536) (hi / 65536)) (halfT (lo % 65536) (hi % 65536))) = v
  obtain ⟨bc, c1, c2, c3⟩ := comm_back lo hi (by omega) (by omega) v hv.symm
  have t1 := commtext_some lo hi (by omega) (by omega)
  have t2 := rcommtext_ev lo hi (by omega) (by omega)
  rw [hv] at t1 t2
  have n1 := ntext_some n (by omega)
  have n2 : lex_Num.f (toB (Lib.decDigits n)) = some ((n : Int), true) := by
    have hl := dlen n (by omega)
    rw [num_some _ (by rw [toB_size]; omega), toB_list, numR_dec n (by omega)]
  have a2 : Ev (fun k => lex_Addr.f k (toB (addrT n))) ((n : Int), true) := by
    have hl := addrT_len n (by omega)
    have := addr_ev (toB (addrT n)) (by rw [toB_size]; omega)
    rw [toB_list, addrW_T n (by omega)] at this
    exact this
  refine Ev.congr (fun k => by rw [dragomanlaw14_LexTexts.f, t1, w1, w2, n1]) ?_
  refine Ev.bind1 _ alive_ev (Ev.ite_pos rfl (Ev.some (Ev.bind1 _ t2 (Ev.some (Ev.some (Ev.some ?_))))))
  refine Ev.bind1 _ (rntext_ev n (by omega)) (Ev.ite_pos rfl ?_)
  refine Ev.bind1 _ (atext_ev n (by omega)) (Ev.bind1 _ (ratext_ev n (by omega)) (Ev.ite_pos rfl ?_))
  refine Ev.bind1 _ (ptext_ev p (by omega) a ha.1 ha.2) (Ev.bind1 _ (rptext_ev p (by omega) a ha.1 ha.2) (Ev.ite_pos rfl ?_))
  refine Ev.ite_pos rfl (Ev.ite_neg (by simp) (Ev.ite_pos rfl (Ev.ite_neg (by simp) ?_)))
  refine Ev.some ?_
  rw [n2]
  refine Ev.some (Ev.bind1 _ (atext_ev n (by omega)) (Ev.bind1 _ a2 ?_))
  rw [c1]
  refine Ev.some ?_
  rw [w3]
  refine Ev.some (Ev.ite_pos rfl (Ev.ite_pos rfl (Ev.ite_pos rfl (Ev.ite_pos rfl (Ev.ite_pos (by simpa using c2) ?_)))))
  have last : Ev (fun _ : Nat => if (bo.2 == w.2) = true then (if w.2 = true then some (bo.1 == o) else some true) else none) true := by
    refine Ev.ite_pos (by simpa using w4) ?_
    by_cases hw : w.2 = true
    · refine Ev.ite_pos hw (evq (by simpa using w5 hw))
    · exact Ev.ite_neg hw (Ev.now _)
  by_cases hb : v.2 = true
  · refine Ev.ite_pos hb (Ev.ite_pos (by obtain ⟨q1, q2⟩ := c3 hb; simp [q1, q2]) last)
  · exact Ev.ite_neg hb last
end Go.Proofs.YtdnneofebehpaaaGreatDoor.L
