/- Lines, plainly: what the program's and the reference's functions on lines answer. -/
import Derived.Test.YtdnneofebehpaaaDoorLx12
import Derived.Test.YtdnneofebehpaaaDoorEv
import Derived.Test.YtdnneofebehpaaaDoorPlLn
import Derived.Lib.EndianBits
import Derived.Laws.BitsAllLaws
import Derived.Test.YtdnneofebehpaaaDoorLx10
import Derived.Test.YtdnneofebehpaaaDoorLx13
import Derived.Test.YtdnneofebehpaaaDoorPlBt
import Derived.Test.YtdnneofebehpaaaDoorLx18
namespace Go.Proofs.YtdnneofebehpaaaDoor.L
open Go.RowKit Go.Proofs.YtdnneofebehpaaaDoorW.PrintWords Go.Proofs.YtdnneofebehpaaaDoorW.PrintLast Go.Proofs.YtdnneofebehpaaaDoorW.PrintMore Go.Proofs.YtdnneofebehpaaaDoor.LexPlain
def toB (l : List UInt8) : ByteArray := ⟨l.toArray⟩
theorem toB_list (l : List UInt8) : (toB l).data.toList = l := by simp [toB]
theorem toB_of (s : ByteArray) : toB s.data.toList = s := by
  obtain ⟨⟨l⟩⟩ := s
  rfl
theorem toB_size (l : List UInt8) : (toB l).size = l.length := by rw [Lib.size_eq, toB_list]
theorem toB_append (l r : List UInt8) : toB l ++ toB r = toB (l ++ r) := by
  have : (toB l ++ toB r).data.toList = (toB (l ++ r)).data.toList := by
    rw [ByteArray.data_append, Array.toList_append, toB_list, toB_list, toB_list]
  have h := congrArg toB this
  rwa [toB_of, toB_of] at h
theorem bt_list (s : ByteArray) (j : Nat) (h : j < s.data.toList.length) : bt s (j : Int) = ((s.data.toList[j]).toNat : Int) := by
  have h' : (j : Int).toNat < s.size := by rw [Lib.size_eq]; omega
  rw [← bt_at s (j : Int) h']
  rfl
theorem rdB (xs : List ByteArray) (j : Nat) (h : j < xs.length) : rdOf ByteArray.empty xs (j : Int) = xs[j] := by
  simp [rdOf, List.getD_eq_getElem?_getD, List.getElem?_eq_getElem h]
theorem mayB_iff (b : UInt8) : mayB b = true ↔ (32 ≤ b.toNat ∧ b.toNat ≤ 126) ∨ b.toNat = 9 ∨ b.toNat = 10 := by
  unfold mayB
  have e9 : (b == 9) = decide (b.toNat = 9) := by
    rw [Bool.eq_iff_iff, beq_iff_eq, decide_eq_true_iff]
    exact ⟨fun q => by rw [q]; rfl, fun q => UInt8.toNat_inj.1 q⟩
  have e10 : (b == 10) = decide (b.toNat = 10) := by
    rw [Bool.eq_iff_iff, beq_iff_eq, decide_eq_true_iff]
    exact ⟨fun q => by rw [q]; rfl, fun q => UInt8.toNat_inj.1 q⟩
  rw [e9, e10]
  simp [or_assoc]
def askV (s : ByteArray) : Int := if 65536 < s.size then 6 else if s.data.toList.all mayB then 0 else 4
theorem ask_loop (s : ByteArray) (hs : s.size ≤ 65536) : ∀ (m j : Nat), j + m = s.size → Ev (fun k => lex_ask.l0 k s (s.size : Int) (j : Int)) (if (s.data.toList.drop j).all mayB then 0 else 4) := by
  intro m
  have hsz := Lib.size_eq s
  induction m with
  | zero =>
    intro j hj
    refine Ev.step (by intro k; rw [lex_ask.l0]) ?_
    refine Ev.ite_neg (by omega) ?_
    rw [List.drop_of_length_le (by omega)]
    exact Ev.now _
  | succ m ih =>
    intro j hj
    have hlt : j < s.data.toList.length := by omega
    refine Ev.step (by intro k; rw [lex_ask.l0]) ?_
    refine Ev.ite_pos (by omega) (Ev.ite_pos (by omega) (Ev.ite_pos (by omega) ?_))
    rw [bt_list s j hlt, w64s j (by omega), dropc _ j hlt, List.all_cons]
    have next := ih (j + 1) (by omega)
    generalize s.data.toList[j] = b
    have hm := mayB_iff b
    by_cases h : mayB b = true
    · have h' := hm.1 h
      rw [h, Bool.true_and]
      by_cases c1 : (b.toNat : Int) < 32
      · refine Ev.ite_pos c1 ?_
        by_cases c2 : (b.toNat : Int) = 9
        · exact Ev.ite_pos c2 next
        · exact Ev.ite_neg c2 (Ev.ite_pos (by omega) next)
      · exact Ev.ite_neg c1 (Ev.ite_neg (by omega) next)
    · have h' : ¬ ((32 ≤ b.toNat ∧ b.toNat ≤ 126) ∨ b.toNat = 9 ∨ b.toNat = 10) := fun q => h (hm.2 q)
      rw [Bool.eq_false_iff.2 h, Bool.false_and, if_neg (by decide)]
      by_cases c1 : (b.toNat : Int) < 32
      · exact Ev.ite_pos c1 (Ev.ite_neg (by omega) (Ev.ite_neg (by omega) (Ev.now _)))
      · exact Ev.ite_neg c1 (Ev.ite_pos (by omega) (Ev.ite_neg (by omega) (Ev.ite_neg (by omega) (Ev.now _))))
theorem ask_ev (s : ByteArray) : Ev (fun k => lex_ask.f k s) (askV s) := by
  refine Ev.congr (fun k => by rw [lex_ask.f]) ?_
  unfold askV
  by_cases h : 65536 < s.size
  · rw [if_pos h]
    exact Ev.ite_pos (by omega) (Ev.now _)
  · rw [if_neg h]
    refine Ev.ite_neg (by omega) ?_
    have := ask_loop s (by omega) s.size 0 (by omega)
    rw [List.drop_zero] at this
    exact this
theorem pcs_len (p : UInt8 → Bool) : ∀ (s cur : List UInt8), (pcs p cur s).length ≤ s.length + 1 ∧ ∀ x ∈ pcs p cur s, x.length ≤ cur.length + s.length
  | [], cur => by simp [pcs]
  | b :: s, cur => by
    rw [pcs]
    split
    · obtain ⟨h1, h2⟩ := pcs_len p s []
      refine ⟨by simp only [List.length_cons]; omega, fun x hx => ?_⟩
      rcases List.mem_cons.1 hx with rfl | hx
      · omega
      · have := h2 x hx
        simp only [List.length_cons, List.length_nil] at this ⊢
        omega
    · obtain ⟨h1, h2⟩ := pcs_len p s (cur ++ [b])
      refine ⟨by simp only [List.length_cons]; omega, fun x hx => ?_⟩
      have := h2 x hx
      simp only [List.length_append, List.length_cons, List.length_nil] at this ⊢
      omega
theorem words_ne {s w : List UInt8} (h : w ∈ wordsL s) : w ≠ [] := by
  unfold wordsL at h
  have := (List.mem_filter.1 h).2
  intro q
  rw [q] at this
  simp at this
def linesB (s : List UInt8) : List (List ByteArray) := (linesL s).map (·.map toB)
theorem kept_cons (w : List UInt8) (ws : List (List UInt8)) (h : w ≠ []) : ∃ b, ∃ (hb : 0 < w.length), w[0] = b ∧ keptW (w :: ws) = !(b == 33) := by
  cases w with
  | nil => exact absurd rfl h
  | cons b w =>
    refine ⟨b, by simp, rfl, ?_⟩
    simp [keptW]
theorem line_step (x : List UInt8) (f : Nat → List (List ByteArray) → Option (List (List ByteArray) × Int)) (acc : List (List ByteArray)) (r : List (List ByteArray) × Int) (ha : acc.length ≤ 70000)
    (h1 : keptW (wordsL x) = false → Ev (fun k => f k acc) r) (h2 : keptW (wordsL x) = true → Ev (fun k => f k (acc ++ [(wordsL x).map toB])) r) :
    Ev (fun k => if (((wordsL x).map toB).length : Int) > 0 then (if 0 < (((wordsL x).map toB).length : Int) then (if 0 < ((rdOf ByteArray.empty ((wordsL x).map toB) 0).size : Int) then (if (bt (rdOf ByteArray.empty ((wordsL x).map toB) 0) 0) = 33 then f k acc else (if acc.length < 5864062014805 then f k (acc ++ [(wordsL x).map toB]) else (none))) else (none)) else (none)) else f k acc) r := by
  cases hw : wordsL x with
  | nil =>
    rw [hw] at h1 h2
    exact Ev.ite_neg (by simp) (h1 rfl)
  | cons w ws =>
    rw [hw] at h1 h2
    have hne : w ≠ [] := words_ne (s := x) (by rw [hw]; simp)
    obtain ⟨b, hb, hwb, hk⟩ := kept_cons w ws hne
    have e0 : rdOf ByteArray.empty ((w :: ws).map toB) 0 = toB w := rfl
    have e1 : bt (toB w) 0 = (b.toNat : Int) := by
      have := bt_list (toB w) 0 (by rw [toB_list]; exact hb)
      rw [show ((0 : Nat) : Int) = 0 from rfl] at this
      rw [this]
      simp only [toB_list, hwb]
    refine Ev.ite_pos (by simp) (Ev.ite_pos (by simp) (Ev.ite_pos (by rw [e0, toB_size]; omega) ?_))
    rw [e0, e1]
    by_cases h33 : b = 33
    · subst h33
      exact Ev.ite_pos rfl (h1 (by rw [hk]; rfl))
    · refine Ev.ite_neg (fun q => h33 (UInt8.toNat_inj.1 (by have : (33 : UInt8).toNat = 33 := rfl; omega))) (Ev.ite_pos (by omega) (h2 ?_))
      rw [hk]
      simp [h33]
def linesV (s : ByteArray) : List (List ByteArray) × Int := if askV s = 0 then (linesB s.data.toList, 0) else ([], askV s)
theorem split_pcs (s : ByteArray) (c : UInt8) : Lib.splitB ⟨#[c]⟩ 0 (Lib.countB s ⟨#[c]⟩) s = (pcs (fun b => b == c) [] s.data.toList).map toB := by
  have h := Lib.splitB_data ⟨#[c]⟩ 0 (Lib.countB s ⟨#[c]⟩) s
  have h2 : ∀ l : List ByteArray, l = (l.map (·.data.toList)).map toB := by
    intro l
    rw [List.map_map]
    induction l with
    | nil => rfl
    | cons a l ih => rw [List.map_cons, ← ih]; simp only [Function.comp, toB_of]
  rw [h2 (Lib.splitB ⟨#[c]⟩ 0 (Lib.countB s ⟨#[c]⟩) s), h]
  congr 1
  rw [← split_one]
  rfl
theorem llines_loop (s : List UInt8) (hs : ∀ b ∈ s, mayB b = true) (l : List (List UInt8)) (hl : l.length ≤ 65537) (hx : ∀ x ∈ l, x.length ≤ 65536 ∧ x ∈ Lib.split s [10]) : ∀ (m i : Nat) (acc : List (List ByteArray)), i + m = l.length → acc.length ≤ i →
    Ev (fun k => lex_Lines.l0 k acc (l.map toB) ((l.map toB).length : Int) (i : Int)) (acc ++ (((l.drop i).map wordsL).filter keptW).map (·.map toB), 0) := by
  intro m
  induction m with
  | zero =>
    intro i acc hi ha
    refine Ev.step (by intro k; rw [lex_Lines.l0]) ?_
    refine Ev.ite_neg (by rw [List.length_map]; omega) ?_
    rw [List.drop_of_length_le (by omega)]
    simp only [List.filter_nil, List.map_nil, List.append_nil]
    exact Ev.now _
  | succ m ih =>
    intro i acc hi ha
    have hlt : i < l.length := by omega
    obtain ⟨hlen, hmem⟩ := hx _ (List.getElem_mem hlt)
    refine Ev.step (by intro k; rw [lex_Lines.l0]) ?_
    refine Ev.ite_pos (by rw [List.length_map]; omega) (Ev.ite_pos (by omega) (Ev.ite_pos (by rw [List.length_map]; omega) ?_))
    rw [rdB _ i (by rw [List.length_map]; exact hlt), List.getElem_map, w64s i (by omega), dropc _ i hlt]
    have hF : strings_Fields.f (toB l[i]) = some ((wordsL l[i]).map toB) := by
      unfold strings_Fields.f
      have ha : asciiB (toB l[i]) = true := by
        unfold asciiB
        rw [toB_list, List.all_eq_true]
        intro b hb
        rw [split_one] at hmem
        rcases pcs_mem _ s [] _ hmem b hb with h | ⟨h1, _⟩
        · simp at h
        · have := (mayB_iff b).1 (hs b h1)
          exact decide_eq_true (by omega)
      rw [if_pos ⟨by rw [toB_size]; omega, ha⟩, toB_list, words_line hs hmem]
      rfl
    rw [hF]
    refine Ev.some ?_
    rw [List.map_cons, List.filter_cons]
    refine line_step l[i] (fun k a => lex_Lines.l0 k a (l.map toB) ((l.map toB).length : Int) ((i + 1 : Nat) : Int)) acc _ (by omega) (fun h => ?_) (fun h => ?_)
    · rw [h, if_neg (by decide)]
      exact ih (i + 1) acc (by omega) (by omega)
    · rw [h, if_pos rfl]
      have := ih (i + 1) (acc ++ [(wordsL l[i]).map toB]) (by omega) (by simp; omega)
      rw [List.append_assoc] at this
      exact this
theorem llines_ev (s : ByteArray) : Ev (fun k => lex_Lines.f k s) (linesV s) := by
  refine Ev.congr (fun k => by rw [lex_Lines.f]) ?_
  have hsz := Lib.size_eq s
  refine Ev.bind1 _ (ask_ev s) ?_
  unfold linesV
  by_cases h : askV s = 0
  · rw [if_pos h]
    refine Ev.ite_pos h ?_
    have h1 : ¬ 65536 < s.size := by intro q; unfold askV at h; rw [if_pos q] at h; exact absurd h (by decide)
    have h2 : s.data.toList.all mayB = true := by
      unfold askV at h
      rw [if_neg h1] at h
      by_cases g : s.data.toList.all mayB = true
      · exact g
      · rw [if_neg g] at h; exact absurd h (by decide)
    have hS : strings_Split.f s ⟨#[10]⟩ = some ((pcs nlB [] s.data.toList).map toB) := by
      unfold strings_Split.f
      rw [if_pos ⟨by omega, by decide⟩, split_pcs]
      rfl
    rw [hS]
    refine Ev.some ?_
    obtain ⟨hp, hq⟩ := pcs_len nlB s.data.toList []
    have := llines_loop s.data.toList (fun b hb => List.all_eq_true.1 h2 b hb) (pcs nlB [] s.data.toList) (by omega) (fun x hx => ⟨by have := hq x hx; simp at this; omega, by rw [split_one]; exact hx⟩) _ 0 [] (by rw [Nat.zero_add]) (by simp)
    rw [List.drop_zero] at this
    exact this
  · rw [if_neg h]
    exact Ev.ite_neg h (Ev.now _)
theorem strings_loop (l : List ByteArray) (hl : l.length ≤ 8796093022208) : ∀ (m i : Nat), i + m = l.length → Ev (fun k => dragomanref14_Strings.l0 k l l (l.length : Int) (i : Int)) true := by
  intro m
  induction m with
  | zero =>
    intro i hi
    refine Ev.step (by intro k; rw [dragomanref14_Strings.l0]) ?_
    exact Ev.ite_neg (by omega) (Ev.now _)
  | succ m ih =>
    intro i hi
    refine Ev.step (by intro k; rw [dragomanref14_Strings.l0]) ?_
    refine Ev.ite_pos (by omega) (Ev.ite_pos (by omega) (Ev.ite_pos (by omega) (Ev.ite_pos (by omega) (Ev.ite_pos rfl ?_))))
    rw [w64s i (by omega)]
    exact ih (i + 1) (by omega)
theorem strings_ev (l : List ByteArray) (hl : l.length ≤ 8796093022208) : Ev (fun k => dragomanref14_Strings.f k l l) true := by
  refine Ev.congr (fun k => by rw [dragomanref14_Strings.f]) ?_
  exact Ev.ite_pos rfl (strings_loop l hl l.length 0 (by omega))
end Go.Proofs.YtdnneofebehpaaaDoor.L
/- Numbers, plainly: what the program's function on a number answers; the reference's answers so, too. -/
namespace Go.Proofs.YtdnneofebehpaaaDoor.L
open Go.RowKit Go.Proofs.YtdnneofebehpaaaDoorW.PrintWords Go.Proofs.YtdnneofebehpaaaDoorW.PrintLast Go.Proofs.YtdnneofebehpaaaDoorW.PrintMore Go.Proofs.YtdnneofebehpaaaDoor.LexPlain
def digB (c : UInt8) : Bool := decide (48 ≤ c.toNat) && decide (c.toNat ≤ 57)
def digD (l : List UInt8) : Bool := l.all digB
def valD (acc : Nat) (l : List UInt8) : Nat := l.foldl (fun a c => a * 10 + (c.toNat - 48)) acc
theorem valD_cons (acc : Nat) (c : UInt8) (r : List UInt8) : valD acc (c :: r) = valD (acc * 10 + (c.toNat - 48)) r := by
  unfold valD
  rw [List.foldl_cons]
theorem digB_iff (c : UInt8) : digB c = true ↔ 48 ≤ c.toNat ∧ c.toNat ≤ 57 := by simp [digB]
theorem vals_ge : ∀ (l : List UInt8) (acc : Nat), acc ≤ valD acc l
  | [], _ => Nat.le_refl _
  | c :: r, acc => by
    have := vals_ge r (acc * 10 + (c.toNat - 48))
    rw [valD_cons]
    omega
theorem vals_snoc : ∀ (l : List UInt8) (acc : Nat) (c : UInt8), valD acc (l ++ [c]) = valD acc l * 10 + (c.toNat - 48)
  | [], _, _ => rfl
  | d :: r, acc, c => by
    rw [List.cons_append, valD_cons, vals_snoc r _ c, valD_cons]
theorem parse_ok {M : Nat} (hM : M < 1844674407370955162) : ∀ (l : List UInt8) (acc : Nat), acc ≤ M → (digD l = true ∧ valD acc l ≤ M → Lib.parseUintM M acc l = .ok (valD acc l)) ∧ (¬ (digD l = true ∧ valD acc l ≤ M) → ∀ u, Lib.parseUintM M acc l ≠ .ok u)
  | [], acc, ha => ⟨fun _ => rfl, fun h => absurd ⟨rfl, ha⟩ h⟩
  | c :: r, acc, ha => by
    rw [Lib.parseUintM, valD_cons]
    unfold digD
    rw [List.all_cons, Bool.and_eq_true, digB_iff]
    by_cases hc : 48 ≤ c.toNat ∧ c.toNat ≤ 57
    · rw [if_pos hc, if_neg (by omega)]
      by_cases hr : M < acc * 10 + (c.toNat - 48)
      · rw [if_pos hr]
        have := vals_ge r (acc * 10 + (c.toNat - 48))
        refine ⟨fun h => by omega, fun _ u h => by cases h⟩
      · rw [if_neg hr]
        obtain ⟨h1, h2⟩ := parse_ok hM r (acc * 10 + (c.toNat - 48)) (by omega)
        exact ⟨fun h => h1 ⟨h.1.2, h.2⟩, fun h => h2 (fun g => h ⟨⟨hc, g.1⟩, g.2⟩)⟩
    · rw [if_neg hc]
      exact ⟨fun h => absurd h.1.1 hc, fun _ u h => by cases h⟩
theorem dec_big {u : Nat} (h : ¬ u < 10) : Lib.decDigits u = Lib.decDigits (u / 10) ++ [UInt8.ofNat (48 + u % 10)] := by
  rw [Lib.decDigits, dif_neg h]
theorem dec_of {l : List UInt8} : ∀ (n : Nat), l.length = n → l ≠ [] → digD l = true → (l.head? ≠ some 48 ∨ l = [48]) → Lib.decDigits (valD 0 l) = l := by
  intro n
  induction n using Nat.strongRecOn generalizing l with
  | _ n ih =>
    intro hl hne hd hz
    obtain ⟨r, c, rfl⟩ : ∃ r c, l = r ++ [c] := ⟨l.dropLast, l.getLast hne, (List.dropLast_concat_getLast hne).symm⟩
    rw [vals_snoc]
    unfold digD at hd
    rw [List.all_append, Bool.and_eq_true] at hd
    obtain ⟨hd1, hd2⟩ := hd
    have hc : 48 ≤ c.toNat ∧ c.toNat ≤ 57 := by
      rw [List.all_cons, Bool.and_eq_true, digB_iff] at hd2
      exact hd2.1
    have ec : UInt8.ofNat (48 + (c.toNat - 48)) = c := by
      apply UInt8.toNat_inj.1
      have := c.toNat_lt
      rw [UInt8.toNat_ofNat', Nat.mod_eq_of_lt (by omega)]
      omega
    cases r with
    | nil =>
      rw [show valD 0 [] = 0 from rfl, Nat.zero_mul, Nat.zero_add, Lib.decDigits_one (by omega), ec]
      rfl
    | cons a r =>
      have ha : a ≠ 48 := by
        rcases hz with hz | hz
        · intro q; subst q; exact hz rfl
        · simp at hz
      have ha2 : 48 ≤ a.toNat ∧ a.toNat ≤ 57 := by
        rw [List.all_cons, Bool.and_eq_true, digB_iff] at hd1
        exact hd1.1
      have hv : 1 ≤ valD 0 (a :: r) := by
        rw [valD_cons]
        have := vals_ge r (0 * 10 + (a.toNat - 48))
        have : a.toNat ≠ 48 := fun q => ha (UInt8.toNat_inj.1 q)
        omega
      rw [dec_big (by omega)]
      have e1 : (valD 0 (a :: r) * 10 + (c.toNat - 48)) / 10 = valD 0 (a :: r) := by omega
      have e2 : (valD 0 (a :: r) * 10 + (c.toNat - 48)) % 10 = c.toNat - 48 := by omega
      rw [e1, e2, ec, ih (a :: r).length (by simp only [List.length_append, List.length_cons, List.length_nil] at hl ⊢; omega) rfl (by simp) hd1 (Or.inl (by simp [ha]))]
theorem dec_head : ∀ (n u : Nat), u ≤ n → 1 ≤ u → ∃ a r, Lib.decDigits u = a :: r ∧ a ≠ 48 := by
  intro n
  induction n with
  | zero => intro u h h1; omega
  | succ n ih =>
    intro u h h1
    by_cases hs : u < 10
    · refine ⟨_, [], Lib.decDigits_one hs, fun q => ?_⟩
      have := congrArg UInt8.toNat q
      rw [UInt8.toNat_ofNat', Nat.mod_eq_of_lt (by omega)] at this
      have e : (48 : UInt8).toNat = 48 := rfl
      omega
    · obtain ⟨a, r, h2, h3⟩ := ih (u / 10) (by omega) (by omega)
      rw [dec_big hs, h2]
      exact ⟨a, r ++ [_], rfl, h3⟩
theorem dec_len : ∀ (n u : Nat), u < 10 ^ (n + 1) → (Lib.decDigits u).length ≤ n + 1 ∧ 1 ≤ (Lib.decDigits u).length := by
  intro n
  induction n with
  | zero =>
    intro u h
    rw [Lib.decDigits_one (by simpa using h)]
    simp
  | succ n ih =>
    intro u h
    by_cases hs : u < 10
    · rw [Lib.decDigits_one hs]
      simp
    · rw [dec_big hs]
      have := ih (u / 10) (by rw [Nat.pow_succ] at h; omega)
      simp only [List.length_append, List.length_cons, List.length_nil]
      omega
def numR (l : List UInt8) : Int × Bool := if l.length < 1 ∨ 10 < l.length ∨ (l.head? = some 48 ∧ 1 < l.length) then (0, false) else if digD l = true ∧ valD 0 l ≤ 4294967295 then ((valD 0 l : Int), true) else (0, false)
theorem numS_R (l : List UInt8) : numS l = numR l := by
  unfold numS numR Lib.parseUintB
  cases hl : l with
  | nil => rfl
  | cons a r =>
    rw [if_neg (by simp)]
    rw [← hl]
    have hne : l ≠ [] := by rw [hl]; simp
    obtain ⟨p1, p2⟩ := parse_ok (M := 2 ^ 32 - 1) (by decide) l 0 (by decide)
    by_cases h : digD l = true ∧ valD 0 l ≤ 2 ^ 32 - 1
    · rw [p1 h]
      show (if Lib.decDigits (valD 0 l) = l then ((valD 0 l : Int), true) else (0, false)) = _
      by_cases hz : l.head? = some 48 ∧ 1 < l.length
      · rw [if_pos (Or.inr (Or.inr hz)), if_neg]
        intro q
        by_cases hv : valD 0 l < 10
        · rw [Lib.decDigits_one hv] at q
          have := congrArg List.length q
          simp at this
          omega
        · obtain ⟨b, s, h2, h3⟩ := dec_head _ _ (Nat.le_refl _) (show 1 ≤ valD 0 l by omega)
          rw [q] at h2
          rw [h2] at hz
          exact h3 (by simpa using hz.1)
      · have hlen : 1 ≤ l.length := by rw [hl]; simp
        have hd : Lib.decDigits (valD 0 l) = l := by
          refine dec_of l.length rfl hne h.1 ?_
          by_cases q : l.head? = some 48
          · right
            have h1 : l.length = 1 := by
              have : ¬ 1 < l.length := fun g => hz ⟨q, g⟩
              omega
            obtain ⟨x, rfl⟩ := List.length_eq_one_iff.1 h1
            simp at q
            rw [q]
          · exact Or.inl q
        have h10 : l.length ≤ 10 := by
          have := (dec_len 9 (valD 0 l) (by have := h.2; omega)).1
          rwa [hd] at this
        rw [if_pos hd, if_neg (by rintro (g | g | g); omega; omega; exact hz g), if_pos ⟨h.1, by have := h.2; omega⟩]
    · have hq : ∀ x : Lib.NumEnd Nat, (∀ u, x ≠ .ok u) → (match x with | .ok u => if Lib.decDigits u = l then ((u : Int), true) else (0, false) | _ => ((0 : Int), false)) = (0, false) := by
        intro x hx
        rcases x with u | _ | _
        · exact absurd rfl (hx u)
        · rfl
        · rfl
      have e1 := hq _ (p2 h)
      refine e1.trans ?_
      have h' : ¬ (digD l = true ∧ valD 0 l ≤ 4294967295) := fun g => h ⟨g.1, by have := g.2; omega⟩
      rw [if_neg h']
      split <;> rfl
end Go.Proofs.YtdnneofebehpaaaDoor.L
/- Words, plainly: the program's answers on addresses, prefixes, communities; the document's examples. -/
namespace Go.Proofs.YtdnneofebehpaaaDoor.L
open Go.RowKit Go.Proofs.YtdnneofebehpaaaDoorW.PrintWords Go.Proofs.YtdnneofebehpaaaDoorW.PrintLast Go.Proofs.YtdnneofebehpaaaDoorW.PrintMore Go.Proofs.YtdnneofebehpaaaDoor.LexPlain
theorem numR_bound (l : List UInt8) : 0 ≤ (numR l).1 ∧ (numR l).1 ≤ 4294967295 := by
  unfold numR
  split
  · exact ⟨by decide, by decide⟩
  · split
    · rename_i h
      exact ⟨by show 0 ≤ (valD 0 l : Int); omega, by show (valD 0 l : Int) ≤ 4294967295; have := h.2; omega⟩
    · exact ⟨by decide, by decide⟩
theorem num_some (s : ByteArray) (hs : s.size ≤ 65536) : lex_Num.f s = some (numR s.data.toList) := by
  unfold lex_Num.f
  rw [if_pos (by omega), numS_R]
def smallV (l : List UInt8) (m : Int) : Int × Bool := if (numR l).2 = true then (if (numR l).1 > m then (0, false) else ((numR l).1, true)) else (0, false)
theorem small_some (s : ByteArray) (m : Int) (hs : s.size ≤ 65536) : lex_small.f s m = some (smallV s.data.toList m) := by
  unfold lex_small.f smallV
  rw [num_some s hs, Option.bind_some]
  split
  · split <;> rfl
  · rfl
def addrV : Int → List (List UInt8) → Int × Bool
  | acc, [] => (acc, true)
  | acc, w :: ws => if (smallV w 255).2 = true then addrV ((256 * acc + (smallV w 255).1) % 4294967296) ws else (0, false)
def pc1 (c : UInt8) (l : List UInt8) : List (List UInt8) := pcs (fun b => b == c) [] l
def addrW (l : List UInt8) : Int × Bool := if (pc1 46 l).length = 4 then addrV 0 (pc1 46 l) else (0, false)
theorem smallV_bound (l : List UInt8) (m : Int) : 0 ≤ (smallV l m).1 ∧ (smallV l m).1 ≤ 4294967295 ∧ ((smallV l m).2 = true → (smallV l m).1 ≤ m) := by
  have hb := numR_bound l
  unfold smallV
  split
  · split
    · exact ⟨by decide, by decide, fun h => absurd h (by decide)⟩
    · exact ⟨hb.1, hb.2, fun _ => by show (numR l).1 ≤ m; omega⟩
  · exact ⟨by decide, by decide, fun h => absurd h (by decide)⟩
theorem or8 (x n : Int) (h0 : 0 ≤ n) (h1 : n ≤ 255) : Go.bits .or .u32 ((x * 256) % 4294967296) n = (256 * x + n) % 4294967296 := by
  rw [bits_join .u32 32 (by decide) wraps_u32 8 _ n (by omega) (by omega) (by omega) h0 (by omega) (by omega)]
  omega
theorem or16 (x n : Int) (h0 : 0 ≤ n) (h1 : n ≤ 65535) (hx0 : 0 ≤ x) (hx : x ≤ 65535) : Go.bits .or .u32 ((x * 65536) % 4294967296) n = 65536 * x + n := by
  rw [bits_join .u32 32 (by decide) wraps_u32 16 _ n (by omega) (by omega) (by omega) h0 (by omega) (by omega)]
  omega
theorem addr_loop (l : List (List UInt8)) (hl : l.length ≤ 70000) (hx : ∀ x ∈ l, x.length ≤ 65536) : ∀ (m i : Nat) (acc : Int), i + m = l.length →
    Ev (fun k => lex_Addr.l0 k acc (l.map toB) ((l.map toB).length : Int) (i : Int)) (addrV acc (l.drop i)) := by
  intro m
  induction m with
  | zero =>
    intro i acc hi
    refine Ev.step (by intro k; rw [lex_Addr.l0]) ?_
    refine Ev.ite_neg (by rw [List.length_map]; omega) ?_
    rw [List.drop_of_length_le (by omega), addrV]
    exact Ev.now _
  | succ m ih =>
    intro i acc hi
    have hlt : i < l.length := by omega
    refine Ev.step (by intro k; rw [lex_Addr.l0]) ?_
    refine Ev.ite_pos (by rw [List.length_map]; omega) (Ev.ite_pos (by omega) (Ev.ite_pos (by rw [List.length_map]; omega) ?_))
    rw [rdB _ i (by rw [List.length_map]; exact hlt), List.getElem_map, w64s i (by omega), dropc _ i hlt, small_some _ _ (by rw [toB_size]; exact hx _ (List.getElem_mem hlt)), toB_list, addrV]
    refine Ev.some ?_
    have hb := smallV_bound l[i] 255
    by_cases h : (smallV l[i] 255).2 = true
    · rw [if_pos h]
      refine Ev.ite_pos h ?_
      rw [or8 _ _ hb.1 (hb.2.2 h)]
      exact ih (i + 1) _ (by omega)
    · rw [if_neg h]
      exact Ev.ite_neg h (Ev.now _)
theorem split_some (s : ByteArray) (c : UInt8) (hs : s.size ≤ 65536) : strings_Split.f s ⟨#[c]⟩ = some ((pc1 c s.data.toList).map toB) := by
  unfold strings_Split.f
  rw [if_pos ⟨by omega, by show 1 ≤ [c].toArray.size; simp⟩, split_pcs]
  rfl
theorem addr_ev (s : ByteArray) (hs : s.size ≤ 65536) : Ev (fun k => lex_Addr.f k s) (addrW s.data.toList) := by
  refine Ev.congr (fun k => by rw [lex_Addr.f]) ?_
  rw [split_some s 46 hs]
  refine Ev.some ?_
  have hsz := Lib.size_eq s
  unfold addrW
  obtain ⟨hp, hq⟩ := pcs_len (fun b => b == 46) s.data.toList []
  by_cases h : (pc1 46 s.data.toList).length = 4
  · rw [if_pos h]
    refine Ev.ite_pos (by rw [List.length_map, h]; rfl) ?_
    have := addr_loop (pc1 46 s.data.toList) (by unfold pc1; omega) (fun x hx => by have := hq x hx; simp at this; omega) _ 0 0 (by rw [Nat.zero_add])
    rw [List.drop_zero] at this
    exact this
  · rw [if_neg h]
    exact Ev.ite_neg (by rw [List.length_map]; omega) (Ev.now _)
theorem addrV_bound : ∀ (l : List (List UInt8)) (acc : Int), 0 ≤ acc → acc ≤ 4294967295 → 0 ≤ (addrV acc l).1 ∧ (addrV acc l).1 ≤ 4294967295
  | [], acc, h0, h1 => ⟨h0, h1⟩
  | w :: ws, acc, h0, h1 => by
    rw [addrV]
    split
    · exact addrV_bound ws _ (by omega) (by omega)
    · exact ⟨by decide, by decide⟩
theorem addrW_bound (l : List UInt8) : 0 ≤ (addrW l).1 ∧ (addrW l).1 ≤ 4294967295 := by
  unfold addrW
  split
  · exact addrV_bound _ _ (by decide) (by decide)
  · exact ⟨by decide, by decide⟩
theorem index_one_ne (b c : UInt8) (h : b ≠ c) (l : List UInt8) : Lib.index (b :: l) [c] = if Lib.index l [c] == -1 then -1 else Lib.index l [c] + 1 := by
  rw [Lib.index_one, Lib.index_one, Lib.indexByte, if_neg (by simpa using h)]
theorem cut_pcs (c : UInt8) : ∀ l : List UInt8, (pc1 c l = [l] ∧ Lib.cut l [c] = (l, [], false)) ∨ ∃ x r, pc1 c l = x :: pc1 c r ∧ Lib.cut l [c] = (x, r, true) ∧ l = x ++ c :: r
  | [] => Or.inl ⟨rfl, rfl⟩
  | b :: l => by
    by_cases h : b = c
    · subst h
      refine Or.inr ⟨[], l, ?_, ?_, rfl⟩
      · unfold pc1
        rw [pcs, if_pos (by simp)]
      · have e : Lib.index (b :: l) [b] = 0 := by rw [Lib.index_one, Lib.indexByte, if_pos (by simp)]
        unfold Lib.cut
        rw [e]
        simp
    · have e := index_one_ne b c h l
      have hp : ∀ y ys, pc1 c l = y :: ys → pc1 c (b :: l) = (b :: y) :: ys := by
        intro y ys hy
        unfold pc1 at hy ⊢
        rw [pcs, if_neg (by simpa using h), List.nil_append]
        obtain ⟨x, xs, h1, h2⟩ := pcs_cur (fun b => b == c) l [b]
        rw [h2]
        rw [h1] at hy
        injection hy with q1 q2
        rw [q1, q2]
        rfl
      rcases cut_pcs c l with ⟨h1, h2⟩ | ⟨x, r, h1, h2, h3⟩
      · refine Or.inl ⟨hp _ _ h1, ?_⟩
        have hi : ¬ 0 ≤ Lib.index l [c] := by
          intro q
          unfold Lib.cut at h2
          rw [if_pos q] at h2
          injection h2 with _ h2
          injection h2 with _ h2
          exact absurd h2 (by decide)
        have hge := Lib.index_ge l [c]
        have hz : Lib.index l [c] = -1 := by omega
        have e' : Lib.index (b :: l) [c] = -1 := by rw [e, hz]; rfl
        unfold Lib.cut
        rw [e', if_neg (by decide)]
      · refine Or.inr ⟨b :: x, r, hp _ _ h1, ?_, by rw [h3]; rfl⟩
        have hi : 0 ≤ Lib.index l [c] := by
          apply Classical.byContradiction
          intro q
          unfold Lib.cut at h2
          rw [if_neg q] at h2
          injection h2 with _ h2
          injection h2 with _ h2
          exact absurd h2 (by decide)
        unfold Lib.cut at h2 ⊢
        rw [if_pos hi] at h2
        have g : ¬ (Lib.index l [c] == -1) = true := by simp; omega
        rw [e, if_neg g, if_pos (by omega)]
        have n : (Lib.index l [c] + 1).toNat = (Lib.index l [c]).toNat + 1 := by omega
        injection h2 with h4 h5
        injection h5 with h5 _
        rw [n, ← h4, ← h5, List.take_succ_cons, show (Lib.index l [c]).toNat + 1 + [c].length = (Lib.index l [c]).toNat + [c].length + 1 by omega, List.drop_succ_cons]
theorem cut_some (s : ByteArray) (c : UInt8) (hs : s.size ≤ 65536) : strings_Cut.f s ⟨#[c]⟩ = some (toB (Lib.cut s.data.toList [c]).1, toB (Lib.cut s.data.toList [c]).2.1, (Lib.cut s.data.toList [c]).2.2) := by
  unfold strings_Cut.f
  rw [if_pos (by omega)]
  rfl
theorem cut_len (c : UInt8) (l : List UInt8) : (Lib.cut l [c]).1.length ≤ l.length ∧ (Lib.cut l [c]).2.1.length ≤ l.length := by
  rcases cut_pcs c l with ⟨_, h⟩ | ⟨x, r, _, h, h3⟩
  · rw [h]; simp
  · rw [h, h3]; simp; omega
def pfxV (a n : Int × Bool) : Int × Int × Bool := if a.2 = true ∧ n.2 = true ∧ (a.1 / 2 ^ (32 - n.1).toNat * 2 ^ (32 - n.1).toNat = a.1) then (a.1, n.1, true) else (0, 0, false)
def pfxW (l : List UInt8) : Int × Int × Bool := if (Lib.cut l [47]).2.2 = true then pfxV (addrW (Lib.cut l [47]).1) (smallV (Lib.cut l [47]).2.1 32) else (0, 0, false)
theorem mask_in (a n : Int) (ha : 0 ≤ a) (ha1 : a ≤ 4294967295) (hn : 0 ≤ n) (hn1 : n ≤ 32) : route_Mask.f a n = some (a / 2 ^ (32 - n).toNat * 2 ^ (32 - n).toNat, n) := by
  have hc : mx 0 (mn n 32) = n := by rw [mx_eq, mn_eq]; omega
  have hp : (0 : Int) < 2 ^ (32 - n).toNat := Int.pow_pos (by decide)
  have h1 : 0 ≤ a / 2 ^ (32 - n).toNat * 2 ^ (32 - n).toNat := Int.mul_nonneg (Int.ediv_nonneg ha (Int.le_of_lt hp)) (Int.le_of_lt hp)
  have h2 : a / 2 ^ (32 - n).toNat * 2 ^ (32 - n).toNat ≤ a := Int.ediv_mul_le _ (by omega)
  unfold route_Mask.f
  rw [hc, u64_wrap_id a ha (by omega), u64_wrap_id _ h1 (by omega), Int.emod_eq_of_lt h1 (by omega)]
theorem pfx_ev (s : ByteArray) (hs : s.size ≤ 65536) : Ev (fun k => lex_Prefix.f k s) (pfxW s.data.toList) := by
  refine Ev.congr (fun k => by rw [lex_Prefix.f]) ?_
  have hsz := Lib.size_eq s
  obtain ⟨hl1, hl2⟩ := cut_len 47 s.data.toList
  rw [cut_some s 47 hs]
  refine Ev.some ?_
  refine Ev.bind1 _ (addr_ev _ (by show (toB _).size ≤ _; rw [toB_size]; omega)) ?_
  rw [small_some _ _ (by show (toB _).size ≤ _; rw [toB_size]; omega)]
  refine Ev.some ?_
  show Ev (fun k => if (Lib.cut s.data.toList [47]).2.2 = true then _ else _) _
  rw [toB_list, toB_list]
  unfold pfxW
  generalize hc : Lib.cut s.data.toList [47] = ct
  have hb := addrW_bound ct.1
  have hn := smallV_bound ct.2.1 32
  generalize addrW ct.1 = a at *
  generalize smallV ct.2.1 32 = n at *
  unfold pfxV
  by_cases h1 : ct.2.2 = true
  · refine Ev.ite_pos h1 ?_
    rw [if_pos h1]
    by_cases h2 : a.2 = true
    · refine Ev.ite_pos h2 ?_
      by_cases h3 : n.2 = true
      · refine Ev.ite_pos h3 ?_
        rw [w64 (by omega) (by omega), mask_in a.1 n.1 hb.1 hb.2 hn.1 (hn.2.2 h3)]
        refine Ev.some ?_
        show Ev (fun k => if (!(a.1 == a.1 / 2 ^ (32 - n.1).toNat * 2 ^ (32 - n.1).toNat) || (!(n.1 == n.1))) = true then _ else _) _
        by_cases h4 : a.1 / 2 ^ (32 - n.1).toNat * 2 ^ (32 - n.1).toNat = a.1
        · refine Ev.ite_neg (by rw [h4]; simp) ?_
          rw [if_pos ⟨h2, h3, h4⟩]
          exact Ev.now _
        · refine Ev.ite_pos ?_ ?_
          · have : (a.1 == a.1 / 2 ^ (32 - n.1).toNat * 2 ^ (32 - n.1).toNat) = false := beq_eq_false_iff_ne.mpr (fun q => h4 q.symm)
            rw [this]
            rfl
          · rw [if_neg (fun g => h4 g.2.2)]
            exact Ev.now _
      · refine Ev.ite_neg h3 ?_
        rw [if_neg (fun g => h3 g.2.1)]
        exact Ev.now _
    · refine Ev.ite_neg h2 ?_
      rw [if_neg (fun g => h2 g.1)]
      exact Ev.now _
  · refine Ev.ite_neg h1 ?_
    rw [if_neg h1]
    exact Ev.now _
def halfV (l : List UInt8) : Int × Int × Bool := if l = [42] then (0, 65535, true) else ((smallV l 65535).1, (smallV l 65535).1, (smallV l 65535).2)
theorem half_some (s : ByteArray) (hs : s.size ≤ 65536) : lex_half.f s = some (halfV s.data.toList) := by
  unfold lex_half.f halfV
  rw [Lib.toList_data]
  split
  · rfl
  · rw [small_some s _ hs]
    rfl
theorem halfV_bound (l : List UInt8) : (halfV l).2.2 = true → (0 ≤ (halfV l).1 ∧ (halfV l).1 ≤ 65535) ∧ 0 ≤ (halfV l).2.1 ∧ (halfV l).2.1 ≤ 65535 := by
  have hb := smallV_bound l 65535
  unfold halfV
  split
  · exact fun _ => ⟨⟨by decide, by decide⟩, by decide, by decide⟩
  · exact fun h => ⟨⟨hb.1, hb.2.2 h⟩, hb.1, hb.2.2 h⟩
def commV (a c : Int × Int × Bool) : Int × Int × Bool := if a.2.2 = true ∧ c.2.2 = true then (65536 * a.1 + c.1, 65536 * a.2.1 + c.2.1, true) else (0, 0, false)
def commW (l : List UInt8) : Int × Int × Bool := if (Lib.cut l [58]).2.2 = true then commV (halfV (Lib.cut l [58]).1) (halfV (Lib.cut l [58]).2.1) else (0, 0, false)
theorem comm_some (s : ByteArray) (hs : s.size ≤ 65536) : lex_Comm.f s = some (commW s.data.toList) := by
  have hsz := Lib.size_eq s
  obtain ⟨hl1, hl2⟩ := cut_len 58 s.data.toList
  unfold lex_Comm.f
  rw [cut_some s 58 hs, Option.bind_some, half_some _ (by show (toB _).size ≤ _; rw [toB_size]; omega), Option.bind_some, half_some _ (by show (toB _).size ≤ _; rw [toB_size]; omega), Option.bind_some]
  rw [toB_list, toB_list]
  unfold commW
  generalize Lib.cut s.data.toList [58] = ct
  have ha := halfV_bound ct.1
  have hc := halfV_bound ct.2.1
  generalize halfV ct.1 = a at *
  generalize halfV ct.2.1 = c at *
  unfold commV
  by_cases h1 : ct.2.2 = true
  · rw [if_pos h1, if_pos h1]
    by_cases h2 : a.2.2 = true
    · rw [if_pos h2]
      by_cases h3 : c.2.2 = true
      · obtain ⟨⟨a1, a2⟩, a3, a4⟩ := ha h2
        obtain ⟨⟨b1, b2⟩, b3, b4⟩ := hc h3
        rw [if_pos h3, if_pos ⟨h2, h3⟩, or16 _ _ b1 b2 a1 a2, or16 _ _ b3 b4 a3 a4]
      · rw [if_neg h3, if_neg (fun g => h3 g.2)]
    · rw [if_neg h2, if_neg (fun g => h2 g.1)]
  · rw [if_neg h1, if_neg h1]
def tokV (s : ByteArray) : List S40 × Int := if askV s = 0 then tokAll s else ([], askV s)
theorem tokens_ev (s : ByteArray) : Ev (fun k => lex_Tokens.f k s) (tokV s) := by
  refine Ev.congr (fun k => by rw [lex_Tokens.f]) ?_
  refine Ev.bind1 _ (ask_ev s) ?_
  unfold tokV
  by_cases h : askV s = 0
  · have h1 : ¬ 65536 < s.size := by intro q; unfold askV at h; rw [if_pos q] at h; exact absurd h (by decide)
    have h2 : s.data.toList.all mayB = true := by
      unfold askV at h
      rw [if_neg h1] at h
      by_cases g : s.data.toList.all mayB = true
      · exact g
      · rw [if_neg g] at h; exact absurd h (by decide)
    have h3 : asciiC s = true := by
      unfold asciiC
      rw [List.all_eq_true] at h2 ⊢
      intro b hb
      have := (mayB_iff b).1 (h2 b hb)
      exact decide_eq_true (by omega)
    refine Ev.ite_pos h (Ev.ite_pos ⟨by omega, h3⟩ ?_)
    rw [if_pos h]
    exact Ev.now _
  · refine Ev.ite_neg h ?_
    rw [if_neg h]
    exact Ev.now _
theorem alive_ev : Ev (fun k => dragomanlaw14_alive.f k) true := by
  refine Ev.congr (fun k => by rw [dragomanlaw14_alive.f]) ?_
  refine Ev.bind1 _ (llines_ev _) ?_
  refine Ev.bind1 _ (tokens_ev _) ?_
  refine Ev.bind1 _ (pfx_ev _ (by decide)) ?_
  refine Ev.bind1 _ (pfx_ev _ (by decide)) ?_
  rw [comm_some _ (by decide)]
  refine Ev.some ?_
  have e1 : linesV (⟨#[105, 112, 32, 112, 114, 101, 102, 105, 120, 45, 108, 105, 115, 116, 32, 97, 10, 33, 32, 120, 10, 10, 32, 115, 101, 113, 32, 32, 53]⟩ : ByteArray) = ([[⟨#[105, 112]⟩, ⟨#[112, 114, 101, 102, 105, 120, 45, 108, 105, 115, 116]⟩, ⟨#[97]⟩], [⟨#[115, 101, 113]⟩, ⟨#[53]⟩]], 0) := by kernel_rfl
  have e2 : tokV (⟨#[97, 123, 98, 32, 34, 99, 32, 100, 34, 59, 125, 32, 35, 32, 101]⟩ : ByteArray) = ([⟨119, ⟨#[97]⟩⟩, ⟨123, ⟨#[123]⟩⟩, ⟨119, ⟨#[98]⟩⟩, ⟨113, ⟨#[99, 32, 100]⟩⟩, ⟨59, ⟨#[59]⟩⟩, ⟨125, ⟨#[125]⟩⟩], 0) := by kernel_rfl
  have e3 : pfxW (⟨#[49, 48, 46, 48, 46, 48, 46, 48, 47, 56]⟩ : ByteArray).data.toList = (167772160, 8, true) := by kernel_rfl
  have e4 : pfxW (⟨#[49, 48, 46, 48, 46, 48, 46, 49, 47, 56]⟩ : ByteArray).data.toList = (0, 0, false) := by kernel_rfl
  have e5 : commW (⟨#[54, 53, 48, 48, 48, 58, 42]⟩ : ByteArray).data.toList = (4259840000, 4259905535, true) := by kernel_rfl
  rw [e1, e2, e3, e4, e5]
  refine Ev.ite_pos rfl (Ev.ite_pos rfl (Ev.ite_pos (by decide) ?_))
  refine Ev.bind1 _ (strings_ev [⟨#[115, 101, 113]⟩, ⟨#[53]⟩] (by decide)) ?_
  refine Ev.ite_pos rfl (Ev.ite_pos rfl (Ev.ite_pos rfl (Ev.ite_pos (by decide) (Ev.ite_pos ?_ (Ev.ite_pos rfl (Ev.ite_pos (by decide) (Ev.ite_neg (by decide) (Ev.ite_pos rfl ?_))))))))
  · kernel_rfl
  · exact Ev.now _
end Go.Proofs.YtdnneofebehpaaaDoor.L
/- LexLines, plainly. -/
namespace Go.Proofs.YtdnneofebehpaaaDoor.L
open Go.RowKit Go.Proofs.YtdnneofebehpaaaDoorW.PrintWords Go.Proofs.YtdnneofebehpaaaDoorW.PrintLast Go.Proofs.YtdnneofebehpaaaDoorW.PrintMore Go.Proofs.YtdnneofebehpaaaDoor.LexPlain
end Go.Proofs.YtdnneofebehpaaaDoor.L
/- LexBetween, plainly. -/
namespace Go.Proofs.YtdnneofebehpaaaDoor.L
open Go.RowKit Go.Proofs.YtdnneofebehpaaaDoorW.PrintWords Go.Proofs.YtdnneofebehpaaaDoorW.PrintLast Go.Proofs.YtdnneofebehpaaaDoorW.PrintMore Go.Proofs.YtdnneofebehpaaaDoor.LexPlain
theorem rdT40b (xs : List S40) (j : Nat) (h : j < xs.length) : rd_T40 xs (j : Int) = xs[j] := by
  simp [rd_T40, List.getD_eq_getElem?_getD, List.getElem?_eq_getElem h]
theorem lexF_lens : ∀ (n : Nat) (s : List UInt8) (l : List Tk), lexF n s = some l → l.length ≤ s.length ∧ ∀ t ∈ l, t.2.length ≤ s.length := by
  intro n
  induction n with
  | zero => intro s l h; simp [lexF] at h
  | succ n ih =>
    intro s l h
    cases s with
    | nil => simp only [lexF, Option.some.injEq] at h; subst h; simp
    | cons b r =>
      have sub : ∀ (r' : List UInt8) (l' : List Tk), r'.length ≤ r.length → lexF n r' = some l' → l'.length ≤ r.length ∧ ∀ t ∈ l', t.2.length ≤ (b :: r).length := fun r' l' hr hl => by
        obtain ⟨q1, q2⟩ := ih r' l' hl
        exact ⟨by omega, fun t ht => by have := q2 t ht; simp only [List.length_cons]; omega⟩
      have add : ∀ (r' : List UInt8) (l' : List Tk) (t : Tk), r'.length ≤ r.length → t.2.length ≤ (b :: r).length → lexF n r' = some l' → (t :: l').length ≤ (b :: r).length ∧ ∀ u ∈ t :: l', u.2.length ≤ (b :: r).length := fun r' l' t hr ht hl => by
        obtain ⟨q1, q2⟩ := sub r' l' hr hl
        refine ⟨by simp only [List.length_cons]; omega, fun u hu => ?_⟩
        rcases List.mem_cons.1 hu with rfl | hu
        · exact ht
        · exact q2 u hu
      have up : ∀ {l' : List Tk}, (l'.length ≤ r.length ∧ ∀ t ∈ l', t.2.length ≤ (b :: r).length) → l'.length ≤ (b :: r).length ∧ ∀ t ∈ l', t.2.length ≤ (b :: r).length := fun h => ⟨by have := h.1; simp only [List.length_cons]; omega, h.2⟩
      rw [lexF] at h
      split at h
      · exact up (sub r l (Nat.le_refl _) h)
      split at h
      · exact up (sub _ l (dropWhile_le _ _) h)
      split at h
      · obtain ⟨r', hr', h⟩ := Option.bind_eq_some_iff.mp h
        exact up (sub r' l (by have := endC_len hr'; simp only [List.length_drop] at this; omega) h)
      split at h
      · split at h
        · simp at h
        · rename_i c r' hd
          split at h
          · simp at h
          · obtain ⟨l', hl', rfl⟩ := Option.map_eq_some_iff.mp h
            exact add r' l' _ (by have h4 := dropWhile_le (fun c => !quoteB c) r; rw [hd] at h4; simp only [List.length_cons] at h4; omega) (by have := (List.takeWhile_prefix (fun c => !quoteB c) (l := r)).length_le; simp only [List.length_cons]; omega) hl'
      split at h
      · obtain ⟨l', hl', rfl⟩ := Option.map_eq_some_iff.mp h
        exact add r l' _ (Nat.le_refl _) (by simp) hl'
      · obtain ⟨l', hl', rfl⟩ := Option.map_eq_some_iff.mp h
        exact add _ l' _ (dropWhile_le _ _) (by have := (List.takeWhile_prefix (fun c => !stopB c) (l := r)).length_le; simp only [List.length_cons]; omega) hl'
theorem btw_len (n : Nat) : (btw n).length ≤ 9 := by unfold btw; split <;> decide
theorem btw_may (n : Nat) : ∀ b ∈ btw n, mayB b = true := by unfold btw; split <;> decide
theorem render_len (t : Tk) : (render t).length ≤ t.2.length + 2 := by
  unfold render
  split
  · simp
  · split <;> simp
theorem render_mem (t : Tk) : ∀ b ∈ render t, b ∈ t.2 ∨ mayB b = true := by
  intro b hb
  unfold render at hb
  split at hb
  · simp only [List.mem_cons, List.mem_append, List.not_mem_nil, or_false] at hb
    rcases hb with rfl | hb | rfl
    · exact Or.inr (by decide)
    · exact Or.inl hb
    · exact Or.inr (by decide)
  · split at hb
    · simp only [List.mem_cons, List.mem_append, List.not_mem_nil, or_false] at hb
      rcases hb with hb | rfl
      · exact Or.inl hb
      · exact Or.inr (by decide)
    · exact Or.inl hb
theorem between_may (n : Nat) (l : List Tk) (h : ∀ t ∈ l, ∀ b ∈ t.2, mayB b = true) : ∀ b ∈ between n l, mayB b = true := by
  intro b hb
  unfold between at hb
  rcases List.mem_append.1 hb with hb | hb
  · exact btw_may n b hb
  · obtain ⟨t, ht, hb⟩ := List.mem_flatMap.1 hb
    rcases List.mem_append.1 hb with hb | hb
    · rcases render_mem t b hb with hb | hb
      · exact h t ht b hb
      · exact hb
    · exact btw_may n b hb
def outT (n : Nat) (l : List Tk) (i : Nat) : List UInt8 := btw n ++ (l.take i).flatMap (fun t => render t ++ btw n)
theorem outT_len (n : Nat) (l : List Tk) (ht : ∀ t ∈ l, t.2.length ≤ 2000) : ∀ i, (outT n l i).length ≤ 9 + i * 2011
  | 0 => by have := btw_len n; simp [outT]; omega
  | i + 1 => by
    have ih := outT_len n l ht i
    unfold outT at ih ⊢
    by_cases hi : i < l.length
    · have h2 := ht _ (List.getElem_mem hi)
      have h3 := render_len l[i]
      have h4 := btw_len n
      rw [List.take_succ_eq_append_getElem hi, List.flatMap_append, List.flatMap_cons, List.flatMap_nil, List.append_nil]
      simp only [List.length_append] at ih ⊢
      omega
    · have e : l.take (i + 1) = l.take i := by rw [List.take_of_length_le (show l.length ≤ i + 1 by omega), List.take_of_length_le (show l.length ≤ i by omega)]
      rw [e]
      exact Nat.le_trans ih (by omega)
theorem eqK (b c : UInt8) : ((b.toNat : Int) = (c.toNat : Int)) ↔ b = c := ⟨fun q => UInt8.toNat_inj.1 (by omega), fun q => by rw [q]⟩
section
variable (n : Nat) (l : List Tk) (hl : l.length ≤ 2000) (ht : ∀ t ∈ l, t.2.length ≤ 2000)
include hl in
theorem back_loop : ∀ (m i : Nat), i + m = l.length → Ev (fun k => dragomanlaw14_LexBetween.l1 k (l.map toTok) (l.map toTok) ((l.map toTok).length : Int) (i : Int)) true := by
  intro m
  induction m with
  | zero =>
    intro i hi
    refine Ev.step (by intro k; rw [dragomanlaw14_LexBetween.l1]) ?_
    exact Ev.ite_neg (by rw [List.length_map]; omega) (Ev.now _)
  | succ m ih =>
    intro i hi
    refine Ev.step (by intro k; rw [dragomanlaw14_LexBetween.l1]) ?_
    refine Ev.ite_pos (by rw [List.length_map]; omega) (Ev.ite_pos (by omega) (Ev.ite_pos (by rw [List.length_map]; omega) (Ev.ite_pos (by rw [List.length_map]; omega) ?_)))
    rw [w64s i (by omega)]
    exact Ev.ite_neg (by simp) (ih (i + 1) (by omega))
include hl ht in
theorem out_loop (hok : ∀ t ∈ l, okTok t) (hmay : ∀ t ∈ l, ∀ b ∈ t.2, mayB b = true) : ∀ (m i : Nat), i + m = l.length →
    Ev (fun k => dragomanlaw14_LexBetween.l0 k (l.map toTok) (toB (btw n)) (toB (outT n l i)) (l.map toTok) ((l.map toTok).length : Int) (i : Int)) true := by
  intro m
  induction m with
  | zero =>
    intro i hi
    have hall : outT n l i = between n l := by unfold outT between; rw [List.take_of_length_le (by omega)]
    rw [hall]
    refine Ev.step (by intro k; rw [dragomanlaw14_LexBetween.l0]) ?_
    refine Ev.ite_neg (by rw [List.length_map]; omega) ?_
    refine Ev.bind1 _ (tokens_ev _) ?_
    by_cases hz : ((toB (between n l)).size : Int) > 65536
    · exact Ev.ite_pos hz (Ev.now _)
    · refine Ev.ite_neg hz ?_
      have ha : askV (toB (between n l)) = 0 := by
        unfold askV
        rw [if_neg (by omega), toB_list, if_pos]
        rw [List.all_eq_true]
        exact between_may n l hmay
      have hv : tokV (toB (between n l)) = (l.map toTok, 0) := by
        unfold tokV tokAll
        rw [if_pos ha, toB_list, lex_between n l hok]
      rw [hv]
      refine Ev.ite_pos rfl ?_
      have e : (((l.map toTok).length : Int) != ((l.map toTok).length : Int)) = false := by simp
      show Ev (fun k => dragomanlaw14_LexBetween.j1 k (l.map toTok) (l.map toTok) (((l.map toTok).length : Int) != ((l.map toTok).length : Int))) true
      rw [e]
      refine Ev.step (by intro k; rw [dragomanlaw14_LexBetween.j1]) ?_
      exact Ev.ite_neg (by decide) (back_loop l hl _ 0 (by rw [Nat.zero_add]))
  | succ m ih =>
    intro i hi
    have hlt : i < l.length := by omega
    have h1 := outT_len n l ht i
    have h2 := ht _ (List.getElem_mem hlt)
    have h4 := btw_len n
    have hnext : outT n l (i + 1) = outT n l i ++ (render l[i] ++ btw n) := by
      unfold outT
      rw [List.take_succ_eq_append_getElem hlt, List.flatMap_append, List.flatMap_cons, List.flatMap_nil, List.append_nil, List.append_assoc]
    have hn := ih (i + 1) (by omega)
    rw [hnext] at hn
    refine Ev.step (by intro k; rw [dragomanlaw14_LexBetween.l0]) ?_
    refine Ev.ite_pos (by rw [List.length_map]; omega) (Ev.ite_pos (by omega) (Ev.ite_pos (by rw [List.length_map]; omega) ?_))
    rw [rdT40b _ i (by rw [List.length_map]; exact hlt), List.getElem_map, w64s i (by omega)]
    generalize l[i] = t at *
    obtain ⟨c, x⟩ := t
    have e0 : (toTok (c, x)).f0 = (c.toNat : Int) := rfl
    have e1 : (toTok (c, x)).f1 = toB x := rfl
    have e34 : (⟨#[34]⟩ : ByteArray) = toB [34] := rfl
    have e32 : (⟨#[32]⟩ : ByteArray) = toB [32] := rfl
    rw [e0, e1, e34, e32]
    simp only [toB_append, toB_size]
    have hx : x.length ≤ 2000 := h2
    by_cases c1 : c = 113
    · subst c1
      refine Ev.ite_pos rfl (Ev.ite_pos (by omega) (Ev.ite_pos (by simp only [List.length_append, List.length_cons, List.length_nil]; omega) (Ev.ite_pos (by simp only [List.length_append, List.length_cons, List.length_nil]; omega) (Ev.ite_pos (by simp only [List.length_append, List.length_cons, List.length_nil]; omega) ?_))))
      have e : outT n l i ++ ([34] ++ x ++ [34]) ++ btw n = outT n l i ++ (render (113, x) ++ btw n) := by simp [render]
      rw [e]
      exact hn
    · refine Ev.ite_neg (fun q => c1 ((eqK c 113).1 q)) ?_
      by_cases c2 : c = 119
      · subst c2
        refine Ev.ite_pos rfl (Ev.ite_pos (by omega) (Ev.ite_pos (by simp only [List.length_append, List.length_cons, List.length_nil]; omega) (Ev.ite_pos (by simp only [List.length_append, List.length_cons, List.length_nil]; omega) ?_)))
        have e : outT n l i ++ (x ++ [32]) ++ btw n = outT n l i ++ (render (119, x) ++ btw n) := by simp [render]
        rw [e]
        exact hn
      · refine Ev.ite_neg (fun q => c2 ((eqK c 119).1 q)) (Ev.ite_pos (by omega) (Ev.ite_pos (by simp only [List.length_append]; omega) ?_))
        have e : outT n l i ++ x ++ btw n = outT n l i ++ (render (c, x) ++ btw n) := by simp [render, c1, c2]
        rw [e]
        exact hn
end
theorem lexBetween_ev (s : ByteArray) (a : Int) (h0 : 0 ≤ a) : Ev (fun k => dragomanlaw14_LexBetween.f k s a) true := by
  refine Ev.congr (fun k => by rw [dragomanlaw14_LexBetween.f]) ?_
  refine Ev.bind1 _ alive_ev ?_
  refine Ev.ite_pos rfl ?_
  by_cases hs : (s.size : Int) > 2000
  · exact Ev.ite_pos hs (Ev.now _)
  refine Ev.ite_neg hs ?_
  refine Ev.bind1 _ (tokens_ev s) ?_
  have hsz := Lib.size_eq s
  obtain ⟨n, hn, e1, e2⟩ : ∃ n : Nat, n < 4 ∧ Int.tmod a 4 = (n : Int) ∧ ixS ([(⟨#[32]⟩ : ByteArray), (⟨#[10, 9]⟩ : ByteArray), (⟨#[32, 35, 32, 120, 32, 59, 32, 34, 10]⟩ : ByteArray), (⟨#[47, 42, 32, 123, 32, 34, 32, 42, 47]⟩ : ByteArray)] : List ByteArray) (n : Int) = toB (btw n) := by
    have h1 : Int.tmod a 4 = a % 4 := Int.tmod_eq_emod_of_nonneg h0
    refine ⟨(a % 4).toNat, by omega, by rw [h1]; omega, ?_⟩
    have : (a % 4).toNat = 0 ∨ (a % 4).toNat = 1 ∨ (a % 4).toNat = 2 ∨ (a % 4).toNat = 3 := by omega
    rcases this with h | h | h | h <;> rw [h] <;> rfl
  rw [e1, e2]
  unfold tokV tokAll
  by_cases ha : askV s = 0
  · rw [if_pos ha]
    have hm : s.data.toList.all mayB = true := by
      unfold askV at ha
      rw [if_neg (by omega)] at ha
      by_cases g : s.data.toList.all mayB = true
      · exact g
      · rw [if_neg g] at ha; exact absurd ha (by decide)
    cases hq : lexL s.data.toList with
    | none => exact Ev.ite_neg (by decide) (Ev.now _)
    | some l =>
      refine Ev.ite_pos rfl (Ev.ite_pos (by omega) (Ev.ite_pos (by omega) ?_))
      obtain ⟨q1, q2⟩ := lexF_lens _ _ _ hq
      have hb : outT n l 0 = btw n := by simp [outT]
      have := out_loop n l (by omega) (fun t ht => by have := q2 t ht; omega) (fun t ht => (lexL_ok hq t ht).1) (fun t ht b hb => List.all_eq_true.1 hm b ((lexL_ok hq t ht).2 b hb)) l.length 0 (by omega)
      rw [hb] at this
      exact this
  · rw [if_neg ha]
    exact Ev.ite_neg ha (Ev.now _)
end Go.Proofs.YtdnneofebehpaaaDoor.L
