/- LexTokens, plainly: the reference's tokens are lexL's, too. -/
import Derived.Test.YtdnneofebehpaaaDoorQd
import Derived.Test.YtdnneofebehpaaaDoorPlSt
import Derived.Test.YtdnneofebehpaaaDoorLx16
namespace Go.Proofs.YtdnneofebehpaaaDoor.L
open Go.RowKit Go.Proofs.YtdnneofebehpaaaDoorW.PrintWords Go.Proofs.YtdnneofebehpaaaDoorW.PrintLast Go.Proofs.YtdnneofebehpaaaDoorW.PrintMore Go.Proofs.YtdnneofebehpaaaDoor.LexPlain
theorem has_loop (y : ByteArray) (b : UInt8) (hy : y.size ≤ 65536) : ∀ (m j : Nat), j + m = y.size → Ev (fun k => dragomanref14_has.l0 k y (b.toNat : Int) (j : Int)) ((y.data.toList.drop j).any (fun c => c == b)) := by
  intro m
  have hsz := Lib.size_eq y
  induction m with
  | zero =>
    intro j hj
    refine Ev.step (by intro k; rw [dragomanref14_has.l0]) ?_
    rw [List.drop_of_length_le (by omega)]
    exact Ev.ite_neg (by omega) (Ev.now _)
  | succ m ih =>
    intro j hj
    have hlt : j < y.data.toList.length := by omega
    refine Ev.step (by intro k; rw [dragomanref14_has.l0]) ?_
    refine Ev.ite_pos (by omega) (Ev.ite_pos (by omega) ?_)
    rw [bt_list y j hlt, dropc _ j hlt, List.any_cons, w64s j (by omega)]
    by_cases h : y.data.toList[j] = b
    · have h' : (y.data.toList[j] == b) = true := beq_iff_eq.mpr h
      rw [h', Bool.true_or]
      exact Ev.ite_pos (by rw [h]) (Ev.now _)
    · have h' : (y.data.toList[j] == b) = false := beq_eq_false_iff_ne.mpr h
      rw [h', Bool.false_or]
      exact Ev.ite_neg (fun q => h (UInt8.toNat_inj.1 (by omega))) (ih (j + 1) (by omega))
theorem has_ev (y : ByteArray) (b : UInt8) (hy : y.size ≤ 65536) : Ev (fun k => dragomanref14_has.f k y (b.toNat : Int)) (y.data.toList.any (fun c => c == b)) := by
  refine Ev.congr (fun k => by rw [dragomanref14_has.f]) ?_
  have := has_loop y b hy y.size 0 (by omega)
  rw [List.drop_zero] at this
  exact this
theorem contains_any (l : List UInt8) (b : UInt8) : l.any (fun c => c == b) = l.contains b := by
  rw [List.contains_eq_any_beq]
  congr 1
  funext c
  rw [Bool.eq_iff_iff, beq_iff_eq, beq_iff_eq]
  exact eq_comm
inductive Skips : List UInt8 → Option (List UInt8) → Prop
  | nil : Skips [] (some [])
  | blank {b : UInt8} {r : List UInt8} {o : Option (List UInt8)} (h : blankB b = true) (q : Skips r o) : Skips (b :: r) o
  | note {r : List UInt8} {o : Option (List UInt8)} (q : Skips (r.dropWhile (fun c => !(c == 10))) o) : Skips (35 :: r) o
  | comment {r r' : List UInt8} {o : Option (List UInt8)} (h : endC r = some r') (q : Skips r' o) : Skips (47 :: 42 :: r) o
  | bad {r : List UInt8} (h : endC r = none) : Skips (47 :: 42 :: r) none
  | tok {b : UInt8} {r : List UInt8} (h1 : blankB b = false) (h2 : b ≠ 35) (h3 : ¬ (b = 47 ∧ r.head? = some 42)) : Skips (b :: r) (some (b :: r))
def tokStart : List UInt8 → Prop
  | [] => True
  | b :: r => blankB b = false ∧ b ≠ 35 ∧ ¬ (b = 47 ∧ r.head? = some 42)
theorem skips_lex {s : List UInt8} {o : Option (List UInt8)} (h : Skips s o) : lexL s = o.bind lexL := by
  induction h with
  | nil => rfl
  | blank h q ih => rw [lexL_cons, if_pos h, ih]
  | note q ih => rw [lexL_cons, if_neg (by decide), if_pos rfl, ih]
  | comment h q ih =>
    rw [lexL_cons, if_neg (by decide), if_neg (by decide), if_pos ⟨rfl, rfl⟩]
    show (endC (List.drop 1 (42 :: _))).bind lexL = _
    rw [List.drop_one, List.tail_cons, h]
    exact ih
  | bad h =>
    rw [lexL_cons, if_neg (by decide), if_neg (by decide), if_pos ⟨rfl, rfl⟩]
    show (endC (List.drop 1 (42 :: _))).bind lexL = _
    rw [List.drop_one, List.tail_cons, h]
  | tok h1 h2 h3 => rfl
theorem endC_suffix : ∀ {s r : List UInt8}, endC s = some r → r <:+ s := by
  intro s
  induction s with
  | nil => intro r h; simp [endC] at h
  | cons b l ih =>
    intro r h
    rw [endC] at h
    split at h
    · injection h with h
      subst h
      exact (List.drop_suffix 1 l).trans (List.suffix_cons b l)
    · exact (ih h).trans (List.suffix_cons b l)
theorem skips_ok {s : List UInt8} {o : Option (List UInt8)} (h : Skips s o) : ∀ r, o = some r → r <:+ s ∧ tokStart r := by
  induction h with
  | nil => rintro r q; injection q with q; subst q; exact ⟨List.suffix_refl _, trivial⟩
  | blank h q ih => intro r e; exact ⟨(ih r e).1.trans (List.suffix_cons _ _), (ih r e).2⟩
  | note q ih => intro r e; exact ⟨((ih r e).1.trans (List.dropWhile_suffix _)).trans (List.suffix_cons _ _), (ih r e).2⟩
  | comment h q ih => intro r e; exact ⟨(((ih r e).1.trans (endC_suffix h)).trans (List.suffix_cons _ _)).trans (List.suffix_cons _ _), (ih r e).2⟩
  | bad h => intro r e; exact absurd e (by simp)
  | tok h1 h2 h3 => intro r e; injection e with e; subst e; exact ⟨List.suffix_refl _, h1, h2, h3⟩
theorem suffix_at {t r : List UInt8} {i : Nat} (h : r <:+ t.drop i) : t.drop (t.length - r.length) = r ∧ r.length ≤ t.length - i := by
  have h2 : r <:+ t := h.trans (List.drop_suffix i t)
  have h3 := h.length_le
  rw [List.length_drop] at h3
  exact ⟨(List.suffix_iff_eq_drop.1 h2).symm, h3⟩
theorem eqN (b c : UInt8) : ((b.toNat : Int) = (c.toNat : Int)) ↔ b = c := ⟨fun q => UInt8.toNat_inj.1 (by omega), fun q => by rw [q]⟩
theorem note_ev (s : ByteArray) (hs : s.size ≤ 65536) (v : Int) : ∀ (m i : Nat), i + m = s.data.toList.length → Ev (fun k => dragomanref14_skip.l0 k s ((s.data.toList.length - ((s.data.toList.drop i).dropWhile (fun c => !(c == 10))).length : Nat) : Int)) v → Ev (fun k => dragomanref14_skip.l1 k s (i : Int)) v := by
  have hsz := Lib.size_eq s
  intro m
  induction m with
  | zero =>
    intro i hi h
    refine Ev.step (by intro k; rw [dragomanref14_skip.l1]) ?_
    refine Ev.ite_neg (by omega) ?_
    rw [List.drop_of_length_le (by omega)] at h
    have e : s.data.toList.length - (([] : List UInt8).dropWhile (fun c => !(c == 10))).length = i := by simp; omega
    rw [e] at h
    exact h
  | succ m ih =>
    intro i hi h
    have hlt : i < s.data.toList.length := by omega
    refine Ev.step (by intro k; rw [dragomanref14_skip.l1]) ?_
    refine Ev.ite_pos (by omega) (Ev.ite_pos (by omega) ?_)
    rw [bt_list s i hlt, w64s i (by omega)]
    rw [dropc _ i hlt, List.dropWhile_cons] at h
    by_cases hb : s.data.toList[i] = 10
    · refine Ev.ite_pos (by rw [hb]; rfl) ?_
      rw [if_neg (by rw [hb]; decide), List.length_cons, List.length_drop] at h
      have e : s.data.toList.length - (s.data.toList.length - (i + 1) + 1) = i := by omega
      rw [e] at h
      exact h
    · refine Ev.ite_neg (fun q => hb ((eqN _ 10).1 q)) ?_
      have hb' : (!(s.data.toList[i] == 10)) = true := by rw [beq_eq_false_iff_ne.mpr hb]; rfl
      rw [if_pos hb'] at h
      exact ih (i + 1) (by omega) h
theorem comment_ev (s : ByteArray) (hs : s.size ≤ 65536) (v : Int) : ∀ (m i : Nat), i + m = s.data.toList.length → (endC (s.data.toList.drop i) = none → v = -1) → (∀ r, endC (s.data.toList.drop i) = some r → Ev (fun k => dragomanref14_skip.l0 k s ((s.data.toList.length - r.length : Nat) : Int)) v) → Ev (fun k => dragomanref14_skip.l2 k s (i : Int)) v := by
  have hsz := Lib.size_eq s
  intro m
  induction m with
  | zero =>
    intro i hi h1 h2
    refine Ev.step (by intro k; rw [dragomanref14_skip.l2]) ?_
    rw [w64s i (by omega), h1 (by rw [List.drop_of_length_le (by omega)]; rfl)]
    exact Ev.ite_neg (by omega) (Ev.ite_pos (by omega) (Ev.now _))
  | succ m ih =>
    intro i hi h1 h2
    have hlt : i < s.data.toList.length := by omega
    refine Ev.step (by intro k; rw [dragomanref14_skip.l2]) ?_
    rw [w64s i (by omega)]
    have h64 : wrap64 ((i : Int) + 2) = ((i + 2 : Nat) : Int) := by rw [w64 (by omega) (by omega)]; omega
    rw [dropc _ i hlt, endC] at h1 h2
    by_cases hl : i + 1 < s.data.toList.length
    · have hh : (s.data.toList.drop (i + 1)).head? = some s.data.toList[i + 1] := by rw [List.head?_drop, List.getElem?_eq_getElem hl]
      rw [hh] at h1 h2
      refine Ev.ite_pos (by omega) (Ev.ite_pos (by omega) (Ev.ite_pos (by omega) ?_))
      rw [bt_list s i hlt, bt_list s (i + 1) hl, h64]
      by_cases hb : s.data.toList[i] = 42
      · refine Ev.ite_pos (by rw [hb]; rfl) (Ev.ite_pos (by omega) ?_)
        by_cases hc : s.data.toList[i + 1] = 47
        · refine Ev.ite_pos (by rw [hc]; rfl) (Ev.ite_neg (by omega) ?_)
          rw [if_pos ⟨hb, by rw [hc]⟩] at h2
          have := h2 _ rfl
          rw [List.length_drop, List.length_drop] at this
          have e : s.data.toList.length - (s.data.toList.length - (i + 1) - 1) = i + 2 := by omega
          rw [e] at this
          exact this
        · refine Ev.ite_neg (fun q => hc ((eqN _ 47).1 q)) ?_
          have hn : ¬ (s.data.toList[i] = 42 ∧ some s.data.toList[i + 1] = some 47) := fun q => hc (Option.some.inj q.2)
          rw [if_neg hn] at h1 h2
          exact ih (i + 1) (by omega) h1 h2
      · refine Ev.ite_neg (fun q => hb ((eqN _ 42).1 q)) ?_
        have hn : ¬ (s.data.toList[i] = 42 ∧ some s.data.toList[i + 1] = some 47) := fun q => hb q.1
        rw [if_neg hn] at h1 h2
        exact ih (i + 1) (by omega) h1 h2
    · have hd : s.data.toList.drop (i + 1) = [] := List.drop_of_length_le (by omega)
      rw [hd] at h1
      rw [h1 (by rw [if_neg (by simp)]; rfl)]
      exact Ev.ite_neg (by omega) (Ev.ite_pos (by omega) (Ev.now _))
def posS (n : Nat) : Option (List UInt8) → Int
  | none => -1
  | some r => ((n - r.length : Nat) : Int)
theorem skip_ev (s : ByteArray) (hs : s.size ≤ 65536) : ∀ (m i : Nat), s.data.toList.length - i ≤ m → i ≤ s.data.toList.length → ∃ o, Skips (s.data.toList.drop i) o ∧ Ev (fun k => dragomanref14_skip.l0 k s (i : Int)) (posS s.data.toList.length o) := by
  have hsz := Lib.size_eq s
  have stop : ∀ i, i = s.data.toList.length → ∃ o, Skips (s.data.toList.drop i) o ∧ Ev (fun k => dragomanref14_skip.l0 k s (i : Int)) (posS s.data.toList.length o) := by
    intro i hi
    refine ⟨some [], by rw [List.drop_of_length_le (by omega)]; exact Skips.nil, ?_⟩
    refine Ev.step (by intro k; rw [dragomanref14_skip.l0]) ?_
    refine Ev.ite_neg (by omega) ?_
    have e : posS s.data.toList.length (some []) = (i : Int) := by unfold posS; simp; omega
    rw [e]
    exact Ev.now _
  intro m
  induction m with
  | zero => intro i h1 h2; exact stop i (by omega)
  | succ m ih =>
    intro i h1 h2
    by_cases hi : i = s.data.toList.length
    · exact stop i hi
    have hlt : i < s.data.toList.length := by omega
    have hd := dropc s.data.toList i hlt
    have here : posS s.data.toList.length (some (s.data.toList.drop i)) = (i : Int) := by
      show ((s.data.toList.length - (s.data.toList.drop i).length : Nat) : Int) = (i : Int)
      rw [List.length_drop]
      omega
    by_cases hb : blankB s.data.toList[i] = true
    · obtain ⟨o, q1, q2⟩ := ih (i + 1) (by omega) (by omega)
      refine ⟨o, by rw [hd]; exact Skips.blank hb q1, ?_⟩
      refine Ev.step (by intro k; rw [dragomanref14_skip.l0]) ?_
      refine Ev.ite_pos (by omega) (Ev.ite_pos (by omega) ?_)
      rw [bt_list s i hlt, w64s i (by omega)]
      refine Ev.bind1 _ (has_ev ⟨#[32, 9, 10]⟩ _ (by decide)) ?_
      exact Ev.ite_pos (by rw [contains_any]; exact hb) q2
    · have hh : ∀ {f g : Nat → Option Int} {v : Int}, Ev g v → Ev (fun k => (dragomanref14_has.f k (⟨#[32, 9, 10]⟩ : ByteArray) (s.data.toList[i].toNat : Int)).bind fun t => if t = true then f k else g k) v := by
        intro f g v h
        refine Ev.bind1 _ (has_ev ⟨#[32, 9, 10]⟩ _ (by decide)) ?_
        exact Ev.ite_neg (by rw [contains_any]; exact hb) h
      by_cases h35 : s.data.toList[i] = 35
      · have hsuf := suffix_at (t := s.data.toList) (i := i + 1) (List.dropWhile_suffix (fun c => !(c == 10)) (l := s.data.toList.drop (i + 1)))
        obtain ⟨o, q1, q2⟩ := ih (s.data.toList.length - ((s.data.toList.drop (i + 1)).dropWhile (fun c => !(c == 10))).length) (by omega) (by omega)
        rw [hsuf.1] at q1
        refine ⟨o, by rw [hd, h35]; exact Skips.note q1, ?_⟩
        refine Ev.step (by intro k; rw [dragomanref14_skip.l0]) ?_
        refine Ev.ite_pos (by omega) (Ev.ite_pos (by omega) ?_)
        rw [bt_list s i hlt]
        refine hh ?_
        refine Ev.ite_pos (by rw [h35]; rfl) ?_
        refine note_ev s hs _ (s.data.toList.length - i) i (by omega) ?_
        rw [hd, List.dropWhile_cons, if_pos (by rw [h35]; decide)]
        exact q2
      · by_cases hc : s.data.toList[i] = 47 ∧ (s.data.toList.drop (i + 1)).head? = some 42
        · have hl : i + 1 < s.data.toList.length := by
            apply Classical.byContradiction
            intro q
            rw [List.drop_of_length_le (by omega)] at hc
            simp at hc
          have e42 : s.data.toList[i + 1] = 42 := by
            have := hc.2
            rw [List.head?_drop, List.getElem?_eq_getElem hl] at this
            exact Option.some.inj this
          have hd2 := dropc s.data.toList (i + 1) hl
          have h64 : wrap64 ((i : Int) + 2) = ((i + 2 : Nat) : Int) := by rw [w64 (by omega) (by omega)]; omega
          have walk : ∀ v, Ev (fun k => dragomanref14_skip.l2 k s ((i + 2 : Nat) : Int)) v → Ev (fun k => dragomanref14_skip.l0 k s (i : Int)) v := by
            intro v h
            refine Ev.step (by intro k; rw [dragomanref14_skip.l0]) ?_
            refine Ev.ite_pos (by omega) (Ev.ite_pos (by omega) ?_)
            rw [bt_list s i hlt]
            refine hh ?_
            refine Ev.ite_neg (by rw [hc.1]; decide) (Ev.ite_pos (by rw [hc.1]; rfl) ?_)
            rw [w64s i (by omega), bt_list s (i + 1) hl, e42]
            refine Ev.ite_pos (by omega) (Ev.ite_pos (by omega) ?_)
            refine Ev.step (by intro k; rw [dragomanref14_skip.j2]) ?_
            rw [h64]
            exact Ev.ite_pos rfl h
          cases he : endC (s.data.toList.drop (i + 2)) with
          | none =>
            refine ⟨none, by rw [hd, hd2, hc.1, e42]; exact Skips.bad he, ?_⟩
            refine walk _ (comment_ev s hs _ (s.data.toList.length - (i + 2)) (i + 2) (by omega) (fun _ => rfl) (fun r hr => by rw [he] at hr; exact absurd hr (by simp)))
          | some r =>
            have hsuf := suffix_at (t := s.data.toList) (endC_suffix he)
            obtain ⟨o, q1, q2⟩ := ih (s.data.toList.length - r.length) (by omega) (by omega)
            rw [hsuf.1] at q1
            refine ⟨o, by rw [hd, hd2, hc.1, e42]; exact Skips.comment he q1, ?_⟩
            refine walk _ (comment_ev s hs _ (s.data.toList.length - (i + 2)) (i + 2) (by omega) (fun q => by rw [he] at q; exact absurd q (by simp)) (fun r' hr => by rw [he] at hr; injection hr with hr; subst hr; exact q2))
        · refine ⟨some (s.data.toList.drop i), ?_, ?_⟩
          · rw [hd]
            exact Skips.tok (by simpa using hb) h35 hc
          · rw [here]
            refine Ev.step (by intro k; rw [dragomanref14_skip.l0]) ?_
            refine Ev.ite_pos (by omega) (Ev.ite_pos (by omega) ?_)
            rw [bt_list s i hlt]
            refine hh ?_
            refine Ev.ite_neg (fun q => h35 ((eqN _ 35).1 q)) ?_
            have j2 : Ev (fun k => dragomanref14_skip.j2 k s (i : Int) false) (i : Int) := by
              refine Ev.step (by intro k; rw [dragomanref14_skip.j2]) ?_
              exact Ev.ite_neg (by decide) (Ev.now _)
            by_cases h47 : s.data.toList[i] = 47
            · refine Ev.ite_pos (by rw [h47]; rfl) ?_
              rw [w64s i (by omega)]
              by_cases hl : i + 1 < s.data.toList.length
              · refine Ev.ite_pos (by omega) (Ev.ite_pos (by omega) ?_)
                have ne : ((bt s ((i + 1 : Nat) : Int)) == 42) = false := by
                  rw [bt_list s (i + 1) hl]
                  refine beq_eq_false_iff_ne.mpr (fun q => hc ⟨h47, ?_⟩)
                  rw [List.head?_drop, List.getElem?_eq_getElem hl, (eqN _ 42).1 q]
                rw [ne]
                exact j2
              · exact Ev.ite_neg (by omega) j2
            · exact Ev.ite_neg (fun q => h47 ((eqN _ 47).1 q)) j2
def tok39 (x : Tk) : S39 := ⟨(x.1.toNat : Int), ⟨x.2.toArray⟩⟩
def resT (acc : List S39) : Option (List Tk) → List S39 × Int
  | none => ([], 4)
  | some l => (acc ++ l.map tok39, 0)
theorem resT_cons (acc : List S39) (t : Tk) (o : Option (List Tk)) : resT acc (o.map (t :: ·)) = resT (acc ++ [tok39 t]) o := by
  cases o with
  | none => rfl
  | some l => simp [resT]
theorem extract_at (s : ByteArray) (i j : Nat) : s.extract i j = toB ((s.data.toList.drop i).take (j - i)) := by rw [Lib.extract_eq]; rfl
theorem take_of_dropWhile (p : UInt8 → Bool) (l : List UInt8) : l.take (l.length - (l.dropWhile p).length) = l.takeWhile p := by
  have h : l.takeWhile p ++ l.dropWhile p = l := List.takeWhile_append_dropWhile
  have e : l.length - (l.dropWhile p).length = (l.takeWhile p).length := by
    have := congrArg List.length h
    rw [List.length_append] at this
    omega
  rw [e]
  have h2 : (l.takeWhile p ++ l.dropWhile p).take (l.takeWhile p).length = l.takeWhile p := List.take_left
  rwa [h] at h2
theorem tokens_neg (s : ByteArray) (acc : List S39) : Ev (fun k => dragomanref14_Tokens.l0 k s acc (-1)) ([], 4) := by
  refine Ev.step (by intro k; rw [dragomanref14_Tokens.l0]) ?_
  exact Ev.ite_neg (by omega) (Ev.ite_pos (by decide) (Ev.now _))
section
variable (s : ByteArray) (hs : s.size ≤ 65536)
include hs
theorem next_ev (j : Nat) (acc : List S39) (hj : j ≤ s.data.toList.length) (ih : ∀ i : Nat, j ≤ i → i ≤ s.data.toList.length → tokStart (s.data.toList.drop i) → Ev (fun k => dragomanref14_Tokens.l0 k s acc (i : Int)) (resT acc (lexL (s.data.toList.drop i)))) :
    Ev (fun k => (dragomanref14_skip.f k s (j : Int)).bind fun t => dragomanref14_Tokens.l0 k s acc t) (resT acc (lexL (s.data.toList.drop j))) := by
  obtain ⟨o, q1, q2⟩ := skip_ev s hs _ j (Nat.le_refl _) hj
  refine Ev.bind1 _ (Ev.congr (fun k => by rw [dragomanref14_skip.f]) q2) ?_
  rw [skips_lex q1]
  cases o with
  | none => exact tokens_neg s acc
  | some r =>
    obtain ⟨h1, h2⟩ := skips_ok q1 r rfl
    obtain ⟨h3, h4⟩ := suffix_at h1
    have := ih (s.data.toList.length - r.length) (by omega) (by omega) (by rw [h3]; exact h2)
    rw [h3] at this
    exact this
theorem word_ev (acc : List S39) (i : Nat) (ha : acc.length ≤ i) (R : List S39 × Int)
    (h : ∀ j : Nat, i ≤ j → j ≤ s.data.toList.length → j = s.data.toList.length - ((s.data.toList.drop i).dropWhile (fun c => !stopB c)).length → Ev (fun k => (dragomanref14_skip.f k s (j : Int)).bind fun t => dragomanref14_Tokens.l0 k s (acc ++ [(⟨119, s.extract i j⟩ : S39)]) t) R) :
    ∀ (m j : Nat), j + m = s.data.toList.length → i ≤ j → (s.data.toList.drop i).dropWhile (fun c => !stopB c) = (s.data.toList.drop j).dropWhile (fun c => !stopB c) → Ev (fun k => dragomanref14_Tokens.l2 k s acc (i : Int) (j : Int)) R := by
  have hsz := Lib.size_eq s
  intro m
  induction m with
  | zero =>
    intro j hj hij he
    refine Ev.step (by intro k; rw [dragomanref14_Tokens.l2]) ?_
    refine Ev.ite_neg (by omega) (Ev.ite_pos (by omega) (Ev.ite_pos (by omega) (Ev.ite_pos (by omega) (Ev.ite_pos (by omega) ?_))))
    refine h j hij (by omega) ?_
    rw [he, List.drop_of_length_le (by omega)]
    simp
    omega
  | succ m ih =>
    intro j hj hij he
    have hlt : j < s.data.toList.length := by omega
    refine Ev.step (by intro k; rw [dragomanref14_Tokens.l2]) ?_
    refine Ev.ite_pos (by omega) (Ev.ite_pos (by omega) ?_)
    rw [bt_list s j hlt]
    refine Ev.bind1 _ (has_ev ⟨#[32, 9, 10, 123, 125, 91, 93, 59, 34, 35]⟩ _ (by decide)) ?_
    rw [contains_any, w64s j (by omega)]
    rw [dropc _ j hlt, List.dropWhile_cons] at he
    by_cases hb : stopB s.data.toList[j] = true
    · refine Ev.ite_pos hb (Ev.ite_pos (by omega) (Ev.ite_pos (by omega) (Ev.ite_pos (by omega) (Ev.ite_pos (by omega) ?_))))
      refine h j hij (by omega) ?_
      have hb' : ¬ (!stopB s.data.toList[j]) = true := by rw [hb]; decide
      rw [he, if_neg hb', List.length_cons, List.length_drop]
      omega
    · refine Ev.ite_neg hb ?_
      have hb' : (!stopB s.data.toList[j]) = true := by rw [Bool.eq_false_iff.2 hb]; rfl
      rw [if_pos hb'] at he
      exact ih (j + 1) (by omega) (by omega) he
theorem quote_ev (acc : List S39) (i : Nat) (ha : acc.length ≤ i) (R : List S39 × Int)
    (h0 : (s.data.toList.drop (i + 1)).dropWhile (fun c => !quoteB c) = [] → R = ([], 4))
    (h1 : ∀ r, (s.data.toList.drop (i + 1)).dropWhile (fun c => !quoteB c) = 10 :: r → R = ([], 4))
    (h2 : ∀ (j : Nat) r, i + 1 ≤ j → j < s.data.toList.length → (s.data.toList.drop (i + 1)).dropWhile (fun c => !quoteB c) = 34 :: r → s.data.toList.drop (j + 1) = r → j = s.data.toList.length - (r.length + 1) → Ev (fun k => (dragomanref14_skip.f k s ((j + 1 : Nat) : Int)).bind fun t => dragomanref14_Tokens.l0 k s (acc ++ [(⟨113, s.extract (i + 1) j⟩ : S39)]) t) R) :
    ∀ (m j : Nat), j + m = s.data.toList.length → i + 1 ≤ j → (s.data.toList.drop (i + 1)).dropWhile (fun c => !quoteB c) = (s.data.toList.drop j).dropWhile (fun c => !quoteB c) → Ev (fun k => dragomanref14_Tokens.l1 k s acc (i : Int) (j : Int)) R := by
  have hsz := Lib.size_eq s
  intro m
  induction m with
  | zero =>
    intro j hj hij he
    refine Ev.step (by intro k; rw [dragomanref14_Tokens.l1]) ?_
    rw [h0 (by rw [he, List.drop_of_length_le (by omega)]; rfl)]
    exact Ev.ite_neg (by omega) (Ev.ite_pos (by omega) (Ev.now _))
  | succ m ih =>
    intro j hj hij he
    have hlt : j < s.data.toList.length := by omega
    refine Ev.step (by intro k; rw [dragomanref14_Tokens.l1]) ?_
    refine Ev.ite_pos (by omega) (Ev.ite_pos (by omega) ?_)
    rw [bt_list s j hlt, w64s i (by omega), w64s j (by omega)]
    rw [dropc _ j hlt, List.dropWhile_cons] at he
    by_cases hb : s.data.toList[j] = 34
    · rw [hb, if_neg (by decide)] at he
      refine Ev.ite_pos (by rw [hb]; rfl) (Ev.ite_neg (by omega) (Ev.ite_neg (by rw [hb]; decide) (Ev.ite_pos (by omega) (Ev.ite_pos (by omega) (Ev.ite_pos (by omega) (Ev.ite_pos (by omega) ?_))))))
      exact h2 j _ hij hlt he rfl (by rw [List.length_drop]; omega)
    · refine Ev.ite_neg (fun q => hb ((eqN _ 34).1 q)) ?_
      by_cases hc : s.data.toList[j] = 10
      · rw [hc, if_neg (by decide)] at he
        rw [h1 _ he]
        exact Ev.ite_pos (by rw [hc]; rfl) (Ev.ite_neg (by omega) (Ev.now _))
      · have hq : quoteB s.data.toList[j] = false := by
          unfold quoteB
          simp only [List.contains_cons, List.contains_nil, Bool.or_false, Bool.or_eq_false_iff, beq_eq_false_iff_ne, ne_eq]
          exact ⟨hb, hc⟩
        rw [if_pos (by rw [hq]; rfl)] at he
        exact Ev.ite_neg (fun q => hc ((eqN _ 10).1 q)) (ih (j + 1) (by omega) (by omega) he)
theorem tokens_loop : ∀ (m i : Nat) (acc : List S39), s.data.toList.length - i ≤ m → i ≤ s.data.toList.length → acc.length ≤ i → tokStart (s.data.toList.drop i) → Ev (fun k => dragomanref14_Tokens.l0 k s acc (i : Int)) (resT acc (lexL (s.data.toList.drop i))) := by
  have hsz := Lib.size_eq s
  intro m
  induction m with
  | zero =>
    intro i acc h1 h2 ha ht
    refine Ev.step (by intro k; rw [dragomanref14_Tokens.l0]) ?_
    refine Ev.ite_pos (by omega) ?_
    rw [List.drop_of_length_le (by omega), lexL_nil]
    have : resT acc (some []) = (acc, 0) := by simp [resT]
    rw [this]
    exact Ev.now _
  | succ m ih =>
    intro i acc h1 h2 ha ht
    by_cases hi : i = s.data.toList.length
    · refine Ev.step (by intro k; rw [dragomanref14_Tokens.l0]) ?_
      refine Ev.ite_pos (by omega) ?_
      rw [List.drop_of_length_le (by omega), lexL_nil]
      have : resT acc (some []) = (acc, 0) := by simp [resT]
      rw [this]
      exact Ev.now _
    have hlt : i < s.data.toList.length := by omega
    have hd := dropc s.data.toList i hlt
    rw [hd] at ht ⊢
    obtain ⟨t1, t2, t3⟩ := ht
    refine Ev.step (by intro k; rw [dragomanref14_Tokens.l0]) ?_
    refine Ev.ite_neg (by omega) (Ev.ite_neg (by omega) (Ev.ite_pos (by omega) (Ev.ite_pos (by omega) ?_)))
    rw [bt_list s i hlt]
    refine Ev.bind1 _ (has_ev ⟨#[123, 125, 91, 93, 59]⟩ _ (by decide)) ?_
    rw [contains_any, w64s i (by omega)]
    by_cases hb : signB s.data.toList[i] = true
    · have h34 : s.data.toList[i] ≠ 34 := by intro q; rw [q] at hb; exact absurd hb (by decide)
      rw [lexL_cons, if_neg (by rw [t1]; decide), if_neg t2, if_neg t3, if_neg h34, if_pos hb, resT_cons]
      refine Ev.ite_pos hb (Ev.ite_pos (by omega) (Ev.ite_pos (by omega) (Ev.ite_pos (by omega) ?_)))
      have e : (⟨(s.data.toList[i].toNat : Int), s.extract ((i : Int)).toNat (((i + 1 : Nat) : Int)).toNat⟩ : S39) = tok39 (s.data.toList[i], [s.data.toList[i]]) := by
        rw [Int.toNat_natCast, Int.toNat_natCast, extract_one s i hlt]
        rfl
      rw [e]
      exact next_ev s hs (i + 1) _ (by omega) (fun i' q1 q2 q3 => ih i' _ (by omega) q2 (by simp; omega) q3)
    · refine Ev.ite_neg hb ?_
      by_cases h34 : s.data.toList[i] = 34
      · refine Ev.ite_pos (by rw [h34]; rfl) ?_
        have hl : lexL (s.data.toList[i] :: s.data.toList.drop (i + 1)) = (match (s.data.toList.drop (i + 1)).dropWhile (fun c => !quoteB c) with
            | [] => none
            | c :: r' => if c = 10 then none else (lexL r').map ((113, (s.data.toList.drop (i + 1)).takeWhile (fun c => !quoteB c)) :: ·)) := by
          rw [lexL_cons, if_neg (by rw [t1]; decide), if_neg t2, if_neg t3, if_pos h34]
          rfl
        rw [hl]
        refine quote_ev s hs acc i ha _ (fun q => by rw [q]; rfl) (fun r q => by rw [q]; rfl) (fun j r q1 q2 q3 q4 q5 => ?_) (s.data.toList.length - (i + 1)) (i + 1) (by omega) (Nat.le_refl _) rfl
        rw [q3]
        show Ev _ (resT acc (if (34 : UInt8) = 10 then none else (lexL r).map _))
        rw [if_neg (by decide), resT_cons]
        have e : (⟨113, s.extract (i + 1) j⟩ : S39) = tok39 (113, (s.data.toList.drop (i + 1)).takeWhile (fun c => !quoteB c)) := by
          rw [extract_at, ← take_of_dropWhile, q3, List.length_drop, List.length_cons]
          have : j - (i + 1) = s.data.toList.length - (i + 1) - (r.length + 1) := by omega
          rw [this]
          rfl
        rw [e, ← q4]
        exact next_ev s hs (j + 1) _ (by omega) (fun i' p1 p2 p3 => ih i' _ (by omega) p2 (by simp; omega) p3)
      · refine Ev.ite_neg (fun q => h34 ((eqN _ 34).1 q)) ?_
        have hsb : stopB s.data.toList[i] = false := stop_of t1 t2 h34 (by simpa using hb)
        have hl : lexL (s.data.toList[i] :: s.data.toList.drop (i + 1)) = (lexL ((s.data.toList.drop i).dropWhile (fun c => !stopB c))).map ((119, (s.data.toList.drop i).takeWhile (fun c => !stopB c)) :: ·) := by
          rw [lexL_cons, if_neg (by rw [t1]; decide), if_neg t2, if_neg t3, if_neg h34, if_neg hb, hd, List.dropWhile_cons, List.takeWhile_cons, if_pos (by rw [hsb]; rfl), if_pos (by rw [hsb]; rfl)]
        rw [hl, resT_cons]
        refine word_ev s hs acc i ha _ (fun j q1 q2 q3 => ?_) (s.data.toList.length - i) i (by omega) (Nat.le_refl _) rfl
        have hsuf := suffix_at (t := s.data.toList) (i := i) (List.dropWhile_suffix (fun c => !stopB c) (l := s.data.toList.drop i))
        have hlen : ((s.data.toList.drop i).dropWhile (fun c => !stopB c)).length ≤ s.data.toList.length - (i + 1) := by
          rw [hd, List.dropWhile_cons, if_pos (by rw [hsb]; rfl)]
          have := dropWhile_le (fun c => !stopB c) (s.data.toList.drop (i + 1))
          rw [List.length_drop] at this
          exact this
        have e : (⟨119, s.extract i j⟩ : S39) = tok39 (119, (s.data.toList.drop i).takeWhile (fun c => !stopB c)) := by
          rw [extract_at, ← take_of_dropWhile, List.length_drop]
          have : j - i = s.data.toList.length - i - ((s.data.toList.drop i).dropWhile (fun c => !stopB c)).length := by omega
          rw [this]
          rfl
        rw [e, ← hsuf.1, ← q3]
        exact next_ev s hs j _ q2 (fun i' p1 p2 p3 => ih i' _ (by omega) p2 (by simp; omega) p3)
end
def rtokV (s : ByteArray) : List S39 × Int := if askV s = 0 then resT [] (lexL s.data.toList) else ([], askV s)
theorem rtokens_ev (s : ByteArray) : Ev (fun k => dragomanref14_Tokens.f k s) (rtokV s) := by
  refine Ev.congr (fun k => by rw [dragomanref14_Tokens.f]) ?_
  unfold rtokV askV
  by_cases h : 65536 < s.size
  · rw [if_pos h, if_neg (by decide)]
    exact Ev.ite_pos (by omega) (Ev.now _)
  · rw [if_neg h]
    refine Ev.ite_neg (by omega) ?_
    refine Ev.bind1 _ (may_ev s (by omega)) ?_
    by_cases hm : s.data.toList.all mayB = true
    · rw [if_pos hm, if_pos rfl]
      refine Ev.ite_pos hm ?_
      have := next_ev s (by omega) 0 [] (by omega) (fun i' p1 p2 p3 => tokens_loop s (by omega) _ i' [] (Nat.le_refl _) p2 (by simp) p3)
      rw [List.drop_zero] at this
      exact this
    · rw [if_neg hm, if_neg (by decide)]
      exact Ev.ite_neg hm (Ev.now _)
theorem rdT40 (xs : List S40) (j : Nat) (h : j < xs.length) : rd_T40 xs (j : Int) = xs[j] := by
  simp [rd_T40, List.getD_eq_getElem?_getD, List.getElem?_eq_getElem h]
theorem rdT39 (xs : List S39) (j : Nat) (h : j < xs.length) : rd_T39 xs (j : Int) = xs[j] := by
  simp [rd_T39, List.getD_eq_getElem?_getD, List.getElem?_eq_getElem h]
theorem lexF_count : ∀ (n : Nat) (s : List UInt8) (l : List Tk), lexF n s = some l → l.length ≤ s.length := by
  intro n
  induction n with
  | zero => intro s l h; simp [lexF] at h
  | succ n ih =>
    intro s l h
    cases s with
    | nil => simp only [lexF, Option.some.injEq] at h; subst h; simp
    | cons b r =>
      rw [lexF] at h
      split at h
      · have := ih _ _ h; simp only [List.length_cons]; omega
      split at h
      · have := ih _ _ h; have := dropWhile_le (fun c => !(c == 10)) r; simp only [List.length_cons]; omega
      split at h
      · obtain ⟨r', hr', h⟩ := Option.bind_eq_some_iff.mp h
        have := ih _ _ h; have := endC_len hr'; simp only [List.length_drop, List.length_cons] at *; omega
      split at h
      · split at h
        · simp at h
        · rename_i c r' hd
          split at h
          · simp at h
          · obtain ⟨l', hl', rfl⟩ := Option.map_eq_some_iff.mp h
            have := ih _ _ hl'; have h4 := dropWhile_le (fun c => !quoteB c) r; rw [hd] at h4; simp only [List.length_cons] at *; omega
      split at h
      · obtain ⟨l', hl', rfl⟩ := Option.map_eq_some_iff.mp h
        have := ih _ _ hl'; simp only [List.length_cons]; omega
      · obtain ⟨l', hl', rfl⟩ := Option.map_eq_some_iff.mp h
        have := ih _ _ hl'; have := dropWhile_le (fun c => !stopB c) r; simp only [List.length_cons]; omega
theorem tok_loop (l : List Tk) (hl : l.length ≤ 65536) : ∀ (m i : Nat), i + m = l.length → Ev (fun k => dragomanlaw14_LexTokens.l0 k (l.map toTok) (l.map tok39) ((l.map toTok).length : Int) (i : Int)) true := by
  intro m
  induction m with
  | zero =>
    intro i hi
    refine Ev.step (by intro k; rw [dragomanlaw14_LexTokens.l0]) ?_
    exact Ev.ite_neg (by rw [List.length_map]; omega) (Ev.now _)
  | succ m ih =>
    intro i hi
    have hlt : i < l.length := by omega
    refine Ev.step (by intro k; rw [dragomanlaw14_LexTokens.l0]) ?_
    refine Ev.ite_pos (by rw [List.length_map]; omega) (Ev.ite_pos (by omega) (Ev.ite_pos (by rw [List.length_map]; omega) (Ev.ite_pos (by rw [List.length_map]; omega) ?_)))
    rw [rdT40 _ i (by rw [List.length_map]; exact hlt), rdT39 _ i (by rw [List.length_map]; exact hlt), List.getElem_map, List.getElem_map, w64s i (by omega)]
    refine Ev.ite_neg ?_ (ih (i + 1) (by omega))
    simp [toTok, tok39]
theorem lexTokens_ev (s : ByteArray) : Ev (fun k => dragomanlaw14_LexTokens.f k s) true := by
  refine Ev.congr (fun k => by rw [dragomanlaw14_LexTokens.f]) ?_
  refine Ev.bind1 _ alive_ev ?_
  refine Ev.ite_pos rfl ?_
  have j0 : Ev (fun k => dragomanlaw14_LexTokens.j0 k s false) true := by
    refine Ev.step (by intro k; rw [dragomanlaw14_LexTokens.j0]) ?_
    refine Ev.ite_neg (by decide) ?_
    refine Ev.bind1 _ (tokens_ev s) ?_
    refine Ev.bind1 _ (rtokens_ev s) ?_
    obtain ⟨l, hl, e1, e2⟩ : ∃ l : List Tk, l.length ≤ 65536 ∧ (tokV s).1 = l.map toTok ∧ (rtokV s).1 = l.map tok39 := by
      unfold tokV rtokV
      by_cases h : askV s = 0
      · rw [if_pos h, if_pos h]
        unfold tokAll
        cases hq : lexL s.data.toList with
        | none => exact ⟨[], by simp, rfl, rfl⟩
        | some l =>
          have := lexF_count _ _ _ hq
          have h6 := ask_size h
          have h7 := Lib.size_eq s
          exact ⟨l, by omega, rfl, rfl⟩
      · rw [if_neg h, if_neg h]
        exact ⟨[], by simp, rfl, rfl⟩
    have e3 : (tokV s).2 = (rtokV s).2 := by
      unfold tokV rtokV
      by_cases h : askV s = 0
      · rw [if_pos h, if_pos h]
        unfold tokAll
        cases hq : lexL s.data.toList <;> rfl
      · rw [if_neg h, if_neg h]
    refine Ev.ite_pos e3 ?_
    have e : (((tokV s).1.length : Int) != ((rtokV s).1.length : Int)) = false := by rw [e1, e2]; simp
    rw [e]
    refine Ev.step (by intro k; rw [dragomanlaw14_LexTokens.j1]) ?_
    refine Ev.ite_neg (by decide) ?_
    rw [e1, e2]
    exact tok_loop l hl _ 0 (by rw [Nat.zero_add])
  by_cases h : (s.size : Int) > 3000
  · refine Ev.ite_pos h ?_
    by_cases h2 : (s.size : Int) ≤ 65536
    · rw [decide_eq_true h2]
      refine Ev.step (by intro k; rw [dragomanlaw14_LexTokens.j0]) ?_
      exact Ev.ite_pos rfl (Ev.now _)
    · rw [decide_eq_false h2]
      exact j0
  · exact Ev.ite_neg h j0
end Go.Proofs.YtdnneofebehpaaaDoor.L
