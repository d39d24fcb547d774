import Derived.Test.YtdnneofebehpaaaGreatDoorLx0
import Derived.Test.YtdnneofebehpaaaGreatDoorLx4
import Derived.Test.YtdnneofebehpaaaGreatDoorLx5
namespace Go.Proofs.YtdnneofebehpaaaGreatDoor.L
open Go.RowKit Go.Proofs.YtdnneofebehpaaaGreatDoorW.PrintWords Go.Proofs.YtdnneofebehpaaaGreatDoorW.PrintLast Go.Proofs.YtdnneofebehpaaaGreatDoorW.PrintMore
attribute [local go_sem] max2_int min2_int max_two min_two max_three min_three max_four min_four
set_option linter.unusedVariables false
set_option linter.unusedSimpArgs false
open Go.Proofs.YtdnneofebehpaaaGreatDoor.LexPlain
def toTok (x : Tk) : S54 := ⟨(x.1.toNat : Int), ⟨x.2.toArray⟩⟩
def tokAll (s : ByteArray) : List S54 × Int := match lexL s.data.toList with
  | none => ([], 4)
  | some l => (l.map toTok, 0)
def lex_Tokens.f (k : Nat) (a0 : ByteArray) : Option (List S54 × Int) := (lex_ask.f k a0).bind fun e => if e = 0 then (if a0.size < 4294967281 ∧ asciiC a0 = true then some (tokAll a0) else none) else some ([], e)
theorem lex_Tokens.mono : ∀ a0 k, LeO (lex_Tokens.f k a0) (lex_Tokens.f (k + 1) a0) := by
  intro a0 k
  unfold lex_Tokens.f
  exact LeO.bind (lex_ask.mono _ _) (fun _ => LeO.refl _)
theorem trim_at (s : ByteArray) (i : Nat) : ∃ T, strings_TrimLeft.f (s.extract i s.size) ⟨#[32, 9, 10]⟩ = some T ∧ T.data.toList = (s.data.toList.drop i).dropWhile blankB := by
  unfold strings_TrimLeft.f
  rw [if_pos ⟨by decide, by decide⟩]
  refine ⟨_, rfl, ?_⟩
  show Lib.trimLeftS (s.extract i s.size).data.toList [32, 9, 10] = _
  rw [Lib.extract_to_end]
  rfl
theorem trim_laws (s T : ByteArray) (i : Nat) (h : T.data.toList = (s.data.toList.drop i).dropWhile blankB) (hA : asciiC s = true) : lexL T.data.toList = lexL (s.data.toList.drop i) ∧ T.size ≤ s.size - i ∧ asciiC T = true ∧ ∀ b r, T.data.toList = b :: r → blankB b = false := by
  refine ⟨by rw [h]; exact lexL_blanks _, ?_, ?_, ?_⟩
  · have h1 := dropWhile_le blankB (s.data.toList.drop i)
    rw [← h, List.length_drop, ← Lib.size_eq, ← Lib.size_eq] at h1
    exact h1
  · unfold asciiC at hA ⊢
    rw [List.all_eq_true] at hA ⊢
    intro b hb
    rw [h] at hb
    exact hA b (List.mem_of_mem_drop ((List.dropWhile_suffix _).subset hb))
  · intro b r e
    rw [h] at e
    have key : ∀ l : List UInt8, l.dropWhile blankB = b :: r → blankB b = false := by
      intro l
      induction l with
      | nil => intro q; simp at q
      | cons c l ih =>
        intro q
        rw [List.dropWhile_cons] at q
        by_cases g : blankB c = true
        · rw [if_pos g] at q; exact ih q
        · rw [if_neg g] at q; injection q with q1 q2; subst q1; simpa using g
    exact key _ e
theorem head_at {T : ByteArray} (h : ¬ T = ⟨#[]⟩) : 0 < T.size ∧ T.toList.isEmpty = false ∧ ∃ b r, T.data.toList = b :: r ∧ bt T 0 = (b.toNat : Int) := by
  obtain ⟨⟨l⟩⟩ := T
  cases l with
  | nil => exact absurd rfl h
  | cons b r =>
    refine ⟨by show 0 < (b :: r).toArray.size; simp, ?_, b, r, rfl, ?_⟩
    · rw [Lib.toList_data]
      rfl
    · rfl
theorem pfx_at {T : ByteArray} {b : UInt8} {r : List UInt8} {p : Bool} (hbr : T.data.toList = b :: r) (h : strings_HasPrefix.f T ⟨#[47, 42]⟩ = some p) : p = true ↔ (b = 47 ∧ r.head? = some 42) := by
  have hs : T.size = r.length + 1 := by rw [Lib.size_eq, hbr]; rfl
  unfold strings_HasPrefix.f stringslite_HasPrefix.f at h
  have e2 : ((⟨#[47, 42]⟩ : ByteArray).size : Int) = 2 := rfl
  rw [e2] at h
  by_cases g : (T.size : Int) ≥ 2
  · rw [if_pos g, if_pos (by decide), if_pos g] at h
    simp only [Option.bind_some, Option.some.injEq] at h
    rw [← h, beq_iff_eq, Lib.extract_toList, hbr, show (⟨#[47, 42]⟩ : ByteArray).toList = [47, 42] from by rw [Lib.toList_data]]
    show ((b :: r).take 2) = [47, 42] ↔ _
    cases r with
    | nil => simp
    | cons c r => simp
  · rw [if_neg g] at h
    simp only [Option.bind_some, Option.some.injEq] at h
    cases r with
    | nil => subst h; simp
    | cons c r => simp only [List.length_cons] at hs; omega
theorem take_at (T : ByteArray) (j : Nat) : T.extract 0 j = ⟨(T.data.toList.take j).toArray⟩ := by
  rw [Lib.extract_eq]; simp
theorem word_at {T : ByteArray} {b : UInt8} {r : List UInt8} (hbr : T.data.toList = b :: r) (h1 : blankB b = false) (h2 : b ≠ 35) (h3 : ¬ (b = 47 ∧ r.head? = some 42)) (h4 : b ≠ 34) (h5 : signB b = false) {m : Int} (hm : Lib.indexAny T.data.toList [32, 9, 10, 123, 125, 91, 93, 59, 34, 35] = m) :
    ∃ j : Nat, 1 ≤ j ∧ j ≤ T.size ∧ ((m = -1 ∧ j = T.size) ∨ m = (j : Int)) ∧ lexL T.data.toList = (lexL (T.data.toList.drop j)).map ((119, T.data.toList.take j) :: ·) := by
  have hs : T.size = (b :: r).length := by rw [Lib.size_eq, hbr]
  rw [hbr] at hm ⊢
  rcases lex_word h1 h2 h3 h4 h5 with ⟨q1, q2⟩ | ⟨j, q1, q2, q3, q4⟩
  · refine ⟨T.size, by simp only [List.length_cons] at hs; omega, Nat.le_refl _, Or.inl ⟨hm.symm.trans q1, rfl⟩, ?_⟩
    rw [q2, hs, List.drop_length, List.take_length, lexL_nil]
    rfl
  · exact ⟨j, q2, by omega, Or.inr (hm.symm.trans q1), q4⟩
theorem note_at {T : ByteArray} {r : List UInt8} (hbr : T.data.toList = 35 :: r) {m : Int} (hm : Lib.indexByte T.data.toList 10 = m) :
    (m = -1 ∧ lexL T.data.toList = some []) ∨ ∃ j : Nat, 1 ≤ j ∧ j ≤ T.size ∧ m = (j : Int) ∧ lexL T.data.toList = lexL (T.data.toList.drop j) := by
  have hs : T.size = (35 :: r).length := by rw [Lib.size_eq, hbr]
  rw [hbr] at hm ⊢
  rcases lex_note r with ⟨q1, q2⟩ | ⟨j, q1, q2, q3, q4⟩
  · exact Or.inl ⟨hm.symm.trans q1, q2⟩
  · exact Or.inr ⟨j, q2, by omega, hm.symm.trans q1, q4⟩
theorem comment_at {T : ByteArray} {b : UInt8} {r : List UInt8} (hbr : T.data.toList = b :: r) (hp : b = 47 ∧ r.head? = some 42) {m : Int} (hm : Lib.index (T.data.toList.drop 2) [42, 47] = m) :
    2 ≤ T.size ∧ ((m = -1 ∧ lexL T.data.toList = none) ∨ ∃ j : Nat, j + 4 ≤ T.size ∧ m = (j : Int) ∧ lexL T.data.toList = lexL (T.data.toList.drop (j + 4))) := by
  have hs : T.size = (b :: r).length := by rw [Lib.size_eq, hbr]
  obtain ⟨rfl, hr⟩ := hp
  cases r with
  | nil => simp at hr
  | cons c r =>
    simp only [List.head?_cons, Option.some.injEq] at hr
    subst hr
    rw [hbr] at hm ⊢
    simp only [List.length_cons] at hs
    refine ⟨by omega, ?_⟩
    have hm' : Lib.index r [42, 47] = m := hm
    rcases lex_comment r with ⟨q1, q2⟩ | ⟨j, q1, q2, q3⟩
    · exact Or.inl ⟨hm'.symm.trans q1, q2⟩
    · refine Or.inr ⟨j, by omega, hm'.symm.trans q1, ?_⟩
      rw [q3]
      rfl
theorem quote_at {T : ByteArray} {r : List UInt8} (hbr : T.data.toList = 34 :: r) {m : Int} (hm : Lib.indexAny (T.data.toList.drop 1) [34, 10] = m) :
    (m = -1 ∧ lexL T.data.toList = none) ∨ ∃ j : Nat, j + 2 ≤ T.size ∧ m = (j : Int) ∧ ∃ c : UInt8, bt T (1 + (j : Int)) = (c.toNat : Int) ∧ (c = 10 → lexL T.data.toList = none) ∧ (c ≠ 10 → lexL T.data.toList = (lexL (T.data.toList.drop (j + 2))).map ((113, (T.data.toList.drop 1).take j) :: ·)) := by
  have hs : T.size = (34 :: r).length := by rw [Lib.size_eq, hbr]
  rw [hbr] at hm
  have hm' : Lib.indexAny r [34, 10] = m := hm
  simp only [List.length_cons] at hs
  rcases lex_quote r with ⟨q1, q2⟩ | ⟨j, q1, q2, c, s, q3, q4, q5⟩
  · exact Or.inl ⟨hm'.symm.trans q1, by rw [hbr]; exact q2⟩
  · refine Or.inr ⟨j, by omega, hm'.symm.trans q1, c, ?_, by rw [hbr]; exact q4, fun hc => ?_⟩
    · have hlt : (1 + (j : Int)).toNat < T.size := by omega
      have e1 : (1 + (j : Int)).toNat = j + 1 := by omega
      rw [← bt_at T (1 + j) hlt]
      have e2 : T.data.toList[j + 1]? = some c := by
        rw [hbr, List.getElem?_cons_succ]
        have := congrArg List.head? q3
        simpa [List.head?_drop] using this
      have e3 : T.data.toList[j + 1]? = some (T[(1 + (j : Int)).toNat]'hlt) := by
        rw [List.getElem?_eq_getElem (by rw [← Lib.size_eq]; omega)]
        congr 1
        simp only [e1]
        rfl
      rw [e2] at e3
      injection e3 with e3
      rw [← e3]
    · rw [hbr]
      exact q5 hc
theorem sign_at {T : ByteArray} {b : UInt8} {r : List UInt8} (hbr : T.data.toList = b :: r) (h1 : blankB b = false) (h2 : b ≠ 35) (h3 : ¬ (b = 47 ∧ r.head? = some 42)) (h4 : b ≠ 34) (h5 : signB b = true) : lexL T.data.toList = (lexL (T.data.toList.drop 1)).map ((b, [b]) :: ·) := by
  rw [hbr]
  exact lex_sign h1 h2 h3 h4 h5
theorem sign_ib (b : UInt8) : 0 ≤ Lib.indexByte [123, 125, 91, 93, 59] b ↔ signB b = true := by
  rw [Lib.indexByte, Lib.indexByte, Lib.indexByte, Lib.indexByte, Lib.indexByte, Lib.indexByte]
  unfold signB
  simp only [List.contains_cons, List.contains_nil, Bool.or_false, Bool.or_eq_true, beq_iff_eq]
  by_cases c1 : (123 : UInt8) = b
  · simp [c1]
  by_cases c2 : (125 : UInt8) = b
  · simp [c1, c2]
  by_cases c3 : (91 : UInt8) = b
  · simp [c1, c2, c3]
  by_cases c4 : (93 : UInt8) = b
  · simp [c1, c2, c3, c4]
  by_cases c5 : (59 : UInt8) = b
  · simp [c1, c2, c3, c4, c5]
  have k1 := fun q : b = 123 => c1 q.symm
  have k2 := fun q : b = 125 => c2 q.symm
  have k3 := fun q : b = 91 => c3 q.symm
  have k4 := fun q : b = 93 => c4 q.symm
  have k5 := fun q : b = 59 => c5 q.symm
  simp [c1, c2, c3, c4, c5]
  exact ⟨k1, k2, k3, k4, k5⟩
def JT (a0 : ByteArray) (w : World) (n : Nat) (a : Act) (W : World) : Prop :=
  ∃ (S : ByteArray) (i : Nat) (acc : List Tk) (v5 : Value) (u1 u4 u7 u8 u9 u10 u11 u12 u13 u14 u15 u16 u17 u18 u19 u20 u21 u22 u23 u24 u25 u26 u27 u28 u29 u30 u31 u32 u33 u34 u35 u36 u37 u38 u39 u40 u41 u42 u43 u44 u45 u46 u47 u48 u49 u50 u51 u52 u53 u54 u55 u56 u57 u58 u59 u60 u61 u62 u63 u64 u65 u66 u67 u68 u69 u70 u71 u72 u73 u74 u75 u76 u77 u78 u79 u80 u81 u82 u83 u84 u85 u86 u87 u88 u89 u90 u91 u92 u93 u94 : Value), a = { tmps := #[.string S, u1, .slice none 0 0, .int .i64 0, u4, v5, .int .i64 (i : Int), u7, u8, u9, u10, u11, u12, u13, u14, u15, u16, u17, u18, u19, u20, u21, u22, u23, u24, u25, u26, u27, u28, u29, u30, u31, u32, u33, u34, u35, u36, u37, u38, u39, u40, u41, u42, u43, u44, u45, u46, u47, u48, u49, u50, u51, u52, u53, u54, u55, u56, u57, u58, u59, u60, u61, u62, u63, u64, u65, u66, u67, u68, u69, u70, u71, u72, u73, u74, u75, u76, u77, u78, u79, u80, u81, u82, u83, u84, u85, u86, u87, u88, u89, u90, u91, u92, u93, u94], defers := [] } ∧ i ≤ S.size ∧ n = S.size - i ∧ S.size ≤ 4294967280 ∧ asciiC S = true ∧ lexL a0.data.toList = (lexL (S.data.toList.drop i)).map (acc ++ ·) ∧ acc.length + (S.size - i) ≤ a0.size ∧ Kd.R k54 54 W w.heap.size (fun _ => True) v5 (acc.map toTok) ∧ Below w.heap.size w W
theorem ia_at {T : ByteArray} (hs : T.size ≤ 4294967280) (h : asciiC T = true) (cs : ByteArray) (h1 : cs.size < 4294967281) (h2 : asciiC cs = true) : strings_IndexAny.f T cs = some (Lib.indexAny T.data.toList cs.data.toList) := by
  unfold strings_IndexAny.f
  rw [if_pos ⟨by omega, h1, h, h2⟩]
theorem ix_at {T : ByteArray} (hs : T.size ≤ 4294967280) (cs : ByteArray) : strings_Index.f T cs = some (Lib.index T.data.toList cs.data.toList) := by
  unfold strings_Index.f
  rw [if_pos (by omega)]
theorem asciiC_drop {T : ByteArray} (h : asciiC T = true) (i : Nat) : asciiC (T.extract i T.size) = true := by
  unfold asciiC at h ⊢
  rw [List.all_eq_true] at h ⊢
  intro b hb
  rw [Lib.extract_to_end] at hb
  exact h b (List.mem_of_mem_drop hb)
theorem extract_whole (T : ByteArray) : T.extract 0 T.size = T := by
  rw [take_at, Lib.size_eq, List.take_length]
theorem size_drop (T : ByteArray) (i : Nat) : (T.extract i T.size).size = T.size - i := by
  rw [Lib.size_eq, Lib.extract_to_end, List.length_drop, ← Lib.size_eq]
theorem fin_none {s : ByteArray} {r1 : List S54} {r2 : Int} (h : tokAll s = (r1, r2)) (hl : lexL s.data.toList = none) : r1 = [] ∧ r2 = 4 := by
  unfold tokAll at h
  rw [hl] at h
  injection h with e1 e2
  exact ⟨e1.symm, e2.symm⟩
theorem fin_some {s : ByteArray} {r1 : List S54} {r2 : Int} {l : List Tk} (h : tokAll s = (r1, r2)) (hl : lexL s.data.toList = some l) : r1 = l.map toTok ∧ r2 = 0 := by
  unfold tokAll at h
  rw [hl] at h
  injection h with e1 e2
  exact ⟨e1.symm, e2.symm⟩
theorem grow_at {s : List UInt8} {T r : List UInt8} {acc : List Tk} {t : Tk} (h : lexL s = (lexL T).map (acc ++ ·)) (h1 : lexL T = (lexL r).map (t :: ·)) : lexL s = (lexL r).map ((acc ++ [t]) ++ ·) := by
  rw [h, h1]
  cases lexL r <;> simp
def tokT14 : Bool × List (List Nat × List Nat) := (true, [([], []), ([], []), ([1], [1]), ([], []), ([3], [3]), ([2, 4], [2, 4]), ([5], [5]), ([0, 6], [0, 6]), ([7, 7, 0, 1, 2, 3, 4, 5, 6, 7], [0, 7])])
def tokB14 : List Nat := [0, 0, 2, 0, 8, 30, 62, 127, 255]
theorem tok_tab14 : rtab .any (opsOf Tryz.f20 14) = tokT14 := by kernel_rfl
theorem tok_bits14 : waitsOk tokT14.2 tokB14 = true := by kernel_rfl
set_option maxHeartbeats 16000000 in
set_option maxRecDepth 100000 in
theorem lex_Tokens.calls (k : Nat) (a0 : ByteArray) (r1 : List S54) (r2 : Int) (w : World) (hG : GL w) (h : lex_Tokens.f k a0 = some (r1, r2)) :
    Calls Tryz.prog 20 #[.string a0] w fun e w' => ∃ v0_ : Value, e = .returned (.tuple #[v0_, .int .i64 r2]) ∧ Kd.R k54 54 w' w.heap.size (fun _ => True) v0_ r1 ∧ Below w.heap.size w w' := by
  unfold lex_Tokens.f at h
  obtain ⟨e0, he, h⟩ := Option.bind_eq_some_iff.mp h
  by_cases q : e0 = 0
  rotate_left
  · rw [if_neg q] at h
    have h' := Option.some.inj h
    injection h' with e1 e2
    subst e1 e2
    replace he := Aside0.mk he
    have hq1 : (e0 == 0) = false := beq_eq_false_iff_ne.mpr q
    have hq2 : (e0 != 0) = true := bne_iff_ne.mpr q
    go_enter Tryz.func20, Tryz.ntmps20
    go_wp2
    refine wp_scope_back 2 (fun _ _ _ => False) (by rfl) (fun _ => ?_) (fun _ _ _ hf => hf.elim)
    generalize hQQ : Exit.jumpsF Tryz.prog _ _ _ 2 = QQ
    have hret : Aside0 (∀ a' w', bodyPost Tryz.prog Tryz.f20 (fun e w' => ∃ v0_ : Value, e = .returned (.tuple #[v0_, .int .i64 e0]) ∧ Kd.R k54 54 w' w.heap.size (fun _ => True) v0_ [] ∧ Below w.heap.size w w') .ret a' w' → QQ .ret a' w') := ⟨by intro a' w' q; rw [← hQQ]; exact q⟩
    clear hQQ
    go_wp2_with (first | (go_at_call 33; refine (lex_ask.calls k a0 e0 _ he.out).mono ?_; rintro e w1 ⟨rfl, hb1⟩))
    apply hret.out
    go_ret2
    exact ⟨.slice none 0 0, rfl, Kd.R_nil _ _ _ _ _, hb1.below⟩
  subst q
  rw [if_pos rfl] at h
  have hz : a0.size < 4294967281 ∧ asciiC a0 = true := by
    by_cases g : a0.size < 4294967281 ∧ asciiC a0 = true
    · exact g
    · rw [if_neg g] at h; simp at h
  rw [if_pos hz] at h
  replace h := Option.some.inj h
  go_enter Tryz.func20, Tryz.ntmps20
  go_wp2
  refine wp_scope_back 2 (JT a0 w) (by rfl) ?_ ?_
  · generalize hQQ : Exit.jumpsF Tryz.prog _ _ _ 2 = QQ
    intro hpass
    replace hpass := Aside0.mk hpass
    replace hQQ := Aside0.mk hQQ
    replace he := Aside0.mk he
    go_wp2_with (first | (go_at_call 33; refine (lex_ask.calls k a0 0 _ he.out).mono ?_; rintro e w1 ⟨rfl, hb1⟩))
    go_step3
    rename_i hK
    refine hK _ _ (hpass.out a0.size _ _ ?_)
    refine ⟨a0, 0, [], .slice none 0 0, _, _, _, _, _, _, _, _, _, _, _, _, _, _, _, _, _, _, _, _, _, _, _, _, _, _, _, _, _, _, _, _, _, _, _, _, _, _, _, _, _, _, _, _, _, _, _, _, _, _, _, _, _, _, _, _, _, _, _, _, _, _, _, _, _, _, _, _, _, _, _, _, _, _, _, _, _, _, _, _, _, _, _, _, _, _, _, _, _, _, rfl, Nat.zero_le _, by omega, by omega, hz.2, ?_, by simp, Kd.R_nil _ _ _ _ _, hb1.below⟩
    rw [List.drop_zero]
    cases lexL a0.data.toList <;> rfl
  · rintro n a W ⟨S, i, acc, v5, u1, u4, u7, u8, u9, u10, u11, u12, u13, u14, u15, u16, u17, u18, u19, u20, u21, u22, u23, u24, u25, u26, u27, u28, u29, u30, u31, u32, u33, u34, u35, u36, u37, u38, u39, u40, u41, u42, u43, u44, u45, u46, u47, u48, u49, u50, u51, u52, u53, u54, u55, u56, u57, u58, u59, u60, u61, u62, u63, u64, u65, u66, u67, u68, u69, u70, u71, u72, u73, u74, u75, u76, u77, u78, u79, u80, u81, u82, u83, u84, u85, u86, u87, u88, u89, u90, u91, u92, u93, u94, rfl, hi, rfl, hS, hA, hL, hn, hR, hB⟩
    generalize hQQ : Exit.jumpsF Tryz.prog _ _ _ 2 = QQ
    have hret : Aside0 (∀ a' w', bodyPost Tryz.prog Tryz.f20 (fun e w' => ∃ v0_ : Value, e = .returned (.tuple #[v0_, .int .i64 r2]) ∧ Kd.R k54 54 w' w.heap.size (fun _ => True) v0_ r1 ∧ Below w.heap.size w w') .ret a' w' → QQ .ret a' w') := ⟨by intro a' w' q; rw [← hQQ]; exact q⟩
    have hback : Aside0 (∀ a' w', (∃ n', n' < S.size - i ∧ JT a0 w n' a' w') → QQ (.goto 0) a' w') := ⟨by intro a' w' q; rw [← hQQ]; exact Or.inl ⟨rfl, q⟩⟩
    have hpan : Aside0 (∀ c (a : Act) (t : Tmp) v w', QQ (.panic c) (a.put (some t) v) w' → QQ (.panic c) a w') := ⟨by intro c a t v w' q; rw [← hQQ] at q ⊢; exact q⟩
    replace hQQ := Aside0.mk hQQ
    obtain ⟨T, hT, hTl⟩ := trim_at S i
    obtain ⟨hLT, hTS, hTA, hTb⟩ := trim_laws S T i hTl hA
    rw [← hLT] at hL
    replace hL := Aside0.mk hL
    replace hR := Aside0.mk hR
    replace hB := Aside0.mk hB
    replace h := Aside0.mk h
    replace hG := Aside0.mk hG
    replace hT := Aside0.mk hT
    replace hTb := Aside0.mk hTb
    replace hTA := Aside0.mk hTA
    clear hLT hTl
    have hiS : decide ((i : Int) ≤ (S.size : Int)) = true := decide_eq_true (by omega)
    by_cases hT0 : T = ⟨#[]⟩
    · subst hT0
      have ht : lexL a0.data.toList = some acc := by
        rw [hL.out]
        show (lexL []).map (acc ++ ·) = some acc
        rw [lexL_nil]
        simp
      obtain ⟨rfl, rfl⟩ := fin_some h.out ht
      clear ht
      go_wp2_with (first | (go_at_call 35; refine (strings_TrimLeft.calls _ _ _ _ hT.out).mono ?_; rintro e w1 ⟨rfl, hb1⟩))
      apply hret.out
      go_ret2
      exact ⟨v5, rfl, Kd.R_below hR.out hb1, below_step hB.out hb1⟩
    · obtain ⟨q0, hE, b, r, hbr, hb0⟩ := head_at hT0
      have hx0 : ∀ h : 0 < T.size, ((T[0]'h).toNat : Int) = bt T 0 := bt_at T 0
      have q1 : (0 < T.size) = True := eq_true q0
      have q2 : ((0 : Int) < (T.size : Int)) = True := eq_true (by omega)
      have hbl : Aside0 (blankB b = false) := ⟨hTb.out b r hbr⟩
      obtain ⟨p, hp⟩ : ∃ p, strings_HasPrefix.f T ⟨#[47, 42]⟩ = some p := by
        unfold strings_HasPrefix.f stringslite_HasPrefix.f
        repeat' split
        all_goals first | exact ⟨_, rfl⟩ | (exfalso; omega)
      have hpp := Aside0.mk (pfx_at hbr hp)
      replace hp := Aside0.mk hp
      clear hT0 hTb
      replace hbr := Aside0.mk hbr
      generalize hgb : bt T 0 = b0 at hx0 hb0
      replace hgb := Aside0.mk hgb
      have q0' := Aside0.mk q0
      clear q0
      by_cases c1 : ((b.toNat : Int) == 35) = true
      · have e35 : b = 35 := by
          rw [beq_iff_eq] at c1
          exact UInt8.toNat_inj.1 (by have : (35 : UInt8).toNat = 35 := rfl; omega)
        subst e35
        clear c1
        obtain ⟨m, hm⟩ : ∃ m, Lib.indexByte T.data.toList 10 = m := ⟨_, rfl⟩
        have hIB : Aside0 (strings_IndexByte.f T 10 = some m) := ⟨by rw [← hm]; rfl⟩
        rcases note_at hbr.out hm with ⟨rfl, hl⟩ | ⟨j, hj1, hj2, rfl, hl⟩
        · have hl' : lexL a0.data.toList = some acc := by
            rw [hL.out, hl]
            simp
          have hfin := Aside0.mk (fin_some h.out hl')
          clear hl hl' hm
          go_wp2_with (first | (go_at_call 35; refine (strings_TrimLeft.calls _ _ _ _ hT.out).mono ?_; rintro e w1 ⟨rfl, hb1⟩; replace hR := Aside0.mk (Kd.R_below hR.out hb1); replace hB := Aside0.mk (below_step hB.out hb1); clear hb1))
          go_step3
          rw [← hQQ.out]
          refine Or.inr ⟨_, by rfl, ?_⟩
          generalize hQ1 : Exit.jumpsF Tryz.prog _ _ _ 1 = Q1
          have hret' : Aside0 (∀ a' w', bodyPost Tryz.prog Tryz.f20 (fun e w' => ∃ v0_ : Value, e = .returned (.tuple #[v0_, .int .i64 r2]) ∧ Kd.R k54 54 w' w.heap.size (fun _ => True) v0_ r1 ∧ Below w.heap.size w w') .ret a' w' → Q1 .ret a' w') := ⟨by intro a' w' q; rw [← hQ1]; exact q⟩
          have hback' : Aside0 (∀ a' w', (∃ n', n' < S.size - i ∧ JT a0 w n' a' w') → Q1 (.goto 0) a' w') := ⟨by intro a' w' q; rw [← hQ1]; exact Or.inl ⟨rfl, q⟩⟩
          replace hQ1 := Aside0.mk hQ1
          clear hret hback
          have hret := hret'
          have hback := hback'
          clear hret' hback'
          go_wp2_with (first | (go_at_call 37; refine (strings_IndexByte.calls _ _ _ _ hIB.out).mono ?_; rintro e w3 ⟨rfl, hb3⟩; replace hR := Aside0.mk (Kd.R_below hR.out hb3); replace hB := Aside0.mk (below_step hB.out hb3); clear hb3))
          obtain ⟨e1, e2⟩ := hfin.out
          subst e1 e2
          apply hret.out
          go_ret2
          exact ⟨v5, rfl, hR.out, hB.out⟩
        · replace hl := Aside0.mk hl
          clear hm
          go_wp2_with (first | (go_at_call 35; refine (strings_TrimLeft.calls _ _ _ _ hT.out).mono ?_; rintro e w1 ⟨rfl, hb1⟩; replace hR := Aside0.mk (Kd.R_below hR.out hb1); replace hB := Aside0.mk (below_step hB.out hb1); clear hb1))
          go_step3
          rw [← hQQ.out]
          refine Or.inr ⟨_, by rfl, ?_⟩
          generalize hQ1 : Exit.jumpsF Tryz.prog _ _ _ 1 = Q1
          have hret' : Aside0 (∀ a' w', bodyPost Tryz.prog Tryz.f20 (fun e w' => ∃ v0_ : Value, e = .returned (.tuple #[v0_, .int .i64 r2]) ∧ Kd.R k54 54 w' w.heap.size (fun _ => True) v0_ r1 ∧ Below w.heap.size w w') .ret a' w' → Q1 .ret a' w') := ⟨by intro a' w' q; rw [← hQ1]; exact q⟩
          have hback' : Aside0 (∀ a' w', (∃ n', n' < S.size - i ∧ JT a0 w n' a' w') → Q1 (.goto 0) a' w') := ⟨by intro a' w' q; rw [← hQ1]; exact Or.inl ⟨rfl, q⟩⟩
          replace hQ1 := Aside0.mk hQ1
          clear hret hback
          have hret := hret'
          have hback := hback'
          clear hret' hback'
          go_wp2_with (first | (go_at_call 37; refine (strings_IndexByte.calls _ _ _ _ hIB.out).mono ?_; rintro e w3 ⟨rfl, hb3⟩; replace hR := Aside0.mk (Kd.R_below hR.out hb3); replace hB := Aside0.mk (below_step hB.out hb3); clear hb3))
          go_step3
          apply hback.out
          refine ⟨T.size - (j), ?_, T, j, acc, v5, _, _, _, _, _, _, _, _, _, _, _, _, _, _, _, _, _, _, _, _, _, _, _, _, _, _, _, _, _, _, _, _, _, _, _, _, _, _, _, _, _, _, _, _, _, _, _, _, _, _, _, _, _, _, _, _, _, _, _, _, _, _, _, _, _, _, _, _, _, _, _, _, _, _, _, _, _, _, _, _, _, _, _, _, _, _, _, _, _, _, rfl, ?_, rfl, by omega, hTA.out, ?_, ?_, ?_, hB.out⟩
          · omega
          · omega
          · rw [hL.out, hl.out]
          · omega
          · exact hR.out
      have c1' : ((b.toNat : Int) == 35) = false := by simpa using c1
      clear c1
      cases p with
      | true =>
        have hpq := hpp.out.1 rfl
        obtain ⟨m, hm⟩ : ∃ m, Lib.index (T.data.toList.drop 2) [42, 47] = m := ⟨_, rfl⟩
        obtain ⟨hs2, hcm⟩ := comment_at hbr.out hpq hm
        have hIX : Aside0 (strings_Index.f (T.extract 2 T.size) ⟨#[42, 47]⟩ = some m) := ⟨by
          rw [ix_at (by rw [size_drop]; omega), Lib.extract_to_end]
          exact congrArg some hm⟩
        clear hm hpq
        have hs2' : decide ((2 : Int) ≤ (T.size : Int)) = true := decide_eq_true (by omega)
        rcases hcm with ⟨rfl, hl⟩ | ⟨j, hj, rfl, hl⟩
        · have hl' : lexL a0.data.toList = none := by
            rw [hL.out, hl]
            rfl
          have hfin := Aside0.mk (fin_none h.out hl')
          clear hl hl'
          go_wp2_with (first | (go_at_call 35; refine (strings_TrimLeft.calls _ _ _ _ hT.out).mono ?_; rintro e w1 ⟨rfl, hb1⟩; replace hR := Aside0.mk (Kd.R_below hR.out hb1); replace hB := Aside0.mk (below_step hB.out hb1); clear hb1) | (go_at_call 36; refine (strings_HasPrefix.calls _ _ _ _ hp.out).mono ?_; rintro e w2 ⟨rfl, hb2⟩; replace hR := Aside0.mk (Kd.R_below hR.out hb2.below); replace hB := Aside0.mk (below_step hB.out hb2.below); clear hb2))
          go_step3
          rw [← hQQ.out]
          refine Or.inr ⟨_, by rfl, ?_⟩
          generalize hQ1 : Exit.jumpsF Tryz.prog _ _ _ 1 = Q1
          have hret' : Aside0 (∀ a' w', bodyPost Tryz.prog Tryz.f20 (fun e w' => ∃ v0_ : Value, e = .returned (.tuple #[v0_, .int .i64 r2]) ∧ Kd.R k54 54 w' w.heap.size (fun _ => True) v0_ r1 ∧ Below w.heap.size w w') .ret a' w' → Q1 .ret a' w') := ⟨by intro a' w' q; rw [← hQ1]; exact q⟩
          have hback' : Aside0 (∀ a' w', (∃ n', n' < S.size - i ∧ JT a0 w n' a' w') → Q1 (.goto 0) a' w') := ⟨by intro a' w' q; rw [← hQ1]; exact Or.inl ⟨rfl, q⟩⟩
          replace hQ1 := Aside0.mk hQ1
          clear hret hback
          have hret := hret'
          have hback := hback'
          clear hret' hback'
          go_wp2_with (first | (go_at_call 39; refine (strings_Index.calls _ _ _ _ (GL_below hG.out hB.out) hIX.out).mono ?_; rintro e w5 ⟨rfl, hb5⟩; replace hR := Aside0.mk (Kd.R_below hR.out hb5); replace hB := Aside0.mk (below_step hB.out hb5); clear hb5))
          obtain ⟨e1, e2⟩ := hfin.out
          subst e1 e2
          apply hret.out
          go_ret2
          exact ⟨.slice none 0 0, rfl, Kd.R_nil _ _ _ _ _, hB.out⟩
        · replace hl := Aside0.mk hl
          have hj' : (j : Int) ≤ 4294967280 := by omega
          go_wp2_with (first | (go_at_call 35; refine (strings_TrimLeft.calls _ _ _ _ hT.out).mono ?_; rintro e w1 ⟨rfl, hb1⟩; replace hR := Aside0.mk (Kd.R_below hR.out hb1); replace hB := Aside0.mk (below_step hB.out hb1); clear hb1) | (go_at_call 36; refine (strings_HasPrefix.calls _ _ _ _ hp.out).mono ?_; rintro e w2 ⟨rfl, hb2⟩; replace hR := Aside0.mk (Kd.R_below hR.out hb2.below); replace hB := Aside0.mk (below_step hB.out hb2.below); clear hb2))
          go_step3
          rw [← hQQ.out]
          refine Or.inr ⟨_, by rfl, ?_⟩
          generalize hQ1 : Exit.jumpsF Tryz.prog _ _ _ 1 = Q1
          have hret' : Aside0 (∀ a' w', bodyPost Tryz.prog Tryz.f20 (fun e w' => ∃ v0_ : Value, e = .returned (.tuple #[v0_, .int .i64 r2]) ∧ Kd.R k54 54 w' w.heap.size (fun _ => True) v0_ r1 ∧ Below w.heap.size w w') .ret a' w' → Q1 .ret a' w') := ⟨by intro a' w' q; rw [← hQ1]; exact q⟩
          have hback' : Aside0 (∀ a' w', (∃ n', n' < S.size - i ∧ JT a0 w n' a' w') → Q1 (.goto 0) a' w') := ⟨by intro a' w' q; rw [← hQ1]; exact Or.inl ⟨rfl, q⟩⟩
          replace hQ1 := Aside0.mk hQ1
          clear hret hback
          have hret := hret'
          have hback := hback'
          clear hret' hback'
          go_wp2_with (first | (go_at_call 39; refine (strings_Index.calls _ _ _ _ (GL_below hG.out hB.out) hIX.out).mono ?_; rintro e w5 ⟨rfl, hb5⟩; replace hR := Aside0.mk (Kd.R_below hR.out hb5); replace hB := Aside0.mk (below_step hB.out hb5); clear hb5))
          go_step3
          apply hback.out
          have e4 : (2 : Int) + (j : Int) + 2 = ((j + 4 : Nat) : Int) := by omega
          rw [e4]
          refine ⟨T.size - (j + 4), ?_, T, j + 4, acc, v5, _, _, _, _, _, _, _, _, _, _, _, _, _, _, _, _, _, _, _, _, _, _, _, _, _, _, _, _, _, _, _, _, _, _, _, _, _, _, _, _, _, _, _, _, _, _, _, _, _, _, _, _, _, _, _, _, _, _, _, _, _, _, _, _, _, _, _, _, _, _, _, _, _, _, _, _, _, _, _, _, _, _, _, _, _, _, _, _, _, _, rfl, ?_, rfl, by omega, hTA.out, ?_, ?_, ?_, hB.out⟩
          · omega
          · omega
          · rw [hL.out, hl.out]
          · omega
          · exact hR.out
      | false =>
      by_cases c2 : ((b.toNat : Int) == 34) = true
      · have e34 : b = 34 := by
          rw [beq_iff_eq] at c2
          exact UInt8.toNat_inj.1 (by have : (34 : UInt8).toNat = 34 := rfl; omega)
        subst e34
        clear c2
        obtain ⟨m, hm⟩ : ∃ m, Lib.indexAny (T.data.toList.drop 1) [34, 10] = m := ⟨_, rfl⟩
        have hIA : Aside0 (strings_IndexAny.f (T.extract 1 T.size) ⟨#[34, 10]⟩ = some m) := ⟨by
          rw [ia_at (by rw [size_drop]; omega) (asciiC_drop hTA.out 1) ⟨#[34, 10]⟩ (by decide) (by decide), Lib.extract_to_end]
          exact congrArg some hm⟩
        have hs1n : 1 ≤ T.size := q0'.out
        have hs1 : decide ((1 : Int) ≤ (T.size : Int)) = true := decide_eq_true (by omega)
        rcases quote_at hbr.out hm with ⟨rfl, hl⟩ | ⟨j, hj, rfl, c, hbc, hl1, hl2⟩
        · have hl' : lexL a0.data.toList = none := by
            rw [hL.out, hl]
            rfl
          have hfin := Aside0.mk (fin_none h.out hl')
          clear hl hl' hm
          go_wp2_with (first | (go_at_call 35; refine (strings_TrimLeft.calls _ _ _ _ hT.out).mono ?_; rintro e w1 ⟨rfl, hb1⟩; replace hR := Aside0.mk (Kd.R_below hR.out hb1); replace hB := Aside0.mk (below_step hB.out hb1); clear hb1) | (go_at_call 36; refine (strings_HasPrefix.calls _ _ _ _ hp.out).mono ?_; rintro e w2 ⟨rfl, hb2⟩; replace hR := Aside0.mk (Kd.R_below hR.out hb2.below); replace hB := Aside0.mk (below_step hB.out hb2.below); clear hb2))
          go_step3
          rw [← hQQ.out]
          refine Or.inr ⟨_, by rfl, ?_⟩
          generalize hQ1 : Exit.jumpsF Tryz.prog _ _ _ 1 = Q1
          have hret' : Aside0 (∀ a' w', bodyPost Tryz.prog Tryz.f20 (fun e w' => ∃ v0_ : Value, e = .returned (.tuple #[v0_, .int .i64 r2]) ∧ Kd.R k54 54 w' w.heap.size (fun _ => True) v0_ r1 ∧ Below w.heap.size w w') .ret a' w' → Q1 .ret a' w') := ⟨by intro a' w' q; rw [← hQ1]; exact q⟩
          have hback' : Aside0 (∀ a' w', (∃ n', n' < S.size - i ∧ JT a0 w n' a' w') → Q1 (.goto 0) a' w') := ⟨by intro a' w' q; rw [← hQ1]; exact Or.inl ⟨rfl, q⟩⟩
          replace hQ1 := Aside0.mk hQ1
          clear hret hback
          have hret := hret'
          have hback := hback'
          clear hret' hback'
          go_wp2_with (first | (go_at_call 38; refine (strings_IndexAny.calls _ _ _ _ hIA.out).mono ?_; rintro e w4 ⟨rfl, hb4⟩; replace hR := Aside0.mk (Kd.R_below hR.out hb4); replace hB := Aside0.mk (below_step hB.out hb4); clear hb4))
          obtain ⟨e1, e2⟩ := hfin.out
          subst e1 e2
          apply hret.out
          go_ret2
          exact ⟨.slice none 0 0, rfl, Kd.R_nil _ _ _ _ _, hB.out⟩
        · clear hm
          have hj' : (j : Int) ≤ 4294967280 := by omega
          have hx1 : ∀ h : (1 + (j : Int)).toNat < T.size, ((T[(1 + (j : Int)).toNat]'h).toNat : Int) = (c.toNat : Int) := fun h => by rw [bt_at T (1 + j) h, hbc]
          have q3 : ((1 + (j : Int)).toNat < T.size) = True := eq_true (by omega)
          have q4 : (1 + (j : Int) < (T.size : Int)) = True := eq_true (by omega)
          have q5 : ((0 : Int) ≤ 1 + (j : Int)) = True := eq_true (by omega)
          clear hbc
          by_cases c6 : ((c.toNat : Int) == 10) = true
          · have e10 : c = 10 := by
              rw [beq_iff_eq] at c6
              exact UInt8.toNat_inj.1 (by have : (10 : UInt8).toNat = 10 := rfl; omega)
            have hl' : lexL a0.data.toList = none := by
              rw [hL.out, hl1 e10]
              rfl
            have hfin := Aside0.mk (fin_none h.out hl')
            clear hl1 hl2 hl' e10
            go_wp2_with (first | (go_at_call 35; refine (strings_TrimLeft.calls _ _ _ _ hT.out).mono ?_; rintro e w1 ⟨rfl, hb1⟩; replace hR := Aside0.mk (Kd.R_below hR.out hb1); replace hB := Aside0.mk (below_step hB.out hb1); clear hb1) | (go_at_call 36; refine (strings_HasPrefix.calls _ _ _ _ hp.out).mono ?_; rintro e w2 ⟨rfl, hb2⟩; replace hR := Aside0.mk (Kd.R_below hR.out hb2.below); replace hB := Aside0.mk (below_step hB.out hb2.below); clear hb2))
            go_step3
            rw [← hQQ.out]
            refine Or.inr ⟨_, by rfl, ?_⟩
            generalize hQ1 : Exit.jumpsF Tryz.prog _ _ _ 1 = Q1
            have hret' : Aside0 (∀ a' w', bodyPost Tryz.prog Tryz.f20 (fun e w' => ∃ v0_ : Value, e = .returned (.tuple #[v0_, .int .i64 r2]) ∧ Kd.R k54 54 w' w.heap.size (fun _ => True) v0_ r1 ∧ Below w.heap.size w w') .ret a' w' → Q1 .ret a' w') := ⟨by intro a' w' q; rw [← hQ1]; exact q⟩
            have hback' : Aside0 (∀ a' w', (∃ n', n' < S.size - i ∧ JT a0 w n' a' w') → Q1 (.goto 0) a' w') := ⟨by intro a' w' q; rw [← hQ1]; exact Or.inl ⟨rfl, q⟩⟩
            replace hQ1 := Aside0.mk hQ1
            clear hret hback
            have hret := hret'
            have hback := hback'
            clear hret' hback'
            go_wp2_with (first | (go_at_call 38; refine (strings_IndexAny.calls _ _ _ _ hIA.out).mono ?_; rintro e w4 ⟨rfl, hb4⟩; replace hR := Aside0.mk (Kd.R_below hR.out hb4); replace hB := Aside0.mk (below_step hB.out hb4); clear hb4))
            obtain ⟨e1, e2⟩ := hfin.out
            subst e1 e2
            apply hret.out
            go_ret2
            exact ⟨.slice none 0 0, rfl, Kd.R_nil _ _ _ _ _, hB.out⟩
          · have c6' : ((c.toNat : Int) == 10) = false := by simpa using c6
            have hl := Aside0.mk (hl2 (by rintro rfl; exact c6 rfl))
            clear c6 hl1 hl2
            have c7 : decide ((1 : Int) ≤ 1 + (j : Int)) = true := decide_eq_true (by omega)
            have c8 : decide (1 + (j : Int) ≤ (T.size : Int)) = true := decide_eq_true (by omega)
            go_wp2_with (first | (go_at_call 35; refine (strings_TrimLeft.calls _ _ _ _ hT.out).mono ?_; rintro e w1 ⟨rfl, hb1⟩; replace hR := Aside0.mk (Kd.R_below hR.out hb1); replace hB := Aside0.mk (below_step hB.out hb1); clear hb1) | (go_at_call 36; refine (strings_HasPrefix.calls _ _ _ _ hp.out).mono ?_; rintro e w2 ⟨rfl, hb2⟩; replace hR := Aside0.mk (Kd.R_below hR.out hb2.below); replace hB := Aside0.mk (below_step hB.out hb2.below); clear hb2))
            go_step3
            rw [← hQQ.out]
            refine Or.inr ⟨_, by rfl, ?_⟩
            generalize hQ1 : Exit.jumpsF Tryz.prog _ _ _ 1 = Q1
            have hret' : Aside0 (∀ a' w', bodyPost Tryz.prog Tryz.f20 (fun e w' => ∃ v0_ : Value, e = .returned (.tuple #[v0_, .int .i64 r2]) ∧ Kd.R k54 54 w' w.heap.size (fun _ => True) v0_ r1 ∧ Below w.heap.size w w') .ret a' w' → Q1 .ret a' w') := ⟨by intro a' w' q; rw [← hQ1]; exact q⟩
            have hback' : Aside0 (∀ a' w', (∃ n', n' < S.size - i ∧ JT a0 w n' a' w') → Q1 (.goto 0) a' w') := ⟨by intro a' w' q; rw [← hQ1]; exact Or.inl ⟨rfl, q⟩⟩
            replace hQ1 := Aside0.mk hQ1
            clear hret hback
            have hret := hret'
            have hback := hback'
            clear hret' hback'
            go_wp2_with (first | (go_at_call 38; refine (strings_IndexAny.calls _ _ _ _ hIA.out).mono ?_; rintro e w4 ⟨rfl, hb4⟩; replace hR := Aside0.mk (Kd.R_below hR.out hb4); replace hB := Aside0.mk (below_step hB.out hb4); clear hb4) | ((with_reducible refine gate_builtin (b := .append) (xs := #[.tmp 84, .tmp 90]) rfl ?_); at_builtin; refine Kd.R_append k54 (w0 := w) w.heap.size rfl (.tmp 84) (.tmp 90) 46 54 (.agg #[.int .u8 0, .string ⟨#[]⟩]) 24 rfl Tryz.underlying46 info54 rfl (by decide) (by omega) v5 (acc.map toTok) _ _ (fun _ => True) (fun _ => False) rfl rfl (k54_mkM _ _ _ ⟨113, _⟩) (fun _ hk => hk.elim) (fun _ _ => trivial) hR.out hB.out (below_size hB.out) (by rw [List.length_map]; omega) ?_; intro v6 w6 ho hb hg hat; replace hR := Aside0.mk ho; replace hB := Aside0.mk hb; clear ho hb hg hat))
            go_step3
            apply hback.out
            have e4 : (1 : Int) + (j : Int) + 1 = ((j + 2 : Nat) : Int) := by omega
            try rw [e4]
            refine ⟨T.size - (j + 2), ?_, T, j + 2, acc ++ [((113 : UInt8), (T.data.toList.drop 1).take j)], v6, _, _, _, _, _, _, _, _, _, _, _, _, _, _, _, _, _, _, _, _, _, _, _, _, _, _, _, _, _, _, _, _, _, _, _, _, _, _, _, _, _, _, _, _, _, _, _, _, _, _, _, _, _, _, _, _, _, _, _, _, _, _, _, _, _, _, _, _, _, _, _, _, _, _, _, _, _, _, _, _, _, _, _, _, _, _, _, _, _, _, rfl, ?_, rfl, by omega, hTA.out, ?_, ?_, ?_, hB.out⟩
            · omega
            · omega
            · exact grow_at hL.out hl.out
            · simp only [List.length_append, List.length_cons, List.length_nil]; omega
            · have ho := hR.out
              have e6 : (acc ++ [((113 : UInt8), (T.data.toList.drop 1).take j)]).map toTok = acc.map toTok ++ [⟨113, T.extract 1 (1 + (j : Int)).toNat⟩] := by
                rw [List.map_append, Lib.extract_eq]
                have e7 : (1 + (j : Int)).toNat - 1 = j := by omega
                rw [e7]
                rfl
              rw [e6]
              exact ho
      have c2' : ((b.toNat : Int) == 34) = false := by simpa using c2
      clear c2
      by_cases c3 : 0 ≤ Lib.indexByte [123, 125, 91, 93, 59] b
      · have hsg : signB b = true := (sign_ib b).1 c3
        have hl : lexL T.data.toList = (lexL (T.data.toList.drop 1)).map ((b, [b]) :: ·) := sign_at hbr.out hbl.out (by rintro rfl; exact absurd c1' (by decide)) (fun hh => absurd (hpp.out.2 hh) (by decide)) (by rintro rfl; exact absurd c2' (by decide)) hsg
        replace hl := Aside0.mk hl
        have c3' : decide (0 ≤ Lib.indexByte [123, 125, 91, 93, 59] b) = true := decide_eq_true c3
        clear c3 hsg
        have hs1n : 1 ≤ T.size := q0'.out
        have c7 : decide ((1 : Int) ≤ (T.size : Int)) = true := decide_eq_true (by omega)
        have q6 : ((1 : Int) ≤ (T.size : Int)) = True := eq_true (by omega)
        go_wp2_with (first | (go_at_call 35; refine (strings_TrimLeft.calls _ _ _ _ hT.out).mono ?_; rintro e w1 ⟨rfl, hb1⟩; replace hR := Aside0.mk (Kd.R_below hR.out hb1); replace hB := Aside0.mk (below_step hB.out hb1); clear hb1) | (go_at_call 36; refine (strings_HasPrefix.calls _ _ _ _ hp.out).mono ?_; rintro e w2 ⟨rfl, hb2⟩; replace hR := Aside0.mk (Kd.R_below hR.out hb2.below); replace hB := Aside0.mk (below_step hB.out hb2.below); clear hb2) | (go_at_call 37; refine (strings_IndexByte.calls _ _ _ _ rfl).mono ?_; rintro e w3 ⟨rfl, hb3⟩; replace hR := Aside0.mk (Kd.R_below hR.out hb3); replace hB := Aside0.mk (below_step hB.out hb3); clear hb3))
        replace hR := Aside0.mk (Kd.R_drew hR.out)
        replace hB := Aside0.mk (below_drew1 hB.out)
        refine start_ (n := 9) (S := fun w' => True) (ds := []) #[false, false, false, false, false, false, false, false, false] (by kernel_rfl) rfl rfl trivial (fun hHeld => ?_)
        refine with_tabW tok_tab14 tok_bits14 (fun HT_ HW_ => ?_)
        generalize World.drew _ = w19 at hR hB hHeld ⊢
        refine pure_ (i := 0) (N := some 38) (v := ?_) (a' := ?_) #[true, false, false, false, false, false, false, false, false] rfl rfl (any_of HT_.out (by kernel_rfl)) (fun c a w h => hpan.out c a _ _ w h) (Or.inl ⟨by rfl, ?_⟩) ?_ ?_
        rotate_left
        · intro w'
          go_simp
          with_reducible rfl
        rotate_left
        · simp only [Act.put, List.setIfInBounds_toArray, List.set_cons_zero, List.set_cons_succ, i64_w, i32_w]
          rfl
        refine pure_ (i := 1) (N := some 39) (v := ?_) (a' := ?_) #[true, true, false, false, false, false, false, false, false] rfl rfl (any_of HT_.out (by kernel_rfl)) (fun c a w h => hpan.out c a _ _ w h) (Or.inl ⟨by rfl, ?_⟩) ?_ ?_
        rotate_left
        · intro w'
          go_simp
          with_reducible rfl
        rotate_left
        · simp only [Act.put, List.setIfInBounds_toArray, List.set_cons_zero, List.set_cons_succ, i64_w, i32_w]
          rfl
        refine pure_ (i := 3) (N := some 41) (v := ?_) (a' := ?_) #[true, true, false, true, false, false, false, false, false] rfl rfl (any_of HT_.out (by kernel_rfl)) (fun c a w h => hpan.out c a _ _ w h) (Or.inl ⟨by rfl, ?_⟩) ?_ ?_
        rotate_left
        · intro w'
          go_simp
          with_reducible rfl
        rotate_left
        · simp only [Act.put, List.setIfInBounds_toArray, List.set_cons_zero, List.set_cons_succ, i64_w, i32_w]
          rfl
        refine pure_ (i := 4) (N := some 42) (v := ?_) (a' := ?_) #[true, true, false, true, true, false, false, false, false] rfl rfl (any_of HT_.out (by kernel_rfl)) (fun c a w h => hpan.out c a _ _ w h) (Or.inl ⟨by rfl, ?_⟩) ?_ ?_
        rotate_left
        · intro w'
          go_simp
          with_reducible rfl
        rotate_left
        · simp only [Act.put, List.setIfInBounds_toArray, List.set_cons_zero, List.set_cons_succ, i64_w, i32_w]
          rfl
        refine take_ (i := 2) (N := some 40) (v := ?_) (a' := ?_) #[true, true, true, true, true, false, false, false, false] rfl rfl (take_ofW HT_.out HW_.out (by kernel_rfl)) (fun c a w h => hpan.out c a _ _ w h) (Or.inl ⟨by rfl, ?_⟩) hHeld ?_ ?_
        rotate_left
        · intro w' _
          go_simp
          with_reducible rfl
        rotate_left
        · simp only [Act.put, List.setIfInBounds_toArray, List.set_cons_zero, List.set_cons_succ, i64_w, i32_w]
          rfl
        refine pure_ (i := 5) (N := some 43) (v := ?_) (a' := ?_) #[true, true, true, true, true, true, false, false, false] rfl rfl (any_of HT_.out (by kernel_rfl)) (fun c a w h => hpan.out c a _ _ w h) (Or.inl ⟨by rfl, ?_⟩) ?_ ?_
        rotate_left
        · intro w'
          go_simp
          with_reducible rfl
        rotate_left
        · simp only [Act.put, List.setIfInBounds_toArray, List.set_cons_zero, List.set_cons_succ, i64_w, i32_w]
          rfl
        refine one_ (i := 6) (N := some 44) #[true, true, true, true, true, true, true, false, false] rfl rfl (one_of HT_.out (by kernel_rfl)) (by decide) (fun K hK => ?_)
        refine value_ (w1 := ?_) (v := ?_) (by rfl) rfl ?_ ?_
        rotate_left 2
        · go_simp
          constructor
          · rfl
          · rfl
        refine hK.out _ _ trivial (fun hHeld => ?_)
        clear hK K
        refine norm_ (a' := ?_) ?_ ?_
        rotate_left
        · show Act.put _ (some 44) _ = _
          simp only [Act.put, List.setIfInBounds_toArray, List.set_cons_zero, List.set_cons_succ, i64_w, i32_w]
          rfl
        refine one_ (i := 7) (N := some 45) #[true, true, true, true, true, true, true, true, false] rfl rfl (one_of HT_.out (by kernel_rfl)) (by decide) (fun K hK => ?_)
        refine Kd.R_append_step k54 (w0 := w) w.heap.size (by rfl) (.tmp 38) (.tmp 44) 46 54 (.agg #[.int .u8 0, .string ⟨#[]⟩]) 24 rfl Tryz.underlying46 info54 rfl (by decide) (by omega) v5 (acc.map toTok) (⟨(b.toNat : Int), T.extract 0 1⟩ : S54) [.int .u8 (b.toNat : Int), .string (T.extract 0 1)] (fun _ => True) (fun _ => False) rfl rfl ?aP (fun _ hk => hk.elim) ?aF ?aO ?aB ?aS ?aL ?_
        (case aP => exact k54_mkM _ _ _ (⟨(b.toNat : Int), T.extract 0 1⟩ : S54))
        (case aB => exact (by repeat (first | (with_reducible first | exact hB.out | apply below_alloc | apply pw_below_drewN | apply below_drew1) | exact hB.out)))
        (case aF => exact (fun _ _ => trivial))
        (case aO => exact (by (with_reducible repeat (first | apply Kd.R_alloc | apply Kd.R_drewN | apply Kd.R_drew)); exact hR.out))
        (case aS => exact (below_size (by repeat (first | (with_reducible first | exact hB.out | apply below_alloc | apply pw_below_drewN | apply below_drew1) | exact hB.out))))
        (case aL => rw [List.length_map]; omega)
        intro v6 w20 ho hb hg hat
        replace hR := Aside0.mk ho
        replace hB := Aside0.mk hb
        clear ho hb hg hat
        refine hK.out _ _ trivial (fun hHeld => ?_)
        clear hK K
        refine norm_ (a' := ?_) ?_ ?_
        rotate_left
        · show Act.put _ (some 45) _ = _
          simp only [Act.put, List.setIfInBounds_toArray, List.set_cons_zero, List.set_cons_succ, i64_w, i32_w]
          rfl
        refine pure_ (i := 8) (N := some 5) (v := ?_) (a' := ?_) #[true, true, true, true, true, true, true, true, true] rfl rfl (any_of HT_.out (by kernel_rfl)) (fun c a w h => hpan.out c a _ _ w h) (Or.inl ⟨by rfl, ?_⟩) ?_ ?_
        rotate_left
        · intro w'
          go_simp
          with_reducible rfl
        rotate_left
        · simp only [Act.put, List.setIfInBounds_toArray, List.set_cons_zero, List.set_cons_succ, i64_w, i32_w]
          rfl
        refine done_ (done_of HT_.out (by kernel_rfl)) ?_
        go_wp2
        go_step3
        apply hback.out
        refine ⟨T.size - (1), ?_, T, 1, acc ++ [(b, [b])], v6, _, _, _, _, _, _, _, _, _, _, _, _, _, _, _, _, _, _, _, _, _, _, _, _, _, _, _, _, _, _, _, _, _, _, _, _, _, _, _, _, _, _, _, _, _, _, _, _, _, _, _, _, _, _, _, _, _, _, _, _, _, _, _, _, _, _, _, _, _, _, _, _, _, _, _, _, _, _, _, _, _, _, _, _, _, _, _, _, _, _, rfl, ?_, rfl, by omega, hTA.out, ?_, ?_, ?_, hB.out⟩
        · omega
        · have := q0'.out; omega
        · exact grow_at hL.out hl.out
        · have := q0'.out; simp only [List.length_append, List.length_cons, List.length_nil]; omega
        · have ho := hR.out
          have e6 : (acc ++ [(b, [b])]).map toTok = acc.map toTok ++ [⟨(b.toNat : Int), T.extract 0 1⟩] := by
            rw [List.map_append, take_at, hbr.out]
            rfl
          rw [e6]
          exact ho
      have c3' : decide (0 ≤ Lib.indexByte [123, 125, 91, 93, 59] b) = false := decide_eq_false c3
      have hsg : signB b = false := Bool.eq_false_iff.mpr (fun hh => c3 ((sign_ib b).2 hh))
      clear c3
      obtain ⟨m, hm⟩ : ∃ m, Lib.indexAny T.data.toList [32, 9, 10, 123, 125, 91, 93, 59, 34, 35] = m := ⟨_, rfl⟩
      have hIA : Aside0 (strings_IndexAny.f T ⟨#[32, 9, 10, 123, 125, 91, 93, 59, 34, 35]⟩ = some m) := ⟨by
        rw [ia_at (by omega) hTA.out ⟨#[32, 9, 10, 123, 125, 91, 93, 59, 34, 35]⟩ (by decide) (by decide)]
        exact congrArg some hm⟩
      obtain ⟨j, hj1, hj2, hmj, hl⟩ := word_at hbr.out hbl.out (by rintro rfl; exact absurd c1' (by decide)) (fun hh => absurd (hpp.out.2 hh) (by decide)) (by rintro rfl; exact absurd c2' (by decide)) hsg hm
      replace hl := Aside0.mk hl
      have c5 : decide ((j : Int) ≤ (T.size : Int)) = true := decide_eq_true (by omega)
      have e6 : (acc ++ [((119 : UInt8), T.data.toList.take j)]).map toTok = acc.map toTok ++ [⟨119, T.extract 0 (j : Int).toNat⟩] := by
        rw [List.map_append, take_at]
        rfl
      replace e6 := Aside0.mk e6
      clear hm hsg
      rcases hmj with ⟨rfl, hjs⟩ | rfl
      · subst hjs
        go_wp2_with (first | (go_at_call 35; refine (strings_TrimLeft.calls _ _ _ _ hT.out).mono ?_; rintro e w1 ⟨rfl, hb1⟩; replace hR := Aside0.mk (Kd.R_below hR.out hb1); replace hB := Aside0.mk (below_step hB.out hb1); clear hb1) | (go_at_call 36; refine (strings_HasPrefix.calls _ _ _ _ hp.out).mono ?_; rintro e w2 ⟨rfl, hb2⟩; replace hR := Aside0.mk (Kd.R_below hR.out hb2.below); replace hB := Aside0.mk (below_step hB.out hb2.below); clear hb2) | (go_at_call 37; refine (strings_IndexByte.calls _ _ _ _ rfl).mono ?_; rintro e w3 ⟨rfl, hb3⟩; replace hR := Aside0.mk (Kd.R_below hR.out hb3); replace hB := Aside0.mk (below_step hB.out hb3); clear hb3) | (go_at_call 38; refine (strings_IndexAny.calls _ _ _ _ hIA.out).mono ?_; rintro e w4 ⟨rfl, hb4⟩; replace hR := Aside0.mk (Kd.R_below hR.out hb4); replace hB := Aside0.mk (below_step hB.out hb4); clear hb4) | ((with_reducible refine gate_builtin (b := .append) (xs := #[.tmp 52, .tmp 57]) rfl ?_); at_builtin; refine Kd.R_append k54 (w0 := w) w.heap.size rfl (.tmp 52) (.tmp 57) 46 54 (.agg #[.int .u8 0, .string ⟨#[]⟩]) 24 rfl Tryz.underlying46 info54 rfl (by decide) (by omega) v5 (acc.map toTok) _ _ (fun _ => True) (fun _ => False) rfl rfl (k54_mkM _ _ _ ⟨119, _⟩) (fun _ hk => hk.elim) (fun _ _ => trivial) hR.out hB.out (below_size hB.out) (by rw [List.length_map]; omega) ?_; intro v6 w6 ho hb hg hat; replace hR := Aside0.mk ho; replace hB := Aside0.mk hb; clear ho hb hg hat))
        go_step3
        apply hback.out
        refine ⟨T.size - (T.size), ?_, T, T.size, acc ++ [((119 : UInt8), T.data.toList.take T.size)], v6, _, _, _, _, _, _, _, _, _, _, _, _, _, _, _, _, _, _, _, _, _, _, _, _, _, _, _, _, _, _, _, _, _, _, _, _, _, _, _, _, _, _, _, _, _, _, _, _, _, _, _, _, _, _, _, _, _, _, _, _, _, _, _, _, _, _, _, _, _, _, _, _, _, _, _, _, _, _, _, _, _, _, _, _, _, _, _, _, _, _, rfl, ?_, rfl, by omega, hTA.out, ?_, ?_, ?_, hB.out⟩
        · omega
        · omega
        · exact grow_at hL.out hl.out
        · simp only [List.length_append, List.length_cons, List.length_nil]; omega
        · rw [e6.out, Int.toNat_natCast, extract_whole]
          exact hR.out
      · go_wp2_with (first | (go_at_call 35; refine (strings_TrimLeft.calls _ _ _ _ hT.out).mono ?_; rintro e w1 ⟨rfl, hb1⟩; replace hR := Aside0.mk (Kd.R_below hR.out hb1); replace hB := Aside0.mk (below_step hB.out hb1); clear hb1) | (go_at_call 36; refine (strings_HasPrefix.calls _ _ _ _ hp.out).mono ?_; rintro e w2 ⟨rfl, hb2⟩; replace hR := Aside0.mk (Kd.R_below hR.out hb2.below); replace hB := Aside0.mk (below_step hB.out hb2.below); clear hb2) | (go_at_call 37; refine (strings_IndexByte.calls _ _ _ _ rfl).mono ?_; rintro e w3 ⟨rfl, hb3⟩; replace hR := Aside0.mk (Kd.R_below hR.out hb3); replace hB := Aside0.mk (below_step hB.out hb3); clear hb3) | (go_at_call 38; refine (strings_IndexAny.calls _ _ _ _ hIA.out).mono ?_; rintro e w4 ⟨rfl, hb4⟩; replace hR := Aside0.mk (Kd.R_below hR.out hb4); replace hB := Aside0.mk (below_step hB.out hb4); clear hb4) | ((with_reducible refine gate_builtin (b := .append) (xs := #[.tmp 52, .tmp 57]) rfl ?_); at_builtin; refine Kd.R_append k54 (w0 := w) w.heap.size rfl (.tmp 52) (.tmp 57) 46 54 (.agg #[.int .u8 0, .string ⟨#[]⟩]) 24 rfl Tryz.underlying46 info54 rfl (by decide) (by omega) v5 (acc.map toTok) _ _ (fun _ => True) (fun _ => False) rfl rfl (k54_mkM _ _ _ ⟨119, _⟩) (fun _ hk => hk.elim) (fun _ _ => trivial) hR.out hB.out (below_size hB.out) (by rw [List.length_map]; omega) ?_; intro v6 w6 ho hb hg hat; replace hR := Aside0.mk ho; replace hB := Aside0.mk hb; clear ho hb hg hat))
        go_step3
        apply hback.out
        refine ⟨T.size - (j), ?_, T, j, acc ++ [((119 : UInt8), T.data.toList.take j)], v6, _, _, _, _, _, _, _, _, _, _, _, _, _, _, _, _, _, _, _, _, _, _, _, _, _, _, _, _, _, _, _, _, _, _, _, _, _, _, _, _, _, _, _, _, _, _, _, _, _, _, _, _, _, _, _, _, _, _, _, _, _, _, _, _, _, _, _, _, _, _, _, _, _, _, _, _, _, _, _, _, _, _, _, _, _, _, _, _, _, _, rfl, ?_, rfl, by omega, hTA.out, ?_, ?_, ?_, hB.out⟩
        · omega
        · omega
        · exact grow_at hL.out hl.out
        · simp only [List.length_append, List.length_cons, List.length_nil]; omega
        · rw [e6.out]
          exact hR.out
end Go.Proofs.YtdnneofebehpaaaGreatDoor.L
