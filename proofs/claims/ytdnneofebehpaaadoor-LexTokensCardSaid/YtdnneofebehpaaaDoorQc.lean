/- Words, plainly: the program's answers on addresses, prefixes, communities; the document's examples. -/
import Derived.Test.YtdnneofebehpaaaDoorQb
import Derived.Test.YtdnneofebehpaaaDoorLx10
namespace Go.Proofs.YtdnneofebehpaaaDoor.L
open Go.RowKit Go.Proofs.YtdnneofebehpaaaDoorW.PrintWords Go.Proofs.YtdnneofebehpaaaDoorW.PrintLast Go.Proofs.YtdnneofebehpaaaDoorW.PrintMore Go.Proofs.YtdnneofebehpaaaDoor.LexPlain
theorem numR_bound (l : List UInt8) : 0 ≤ (numR l).1 ∧ (numR l).1 ≤ 4294967295 := by
  unfold numR
  split
  · exact ⟨by decide, by decide⟩
  · split
    · rename_i h
      exact ⟨by show 0 ≤ (valD 0 l : Int); omega, by show (valD 0 l : Int) ≤ 4294967295; have := h.2; omega⟩
    · exact ⟨by decide, by decide⟩
theorem num_some (s : ByteArray) (hs : s.size ≤ 65536) : lex_Num.f s = some (numR s.data.toList) := by
  unfold lex_Num.f
  rw [if_pos (by omega), numS_R]
def smallV (l : List UInt8) (m : Int) : Int × Bool := if (numR l).2 = true then (if (numR l).1 > m then (0, false) else ((numR l).1, true)) else (0, false)
theorem small_some (s : ByteArray) (m : Int) (hs : s.size ≤ 65536) : lex_small.f s m = some (smallV s.data.toList m) := by
  unfold lex_small.f smallV
  rw [num_some s hs, Option.bind_some]
  split
  · split <;> rfl
  · rfl
def addrV : Int → List (List UInt8) → Int × Bool
  | acc, [] => (acc, true)
  | acc, w :: ws => if (smallV w 255).2 = true then addrV ((256 * acc + (smallV w 255).1) % 4294967296) ws else (0, false)
def pc1 (c : UInt8) (l : List UInt8) : List (List UInt8) := pcs (fun b => b == c) [] l
def addrW (l : List UInt8) : Int × Bool := if (pc1 46 l).length = 4 then addrV 0 (pc1 46 l) else (0, false)
theorem smallV_bound (l : List UInt8) (m : Int) : 0 ≤ (smallV l m).1 ∧ (smallV l m).1 ≤ 4294967295 ∧ ((smallV l m).2 = true → (smallV l m).1 ≤ m) := by
  have hb := numR_bound l
  unfold smallV
  split
  · split
    · exact ⟨by decide, by decide, fun h => absurd h (by decide)⟩
    · exact ⟨hb.1, hb.2, fun _ => by show (numR l).1 ≤ m; omega⟩
  · exact ⟨by decide, by decide, fun h => absurd h (by decide)⟩
theorem or8 (x n : Int) (h0 : 0 ≤ n) (h1 : n ≤ 255) : Go.bits .or .u32 ((x * 256) % 4294967296) n = (256 * x + n) % 4294967296 := by
  rw [bits_join .u32 32 (by decide) wraps_u32 8 _ n (by omega) (by omega) (by omega) h0 (by omega) (by omega)]
  omega
theorem or16 (x n : Int) (h0 : 0 ≤ n) (h1 : n ≤ 65535) (hx0 : 0 ≤ x) (hx : x ≤ 65535) : Go.bits .or .u32 ((x * 65536) % 4294967296) n = 65536 * x + n := by
  rw [bits_join .u32 32 (by decide) wraps_u32 16 _ n (by omega) (by omega) (by omega) h0 (by omega) (by omega)]
  omega
theorem addr_loop (l : List (List UInt8)) (hl : l.length ≤ 70000) (hx : ∀ x ∈ l, x.length ≤ 65536) : ∀ (m i : Nat) (acc : Int), i + m = l.length →
    Ev (fun k => lex_Addr.l0 k acc (l.map toB) ((l.map toB).length : Int) (i : Int)) (addrV acc (l.drop i)) := by
  intro m
  induction m with
  | zero =>
    intro i acc hi
    refine Ev.step (by intro k; rw [lex_Addr.l0]) ?_
    refine Ev.ite_neg (by rw [List.length_map]; omega) ?_
    rw [List.drop_of_length_le (by omega), addrV]
    exact Ev.now _
  | succ m ih =>
    intro i acc hi
    have hlt : i < l.length := by omega
    refine Ev.step (by intro k; rw [lex_Addr.l0]) ?_
    refine Ev.ite_pos (by rw [List.length_map]; omega) (Ev.ite_pos (by omega) (Ev.ite_pos (by rw [List.length_map]; omega) ?_))
    rw [rdB _ i (by rw [List.length_map]; exact hlt), List.getElem_map, w64s i (by omega), dropc _ i hlt, small_some _ _ (by rw [toB_size]; exact hx _ (List.getElem_mem hlt)), toB_list, addrV]
    refine Ev.some ?_
    have hb := smallV_bound l[i] 255
    by_cases h : (smallV l[i] 255).2 = true
    · rw [if_pos h]
      refine Ev.ite_pos h ?_
      rw [or8 _ _ hb.1 (hb.2.2 h)]
      exact ih (i + 1) _ (by omega)
    · rw [if_neg h]
      exact Ev.ite_neg h (Ev.now _)
theorem split_some (s : ByteArray) (c : UInt8) (hs : s.size ≤ 65536) : strings_Split.f s ⟨#[c]⟩ = some ((pc1 c s.data.toList).map toB) := by
  unfold strings_Split.f
  rw [if_pos ⟨by omega, by show 1 ≤ [c].toArray.size; simp⟩, split_pcs]
  rfl
theorem addr_ev (s : ByteArray) (hs : s.size ≤ 65536) : Ev (fun k => lex_Addr.f k s) (addrW s.data.toList) := by
  refine Ev.congr (fun k => by rw [lex_Addr.f]) ?_
  rw [split_some s 46 hs]
  refine Ev.some ?_
  have hsz := Lib.size_eq s
  unfold addrW
  obtain ⟨hp, hq⟩ := pcs_len (fun b => b == 46) s.data.toList []
  by_cases h : (pc1 46 s.data.toList).length = 4
  · rw [if_pos h]
    refine Ev.ite_pos (by rw [List.length_map, h]; rfl) ?_
    have := addr_loop (pc1 46 s.data.toList) (by unfold pc1; omega) (fun x hx => by have := hq x hx; simp at this; omega) _ 0 0 (by rw [Nat.zero_add])
    rw [List.drop_zero] at this
    exact this
  · rw [if_neg h]
    exact Ev.ite_neg (by rw [List.length_map]; omega) (Ev.now _)
theorem addrV_bound : ∀ (l : List (List UInt8)) (acc : Int), 0 ≤ acc → acc ≤ 4294967295 → 0 ≤ (addrV acc l).1 ∧ (addrV acc l).1 ≤ 4294967295
  | [], acc, h0, h1 => ⟨h0, h1⟩
  | w :: ws, acc, h0, h1 => by
    rw [addrV]
    split
    · exact addrV_bound ws _ (by omega) (by omega)
    · exact ⟨by decide, by decide⟩
theorem addrW_bound (l : List UInt8) : 0 ≤ (addrW l).1 ∧ (addrW l).1 ≤ 4294967295 := by
  unfold addrW
  split
  · exact addrV_bound _ _ (by decide) (by decide)
  · exact ⟨by decide, by decide⟩
theorem index_one_ne (b c : UInt8) (h : b ≠ c) (l : List UInt8) : Lib.index (b :: l) [c] = if Lib.index l [c] == -1 then -1 else Lib.index l [c] + 1 := by
  rw [Lib.index_one, Lib.index_one, Lib.indexByte, if_neg (by simpa using h)]
theorem cut_pcs (c : UInt8) : ∀ l : List UInt8, (pc1 c l = [l] ∧ Lib.cut l [c] = (l, [], false)) ∨ ∃ x r, pc1 c l = x :: pc1 c r ∧ Lib.cut l [c] = (x, r, true) ∧ l = x ++ c :: r
  | [] => Or.inl ⟨rfl, rfl⟩
  | b :: l => by
    by_cases h : b = c
    · subst h
      refine Or.inr ⟨[], l, ?_, ?_, rfl⟩
      · unfold pc1
        rw [pcs, if_pos (by simp)]
      · have e : Lib.index (b :: l) [b] = 0 := by rw [Lib.index_one, Lib.indexByte, if_pos (by simp)]
        unfold Lib.cut
        rw [e]
        simp
    · have e := index_one_ne b c h l
      have hp : ∀ y ys, pc1 c l = y :: ys → pc1 c (b :: l) = (b :: y) :: ys := by
        intro y ys hy
        unfold pc1 at hy ⊢
        rw [pcs, if_neg (by simpa using h), List.nil_append]
        obtain ⟨x, xs, h1, h2⟩ := pcs_cur (fun b => b == c) l [b]
        rw [h2]
        rw [h1] at hy
        injection hy with q1 q2
        rw [q1, q2]
        rfl
      rcases cut_pcs c l with ⟨h1, h2⟩ | ⟨x, r, h1, h2, h3⟩
      · refine Or.inl ⟨hp _ _ h1, ?_⟩
        have hi : ¬ 0 ≤ Lib.index l [c] := by
          intro q
          unfold Lib.cut at h2
          rw [if_pos q] at h2
          injection h2 with _ h2
          injection h2 with _ h2
          exact absurd h2 (by decide)
        have hge := Lib.index_ge l [c]
        have hz : Lib.index l [c] = -1 := by omega
        have e' : Lib.index (b :: l) [c] = -1 := by rw [e, hz]; rfl
        unfold Lib.cut
        rw [e', if_neg (by decide)]
      · refine Or.inr ⟨b :: x, r, hp _ _ h1, ?_, by rw [h3]; rfl⟩
        have hi : 0 ≤ Lib.index l [c] := by
          apply Classical.byContradiction
          intro q
          unfold Lib.cut at h2
          rw [if_neg q] at h2
          injection h2 with _ h2
          injection h2 with _ h2
          exact absurd h2 (by decide)
        unfold Lib.cut at h2 ⊢
        rw [if_pos hi] at h2
        have g : ¬ (Lib.index l [c] == -1) = true := by simp; omega
        rw [e, if_neg g, if_pos (by omega)]
        have n : (Lib.index l [c] + 1).toNat = (Lib.index l [c]).toNat + 1 := by omega
        injection h2 with h4 h5
        injection h5 with h5 _
        rw [n, ← h4, ← h5, List.take_succ_cons, show (Lib.index l [c]).toNat + 1 + [c].length = (Lib.index l [c]).toNat + [c].length + 1 by omega, List.drop_succ_cons]
theorem cut_some (s : ByteArray) (c : UInt8) (hs : s.size ≤ 65536) : strings_Cut.f s ⟨#[c]⟩ = some (toB (Lib.cut s.data.toList [c]).1, toB (Lib.cut s.data.toList [c]).2.1, (Lib.cut s.data.toList [c]).2.2) := by
  unfold strings_Cut.f
  rw [if_pos (by omega)]
  rfl
theorem cut_len (c : UInt8) (l : List UInt8) : (Lib.cut l [c]).1.length ≤ l.length ∧ (Lib.cut l [c]).2.1.length ≤ l.length := by
  rcases cut_pcs c l with ⟨_, h⟩ | ⟨x, r, _, h, h3⟩
  · rw [h]; simp
  · rw [h, h3]; simp; omega
def pfxV (a n : Int × Bool) : Int × Int × Bool := if a.2 = true ∧ n.2 = true ∧ (a.1 / 2 ^ (32 - n.1).toNat * 2 ^ (32 - n.1).toNat = a.1) then (a.1, n.1, true) else (0, 0, false)
def pfxW (l : List UInt8) : Int × Int × Bool := if (Lib.cut l [47]).2.2 = true then pfxV (addrW (Lib.cut l [47]).1) (smallV (Lib.cut l [47]).2.1 32) else (0, 0, false)
theorem mask_in (a n : Int) (ha : 0 ≤ a) (ha1 : a ≤ 4294967295) (hn : 0 ≤ n) (hn1 : n ≤ 32) : route_Mask.f a n = some (a / 2 ^ (32 - n).toNat * 2 ^ (32 - n).toNat, n) := by
  have hc : mx 0 (mn n 32) = n := by rw [mx_eq, mn_eq]; omega
  have hp : (0 : Int) < 2 ^ (32 - n).toNat := Int.pow_pos (by decide)
  have h1 : 0 ≤ a / 2 ^ (32 - n).toNat * 2 ^ (32 - n).toNat := Int.mul_nonneg (Int.ediv_nonneg ha (Int.le_of_lt hp)) (Int.le_of_lt hp)
  have h2 : a / 2 ^ (32 - n).toNat * 2 ^ (32 - n).toNat ≤ a := Int.ediv_mul_le _ (by omega)
  unfold route_Mask.f
  rw [hc, u64_wrap_id a ha (by omega), u64_wrap_id _ h1 (by omega), Int.emod_eq_of_lt h1 (by omega)]
theorem pfx_ev (s : ByteArray) (hs : s.size ≤ 65536) : Ev (fun k => lex_Prefix.f k s) (pfxW s.data.toList) := by
  refine Ev.congr (fun k => by rw [lex_Prefix.f]) ?_
  have hsz := Lib.size_eq s
  obtain ⟨hl1, hl2⟩ := cut_len 47 s.data.toList
  rw [cut_some s 47 hs]
  refine Ev.some ?_
  refine Ev.bind1 _ (addr_ev _ (by show (toB _).size ≤ _; rw [toB_size]; omega)) ?_
  rw [small_some _ _ (by show (toB _).size ≤ _; rw [toB_size]; omega)]
  refine Ev.some ?_
  show Ev (fun k => if (Lib.cut s.data.toList [47]).2.2 = true then _ else _) _
  rw [toB_list, toB_list]
  unfold pfxW
  generalize hc : Lib.cut s.data.toList [47] = ct
  have hb := addrW_bound ct.1
  have hn := smallV_bound ct.2.1 32
  generalize addrW ct.1 = a at *
  generalize smallV ct.2.1 32 = n at *
  unfold pfxV
  by_cases h1 : ct.2.2 = true
  · refine Ev.ite_pos h1 ?_
    rw [if_pos h1]
    by_cases h2 : a.2 = true
    · refine Ev.ite_pos h2 ?_
      by_cases h3 : n.2 = true
      · refine Ev.ite_pos h3 ?_
        rw [w64 (by omega) (by omega), mask_in a.1 n.1 hb.1 hb.2 hn.1 (hn.2.2 h3)]
        refine Ev.some ?_
        show Ev (fun k => if (!(a.1 == a.1 / 2 ^ (32 - n.1).toNat * 2 ^ (32 - n.1).toNat) || (!(n.1 == n.1))) = true then _ else _) _
        by_cases h4 : a.1 / 2 ^ (32 - n.1).toNat * 2 ^ (32 - n.1).toNat = a.1
        · refine Ev.ite_neg (by rw [h4]; simp) ?_
          rw [if_pos ⟨h2, h3, h4⟩]
          exact Ev.now _
        · refine Ev.ite_pos ?_ ?_
          · have : (a.1 == a.1 / 2 ^ (32 - n.1).toNat * 2 ^ (32 - n.1).toNat) = false := beq_eq_false_iff_ne.mpr (fun q => h4 q.symm)
            rw [this]
            rfl
          · rw [if_neg (fun g => h4 g.2.2)]
            exact Ev.now _
      · refine Ev.ite_neg h3 ?_
        rw [if_neg (fun g => h3 g.2.1)]
        exact Ev.now _
    · refine Ev.ite_neg h2 ?_
      rw [if_neg (fun g => h2 g.1)]
      exact Ev.now _
  · refine Ev.ite_neg h1 ?_
    rw [if_neg h1]
    exact Ev.now _
def halfV (l : List UInt8) : Int × Int × Bool := if l = [42] then (0, 65535, true) else ((smallV l 65535).1, (smallV l 65535).1, (smallV l 65535).2)
theorem half_some (s : ByteArray) (hs : s.size ≤ 65536) : lex_half.f s = some (halfV s.data.toList) := by
  unfold lex_half.f halfV
  rw [Lib.toList_data]
  split
  · rfl
  · rw [small_some s _ hs]
    rfl
theorem halfV_bound (l : List UInt8) : (halfV l).2.2 = true → (0 ≤ (halfV l).1 ∧ (halfV l).1 ≤ 65535) ∧ 0 ≤ (halfV l).2.1 ∧ (halfV l).2.1 ≤ 65535 := by
  have hb := smallV_bound l 65535
  unfold halfV
  split
  · exact fun _ => ⟨⟨by decide, by decide⟩, by decide, by decide⟩
  · exact fun h => ⟨⟨hb.1, hb.2.2 h⟩, hb.1, hb.2.2 h⟩
def commV (a c : Int × Int × Bool) : Int × Int × Bool := if a.2.2 = true ∧ c.2.2 = true then (65536 * a.1 + c.1, 65536 * a.2.1 + c.2.1, true) else (0, 0, false)
def commW (l : List UInt8) : Int × Int × Bool := if (Lib.cut l [58]).2.2 = true then commV (halfV (Lib.cut l [58]).1) (halfV (Lib.cut l [58]).2.1) else (0, 0, false)
theorem comm_some (s : ByteArray) (hs : s.size ≤ 65536) : lex_Comm.f s = some (commW s.data.toList) := by
  have hsz := Lib.size_eq s
  obtain ⟨hl1, hl2⟩ := cut_len 58 s.data.toList
  unfold lex_Comm.f
  rw [cut_some s 58 hs, Option.bind_some, half_some _ (by show (toB _).size ≤ _; rw [toB_size]; omega), Option.bind_some, half_some _ (by show (toB _).size ≤ _; rw [toB_size]; omega), Option.bind_some]
  rw [toB_list, toB_list]
  unfold commW
  generalize Lib.cut s.data.toList [58] = ct
  have ha := halfV_bound ct.1
  have hc := halfV_bound ct.2.1
  generalize halfV ct.1 = a at *
  generalize halfV ct.2.1 = c at *
  unfold commV
  by_cases h1 : ct.2.2 = true
  · rw [if_pos h1, if_pos h1]
    by_cases h2 : a.2.2 = true
    · rw [if_pos h2]
      by_cases h3 : c.2.2 = true
      · obtain ⟨⟨a1, a2⟩, a3, a4⟩ := ha h2
        obtain ⟨⟨b1, b2⟩, b3, b4⟩ := hc h3
        rw [if_pos h3, if_pos ⟨h2, h3⟩, or16 _ _ b1 b2 a1 a2, or16 _ _ b3 b4 a3 a4]
      · rw [if_neg h3, if_neg (fun g => h3 g.2)]
    · rw [if_neg h2, if_neg (fun g => h2 g.1)]
  · rw [if_neg h1, if_neg h1]
def tokV (s : ByteArray) : List S40 × Int := if askV s = 0 then tokAll s else ([], askV s)
theorem tokens_ev (s : ByteArray) : Ev (fun k => lex_Tokens.f k s) (tokV s) := by
  refine Ev.congr (fun k => by rw [lex_Tokens.f]) ?_
  refine Ev.bind1 _ (ask_ev s) ?_
  unfold tokV
  by_cases h : askV s = 0
  · have h1 : ¬ 65536 < s.size := by intro q; unfold askV at h; rw [if_pos q] at h; exact absurd h (by decide)
    have h2 : s.data.toList.all mayB = true := by
      unfold askV at h
      rw [if_neg h1] at h
      by_cases g : s.data.toList.all mayB = true
      · exact g
      · rw [if_neg g] at h; exact absurd h (by decide)
    have h3 : asciiC s = true := by
      unfold asciiC
      rw [List.all_eq_true] at h2 ⊢
      intro b hb
      have := (mayB_iff b).1 (h2 b hb)
      exact decide_eq_true (by omega)
    refine Ev.ite_pos h (Ev.ite_pos ⟨by omega, h3⟩ ?_)
    rw [if_pos h]
    exact Ev.now _
  · refine Ev.ite_neg h ?_
    rw [if_neg h]
    exact Ev.now _
theorem alive_ev : Ev (fun k => dragomanlaw14_alive.f k) true := by
  refine Ev.congr (fun k => by rw [dragomanlaw14_alive.f]) ?_
  refine Ev.bind1 _ (llines_ev _) ?_
  refine Ev.bind1 _ (tokens_ev _) ?_
  refine Ev.bind1 _ (pfx_ev _ (by decide)) ?_
  refine Ev.bind1 _ (pfx_ev _ (by decide)) ?_
  rw [comm_some _ (by decide)]
  refine Ev.some ?_
  have e1 : linesV (⟨#[105, 112, 32, 112, 114, 101, 102, 105, 120, 45, 108, 105, 115, 116, 32, 97, 10, 33, 32, 120, 10, 10, 32, 115, 101, 113, 32, 32, 53]⟩ : ByteArray) = ([[⟨#[105, 112]⟩, ⟨#[112, 114, 101, 102, 105, 120, 45, 108, 105, 115, 116]⟩, ⟨#[97]⟩], [⟨#[115, 101, 113]⟩, ⟨#[53]⟩]], 0) := by kernel_rfl
  have e2 : tokV (⟨#[97, 123, 98, 32, 34, 99, 32, 100, 34, 59, 125, 32, 35, 32, 101]⟩ : ByteArray) = ([⟨119, ⟨#[97]⟩⟩, ⟨123, ⟨#[123]⟩⟩, ⟨119, ⟨#[98]⟩⟩, ⟨113, ⟨#[99, 32, 100]⟩⟩, ⟨59, ⟨#[59]⟩⟩, ⟨125, ⟨#[125]⟩⟩], 0) := by kernel_rfl
  have e3 : pfxW (⟨#[49, 48, 46, 48, 46, 48, 46, 48, 47, 56]⟩ : ByteArray).data.toList = (167772160, 8, true) := by kernel_rfl
  have e4 : pfxW (⟨#[49, 48, 46, 48, 46, 48, 46, 49, 47, 56]⟩ : ByteArray).data.toList = (0, 0, false) := by kernel_rfl
  have e5 : commW (⟨#[54, 53, 48, 48, 48, 58, 42]⟩ : ByteArray).data.toList = (4259840000, 4259905535, true) := by kernel_rfl
  rw [e1, e2, e3, e4, e5]
  refine Ev.ite_pos rfl (Ev.ite_pos rfl (Ev.ite_pos (by decide) ?_))
  refine Ev.bind1 _ (strings_ev [⟨#[115, 101, 113]⟩, ⟨#[53]⟩] (by decide)) ?_
  refine Ev.ite_pos rfl (Ev.ite_pos rfl (Ev.ite_pos rfl (Ev.ite_pos (by decide) (Ev.ite_pos ?_ (Ev.ite_pos rfl (Ev.ite_pos (by decide) (Ev.ite_neg (by decide) (Ev.ite_pos rfl ?_))))))))
  · kernel_rfl
  · exact Ev.now _
end Go.Proofs.YtdnneofebehpaaaDoor.L
