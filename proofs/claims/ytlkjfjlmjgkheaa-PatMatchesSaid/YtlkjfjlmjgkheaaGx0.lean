import Derived.Test.YtlkjfjlmjgkheaaProg
import Derived.Below
import Derived.Deep.Draws
import Derived.Deep.AppendLies
import Derived.Maps.AppendAt
import Derived.OwnWalk
import Derived.Laws.BytesArg
import Derived.Laws.MakeOwn
import Derived.Laws.OwnMore
import Derived.Deep.OwnRows
import Derived.Tactics
import Derived.Lib.ConvBytes
import Derived.Laws.Slices
import Derived.WalkKit
import Derived.KernelRfl
import Derived.RowKit3
import Derived.Deep.LoopGhost
import Derived.Deep.QuietTactic
import Derived.BigQuiet
import Derived.WideLaws
import Derived.Deep.DeepCutAuto
import Derived.Deep.CutBlock
import Derived.Deep.RegionHeld3
import Derived.Laws.Rows
import Derived.Lib.AppendStr
import Derived.ArgAppend
import Derived.Laws.IdiomCopy
import Derived.OrdersHeld
import Derived.Laws.BitsLemmas
import Derived.RowKit
import Derived.WalkMore
import Derived.DeepKeys
import Derived.Laws.Cover3
import Derived.WalkSpells
import Derived.Test.YtlkjfjlmjgkheaaWWords
import Derived.Test.YtlkjfjlmjgkheaaWLast
import Derived.Test.YtlkjfjlmjgkheaaWTab
import Derived.Test.YtlkjfjlmjgkheaaWFour
import Derived.Test.YtlkjfjlmjgkheaaWQPut
import Derived.Test.YtlkjfjlmjgkheaaWApart
import Derived.Test.YtlkjfjlmjgkheaaWArr
import Derived.Test.YtlkjfjlmjgkheaaWZeros
import Derived.Test.YtlkjfjlmjgkheaaWFoot
import Derived.Test.YtlkjfjlmjgkheaaWKept
import Derived.Test.YtlkjfjlmjgkheaaWShare
import Derived.Test.YtlkjfjlmjgkheaaWN
import Derived.Test.YtlkjfjlmjgkheaaWFootNe
import Derived.Test.YtlkjfjlmjgkheaaWAt
import Derived.Test.YtlkjfjlmjgkheaaWEqStruct
import Derived.Test.YtlkjfjlmjgkheaaWRepsOne
import Derived.Test.YtlkjfjlmjgkheaaWInv
import Derived.Test.YtlkjfjlmjgkheaaWInvWords
import Derived.Test.YtlkjfjlmjgkheaaWGuard
import Derived.Test.YtlkjfjlmjgkheaaWNEv
import Derived.Test.YtlkjfjlmjgkheaaWMore
namespace Go.Proofs.Ytlkjfjlmjgkheaa.G
open Go.RowKit Go.Proofs.YtlkjfjlmjgkheaaW.PrintWords Go.Proofs.YtlkjfjlmjgkheaaW.PrintLast Go.Proofs.YtlkjfjlmjgkheaaW.PrintMore
attribute [local go_sem] max2_int min2_int max_two min_two max_three min_three max_four min_four
set_option linter.unusedVariables false
set_option linter.unusedSimpArgs false
def errW : Option Int → Value
  | none => .nilIface
  | some c => .iface 0 (.int .i64 c)
theorem errW_none : errW none = .nilIface := rfl
theorem errW_some (c : Int) : errW (some c) = .iface 0 (.int .i64 c) := rfl
def PredK {α : Type} (P : Program) (g : Nat) (lb : Array Value) (d : Kd α) (V : List Value → Value) (p : α → Bool) (w : World) (xs : List α) : Prop :=
  ∀ x, x ∈ xs → ∀ (W : World) (cs : List Value), Below w.heap.size w W → d.K W x cs → Calls P g (#[V cs] ++ lb) W fun e w' => e = .returned (.bool (p x)) ∧ Below w.heap.size w w'
def aggV (cs : List Value) : Value := .agg cs.toArray
def idxP {α : Type} (p : α → Bool) : List α → Nat → Int
  | [], _ => -1
  | x :: xs, i => if p x then (i : Int) else idxP p xs (i + 1)
theorem idxP_lt {α : Type} (p : α → Bool) (xs : List α) (i : Nat) : decide (idxP p xs i ≥ 0) = xs.any p := by
  induction xs generalizing i with
  | nil => simp [idxP]
  | cons x xs ih =>
    unfold idxP
    cases h : p x
    · simp [ih, h]
    · simp [h]
abbrev bkN := @blk_drewN
abbrev bkD := @blk_drew
abbrev bkA := @blk_alloc
abbrev blA := @below_alloc
abbrev blN := @pw_below_drewN
abbrev blD := @below_drew1
theorem info4 : (Try.prog.info? 4).map (fun i => (i.zero, i.size, i.bytes)) = some (some (.bool false), 1, 1) := by kernel_rfl
theorem info25 : (Try.prog.info? 25).map (fun i => (i.zero, i.size, i.bytes)) = some (some (.agg #[(.int .i64 0), (.slice none 0 0), (.slice none 0 0)]), 3, 56) := by kernel_rfl
theorem info36 : (Try.prog.info? 36).map (fun i => (i.zero, i.size, i.bytes)) = some (some (.int .u32 0), 1, 4) := by kernel_rfl
theorem info66 : (Try.prog.info? 66).map (fun i => (i.zero, i.size, i.bytes)) = some (some (.agg #[(.int .u32 0), (.int .u32 0)]), 2, 8) := by kernel_rfl
structure S66 where
  f0 : Int
  f1 : Int
def z66 : S66 := ⟨(0 : Int), (0 : Int)⟩
def k66 : Kd S66 := Kd.iso (Kd.pair (Kd.int .u32) (Kd.int .u32)) (fun x : S66 => (x.f0, x.f1))
theorem k66_open {w : World} {x : S66} {cs : List Value} (h : k66.K w x cs) : cs = [.int .u32 x.f0, .int .u32 x.f1] := by
  obtain ⟨_, _, rfl, rfl, rfl⟩ := h
  exact rfl
theorem k66_mk (w : World) (x : S66)  : k66.K w x [.int .u32 x.f0, .int .u32 x.f1] := ⟨[.int .u32 x.f0], [.int .u32 x.f1], rfl, rfl, rfl⟩
theorem k66_mkM (w : World) (base : Nat) (ok : Nat → Prop) (x : S66)  : k66.M w base ok x [.int .u32 x.f0, .int .u32 x.f1] := ⟨[.int .u32 x.f0], [.int .u32 x.f1], rfl, rfl, rfl⟩
def rd_T66 (xs : List S66) (i : Int) : S66 := xs.getD i.toNat z66
theorem at_T66 {w : World} {A : Option Addr} {n : Nat} {xs : List S66} (h : Kd.C k66 w A n xs) (i : Int) (h0 : 0 ≤ i) (h1 : i < n) : ∃ ad , A = some ad ∧ w.cell? (ad.add (i.toNat * 2)) = some (.int .u32 (rd_T66 xs i).f0) ∧ w.cell? ⟨(ad.add (i.toNat * 2)).block, (ad.add (i.toNat * 2)).off + 1, none⟩ = some (.int .u32 (rd_T66 xs i).f1) := by
  obtain ⟨ad, c, e, _, hK, hc0⟩ := Kd.C_get h z66 i h0 h1
  have hc : ∀ j u, c[j]? = some u → w.cell? (ad.add (i.toNat * 2 + j)) = some u := hc0
  obtain rfl := k66_open hK
  exact ⟨ad, e, hc 0 _ rfl, by rw [← add_field _ _ 1 (by omega)]; exact hc 1 _ rfl⟩
structure S25 where
  f0 : Int
  f1 : (List S66)
  f2 : (List S25)
def z25 : S25 := ⟨(0 : Int), ([] : List S66), ([] : List S25)⟩
def F25 (d : Kd S25) : Kd S25 := Kd.iso (Kd.pair (Kd.int .i64) (Kd.pair (Kd.slice 66 k66) (Kd.slice 25 d))) (fun x : S25 => (x.f0, x.f1, x.f2))
theorem mono25 : Kd.Mono F25 := Kd.mono_iso _ (Kd.mono_pair (Kd.mono_const _) (Kd.mono_pair (Kd.mono_const _) (Kd.mono_slice 25 Kd.mono_id)))
theorem sub25 : Kd.Sub F25 [25, 66] := Kd.sub_iso _ (Kd.sub_pair (Kd.sub_const _ (by decide)) (Kd.sub_pair (Kd.sub_const _ (by decide)) (Kd.sub_slice 25 (by decide) Kd.sub_id)))
theorem sz25 : ∀ n, (Kd.upto F25 3 [25, 66] n).sz = 3 := Kd.upto_sz (fun _ => rfl)
def k25 : Kd S25 := Kd.fix F25 3 [25, 66] sz25 (Kd.upto_E sub25)
theorem k25_open {w : World} {x : S25} {cs : List Value} (h : k25.K w x cs) : ∃ A1 c1 A2 c2, cs = [.int .i64 x.f0, .slice A1 x.f1.length c1, .slice A2 x.f2.length c2] ∧ x.f1.length ≤ c1 ∧ k66.C w A1 x.f1.length x.f1 ∧ x.f2.length ≤ c2 ∧ k25.C w A2 x.f2.length x.f2 := by
  obtain ⟨n, h⟩ := h
  cases n with
  | zero => exact h.elim
  | succ n =>
    obtain ⟨_, _, rfl, rfl, ⟨_, _, rfl, ⟨A1, c1, rfl, l1, g1⟩, ⟨A2, c2, rfl, l2, g2⟩⟩⟩ := h
    exact ⟨A1, c1, A2, c2, rfl, l1, g1, l2, Kd.fix_C g2⟩
theorem k25_mk (w : World) (x : S25) {A1 : Option Addr} {c1 : Nat} (l1 : x.f1.length ≤ c1) (g1 : k66.C w A1 x.f1.length x.f1) {A2 : Option Addr} {c2 : Nat} (l2 : x.f2.length ≤ c2) (g2 : k25.C w A2 x.f2.length x.f2) : k25.K w x [.int .i64 x.f0, .slice A1 x.f1.length c1, .slice A2 x.f2.length c2] := by
  obtain ⟨n2, q2⟩ := Kd.fix_C_back mono25 g2
  have r2 := Kd.upto_C_le mono25 sz25 (show n2 ≤ n2 by omega) q2
  exact ⟨n2 + 1, ⟨[.int .i64 x.f0], [.slice A1 x.f1.length c1, .slice A2 x.f2.length c2], rfl, rfl, ⟨[.slice A1 x.f1.length c1], [.slice A2 x.f2.length c2], rfl, ⟨A1, c1, rfl, l1, g1⟩, ⟨A2, c2, rfl, l2, r2⟩⟩⟩⟩
theorem k25_mkM (w : World) (base : Nat) (ok : Nat → Prop) (x : S25) {v1 : Value} (g1 : k66.R 66 w base ok v1 x.f1) {v2 : Value} (g2 : k25.R 25 w base ok v2 x.f2) : k25.M w base ok x [.int .i64 x.f0, v1, v2] := by
  obtain ⟨n2, q2⟩ := Kd.fix_R_back mono25 g2
  have r2 := Kd.upto_R_le mono25 sz25 (show n2 ≤ n2 by omega) q2
  exact ⟨n2 + 1, ⟨[.int .i64 x.f0], [v1, v2], rfl, rfl, ⟨[v1], [v2], rfl, ⟨v1, rfl, g1⟩, ⟨v2, rfl, r2⟩⟩⟩⟩
theorem k25_mkF (W : World) (ok : Nat → Prop) (x : S25) {A1 : Option Addr} {c1 : Nat} (l1 : x.f1.length ≤ c1) (g1 : Kd.F k66 W ok A1 x.f1.length x.f1) {A2 : Option Addr} {c2 : Nat} (l2 : x.f2.length ≤ c2) (g2 : Kd.F k25 W ok A2 x.f2.length x.f2) : Kd.FK k25 W ok x [.int .i64 x.f0, .slice A1 x.f1.length c1, .slice A2 x.f2.length c2] := fun W2 hW => k25_mk W2 x l1 (g1 W2 hW) l2 (g2 W2 hW)
def rd_T25 (xs : List S25) (i : Int) : S25 := xs.getD i.toNat z25
theorem at_T25 {w : World} {A : Option Addr} {n : Nat} {xs : List S25} (h : Kd.C k25 w A n xs) (i : Int) (h0 : 0 ≤ i) (h1 : i < n) : ∃ ad A1 c1 A2 c2, A = some ad ∧ w.cell? (ad.add (i.toNat * 3)) = some (.int .i64 (rd_T25 xs i).f0) ∧ w.cell? ⟨(ad.add (i.toNat * 3)).block, (ad.add (i.toNat * 3)).off + 1, none⟩ = some (.slice A1 (rd_T25 xs i).f1.length c1) ∧ w.cell? ⟨(ad.add (i.toNat * 3)).block, (ad.add (i.toNat * 3)).off + 2, none⟩ = some (.slice A2 (rd_T25 xs i).f2.length c2) ∧ (rd_T25 xs i).f1.length ≤ c1 ∧ k66.C w A1 (rd_T25 xs i).f1.length (rd_T25 xs i).f1 ∧ (rd_T25 xs i).f2.length ≤ c2 ∧ k25.C w A2 (rd_T25 xs i).f2.length (rd_T25 xs i).f2 := by
  obtain ⟨ad, c, e, _, hK, hc0⟩ := Kd.C_get h z25 i h0 h1
  have hc : ∀ j u, c[j]? = some u → w.cell? (ad.add (i.toNat * 3 + j)) = some u := hc0
  obtain ⟨A1, c1, A2, c2, rfl, l1, g1, l2, g2⟩ := k25_open hK
  exact ⟨ad, A1, c1, A2, c2, e, hc 0 _ rfl, by rw [← add_field _ _ 1 (by omega)]; exact hc 1 _ rfl, by rw [← add_field _ _ 2 (by omega)]; exact hc 2 _ rfl, l1, g1, l2, g2⟩
abbrev aM := @Aside0.mk
abbrev kA := @Kd.R_alloc
abbrev kN := @Kd.R_drewN
abbrev kD := @Kd.R_drew
abbrev bS := @below_set
abbrev bF := @blk_frozen
end Go.Proofs.Ytlkjfjlmjgkheaa.G
