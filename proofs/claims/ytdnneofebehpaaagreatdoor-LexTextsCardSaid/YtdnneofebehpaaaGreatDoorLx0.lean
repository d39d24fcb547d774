import Derived.Test.YtdnneofebehpaaaGreatDoorProg
import Derived.Below
import Derived.Deep.Draws
import Derived.Deep.AppendLies
import Derived.Maps.AppendAt
import Derived.OwnWalk
import Derived.Laws.BytesArg
import Derived.Laws.MakeOwn
import Derived.Laws.OwnMore
import Derived.Deep.OwnRows
import Derived.Tactics
import Derived.Lib.ConvBytes
import Derived.Laws.Slices
import Derived.WalkKit
import Derived.KernelRfl
import Derived.RowKit3
import Derived.Deep.LoopGhost
import Derived.Deep.QuietTactic
import Derived.BigQuiet
import Derived.WideLaws
import Derived.Deep.DeepCutAuto
import Derived.Deep.CutBlock
import Derived.Deep.RegionHeld3
import Derived.Laws.Rows
import Derived.Lib.AppendStr
import Derived.ArgAppend
import Derived.Laws.IdiomCopy
import Derived.OrdersHeld
import Derived.Laws.BitsLemmas
import Derived.RowKit
import Derived.WalkMore
import Derived.DeepKeys
import Derived.Laws.Cover3
import Derived.WalkSpells
import Derived.Test.YtdnneofebehpaaaGreatDoorShelf
import Derived.Shelf.Strings.SlTrimAscii
import Derived.Test.YtdnneofebehpaaaGreatDoorPlTok
import Derived.Test.YtdnneofebehpaaaGreatDoorPlSt
import Derived.Test.YtdnneofebehpaaaGreatDoorScJ
import Derived.Test.YtdnneofebehpaaaGreatDoorWWords
import Derived.Test.YtdnneofebehpaaaGreatDoorWLast
import Derived.Test.YtdnneofebehpaaaGreatDoorWTab
import Derived.Test.YtdnneofebehpaaaGreatDoorWFour
import Derived.Test.YtdnneofebehpaaaGreatDoorWQPut
import Derived.Test.YtdnneofebehpaaaGreatDoorWApart
import Derived.Test.YtdnneofebehpaaaGreatDoorWArr
import Derived.Test.YtdnneofebehpaaaGreatDoorWZeros
import Derived.Test.YtdnneofebehpaaaGreatDoorWFoot
import Derived.Test.YtdnneofebehpaaaGreatDoorWKept
import Derived.Test.YtdnneofebehpaaaGreatDoorWShare
import Derived.Test.YtdnneofebehpaaaGreatDoorWN
import Derived.Test.YtdnneofebehpaaaGreatDoorWFootNe
import Derived.Test.YtdnneofebehpaaaGreatDoorWAt
import Derived.Test.YtdnneofebehpaaaGreatDoorWEqStruct
import Derived.Test.YtdnneofebehpaaaGreatDoorWRepsOne
import Derived.Test.YtdnneofebehpaaaGreatDoorWInv
import Derived.Test.YtdnneofebehpaaaGreatDoorWInvWords
import Derived.Test.YtdnneofebehpaaaGreatDoorWGuard
import Derived.Test.YtdnneofebehpaaaGreatDoorWNEv
import Derived.Test.YtdnneofebehpaaaGreatDoorWMore
namespace Go.Proofs.YtdnneofebehpaaaGreatDoor.L
open Go.RowKit Go.Proofs.YtdnneofebehpaaaGreatDoorW.PrintWords Go.Proofs.YtdnneofebehpaaaGreatDoorW.PrintLast Go.Proofs.YtdnneofebehpaaaGreatDoorW.PrintMore
attribute [local go_sem] max2_int min2_int max_two min_two max_three min_three max_four min_four
set_option linter.unusedVariables false
set_option linter.unusedSimpArgs false
def errW : Option Int → Value
  | none => .nilIface
  | some c => .iface 0 (.int .i64 c)
theorem errW_none : errW none = .nilIface := rfl
theorem errW_some (c : Int) : errW (some c) = .iface 0 (.int .i64 c) := rfl
def GE (w : World) (g : Nat) : Prop := ∃ ev : Value, w.cell? ⟨g, 0, none⟩ = some ev ∧ (ev = .nilIface ∨ ∃ te pe, ev = .iface te pe)
def GL (w : World) : Prop := (∃ m : Int, w.cell? ⟨2, 0, none⟩ = some (.int .i64 m)) ∧ (∀ c : Nat, c < 256 → w.cell? ⟨0, c, none⟩ = some (.int .u8 (if Lib.isSp (UInt8.ofNat c) then 1 else 0))) ∧ Lib.TabIs Tryz.prog w "internal/strconv.uint64pow10" .u64 Lib.pow10Tab ∧ GE w 4 ∧ GE w 5
theorem GE_below {w w1 : World} {g : Nat} (h : GE w g) (hb : Below w.heap.size w w1) : GE w1 g := by
  obtain ⟨ev, h1, h2⟩ := h
  exact ⟨ev, (hb.cell (World.block_lt_of_cell? w _ h1)).trans h1, h2⟩
theorem GL_below {w w1 : World} (h : GL w) (hb : Below w.heap.size w w1) : GL w1 := by
  obtain ⟨⟨m, h1⟩, h2, h3, h4, h5⟩ := h
  exact ⟨⟨m, (hb.cell (World.block_lt_of_cell? w _ h1)).trans h1⟩, fun c hc => (hb.cell (World.block_lt_of_cell? w _ (h2 c hc))).trans (h2 c hc), Lib.tabBelow_of_tabIs h3 w1 hb, GE_below h4 hb, GE_below h5 hb⟩
theorem strRow {w : World} {e : Nat} (l : List ByteArray) (n : Nat) (hn : n = l.length) (hl : l.length ≤ 140737488355327) : Kd.R Kd.string e (w.alloc (.cells (l.map Value.string).toArray e)) w.heap.size (fun _ => True) (.slice (some ⟨w.heap.size, 0, none⟩) n n) l := by
  subst hn
  refine Kd.R_of_own ?_ (fun _ _ => trivial)
  have := World.ownsRow_lit (base := w.heap.size) (e := e) (size := 1) w (l.map Value.string).toArray l.length (Nat.le_refl _) (by unfold maxLen; omega) (by simp)
  simpa [encs] using this
def ixS (l : List ByteArray) (i : Int) : ByteArray := l.getD i.toNat ⟨#[]⟩
theorem ixS_run {cs : List ByteArray} {kd_ : IntKind} {i : Int} (h0 : 0 ≤ i) (h1 : i < cs.length) {T : Nat} (hT : Tryz.prog.underlying T = some (.array cs.length 9)) (W : World) : (Instr.index T (.agg (cs.map Value.string).toArray) (.int kd_ i)).run Tryz.prog W = .ok (.string (ixS cs i)) W := by
  have hlt : i.toNat < cs.length := by omega
  unfold Instr.index
  have hu := run_underlying hT
  have hs := Tryz.sizeOf9
  have ha := Tryz.isAgg9
  go_simp
  simp [ixS, List.getD_eq_getElem?_getD, List.getElem?_eq_getElem hlt]
abbrev bkN := @blk_drewN
abbrev bkD := @blk_drew
abbrev bkA := @blk_alloc
abbrev blA := @below_alloc
abbrev blN := @pw_below_drewN
abbrev blD := @below_drew1
theorem info9 : (Tryz.prog.info? 9).map (fun i => (i.zero, i.size, i.bytes)) = some (some (.string ⟨#[]⟩), 1, 16) := by kernel_rfl
theorem info52 : (Tryz.prog.info? 52).map (fun i => (i.zero, i.size, i.bytes)) = some (some (.slice none 0 0), 1, 24) := by kernel_rfl
theorem info54 : (Tryz.prog.info? 54).map (fun i => (i.zero, i.size, i.bytes)) = some (some (.agg #[(.int .u8 0), (.string ⟨#[]⟩)]), 2, 24) := by kernel_rfl
def rd_L5 (xs : List (List ByteArray)) (i : Int) : (List ByteArray) := xs.getD i.toNat ([] : List ByteArray)
theorem at_L5 {w : World} {A : Option Addr} {n : Nat} {xs : List (List ByteArray)} (h : Kd.C (Kd.slice 9 Kd.string) w A n xs) (i : Int) (h0 : 0 ≤ i) (h1 : i < n) : ∃ ad A0 c0, A = some ad ∧ w.cell? (ad.add i.toNat) = some (.slice A0 (rd_L5 xs i).length c0) ∧ (rd_L5 xs i).length ≤ c0 ∧ Kd.string.C w A0 (rd_L5 xs i).length (rd_L5 xs i) := by
  obtain ⟨ad, c, e, _, hK, hc0⟩ := Kd.C_get h ([] : List ByteArray) i h0 h1
  have hc : ∀ j u, c[j]? = some u → w.cell? (ad.add (i.toNat * 1 + j)) = some u := hc0
  obtain ⟨A0, c0, rfl, l0, g0⟩ := hK
  exact ⟨ad, A0, c0, e, by have hq := hc 0 _ rfl; rwa [Nat.mul_one, Nat.add_zero] at hq, l0, g0⟩
structure S54 where
  f0 : Int
  f1 : ByteArray
def z54 : S54 := ⟨(0 : Int), (⟨#[]⟩ : ByteArray)⟩
def k54 : Kd S54 := Kd.iso (Kd.pair (Kd.int .u8) Kd.string) (fun x : S54 => (x.f0, x.f1))
theorem k54_open {w : World} {x : S54} {cs : List Value} (h : k54.K w x cs) : cs = [.int .u8 x.f0, .string x.f1] := by
  obtain ⟨_, _, rfl, rfl, rfl⟩ := h
  exact rfl
theorem k54_mkM (w : World) (base : Nat) (ok : Nat → Prop) (x : S54)  : k54.M w base ok x [.int .u8 x.f0, .string x.f1] := ⟨[.int .u8 x.f0], [.string x.f1], rfl, rfl, rfl⟩
def rd_T54 (xs : List S54) (i : Int) : S54 := xs.getD i.toNat z54
theorem at_T54 {w : World} {A : Option Addr} {n : Nat} {xs : List S54} (h : Kd.C k54 w A n xs) (i : Int) (h0 : 0 ≤ i) (h1 : i < n) : ∃ ad , A = some ad ∧ w.cell? (ad.add (i.toNat * 2)) = some (.int .u8 (rd_T54 xs i).f0) ∧ w.cell? ⟨(ad.add (i.toNat * 2)).block, (ad.add (i.toNat * 2)).off + 1, none⟩ = some (.string (rd_T54 xs i).f1) := by
  obtain ⟨ad, c, e, _, hK, hc0⟩ := Kd.C_get h z54 i h0 h1
  have hc : ∀ j u, c[j]? = some u → w.cell? (ad.add (i.toNat * 2 + j)) = some u := hc0
  obtain rfl := k54_open hK
  exact ⟨ad, e, hc 0 _ rfl, by rw [← add_field _ _ 1 (by omega)]; exact hc 1 _ rfl⟩
structure S26 where
  f0 : Int
  f1 : Int
def k26 : Kd S26 := Kd.iso (Kd.pair (Kd.int .u32) (Kd.int .u32)) (fun x : S26 => (x.f0, x.f1))
theorem k26_open {w : World} {x : S26} {cs : List Value} (h : k26.K w x cs) : cs = [.int .u32 x.f0, .int .u32 x.f1] := by
  obtain ⟨_, _, rfl, rfl, rfl⟩ := h
  exact rfl
end Go.Proofs.YtdnneofebehpaaaGreatDoor.L
