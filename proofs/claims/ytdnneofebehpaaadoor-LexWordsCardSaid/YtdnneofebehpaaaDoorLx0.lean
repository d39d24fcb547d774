import Derived.Test.YtdnneofebehpaaaDoorProg
import Derived.Below
import Derived.Deep.Draws
import Derived.Deep.AppendLies
import Derived.Maps.AppendAt
import Derived.OwnWalk
import Derived.Laws.BytesArg
import Derived.Laws.MakeOwn
import Derived.Laws.OwnMore
import Derived.Deep.OwnRows
import Derived.Tactics
import Derived.Lib.ConvBytes
import Derived.Laws.Slices
import Derived.WalkKit
import Derived.KernelRfl
import Derived.RowKit3
import Derived.Deep.LoopGhost
import Derived.Deep.QuietTactic
import Derived.BigQuiet
import Derived.WideLaws
import Derived.Deep.DeepCutAuto
import Derived.Deep.CutBlock
import Derived.Deep.RegionHeld3
import Derived.Laws.Rows
import Derived.Lib.AppendStr
import Derived.ArgAppend
import Derived.Laws.IdiomCopy
import Derived.OrdersHeld
import Derived.Laws.BitsLemmas
import Derived.RowKit
import Derived.WalkMore
import Derived.DeepKeys
import Derived.Laws.Cover3
import Derived.WalkSpells
import Derived.Test.YtdnneofebehpaaaDoorShelf
import Derived.Shelf.Strings.SlTrimAscii
import Derived.Test.YtdnneofebehpaaaDoorPlTok
import Derived.Test.YtdnneofebehpaaaDoorPlSt
import Derived.Test.YtdnneofebehpaaaDoorScJ
import Derived.Test.YtdnneofebehpaaaDoorWWords
import Derived.Test.YtdnneofebehpaaaDoorWLast
import Derived.Test.YtdnneofebehpaaaDoorWTab
import Derived.Test.YtdnneofebehpaaaDoorWFour
import Derived.Test.YtdnneofebehpaaaDoorWQPut
import Derived.Test.YtdnneofebehpaaaDoorWApart
import Derived.Test.YtdnneofebehpaaaDoorWArr
import Derived.Test.YtdnneofebehpaaaDoorWZeros
import Derived.Test.YtdnneofebehpaaaDoorWFoot
import Derived.Test.YtdnneofebehpaaaDoorWKept
import Derived.Test.YtdnneofebehpaaaDoorWShare
import Derived.Test.YtdnneofebehpaaaDoorWN
import Derived.Test.YtdnneofebehpaaaDoorWFootNe
import Derived.Test.YtdnneofebehpaaaDoorWAt
import Derived.Test.YtdnneofebehpaaaDoorWEqStruct
import Derived.Test.YtdnneofebehpaaaDoorWRepsOne
import Derived.Test.YtdnneofebehpaaaDoorWInv
import Derived.Test.YtdnneofebehpaaaDoorWInvWords
import Derived.Test.YtdnneofebehpaaaDoorWGuard
import Derived.Test.YtdnneofebehpaaaDoorWNEv
import Derived.Test.YtdnneofebehpaaaDoorWMore
namespace Go.Proofs.YtdnneofebehpaaaDoor.L
open Go.RowKit Go.Proofs.YtdnneofebehpaaaDoorW.PrintWords Go.Proofs.YtdnneofebehpaaaDoorW.PrintLast Go.Proofs.YtdnneofebehpaaaDoorW.PrintMore
attribute [local go_sem] max2_int min2_int max_two min_two max_three min_three max_four min_four
set_option linter.unusedVariables false
set_option linter.unusedSimpArgs false
def errW : Option Int → Value
  | none => .nilIface
  | some c => .iface 0 (.int .i64 c)
theorem errW_none : errW none = .nilIface := rfl
theorem errW_some (c : Int) : errW (some c) = .iface 0 (.int .i64 c) := rfl
def GE (w : World) (g : Nat) : Prop := ∃ ev : Value, w.cell? ⟨g, 0, none⟩ = some ev ∧ (ev = .nilIface ∨ ∃ te pe, ev = .iface te pe)
def GL (w : World) : Prop := (∃ m : Int, w.cell? ⟨2, 0, none⟩ = some (.int .i64 m)) ∧ (∀ c : Nat, c < 256 → w.cell? ⟨0, c, none⟩ = some (.int .u8 (if Lib.isSp (UInt8.ofNat c) then 1 else 0))) ∧ Lib.TabIs Tryd.prog w "internal/strconv.uint64pow10" .u64 Lib.pow10Tab ∧ GE w 3 ∧ GE w 4
theorem GE_below {w w1 : World} {g : Nat} (h : GE w g) (hb : Below w.heap.size w w1) : GE w1 g := by
  obtain ⟨ev, h1, h2⟩ := h
  exact ⟨ev, (hb.cell (World.block_lt_of_cell? w _ h1)).trans h1, h2⟩
theorem GL_below {w w1 : World} (h : GL w) (hb : Below w.heap.size w w1) : GL w1 := by
  obtain ⟨⟨m, h1⟩, h2, h3, h4, h5⟩ := h
  exact ⟨⟨m, (hb.cell (World.block_lt_of_cell? w _ h1)).trans h1⟩, fun c hc => (hb.cell (World.block_lt_of_cell? w _ (h2 c hc))).trans (h2 c hc), Lib.tabBelow_of_tabIs h3 w1 hb, GE_below h4 hb, GE_below h5 hb⟩
theorem strRow {w : World} {e : Nat} (l : List ByteArray) (n : Nat) (hn : n = l.length) (hl : l.length ≤ 140737488355327) : Kd.R Kd.string e (w.alloc (.cells (l.map Value.string).toArray e)) w.heap.size (fun _ => True) (.slice (some ⟨w.heap.size, 0, none⟩) n n) l := by
  subst hn
  refine Kd.R_of_own ?_ (fun _ _ => trivial)
  have := World.ownsRow_lit (base := w.heap.size) (e := e) (size := 1) w (l.map Value.string).toArray l.length (Nat.le_refl _) (by unfold maxLen; omega) (by simp)
  simpa [encs] using this
theorem info9 : (Tryd.prog.info? 9).map (fun i => (i.zero, i.size, i.bytes)) = some (some (.string ⟨#[]⟩), 1, 16) := by kernel_rfl
theorem info30 : (Tryd.prog.info? 30).map (fun i => (i.zero, i.size, i.bytes)) = some (some (.slice none 0 0), 1, 24) := by kernel_rfl
theorem info40 : (Tryd.prog.info? 40).map (fun i => (i.zero, i.size, i.bytes)) = some (some (.agg #[(.int .u8 0), (.string ⟨#[]⟩)]), 2, 24) := by kernel_rfl
def rd_L1 (xs : List (List ByteArray)) (i : Int) : (List ByteArray) := xs.getD i.toNat ([] : List ByteArray)
theorem at_L1 {w : World} {A : Option Addr} {n : Nat} {xs : List (List ByteArray)} (h : Kd.C (Kd.slice 9 Kd.string) w A n xs) (i : Int) (h0 : 0 ≤ i) (h1 : i < n) : ∃ ad A0 c0, A = some ad ∧ w.cell? (ad.add i.toNat) = some (.slice A0 (rd_L1 xs i).length c0) ∧ (rd_L1 xs i).length ≤ c0 ∧ Kd.string.C w A0 (rd_L1 xs i).length (rd_L1 xs i) := by
  obtain ⟨ad, c, e, _, hK, hc0⟩ := Kd.C_get h ([] : List ByteArray) i h0 h1
  have hc : ∀ j u, c[j]? = some u → w.cell? (ad.add (i.toNat * 1 + j)) = some u := hc0
  obtain ⟨A0, c0, rfl, l0, g0⟩ := hK
  exact ⟨ad, A0, c0, e, by have hq := hc 0 _ rfl; rwa [Nat.mul_one, Nat.add_zero] at hq, l0, g0⟩
structure S40 where
  f0 : Int
  f1 : ByteArray
def z40 : S40 := ⟨(0 : Int), (⟨#[]⟩ : ByteArray)⟩
def k40 : Kd S40 := Kd.iso (Kd.pair (Kd.int .u8) Kd.string) (fun x : S40 => (x.f0, x.f1))
theorem k40_open {w : World} {x : S40} {cs : List Value} (h : k40.K w x cs) : cs = [.int .u8 x.f0, .string x.f1] := by
  obtain ⟨_, _, rfl, rfl, rfl⟩ := h
  exact rfl
theorem k40_mkM (w : World) (base : Nat) (ok : Nat → Prop) (x : S40)  : k40.M w base ok x [.int .u8 x.f0, .string x.f1] := ⟨[.int .u8 x.f0], [.string x.f1], rfl, rfl, rfl⟩
def rd_T40 (xs : List S40) (i : Int) : S40 := xs.getD i.toNat z40
theorem at_T40 {w : World} {A : Option Addr} {n : Nat} {xs : List S40} (h : Kd.C k40 w A n xs) (i : Int) (h0 : 0 ≤ i) (h1 : i < n) : ∃ ad , A = some ad ∧ w.cell? (ad.add (i.toNat * 2)) = some (.int .u8 (rd_T40 xs i).f0) ∧ w.cell? ⟨(ad.add (i.toNat * 2)).block, (ad.add (i.toNat * 2)).off + 1, none⟩ = some (.string (rd_T40 xs i).f1) := by
  obtain ⟨ad, c, e, _, hK, hc0⟩ := Kd.C_get h z40 i h0 h1
  have hc : ∀ j u, c[j]? = some u → w.cell? (ad.add (i.toNat * 2 + j)) = some u := hc0
  obtain rfl := k40_open hK
  exact ⟨ad, e, hc 0 _ rfl, by rw [← add_field _ _ 1 (by omega)]; exact hc 1 _ rfl⟩
structure S39 where
  f0 : Int
  f1 : ByteArray
def z39 : S39 := ⟨(0 : Int), (⟨#[]⟩ : ByteArray)⟩
end Go.Proofs.YtdnneofebehpaaaDoor.L
