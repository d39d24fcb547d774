/-
  NARROWER THAN 'FOR EVERY INPUT', by the rows' own cells (each row's printed sentence says how): PatMatches: loops · PatSizes: loops · PatJoins: loops · PatStars: loops · CondHolds: loops · CondLists: loops · CondDenies: loops · CondTwice: loops · CondOwn: loops.
  DERIVED. THE GIVEN ROWS OF THIS SEAT. 10 by the template 'for every input the law returns true; each argument reads behind the call as it read before'; 0 by the template 'total and deterministic' (their statements: YtlkjfjlmjgkheaaTotals.lean).
  GIVEN WITH THE SEED: the statements are not yours to turn. If you find one false, say at which input.
  Laid BY PROGRAM, IN A SANDBOX (cutbox-rows.mjs): the forced cells as the released guide's own fill.sh prints them over the translation 0fc8a0d9d1510fb4… (all of the seat's roots in one cut). By AI agents, Wed Nov 11 2026. No macro, syntax, notation, axiom, sorry.
-/
import Derived.Test.YtlkjfjlmjgkheaaChecked
import GoSem.Claim
import GoSem.ClaimJoined
import GoSem.ClaimMapViews
import Derived.JoinedTies
import Derived.KernelRfl
namespace Go.Proofs.Ytlkjfjlmjgkheaa
/- THE CELL 'sum', in the pinned program and in every row, IS THE sha256 OF THE DUMP (.gsa) THAT YtlkjfjlmjgkheaaProg.lean LOADS. Nothing in Lean hashes anything: it is a label: what it is worth is what the hold of that sum in a sandbox is worth. -/
noncomputable def Try.pinned : Pinned := { name := "ytlkjfjlmjgkheaa", sum := "0fc8a0d9d1510fb4046259ae5e529dd91be92c91508e7b14db97b2e26e059a6e", checked := Try.checked }
namespace Rows
def none {H : Type} : Left H := { results := [], args := [] }

/-- 'dragomanlaw05.PatMatches': WHATEVER THE INPUT: true; the input reads as it did. -/
def patMatchesSpec : ChangeSpec := { name := "patMatches", fn := fun _ => fun
  | [d1, d2] => { results := [.lit (.bool true)], args := [d1, d2] }
  | _ => none }
def patMatchesRow : OpenClaim := { program := "ytlkjfjlmjgkheaa", sum := "0fc8a0d9d1510fb4046259ae5e529dd91be92c91508e7b14db97b2e26e059a6e", func := "dragoman/dragomanlaw05.PatMatches", spec := "patMatches", unfollowed := true, recurses := true, loops := true, apart := false }
def PatMatchesSaid : Prop := patMatchesRow.holds Try.pinned (OpenSpec.ofChange patMatchesSpec)

/-- ITS FALSE NEIGHBOUR: 'it returns false'. Refute it at one input. -/
def patMatchesWrong : ChangeSpec := { name := "patMatches", fn := fun _ => fun
  | [d1, d2] => { results := [.lit (.bool false)], args := [d1, d2] }
  | _ => none }
def PatMatchesWrongFalsely : Prop := patMatchesRow.holds Try.pinned (OpenSpec.ofChange patMatchesWrong)

/-- 'dragomanlaw05.PatSizes': WHATEVER THE INPUT: true; the input reads as it did. -/
def patSizesSpec : ChangeSpec := { name := "patSizes", fn := fun _ => fun
  | [d] => { results := [.lit (.bool true)], args := [d] }
  | _ => none }
def patSizesRow : OpenClaim := { program := "ytlkjfjlmjgkheaa", sum := "0fc8a0d9d1510fb4046259ae5e529dd91be92c91508e7b14db97b2e26e059a6e", func := "dragoman/dragomanlaw05.PatSizes", spec := "patSizes", unfollowed := true, recurses := true, loops := true, apart := false }
def PatSizesSaid : Prop := patSizesRow.holds Try.pinned (OpenSpec.ofChange patSizesSpec)

/-- ITS FALSE NEIGHBOUR: 'it returns false'. Refute it at one input. -/
def patSizesWrong : ChangeSpec := { name := "patSizes", fn := fun _ => fun
  | [d] => { results := [.lit (.bool false)], args := [d] }
  | _ => none }
def PatSizesWrongFalsely : Prop := patSizesRow.holds Try.pinned (OpenSpec.ofChange patSizesWrong)

/-- 'dragomanlaw05.PatJoins': WHATEVER THE INPUT: true; the input reads as it did. -/
def patJoinsSpec : ChangeSpec := { name := "patJoins", fn := fun _ => fun
  | [d1, d2, d3] => { results := [.lit (.bool true)], args := [d1, d2, d3] }
  | _ => none }
def patJoinsRow : OpenClaim := { program := "ytlkjfjlmjgkheaa", sum := "0fc8a0d9d1510fb4046259ae5e529dd91be92c91508e7b14db97b2e26e059a6e", func := "dragoman/dragomanlaw05.PatJoins", spec := "patJoins", unfollowed := true, recurses := true, loops := true, apart := false }
def PatJoinsSaid : Prop := patJoinsRow.holds Try.pinned (OpenSpec.ofChange patJoinsSpec)

/-- ITS FALSE NEIGHBOUR: 'it returns false'. Refute it at one input. -/
def patJoinsWrong : ChangeSpec := { name := "patJoins", fn := fun _ => fun
  | [d1, d2, d3] => { results := [.lit (.bool false)], args := [d1, d2, d3] }
  | _ => none }
def PatJoinsWrongFalsely : Prop := patJoinsRow.holds Try.pinned (OpenSpec.ofChange patJoinsWrong)

/-- 'dragomanlaw05.PatStars': WHATEVER THE INPUT: true; the input reads as it did. -/
def patStarsSpec : ChangeSpec := { name := "patStars", fn := fun _ => fun
  | [d1, d2] => { results := [.lit (.bool true)], args := [d1, d2] }
  | _ => none }
def patStarsRow : OpenClaim := { program := "ytlkjfjlmjgkheaa", sum := "0fc8a0d9d1510fb4046259ae5e529dd91be92c91508e7b14db97b2e26e059a6e", func := "dragoman/dragomanlaw05.PatStars", spec := "patStars", unfollowed := true, recurses := true, loops := true, apart := false }
def PatStarsSaid : Prop := patStarsRow.holds Try.pinned (OpenSpec.ofChange patStarsSpec)

/-- ITS FALSE NEIGHBOUR: 'it returns false'. Refute it at one input. -/
def patStarsWrong : ChangeSpec := { name := "patStars", fn := fun _ => fun
  | [d1, d2] => { results := [.lit (.bool false)], args := [d1, d2] }
  | _ => none }
def PatStarsWrongFalsely : Prop := patStarsRow.holds Try.pinned (OpenSpec.ofChange patStarsWrong)

/-- 'dragomanlaw05.PatCounts': WHATEVER THE INPUT: true; the input reads as it did. -/
def patCountsSpec : ChangeSpec := { name := "patCounts", fn := fun _ => fun
  | [d1, d2, d3] => { results := [.lit (.bool true)], args := [d1, d2, d3] }
  | _ => none }
def patCountsRow : OpenClaim := { program := "ytlkjfjlmjgkheaa", sum := "0fc8a0d9d1510fb4046259ae5e529dd91be92c91508e7b14db97b2e26e059a6e", func := "dragoman/dragomanlaw05.PatCounts", spec := "patCounts", unfollowed := true, recurses := true, apart := false }
def PatCountsSaid : Prop := patCountsRow.holds Try.pinned (OpenSpec.ofChange patCountsSpec)

/-- ITS FALSE NEIGHBOUR: 'it returns false'. Refute it at one input. -/
def patCountsWrong : ChangeSpec := { name := "patCounts", fn := fun _ => fun
  | [d1, d2, d3] => { results := [.lit (.bool false)], args := [d1, d2, d3] }
  | _ => none }
def PatCountsWrongFalsely : Prop := patCountsRow.holds Try.pinned (OpenSpec.ofChange patCountsWrong)

/-- 'dragomanlaw11.CondHolds': WHATEVER THE INPUT: true; the input reads as it did. -/
def condHoldsSpec : ChangeSpec := { name := "condHolds", fn := fun _ => fun
  | [d1, d2] => { results := [.lit (.bool true)], args := [d1, d2] }
  | _ => none }
def condHoldsRow : OpenClaim := { program := "ytlkjfjlmjgkheaa", sum := "0fc8a0d9d1510fb4046259ae5e529dd91be92c91508e7b14db97b2e26e059a6e", func := "dragoman/dragomanlaw11.CondHolds", spec := "condHolds", unfollowed := true, recurses := true, loops := true, apart := false }
def CondHoldsSaid : Prop := condHoldsRow.holds Try.pinned (OpenSpec.ofChange condHoldsSpec)

/-- ITS FALSE NEIGHBOUR: 'it returns false'. Refute it at one input. -/
def condHoldsWrong : ChangeSpec := { name := "condHolds", fn := fun _ => fun
  | [d1, d2] => { results := [.lit (.bool false)], args := [d1, d2] }
  | _ => none }
def CondHoldsWrongFalsely : Prop := condHoldsRow.holds Try.pinned (OpenSpec.ofChange condHoldsWrong)

/-- 'dragomanlaw11.CondLists': WHATEVER THE INPUT: true; the input reads as it did. -/
def condListsSpec : ChangeSpec := { name := "condLists", fn := fun _ => fun
  | [d1, d2] => { results := [.lit (.bool true)], args := [d1, d2] }
  | _ => none }
def condListsRow : OpenClaim := { program := "ytlkjfjlmjgkheaa", sum := "0fc8a0d9d1510fb4046259ae5e529dd91be92c91508e7b14db97b2e26e059a6e", func := "dragoman/dragomanlaw11.CondLists", spec := "condLists", unfollowed := true, recurses := true, loops := true, apart := false }
def CondListsSaid : Prop := condListsRow.holds Try.pinned (OpenSpec.ofChange condListsSpec)

/-- ITS FALSE NEIGHBOUR: 'it returns false'. Refute it at one input. -/
def condListsWrong : ChangeSpec := { name := "condLists", fn := fun _ => fun
  | [d1, d2] => { results := [.lit (.bool false)], args := [d1, d2] }
  | _ => none }
def CondListsWrongFalsely : Prop := condListsRow.holds Try.pinned (OpenSpec.ofChange condListsWrong)

/-- 'dragomanlaw11.CondDenies': WHATEVER THE INPUT: true; the input reads as it did. -/
def condDeniesSpec : ChangeSpec := { name := "condDenies", fn := fun _ => fun
  | [d1, d2] => { results := [.lit (.bool true)], args := [d1, d2] }
  | _ => none }
def condDeniesRow : OpenClaim := { program := "ytlkjfjlmjgkheaa", sum := "0fc8a0d9d1510fb4046259ae5e529dd91be92c91508e7b14db97b2e26e059a6e", func := "dragoman/dragomanlaw11.CondDenies", spec := "condDenies", unfollowed := true, recurses := true, loops := true, apart := false }
def CondDeniesSaid : Prop := condDeniesRow.holds Try.pinned (OpenSpec.ofChange condDeniesSpec)

/-- ITS FALSE NEIGHBOUR: 'it returns false'. Refute it at one input. -/
def condDeniesWrong : ChangeSpec := { name := "condDenies", fn := fun _ => fun
  | [d1, d2] => { results := [.lit (.bool false)], args := [d1, d2] }
  | _ => none }
def CondDeniesWrongFalsely : Prop := condDeniesRow.holds Try.pinned (OpenSpec.ofChange condDeniesWrong)

/-- 'dragomanlaw11.CondTwice': WHATEVER THE INPUT: true; the input reads as it did. -/
def condTwiceSpec : ChangeSpec := { name := "condTwice", fn := fun _ => fun
  | [d1, d2, d3] => { results := [.lit (.bool true)], args := [d1, d2, d3] }
  | _ => none }
def condTwiceRow : OpenClaim := { program := "ytlkjfjlmjgkheaa", sum := "0fc8a0d9d1510fb4046259ae5e529dd91be92c91508e7b14db97b2e26e059a6e", func := "dragoman/dragomanlaw11.CondTwice", spec := "condTwice", unfollowed := true, recurses := true, loops := true, apart := false }
def CondTwiceSaid : Prop := condTwiceRow.holds Try.pinned (OpenSpec.ofChange condTwiceSpec)

/-- ITS FALSE NEIGHBOUR: 'it returns false'. Refute it at one input. -/
def condTwiceWrong : ChangeSpec := { name := "condTwice", fn := fun _ => fun
  | [d1, d2, d3] => { results := [.lit (.bool false)], args := [d1, d2, d3] }
  | _ => none }
def CondTwiceWrongFalsely : Prop := condTwiceRow.holds Try.pinned (OpenSpec.ofChange condTwiceWrong)

/-- 'dragomanlaw11.CondOwn': WHATEVER THE INPUT: true; the input reads as it did. -/
def condOwnSpec : ChangeSpec := { name := "condOwn", fn := fun _ => fun
  | [d1, d2, d3] => { results := [.lit (.bool true)], args := [d1, d2, d3] }
  | _ => none }
def condOwnRow : OpenClaim := { program := "ytlkjfjlmjgkheaa", sum := "0fc8a0d9d1510fb4046259ae5e529dd91be92c91508e7b14db97b2e26e059a6e", func := "dragoman/dragomanlaw11.CondOwn", spec := "condOwn", unfollowed := true, recurses := true, loops := true, apart := false }
def CondOwnSaid : Prop := condOwnRow.holds Try.pinned (OpenSpec.ofChange condOwnSpec)

/-- ITS FALSE NEIGHBOUR: 'it returns false'. Refute it at one input. -/
def condOwnWrong : ChangeSpec := { name := "condOwn", fn := fun _ => fun
  | [d1, d2, d3] => { results := [.lit (.bool false)], args := [d1, d2, d3] }
  | _ => none }
def CondOwnWrongFalsely : Prop := condOwnRow.holds Try.pinned (OpenSpec.ofChange condOwnWrong)

/- THE SECOND FORM. 'bulk': how many values and letters a reading holds, each counted each time it is reached (what is shared counts as often as it is met; a slice's spare places count too). A statement '..UptoSaid' is the law's where the arguments, and the package variables that the reading takes, are together of bulk at most 1048576: NARROWER than '..Said'. Prove '..Said' where nothing that the law and all that it calls make is longer than what came in: it says more and counts as full. Else prove '..UptoSaid'. A law counts once. -/
mutual
def uptoBulk {H : Type} : DataW H → Nat
  | .lit (.string bytes) => bytes.length + 1
  | .lit _ => 1
  | .nil => 1
  | .ptr d => uptoBulk d + 1
  | .slice elems spare => uptoBulkAll elems + uptoBulkAll spare + 1
  | .agg parts => uptoBulkAll parts + 1
  | .iface _ d => uptoBulk d + 1
  | .map entries => uptoBulkEntries entries + 1
  | .held _ => 1
def uptoBulkAll {H : Type} : List (DataW H) → Nat
  | [] => 0
  | d :: r => uptoBulk d + uptoBulkAll r
def uptoBulkEntries {H : Type} : List (Lit × DataW H) → Nat
  | [] => 0
  | x :: r => uptoBulkEntry x + uptoBulkEntries r
def uptoBulkEntry {H : Type} : Lit × DataW H → Nat
  | (.string bytes, d) => bytes.length + uptoBulk d + 1
  | (_, d) => uptoBulk d + 1
 end
def uptoSmall : (H : Type) → List (DataW H) → Bool := fun _ ds => decide (uptoBulkAll ds ≤ 1048576)
def OpenSpec.upto (s : _root_.Go.ChangeSpec) : _root_.Go.OpenSpec := { _root_.Go.OpenSpec.ofChange s with cond := some uptoSmall }

/-- 'dragomanlaw05.PatMatches', WHERE WHAT IT READS IS OF BULK AT MOST 1048576: true; the input reads as it did. -/
def patMatchesUptoRow : OpenClaim := { program := "ytlkjfjlmjgkheaa", sum := "0fc8a0d9d1510fb4046259ae5e529dd91be92c91508e7b14db97b2e26e059a6e", func := "dragoman/dragomanlaw05.PatMatches", spec := "patMatches", unfollowed := true, recurses := true, loops := true, apart := false, narrowed := true }
def PatMatchesUptoSaid : Prop := patMatchesUptoRow.holds Try.pinned (OpenSpec.upto patMatchesSpec)

/-- 'dragomanlaw05.PatSizes', WHERE WHAT IT READS IS OF BULK AT MOST 1048576: true; the input reads as it did. -/
def patSizesUptoRow : OpenClaim := { program := "ytlkjfjlmjgkheaa", sum := "0fc8a0d9d1510fb4046259ae5e529dd91be92c91508e7b14db97b2e26e059a6e", func := "dragoman/dragomanlaw05.PatSizes", spec := "patSizes", unfollowed := true, recurses := true, loops := true, apart := false, narrowed := true }
def PatSizesUptoSaid : Prop := patSizesUptoRow.holds Try.pinned (OpenSpec.upto patSizesSpec)

/-- 'dragomanlaw05.PatJoins', WHERE WHAT IT READS IS OF BULK AT MOST 1048576: true; the input reads as it did. -/
def patJoinsUptoRow : OpenClaim := { program := "ytlkjfjlmjgkheaa", sum := "0fc8a0d9d1510fb4046259ae5e529dd91be92c91508e7b14db97b2e26e059a6e", func := "dragoman/dragomanlaw05.PatJoins", spec := "patJoins", unfollowed := true, recurses := true, loops := true, apart := false, narrowed := true }
def PatJoinsUptoSaid : Prop := patJoinsUptoRow.holds Try.pinned (OpenSpec.upto patJoinsSpec)

/-- 'dragomanlaw05.PatStars', WHERE WHAT IT READS IS OF BULK AT MOST 1048576: true; the input reads as it did. -/
def patStarsUptoRow : OpenClaim := { program := "ytlkjfjlmjgkheaa", sum := "0fc8a0d9d1510fb4046259ae5e529dd91be92c91508e7b14db97b2e26e059a6e", func := "dragoman/dragomanlaw05.PatStars", spec := "patStars", unfollowed := true, recurses := true, loops := true, apart := false, narrowed := true }
def PatStarsUptoSaid : Prop := patStarsUptoRow.holds Try.pinned (OpenSpec.upto patStarsSpec)

/-- 'dragomanlaw05.PatCounts', WHERE WHAT IT READS IS OF BULK AT MOST 1048576: true; the input reads as it did. -/
def patCountsUptoRow : OpenClaim := { program := "ytlkjfjlmjgkheaa", sum := "0fc8a0d9d1510fb4046259ae5e529dd91be92c91508e7b14db97b2e26e059a6e", func := "dragoman/dragomanlaw05.PatCounts", spec := "patCounts", unfollowed := true, recurses := true, apart := false, narrowed := true }
def PatCountsUptoSaid : Prop := patCountsUptoRow.holds Try.pinned (OpenSpec.upto patCountsSpec)

/-- 'dragomanlaw11.CondHolds', WHERE WHAT IT READS IS OF BULK AT MOST 1048576: true; the input reads as it did. -/
def condHoldsUptoRow : OpenClaim := { program := "ytlkjfjlmjgkheaa", sum := "0fc8a0d9d1510fb4046259ae5e529dd91be92c91508e7b14db97b2e26e059a6e", func := "dragoman/dragomanlaw11.CondHolds", spec := "condHolds", unfollowed := true, recurses := true, loops := true, apart := false, narrowed := true }
def CondHoldsUptoSaid : Prop := condHoldsUptoRow.holds Try.pinned (OpenSpec.upto condHoldsSpec)

/-- 'dragomanlaw11.CondLists', WHERE WHAT IT READS IS OF BULK AT MOST 1048576: true; the input reads as it did. -/
def condListsUptoRow : OpenClaim := { program := "ytlkjfjlmjgkheaa", sum := "0fc8a0d9d1510fb4046259ae5e529dd91be92c91508e7b14db97b2e26e059a6e", func := "dragoman/dragomanlaw11.CondLists", spec := "condLists", unfollowed := true, recurses := true, loops := true, apart := false, narrowed := true }
def CondListsUptoSaid : Prop := condListsUptoRow.holds Try.pinned (OpenSpec.upto condListsSpec)

/-- 'dragomanlaw11.CondDenies', WHERE WHAT IT READS IS OF BULK AT MOST 1048576: true; the input reads as it did. -/
def condDeniesUptoRow : OpenClaim := { program := "ytlkjfjlmjgkheaa", sum := "0fc8a0d9d1510fb4046259ae5e529dd91be92c91508e7b14db97b2e26e059a6e", func := "dragoman/dragomanlaw11.CondDenies", spec := "condDenies", unfollowed := true, recurses := true, loops := true, apart := false, narrowed := true }
def CondDeniesUptoSaid : Prop := condDeniesUptoRow.holds Try.pinned (OpenSpec.upto condDeniesSpec)

/-- 'dragomanlaw11.CondTwice', WHERE WHAT IT READS IS OF BULK AT MOST 1048576: true; the input reads as it did. -/
def condTwiceUptoRow : OpenClaim := { program := "ytlkjfjlmjgkheaa", sum := "0fc8a0d9d1510fb4046259ae5e529dd91be92c91508e7b14db97b2e26e059a6e", func := "dragoman/dragomanlaw11.CondTwice", spec := "condTwice", unfollowed := true, recurses := true, loops := true, apart := false, narrowed := true }
def CondTwiceUptoSaid : Prop := condTwiceUptoRow.holds Try.pinned (OpenSpec.upto condTwiceSpec)

/-- 'dragomanlaw11.CondOwn', WHERE WHAT IT READS IS OF BULK AT MOST 1048576: true; the input reads as it did. -/
def condOwnUptoRow : OpenClaim := { program := "ytlkjfjlmjgkheaa", sum := "0fc8a0d9d1510fb4046259ae5e529dd91be92c91508e7b14db97b2e26e059a6e", func := "dragoman/dragomanlaw11.CondOwn", spec := "condOwn", unfollowed := true, recurses := true, loops := true, apart := false, narrowed := true }
def CondOwnUptoSaid : Prop := condOwnUptoRow.holds Try.pinned (OpenSpec.upto condOwnSpec)

end Rows
end Go.Proofs.Ytlkjfjlmjgkheaa
