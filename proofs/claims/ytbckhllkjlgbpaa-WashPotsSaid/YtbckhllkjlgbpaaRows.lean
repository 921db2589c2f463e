/-
  No cell of these rows narrows 'for every input' (looked for: loops, veiled, ifaces, maps, wideKeys, modest, calm, conditions, laid).
  DERIVED. THE GIVEN ROWS OF THIS SEAT. 14 by the template 'for every input the law returns true; each argument reads behind the call as it read before'; 0 by the template 'total and deterministic' (their statements: YtbckhllkjlgbpaaTotals.lean).
  GIVEN WITH THE SEED: the statements are not yours to turn. If you find one false, say at which input.
  Laid BY PROGRAM, IN A SANDBOX (cutbox-rows.mjs): the forced cells as the released guide's own fill.sh prints them over the translation e382f72eee679d50… (all of the seat's roots in one cut). By AI agents, Wed Nov 11 2026. No macro, syntax, notation, axiom, sorry.
-/
import Derived.Test.YtbckhllkjlgbpaaChecked
import GoSem.Claim
import GoSem.ClaimJoined
import GoSem.ClaimMapViews
import Derived.JoinedTies
import Derived.KernelRfl
namespace Go.Proofs.Ytbckhllkjlgbpaa
/- THE CELL 'sum', in the pinned program and in every row, IS THE sha256 OF THE DUMP (.gsa) THAT YtbckhllkjlgbpaaProg.lean LOADS. Nothing in Lean hashes anything: it is a label: what it is worth is what the hold of that sum in a sandbox is worth. -/
noncomputable def Try.pinned : Pinned := { name := "ytbckhllkjlgbpaa", sum := "e382f72eee679d50ec8c23cb576e2f3b45005b3bf843ed55f61f9f63b21fe2b3", checked := Try.checked }
namespace Rows
def none {H : Type} : Left H := { results := [], args := [] }

/-- 'verditerlaw01.WashSettles': WHATEVER THE INPUT: true; the input reads as it did. -/
def washSettlesSpec : ChangeSpec := { name := "washSettles", fn := fun _ => fun
  | [d1, d2] => { results := [.lit (.bool true)], args := [d1, d2] }
  | _ => none }
def washSettlesRow : OpenClaim := { program := "ytbckhllkjlgbpaa", sum := "e382f72eee679d50ec8c23cb576e2f3b45005b3bf843ed55f61f9f63b21fe2b3", func := "verditer/verditerlaw01.WashSettles", spec := "washSettles", apart := false }
def WashSettlesSaid : Prop := washSettlesRow.holds Try.pinned (OpenSpec.ofChange washSettlesSpec)

/-- ITS FALSE NEIGHBOUR: 'it returns false'. Refute it at one input. -/
def washSettlesWrong : ChangeSpec := { name := "washSettles", fn := fun _ => fun
  | [d1, d2] => { results := [.lit (.bool false)], args := [d1, d2] }
  | _ => none }
def WashSettlesWrongFalsely : Prop := washSettlesRow.holds Try.pinned (OpenSpec.ofChange washSettlesWrong)

/-- 'verditerlaw01.WashWashes': WHATEVER THE INPUT: true; the input reads as it did. -/
def washWashesSpec : ChangeSpec := { name := "washWashes", fn := fun _ => fun
  | [d1, d2, d3] => { results := [.lit (.bool true)], args := [d1, d2, d3] }
  | _ => none }
def washWashesRow : OpenClaim := { program := "ytbckhllkjlgbpaa", sum := "e382f72eee679d50ec8c23cb576e2f3b45005b3bf843ed55f61f9f63b21fe2b3", func := "verditer/verditerlaw01.WashWashes", spec := "washWashes", apart := false }
def WashWashesSaid : Prop := washWashesRow.holds Try.pinned (OpenSpec.ofChange washWashesSpec)

/-- ITS FALSE NEIGHBOUR: 'it returns false'. Refute it at one input. -/
def washWashesWrong : ChangeSpec := { name := "washWashes", fn := fun _ => fun
  | [d1, d2, d3] => { results := [.lit (.bool false)], args := [d1, d2, d3] }
  | _ => none }
def WashWashesWrongFalsely : Prop := washWashesRow.holds Try.pinned (OpenSpec.ofChange washWashesWrong)

/-- 'verditerlaw01.WashParts': WHATEVER THE INPUT: true; the input reads as it did. -/
def washPartsSpec : ChangeSpec := { name := "washParts", fn := fun _ => fun
  | [d1, d2] => { results := [.lit (.bool true)], args := [d1, d2] }
  | _ => none }
def washPartsRow : OpenClaim := { program := "ytbckhllkjlgbpaa", sum := "e382f72eee679d50ec8c23cb576e2f3b45005b3bf843ed55f61f9f63b21fe2b3", func := "verditer/verditerlaw01.WashParts", spec := "washParts", apart := false }
def WashPartsSaid : Prop := washPartsRow.holds Try.pinned (OpenSpec.ofChange washPartsSpec)

/-- ITS FALSE NEIGHBOUR: 'it returns false'. Refute it at one input. -/
def washPartsWrong : ChangeSpec := { name := "washParts", fn := fun _ => fun
  | [d1, d2] => { results := [.lit (.bool false)], args := [d1, d2] }
  | _ => none }
def WashPartsWrongFalsely : Prop := washPartsRow.holds Try.pinned (OpenSpec.ofChange washPartsWrong)

/-- 'verditerlaw01.WashLots': WHATEVER THE INPUT: true; the input reads as it did. -/
def washLotsSpec : ChangeSpec := { name := "washLots", fn := fun _ => fun
  | [d1, d2] => { results := [.lit (.bool true)], args := [d1, d2] }
  | _ => none }
def washLotsRow : OpenClaim := { program := "ytbckhllkjlgbpaa", sum := "e382f72eee679d50ec8c23cb576e2f3b45005b3bf843ed55f61f9f63b21fe2b3", func := "verditer/verditerlaw01.WashLots", spec := "washLots", apart := false }
def WashLotsSaid : Prop := washLotsRow.holds Try.pinned (OpenSpec.ofChange washLotsSpec)

/-- ITS FALSE NEIGHBOUR: 'it returns false'. Refute it at one input. -/
def washLotsWrong : ChangeSpec := { name := "washLots", fn := fun _ => fun
  | [d1, d2] => { results := [.lit (.bool false)], args := [d1, d2] }
  | _ => none }
def WashLotsWrongFalsely : Prop := washLotsRow.holds Try.pinned (OpenSpec.ofChange washLotsWrong)

/-- 'verditerlaw01.WashTimes': WHATEVER THE INPUT: true; the input reads as it did. -/
def washTimesSpec : ChangeSpec := { name := "washTimes", fn := fun _ => fun
  | [d1, d2, d3] => { results := [.lit (.bool true)], args := [d1, d2, d3] }
  | _ => none }
def washTimesRow : OpenClaim := { program := "ytbckhllkjlgbpaa", sum := "e382f72eee679d50ec8c23cb576e2f3b45005b3bf843ed55f61f9f63b21fe2b3", func := "verditer/verditerlaw01.WashTimes", spec := "washTimes", apart := false }
def WashTimesSaid : Prop := washTimesRow.holds Try.pinned (OpenSpec.ofChange washTimesSpec)

/-- ITS FALSE NEIGHBOUR: 'it returns false'. Refute it at one input. -/
def washTimesWrong : ChangeSpec := { name := "washTimes", fn := fun _ => fun
  | [d1, d2, d3] => { results := [.lit (.bool false)], args := [d1, d2, d3] }
  | _ => none }
def WashTimesWrongFalsely : Prop := washTimesRow.holds Try.pinned (OpenSpec.ofChange washTimesWrong)

/-- 'verditerlaw01.WashPots': WHATEVER THE INPUT: true; the input reads as it did. -/
def washPotsSpec : ChangeSpec := { name := "washPots", fn := fun _ => fun
  | [d1, d2, d3] => { results := [.lit (.bool true)], args := [d1, d2, d3] }
  | _ => none }
def washPotsRow : OpenClaim := { program := "ytbckhllkjlgbpaa", sum := "e382f72eee679d50ec8c23cb576e2f3b45005b3bf843ed55f61f9f63b21fe2b3", func := "verditer/verditerlaw01.WashPots", spec := "washPots", unfollowed := true, recurses := true, apart := false }
def WashPotsSaid : Prop := washPotsRow.holds Try.pinned (OpenSpec.ofChange washPotsSpec)

/-- ITS FALSE NEIGHBOUR: 'it returns false'. Refute it at one input. -/
def washPotsWrong : ChangeSpec := { name := "washPots", fn := fun _ => fun
  | [d1, d2, d3] => { results := [.lit (.bool false)], args := [d1, d2, d3] }
  | _ => none }
def WashPotsWrongFalsely : Prop := washPotsRow.holds Try.pinned (OpenSpec.ofChange washPotsWrong)

/-- 'verditerlaw01.WashTwice': WHATEVER THE INPUT: true; the input reads as it did. -/
def washTwiceSpec : ChangeSpec := { name := "washTwice", fn := fun _ => fun
  | [d1, d2, d3] => { results := [.lit (.bool true)], args := [d1, d2, d3] }
  | _ => none }
def washTwiceRow : OpenClaim := { program := "ytbckhllkjlgbpaa", sum := "e382f72eee679d50ec8c23cb576e2f3b45005b3bf843ed55f61f9f63b21fe2b3", func := "verditer/verditerlaw01.WashTwice", spec := "washTwice", unfollowed := true, recurses := true, apart := false }
def WashTwiceSaid : Prop := washTwiceRow.holds Try.pinned (OpenSpec.ofChange washTwiceSpec)

/-- ITS FALSE NEIGHBOUR: 'it returns false'. Refute it at one input. -/
def washTwiceWrong : ChangeSpec := { name := "washTwice", fn := fun _ => fun
  | [d1, d2, d3] => { results := [.lit (.bool false)], args := [d1, d2, d3] }
  | _ => none }
def WashTwiceWrongFalsely : Prop := washTwiceRow.holds Try.pinned (OpenSpec.ofChange washTwiceWrong)

/-- 'verditerlaw01.WashMeans': WHATEVER THE INPUT: true; the input reads as it did. -/
def washMeansSpec : ChangeSpec := { name := "washMeans", fn := fun _ => fun
  | [d] => { results := [.lit (.bool true)], args := [d] }
  | _ => none }
def washMeansRow : OpenClaim := { program := "ytbckhllkjlgbpaa", sum := "e382f72eee679d50ec8c23cb576e2f3b45005b3bf843ed55f61f9f63b21fe2b3", func := "verditer/verditerlaw01.WashMeans", spec := "washMeans", apart := false }
def WashMeansSaid : Prop := washMeansRow.holds Try.pinned (OpenSpec.ofChange washMeansSpec)

/-- ITS FALSE NEIGHBOUR: 'it returns false'. Refute it at one input. -/
def washMeansWrong : ChangeSpec := { name := "washMeans", fn := fun _ => fun
  | [d] => { results := [.lit (.bool false)], args := [d] }
  | _ => none }
def WashMeansWrongFalsely : Prop := washMeansRow.holds Try.pinned (OpenSpec.ofChange washMeansWrong)

/-- 'verditerlaw01.WashSieves': WHATEVER THE INPUT: true; the input reads as it did. -/
def washSievesSpec : ChangeSpec := { name := "washSieves", fn := fun _ => fun
  | [d1, d2] => { results := [.lit (.bool true)], args := [d1, d2] }
  | _ => none }
def washSievesRow : OpenClaim := { program := "ytbckhllkjlgbpaa", sum := "e382f72eee679d50ec8c23cb576e2f3b45005b3bf843ed55f61f9f63b21fe2b3", func := "verditer/verditerlaw01.WashSieves", spec := "washSieves", apart := false }
def WashSievesSaid : Prop := washSievesRow.holds Try.pinned (OpenSpec.ofChange washSievesSpec)

/-- ITS FALSE NEIGHBOUR: 'it returns false'. Refute it at one input. -/
def washSievesWrong : ChangeSpec := { name := "washSieves", fn := fun _ => fun
  | [d1, d2] => { results := [.lit (.bool false)], args := [d1, d2] }
  | _ => none }
def WashSievesWrongFalsely : Prop := washSievesRow.holds Try.pinned (OpenSpec.ofChange washSievesWrong)

/-- 'verditerlaw01.WashJoins': WHATEVER THE INPUT: true; the input reads as it did. -/
def washJoinsSpec : ChangeSpec := { name := "washJoins", fn := fun _ => fun
  | [d1, d2, d3] => { results := [.lit (.bool true)], args := [d1, d2, d3] }
  | _ => none }
def washJoinsRow : OpenClaim := { program := "ytbckhllkjlgbpaa", sum := "e382f72eee679d50ec8c23cb576e2f3b45005b3bf843ed55f61f9f63b21fe2b3", func := "verditer/verditerlaw01.WashJoins", spec := "washJoins", apart := false }
def WashJoinsSaid : Prop := washJoinsRow.holds Try.pinned (OpenSpec.ofChange washJoinsSpec)

/-- ITS FALSE NEIGHBOUR: 'it returns false'. Refute it at one input. -/
def washJoinsWrong : ChangeSpec := { name := "washJoins", fn := fun _ => fun
  | [d1, d2, d3] => { results := [.lit (.bool false)], args := [d1, d2, d3] }
  | _ => none }
def WashJoinsWrongFalsely : Prop := washJoinsRow.holds Try.pinned (OpenSpec.ofChange washJoinsWrong)

/-- 'verditerlaw01.WashFiner': WHATEVER THE INPUT: true; the input reads as it did. -/
def washFinerSpec : ChangeSpec := { name := "washFiner", fn := fun _ => fun
  | [d1, d2] => { results := [.lit (.bool true)], args := [d1, d2] }
  | _ => none }
def washFinerRow : OpenClaim := { program := "ytbckhllkjlgbpaa", sum := "e382f72eee679d50ec8c23cb576e2f3b45005b3bf843ed55f61f9f63b21fe2b3", func := "verditer/verditerlaw01.WashFiner", spec := "washFiner", apart := false }
def WashFinerSaid : Prop := washFinerRow.holds Try.pinned (OpenSpec.ofChange washFinerSpec)

/-- ITS FALSE NEIGHBOUR: 'it returns false'. Refute it at one input. -/
def washFinerWrong : ChangeSpec := { name := "washFiner", fn := fun _ => fun
  | [d1, d2] => { results := [.lit (.bool false)], args := [d1, d2] }
  | _ => none }
def WashFinerWrongFalsely : Prop := washFinerRow.holds Try.pinned (OpenSpec.ofChange washFinerWrong)

/-- 'verditerlaw01.WashGrinds': WHATEVER THE INPUT: true; the input reads as it did. -/
def washGrindsSpec : ChangeSpec := { name := "washGrinds", fn := fun _ => fun
  | [d1, d2] => { results := [.lit (.bool true)], args := [d1, d2] }
  | _ => none }
def washGrindsRow : OpenClaim := { program := "ytbckhllkjlgbpaa", sum := "e382f72eee679d50ec8c23cb576e2f3b45005b3bf843ed55f61f9f63b21fe2b3", func := "verditer/verditerlaw01.WashGrinds", spec := "washGrinds", apart := false }
def WashGrindsSaid : Prop := washGrindsRow.holds Try.pinned (OpenSpec.ofChange washGrindsSpec)

/-- ITS FALSE NEIGHBOUR: 'it returns false'. Refute it at one input. -/
def washGrindsWrong : ChangeSpec := { name := "washGrinds", fn := fun _ => fun
  | [d1, d2] => { results := [.lit (.bool false)], args := [d1, d2] }
  | _ => none }
def WashGrindsWrongFalsely : Prop := washGrindsRow.holds Try.pinned (OpenSpec.ofChange washGrindsWrong)

/-- 'verditerlaw01.WashWorks': WHATEVER THE INPUT: true; the input reads as it did. -/
def washWorksSpec : ChangeSpec := { name := "washWorks", fn := fun _ => fun
  | [d1, d2, d3] => { results := [.lit (.bool true)], args := [d1, d2, d3] }
  | _ => none }
def washWorksRow : OpenClaim := { program := "ytbckhllkjlgbpaa", sum := "e382f72eee679d50ec8c23cb576e2f3b45005b3bf843ed55f61f9f63b21fe2b3", func := "verditer/verditerlaw01.WashWorks", spec := "washWorks", apart := false }
def WashWorksSaid : Prop := washWorksRow.holds Try.pinned (OpenSpec.ofChange washWorksSpec)

/-- ITS FALSE NEIGHBOUR: 'it returns false'. Refute it at one input. -/
def washWorksWrong : ChangeSpec := { name := "washWorks", fn := fun _ => fun
  | [d1, d2, d3] => { results := [.lit (.bool false)], args := [d1, d2, d3] }
  | _ => none }
def WashWorksWrongFalsely : Prop := washWorksRow.holds Try.pinned (OpenSpec.ofChange washWorksWrong)

/-- 'verditerlaw01.WashProves': WHATEVER THE INPUT: true; the input reads as it did. -/
def washProvesSpec : ChangeSpec := { name := "washProves", fn := fun _ => fun
  | [d1, d2, d3] => { results := [.lit (.bool true)], args := [d1, d2, d3] }
  | _ => none }
def washProvesRow : OpenClaim := { program := "ytbckhllkjlgbpaa", sum := "e382f72eee679d50ec8c23cb576e2f3b45005b3bf843ed55f61f9f63b21fe2b3", func := "verditer/verditerlaw01.WashProves", spec := "washProves", apart := false }
def WashProvesSaid : Prop := washProvesRow.holds Try.pinned (OpenSpec.ofChange washProvesSpec)

/-- ITS FALSE NEIGHBOUR: 'it returns false'. Refute it at one input. -/
def washProvesWrong : ChangeSpec := { name := "washProves", fn := fun _ => fun
  | [d1, d2, d3] => { results := [.lit (.bool false)], args := [d1, d2, d3] }
  | _ => none }
def WashProvesWrongFalsely : Prop := washProvesRow.holds Try.pinned (OpenSpec.ofChange washProvesWrong)

/- THE SECOND FORM. 'bulk': how many values and letters a reading holds, each counted each time it is reached (what is shared counts as often as it is met; a slice's spare places count too). A statement '..UptoSaid' is the law's where the arguments, and the package variables that the reading takes, are together of bulk at most 1048576: NARROWER than '..Said'. Prove '..Said' where nothing that the law and all that it calls make is longer than what came in: it says more and counts as full. Else prove '..UptoSaid'. A law counts once. -/
mutual
def uptoBulk {H : Type} : DataW H → Nat
  | .lit (.string bytes) => bytes.length + 1
  | .lit _ => 1
  | .nil => 1
  | .ptr d => uptoBulk d + 1
  | .slice elems spare => uptoBulkAll elems + uptoBulkAll spare + 1
  | .agg parts => uptoBulkAll parts + 1
  | .iface _ d => uptoBulk d + 1
  | .map entries => uptoBulkEntries entries + 1
  | .held _ => 1
def uptoBulkAll {H : Type} : List (DataW H) → Nat
  | [] => 0
  | d :: r => uptoBulk d + uptoBulkAll r
def uptoBulkEntries {H : Type} : List (Lit × DataW H) → Nat
  | [] => 0
  | x :: r => uptoBulkEntry x + uptoBulkEntries r
def uptoBulkEntry {H : Type} : Lit × DataW H → Nat
  | (.string bytes, d) => bytes.length + uptoBulk d + 1
  | (_, d) => uptoBulk d + 1
 end
def uptoSmall : (H : Type) → List (DataW H) → Bool := fun _ ds => decide (uptoBulkAll ds ≤ 1048576)
def OpenSpec.upto (s : _root_.Go.ChangeSpec) : _root_.Go.OpenSpec := { _root_.Go.OpenSpec.ofChange s with cond := some uptoSmall }

/-- 'verditerlaw01.WashSettles', WHERE WHAT IT READS IS OF BULK AT MOST 1048576: true; the input reads as it did. -/
def washSettlesUptoRow : OpenClaim := { program := "ytbckhllkjlgbpaa", sum := "e382f72eee679d50ec8c23cb576e2f3b45005b3bf843ed55f61f9f63b21fe2b3", func := "verditer/verditerlaw01.WashSettles", spec := "washSettles", apart := false, narrowed := true }
def WashSettlesUptoSaid : Prop := washSettlesUptoRow.holds Try.pinned (OpenSpec.upto washSettlesSpec)

/-- 'verditerlaw01.WashWashes', WHERE WHAT IT READS IS OF BULK AT MOST 1048576: true; the input reads as it did. -/
def washWashesUptoRow : OpenClaim := { program := "ytbckhllkjlgbpaa", sum := "e382f72eee679d50ec8c23cb576e2f3b45005b3bf843ed55f61f9f63b21fe2b3", func := "verditer/verditerlaw01.WashWashes", spec := "washWashes", apart := false, narrowed := true }
def WashWashesUptoSaid : Prop := washWashesUptoRow.holds Try.pinned (OpenSpec.upto washWashesSpec)

/-- 'verditerlaw01.WashParts', WHERE WHAT IT READS IS OF BULK AT MOST 1048576: true; the input reads as it did. -/
def washPartsUptoRow : OpenClaim := { program := "ytbckhllkjlgbpaa", sum := "e382f72eee679d50ec8c23cb576e2f3b45005b3bf843ed55f61f9f63b21fe2b3", func := "verditer/verditerlaw01.WashParts", spec := "washParts", apart := false, narrowed := true }
def WashPartsUptoSaid : Prop := washPartsUptoRow.holds Try.pinned (OpenSpec.upto washPartsSpec)

/-- 'verditerlaw01.WashLots', WHERE WHAT IT READS IS OF BULK AT MOST 1048576: true; the input reads as it did. -/
def washLotsUptoRow : OpenClaim := { program := "ytbckhllkjlgbpaa", sum := "e382f72eee679d50ec8c23cb576e2f3b45005b3bf843ed55f61f9f63b21fe2b3", func := "verditer/verditerlaw01.WashLots", spec := "washLots", apart := false, narrowed := true }
def WashLotsUptoSaid : Prop := washLotsUptoRow.holds Try.pinned (OpenSpec.upto washLotsSpec)

/-- 'verditerlaw01.WashTimes', WHERE WHAT IT READS IS OF BULK AT MOST 1048576: true; the input reads as it did. -/
def washTimesUptoRow : OpenClaim := { program := "ytbckhllkjlgbpaa", sum := "e382f72eee679d50ec8c23cb576e2f3b45005b3bf843ed55f61f9f63b21fe2b3", func := "verditer/verditerlaw01.WashTimes", spec := "washTimes", apart := false, narrowed := true }
def WashTimesUptoSaid : Prop := washTimesUptoRow.holds Try.pinned (OpenSpec.upto washTimesSpec)

/-- 'verditerlaw01.WashPots', WHERE WHAT IT READS IS OF BULK AT MOST 1048576: true; the input reads as it did. -/
def washPotsUptoRow : OpenClaim := { program := "ytbckhllkjlgbpaa", sum := "e382f72eee679d50ec8c23cb576e2f3b45005b3bf843ed55f61f9f63b21fe2b3", func := "verditer/verditerlaw01.WashPots", spec := "washPots", unfollowed := true, recurses := true, apart := false, narrowed := true }
def WashPotsUptoSaid : Prop := washPotsUptoRow.holds Try.pinned (OpenSpec.upto washPotsSpec)

/-- 'verditerlaw01.WashTwice', WHERE WHAT IT READS IS OF BULK AT MOST 1048576: true; the input reads as it did. -/
def washTwiceUptoRow : OpenClaim := { program := "ytbckhllkjlgbpaa", sum := "e382f72eee679d50ec8c23cb576e2f3b45005b3bf843ed55f61f9f63b21fe2b3", func := "verditer/verditerlaw01.WashTwice", spec := "washTwice", unfollowed := true, recurses := true, apart := false, narrowed := true }
def WashTwiceUptoSaid : Prop := washTwiceUptoRow.holds Try.pinned (OpenSpec.upto washTwiceSpec)

/-- 'verditerlaw01.WashMeans', WHERE WHAT IT READS IS OF BULK AT MOST 1048576: true; the input reads as it did. -/
def washMeansUptoRow : OpenClaim := { program := "ytbckhllkjlgbpaa", sum := "e382f72eee679d50ec8c23cb576e2f3b45005b3bf843ed55f61f9f63b21fe2b3", func := "verditer/verditerlaw01.WashMeans", spec := "washMeans", apart := false, narrowed := true }
def WashMeansUptoSaid : Prop := washMeansUptoRow.holds Try.pinned (OpenSpec.upto washMeansSpec)

/-- 'verditerlaw01.WashSieves', WHERE WHAT IT READS IS OF BULK AT MOST 1048576: true; the input reads as it did. -/
def washSievesUptoRow : OpenClaim := { program := "ytbckhllkjlgbpaa", sum := "e382f72eee679d50ec8c23cb576e2f3b45005b3bf843ed55f61f9f63b21fe2b3", func := "verditer/verditerlaw01.WashSieves", spec := "washSieves", apart := false, narrowed := true }
def WashSievesUptoSaid : Prop := washSievesUptoRow.holds Try.pinned (OpenSpec.upto washSievesSpec)

/-- 'verditerlaw01.WashJoins', WHERE WHAT IT READS IS OF BULK AT MOST 1048576: true; the input reads as it did. -/
def washJoinsUptoRow : OpenClaim := { program := "ytbckhllkjlgbpaa", sum := "e382f72eee679d50ec8c23cb576e2f3b45005b3bf843ed55f61f9f63b21fe2b3", func := "verditer/verditerlaw01.WashJoins", spec := "washJoins", apart := false, narrowed := true }
def WashJoinsUptoSaid : Prop := washJoinsUptoRow.holds Try.pinned (OpenSpec.upto washJoinsSpec)

/-- 'verditerlaw01.WashFiner', WHERE WHAT IT READS IS OF BULK AT MOST 1048576: true; the input reads as it did. -/
def washFinerUptoRow : OpenClaim := { program := "ytbckhllkjlgbpaa", sum := "e382f72eee679d50ec8c23cb576e2f3b45005b3bf843ed55f61f9f63b21fe2b3", func := "verditer/verditerlaw01.WashFiner", spec := "washFiner", apart := false, narrowed := true }
def WashFinerUptoSaid : Prop := washFinerUptoRow.holds Try.pinned (OpenSpec.upto washFinerSpec)

/-- 'verditerlaw01.WashGrinds', WHERE WHAT IT READS IS OF BULK AT MOST 1048576: true; the input reads as it did. -/
def washGrindsUptoRow : OpenClaim := { program := "ytbckhllkjlgbpaa", sum := "e382f72eee679d50ec8c23cb576e2f3b45005b3bf843ed55f61f9f63b21fe2b3", func := "verditer/verditerlaw01.WashGrinds", spec := "washGrinds", apart := false, narrowed := true }
def WashGrindsUptoSaid : Prop := washGrindsUptoRow.holds Try.pinned (OpenSpec.upto washGrindsSpec)

/-- 'verditerlaw01.WashWorks', WHERE WHAT IT READS IS OF BULK AT MOST 1048576: true; the input reads as it did. -/
def washWorksUptoRow : OpenClaim := { program := "ytbckhllkjlgbpaa", sum := "e382f72eee679d50ec8c23cb576e2f3b45005b3bf843ed55f61f9f63b21fe2b3", func := "verditer/verditerlaw01.WashWorks", spec := "washWorks", apart := false, narrowed := true }
def WashWorksUptoSaid : Prop := washWorksUptoRow.holds Try.pinned (OpenSpec.upto washWorksSpec)

/-- 'verditerlaw01.WashProves', WHERE WHAT IT READS IS OF BULK AT MOST 1048576: true; the input reads as it did. -/
def washProvesUptoRow : OpenClaim := { program := "ytbckhllkjlgbpaa", sum := "e382f72eee679d50ec8c23cb576e2f3b45005b3bf843ed55f61f9f63b21fe2b3", func := "verditer/verditerlaw01.WashProves", spec := "washProves", apart := false, narrowed := true }
def WashProvesUptoSaid : Prop := washProvesUptoRow.holds Try.pinned (OpenSpec.upto washProvesSpec)

end Rows
end Go.Proofs.Ytbckhllkjlgbpaa
