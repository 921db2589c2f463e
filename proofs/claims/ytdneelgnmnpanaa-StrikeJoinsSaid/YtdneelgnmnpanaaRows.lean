/-
  No cell of these rows narrows 'for every input' (looked for: loops, veiled, ifaces, maps, wideKeys, modest, calm, conditions, laid).
  DERIVED. THE GIVEN ROWS OF THIS SEAT. 14 by the template 'for every input the law returns true; each argument reads behind the call as it read before'; 0 by the template 'total and deterministic' (their statements: YtdneelgnmnpanaaTotals.lean).
  GIVEN WITH THE SEED: the statements are not yours to turn. If you find one false, say at which input.
  Laid BY PROGRAM, IN A SANDBOX (cutbox-rows.mjs): the forced cells as the released guide's own fill.sh prints them over the translation ca0c2047ad724d34… (all of the seat's roots in one cut). By AI agents, Wed Nov 11 2026. No macro, syntax, notation, axiom, sorry.
-/
import Derived.Test.YtdneelgnmnpanaaChecked
import GoSem.Claim
import GoSem.ClaimJoined
import GoSem.ClaimMapViews
import Derived.JoinedTies
import Derived.KernelRfl
namespace Go.Proofs.Ytdneelgnmnpanaa
/- THE CELL 'sum', in the pinned program and in every row, IS THE sha256 OF THE DUMP (.gsa) THAT YtdneelgnmnpanaaProg.lean LOADS. Nothing in Lean hashes anything: it is a label: what it is worth is what the hold of that sum in a sandbox is worth. -/
noncomputable def Try.pinned : Pinned := { name := "ytdneelgnmnpanaa", sum := "ca0c2047ad724d3418afef8ac2c5c6fd0bdccf990658c72462eb62d87a59c01b", checked := Try.checked }
namespace Rows
def none {H : Type} : Left H := { results := [], args := [] }

/-- 'verditertop.TopStrikes': WHATEVER THE INPUT: true; the input reads as it did. -/
def topStrikesSpec : ChangeSpec := { name := "topStrikes", fn := fun _ => fun
  | [d] => { results := [.lit (.bool true)], args := [d] }
  | _ => none }
def topStrikesRow : OpenClaim := { program := "ytdneelgnmnpanaa", sum := "ca0c2047ad724d3418afef8ac2c5c6fd0bdccf990658c72462eb62d87a59c01b", func := "verditer/verditertop.TopStrikes", spec := "topStrikes", unfollowed := true, recurses := true, apart := false }
def TopStrikesSaid : Prop := topStrikesRow.holds Try.pinned (OpenSpec.ofChange topStrikesSpec)

/-- ITS FALSE NEIGHBOUR: 'it returns false'. Refute it at one input. -/
def topStrikesWrong : ChangeSpec := { name := "topStrikes", fn := fun _ => fun
  | [d] => { results := [.lit (.bool false)], args := [d] }
  | _ => none }
def TopStrikesWrongFalsely : Prop := topStrikesRow.holds Try.pinned (OpenSpec.ofChange topStrikesWrong)

/-- 'verditerlaw04.StrikeLimits': WHATEVER THE INPUT: true; the input reads as it did. -/
def strikeLimitsSpec : ChangeSpec := { name := "strikeLimits", fn := fun _ => fun
  | [d1, d2] => { results := [.lit (.bool true)], args := [d1, d2] }
  | _ => none }
def strikeLimitsRow : OpenClaim := { program := "ytdneelgnmnpanaa", sum := "ca0c2047ad724d3418afef8ac2c5c6fd0bdccf990658c72462eb62d87a59c01b", func := "verditer/verditerlaw04.StrikeLimits", spec := "strikeLimits", unfollowed := true, recurses := true, apart := false }
def StrikeLimitsSaid : Prop := strikeLimitsRow.holds Try.pinned (OpenSpec.ofChange strikeLimitsSpec)

/-- ITS FALSE NEIGHBOUR: 'it returns false'. Refute it at one input. -/
def strikeLimitsWrong : ChangeSpec := { name := "strikeLimits", fn := fun _ => fun
  | [d1, d2] => { results := [.lit (.bool false)], args := [d1, d2] }
  | _ => none }
def StrikeLimitsWrongFalsely : Prop := strikeLimitsRow.holds Try.pinned (OpenSpec.ofChange strikeLimitsWrong)

/-- 'verditerlaw04.StrikeBalances': WHATEVER THE INPUT: true; the input reads as it did. -/
def strikeBalancesSpec : ChangeSpec := { name := "strikeBalances", fn := fun _ => fun
  | [d1, d2, d3] => { results := [.lit (.bool true)], args := [d1, d2, d3] }
  | _ => none }
def strikeBalancesRow : OpenClaim := { program := "ytdneelgnmnpanaa", sum := "ca0c2047ad724d3418afef8ac2c5c6fd0bdccf990658c72462eb62d87a59c01b", func := "verditer/verditerlaw04.StrikeBalances", spec := "strikeBalances", unfollowed := true, recurses := true, apart := false }
def StrikeBalancesSaid : Prop := strikeBalancesRow.holds Try.pinned (OpenSpec.ofChange strikeBalancesSpec)

/-- ITS FALSE NEIGHBOUR: 'it returns false'. Refute it at one input. -/
def strikeBalancesWrong : ChangeSpec := { name := "strikeBalances", fn := fun _ => fun
  | [d1, d2, d3] => { results := [.lit (.bool false)], args := [d1, d2, d3] }
  | _ => none }
def StrikeBalancesWrongFalsely : Prop := strikeBalancesRow.holds Try.pinned (OpenSpec.ofChange strikeBalancesWrong)

/-- 'verditerlaw04.StrikeSpaces': WHATEVER THE INPUT: true; the input reads as it did. -/
def strikeSpacesSpec : ChangeSpec := { name := "strikeSpaces", fn := fun _ => fun
  | [d] => { results := [.lit (.bool true)], args := [d] }
  | _ => none }
def strikeSpacesRow : OpenClaim := { program := "ytdneelgnmnpanaa", sum := "ca0c2047ad724d3418afef8ac2c5c6fd0bdccf990658c72462eb62d87a59c01b", func := "verditer/verditerlaw04.StrikeSpaces", spec := "strikeSpaces", unfollowed := true, recurses := true, apart := false }
def StrikeSpacesSaid : Prop := strikeSpacesRow.holds Try.pinned (OpenSpec.ofChange strikeSpacesSpec)

/-- ITS FALSE NEIGHBOUR: 'it returns false'. Refute it at one input. -/
def strikeSpacesWrong : ChangeSpec := { name := "strikeSpaces", fn := fun _ => fun
  | [d] => { results := [.lit (.bool false)], args := [d] }
  | _ => none }
def StrikeSpacesWrongFalsely : Prop := strikeSpacesRow.holds Try.pinned (OpenSpec.ofChange strikeSpacesWrong)

/-- 'verditerlaw04.StrikeWeighs': WHATEVER THE INPUT: true; the input reads as it did. -/
def strikeWeighsSpec : ChangeSpec := { name := "strikeWeighs", fn := fun _ => fun
  | [d1, d2, d3] => { results := [.lit (.bool true)], args := [d1, d2, d3] }
  | _ => none }
def strikeWeighsRow : OpenClaim := { program := "ytdneelgnmnpanaa", sum := "ca0c2047ad724d3418afef8ac2c5c6fd0bdccf990658c72462eb62d87a59c01b", func := "verditer/verditerlaw04.StrikeWeighs", spec := "strikeWeighs", unfollowed := true, recurses := true, apart := false }
def StrikeWeighsSaid : Prop := strikeWeighsRow.holds Try.pinned (OpenSpec.ofChange strikeWeighsSpec)

/-- ITS FALSE NEIGHBOUR: 'it returns false'. Refute it at one input. -/
def strikeWeighsWrong : ChangeSpec := { name := "strikeWeighs", fn := fun _ => fun
  | [d1, d2, d3] => { results := [.lit (.bool false)], args := [d1, d2, d3] }
  | _ => none }
def StrikeWeighsWrongFalsely : Prop := strikeWeighsRow.holds Try.pinned (OpenSpec.ofChange strikeWeighsWrong)

/-- 'verditerlaw04.StrikeKeeps': WHATEVER THE INPUT: true; the input reads as it did. -/
def strikeKeepsSpec : ChangeSpec := { name := "strikeKeeps", fn := fun _ => fun
  | [d1, d2, d3] => { results := [.lit (.bool true)], args := [d1, d2, d3] }
  | _ => none }
def strikeKeepsRow : OpenClaim := { program := "ytdneelgnmnpanaa", sum := "ca0c2047ad724d3418afef8ac2c5c6fd0bdccf990658c72462eb62d87a59c01b", func := "verditer/verditerlaw04.StrikeKeeps", spec := "strikeKeeps", unfollowed := true, recurses := true, apart := false }
def StrikeKeepsSaid : Prop := strikeKeepsRow.holds Try.pinned (OpenSpec.ofChange strikeKeepsSpec)

/-- ITS FALSE NEIGHBOUR: 'it returns false'. Refute it at one input. -/
def strikeKeepsWrong : ChangeSpec := { name := "strikeKeeps", fn := fun _ => fun
  | [d1, d2, d3] => { results := [.lit (.bool false)], args := [d1, d2, d3] }
  | _ => none }
def StrikeKeepsWrongFalsely : Prop := strikeKeepsRow.holds Try.pinned (OpenSpec.ofChange strikeKeepsWrong)

/-- 'verditerlaw04.StrikeRuns': WHATEVER THE INPUT: true; the input reads as it did. -/
def strikeRunsSpec : ChangeSpec := { name := "strikeRuns", fn := fun _ => fun
  | [d1, d2] => { results := [.lit (.bool true)], args := [d1, d2] }
  | _ => none }
def strikeRunsRow : OpenClaim := { program := "ytdneelgnmnpanaa", sum := "ca0c2047ad724d3418afef8ac2c5c6fd0bdccf990658c72462eb62d87a59c01b", func := "verditer/verditerlaw04.StrikeRuns", spec := "strikeRuns", unfollowed := true, recurses := true, apart := false }
def StrikeRunsSaid : Prop := strikeRunsRow.holds Try.pinned (OpenSpec.ofChange strikeRunsSpec)

/-- ITS FALSE NEIGHBOUR: 'it returns false'. Refute it at one input. -/
def strikeRunsWrong : ChangeSpec := { name := "strikeRuns", fn := fun _ => fun
  | [d1, d2] => { results := [.lit (.bool false)], args := [d1, d2] }
  | _ => none }
def StrikeRunsWrongFalsely : Prop := strikeRunsRow.holds Try.pinned (OpenSpec.ofChange strikeRunsWrong)

/-- 'verditerlaw04.StrikeForbids': WHATEVER THE INPUT: true; the input reads as it did. -/
def strikeForbidsSpec : ChangeSpec := { name := "strikeForbids", fn := fun _ => fun
  | [d1, d2] => { results := [.lit (.bool true)], args := [d1, d2] }
  | _ => none }
def strikeForbidsRow : OpenClaim := { program := "ytdneelgnmnpanaa", sum := "ca0c2047ad724d3418afef8ac2c5c6fd0bdccf990658c72462eb62d87a59c01b", func := "verditer/verditerlaw04.StrikeForbids", spec := "strikeForbids", unfollowed := true, recurses := true, apart := false }
def StrikeForbidsSaid : Prop := strikeForbidsRow.holds Try.pinned (OpenSpec.ofChange strikeForbidsSpec)

/-- ITS FALSE NEIGHBOUR: 'it returns false'. Refute it at one input. -/
def strikeForbidsWrong : ChangeSpec := { name := "strikeForbids", fn := fun _ => fun
  | [d1, d2] => { results := [.lit (.bool false)], args := [d1, d2] }
  | _ => none }
def StrikeForbidsWrongFalsely : Prop := strikeForbidsRow.holds Try.pinned (OpenSpec.ofChange strikeForbidsWrong)

/-- 'verditerlaw04.StrikeProves': WHATEVER THE INPUT: true; the input reads as it did. -/
def strikeProvesSpec : ChangeSpec := { name := "strikeProves", fn := fun _ => fun
  | [d] => { results := [.lit (.bool true)], args := [d] }
  | _ => none }
def strikeProvesRow : OpenClaim := { program := "ytdneelgnmnpanaa", sum := "ca0c2047ad724d3418afef8ac2c5c6fd0bdccf990658c72462eb62d87a59c01b", func := "verditer/verditerlaw04.StrikeProves", spec := "strikeProves", unfollowed := true, recurses := true, apart := false }
def StrikeProvesSaid : Prop := strikeProvesRow.holds Try.pinned (OpenSpec.ofChange strikeProvesSpec)

/-- ITS FALSE NEIGHBOUR: 'it returns false'. Refute it at one input. -/
def strikeProvesWrong : ChangeSpec := { name := "strikeProves", fn := fun _ => fun
  | [d] => { results := [.lit (.bool false)], args := [d] }
  | _ => none }
def StrikeProvesWrongFalsely : Prop := strikeProvesRow.holds Try.pinned (OpenSpec.ofChange strikeProvesWrong)

/-- 'verditerlaw04.StrikeWithout': WHATEVER THE INPUT: true; the input reads as it did. -/
def strikeWithoutSpec : ChangeSpec := { name := "strikeWithout", fn := fun _ => fun
  | [d1, d2] => { results := [.lit (.bool true)], args := [d1, d2] }
  | _ => none }
def strikeWithoutRow : OpenClaim := { program := "ytdneelgnmnpanaa", sum := "ca0c2047ad724d3418afef8ac2c5c6fd0bdccf990658c72462eb62d87a59c01b", func := "verditer/verditerlaw04.StrikeWithout", spec := "strikeWithout", unfollowed := true, recurses := true, apart := false }
def StrikeWithoutSaid : Prop := strikeWithoutRow.holds Try.pinned (OpenSpec.ofChange strikeWithoutSpec)

/-- ITS FALSE NEIGHBOUR: 'it returns false'. Refute it at one input. -/
def strikeWithoutWrong : ChangeSpec := { name := "strikeWithout", fn := fun _ => fun
  | [d1, d2] => { results := [.lit (.bool false)], args := [d1, d2] }
  | _ => none }
def StrikeWithoutWrongFalsely : Prop := strikeWithoutRow.holds Try.pinned (OpenSpec.ofChange strikeWithoutWrong)

/-- 'verditerlaw04.StrikeSimples': WHATEVER THE INPUT: true; the input reads as it did. -/
def strikeSimplesSpec : ChangeSpec := { name := "strikeSimples", fn := fun _ => fun
  | [d] => { results := [.lit (.bool true)], args := [d] }
  | _ => none }
def strikeSimplesRow : OpenClaim := { program := "ytdneelgnmnpanaa", sum := "ca0c2047ad724d3418afef8ac2c5c6fd0bdccf990658c72462eb62d87a59c01b", func := "verditer/verditerlaw04.StrikeSimples", spec := "strikeSimples", unfollowed := true, recurses := true, apart := false }
def StrikeSimplesSaid : Prop := strikeSimplesRow.holds Try.pinned (OpenSpec.ofChange strikeSimplesSpec)

/-- ITS FALSE NEIGHBOUR: 'it returns false'. Refute it at one input. -/
def strikeSimplesWrong : ChangeSpec := { name := "strikeSimples", fn := fun _ => fun
  | [d] => { results := [.lit (.bool false)], args := [d] }
  | _ => none }
def StrikeSimplesWrongFalsely : Prop := strikeSimplesRow.holds Try.pinned (OpenSpec.ofChange strikeSimplesWrong)

/-- 'verditerlaw04.StrikeCans': WHATEVER THE INPUT: true; the input reads as it did. -/
def strikeCansSpec : ChangeSpec := { name := "strikeCans", fn := fun _ => fun
  | [d] => { results := [.lit (.bool true)], args := [d] }
  | _ => none }
def strikeCansRow : OpenClaim := { program := "ytdneelgnmnpanaa", sum := "ca0c2047ad724d3418afef8ac2c5c6fd0bdccf990658c72462eb62d87a59c01b", func := "verditer/verditerlaw04.StrikeCans", spec := "strikeCans", unfollowed := true, recurses := true, apart := false }
def StrikeCansSaid : Prop := strikeCansRow.holds Try.pinned (OpenSpec.ofChange strikeCansSpec)

/-- ITS FALSE NEIGHBOUR: 'it returns false'. Refute it at one input. -/
def strikeCansWrong : ChangeSpec := { name := "strikeCans", fn := fun _ => fun
  | [d] => { results := [.lit (.bool false)], args := [d] }
  | _ => none }
def StrikeCansWrongFalsely : Prop := strikeCansRow.holds Try.pinned (OpenSpec.ofChange strikeCansWrong)

/-- 'verditerlaw04.StrikeJoins': WHATEVER THE INPUT: true; the input reads as it did. -/
def strikeJoinsSpec : ChangeSpec := { name := "strikeJoins", fn := fun _ => fun
  | [d1, d2] => { results := [.lit (.bool true)], args := [d1, d2] }
  | _ => none }
def strikeJoinsRow : OpenClaim := { program := "ytdneelgnmnpanaa", sum := "ca0c2047ad724d3418afef8ac2c5c6fd0bdccf990658c72462eb62d87a59c01b", func := "verditer/verditerlaw04.StrikeJoins", spec := "strikeJoins", unfollowed := true, recurses := true, apart := false }
def StrikeJoinsSaid : Prop := strikeJoinsRow.holds Try.pinned (OpenSpec.ofChange strikeJoinsSpec)

/-- ITS FALSE NEIGHBOUR: 'it returns false'. Refute it at one input. -/
def strikeJoinsWrong : ChangeSpec := { name := "strikeJoins", fn := fun _ => fun
  | [d1, d2] => { results := [.lit (.bool false)], args := [d1, d2] }
  | _ => none }
def StrikeJoinsWrongFalsely : Prop := strikeJoinsRow.holds Try.pinned (OpenSpec.ofChange strikeJoinsWrong)

/-- 'verditerlaw04.StrikeTurns': WHATEVER THE INPUT: true; the input reads as it did. -/
def strikeTurnsSpec : ChangeSpec := { name := "strikeTurns", fn := fun _ => fun
  | [d] => { results := [.lit (.bool true)], args := [d] }
  | _ => none }
def strikeTurnsRow : OpenClaim := { program := "ytdneelgnmnpanaa", sum := "ca0c2047ad724d3418afef8ac2c5c6fd0bdccf990658c72462eb62d87a59c01b", func := "verditer/verditerlaw04.StrikeTurns", spec := "strikeTurns", unfollowed := true, recurses := true, apart := false }
def StrikeTurnsSaid : Prop := strikeTurnsRow.holds Try.pinned (OpenSpec.ofChange strikeTurnsSpec)

/-- ITS FALSE NEIGHBOUR: 'it returns false'. Refute it at one input. -/
def strikeTurnsWrong : ChangeSpec := { name := "strikeTurns", fn := fun _ => fun
  | [d] => { results := [.lit (.bool false)], args := [d] }
  | _ => none }
def StrikeTurnsWrongFalsely : Prop := strikeTurnsRow.holds Try.pinned (OpenSpec.ofChange strikeTurnsWrong)

/- THE SECOND FORM. 'bulk': how many values and letters a reading holds, each counted each time it is reached (what is shared counts as often as it is met; a slice's spare places count too). A statement '..UptoSaid' is the law's where the arguments, and the package variables that the reading takes, are together of bulk at most 1048576: NARROWER than '..Said'. Prove '..Said' where nothing that the law and all that it calls make is longer than what came in: it says more and counts as full. Else prove '..UptoSaid'. A law counts once. -/
mutual
def uptoBulk {H : Type} : DataW H → Nat
  | .lit (.string bytes) => bytes.length + 1
  | .lit _ => 1
  | .nil => 1
  | .ptr d => uptoBulk d + 1
  | .slice elems spare => uptoBulkAll elems + uptoBulkAll spare + 1
  | .agg parts => uptoBulkAll parts + 1
  | .iface _ d => uptoBulk d + 1
  | .map entries => uptoBulkEntries entries + 1
  | .held _ => 1
def uptoBulkAll {H : Type} : List (DataW H) → Nat
  | [] => 0
  | d :: r => uptoBulk d + uptoBulkAll r
def uptoBulkEntries {H : Type} : List (Lit × DataW H) → Nat
  | [] => 0
  | x :: r => uptoBulkEntry x + uptoBulkEntries r
def uptoBulkEntry {H : Type} : Lit × DataW H → Nat
  | (.string bytes, d) => bytes.length + uptoBulk d + 1
  | (_, d) => uptoBulk d + 1
 end
def uptoSmall : (H : Type) → List (DataW H) → Bool := fun _ ds => decide (uptoBulkAll ds ≤ 1048576)
def OpenSpec.upto (s : _root_.Go.ChangeSpec) : _root_.Go.OpenSpec := { _root_.Go.OpenSpec.ofChange s with cond := some uptoSmall }

/-- 'verditertop.TopStrikes', WHERE WHAT IT READS IS OF BULK AT MOST 1048576: true; the input reads as it did. -/
def topStrikesUptoRow : OpenClaim := { program := "ytdneelgnmnpanaa", sum := "ca0c2047ad724d3418afef8ac2c5c6fd0bdccf990658c72462eb62d87a59c01b", func := "verditer/verditertop.TopStrikes", spec := "topStrikes", unfollowed := true, recurses := true, apart := false, narrowed := true }
def TopStrikesUptoSaid : Prop := topStrikesUptoRow.holds Try.pinned (OpenSpec.upto topStrikesSpec)

/-- 'verditerlaw04.StrikeLimits', WHERE WHAT IT READS IS OF BULK AT MOST 1048576: true; the input reads as it did. -/
def strikeLimitsUptoRow : OpenClaim := { program := "ytdneelgnmnpanaa", sum := "ca0c2047ad724d3418afef8ac2c5c6fd0bdccf990658c72462eb62d87a59c01b", func := "verditer/verditerlaw04.StrikeLimits", spec := "strikeLimits", unfollowed := true, recurses := true, apart := false, narrowed := true }
def StrikeLimitsUptoSaid : Prop := strikeLimitsUptoRow.holds Try.pinned (OpenSpec.upto strikeLimitsSpec)

/-- 'verditerlaw04.StrikeBalances', WHERE WHAT IT READS IS OF BULK AT MOST 1048576: true; the input reads as it did. -/
def strikeBalancesUptoRow : OpenClaim := { program := "ytdneelgnmnpanaa", sum := "ca0c2047ad724d3418afef8ac2c5c6fd0bdccf990658c72462eb62d87a59c01b", func := "verditer/verditerlaw04.StrikeBalances", spec := "strikeBalances", unfollowed := true, recurses := true, apart := false, narrowed := true }
def StrikeBalancesUptoSaid : Prop := strikeBalancesUptoRow.holds Try.pinned (OpenSpec.upto strikeBalancesSpec)

/-- 'verditerlaw04.StrikeSpaces', WHERE WHAT IT READS IS OF BULK AT MOST 1048576: true; the input reads as it did. -/
def strikeSpacesUptoRow : OpenClaim := { program := "ytdneelgnmnpanaa", sum := "ca0c2047ad724d3418afef8ac2c5c6fd0bdccf990658c72462eb62d87a59c01b", func := "verditer/verditerlaw04.StrikeSpaces", spec := "strikeSpaces", unfollowed := true, recurses := true, apart := false, narrowed := true }
def StrikeSpacesUptoSaid : Prop := strikeSpacesUptoRow.holds Try.pinned (OpenSpec.upto strikeSpacesSpec)

/-- 'verditerlaw04.StrikeWeighs', WHERE WHAT IT READS IS OF BULK AT MOST 1048576: true; the input reads as it did. -/
def strikeWeighsUptoRow : OpenClaim := { program := "ytdneelgnmnpanaa", sum := "ca0c2047ad724d3418afef8ac2c5c6fd0bdccf990658c72462eb62d87a59c01b", func := "verditer/verditerlaw04.StrikeWeighs", spec := "strikeWeighs", unfollowed := true, recurses := true, apart := false, narrowed := true }
def StrikeWeighsUptoSaid : Prop := strikeWeighsUptoRow.holds Try.pinned (OpenSpec.upto strikeWeighsSpec)

/-- 'verditerlaw04.StrikeKeeps', WHERE WHAT IT READS IS OF BULK AT MOST 1048576: true; the input reads as it did. -/
def strikeKeepsUptoRow : OpenClaim := { program := "ytdneelgnmnpanaa", sum := "ca0c2047ad724d3418afef8ac2c5c6fd0bdccf990658c72462eb62d87a59c01b", func := "verditer/verditerlaw04.StrikeKeeps", spec := "strikeKeeps", unfollowed := true, recurses := true, apart := false, narrowed := true }
def StrikeKeepsUptoSaid : Prop := strikeKeepsUptoRow.holds Try.pinned (OpenSpec.upto strikeKeepsSpec)

/-- 'verditerlaw04.StrikeRuns', WHERE WHAT IT READS IS OF BULK AT MOST 1048576: true; the input reads as it did. -/
def strikeRunsUptoRow : OpenClaim := { program := "ytdneelgnmnpanaa", sum := "ca0c2047ad724d3418afef8ac2c5c6fd0bdccf990658c72462eb62d87a59c01b", func := "verditer/verditerlaw04.StrikeRuns", spec := "strikeRuns", unfollowed := true, recurses := true, apart := false, narrowed := true }
def StrikeRunsUptoSaid : Prop := strikeRunsUptoRow.holds Try.pinned (OpenSpec.upto strikeRunsSpec)

/-- 'verditerlaw04.StrikeForbids', WHERE WHAT IT READS IS OF BULK AT MOST 1048576: true; the input reads as it did. -/
def strikeForbidsUptoRow : OpenClaim := { program := "ytdneelgnmnpanaa", sum := "ca0c2047ad724d3418afef8ac2c5c6fd0bdccf990658c72462eb62d87a59c01b", func := "verditer/verditerlaw04.StrikeForbids", spec := "strikeForbids", unfollowed := true, recurses := true, apart := false, narrowed := true }
def StrikeForbidsUptoSaid : Prop := strikeForbidsUptoRow.holds Try.pinned (OpenSpec.upto strikeForbidsSpec)

/-- 'verditerlaw04.StrikeProves', WHERE WHAT IT READS IS OF BULK AT MOST 1048576: true; the input reads as it did. -/
def strikeProvesUptoRow : OpenClaim := { program := "ytdneelgnmnpanaa", sum := "ca0c2047ad724d3418afef8ac2c5c6fd0bdccf990658c72462eb62d87a59c01b", func := "verditer/verditerlaw04.StrikeProves", spec := "strikeProves", unfollowed := true, recurses := true, apart := false, narrowed := true }
def StrikeProvesUptoSaid : Prop := strikeProvesUptoRow.holds Try.pinned (OpenSpec.upto strikeProvesSpec)

/-- 'verditerlaw04.StrikeWithout', WHERE WHAT IT READS IS OF BULK AT MOST 1048576: true; the input reads as it did. -/
def strikeWithoutUptoRow : OpenClaim := { program := "ytdneelgnmnpanaa", sum := "ca0c2047ad724d3418afef8ac2c5c6fd0bdccf990658c72462eb62d87a59c01b", func := "verditer/verditerlaw04.StrikeWithout", spec := "strikeWithout", unfollowed := true, recurses := true, apart := false, narrowed := true }
def StrikeWithoutUptoSaid : Prop := strikeWithoutUptoRow.holds Try.pinned (OpenSpec.upto strikeWithoutSpec)

/-- 'verditerlaw04.StrikeSimples', WHERE WHAT IT READS IS OF BULK AT MOST 1048576: true; the input reads as it did. -/
def strikeSimplesUptoRow : OpenClaim := { program := "ytdneelgnmnpanaa", sum := "ca0c2047ad724d3418afef8ac2c5c6fd0bdccf990658c72462eb62d87a59c01b", func := "verditer/verditerlaw04.StrikeSimples", spec := "strikeSimples", unfollowed := true, recurses := true, apart := false, narrowed := true }
def StrikeSimplesUptoSaid : Prop := strikeSimplesUptoRow.holds Try.pinned (OpenSpec.upto strikeSimplesSpec)

/-- 'verditerlaw04.StrikeCans', WHERE WHAT IT READS IS OF BULK AT MOST 1048576: true; the input reads as it did. -/
def strikeCansUptoRow : OpenClaim := { program := "ytdneelgnmnpanaa", sum := "ca0c2047ad724d3418afef8ac2c5c6fd0bdccf990658c72462eb62d87a59c01b", func := "verditer/verditerlaw04.StrikeCans", spec := "strikeCans", unfollowed := true, recurses := true, apart := false, narrowed := true }
def StrikeCansUptoSaid : Prop := strikeCansUptoRow.holds Try.pinned (OpenSpec.upto strikeCansSpec)

/-- 'verditerlaw04.StrikeJoins', WHERE WHAT IT READS IS OF BULK AT MOST 1048576: true; the input reads as it did. -/
def strikeJoinsUptoRow : OpenClaim := { program := "ytdneelgnmnpanaa", sum := "ca0c2047ad724d3418afef8ac2c5c6fd0bdccf990658c72462eb62d87a59c01b", func := "verditer/verditerlaw04.StrikeJoins", spec := "strikeJoins", unfollowed := true, recurses := true, apart := false, narrowed := true }
def StrikeJoinsUptoSaid : Prop := strikeJoinsUptoRow.holds Try.pinned (OpenSpec.upto strikeJoinsSpec)

/-- 'verditerlaw04.StrikeTurns', WHERE WHAT IT READS IS OF BULK AT MOST 1048576: true; the input reads as it did. -/
def strikeTurnsUptoRow : OpenClaim := { program := "ytdneelgnmnpanaa", sum := "ca0c2047ad724d3418afef8ac2c5c6fd0bdccf990658c72462eb62d87a59c01b", func := "verditer/verditerlaw04.StrikeTurns", spec := "strikeTurns", unfollowed := true, recurses := true, apart := false, narrowed := true }
def StrikeTurnsUptoSaid : Prop := strikeTurnsUptoRow.holds Try.pinned (OpenSpec.upto strikeTurnsSpec)

end Rows
end Go.Proofs.Ytdneelgnmnpanaa
