/- What the program answers of times that balance. No conditions beyond those that each theorem names. -/
import Derived.Test.YtdneelgnmnpanaaSe
import Derived.Test.YtdneelgnmnpanaaP53
namespace Go.Proofs.Ytdneelgnmnpanaa.P
open Go.RowKit Go.Proofs.YtdneelgnmnpanaaW.PrintWords
set_option linter.unusedVariables false
def bal (I O : List (List Int)) (t : List Int) : Bool × Int := if tm I O t = 0 then (decide (inS I O t = outS I O t), 0) else (false, tm I O t)
theorem Balances_ev {I O : List (List Int)} (h : Sh I O) (t : List Int) (ht : t.length ≤ 1000) : Ev (fun k => strike_Balances.f k I O t) (bal I O t) := by
  unfold strike_Balances.f bal
  refine Ev.bind (timed_ev h t ht) ?_
  by_cases c : tm I O t = 0
  · simp only [c, if_true]
    obtain ⟨h1, h2, -⟩ := tm_zero c
    exact Ev.bind (balances_ev h1 t h2) (Ev.now _)
  · simp only [c, if_false]
    exact Ev.now _
end Go.Proofs.Ytdneelgnmnpanaa.P
