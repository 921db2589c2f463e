/- The plain law behind WashMeans: for every list of grains the printed law answers true; no conditions beyond the bounds of Go's ints. -/
import Derived.Test.YtbckhllkjlgbpaaMean
import Derived.Test.YtbckhllkjlgbpaaP30
namespace Go.Proofs.Ytbckhllkjlgbpaa.P
open Go.RowKit Go.Proofs.YtbckhllkjlgbpaaW.PrintWords
theorem in_WashMeans (l : List S58) (_ : l.length * 16 ≤ 140737488351232) (_ : ∀ x ∈ l, Ok58 x) : Ev (fun k => verditerlaw01_washMeans.f k l) true := by
  unfold verditerlaw01_washMeans.f verditerlaw01_Long.f
  simp only [Option.bind_some, decide_eq_true_eq]
  by_cases c : (l.length : Int) > 40
  · simp only [c, if_true]
    exact Ev.bind known_ev (Ev.now _)
  · simp only [c, if_false]
    refine Ev.bind (ref_Mean_ev l) (Ev.bind (ref_Middle_ev l) (Ev.bind (wash_Mean_ev l) (Ev.bind (wash_Middle_ev l) ?_)))
    simp only [beq_self_eq_true, Bool.and_self, if_true]
    exact Ev.bind known_ev (Ev.now _)
end Go.Proofs.Ytbckhllkjlgbpaa.P
