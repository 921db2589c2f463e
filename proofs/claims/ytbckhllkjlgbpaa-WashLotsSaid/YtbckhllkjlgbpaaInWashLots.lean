/- The plain law behind WashLots: for every list of grains and every size the printed law answers true; no conditions beyond the bounds of Go's ints. -/
import Derived.Test.YtbckhllkjlgbpaaVld
import Derived.Test.YtbckhllkjlgbpaaP24
namespace Go.Proofs.Ytbckhllkjlgbpaa.P
open Go.RowKit Go.Proofs.YtbckhllkjlgbpaaW.PrintWords

theorem in_WashLots (l : List S58) (s : Int) (_ : l.length * 16 ≤ 140737488351232) (_ : ∀ x ∈ l, Ok58 x) (_ : OkInt s) : Ev (fun k => verditerlaw01_washLots.f k l s) true := by
  unfold verditerlaw01_washLots.f verditerlaw01_Long.f
  simp only [Option.bind_some, decide_eq_true_eq]
  by_cases c : (l.length : Int) > 40
  · simp only [c, if_true]
    exact Ev.bind known_ev (Ev.now _)
  · simp only [c, if_false]
    refine Ev.bind (ref_Mass l) (Ev.bind (ref_Below l s) (Ev.bind (wash_Mass_ev l) (Ev.bind (wash_Below_ev l s) (Ev.bind (wash_vld l) (Ev.bind (ref_vld l) ?_)))))
    simp only [if_true]
    exact Ev.bind known_ev (Ev.now _)
end Go.Proofs.Ytbckhllkjlgbpaa.P
