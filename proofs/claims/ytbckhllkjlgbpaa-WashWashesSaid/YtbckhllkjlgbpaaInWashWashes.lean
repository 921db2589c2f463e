/- The plain law behind WashWashes: for every list of grains, time, depth and number of settlings the printed law answers true; no conditions beyond the bounds of Go's ints. -/
import Derived.Test.YtbckhllkjlgbpaaSame
import Derived.Test.YtbckhllkjlgbpaaStl
import Derived.Test.YtbckhllkjlgbpaaP20
namespace Go.Proofs.Ytbckhllkjlgbpaa.P
open Go.RowKit Go.Proofs.YtbckhllkjlgbpaaW.PrintWords

theorem in_WashWashes (l : List S58) (t dp n : Int) (_ : l.length * 16 ≤ 140737488351232) (_ : ∀ x ∈ l, Ok58 x) (_ : OkInt t) (_ : OkInt dp) (_ : OkInt n) : Ev (fun k => verditerlaw01_washWashes.f k l t dp n) true := by
  unfold verditerlaw01_washWashes.f verditerlaw01_Long.f
  simp only [Option.bind_some, decide_eq_true_eq]
  by_cases c : (l.length : Int) > 40
  · simp only [c, if_true]
    exact Ev.bind known_ev (Ev.now _)
  · simp only [c, if_false]
    refine Ev.bind (ref_Wash_ev l t dp n) (Ev.bind (wash_Wash_ev l t dp n) (Ev.bind (sameRats_refl _ ?_) ?_))
    · unfold wsh
      split
      · split
        · simp; omega
        · simp
      · simp
    · simp only [if_true]
      exact Ev.bind known_ev (Ev.now _)
end Go.Proofs.Ytbckhllkjlgbpaa.P
