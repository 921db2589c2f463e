/- The plain law behind WashParts: for every size, time and depth the printed law answers true; no conditions beyond the bounds of Go's ints. -/
import Derived.Test.YtbckhllkjlgbpaaStl
import Derived.Test.YtbckhllkjlgbpaaPp
namespace Go.Proofs.Ytbckhllkjlgbpaa.P
open Go.RowKit Go.Proofs.YtbckhllkjlgbpaaW.PrintWords

/-- What Part answers. -/
def prt (s t dp : Int) : Int × Int × Int := if TOk t dp ∧ 1 ≤ s ∧ s ≤ 20 then ((red (sk ⟨s, 0⟩ t dp) dp).1, (red (sk ⟨s, 0⟩ t dp) dp).2, 0) else (0, 0, 1)
theorem ref_Part_ev (s t dp : Int) : Ev (fun k => verditerref01_Part.f k s t dp) (prt s t dp) := by
  unfold verditerref01_Part.f prt
  simp only [settling, Option.bind_some, decide_eq_true_eq, within]
  by_cases c : TOk t dp
  · simp only [c, if_true, true_and]
    refine Ev.step (fun k => by rw [verditerref01_Part.j0]) ?_
    by_cases c2 : 1 ≤ s ∧ s ≤ 20
    · simp only [c2, and_self, decide_true, Bool.not_true, Bool.false_eq_true, if_false, if_true]
      have hs := sk_bound ⟨s, 0⟩ t dp c2 ⟨c.1, c.2.1⟩ c.2.2
      have hd := c.2.2
      rw [sinks_ev ⟨s, 0⟩ t dp c2 ⟨c.1, c.2.1⟩]
      simp only [Option.bind_some]
      exact Ev.bind (Ratio_ev _ _ ⟨by omega, by omega⟩ ⟨by omega, by omega⟩) (Ev.now _)
    · simp only [c2, decide_false, Bool.not_false, if_true, if_false]
      exact Ev.now _
  · simp only [c, if_false, false_and]
    refine Ev.step (fun k => by rw [verditerref01_Part.j0]) ?_
    simp only [if_true]
    exact Ev.now _
theorem wash_Part_ev (s t dp : Int) : Ev (fun k => wash_Part.f k s t dp) (prt s t dp) := by
  unfold wash_Part.f prt
  simp only [isTime, Option.bind_some, decide_eq_true_eq]
  by_cases c : TOk t dp
  · simp only [show (0 ≤ t ∧ t ≤ 100 ∧ 1 ≤ dp ∧ dp ≤ 20) from c, and_self, if_true, c, true_and]
    by_cases c2 : s < 1
    · simp only [c2, if_true, show ¬ (1 ≤ s ∧ s ≤ 20) by omega, if_false]
      exact Ev.now _
    simp only [c2, if_false]
    by_cases c3 : s > 20
    · simp only [c3, if_true, show ¬ (1 ≤ s ∧ s ≤ 20) by omega, if_false]
      exact Ev.now _
    simp only [c3, if_false, show (1 ≤ s ∧ s ≤ 20) by omega, and_self, if_true]
    have hs := sk_bound ⟨s, 0⟩ t dp (by simp only; omega) ⟨c.1, c.2.1⟩ c.2.2
    have hd := c.2.2
    have e : mn (wrap64 (s * t)) dp = sk ⟨s, 0⟩ t dp := sk_mn ⟨s, 0⟩ t dp (by simp only; omega) ⟨c.1, c.2.1⟩
    rw [e]
    exact Ev.bind (ratio_ev _ _ ⟨by omega, by omega⟩ ⟨by omega, by omega⟩) (Ev.now _)
  · simp only [show ¬ (0 ≤ t ∧ t ≤ 100 ∧ 1 ≤ dp ∧ dp ≤ 20) from c, if_false, c, false_and]
    exact Ev.now _
theorem in_WashParts (s t dp : Int) (_ : OkInt s) (_ : OkInt t) (_ : OkInt dp) : Ev (fun k => verditerlaw01_WashParts.f k s t dp) true := by
  unfold verditerlaw01_WashParts.f
  refine Ev.bind (ref_Part_ev s t dp) (Ev.bind (wash_Part_ev s t dp) ?_)
  simp only [beq_self_eq_true, Bool.and_self, if_true]
  exact Ev.bind known_ev (Ev.now _)
end Go.Proofs.Ytbckhllkjlgbpaa.P
