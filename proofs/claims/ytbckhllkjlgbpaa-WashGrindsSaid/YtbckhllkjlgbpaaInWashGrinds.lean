/- The plain law behind WashGrinds: for every list of grains and every list of moves the printed law answers true; no conditions beyond the bounds of Go's ints. -/
import Derived.Test.YtbckhllkjlgbpaaMvs
import Derived.Test.YtbckhllkjlgbpaaP35
namespace Go.Proofs.Ytbckhllkjlgbpaa.P
open Go.RowKit Go.Proofs.YtbckhllkjlgbpaaW.PrintWords

theorem in_WashGrinds (l : List S58) (v : List S83) (_ : l.length * 16 ≤ 140737488351232) (_ : ∀ x ∈ l, Ok58 x) (_ : v.length * 16 ≤ 140737488351232) (_ : ∀ x ∈ v, Ok83 x) : Ev (fun k => verditerlaw01_washGrinds.f k l v) true := by
  have hout : Ev (fun k => verditerlaw01_washGrinds.j0 k l v true) true := by
    refine Ev.step (fun k => by rw [verditerlaw01_washGrinds.j0]) ?_
    simp only [if_true]
    exact Ev.bind known_ev (Ev.now _)
  unfold verditerlaw01_washGrinds.f
  simp only [show ∀ l, verditerlaw01_Long.f l = some (decide ((l.length : Int) > 40)) from fun _ => rfl, Option.bind_some, decide_eq_true_eq]
  by_cases c : (l.length : Int) > 40
  · simp only [c, if_true]
    exact hout
  simp only [c, if_false]
  by_cases d : (v.length : Int) > 60
  · simp only [d, decide_true]
    exact hout
  simp only [d, decide_false]
  refine Ev.step (fun k => by rw [verditerlaw01_washGrinds.j0]) ?_
  simp only [Bool.false_eq_true, if_false, Option.bind_some, List.length_nil, List.nil_append, show 0 + l.length < 8796093022208 by omega, if_true]
  refine Ev.bind (ref_Grind_ev l v) ?_
  rw [show wash_Grind.f l v = some (gr l v) from rfl]
  simp only [Option.bind_some]
  refine Ev.bind (same_ev _ _ (gr_small l v)) ?_
  simp only [decide_true, if_true]
  refine Ev.bind (same_ev l l (by omega)) ?_
  simp only [decide_true, Bool.not_true]
  refine Ev.step (fun k => by rw [verditerlaw01_washGrinds.j1]) ?_
  simp only [Bool.false_eq_true, if_false]
  by_cases e : (gr l v).2 = 0
  case neg =>
    simp only [e, if_false]
    exact Ev.bind known_ev (Ev.now _)
  simp only [e, if_true]
  obtain ⟨h1, h2, _⟩ := gr_finer (l := l) (v := v) (a := (gr l v).1) (by rw [← e])
  refine Ev.bind (wash_IsFiner_ev _ l) ?_
  rw [show fin (gr l v).1 l = (true, 0) by unfold fin; rw [if_pos h1, h2]]
  simp only [if_true]
  exact Ev.bind known_ev (Ev.now _)
end Go.Proofs.Ytbckhllkjlgbpaa.P
