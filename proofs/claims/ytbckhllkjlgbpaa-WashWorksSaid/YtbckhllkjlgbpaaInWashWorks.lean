/- The plain law behind WashWorks: for every two lists of grains and every list of moves the printed law answers true; no conditions beyond the bounds of Go's ints. -/
import Derived.Test.YtbckhllkjlgbpaaMvs
import Derived.Test.YtbckhllkjlgbpaaP37
namespace Go.Proofs.Ytbckhllkjlgbpaa.P
open Go.RowKit Go.Proofs.YtbckhllkjlgbpaaW.PrintWords

theorem works_l (v : List S83) (a : Int) (hv : v.length ≤ 12) : ∀ (rest pre : List S83) (s : Int), v = pre ++ rest → (∀ x ∈ rest, MvOk x) → 0 ≤ s → s ≤ 2000 * pre.length → s + mvw rest = a →
    Ev (fun k => verditerlaw01_washWorks.l0 k v a true s (pre.length : Int)) true := by
  intro rest
  induction rest with
  | nil =>
    intro pre s e _ _ _ h
    refine Ev.step (fun k => by rw [verditerlaw01_washWorks.l0]) ?_
    rw [mvw, Int.add_zero] at h
    simp only [show ¬ ((pre.length : Int) < (v.length : Int)) by rw [e]; simp, if_false, h, if_true]
    exact Ev.bind known_ev (Ev.now _)
  | cons x rest ih =>
    intro pre s e hok h0 h1 h
    have hlen : pre.length < v.length := by rw [e]; simp
    have hx : rd_T83 v (pre.length : Int) = x := by
      rw [rd83_n v pre.length hlen]
      simp [e]
    obtain ⟨o1, o2, o3, o4, o5⟩ := hok x (List.mem_cons_self ..)
    have hb := mul_bound (a := x.f2) (b := x.f0 - x.f1) (A := 100) (B := 20) ⟨by omega, o5⟩ ⟨by omega, by omega⟩
    refine Ev.step (fun k => by rw [verditerlaw01_washWorks.l0]) ?_
    simp only [show ((pre.length : Int) < (v.length : Int)) by omega, show (0 : Int) ≤ (pre.length : Int) by omega, if_true, hx]
    rw [wr (x := x.f0 - x.f1) (by omega) (by omega), wr (x := x.f2 * (x.f0 - x.f1)) (by omega) (by omega), wr (x := s + x.f2 * (x.f0 - x.f1)) (by omega) (by omega), wr_succ (m := v.length) hlen (by omega)]
    rw [mvw] at h
    have g := ih (pre ++ [x]) (s + x.f2 * (x.f0 - x.f1)) (by rw [e]; simp) (fun y hy => hok y (List.mem_cons_of_mem _ hy)) (by omega) (by rw [List.length_append, List.length_singleton]; omega) (by omega)
    rw [show (pre ++ [x]).length = pre.length + 1 by simp] at g
    exact g
theorem in_WashWorks (l m : List S58) (v : List S83) (_ : l.length * 16 ≤ 140737488351232) (_ : ∀ x ∈ l, Ok58 x) (_ : m.length * 16 ≤ 140737488351232) (_ : ∀ x ∈ m, Ok58 x) (_ : v.length * 16 ≤ 140737488351232) (_ : ∀ x ∈ v, Ok83 x) :
    Ev (fun k => verditerlaw01_washWorks.f k l m v) true := by
  have hout : Ev (fun k => verditerlaw01_washWorks.j0 k l m v true) true := by
    refine Ev.step (fun k => by rw [verditerlaw01_washWorks.j0]) ?_
    simp only [if_true]
    exact Ev.bind known_ev (Ev.now _)
  unfold verditerlaw01_washWorks.f
  simp only [show ∀ l, verditerlaw01_Long.f l = some (decide ((l.length : Int) > 40)) from fun _ => rfl, Option.bind_some, decide_eq_true_eq]
  by_cases c : (l.length : Int) > 40
  · simp only [c, if_true]
    exact hout
  simp only [c, if_false]
  by_cases d : (m.length : Int) > 40
  · simp only [d, if_true]
    exact hout
  simp only [d, if_false]
  by_cases g : (v.length : Int) > 60
  · simp only [g, decide_true]
    exact hout
  simp only [g, decide_false]
  refine Ev.step (fun k => by rw [verditerlaw01_washWorks.j0]) ?_
  simp only [Bool.false_eq_true, if_false]
  refine Ev.bind (ref_Work_ev l m) (Ev.bind (wash_Work_ev l m) ?_)
  simp only [if_true, bne_self_eq_false, Bool.false_eq_true, if_false]
  refine Ev.step (fun k => by rw [verditerlaw01_washWorks.j1]) ?_
  simp only [Bool.false_eq_true, if_false]
  refine Ev.bind (wash_CheckFiner_ev l m v) ?_
  by_cases e : chk l m v = 0
  case neg =>
    simp only [e, if_false]
    exact Ev.bind known_ev (Ev.now _)
  simp only [e, if_true]
  have hall : pr l m = 0 ∧ gr m v = (l, 0) := by
    unfold chk at e
    by_cases h1 : pr l m = 0
    case neg => rw [if_neg h1] at e; exact absurd e h1
    rw [if_pos h1] at e
    by_cases h2 : (gr m v).2 = 0
    case neg => rw [if_neg h2] at e; exact absurd e h2
    rw [if_pos h2] at e
    by_cases h3 : (gr m v).1 = l
    case neg => rw [if_neg h3] at e; cases e
    exact ⟨h1, by rw [← h3, ← h2]⟩
  obtain ⟨h1, h2⟩ := hall
  obtain ⟨_, g2, g3⟩ := gr_finer h2
  obtain ⟨_, q1, q2, _⟩ := gr_spec (l := m) (v := v) (by rw [h2])
  rw [show wrk l m = (mvw v, true, 0) by unfold wrk; rw [if_pos h1, if_pos g2, g3]]
  exact works_l v (mvw v) q1 v [] 0 rfl q2 (by omega) (by simp) (by omega)
end Go.Proofs.Ytbckhllkjlgbpaa.P
