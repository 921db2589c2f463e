/- The plain law behind WashTwice: for every list of grains, every time, depth and other time the printed law answers true; no conditions beyond the bounds of Go's ints. -/
import Derived.Test.YtbckhllkjlgbpaaPts
import Derived.Test.YtbckhllkjlgbpaaSame
import Derived.Test.YtbckhllkjlgbpaaP29
namespace Go.Proofs.Ytbckhllkjlgbpaa.P
open Go.RowKit Go.Proofs.YtbckhllkjlgbpaaW.PrintWords

theorem pts_two (l : List S58) (t o dp : Int) : pts l [t, o] dp = if vld l = 0 then if TOk t dp ∧ TOk o dp then ([l.map (elP dp [] [t, o]), l.map (elP dp [t] [o]), l.map fun x => mkR (red (x.f1 * (dp - sk x t dp) * (dp - sk x o dp)) (dp ^ 2))], 0) else ([], 1) else ([], vld l) := by
  unfold pts
  by_cases c : vld l = 0
  · rw [if_pos c, if_pos c, if_neg (by simp)]
    by_cases d : TOk t dp ∧ TOk o dp
    · rw [if_pos d, if_pos ⟨⟨by omega, by omega, d.1.2.2⟩, fun u hu => by
        simp only [List.mem_cons, List.not_mem_nil, or_false] at hu
        rcases hu with rfl | rfl
        · exact d.1
        · exact d.2⟩]
      rfl
    · rw [if_neg d, if_neg (fun h => d ⟨h.2 t (by simp), h.2 o (by simp)⟩)]
  · rw [if_neg c, if_neg c]
theorem in_WashTwice (l : List S58) (t dp o : Int) (_ : l.length * 16 ≤ 140737488351232) (_ : ∀ x ∈ l, Ok58 x) (_ : OkInt t) (_ : OkInt dp) (_ : OkInt o) : Ev (fun k => verditerlaw01_washTwice.f k l t dp o) true := by
  unfold verditerlaw01_washTwice.f
  simp only [show ∀ l, verditerlaw01_Long.f l = some (decide ((l.length : Int) > 40)) from fun _ => rfl, Option.bind_some, decide_eq_true_eq]
  by_cases c : (l.length : Int) > 40
  · simp only [c, if_true]
    exact Ev.bind known_ev (Ev.now _)
  simp only [c, if_false]
  refine Ev.bind (wash_Pots_ev l [t, t] dp) (Ev.bind (wash_Wash_ev l t dp 2) ?_)
  rw [pts_two]
  by_cases hv : vld l = 0
  case neg =>
    rw [if_neg hv, show wsh l t dp 2 = ([], vld l) by unfold wsh; rw [if_neg hv]]
    simp only [if_true, hv, if_false]
    exact Ev.bind known_ev (Ev.now _)
  rw [if_pos hv]
  by_cases ht : TOk t dp
  case neg =>
    rw [if_neg (fun h => ht h.1), show wsh l t dp 2 = ([], 1) by unfold wsh; rw [if_pos hv, if_neg (fun h => ht h.1)]]
    simp only [if_true, show ¬ ((1 : Int) = 0) by decide, if_false]
    exact Ev.bind known_ev (Ev.now _)
  have hll := ((vld_zero l).1 hv).1
  rw [if_pos ⟨ht, ht⟩, show wsh l t dp 2 = (l.map fun x => mkR (red (x.f1 * (dp - sk x t dp) * (dp - sk x t dp)) (dp ^ 2)), 0) by
    unfold wsh
    rw [if_pos hv, if_pos ⟨ht, by omega, by omega⟩]
    simp only [show (2 : Int).toNat = 2 from rfl]
    congr 2
    funext x
    rw [Int.pow_succ (dp - sk x t dp) 1, Int.pow_succ (dp - sk x t dp) 0, Int.pow_zero, Int.one_mul, Int.mul_assoc]]
  have hrd : ∀ a b e : List S30, rd_L4 [a, b, e] 2 = e := fun _ _ _ => rfl
  simp only [if_true, List.length_cons, List.length_nil, hrd, show (((0 + 1 + 1 + 1 : Nat) : Int) = 3) from rfl, show ((2 : Int) < 3) by decide]
  refine Ev.bind (sameRats_refl _ (by simp; omega)) ?_
  simp only [Bool.not_true]
  refine Ev.step (fun k => by rw [verditerlaw01_washTwice.j0]) ?_
  simp only [Bool.false_eq_true, if_false]
  refine Ev.bind (wash_Pots_ev l [t, o] dp) (Ev.bind (wash_Pots_ev l [o, t] dp) ?_)
  rw [pts_two, pts_two, if_pos hv, if_pos hv]
  by_cases ho : TOk o dp
  case neg =>
    rw [if_neg (fun h => ho h.2), if_neg (fun h => ho h.1)]
    simp only [if_true, show ¬ ((1 : Int) = 0) by decide, if_false]
    exact Ev.bind known_ev (Ev.now _)
  rw [if_pos ⟨ht, ho⟩, if_pos ⟨ho, ht⟩]
  simp only [if_true, List.length_cons, List.length_nil, hrd, show (((0 + 1 + 1 + 1 : Nat) : Int) = 3) from rfl, show ((2 : Int) < 3) by decide]
  rw [show (fun x : S58 => mkR (red (x.f1 * (dp - sk x t dp) * (dp - sk x o dp)) (dp ^ 2))) = (fun x : S58 => mkR (red (x.f1 * (dp - sk x o dp) * (dp - sk x t dp)) (dp ^ 2))) from by
    funext x
    rw [Int.mul_assoc, Int.mul_assoc, Int.mul_comm (dp - sk x t dp)]]
  refine Ev.bind (sameRats_refl _ (by simp; omega)) ?_
  simp only [if_true]
  exact Ev.bind known_ev (Ev.now _)
end Go.Proofs.Ytbckhllkjlgbpaa.P
