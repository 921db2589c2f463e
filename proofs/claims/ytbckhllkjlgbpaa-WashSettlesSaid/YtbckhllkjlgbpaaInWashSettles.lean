/- The plain law behind WashSettles: for every list of grains, time and depth the printed law answers true; no conditions beyond the bounds of Go's ints. -/
import Derived.Test.YtbckhllkjlgbpaaSame
import Derived.Test.YtbckhllkjlgbpaaStl
import Derived.Test.YtbckhllkjlgbpaaP18
namespace Go.Proofs.Ytbckhllkjlgbpaa.P
open Go.RowKit Go.Proofs.YtbckhllkjlgbpaaW.PrintWords

theorem settles_l (l : List S58) (t dp : Int) (hv : Valid l) (ht : TOk t dp) : ∀ d n : Nat, n + d = l.length →
    Ev (fun k => verditerlaw01_washSettles.l0 k l (l.map fun x => mkR (red (x.f1 * sk x t dp) dp)) (l.map fun x => mkR (red (x.f1 * (dp - sk x t dp)) dp)) (n : Int)) true := by
  intro d
  induction d with
  | zero =>
    intro n hn
    refine Ev.step (fun k => by rw [verditerlaw01_washSettles.l0]) ?_
    simp only [show ¬ ((n : Int) < (l.length : Int)) by omega, if_false]
    exact Ev.bind known_ev (Ev.now _)
  | succ d ih =>
    intro n hn
    refine Ev.step (fun k => by rw [verditerlaw01_washSettles.l0]) ?_
    have hq : n < l.length := by omega
    have hsm := hv.small.1
    generalize hx : l[n] = x
    have hx1 := hv.all x (by rw [← hx]; exact List.getElem_mem hq)
    have hs := sk_bound x t dp hx1.1 ⟨ht.1, ht.2.1⟩ ht.2.2
    have hd := ht.2.2
    have e1 : rd_T30 (l.map fun x => mkR (red (x.f1 * sk x t dp) dp)) (n : Int) = mkR (red (x.f1 * sk x t dp) dp) := by simp [rd_T30, hq, hx]
    have e2 : rd_T30 (l.map fun x => mkR (red (x.f1 * (dp - sk x t dp)) dp)) (n : Int) = mkR (red (x.f1 * (dp - sk x t dp)) dp) := by simp [rd_T30, hq, hx]
    have e3 : rd_T58 l (n : Int) = x := by rw [rd58_n l n hq, hx]
    simp only [List.length_map, show ((n : Int) < (l.length : Int)) by omega, show (0 : Int) ≤ (n : Int) by omega, if_true, e1, e2, e3]
    have m1 := mul_bound ⟨show 0 ≤ x.f1 by omega, hx1.2.2⟩ ⟨hs.1, show sk x t dp ≤ 20 by omega⟩
    have m2 := mul_bound ⟨show 0 ≤ x.f1 by omega, hx1.2.2⟩ ⟨show 0 ≤ dp - sk x t dp by omega, show dp - sk x t dp ≤ 20 by omega⟩
    have b1 := red_bound (x.f1 * sk x t dp) dp m1.1 (by omega)
    have b2 := red_bound (x.f1 * (dp - sk x t dp)) dp m2.1 (by omega)
    have hadd := red_add (x.f1 * sk x t dp) (x.f1 * (dp - sk x t dp)) dp m1.1 m2.1 (by omega)
    have hsum : x.f1 * sk x t dp + x.f1 * (dp - sk x t dp) = dp * x.f1 := by rw [← Int.mul_add, Int.add_comm, Int.sub_add_cancel, Int.mul_comm]
    have hone : red (dp * x.f1) dp = red x.f1 1 := by
      have := red_mul dp x.f1 1 (by omega)
      rwa [Int.mul_one] at this
    rw [hsum, hone] at hadd
    simp only [mkR]
    refine Ev.bind (small_ev _ (by simp) (fun y hy => ?_)) ?_
    · simp only [List.mem_cons, List.not_mem_nil, or_false] at hy
      unfold Sml
      rcases hy with rfl | rfl <;> simp only <;> omega
    simp only [if_true]
    refine Ev.bind (Add_ev _ _ _ _ ⟨b1.1, by omega⟩ ⟨b1.2.2.1, by omega⟩ ⟨b2.1, by omega⟩ ⟨b2.2.2.1, by omega⟩) ?_
    refine Ev.bind (Ratio_ev x.f1 1 (by omega) (by omega)) ?_
    rw [hadd]
    simp only [beq_self_eq_true, Bool.not_true, Bool.or_self, Bool.false_eq_true, if_false]
    rw [wr_succ (m := l.length) hq (by omega)]
    exact ih (n + 1) (by omega)
theorem in_WashSettles (l : List S58) (t dp : Int) (_ : l.length * 16 ≤ 140737488351232) (_ : ∀ x ∈ l, Ok58 x) (_ : OkInt t) (_ : OkInt dp) : Ev (fun k => verditerlaw01_washSettles.f k l t dp) true := by
  unfold verditerlaw01_washSettles.f verditerlaw01_Long.f
  simp only [Option.bind_some, decide_eq_true_eq]
  by_cases c : (l.length : Int) > 40
  · simp only [c, if_true]
    exact Ev.bind known_ev (Ev.now _)
  · simp only [c, if_false]
    have hl1 : (stl l t dp).1.length ≤ 1000 := by
      unfold stl
      split
      · split <;> simp; omega
      · simp
    have hl2 : (stl l t dp).2.1.length ≤ 1000 := by
      unfold stl
      split
      · split <;> simp; omega
      · simp
    refine Ev.bind (ref_Settle_ev l t dp) (Ev.bind (wash_Settle_ev l t dp) (Ev.bind (sameRats_refl _ hl1) ?_))
    simp only [if_true]
    refine Ev.bind (sameRats_refl _ hl2) ?_
    simp only [if_true, bne_self_eq_false]
    refine Ev.step (fun k => by rw [verditerlaw01_washSettles.j0]) ?_
    simp only [Bool.false_eq_true, if_false]
    unfold stl
    by_cases c1 : vld l = 0
    · have hv := (vld_zero l).1 c1
      by_cases c2 : TOk t dp
      · simp only [c1, c2, if_true, List.length_map, bne_self_eq_false]
        refine Ev.step (fun k => by rw [verditerlaw01_washSettles.j1]) ?_
        simp only [Bool.false_eq_true, if_false]
        exact settles_l l t dp hv c2 l.length 0 (by omega)
      · simp only [c1, c2, if_true, if_false, show ¬ ((1 : Int) = 0) by decide]
        exact Ev.bind known_ev (Ev.now _)
    · simp only [c1, if_false]
      exact Ev.bind known_ev (Ev.now _)
end Go.Proofs.Ytbckhllkjlgbpaa.P
