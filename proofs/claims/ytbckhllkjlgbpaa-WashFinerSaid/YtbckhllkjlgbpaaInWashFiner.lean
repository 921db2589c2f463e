/- The plain law behind WashFiner: for every two lists of grains the printed law answers true; no conditions beyond the bounds of Go's ints. -/
import Derived.Test.YtbckhllkjlgbpaaSame
import Derived.Test.YtbckhllkjlgbpaaTwo
import Derived.Test.YtbckhllkjlgbpaaP33
namespace Go.Proofs.Ytbckhllkjlgbpaa.P
open Go.RowKit Go.Proofs.YtbckhllkjlgbpaaW.PrintWords

theorem long_ev (l : List S58) : verditerlaw01_Long.f l = some (decide ((l.length : Int) > 40)) := rfl
theorem pr_comm {l m : List S58} (h : pr l m = 0) : pr m l = 0 := by
  rw [pr_zero] at h ⊢
  exact ⟨h.2.1, h.1, h.2.2.symm⟩
/-- The mean of a finer lot is not greater. -/
theorem mean_le {l m : List S58} (h : pr l m = 0) (hn : nn 0 (T l) (T m)) (hl : l ≠ []) : (red (szm l) (sm l)).1 * (red (szm m) (sm m)).2 ≤ (red (szm m) (sm m)).1 * (red (szm l) (sm l)).2 := by
  obtain ⟨hv, hw, e⟩ := (pr_zero l m).1 h
  have t0 := tot_nonneg _ _ _ hn
  have t1 := tot_wsum (T l) (T m) 0 0 (by rw [T_length, T_length])
  rw [wsum_T hv, wsum_T hw, ← sm_T hv, ← sm_T hw, e] at t1
  have hle : szm l ≤ szm m := by simp at t1; omega
  have hp := sm_pos l hv.small.2 hl
  rw [e] at hp ⊢
  obtain ⟨b1, _⟩ := szm_bound l hv.all'
  obtain ⟨b2, _⟩ := szm_bound m hw.all'
  obtain ⟨g1, hg1, x1, x2, x3, x4⟩ := red_parts (szm l) (sm m) b1 (by omega)
  obtain ⟨g2, hg2, y1, y2, y3, y4⟩ := red_parts (szm m) (sm m) b2 (by omega)
  generalize (red (szm l) (sm m)).1 = p at *
  generalize (red (szm l) (sm m)).2 = q at *
  generalize (red (szm m) (sm m)).1 = r at *
  generalize (red (szm m) (sm m)).2 = s at *
  have key : szm l * sm m ≤ szm m * sm m := Int.mul_le_mul_of_nonneg_right hle (by omega)
  have k1 : szm l * sm m = (g1 * g2) * (p * s) := by
    rw [show szm l * sm m = (g1 * p) * (g2 * s) by rw [← x1, ← y2]]
    simp only [Int.mul_comm, Int.mul_left_comm]
  have k2 : szm m * sm m = (g1 * g2) * (r * q) := by
    rw [show szm m * sm m = (g2 * r) * (g1 * q) by rw [← y1, ← x2]]
    simp only [Int.mul_comm, Int.mul_left_comm]
  rw [k1, k2] at key
  exact Int.le_of_mul_le_mul_left key (Int.mul_pos hg1 hg2)
theorem in_WashFiner (l m : List S58) (_ : l.length * 16 ≤ 140737488351232) (_ : ∀ x ∈ l, Ok58 x) (_ : m.length * 16 ≤ 140737488351232) (_ : ∀ x ∈ m, Ok58 x) : Ev (fun k => verditerlaw01_washFiner.f k l m) true := by
  have hout : Ev (fun k => verditerlaw01_washFiner.j0 k l m true) true := by
    refine Ev.step (fun k => by rw [verditerlaw01_washFiner.j0]) ?_
    simp only [if_true]
    exact Ev.bind known_ev (Ev.now _)
  have hj1 : ∀ e, e ≠ 0 → ∀ b, Ev (fun k => verditerlaw01_washFiner.j1 k l m b e false) true := by
    intro e he b
    refine Ev.step (fun k => by rw [verditerlaw01_washFiner.j1]) ?_
    simp only [Bool.false_eq_true, he, if_false]
    refine Ev.step (fun k => by rw [verditerlaw01_washFiner.j2]) ?_
    simp only [if_true]
    exact Ev.bind known_ev (Ev.now _)
  unfold verditerlaw01_washFiner.f
  simp only [long_ev, Option.bind_some, decide_eq_true_eq]
  by_cases c : (l.length : Int) > 40
  · simp only [c, if_true]
    exact hout
  simp only [c, if_false]
  by_cases d : (m.length : Int) > 40
  · simp only [d, decide_true]
    exact hout
  simp only [d, decide_false]
  refine Ev.step (fun k => by rw [verditerlaw01_washFiner.j0]) ?_
  simp only [Bool.false_eq_true, if_false]
  refine Ev.bind (ref_IsFiner_ev l m) (Ev.bind (wash_IsFiner_ev l m) ?_)
  simp only [bne_self_eq_false, Bool.false_eq_true, if_false]
  by_cases e : pr l m = 0
  case neg =>
    unfold fin
    rw [if_neg e]
    exact hj1 _ e _
  obtain ⟨hv, hw, es⟩ := (pr_zero l m).1 e
  rw [show fin l m = (nb 0 (T l) (T m), 0) by unfold fin; rw [if_pos e]]
  refine Ev.step (fun k => by rw [verditerlaw01_washFiner.j1]) ?_
  simp only [Bool.false_eq_true, if_false, if_true]
  refine Ev.step (fun k => by rw [verditerlaw01_washFiner.j2]) ?_
  by_cases f : nb 0 (T l) (T m) = true
  case neg =>
    rw [Bool.not_eq_true] at f
    simp only [f, Bool.not_false, if_true]
    exact Ev.bind known_ev (Ev.now _)
  have hn := (nb_nn _ _ _).1 f
  simp only [f, Bool.not_true, Bool.false_eq_true, if_false]
  refine Ev.bind (wash_IsFiner_ev m l) ?_
  rw [show fin m l = (nb 0 (T m) (T l), 0) by unfold fin; rw [if_pos (pr_comm e)]]
  simp only [if_true]
  refine Ev.bind (same_ev l m (by omega)) ?_
  have hs : nb 0 (T m) (T l) = decide (l = m) := by
    by_cases g : l = m
    · subst g
      simp [f]
    · rw [decide_eq_false g]
      by_cases g2 : nb 0 (T m) (T l) = true
      · have := nn_both _ _ (by rw [T_length, T_length]) hn ((nb_nn _ _ _).1 g2)
        exact absurd (by rw [← col_T hv, ← col_T hw, this]) g
      · simpa using g2
  rw [hs, bne_self_eq_false]
  refine Ev.step (fun k => by rw [verditerlaw01_washFiner.j3]) ?_
  simp only [Bool.false_eq_true, if_false]
  refine Ev.bind (wash_Mean_ev l) (Ev.bind (wash_Mean_ev m) ?_)
  by_cases g : (l.length : Int) = 0
  · have hl : l = [] := List.eq_nil_of_length_eq_zero (by omega)
    have hm : m = [] := by
      cases m with
      | nil => rfl
      | cons x r =>
        have := sm_pos (x :: r) hw.small.2 (by simp)
        rw [hl, sm] at es
        omega
    subst hl
    subst hm
    simp only [g, if_true]
    rw [show mea [] = (0, 0, 4) from rfl]
    simp only [if_true]
    exact Ev.bind known_ev (Ev.now _)
  · have hl : l ≠ [] := by
      intro h
      rw [h] at g
      exact g rfl
    have hm : ¬ (m.length : Int) = 0 := by
      intro h
      have hm : m = [] := List.eq_nil_of_length_eq_zero (by omega)
      have := sm_pos l hv.small.2 hl
      rw [hm] at es
      rw [show sm [] = 0 from rfl] at es
      omega
    simp only [g, if_false]
    have e1 : mea l = ((red (szm l) (sm l)).1, (red (szm l) (sm l)).2, 0) := by unfold mea; rw [if_pos ((vld_zero l).2 hv), if_neg g]
    have e2 : mea m = ((red (szm m) (sm m)).1, (red (szm m) (sm m)).2, 0) := by unfold mea; rw [if_pos ((vld_zero m).2 hw), if_neg hm]
    rw [e1, e2]
    simp only [if_true]
    have hp := sm_pos l hv.small.2 hl
    obtain ⟨b1, b2⟩ := szm_bound l hv.all'
    obtain ⟨b3, b4⟩ := szm_bound m hw.all'
    obtain ⟨_, b5⟩ := sm_bound l hv.small.2
    have l6 := hv.1
    have m6 := hw.1
    obtain ⟨p1, p2, p3, p4⟩ := red_bound (szm l) (sm l) b1 (by omega)
    obtain ⟨q1, q2, q3, q4⟩ := red_bound (szm m) (sm m) b3 (by omega)
    refine Ev.bind (small_ev _ (by simp) (fun x hx => ?_)) ?_
    · simp only [List.mem_cons, List.not_mem_nil, or_false] at hx
      rcases hx with rfl | rfl
      · exact ⟨p3, by show (red (szm l) (sm l)).2 ≤ _; omega, p1, by show (red (szm l) (sm l)).1 ≤ _; omega⟩
      · exact ⟨q3, by show (red (szm m) (sm m)).2 ≤ _; omega, q1, by show (red (szm m) (sm m)).1 ≤ _; omega⟩
    · simp only [if_true]
      have h1 := mul_bound (a := (red (szm l) (sm l)).1) (b := (red (szm m) (sm m)).2) (A := 20000) (B := 20000) ⟨p1, by omega⟩ ⟨by omega, by omega⟩
      have h2 := mul_bound (a := (red (szm m) (sm m)).1) (b := (red (szm l) (sm l)).2) (A := 20000) (B := 20000) ⟨q1, by omega⟩ ⟨by omega, by omega⟩
      rw [wr (by omega) (by omega), wr (by omega) (by omega)]
      simp only [mean_le e hn hl, if_true]
      exact Ev.bind known_ev (Ev.now _)
end Go.Proofs.Ytbckhllkjlgbpaa.P
