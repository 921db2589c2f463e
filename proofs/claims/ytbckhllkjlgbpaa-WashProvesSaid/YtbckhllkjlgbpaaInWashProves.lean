/- The plain law behind WashProves: for every two lists of grains and every list of moves the printed law answers true; no conditions beyond the bounds of Go's ints. -/
import Derived.Test.YtbckhllkjlgbpaaMov
import Derived.Test.YtbckhllkjlgbpaaP81
import Derived.Test.YtbckhllkjlgbpaaP38
namespace Go.Proofs.Ytbckhllkjlgbpaa.P
open Go.RowKit Go.Proofs.YtbckhllkjlgbpaaW.PrintWords

theorem ref_CheckFiner_ev (l m : List S58) (v : List S83) : Ev (fun k => verditerref01_CheckFiner.f k l m v) (chk l m v) := by
  unfold verditerref01_CheckFiner.f chk
  refine Ev.bind (ref_Two_ev l m) ?_
  by_cases c : pr l m = 0
  case neg =>
    simp only [c, if_false]
    exact Ev.now _
  simp only [c, if_true]
  refine Ev.bind (ref_Grind_ev m v) ?_
  by_cases d : (gr m v).2 = 0
  case neg =>
    simp only [d, if_false]
    exact Ev.now _
  simp only [d, if_true]
  refine Ev.bind (same_ev _ _ (gr_small m v)) ?_
  by_cases e : (gr m v).1 = l
  · simp only [e, decide_true, if_true]
    exact Ev.now _
  · simp only [e, decide_false, Bool.false_eq_true, if_false]
    exact Ev.now _
theorem wash_Moves_ev (l m : List S58) : ∃ g, Ev (fun k => wash_Moves.f k l m) (g, (fin l m).1, (fin l m).2) ∧ ((fin l m).1 = true → chk l m g = 0) ∧ ((fin l m).1 = false → g = []) := by
  unfold fin
  by_cases c : pr l m = 0
  case neg =>
    refine ⟨[], ?_, ?_, fun _ => rfl⟩
    · unfold wash_Moves.f
      refine Ev.bind (wash_pair_ev l m) ?_
      simp only [c, if_false]
      exact Ev.now _
    · rw [if_neg c]
      intro h
      cases h
  obtain ⟨hv, hw, hs⟩ := (pr_zero l m).1 c
  rw [if_pos c]
  by_cases d : nb 0 (T l) (T m) = true
  case neg =>
    rw [Bool.not_eq_true] at d
    refine ⟨[], ?_, ?_, fun _ => rfl⟩
    · unfold wash_Moves.f
      refine Ev.bind (wash_pair_ev l m) ?_
      simp only [c, if_true, wash_work_eq hv hw, d, Bool.false_eq_true, if_false, Option.bind_some]
      exact Ev.now _
    · intro h
      rw [d] at h
      cases h
  have hn := (nn_iff _ _ _ (by rw [T_length, T_length])).1 ((nb_nn _ _ _).1 d)
  have hl := hv.1
  have hm := hw.1
  obtain ⟨g, g1, g2, g3, g4⟩ := moves_l (T l) (T_length l) 12 l m [] (T m) (by omega) (by simp) hv.2 hw.2 (fun s => by
      by_cases c0 : s < 0
      · rw [blw_none l s (fun x hx => by have := hv.2.mass x hx; omega), blw_none m s (fun x hx => by have := hw.2.mass x hx; omega)]
        exact Int.le_refl _
      · by_cases c1 : s < 21
        · obtain ⟨n, rfl⟩ : ∃ n : Nat, s = (n : Int) := ⟨s.toNat, by omega⟩
          rw [blw_T hv n (by omega), blw_T hw n (by omega)]
          have := hn n (by rw [T_length]; omega)
          omega
        · rw [blw_all l s (fun x hx => by have := hv.2.mass x hx; omega), blw_all m s (fun x hx => by have := hw.2.mass x hx; omega), hs]
          exact Int.le_refl _) hs (T_length m) (fun i hi => by rw [T_at hw i hi, T_at hv i hi]; omega) (fun i hi => by rw [T_at hv i hi]; omega)
  refine ⟨g, ?_, fun _ => ?_, fun h => by rw [d] at h; cases h⟩
  · unfold wash_Moves.f
    refine Ev.bind (wash_pair_ev l m) ?_
    simp only [c, if_true, wash_work_eq hv hw, d, Option.bind_some, api_Grain_100.f, show l.length < 8796093022208 by omega, show m.length < 8796093022208 by omega]
    simpa using g4
  · unfold chk gr
    rw [if_pos c, if_pos ((vld_zero m).2 hw), if_neg (show ¬ ((g.length : Int) > 12) by omega), if_pos g2, show spr m zeros21 = T m from rfl, g3]
    simp only [col_T hv, (vld_zero l).2 hv, if_true]
theorem in_WashProves (l m : List S58) (v : List S83) (_ : l.length * 16 ≤ 140737488351232) (_ : ∀ x ∈ l, Ok58 x) (_ : m.length * 16 ≤ 140737488351232) (_ : ∀ x ∈ m, Ok58 x) (_ : v.length * 16 ≤ 140737488351232) (_ : ∀ x ∈ v, Ok83 x) :
    Ev (fun k => verditerlaw01_washProves.f k l m v) true := by
  have hout : Ev (fun k => verditerlaw01_washProves.j0 k l m v true) true := by
    refine Ev.step (fun k => by rw [verditerlaw01_washProves.j0]) ?_
    simp only [if_true]
    exact Ev.bind known_ev (Ev.now _)
  unfold verditerlaw01_washProves.f
  simp only [show ∀ l, verditerlaw01_Long.f l = some (decide ((l.length : Int) > 40)) from fun _ => rfl, Option.bind_some, decide_eq_true_eq]
  by_cases c : (l.length : Int) > 40
  · simp only [c, if_true]
    exact hout
  simp only [c, if_false]
  by_cases d : (m.length : Int) > 40
  · simp only [d, if_true]
    exact hout
  simp only [d, if_false]
  by_cases g : (v.length : Int) > 60
  · simp only [g, decide_true]
    exact hout
  simp only [g, decide_false]
  refine Ev.step (fun k => by rw [verditerlaw01_washProves.j0]) ?_
  simp only [Bool.false_eq_true, if_false]
  refine Ev.bind (wash_CheckFiner_ev l m v) (Ev.bind (ref_CheckFiner_ev l m v) ?_)
  simp only [if_true]
  obtain ⟨w, w1, w2, w3⟩ := wash_Moves_ev l m
  refine Ev.bind (ref_IsFiner_ev l m) (Ev.bind w1 ?_)
  simp only [bne_self_eq_false, Bool.false_eq_true, if_false]
  refine Ev.step (fun k => by rw [verditerlaw01_washProves.j1]) ?_
  simp only [Bool.false_eq_true, if_false]
  by_cases e : (fin l m).1 = true
  · simp only [e, if_true]
    refine Ev.bind (ref_CheckFiner_ev l m w) ?_
    simp only [w2 e, if_true]
    exact Ev.bind known_ev (Ev.now _)
  · rw [Bool.not_eq_true] at e
    simp only [e, Bool.false_eq_true, if_false, w3 e, List.length_nil, Int.natCast_zero, if_true]
    exact Ev.bind known_ev (Ev.now _)
end Go.Proofs.Ytbckhllkjlgbpaa.P
