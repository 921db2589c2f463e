/- The plain law behind StrikeWeighs: for every strike, weights and times the printed law answers true; no conditions. -/
import Derived.Test.YtdneelgnmnpanaaSd
import Derived.Test.YtdneelgnmnpanaaKn
namespace Go.Proofs.Ytdneelgnmnpanaa.P
open Go.RowKit Go.Proofs.YtdneelgnmnpanaaW.PrintWords
set_option linter.unusedVariables false
set_option linter.unusedSimpArgs false
theorem in_StrikeWeighs (I O : List (List Int)) (x y : List Int) : Ev (fun k => verditerlaw04_strikeWeighs.f k I O x y) true := by
  have hkn : Ev (fun k => verditerlaw04_strikeWeighs.j0 k x y true I O) true := Ev.step (fun k => by rw [verditerlaw04_strikeWeighs.j0]) (by
    simp only [if_true]
    exact Ev.bind known_ev (Ev.now _))
  unfold verditerlaw04_strikeWeighs.f
  obtain ⟨b, hb, hsh⟩ := long_ev I O
  refine Ev.bind hb ?_
  cases b with
  | true => simp only [if_true]; exact hkn
  | false =>
    have hs := hsh rfl
    simp only [Bool.false_eq_true, if_false, many_eq, Option.bind_some]
    by_cases h1 : (x.length : Int) > 100
    · simp only [h1, decide_true, if_true]
      exact hkn
    · by_cases h2 : (y.length : Int) > 100
      · simp only [h1, decide_false, Bool.false_eq_true, if_false, h2, decide_true]
        exact hkn
      · simp only [h1, decide_false, Bool.false_eq_true, if_false, h2]
        refine Ev.step (fun k => by rw [verditerlaw04_strikeWeighs.j0]) ?_
        simp only [Bool.false_eq_true, if_false]
        refine Ev.bind (rWeigh_ev hs x (by omega)) ?_
        refine Ev.bind (relements_ev hs y (by omega)) ?_
        refine Ev.bind (Weigh_ev hs x (by omega)) ?_
        refine Ev.bind (elements_ev hs y (by omega)) ?_
        simp only [if_true]
        refine Ev.bind (same_ev _ ?_) ?_
        · unfold wgs
          split
          · rename_i hw
            obtain ⟨hv, -⟩ := wg_zero hw
            have := vl_size hv
            simp
            omega
          · simp
        simp only [if_true]
        have hel : (els I O y).1.length ≤ 1000 ∧ (els I O y).2.1.length ≤ 1000 := by
          unfold els
          split
          · rename_i hw
            obtain ⟨hv, -⟩ := tm_zero hw
            obtain ⟨s1, s2, s3, s4, s5, s6, s7⟩ := vl_size hv
            have l1 := sacc_length (I.getD 0 []).length I y (zs (I.getD 0 []).length) (fun c hc => (s7 c (List.mem_append_left _ hc)).1) (by simp [zs])
            have l2 := sacc_length (I.getD 0 []).length O (y.drop I.length) (zs (I.getD 0 []).length) (fun c hc => (s7 c (List.mem_append_right _ hc)).1) (by simp [zs])
            show (inS I O y).length ≤ 1000 ∧ (outS I O y).length ≤ 1000
            unfold inS outS
            omega
          · simp
        refine Ev.bind (same_ev _ (by omega)) ?_
        simp only [if_true]
        refine Ev.bind (same_ev _ (by omega)) ?_
        simp only [if_true]
        exact Ev.bind known_ev (Ev.now _)
end Go.Proofs.Ytdneelgnmnpanaa.P
