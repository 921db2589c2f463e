/- Two lots against each other: what the printed functions of the program and of the reference answer, for lists of any grains; no conditions. -/
import Derived.Test.YtbckhllkjlgbpaaTab
import Derived.Test.YtbckhllkjlgbpaaPg
import Derived.Test.YtbckhllkjlgbpaaPh
import Derived.Test.YtbckhllkjlgbpaaWork
namespace Go.Proofs.Ytbckhllkjlgbpaa.P
open Go.RowKit Go.Proofs.YtbckhllkjlgbpaaW.PrintWords

/-- The code of the error of two lots of one mass. -/
def pr (l m : List S58) : Int := if vld l = 0 then if vld m = 0 then if sm l = sm m then 0 else 5 else vld m else vld l
theorem pr_zero (l m : List S58) : pr l m = 0 ↔ Valid l ∧ Valid m ∧ sm l = sm m := by
  rw [← vld_zero, ← vld_zero]
  unfold pr
  by_cases c1 : vld l = 0
  · rw [if_pos c1]
    by_cases c2 : vld m = 0
    · rw [if_pos c2]
      by_cases c3 : sm l = sm m
      · simp [c1, c2, c3]
      · simp [c1, c2, c3]
    · simp [c1, c2]
  · simp [c1]
theorem ref_Two_ev (l m : List S58) : Ev (fun k => verditerref01_Two.f k l m) (pr l m) := by
  unfold verditerref01_Two.f pr
  refine Ev.bind (ref_vld l) ?_
  by_cases c : vld l = 0
  · simp only [c, if_true]
    have hv := (vld_zero l).1 c
    refine Ev.bind (ref_vld m) ?_
    by_cases d : vld m = 0
    · simp only [d, if_true]
      have hw := (vld_zero m).1 d
      refine Ev.bind (ref_below l 20 hv.small.1 hv.small.2) (Ev.bind (ref_below m 20 hw.small.1 hw.small.2) ?_)
      rw [blw_all l 20 (fun x hx => (hv.2.mass x hx).2.1), blw_all m 20 (fun x hx => (hw.2.mass x hx).2.1)]
      by_cases e : sm l = sm m
      · simp only [e, if_true]
        exact Ev.now _
      · simp only [e, if_false]
        exact Ev.now _
    · simp only [d, if_false]
      exact Ev.now _
  · simp only [c, if_false]
    exact Ev.now _
theorem wash_pair_ev (l m : List S58) : Ev (fun k => wash_pair.f k l m) (pr l m) := by
  unfold wash_pair.f pr
  refine Ev.bind (wash_vld l) ?_
  by_cases c : vld l = 0
  · simp only [c, if_true]
    have hv := (vld_zero l).1 c
    refine Ev.bind (wash_vld m) ?_
    by_cases d : vld m = 0
    · simp only [d, if_true]
      have hw := (vld_zero m).1 d
      refine Ev.bind (wash_mass_ev l hv.small.1 hv.small.2) (Ev.bind (wash_mass_ev m hw.small.1 hw.small.2) ?_)
      by_cases e : sm l = sm m
      · simp only [e, if_true]
        exact Ev.now _
      · simp only [e, if_false]
        exact Ev.now _
    · simp only [d, if_false]
      exact Ev.now _
  · simp only [c, if_false]
    exact Ev.now _

/-- Nowhere less lies below, as a test. -/
def nb : Int → List Int → List Int → Bool
  | ah, x :: a, y :: b => if ah + (x - y) < 0 then false else nb (ah + (x - y)) a b
  | _, _, _ => true
theorem nb_nn : ∀ (a b : List Int) (ah : Int), nb ah a b = true ↔ nn ah a b
  | [], _, _ => by simp [nb, nn]
  | _ :: _, [], _ => by simp [nb, nn]
  | x :: a, y :: b, ah => by
    rw [nb, nn]
    by_cases c : ah + (x - y) < 0
    · rw [if_pos c]
      constructor
      · intro h
        cases h
      · intro h
        omega
    · rw [if_neg c, nb_nn a b]
      exact ⟨fun h => ⟨by omega, h⟩, fun h => h.2⟩
theorem wk_nb : ∀ (a b : List Int) (ah s : Int), wk a b ah s = if nb ah a b = true then (s + tot ah a b, true) else (0, false)
  | [], b, _, s => by cases b <;> simp [wk, nb, tot]
  | _ :: _, [], _, s => by simp [wk, nb, tot]
  | x :: a, y :: b, ah, s => by
    rw [wk, nb, tot]
    by_cases c : ah + (x - y) < 0
    · rw [if_pos c, if_pos c]
      rfl
    · rw [if_neg c, if_neg c, wk_nb a b, Int.add_assoc]
theorem blw_at {l : List S58} (hv : Valid l) {p r : List Int} {x : Int} (e : T l = p ++ x :: r) : blw l (p.length : Int) = p.sum + x := by
  have hl : (T l).length = p.length + (r.length + 1) := by rw [e]; simp
  rw [T_length] at hl
  rw [blw_T hv p.length (by omega), e, List.take_append, List.take_of_length_le (by omega), show p.length + 1 - p.length = 1 by omega, List.sum_append]
  simp
theorem ref_IsFiner_l (l m : List S58) (hv : Valid l) (hw : Valid m) : ∀ (a b p q : List Int) (d : Nat), a.length = d → b.length = d → p.length + d = 21 → q.length = p.length → T l = p ++ a → T m = q ++ b →
    Ev (fun k => verditerref01_IsFiner.l0 k l m (p.length : Int)) (nb (p.sum - q.sum) a b, 0) := by
  intro a
  induction a with
  | nil =>
    intro b p q d ha hb hp hq e1 e2
    have h0 : d = 0 := by simpa using ha.symm
    refine Ev.step (fun k => by rw [verditerref01_IsFiner.l0]) ?_
    simp only [show ¬ ((p.length : Int) ≤ 20) by omega, if_false, nb]
    exact Ev.now _
  | cons x a ih =>
    intro b p q d ha hb hp hq e1 e2
    match b, hb with
    | [], hb => simp at ha hb; omega
    | y :: b, hb =>
      simp only [List.length_cons] at ha hb
      refine Ev.step (fun k => by rw [verditerref01_IsFiner.l0]) ?_
      simp only [show ((p.length : Int) ≤ 20) by omega, if_true]
      refine Ev.bind (ref_below l _ hv.small.1 hv.small.2) (Ev.bind (ref_below m _ hw.small.1 hw.small.2) ?_)
      rw [blw_at hv e1, ← hq, blw_at hw e2, hq, nb]
      by_cases c : p.sum + x < q.sum + y
      · simp only [c, if_true, show p.sum - q.sum + (x - y) < 0 by omega]
        exact Ev.now _
      · simp only [c, if_false, show ¬ (p.sum - q.sum + (x - y) < 0) by omega]
        rw [wr_succ (m := 21) (by omega) (by omega)]
        have h := ih b (p ++ [x]) (q ++ [y]) (d - 1) (by omega) (by omega) (by simp; omega) (by simp [hq]) (by rw [e1]; simp) (by rw [e2]; simp)
        rw [show (p ++ [x]).length = p.length + 1 by simp, List.sum_append, List.sum_append, show (p.sum + [x].sum - (q.sum + [y].sum)) = p.sum - q.sum + (x - y) by simp; omega] at h
        exact h
/-- What IsFiner answers. -/
def fin (l m : List S58) : Bool × Int := if pr l m = 0 then (nb 0 (T l) (T m), 0) else (false, pr l m)
theorem ref_IsFiner_ev (l m : List S58) : Ev (fun k => verditerref01_IsFiner.f k l m) (fin l m) := by
  unfold verditerref01_IsFiner.f fin
  refine Ev.bind (ref_Two_ev l m) ?_
  by_cases c : pr l m = 0
  · simp only [c, if_true]
    obtain ⟨hv, hw, _⟩ := (pr_zero l m).1 c
    obtain ⟨a, ea, la⟩ := T_zero hv
    obtain ⟨b, eb, lb⟩ := T_zero hw
    have h := ref_IsFiner_l l m hv hw a b [0] [0] 20 la lb rfl rfl ea eb
    rw [ea, eb, nb, if_neg (by omega)]
    simpa using h
  · simp only [c, if_false]
    exact Ev.now _
theorem wash_work_eq {l m : List S58} (hv : Valid l) (hw : Valid m) : wash_work.f l m = some (if nb 0 (T l) (T m) = true then (tot 0 (T l) (T m), true) else (0, false)) := by
  unfold wash_work.f
  rw [if_pos ⟨(vld_zero l).2 hv, (vld_zero m).2 hw⟩, wk_nb, Int.zero_add]
  rfl
theorem wash_IsFiner_ev (l m : List S58) : Ev (fun k => wash_IsFiner.f k l m) (fin l m) := by
  unfold wash_IsFiner.f fin
  refine Ev.bind (wash_pair_ev l m) ?_
  by_cases c : pr l m = 0
  · simp only [c, if_true]
    obtain ⟨hv, hw, _⟩ := (pr_zero l m).1 c
    rw [wash_work_eq hv hw]
    by_cases d : nb 0 (T l) (T m) = true
    · simp only [d, if_true, Option.bind_some]
      exact Ev.now _
    · rw [Bool.not_eq_true] at d
      simp only [d, Bool.false_eq_true, if_false, Option.bind_some]
      exact Ev.now _
  · simp only [c, if_false]
    exact Ev.now _

/-! ### the work -/
theorem ref_Work_l (l m : List S58) (hv : Valid l) (hw : Valid m) : ∀ (a b p q : List Int) (d : Nat) (s : Int), a.length = d → b.length = d → p.length + d = 21 → q.length = p.length → T l = p ++ a → T m = q ++ b →
    0 ≤ s → s ≤ 600 * p.length → nn (p.sum - q.sum) a b →
    Ev (fun k => verditerref01_Work.l0 k l m s (p.length : Int)) (s + tot (p.sum - q.sum) a b, true, 0) := by
  intro a
  induction a with
  | nil =>
    intro b p q d s ha hb hp hq e1 e2 _ _ _
    have h0 : d = 0 := by simpa using ha.symm
    refine Ev.step (fun k => by rw [verditerref01_Work.l0]) ?_
    simp only [show ¬ ((p.length : Int) ≤ 20) by omega, if_false, tot, Int.add_zero]
    exact Ev.now _
  | cons x a ih =>
    intro b p q d s ha hb hp hq e1 e2 h0 h1 hn
    match b, hb with
    | [], hb => simp at ha hb; omega
    | y :: b, hb =>
      simp only [List.length_cons] at ha hb
      rw [nn] at hn
      refine Ev.step (fun k => by rw [verditerref01_Work.l0]) ?_
      simp only [show ((p.length : Int) ≤ 20) by omega, if_true]
      refine Ev.bind (ref_below l _ hv.small.1 hv.small.2) (Ev.bind (ref_below m _ hw.small.1 hw.small.2) ?_)
      have b1 := blw_bound l p.length hv.small.2
      have b2 := blw_bound m q.length hw.small.2
      have b3 := hv.1
      have b4 := hw.1
      rw [blw_at hv e1] at b1
      rw [blw_at hw e2] at b2
      rw [blw_at hv e1, ← hq, blw_at hw e2, hq, tot, wr (x := p.sum + x - (q.sum + y)) (by omega) (by omega), wr (by omega) (by omega), wr_succ (m := 21) (by omega) (by omega)]
      have h := ih b (p ++ [x]) (q ++ [y]) (d - 1) (s + (p.sum + x - (q.sum + y))) (by omega) (by omega) (by simp; omega) (by simp [hq]) (by rw [e1]; simp) (by rw [e2]; simp) (by omega) (by simp; omega) (by
        rw [List.sum_append, List.sum_append, show (p.sum + [x].sum - (q.sum + [y].sum)) = p.sum - q.sum + (x - y) by simp; omega]
        exact hn.2)
      rw [show (p ++ [x]).length = p.length + 1 by simp, List.sum_append, List.sum_append, show (p.sum + [x].sum - (q.sum + [y].sum)) = p.sum - q.sum + (x - y) by simp; omega] at h
      rw [show s + (p.sum + x - (q.sum + y)) + tot (p.sum - q.sum + (x - y)) a b = s + (p.sum - q.sum + (x - y) + tot (p.sum - q.sum + (x - y)) a b) by omega] at h
      exact h
/-- What Work answers. -/
def wrk (l m : List S58) : Int × Bool × Int := if pr l m = 0 then (if nb 0 (T l) (T m) = true then (tot 0 (T l) (T m), true, 0) else (0, false, 0)) else (0, false, pr l m)
theorem ref_Work_ev (l m : List S58) : Ev (fun k => verditerref01_Work.f k l m) (wrk l m) := by
  unfold verditerref01_Work.f wrk
  refine Ev.bind (ref_IsFiner_ev l m) ?_
  unfold fin
  by_cases c : pr l m = 0
  · simp only [c, if_true]
    obtain ⟨hv, hw, _⟩ := (pr_zero l m).1 c
    by_cases d : nb 0 (T l) (T m) = true
    · simp only [d, if_true, Bool.not_true]
      refine Ev.step (fun k => by rw [verditerref01_Work.j0]) ?_
      simp only [Bool.false_eq_true, if_false]
      obtain ⟨a, ea, la⟩ := T_zero hv
      obtain ⟨b, eb, lb⟩ := T_zero hw
      have hn := (nb_nn _ _ _).1 d
      rw [ea, eb, nn] at hn
      have h := ref_Work_l l m hv hw a b [0] [0] 20 0 la lb rfl rfl ea eb (by omega) (by simp) (by simpa using hn.2)
      rw [ea, eb, tot]
      simpa using h
    · rw [Bool.not_eq_true] at d
      simp only [d, Bool.false_eq_true, if_false, Bool.not_false]
      refine Ev.step (fun k => by rw [verditerref01_Work.j0]) ?_
      simp only [if_true]
      exact Ev.now _
  · simp only [c, if_false]
    refine Ev.step (fun k => by rw [verditerref01_Work.j0]) ?_
    simp only [if_true]
    exact Ev.now _
theorem wash_Work_ev (l m : List S58) : Ev (fun k => wash_Work.f k l m) (wrk l m) := by
  unfold wash_Work.f wrk
  refine Ev.bind (wash_pair_ev l m) ?_
  by_cases c : pr l m = 0
  · simp only [c, if_true]
    obtain ⟨hv, hw, _⟩ := (pr_zero l m).1 c
    rw [wash_work_eq hv hw]
    by_cases d : nb 0 (T l) (T m) = true
    · simp only [d, if_true, Option.bind_some]
      exact Ev.now _
    · rw [Bool.not_eq_true] at d
      simp only [d, Bool.false_eq_true, if_false, Option.bind_some]
      exact Ev.now _
  · simp only [c, if_false]
    exact Ev.now _
end Go.Proofs.Ytbckhllkjlgbpaa.P
