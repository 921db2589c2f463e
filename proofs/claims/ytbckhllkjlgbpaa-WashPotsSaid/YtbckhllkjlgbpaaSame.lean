/- Lists that are compared: what the printed SameRats, Same, SameRows and slices.Equal answer; no conditions beyond lengths. -/
import Derived.Test.YtbckhllkjlgbpaaBase
import Derived.Test.YtbckhllkjlgbpaaPb
namespace Go.Proofs.Ytbckhllkjlgbpaa.P
open Go.RowKit Go.Proofs.YtbckhllkjlgbpaaW.PrintWords

theorem sameRats_refl_l (q : List S30) (h : q.length ≤ 1000) : ∀ d n : Nat, n + d = q.length → Ev (fun k => verditerref01_SameRats.l0 k q q (n : Int)) true := by
  intro d
  induction d with
  | zero =>
    intro n hn
    refine Ev.step (fun k => by rw [verditerref01_SameRats.l0]) ?_
    simp only [show ¬ ((n : Int) < (q.length : Int)) by omega, if_false]
    exact Ev.now _
  | succ d ih =>
    intro n hn
    refine Ev.step (fun k => by rw [verditerref01_SameRats.l0]) ?_
    simp only [show ((n : Int) < (q.length : Int)) by omega, show (0 : Int) ≤ (n : Int) by omega, if_true, beq_self_eq_true, Bool.not_true, Bool.or_self, Bool.false_eq_true, if_false]
    rw [wr_succ (m := q.length) (by omega) (by omega)]
    exact ih (n + 1) (by omega)
theorem sameRats_refl (q : List S30) (h : q.length ≤ 1000) : Ev (fun k => verditerref01_SameRats.f k q q) true := by
  unfold verditerref01_SameRats.f
  simp only [if_true]
  exact sameRats_refl_l q h q.length 0 (by omega)
theorem ext58 {x y : S58} (h0 : x.f0 = y.f0) (h1 : x.f1 = y.f1) : x = y := by
  cases x
  cases y
  simp_all
instance : DecidableEq S58 := fun x y => if h : x.f0 = y.f0 ∧ x.f1 = y.f1 then isTrue (ext58 h.1 h.2) else isFalse (fun e => h (by rw [e]; exact ⟨rfl, rfl⟩))
theorem neq58 (x y : S58) : ((!(x.f0 == y.f0) || (!(x.f1 == y.f1))) = true) ↔ x ≠ y := by
  constructor
  · intro h e
    subst e
    simp at h
  · intro h
    by_cases c : x.f0 = y.f0
    · by_cases c2 : x.f1 = y.f1
      · exact absurd (ext58 c c2) h
      · simp [c2]
    · simp [c]
theorem rd58_n (l : List S58) (n : Nat) (h : n < l.length) : rd_T58 l (n : Int) = l[n] := by
  simp [rd_T58, h]
theorem same_l (a b : List S58) (h : a.length ≤ 1000) (e : a.length = b.length) : ∀ d n : Nat, n + d = a.length → Ev (fun k => verditerref01_Same.l0 k a b (n : Int)) (decide (a.drop n = b.drop n)) := by
  intro d
  induction d with
  | zero =>
    intro n hn
    refine Ev.step (fun k => by rw [verditerref01_Same.l0]) ?_
    simp only [show ¬ ((n : Int) < (a.length : Int)) by omega, if_false]
    rw [List.drop_eq_nil_of_le (by omega), List.drop_eq_nil_of_le (by omega)]
    exact Ev.now _
  | succ d ih =>
    intro n hn
    refine Ev.step (fun k => by rw [verditerref01_Same.l0]) ?_
    have ha : n < a.length := by omega
    have hb : n < b.length := by omega
    simp only [show ((n : Int) < (a.length : Int)) by omega, show ((n : Int) < (b.length : Int)) by omega, show (0 : Int) ≤ (n : Int) by omega, if_true, rd58_n a n ha, rd58_n b n hb, neq58]
    rw [wr_succ (m := a.length) (by omega) (by omega), List.drop_eq_getElem_cons ha, List.drop_eq_getElem_cons hb]
    by_cases c : a[n] = b[n]
    · simp only [c, ne_eq, not_true_eq_false, if_false, List.cons.injEq, true_and]
      exact ih (n + 1) (by omega)
    · simp only [c, ne_eq, not_false_eq_true, if_true, List.cons.injEq, false_and, decide_false]
      exact Ev.now _
theorem same_ev (a b : List S58) (h : a.length ≤ 1000) : Ev (fun k => verditerref01_Same.f k a b) (decide (a = b)) := by
  unfold verditerref01_Same.f
  by_cases e : a.length = b.length
  · simp only [show ((a.length : Int) = (b.length : Int)) by omega, if_true]
    have := same_l a b h e a.length 0 (by omega)
    simpa using this
  · simp only [show ¬ ((a.length : Int) = (b.length : Int)) by omega, if_false]
    rw [decide_eq_false (fun c => e (by rw [c]))]
    exact Ev.now _
theorem equal_l (a b : List S58) (h : a.length ≤ 1000) (e : a.length = b.length) : ∀ d n : Nat, n + d = a.length → Ev (fun k => api_Grain_99.l0 k a b (a.length : Int) (n : Int)) (decide (a.drop n = b.drop n)) := by
  intro d
  induction d with
  | zero =>
    intro n hn
    refine Ev.step (fun k => by rw [api_Grain_99.l0]) ?_
    simp only [show ¬ ((n : Int) < (a.length : Int)) by omega, if_false]
    rw [List.drop_eq_nil_of_le (by omega), List.drop_eq_nil_of_le (by omega)]
    exact Ev.now _
  | succ d ih =>
    intro n hn
    refine Ev.step (fun k => by rw [api_Grain_99.l0]) ?_
    have ha : n < a.length := by omega
    have hb : n < b.length := by omega
    simp only [show ((n : Int) < (a.length : Int)) by omega, show ((n : Int) < (b.length : Int)) by omega, show (0 : Int) ≤ (n : Int) by omega, if_true, rd58_n a n ha, rd58_n b n hb, neq58]
    rw [wr_succ (m := a.length) (by omega) (by omega), List.drop_eq_getElem_cons ha, List.drop_eq_getElem_cons hb]
    by_cases c : a[n] = b[n]
    · simp only [c, ne_eq, not_true_eq_false, if_false, List.cons.injEq, true_and]
      exact ih (n + 1) (by omega)
    · simp only [c, ne_eq, not_false_eq_true, if_true, List.cons.injEq, false_and, decide_false]
      exact Ev.now _
theorem equal_ev (a b : List S58) (h : a.length ≤ 1000) : Ev (fun k => api_Grain_99.f k a b) (decide (a = b)) := by
  unfold api_Grain_99.f
  by_cases e : a.length = b.length
  · simp only [show ((a.length : Int) = (b.length : Int)) by omega, if_true]
    have := equal_l a b h e a.length 0 (by omega)
    rw [show (b.length : Int) = (a.length : Int) by omega]
    simpa using this
  · simp only [show ¬ ((a.length : Int) = (b.length : Int)) by omega, if_false]
    rw [decide_eq_false (fun c => e (by rw [c]))]
    exact Ev.now _
theorem sameRows_refl_l (q : List (List S30)) (h : q.length ≤ 1000) (hr : ∀ r ∈ q, r.length ≤ 1000) : ∀ d n : Nat, n + d = q.length → Ev (fun k => verditerref01_SameRows.l0 k q q (n : Int)) true := by
  intro d
  induction d with
  | zero =>
    intro n hn
    refine Ev.step (fun k => by rw [verditerref01_SameRows.l0]) ?_
    simp only [show ¬ ((n : Int) < (q.length : Int)) by omega, if_false]
    exact Ev.now _
  | succ d ih =>
    intro n hn
    refine Ev.step (fun k => by rw [verditerref01_SameRows.l0]) ?_
    simp only [show ((n : Int) < (q.length : Int)) by omega, show (0 : Int) ≤ (n : Int) by omega, if_true]
    have hq : n < q.length := by omega
    have e : rd_L4 q (n : Int) = q[n] := by simp [rd_L4, hq]
    rw [e]
    refine Ev.bind (sameRats_refl _ (hr _ (List.getElem_mem hq))) ?_
    simp only [if_true]
    rw [wr_succ (m := q.length) (by omega) (by omega)]
    exact ih (n + 1) (by omega)
theorem sameRows_refl (q : List (List S30)) (h : q.length ≤ 1000) (hr : ∀ r ∈ q, r.length ≤ 1000) : Ev (fun k => verditerref01_SameRows.f k q q) true := by
  unfold verditerref01_SameRows.f
  simp only [if_true]
  exact sameRows_refl_l q h hr q.length 0 (by omega)

/-- Fractions that can be calculated with. -/
def Sml (x : S30) : Prop := 1 ≤ x.f1 ∧ x.f1 ≤ 200000 ∧ 0 ≤ x.f0 ∧ x.f0 ≤ 100000000
theorem small_l (q : List S30) (h : q.length ≤ 1000) (hs : ∀ x ∈ q, Sml x) : ∀ d n : Nat, n + d = q.length → Ev (fun k => verditerlaw01_small.l0 k q (n : Int)) true := by
  intro d
  induction d with
  | zero =>
    intro n hn
    refine Ev.step (fun k => by rw [verditerlaw01_small.l0]) ?_
    simp only [show ¬ ((n : Int) < (q.length : Int)) by omega, if_false]
    exact Ev.now _
  | succ d ih =>
    intro n hn
    refine Ev.step (fun k => by rw [verditerlaw01_small.l0]) ?_
    have hq : n < q.length := by omega
    have e : rd_T30 q (n : Int) = q[n] := by simp [rd_T30, hq]
    obtain ⟨s1, s2, s3, s4⟩ := hs _ (List.getElem_mem hq)
    simp only [show ((n : Int) < (q.length : Int)) by omega, show (0 : Int) ≤ (n : Int) by omega, if_true, e, show ¬ (q[n].f1 < 1) by omega, show ¬ (q[n].f1 > 200000) by omega, show ¬ (q[n].f0 < 0) by omega, show ¬ (q[n].f0 > 100000000) by omega, if_false]
    rw [wr_succ (m := q.length) (by omega) (by omega)]
    exact ih (n + 1) (by omega)
theorem small_ev (q : List S30) (h : q.length ≤ 1000) (hs : ∀ x ∈ q, Sml x) : Ev (fun k => verditerlaw01_small.f k q) true := small_l q h hs q.length 0 (by omega)
end Go.Proofs.Ytbckhllkjlgbpaa.P
