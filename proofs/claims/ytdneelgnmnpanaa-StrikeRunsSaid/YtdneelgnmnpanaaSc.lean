/- Plain facts that the strike laws share: the reference's Validate, lists within bounds, weights, sums; no conditions beyond those that each theorem names. -/
import Derived.Test.YtdneelgnmnpanaaSb
namespace Go.Proofs.Ytdneelgnmnpanaa.P
open Go.RowKit Go.Proofs.YtdneelgnmnpanaaW.PrintWords
set_option linter.unusedVariables false
set_option linter.unusedSimpArgs false
theorem sum_zero : ∀ (l : List Int), (∀ x ∈ l, 0 ≤ x) → 0 ≤ l.sum ∧ (l.sum = 0 ↔ ∀ x ∈ l, x = 0)
  | [], _ => by simp
  | x :: l, h => by
    have hx := h x (List.mem_cons_self ..)
    obtain ⟨h1, h2⟩ := sum_zero l (fun y hy => h y (List.mem_cons_of_mem _ hy))
    rw [List.sum_cons]
    refine ⟨by omega, ?_⟩
    rw [List.forall_mem_cons, ← h2]
    omega
theorem rval_l1 (I O : List (List Int)) (L : List (List Int)) (n : Nat) (hn : n < L.length) (hr : L[n].length ≤ 50) (R : Int) (hR : Ev (fun k => verditerref04_Validate.l0 k L (wrap64 ((n : Int) + 1)) I O) R) : ∀ (d j : Nat) (s : Int), j + d = L[n].length → 0 ≤ s → s ≤ 9 * (j : Int) →
    Ev (fun k => verditerref04_Validate.l1 k L (n : Int) s (j : Int) I O) (if inR 0 9 (L[n].drop j) = true then (if s + (L[n].drop j).sum = 0 then 1 else R) else 1) := by
  intro d
  induction d with
  | zero =>
    intro j s hj h0 h9
    refine Ev.step (fun k => by rw [verditerref04_Validate.l1]) ?_
    simp only [show (0 : Int) ≤ (n : Int) by omega, show (n : Int) < (L.length : Int) by omega, if_true, rdL, getD_at L n _ hn, show ¬ ((j : Int) < (L[n].length : Int)) by omega, if_false]
    rw [List.drop_eq_nil_of_le (by omega)]
    simp only [inR, List.all_nil, if_true, List.sum_nil, Int.add_zero]
    by_cases h : s = 0
    · simp only [h, if_true]
      exact Ev.now _
    · simp only [h, if_false]
      exact hR
  | succ d ih =>
    intro j s hj h0 h9
    have hlt : j < L[n].length := by omega
    refine Ev.step (fun k => by rw [verditerref04_Validate.l1]) ?_
    simp only [show (0 : Int) ≤ (n : Int) by omega, show (n : Int) < (L.length : Int) by omega, if_true, rdL, getD_at L n _ hn, show ((j : Int) < (L[n].length : Int)) by omega, show (0 : Int) ≤ (j : Int) by omega, rdn, getD_at L[n] j _ hlt]
    refine Ev.bind (Ev.congr (fun k => rwithin _ 0 9) (Ev.now _)) ?_
    rw [List.drop_eq_getElem_cons hlt, wr_succ (m := L[n].length) hlt (by omega)]
    by_cases h : 0 ≤ L[n][j] ∧ L[n][j] ≤ 9
    · rw [wrp (x := s + L[n][j]) (by omega) (by omega)]
      have := ih (j + 1) (s + L[n][j]) (by omega) (by omega) (by omega)
      simp only [h, and_self, decide_true, if_true, inR, List.all_cons, Bool.true_and, List.sum_cons, ← Int.add_assoc]
      exact this
    · simp only [h, decide_false, Bool.false_eq_true, if_false, inR, List.all_cons, Bool.false_and]
      exact Ev.now _
theorem rval_l0 (I O : List (List Int)) (hI : 0 < I.length) (L : List (List Int)) (hL : L.length ≤ 1000) (hr : ∀ r ∈ L, r.length ≤ 50) : ∀ (d n : Nat), n + d = L.length →
    Ev (fun k => verditerref04_Validate.l0 k L (n : Int) I O) (if (L.drop n).all (okr (I.getD 0 []).length) = true then 0 else 1) := by
  intro d
  induction d with
  | zero =>
    intro n hn
    refine Ev.step (fun k => by rw [verditerref04_Validate.l0]) ?_
    simp only [show ¬ ((n : Int) < (L.length : Int)) by omega, if_false]
    rw [List.drop_eq_nil_of_le (by omega)]
    exact Ev.now _
  | succ d ih =>
    intro n hn
    have hlt : n < L.length := by omega
    have hrl := hr _ (List.getElem_mem hlt)
    have h1 := rval_l1 I O L n hlt hrl _ (by rw [wr_succ (m := L.length) hlt (by omega)]; exact ih (n + 1) (by omega)) L[n].length 0 0 (by omega) (by omega) (by omega)
    refine Ev.step (fun k => by rw [verditerref04_Validate.l0]) ?_
    simp only [show ((n : Int) < (L.length : Int)) by omega, show (0 : Int) ≤ (n : Int) by omega, show (0 : Int) < (I.length : Int) by omega, if_true, rdL, rdL0]
    rw [List.drop_eq_getElem_cons hlt, List.all_cons, getD_at L n _ hlt]
    rw [List.drop_zero, Int.zero_add] at h1
    unfold okr
    by_cases c1 : L[n].length = (I.getD 0 []).length
    · simp only [show ((L[n].length : Int) = ((I.getD 0 []).length : Int)) by omega, if_true, c1, decide_true, Bool.true_and]
      by_cases c2 : inR 0 9 L[n] = true
      · have hpos : ∀ x ∈ L[n], 0 ≤ x := fun x hx => (of_decide_eq_true (List.all_eq_true.1 c2 x hx)).1
        obtain ⟨-, hz⟩ := sum_zero _ hpos
        simp only [c2, if_true] at h1
        simp only [c2, Bool.true_and]
        by_cases c3 : L[n].sum = 0
        · have c4 : L[n].all (fun x => decide (x = 0)) = true := List.all_eq_true.2 fun x hx => decide_eq_true (hz.1 c3 x hx)
          simp only [c3, if_true] at h1
          simp only [c4, Bool.not_true, Bool.false_and, Bool.false_eq_true, if_false]
          exact h1
        · have c4 : L[n].all (fun x => decide (x = 0)) = false := by
            cases hq : L[n].all (fun x => decide (x = 0)) with
            | true => exact absurd (hz.2 (fun x hx => of_decide_eq_true (List.all_eq_true.1 hq x hx))) c3
            | false => rfl
          simp only [c3, if_false] at h1
          simp only [c4, Bool.not_false, Bool.true_and]
          exact h1
      · simp only [c2, if_false] at h1
        rw [Bool.not_eq_true] at c2
        simp only [c2, Bool.false_and, Bool.false_eq_true, if_false]
        exact h1
    · simp only [show ¬ ((L[n].length : Int) = ((I.getD 0 []).length : Int)) by omega, if_false, c1, decide_false, Bool.false_and, Bool.false_eq_true]
      exact Ev.now _
theorem rval_ev {I O : List (List Int)} (h : Sh I O) : Ev (fun k => verditerref04_Validate.f k I O) (vl I O) := by
  obtain ⟨s1, s2, s3⟩ := h
  unfold verditerref04_Validate.f vl vsz
  have hnoE : Ev (fun k => verditerref04_Validate.j0 k true I O) 1 := Ev.step (fun k => by rw [verditerref04_Validate.j0]) (by simp only [if_true]; exact Ev.now _)
  refine Ev.bind (Ev.congr (fun k => rwithin _ 1 3) (Ev.now _)) ?_
  by_cases h1 : 1 ≤ I.length ∧ I.length ≤ 3
  · have h1' : (1 : Int) ≤ (I.length : Int) ∧ (I.length : Int) ≤ 3 := by omega
    simp only [h1, h1', and_self, decide_true, if_true, Bool.true_and]
    refine Ev.bind (Ev.congr (fun k => rwithin _ 1 3) (Ev.now _)) ?_
    by_cases h2 : 1 ≤ O.length ∧ O.length ≤ 3
    · have h2' : (1 : Int) ≤ (O.length : Int) ∧ (O.length : Int) ≤ 3 := by omega
      simp only [h2, h2', and_self, decide_true, if_true, Bool.true_and, show (0 : Int) < (I.length : Int) by omega, rdL0]
      refine Ev.bind (Ev.congr (fun k => rwithin _ 1 4) (Ev.now _)) ?_
      by_cases h3 : 1 ≤ (I.getD 0 []).length ∧ (I.getD 0 []).length ≤ 4
      · have h3' : (1 : Int) ≤ ((I.getD 0 []).length : Int) ∧ ((I.getD 0 []).length : Int) ≤ 4 := by omega
        simp only [h3, h3', and_self, decide_true, Bool.not_true, true_and]
        refine Ev.step (fun k => by rw [verditerref04_Validate.j0]) ?_
        simp only [Bool.false_eq_true, if_false, Option.bind_some, List.length_nil, List.nil_append, show 0 + I.length < 5864062014805 by omega, show I.length + O.length < 5864062014805 by omega, if_true]
        have := rval_l0 I O (by omega) (I ++ O) (by simp; omega) s3 (I ++ O).length 0 (by omega)
        rw [List.drop_zero] at this
        exact this
      · have h3' : ¬ ((1 : Int) ≤ ((I.getD 0 []).length : Int) ∧ ((I.getD 0 []).length : Int) ≤ 4) := by omega
        simp only [h3, h3', decide_false, Bool.not_false, Bool.false_eq_true, false_and, if_false]
        exact hnoE
    · have h2' : ¬ ((1 : Int) ≤ (O.length : Int) ∧ (O.length : Int) ≤ 3) := by omega
      simp only [h2, h2', decide_false, Bool.false_eq_true, if_false, Bool.false_and, false_and]
      exact hnoE
  · have h1' : ¬ ((1 : Int) ≤ (I.length : Int) ∧ (I.length : Int) ≤ 3) := by omega
    simp only [h1, h1', decide_false, Bool.false_eq_true, if_false, Bool.false_and, false_and]
    exact hnoE
/-! ### lists -/
theorem islist_l0 (l : List Int) (lo hi : Int) (hl : l.length ≤ 1000) : ∀ (d n : Nat), n + d = l.length → Ev (fun k => verditerref04_isList.l0 k l (l.length : Int) lo hi (n : Int)) (inR lo hi (l.drop n)) := by
  intro d
  induction d with
  | zero =>
    intro n hn
    refine Ev.step (fun k => by rw [verditerref04_isList.l0]) ?_
    simp only [show ¬ ((n : Int) < (l.length : Int)) by omega, if_false]
    rw [List.drop_eq_nil_of_le (by omega)]
    exact Ev.now _
  | succ d ih =>
    intro n hn
    have hlt : n < l.length := by omega
    refine Ev.step (fun k => by rw [verditerref04_isList.l0]) ?_
    simp only [show ((n : Int) < (l.length : Int)) by omega, show (0 : Int) ≤ (n : Int) by omega, if_true, rdn, getD_at l n _ hlt]
    refine Ev.bind (Ev.congr (fun k => rwithin _ lo hi) (Ev.now _)) ?_
    rw [List.drop_eq_getElem_cons hlt, wr_succ (m := l.length) hlt (by omega)]
    unfold inR
    rw [List.all_cons]
    by_cases h : lo ≤ l[n] ∧ l[n] ≤ hi
    · simp only [h, and_self, decide_true, if_true, Bool.true_and]
      exact ih (n + 1) (by omega)
    · simp only [h, decide_false, Bool.false_eq_true, if_false, Bool.false_and]
      exact Ev.now _
theorem islist_ev (l : List Int) (a lo hi : Int) (hl : l.length ≤ 1000) : Ev (fun k => verditerref04_isList.f k l a lo hi) (decide ((l.length : Int) = a) && inR lo hi l) := by
  unfold verditerref04_isList.f
  by_cases h : (l.length : Int) = a
  · subst h
    simp only [if_true, decide_true, Bool.true_and]
    have := islist_l0 l lo hi hl l.length 0 (by omega)
    rw [List.drop_zero] at this
    exact this
  · simp only [h, if_false, decide_false, Bool.false_and]
    exact Ev.now _
/-- The error of lists of numbers. -/
def lerr (n : Nat) (lo hi : Int) (l : List Int) : Int := if l.length = n ∧ inR lo hi l = true then 0 else 1
theorem lerr_of (l : List Int) (n : Nat) (lo hi : Int) (a : Int) (ha : a = (n : Int)) : (if (decide ((l.length : Int) = a) && inR lo hi l) = true then (some (0 : Int)) else some 1) = some (lerr n lo hi l) := by
  subst ha
  unfold lerr
  by_cases h : l.length = n
  · subst h
    cases inR lo hi l <;> simp
  · have : ¬ ((l.length : Int) = (n : Int)) := by omega
    simp [h, this]
def tm (I O : List (List Int)) (t : List Int) : Int := if vl I O = 0 then lerr (I.length + O.length) (-1000000) 1000000 t else vl I O
def wg (I O : List (List Int)) (t : List Int) : Int := if vl I O = 0 then lerr (I.getD 0 []).length (-1000000) 1000000 t else vl I O
theorem vl_size {I O : List (List Int)} (h : vl I O = 0) : 1 ≤ I.length ∧ I.length ≤ 3 ∧ 1 ≤ O.length ∧ O.length ≤ 3 ∧ 1 ≤ (I.getD 0 []).length ∧ (I.getD 0 []).length ≤ 4 ∧ ∀ c ∈ I ++ O, c.length = (I.getD 0 []).length ∧ ∀ x ∈ c, 0 ≤ x ∧ x ≤ 9 := by
  unfold vl at h
  split at h
  case isFalse => cases h
  rename_i hc
  obtain ⟨h1, h2⟩ := hc
  unfold vsz at h1
  simp only [Bool.and_eq_true, decide_eq_true_eq] at h1
  refine ⟨h1.1.1, h1.1.2, h1.2.1.1, h1.2.1.2, h1.2.2.1, h1.2.2.2, fun c hcm => ?_⟩
  have := List.all_eq_true.1 h2 c hcm
  unfold okr at this
  simp only [Bool.and_eq_true, decide_eq_true_eq] at this
  exact ⟨this.1, fun x hx => of_decide_eq_true (List.all_eq_true.1 this.2.1 x hx)⟩
theorem timed_ev {I O : List (List Int)} (h : Sh I O) (t : List Int) (ht : t.length ≤ 1000) : Ev (fun k => strike_timed.f k I O t) (tm I O t) := by
  unfold strike_timed.f tm
  refine Ev.bind (val_ev h) ?_
  by_cases c : vl I O = 0
  · simp only [c, if_true]
    have hs := vl_size c
    have h1 : strike_compounds.f I O = some ((I.length + O.length : Nat) : Int) := by unfold strike_compounds.f; rw [wrp (by omega) (by omega)]; rfl
    simp only [h1, Option.bind_some, all_eq t _ _ _ ht]
    exact Ev.congr (fun k => lerr_of t (I.length + O.length) _ _ _ rfl) (Ev.now _)
  · simp only [c, if_false]
    exact Ev.now _
theorem rtimed_ev {I O : List (List Int)} (h : Sh I O) (t : List Int) (ht : t.length ≤ 1000) : Ev (fun k => verditerref04_timed.f k I O t) (tm I O t) := by
  unfold verditerref04_timed.f tm
  refine Ev.bind (rval_ev h) ?_
  by_cases c : vl I O = 0
  · simp only [c, if_true]
    have hs := vl_size c
    refine Ev.bind (islist_ev t _ _ _ ht) ?_
    exact Ev.congr (fun k => lerr_of t (I.length + O.length) _ _ _ (by rw [wrp (by omega) (by omega)]; omega)) (Ev.now _)
  · simp only [c, if_false]
    exact Ev.now _
theorem weighted_ev {I O : List (List Int)} (h : Sh I O) (t : List Int) (ht : t.length ≤ 1000) : Ev (fun k => strike_weighted.f k I O t) (wg I O t) := by
  unfold strike_weighted.f wg
  refine Ev.bind (val_ev h) ?_
  by_cases c : vl I O = 0
  · have hs := vl_size c
    simp only [c, if_true, show (0 : Int) < (I.length : Int) by omega, rdL0, all_eq t _ _ _ ht, Option.bind_some]
    exact Ev.congr (fun k => lerr_of t (I.getD 0 []).length _ _ _ rfl) (Ev.now _)
  · simp only [c, if_false]
    exact Ev.now _
theorem lerr_zero {n : Nat} {lo hi : Int} {l : List Int} (h : lerr n lo hi l = 0) : l.length = n ∧ ∀ x ∈ l, lo ≤ x ∧ x ≤ hi := by
  unfold lerr at h
  split at h
  case isFalse => cases h
  rename_i hc
  exact ⟨hc.1, fun x hx => of_decide_eq_true (List.all_eq_true.1 hc.2 x hx)⟩
theorem tm_zero {I O : List (List Int)} {t : List Int} (h : tm I O t = 0) : vl I O = 0 ∧ t.length = I.length + O.length ∧ ∀ x ∈ t, -1000000 ≤ x ∧ x ≤ 1000000 := by
  unfold tm at h
  split at h
  · rename_i hv
    exact ⟨hv, lerr_zero h⟩
  · rename_i hv
    exact absurd h hv
theorem wg_zero {I O : List (List Int)} {t : List Int} (h : wg I O t = 0) : vl I O = 0 ∧ t.length = (I.getD 0 []).length ∧ ∀ x ∈ t, -1000000 ≤ x ∧ x ≤ 1000000 := by
  unfold wg at h
  split at h
  · rename_i hv
    exact ⟨hv, lerr_zero h⟩
  · rename_i hv
    exact absurd h hv
theorem same_l0 (l : List Int) (hl : l.length ≤ 9223372036854775807) : ∀ (d n : Nat), n + d = l.length → Ev (fun k => verditerref04_SameInts.l0 k l l (n : Int)) true := by
  intro d
  induction d with
  | zero =>
    intro n hn
    refine Ev.step (fun k => by rw [verditerref04_SameInts.l0]) ?_
    simp only [show ¬ ((n : Int) < (l.length : Int)) by omega, if_false]
    exact Ev.now _
  | succ d ih =>
    intro n hn
    have hlt : n < l.length := by omega
    refine Ev.step (fun k => by rw [verditerref04_SameInts.l0]) ?_
    simp only [show ((n : Int) < (l.length : Int)) by omega, show (0 : Int) ≤ (n : Int) by omega, if_true]
    rw [wr_succ (m := l.length) hlt hl]
    exact ih (n + 1) (by omega)
theorem same_ev (l : List Int) (hl : l.length ≤ 9223372036854775807) : Ev (fun k => verditerref04_SameInts.f k l l) true := by
  unfold verditerref04_SameInts.f
  simp only [if_true]
  exact same_l0 l hl l.length 0 (by omega)
theorem many_eq (l : List Int) : verditerlaw04_many.f l = some (decide ((l.length : Int) > 100)) := by
  unfold verditerlaw04_many.f
  rfl
end Go.Proofs.Ytdneelgnmnpanaa.P
