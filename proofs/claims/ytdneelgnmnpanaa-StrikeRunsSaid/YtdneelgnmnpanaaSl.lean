/- Stocks: what both programs answer of times and stocks, and the limit of runs. No conditions beyond those that each theorem names. -/
import Derived.Test.YtdneelgnmnpanaaSf
namespace Go.Proofs.Ytdneelgnmnpanaa.P
open Go.RowKit Go.Proofs.YtdneelgnmnpanaaW.PrintWords
set_option linter.unusedVariables false
set_option linter.unusedSimpArgs false
theorem min_l0 (c : List Int) (hc : c.length ≤ 1000) : ∀ (d n : Nat) (m : Int), n + d = c.length → Ev (fun k => slices_Min_int_int.l0 k c m (n : Int)) ((c.drop n).foldl mn m) := by
  intro d
  induction d with
  | zero =>
    intro n m hn
    refine Ev.step (fun k => by rw [slices_Min_int_int.l0]) ?_
    simp only [show ¬ ((n : Int) < (c.length : Int)) by omega, if_false]
    rw [List.drop_eq_nil_of_le (by omega)]
    exact Ev.now _
  | succ d ih =>
    intro n m hn
    have hlt : n < c.length := by omega
    refine Ev.step (fun k => by rw [slices_Min_int_int.l0]) ?_
    simp only [show ((n : Int) < (c.length : Int)) by omega, show (0 : Int) ≤ (n : Int) by omega, if_true, rdn]
    rw [wr_succ (m := c.length) hlt (by omega), List.drop_eq_getElem_cons hlt, List.foldl_cons, getD_at _ _ _ hlt]
    exact ih (n + 1) _ (by omega)
theorem min_ev (c : List Int) (hc : c.length ≤ 1000) (h1 : 1 ≤ c.length) : Ev (fun k => slices_Min_int_int.f k c) ((c.drop 1).foldl mn (c.getD 0 0)) := by
  unfold slices_Min_int_int.f
  simp only [show ¬ ((c.length : Int) < 1) by omega, if_false]
  refine Ev.step (fun k => by rw [slices_Min_int_int.j0]) ?_
  simp only [show (0 : Int) < (c.length : Int) by omega, if_true]
  have := min_l0 c hc (c.length - 1) 1 (rd c 0) (by omega)
  rw [show rd c 0 = c.getD 0 0 from rdn c 0] at this ⊢
  exact this
theorem le_mn (r a b : Int) : r ≤ mn a b ↔ r ≤ a ∧ r ≤ b := by
  unfold mn
  split <;> omega
theorem min_pos : ∀ (l : List Int) (m : Int), 1 ≤ l.foldl mn m ↔ 1 ≤ m ∧ ∀ x ∈ l, 1 ≤ x
  | [], m => by simp
  | y :: l, m => by
    rw [List.foldl_cons, min_pos l (mn m y), le_mn]
    constructor
    · rintro ⟨⟨a, b⟩, c⟩
      exact ⟨a, fun x hx => by rcases List.mem_cons.1 hx with rfl | hx; exact b; exact c x hx⟩
    · rintro ⟨a, c⟩
      exact ⟨⟨a, c y (List.mem_cons_self ..)⟩, fun x hx => c x (List.mem_cons_of_mem _ hx)⟩
def pos (t : List Int) : Bool := t.all fun x => decide (1 ≤ x)
theorem min_pos2 (c : List Int) (h1 : 1 ≤ c.length) : (c.drop 1).foldl mn (c.getD 0 0) ≤ 0 ↔ ¬ pos c = true := by
  have h := min_pos (c.drop 1) (c.getD 0 0)
  have h2 : pos c = true ↔ 1 ≤ (c.drop 1).foldl mn (c.getD 0 0) := by
    rw [h]
    cases c with
    | nil => simp at h1
    | cons a c => simp [pos]
  rw [h2]
  omega
def stk (I O : List (List Int)) (t s : List Int) : Int := if tm I O t = 0 then (if (decide ((s.length : Int) = (I.length : Int)) && inR 0 1000 s) = true then (if pos t = true then (if inS I O t = outS I O t then 0 else 8) else 8) else 1) else tm I O t
theorem stocked_ev {I O : List (List Int)} (h : Sh I O) (t s : List Int) (ht : t.length ≤ 1000) (hs : s.length ≤ 1000) : Ev (fun k => strike_stocked.f k I O t s) (stk I O t s) := by
  unfold strike_stocked.f stk
  refine Ev.bind (timed_ev h t ht) ?_
  by_cases c : tm I O t = 0
  · obtain ⟨hv, htl, htc⟩ := tm_zero c
    have hsz := vl_size hv
    simp only [c, if_true, all_eq s _ _ _ hs, Option.bind_some]
    by_cases c1 : (decide ((s.length : Int) = (I.length : Int)) && inR 0 1000 s) = true
    · simp only [c1, if_true]
      refine Ev.bind (min_ev t ht (by omega)) ?_
      by_cases c2 : pos t = true
      · have : ¬ (t.drop 1).foldl mn (t.getD 0 0) ≤ 0 := fun hh => (min_pos2 t (by omega)).1 hh c2
        simp only [this, if_false, c2, if_true]
        refine Ev.bind (balances_ev hv t htl) ?_
        by_cases c3 : inS I O t = outS I O t
        · simp only [c3, decide_true, if_true]
          exact Ev.now _
        · simp only [c3, decide_false, Bool.false_eq_true, if_false]
          exact Ev.now _
      · have : (t.drop 1).foldl mn (t.getD 0 0) ≤ 0 := (min_pos2 t (by omega)).2 c2
        simp only [this, if_true, c2, if_false]
        exact Ev.now _
    · simp only [c1, if_false]
      exact Ev.now _
  · simp only [c, if_false]
    exact Ev.now _
theorem rstock_l0 (I O : List (List Int)) (hv : vl I O = 0) (t : List Int) (htl : t.length = I.length + O.length) (htc : Coefs t) : ∀ (d n : Nat), n + d = t.length →
    Ev (fun k => verditerref04_stocked.l0 k t (n : Int) I O) (if pos (t.drop n) = true then (if inS I O t = outS I O t then 0 else 8) else 8) := by
  have hsz := vl_size hv
  intro d
  induction d with
  | zero =>
    intro n hn
    refine Ev.step (fun k => by rw [verditerref04_stocked.l0]) ?_
    rw [List.drop_eq_nil_of_le (by omega)]
    simp only [show ¬ ((n : Int) < (t.length : Int)) by omega, if_false, show pos [] = true from rfl, if_true]
    refine Ev.bind (rbalances_ev hv t htl htc) ?_
    by_cases c3 : inS I O t = outS I O t
    · simp only [c3, decide_true, if_true]
      exact Ev.now _
    · simp only [c3, decide_false, Bool.false_eq_true, if_false]
      exact Ev.now _
  | succ d ih =>
    intro n hn
    have hlt : n < t.length := by omega
    refine Ev.step (fun k => by rw [verditerref04_stocked.l0]) ?_
    rw [List.drop_eq_getElem_cons hlt]
    simp only [show ((n : Int) < (t.length : Int)) by omega, show (0 : Int) ≤ (n : Int) by omega, if_true, rdn, getD_at t n _ hlt]
    rw [wr_succ (m := t.length) hlt (by omega)]
    by_cases c : t[n] < 1
    · have : ¬ pos (t[n] :: t.drop (n + 1)) = true := by
        unfold pos
        rw [List.all_cons, decide_eq_false (by omega)]
        simp
      simp only [c, if_true, this, if_false]
      exact Ev.now _
    · have : pos (t[n] :: t.drop (n + 1)) = pos (t.drop (n + 1)) := by
        unfold pos
        rw [List.all_cons, decide_eq_true (by omega), Bool.true_and]
      simp only [c, if_false, this]
      exact ih (n + 1) (by omega)
theorem rstocked_ev {I O : List (List Int)} (h : Sh I O) (t s : List Int) (ht : t.length ≤ 1000) (hs : s.length ≤ 1000) : Ev (fun k => verditerref04_stocked.f k I O t s) (stk I O t s) := by
  unfold verditerref04_stocked.f stk
  refine Ev.bind (rtimed_ev h t ht) ?_
  by_cases c : tm I O t = 0
  · obtain ⟨hv, htl, htc⟩ := tm_zero c
    have hsz := vl_size hv
    simp only [c, if_true]
    refine Ev.bind (islist_ev s _ _ _ hs) ?_
    by_cases c1 : (decide ((s.length : Int) = (I.length : Int)) && inR 0 1000 s) = true
    · simp only [c1, if_true]
      have := rstock_l0 I O hv t htl htc t.length 0 (by omega)
      rw [List.drop_zero] at this
      exact this
    · simp only [c1, if_false]
      exact Ev.now _
  · simp only [c, if_false]
    exact Ev.now _
theorem stk_zero {I O : List (List Int)} {t s : List Int} (h : stk I O t s = 0) : vl I O = 0 ∧ t.length = I.length + O.length ∧ (∀ x ∈ t, 1 ≤ x ∧ x ≤ 1000000) ∧ s.length = I.length ∧ (∀ x ∈ s, 0 ≤ x ∧ x ≤ 1000) ∧ inS I O t = outS I O t := by
  unfold stk at h
  by_cases c : tm I O t = 0
  · obtain ⟨hv, htl, htc⟩ := tm_zero c
    rw [if_pos c] at h
    by_cases c1 : (decide ((s.length : Int) = (I.length : Int)) && inR 0 1000 s) = true
    · rw [if_pos c1] at h
      by_cases c2 : pos t = true
      · rw [if_pos c2] at h
        by_cases c3 : inS I O t = outS I O t
        · rw [Bool.and_eq_true] at c1
          have e := of_decide_eq_true c1.1
          refine ⟨hv, htl, fun x hx => ⟨of_decide_eq_true (List.all_eq_true.1 c2 x hx), (htc x hx).2⟩, by omega, fun x hx => of_decide_eq_true (List.all_eq_true.1 c1.2 x hx), c3⟩
        · rw [if_neg c3] at h
          omega
      · rw [if_neg c2] at h
        omega
    · rw [if_neg c1] at h
      omega
  · rw [if_neg c] at h
    exact absurd h c
/-! ### runs and what runs short -/
def shl (r : Int) : List Int → List Int → Int → List Int
  | a :: s, t :: ts, i => if a < (r + 1) * t then i :: shl r s ts (i + 1) else shl r s ts (i + 1)
  | _, _, _ => []
def mnq : List Int → List Int → Int → Int
  | a :: s, t :: ts, m => mnq s ts (mn m (a / t))
  | _, _, m => m
theorem shl_nil1 (r : Int) (ts : List Int) (i : Int) : shl r [] ts i = [] := by rw [shl]; intros; contradiction
theorem mnq_nil1 (ts : List Int) (m : Int) : mnq [] ts m = m := by rw [mnq]; intros; contradiction
theorem shl_iff (r : Int) : ∀ (s ts : List Int) (m i : Int), (∀ x ∈ ts, 1 ≤ x) → s.length ≤ ts.length → (r + 1 ≤ m ∧ shl r s ts i = [] ↔ r + 1 ≤ mnq s ts m)
  | [], ts, m, i, _, _ => by rw [shl_nil1, mnq_nil1]; simp
  | a :: s, [], m, i, _, h => by simp at h
  | a :: s, t :: ts, m, i, hp, hl => by
    have ht := hp t (List.mem_cons_self ..)
    rw [shl, mnq, ← shl_iff r s ts (mn m (a / t)) (i + 1) (fun x hx => hp x (List.mem_cons_of_mem _ hx)) (by simpa using hl), le_mn, Int.le_ediv_iff_mul_le (by omega)]
    by_cases c : a < (r + 1) * t
    · rw [if_pos c]
      constructor
      · rintro ⟨-, h⟩
        cases h
      · rintro ⟨⟨-, h⟩, -⟩
        omega
    · rw [if_neg c]
      constructor
      · rintro ⟨h1, h2⟩
        exact ⟨⟨h1, by omega⟩, h2⟩
      · rintro ⟨⟨h1, -⟩, h2⟩
        exact ⟨h1, h2⟩
theorem shl_length (r : Int) : ∀ (s ts : List Int) (i : Int), (shl r s ts i).length ≤ s.length
  | [], ts, i => by rw [shl_nil1]; simp
  | a :: s, [], i => by rw [shl]; simp; intros; contradiction
  | a :: s, t :: ts, i => by
    have := shl_length r s ts (i + 1)
    rw [shl]
    split
    · simp only [List.length_cons]; omega
    · simp only [List.length_cons]; omega
theorem mnq_pos : ∀ (s ts : List Int) (m : Int), 0 ≤ m → m ≤ 1000 → (∀ x ∈ s, 0 ≤ x) → (∀ x ∈ ts, 1 ≤ x) → 0 ≤ mnq s ts m ∧ mnq s ts m ≤ 1000
  | [], ts, m, h, h9, _, _ => by rw [mnq_nil1]; exact ⟨h, h9⟩
  | a :: s, [], m, h, h9, _, _ => by rw [mnq]; exact ⟨h, h9⟩; intros; contradiction
  | a :: s, t :: ts, m, h, h9, hs, ht => by
    have h1 := hs a (List.mem_cons_self ..)
    have h2 := ht t (List.mem_cons_self ..)
    have h3 : 0 ≤ a / t := Int.ediv_nonneg h1 (by omega)
    rw [mnq]
    exact mnq_pos s ts _ ((le_mn _ _ _).2 ⟨h, h3⟩) (by unfold mn; split <;> omega) (fun x hx => hs x (List.mem_cons_of_mem _ hx)) (fun x hx => ht x (List.mem_cons_of_mem _ hx))
/-- At the least of the quotients something runs short. -/
theorem shl_some {s ts : List Int} (h0 : 0 < s.length) (hl : s.length ≤ ts.length) (hs : ∀ x ∈ s, 0 ≤ x ∧ x ≤ 1000) (ht : ∀ x ∈ ts, 1 ≤ x) (i : Int) : shl (mnq s ts 1000) s ts i ≠ [] := by
  intro he
  have hb := mnq_pos s ts 1000 (by omega) (by omega) (fun x hx => (hs x hx).1) ht
  have hi := shl_iff (mnq s ts 1000) s ts 1000 i ht hl
  by_cases c : mnq s ts 1000 + 1 ≤ 1000
  · have := hi.1 ⟨c, he⟩
    omega
  · have he2 : mnq s ts 1000 = 1000 := by omega
    rw [he2] at he
    cases s with
    | nil => simp at h0
    | cons a s =>
      cases ts with
      | nil => simp at hl
      | cons t ts =>
        have h1 := hs a (List.mem_cons_self ..)
        have h2 := ht t (List.mem_cons_self ..)
        rw [shl, if_pos (by omega)] at he
        cases he
theorem lim_l1 (t s : List Int) (m : Int) (hm : 0 ≤ m ∧ m ≤ 1000) (h6 : s.length ≤ 1000) (hl : s.length ≤ t.length) (ht : ∀ x ∈ t, 1 ≤ x ∧ x ≤ 1000000) : ∀ (d n : Nat) (acc : List Int), n + d = s.length → acc.length ≤ n →
    Ev (fun k => strike_Limit.l1 k t m acc s (s.length : Int) (n : Int)) (m, acc ++ shl m (s.drop n) (t.drop n) (n : Int), 0) := by
  intro d
  induction d with
  | zero =>
    intro n acc hn ha
    refine Ev.step (fun k => by rw [strike_Limit.l1]) ?_
    rw [List.drop_eq_nil_of_le (by omega), shl_nil1, List.append_nil]
    simp only [show ¬ ((n : Int) < (s.length : Int)) by omega, if_false]
    exact Ev.now _
  | succ d ih =>
    intro n acc hn ha
    have h1 : n < s.length := by omega
    have h2 : n < t.length := by omega
    have b := ht _ (List.getElem_mem h2)
    have hmu := mulb (x := m + 1) (y := t[n]) (A := 1001) (B := 1000000) (by omega) (by omega)
    refine Ev.step (fun k => by rw [strike_Limit.l1]) ?_
    rw [List.drop_eq_getElem_cons h1, List.drop_eq_getElem_cons h2, shl]
    simp only [show ((n : Int) < (s.length : Int)) by omega, show (0 : Int) ≤ (n : Int) by omega, show ((n : Int) < (t.length : Int)) by omega, if_true, rdn, getD_at s n _ h1, getD_at t n _ h2, show acc.length < 17592186044416 by omega]
    rw [wrp (x := m + 1) (by omega) (by omega), wrp (x := (m + 1) * t[n]) (by omega) (by omega), wr_succ (m := s.length) h1 (by omega)]
    by_cases c : s[n] < (m + 1) * t[n]
    · simp only [c, if_true]
      have := ih (n + 1) (acc ++ [(n : Int)]) (by omega) (by simp; omega)
      rw [List.append_assoc, List.singleton_append] at this
      rw [show ((n + 1 : Nat) : Int) = (n : Int) + 1 by omega] at this ⊢
      exact this
    · simp only [c, if_false]
      have := ih (n + 1) acc (by omega) (by omega)
      rw [show ((n + 1 : Nat) : Int) = (n : Int) + 1 by omega] at this ⊢
      exact this
theorem lim_l0 (t s : List Int) (h6 : s.length ≤ 1000) (hl : s.length ≤ t.length) (hs : ∀ x ∈ s, 0 ≤ x ∧ x ≤ 1000) (ht : ∀ x ∈ t, 1 ≤ x ∧ x ≤ 1000000) (R : Int × List Int × Int) : ∀ (d n : Nat) (m : Int), n + d = s.length →
    Ev (fun k => strike_Limit.l1 k t (mnq (s.drop n) (t.drop n) m) [] s (s.length : Int) 0) R → Ev (fun k => strike_Limit.l0 k t s m s (s.length : Int) (n : Int)) R := by
  intro d
  induction d with
  | zero =>
    intro n m hn h
    refine Ev.step (fun k => by rw [strike_Limit.l0]) ?_
    rw [List.drop_eq_nil_of_le (by omega), mnq_nil1] at h
    simp only [show ¬ ((n : Int) < (s.length : Int)) by omega, if_false]
    exact h
  | succ d ih =>
    intro n m hn h
    have h1 : n < s.length := by omega
    have h2 : n < t.length := by omega
    have a := hs _ (List.getElem_mem h1)
    have b := ht _ (List.getElem_mem h2)
    have q1 : 0 ≤ s[n] / t[n] := Int.ediv_nonneg a.1 (by omega)
    have q2 : s[n] / t[n] ≤ s[n] := Int.ediv_le_self _ a.1
    refine Ev.step (fun k => by rw [strike_Limit.l0]) ?_
    rw [List.drop_eq_getElem_cons h1, List.drop_eq_getElem_cons h2, mnq] at h
    simp only [show ((n : Int) < (s.length : Int)) by omega, show (0 : Int) ≤ (n : Int) by omega, show ((n : Int) < (t.length : Int)) by omega, if_true, rdn, getD_at s n _ h1, getD_at t n _ h2, show ¬ t[n] = 0 by omega, if_false]
    rw [Int.tdiv_eq_ediv_of_nonneg a.1, wrp (x := s[n] / t[n]) (by omega) (by omega), wr_succ (m := s.length) h1 (by omega)]
    exact ih (n + 1) _ (by omega) h
def lim (I O : List (List Int)) (t s : List Int) : Int × List Int × Int := if stk I O t s = 0 then (mnq s t 1000, shl (mnq s t 1000) s t 0, 0) else (0, [], stk I O t s)
theorem Limit_ev {I O : List (List Int)} (h : Sh I O) (t s : List Int) (ht : t.length ≤ 1000) (hs : s.length ≤ 1000) : Ev (fun k => strike_Limit.f k I O t s) (lim I O t s) := by
  unfold strike_Limit.f lim
  refine Ev.bind (stocked_ev h t s ht hs) ?_
  by_cases c : stk I O t s = 0
  · obtain ⟨hv, htl, htc, hsl, hsc, -⟩ := stk_zero c
    have hsz := vl_size hv
    have hb := mnq_pos s t 1000 (by omega) (by omega) (fun x hx => (hsc x hx).1) (fun x hx => (htc x hx).1)
    simp only [c, if_true]
    exact lim_l0 t s (by omega) (by omega) hsc htc _ s.length 0 1000 (by omega) (lim_l1 t s (mnq s t 1000) hb (by omega) (by omega) htc s.length 0 [] (by omega) (by simp))
  · simp only [c, if_false]
    exact Ev.now _
theorem lim_length (I O : List (List Int)) (t s : List Int) : (lim I O t s).2.1.length ≤ s.length := by
  unfold lim
  split
  · exact shl_length _ _ _ _
  · simp
end Go.Proofs.Ytdneelgnmnpanaa.P
