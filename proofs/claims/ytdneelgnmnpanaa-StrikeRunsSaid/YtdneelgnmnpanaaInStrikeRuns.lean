/- The plain law behind StrikeRuns: for every strike, times, stocks and number of runs the printed law answers true; no conditions. -/
import Derived.Test.YtdneelgnmnpanaaSl
import Derived.Test.YtdneelgnmnpanaaKn
import Derived.Test.YtdneelgnmnpanaaP27
namespace Go.Proofs.Ytdneelgnmnpanaa.P
open Go.RowKit Go.Proofs.YtdneelgnmnpanaaW.PrintWords
set_option linter.unusedVariables false
set_option linter.unusedSimpArgs false
/-- What is left of the stocks after a number of runs. -/
def lft (z : Int) (s t : List Int) : List Int := List.zipWith (fun a b => a - z * b) s t
def mke (z : Int) (t : List Int) : List Int := t.map fun b => z * b
def nng (l : List Int) : Bool := l.all fun x => decide (0 ≤ x)
theorem lft_length {z : Int} {s t : List Int} (h : s.length ≤ t.length) : (lft z s t).length = s.length := by simp [lft]; omega
theorem lft_at {z : Int} {s t : List Int} (n : Nat) (h1 : n < s.length) (h2 : n < t.length) : (lft z s t)[n]'(by simp [lft]; omega) = s[n] - z * t[n] := by simp only [lft, List.getElem_zipWith]
theorem min_nn : ∀ (l : List Int) (m : Int), 0 ≤ l.foldl mn m ↔ 0 ≤ m ∧ ∀ x ∈ l, 0 ≤ x
  | [], m => by simp
  | y :: l, m => by
    rw [List.foldl_cons, min_nn l (mn m y), le_mn]
    constructor
    · rintro ⟨⟨a, b⟩, c⟩
      exact ⟨a, fun x hx => by rcases List.mem_cons.1 hx with rfl | hx; exact b; exact c x hx⟩
    · rintro ⟨a, c⟩
      exact ⟨⟨a, c y (List.mem_cons_self ..)⟩, fun x hx => c x (List.mem_cons_of_mem _ hx)⟩
theorem min_nn2 (c : List Int) (h1 : 1 ≤ c.length) : (c.drop 1).foldl mn (c.getD 0 0) < 0 ↔ ¬ nng c = true := by
  have h := min_nn (c.drop 1) (c.getD 0 0)
  have h2 : nng c = true ↔ 0 ≤ (c.drop 1).foldl mn (c.getD 0 0) := by
    rw [h]
    cases c with
    | nil => simp at h1
    | cons a c => simp [nng]
  rw [h2]
  omega
theorem run_l1 (z : Int) (hz : 0 ≤ z ∧ z ≤ 1000) (L u : List Int) (hu : u.length ≤ 1000) (hc : ∀ x ∈ u, 1 ≤ x ∧ x ≤ 1000000) : ∀ (d n : Nat), n + d = u.length →
    Ev (fun k => strike_Run.l1 k z L ((mke z u).take n) u (u.length : Int) (n : Int)) (L, mke z u, 0) := by
  have hml : (mke z u).length = u.length := by simp [mke]
  intro d
  induction d with
  | zero =>
    intro n hn
    refine Ev.step (fun k => by rw [strike_Run.l1]) ?_
    rw [List.take_of_length_le (by omega)]
    simp only [show ¬ ((n : Int) < (u.length : Int)) by omega, if_false]
    exact Ev.now _
  | succ d ih =>
    intro n hn
    have h1 : n < u.length := by omega
    have a := hc _ (List.getElem_mem h1)
    have hmu := mulb (x := z) (y := u[n]) (A := 1000) (B := 1000000) (by omega) (by omega)
    have hl : ((mke z u).take n).length < 17592186044416 := by rw [List.length_take]; omega
    refine Ev.step (fun k => by rw [strike_Run.l1]) ?_
    simp only [show ((n : Int) < (u.length : Int)) by omega, show (0 : Int) ≤ (n : Int) by omega, if_true, rdn, getD_at u n _ h1, hl]
    rw [wrp (x := z * u[n]) (by omega) (by omega), wr_succ (m := u.length) h1 (by omega)]
    have ht : (mke z u).take n ++ [z * u[n]] = (mke z u).take (n + 1) := by
      rw [List.take_succ_eq_append_getElem (show n < (mke z u).length by omega)]
      simp only [mke, List.getElem_map]
    rw [ht]
    exact ih (n + 1) (by omega)
theorem run_l0 (I O : List (List Int)) (t s : List Int) (z : Int) (hz : 0 ≤ z ∧ z ≤ 1000) (h0 : 0 < s.length) (h6 : t.length ≤ 1000) (hsl : s.length = I.length) (hl : s.length ≤ t.length) (hs : ∀ x ∈ s, 0 ≤ x ∧ x ≤ 1000) (ht : ∀ x ∈ t, 1 ≤ x ∧ x ≤ 1000000) : ∀ (d n : Nat), n + d = s.length →
    Ev (fun k => strike_Run.l0 k t z ((lft z s t).take n) s (s.length : Int) (n : Int) I O) (if nng (lft z s t) = true then (lft z s t, mke z (t.drop I.length), 0) else ([], [], 9)) := by
  have hll := lft_length (z := z) hl
  intro d
  induction d with
  | zero =>
    intro n hn
    refine Ev.step (fun k => by rw [strike_Run.l0]) ?_
    rw [List.take_of_length_le (by omega)]
    simp only [show ¬ ((n : Int) < (s.length : Int)) by omega, if_false]
    refine Ev.bind (min_ev _ (by omega) (by omega)) ?_
    by_cases c : nng (lft z s t) = true
    · have : ¬ ((lft z s t).drop 1).foldl mn ((lft z s t).getD 0 0) < 0 := fun hh => (min_nn2 _ (by omega)).1 hh c
      simp only [this, if_false, c, if_true, show (0 : Int) ≤ (I.length : Int) by omega, show (I.length : Int) ≤ (t.length : Int) by omega, Int.toNat_natCast]
      have := run_l1 z hz (lft z s t) (t.drop I.length) (by simp; omega) (fun x hx => ht x (List.mem_of_mem_drop hx)) (t.drop I.length).length 0 (by omega)
      rw [List.take_zero] at this
      exact this
    · have : ((lft z s t).drop 1).foldl mn ((lft z s t).getD 0 0) < 0 := (min_nn2 _ (by omega)).2 c
      simp only [this, if_true, c, if_false]
      exact Ev.now _
  | succ d ih =>
    intro n hn
    have h1 : n < s.length := by omega
    have h2 : n < t.length := by omega
    have a := hs _ (List.getElem_mem h1)
    have b := ht _ (List.getElem_mem h2)
    have hmu := mulb (x := z) (y := t[n]) (A := 1000) (B := 1000000) (by omega) (by omega)
    have hle : ((lft z s t).take n).length < 17592186044416 := by rw [List.length_take]; omega
    refine Ev.step (fun k => by rw [strike_Run.l0]) ?_
    simp only [show ((n : Int) < (s.length : Int)) by omega, show (0 : Int) ≤ (n : Int) by omega, show ((n : Int) < (t.length : Int)) by omega, if_true, rdn, getD_at s n _ h1, getD_at t n _ h2, hle]
    rw [wrp (x := z * t[n]) (by omega) (by omega), wrp (x := s[n] - z * t[n]) (by omega) (by omega), wr_succ (m := s.length) h1 (by omega)]
    have htk : (lft z s t).take n ++ [s[n] - z * t[n]] = (lft z s t).take (n + 1) := by
      rw [List.take_succ_eq_append_getElem (show n < (lft z s t).length by omega), lft_at n h1 h2]
    rw [htk]
    exact ih (n + 1) (by omega)
/-- The reference's runs: what lies behind the stocks. -/
theorem rrun_l0b (t s : List Int) (z : Int) (hz : 0 ≤ z ∧ z ≤ 1000) (L : List Int) (h6 : t.length ≤ 1000) (hl : s.length ≤ t.length) (ht : ∀ x ∈ t, 1 ≤ x ∧ x ≤ 1000000) : ∀ (d n : Nat), n + d = t.length → s.length ≤ n →
    Ev (fun k => verditerref04_Run.l0 k t s z L ((mke z (t.drop s.length)).take (n - s.length)) (n : Int)) (L, mke z (t.drop s.length), 0) := by
  have hml : (mke z (t.drop s.length)).length = t.length - s.length := by simp [mke]
  intro d
  induction d with
  | zero =>
    intro n hn hsn
    refine Ev.step (fun k => by rw [verditerref04_Run.l0]) ?_
    rw [List.take_of_length_le (by omega)]
    simp only [show ¬ ((n : Int) < (t.length : Int)) by omega, if_false]
    exact Ev.now _
  | succ d ih =>
    intro n hn hsn
    have h2 : n < t.length := by omega
    have b := ht _ (List.getElem_mem h2)
    have hmu := mulb (x := z) (y := t[n]) (A := 1000) (B := 1000000) (by omega) (by omega)
    have hle : ((mke z (t.drop s.length)).take (n - s.length)).length < 17592186044416 := by rw [List.length_take]; omega
    refine Ev.step (fun k => by rw [verditerref04_Run.l0]) ?_
    simp only [show ((n : Int) < (t.length : Int)) by omega, show ¬ ((n : Int) < (s.length : Int)) by omega, show (0 : Int) ≤ (n : Int) by omega, if_true, if_false, rdn, getD_at t n _ h2, hle]
    rw [wrp (x := z * t[n]) (by omega) (by omega), wr_succ (m := t.length) h2 (by omega)]
    have htk : (mke z (t.drop s.length)).take (n - s.length) ++ [z * t[n]] = (mke z (t.drop s.length)).take (n + 1 - s.length) := by
      rw [show n + 1 - s.length = (n - s.length) + 1 by omega, List.take_succ_eq_append_getElem (show n - s.length < (mke z (t.drop s.length)).length by omega)]
      congr 2
      simp only [mke, List.getElem_map, List.getElem_drop, show s.length + (n - s.length) = n by omega]
    rw [htk]
    exact ih (n + 1) (by omega) (by omega)
theorem rrun_l0 (t s : List Int) (z : Int) (hz : 0 ≤ z ∧ z ≤ 1000) (h6 : t.length ≤ 1000) (hl : s.length ≤ t.length) (hs : ∀ x ∈ s, 0 ≤ x ∧ x ≤ 1000) (ht : ∀ x ∈ t, 1 ≤ x ∧ x ≤ 1000000) : ∀ (d n : Nat), n + d = s.length →
    Ev (fun k => verditerref04_Run.l0 k t s z ((lft z s t).take n) [] (n : Int)) (if nng ((lft z s t).drop n) = true then (lft z s t, mke z (t.drop s.length), 0) else ([], [], 9)) := by
  have hll := lft_length (z := z) hl
  intro d
  induction d with
  | zero =>
    intro n hn
    rw [List.take_of_length_le (by omega), List.drop_eq_nil_of_le (by omega)]
    simp only [show nng [] = true from rfl, if_true]
    have := rrun_l0b t s z hz (lft z s t) h6 hl ht (t.length - n) n (by omega) (by omega)
    rw [show n - s.length = 0 by omega, List.take_zero] at this
    exact this
  | succ d ih =>
    intro n hn
    have h1 : n < s.length := by omega
    have h2 : n < t.length := by omega
    have h3 : n < (lft z s t).length := by omega
    have a := hs _ (List.getElem_mem h1)
    have b := ht _ (List.getElem_mem h2)
    have hmu := mulb (x := z) (y := t[n]) (A := 1000) (B := 1000000) (by omega) (by omega)
    have hle : ((lft z s t).take n).length < 17592186044416 := by rw [List.length_take]; omega
    refine Ev.step (fun k => by rw [verditerref04_Run.l0]) ?_
    simp only [show ((n : Int) < (s.length : Int)) by omega, show (0 : Int) ≤ (n : Int) by omega, show ((n : Int) < (t.length : Int)) by omega, if_true, rdn, getD_at s n _ h1, getD_at t n _ h2, hle, Option.bind_some]
    rw [wrp (x := z * t[n]) (by omega) (by omega), wrp (x := s[n] - z * t[n]) (by omega) (by omega), wr_succ (m := s.length) h1 (by omega)]
    have htk : (lft z s t).take n ++ [s[n] - z * t[n]] = (lft z s t).take (n + 1) := by
      rw [List.take_succ_eq_append_getElem h3, lft_at n h1 h2]
    have hgd : ((lft z s t).take (n + 1)).getD n 0 = s[n] - z * t[n] := by
      rw [getD_at _ n _ (by rw [List.length_take]; omega), List.getElem_take, lft_at n h1 h2]
    rw [htk, hgd, List.drop_eq_getElem_cons h3, lft_at n h1 h2]
    simp only [show ((n : Int) < (((lft z s t).take (n + 1)).length : Int)) by rw [List.length_take]; omega, if_true]
    by_cases c : s[n] - z * t[n] < 0
    · have : ¬ nng ((s[n] - z * t[n]) :: (lft z s t).drop (n + 1)) = true := by
        unfold nng
        rw [List.all_cons, decide_eq_false (by omega)]
        simp
      simp only [c, if_true, this, if_false]
      exact Ev.now _
    · have : nng ((s[n] - z * t[n]) :: (lft z s t).drop (n + 1)) = nng ((lft z s t).drop (n + 1)) := by
        unfold nng
        rw [List.all_cons, decide_eq_true (by omega), Bool.true_and]
      simp only [c, if_false, this]
      exact ih (n + 1) (by omega)
/-- Runs are within the limit as far as nothing is left below 0. -/
theorem nng_iff (z : Int) : ∀ (s t : List Int) (m : Int), (∀ x ∈ t, 1 ≤ x) → s.length ≤ t.length → (z ≤ m ∧ nng (lft z s t) = true ↔ z ≤ mnq s t m)
  | [], t, m, _, _ => by rw [mnq_nil1]; simp [lft, nng]
  | a :: s, [], m, _, h => by simp at h
  | a :: s, b :: t, m, hp, hl => by
    have hb := hp b (List.mem_cons_self ..)
    have ih := nng_iff z s t (mn m (a / b)) (fun x hx => hp x (List.mem_cons_of_mem _ hx)) (by simpa using hl)
    rw [mnq, ← ih, le_mn, Int.le_ediv_iff_mul_le (by omega)]
    unfold lft nng
    rw [List.zipWith_cons_cons, List.all_cons, Bool.and_eq_true, decide_eq_true_eq]
    constructor
    · rintro ⟨h1, h2, h3⟩
      exact ⟨⟨h1, by omega⟩, h3⟩
    · rintro ⟨⟨h1, h2⟩, h3⟩
      exact ⟨h1, by omega, h3⟩
def rn (I O : List (List Int)) (t s : List Int) (z : Int) : List Int × List Int × Int := if stk I O t s = 0 then (if 0 ≤ z ∧ z ≤ 1000 then (if nng (lft z s t) = true then (lft z s t, mke z (t.drop I.length), 0) else ([], [], 9)) else ([], [], 1)) else ([], [], stk I O t s)
theorem wit (z : Int) : strike_within.f z 0 1000 = some (decide (0 ≤ z ∧ z ≤ 1000)) := by
  unfold strike_within.f
  by_cases h : z ≥ 0
  · simp only [h, if_true, show (0 : Int) ≤ z from h, true_and]
  · simp only [h, if_false, show ¬ (0 : Int) ≤ z from h, false_and, decide_false]
theorem rwit (z : Int) : verditerref04_within.f z 0 1000 = some (decide (0 ≤ z ∧ z ≤ 1000)) := by
  unfold verditerref04_within.f
  by_cases h : z ≥ 0
  · simp only [h, if_true, show (0 : Int) ≤ z from h, true_and]
  · simp only [h, if_false, show ¬ (0 : Int) ≤ z from h, false_and, decide_false]
theorem Run_ev {I O : List (List Int)} (h : Sh I O) (t s : List Int) (z : Int) (ht : t.length ≤ 1000) (hs : s.length ≤ 1000) : Ev (fun k => strike_Run.f k I O t s z) (rn I O t s z) := by
  unfold strike_Run.f rn
  refine Ev.bind (stocked_ev h t s ht hs) ?_
  by_cases c : stk I O t s = 0
  · obtain ⟨hv, htl, htc, hsl, hsc, -⟩ := stk_zero c
    have hsz := vl_size hv
    simp only [c, if_true, wit, Option.bind_some]
    by_cases hz : 0 ≤ z ∧ z ≤ 1000
    · simp only [hz, and_self, decide_true, if_true]
      have := run_l0 I O t s z hz (by omega) ht hsl (by omega) hsc htc s.length 0 (by omega)
      rw [List.take_zero] at this
      exact this
    · simp only [hz, decide_false, Bool.false_eq_true, if_false]
      exact Ev.now _
  · simp only [c, if_false]
    exact Ev.now _
theorem rRun_ev {I O : List (List Int)} (h : Sh I O) (t s : List Int) (z : Int) (ht : t.length ≤ 1000) (hs : s.length ≤ 1000) : Ev (fun k => verditerref04_Run.f k I O t s z) (rn I O t s z) := by
  unfold verditerref04_Run.f rn
  refine Ev.bind (rstocked_ev h t s ht hs) ?_
  by_cases c : stk I O t s = 0
  · obtain ⟨hv, htl, htc, hsl, hsc, -⟩ := stk_zero c
    have hsz := vl_size hv
    simp only [c, if_true, rwit, Option.bind_some]
    by_cases hz : 0 ≤ z ∧ z ≤ 1000
    · simp only [hz, and_self, decide_true, if_true]
      have := rrun_l0 t s z hz ht (by omega) hsc htc s.length 0 (by omega)
      rw [List.take_zero, List.drop_zero, hsl] at this
      exact this
    · simp only [hz, decide_false, Bool.false_eq_true, if_false]
      exact Ev.now _
  · simp only [c, if_false]
    exact Ev.now _
theorem rn_length {I O : List (List Int)} (t s : List Int) (z : Int) (ht : t.length ≤ 1000) (hs : s.length ≤ 1000) : (rn I O t s z).1.length ≤ 1000 ∧ (rn I O t s z).2.1.length ≤ 1000 := by
  unfold rn
  split
  · split
    · split
      · exact ⟨by simp [lft]; omega, by simp [mke]; omega⟩
      · simp
    · simp
  · simp
theorem in_StrikeRuns (I O : List (List Int)) (x y : List Int) (z : Int) : Ev (fun k => verditerlaw04_strikeRuns.f k I O x y z) true := by
  have hkn : Ev (fun k => verditerlaw04_strikeRuns.j0 k true I O x y z) true := Ev.step (fun k => by rw [verditerlaw04_strikeRuns.j0]) (by
    simp only [if_true]
    exact Ev.bind known_ev (Ev.now _))
  have hk2 : ∀ a b, Ev (fun k => verditerlaw04_strikeRuns.j2 k a b true x y z) true := fun a b => Ev.step (fun k => by rw [verditerlaw04_strikeRuns.j2]) (by
    simp only [if_true]
    exact Ev.bind known_ev (Ev.now _))
  unfold verditerlaw04_strikeRuns.f
  obtain ⟨b, hb, hsh⟩ := long_ev I O
  refine Ev.bind hb ?_
  cases b with
  | true => simp only [if_true]; exact hkn
  | false =>
    have hs := hsh rfl
    simp only [Bool.false_eq_true, if_false, many_eq, Option.bind_some]
    by_cases h1 : (x.length : Int) > 100
    · simp only [h1, decide_true, if_true]
      exact hkn
    · by_cases h2 : (y.length : Int) > 100
      · simp only [h1, decide_false, Bool.false_eq_true, if_false, h2, decide_true]
        exact hkn
      · simp only [h1, decide_false, Bool.false_eq_true, if_false, h2]
        refine Ev.step (fun k => by rw [verditerlaw04_strikeRuns.j0]) ?_
        simp only [Bool.false_eq_true, if_false]
        refine Ev.bind (rRun_ev hs x y z (by omega) (by omega)) ?_
        refine Ev.bind (Run_ev hs x y z (by omega) (by omega)) ?_
        obtain ⟨l1, l2⟩ := rn_length (I := I) (O := O) x y z (by omega) (by omega)
        simp only [if_true]
        refine Ev.bind (sm_ev _ _ l1) ?_
        simp only [decide_true, if_true]
        refine Ev.bind (sm_ev _ _ l2) ?_
        simp only [decide_true, Bool.not_true]
        refine Ev.step (fun k => by rw [verditerlaw04_strikeRuns.j1]) ?_
        simp only [Bool.false_eq_true, if_false]
        refine Ev.bind (Limit_ev hs x y (by omega) (by omega)) ?_
        by_cases c : stk I O x y = 0
        · obtain ⟨hv, htl, htc, hsl, hsc, -⟩ := stk_zero c
          have hsz := vl_size hv
          unfold lim rn
          simp only [c, if_true]
          by_cases z0 : z < 0
          · simp only [z0, if_true]
            exact hk2 _ _
          · simp only [z0, if_false]
            by_cases z1 : z > 1000
            · simp only [z1, decide_true]
              exact hk2 _ _
            · have hz : 0 ≤ z ∧ z ≤ 1000 := by omega
              simp only [z1, decide_false, hz, and_self, if_true]
              refine Ev.step (fun k => by rw [verditerlaw04_strikeRuns.j2]) ?_
              have hi := nng_iff z y x 1000 (fun q hq => (htc q hq).1) (by omega)
              by_cases cn : nng (lft z y x) = true
              · have : z ≤ mnq y x 1000 := hi.1 ⟨hz.2, cn⟩
                simp only [Bool.false_eq_true, if_false, cn, if_true, this, decide_true, beq_self_eq_true]
                exact Ev.bind known_ev (Ev.now _)
              · have : ¬ z ≤ mnq y x 1000 := fun hh => cn (hi.2 hh).2
                have h9 : ((9 : Int) == 0) = false := rfl
                simp only [Bool.false_eq_true, if_false, cn, this, decide_false, h9, beq_self_eq_true, if_true]
                exact Ev.bind known_ev (Ev.now _)
        · unfold lim
          simp only [c, if_false]
          exact hk2 _ _
end Go.Proofs.Ytdneelgnmnpanaa.P
