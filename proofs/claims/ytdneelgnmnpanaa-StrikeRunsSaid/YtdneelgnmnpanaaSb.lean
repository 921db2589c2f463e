/- Plain facts that the strike laws share: which strikes are right, lists within bounds, what is weighed and summed; no conditions beyond those that each theorem names. -/
import Derived.Test.YtdneelgnmnpanaaP50
import Derived.Test.YtdneelgnmnpanaaPr
import Derived.Test.YtdneelgnmnpanaaPlain
namespace Go.Proofs.Ytdneelgnmnpanaa.P
open Go.RowKit Go.Proofs.YtdneelgnmnpanaaW.PrintWords
set_option linter.unusedVariables false
/-- A number of 64 bits. -/
def OkInt (x : Int) : Prop := -9223372036854775808 ≤ x ∧ x ≤ 9223372036854775807
theorem okInt_of {x : Int} (h : (Lit.int .i64 x).wf = true) : OkInt x := by
  simp [Lit.wf, IntKind.min, IntKind.max, IntKind.signed, IntKind.bits] at h
  unfold OkInt
  omega
theorem wr_succ {n m : Nat} (h : n < m) (hm : m ≤ 9223372036854775807) : wrap64 ((n : Int) + 1) = ((n + 1 : Nat) : Int) := by
  rw [wrp (by omega) (by omega)]
  omega
theorem rdn (l : List Int) (n : Nat) : rd l (n : Int) = l.getD n 0 := by simp [rd]
theorem rdL (l : List (List Int)) (n : Nat) : rd_L1 l (n : Int) = l.getD n [] := by simp [rd_L1]
theorem rdL0 (l : List (List Int)) : rd_L1 l 0 = l.getD 0 [] := rdL l 0
theorem getD_at {α : Type} (l : List α) (n : Nat) (d : α) (h : n < l.length) : l.getD n d = l[n] := by
  rw [List.getD_eq_getElem?_getD, List.getElem?_eq_getElem h]; rfl
/-- A strike of which the law speaks. -/
def Sh (I O : List (List Int)) : Prop := I.length ≤ 50 ∧ O.length ≤ 50 ∧ ∀ r ∈ I ++ O, r.length ≤ 50
theorem long_l1 (I O : List (List Int)) (hO : O.length ≤ 50) : ∀ (d n : Nat), n + d = O.length → ∃ b, Ev (fun k => verditerlaw04_Long.l1 k (n : Int) I O) b ∧ (b = false → ∀ r ∈ O.drop n, r.length ≤ 50) := by
  intro d
  induction d with
  | zero =>
    intro n hn
    refine ⟨false, Ev.step (fun k => by rw [verditerlaw04_Long.l1]) ?_, fun _ => by rw [List.drop_eq_nil_of_le (by omega)]; simp⟩
    simp only [show ¬ ((n : Int) < (O.length : Int)) by omega, if_false]
    exact Ev.now _
  | succ d ih =>
    intro n hn
    have hlt : n < O.length := by omega
    obtain ⟨b, hb, hf⟩ := ih (n + 1) (by omega)
    by_cases hl : ((O.getD n []).length : Int) > 50
    · refine ⟨true, Ev.step (fun k => by rw [verditerlaw04_Long.l1]) ?_, fun h => by cases h⟩
      simp only [show ((n : Int) < (O.length : Int)) by omega, show (0 : Int) ≤ (n : Int) by omega, if_true, rdL, hl]
      exact Ev.now _
    · refine ⟨b, Ev.step (fun k => by rw [verditerlaw04_Long.l1]) ?_, fun h => ?_⟩
      · simp only [show ((n : Int) < (O.length : Int)) by omega, show (0 : Int) ≤ (n : Int) by omega, if_true, rdL, hl, if_false]
        rw [wr_succ (m := O.length) hlt (by omega)]
        exact hb
      · rw [List.drop_eq_getElem_cons hlt]
        intro r hr
        rcases List.mem_cons.1 hr with rfl | hr
        · rw [getD_at _ _ _ hlt] at hl
          omega
        · exact hf h r hr
theorem long_l0 (I O : List (List Int)) (hI : I.length ≤ 50) (hO : O.length ≤ 50) : ∀ (d n : Nat), n + d = I.length → ∃ b, Ev (fun k => verditerlaw04_Long.l0 k (n : Int) I O) b ∧ (b = false → (∀ r ∈ I.drop n, r.length ≤ 50) ∧ ∀ r ∈ O, r.length ≤ 50) := by
  intro d
  induction d with
  | zero =>
    intro n hn
    obtain ⟨b, hb, hf⟩ := long_l1 I O hO O.length 0 (by omega)
    refine ⟨b, Ev.step (fun k => by rw [verditerlaw04_Long.l0]) ?_, fun h => ⟨by rw [List.drop_eq_nil_of_le (by omega)]; simp, by have := hf h; rwa [List.drop_zero] at this⟩⟩
    simp only [show ¬ ((n : Int) < (I.length : Int)) by omega, if_false]
    exact hb
  | succ d ih =>
    intro n hn
    have hlt : n < I.length := by omega
    obtain ⟨b, hb, hf⟩ := ih (n + 1) (by omega)
    by_cases hl : ((I.getD n []).length : Int) > 50
    · refine ⟨true, Ev.step (fun k => by rw [verditerlaw04_Long.l0]) ?_, fun h => by cases h⟩
      simp only [show ((n : Int) < (I.length : Int)) by omega, show (0 : Int) ≤ (n : Int) by omega, if_true, rdL, hl]
      exact Ev.now _
    · refine ⟨b, Ev.step (fun k => by rw [verditerlaw04_Long.l0]) ?_, fun h => ⟨?_, (hf h).2⟩⟩
      · simp only [show ((n : Int) < (I.length : Int)) by omega, show (0 : Int) ≤ (n : Int) by omega, if_true, rdL, hl, if_false]
        rw [wr_succ (m := I.length) hlt (by omega)]
        exact hb
      · rw [List.drop_eq_getElem_cons hlt]
        intro r hr
        rcases List.mem_cons.1 hr with rfl | hr
        · rw [getD_at _ _ _ hlt] at hl
          omega
        · exact (hf h).1 r hr
theorem long_ev (I O : List (List Int)) : ∃ b, Ev (fun k => verditerlaw04_Long.f k I O) b ∧ (b = false → Sh I O) := by
  unfold verditerlaw04_Long.f
  by_cases h1 : (I.length : Int) > 50
  · refine ⟨true, ?_, fun h => by cases h⟩
    simp only [h1, if_true]
    refine Ev.step (fun k => by rw [verditerlaw04_Long.j0]) ?_
    simp only [if_true]
    exact Ev.now _
  · by_cases h2 : (O.length : Int) > 50
    · refine ⟨true, ?_, fun h => by cases h⟩
      simp only [h1, if_false, h2, decide_true]
      refine Ev.step (fun k => by rw [verditerlaw04_Long.j0]) ?_
      simp only [if_true]
      exact Ev.now _
    · obtain ⟨b, hb, hf⟩ := long_l0 I O (by omega) (by omega) I.length 0 (by omega)
      refine ⟨b, ?_, fun h => ⟨by omega, by omega, fun r hr => ?_⟩⟩
      · simp only [h1, if_false, h2, decide_false]
        refine Ev.step (fun k => by rw [verditerlaw04_Long.j0]) ?_
        simp only [Bool.false_eq_true, if_false]
        exact hb
      · have := hf h
        rw [List.drop_zero] at this
        rcases List.mem_append.1 hr with hr | hr
        · exact this.1 r hr
        · exact this.2 r hr
/-! ### right strikes -/
def inR (lo hi : Int) (l : List Int) : Bool := l.all fun x => decide (lo ≤ x ∧ x ≤ hi)
def okr (n : Nat) (c : List Int) : Bool := decide (c.length = n) && (inR 0 9 c && !c.all (fun x => decide (x = 0)))
def vsz (I O : List (List Int)) : Bool := decide (1 ≤ I.length ∧ I.length ≤ 3) && (decide (1 ≤ O.length ∧ O.length ≤ 3) && decide (1 ≤ (I.getD 0 []).length ∧ (I.getD 0 []).length ≤ 4))
def vl (I O : List (List Int)) : Int := if vsz I O = true ∧ (I ++ O).all (okr (I.getD 0 []).length) = true then 0 else 1
theorem all_eq (l : List Int) (a lo hi : Int) (h : l.length ≤ 1000) : strike_all.f l a lo hi = some (decide ((l.length : Int) = a) && inR lo hi l) := by
  unfold strike_all.f
  rw [if_pos h]
  congr 2
  unfold inR
  induction l with
  | nil => rfl
  | cons x l ih =>
    rw [List.any_cons, List.all_cons, Bool.not_or, ih (by simp at h; omega)]
    simp [bad]
theorem rwithin (n lo hi : Int) : verditerref04_within.f n lo hi = some (decide (lo ≤ n ∧ n ≤ hi)) := by
  unfold verditerref04_within.f
  by_cases h : n ≥ lo
  · simp [h]
  · simp [h]
theorem max_l0 (c : List Int) (hc : c.length ≤ 1000) : ∀ (d n : Nat) (m : Int), n + d = c.length → Ev (fun k => slices_Max_int_int.l0 k c m (n : Int)) ((c.drop n).foldl mx m) := by
  intro d
  induction d with
  | zero =>
    intro n m hn
    refine Ev.step (fun k => by rw [slices_Max_int_int.l0]) ?_
    simp only [show ¬ ((n : Int) < (c.length : Int)) by omega, if_false]
    rw [List.drop_eq_nil_of_le (by omega)]
    exact Ev.now _
  | succ d ih =>
    intro n m hn
    have hlt : n < c.length := by omega
    refine Ev.step (fun k => by rw [slices_Max_int_int.l0]) ?_
    simp only [show ((n : Int) < (c.length : Int)) by omega, show (0 : Int) ≤ (n : Int) by omega, if_true, rdn]
    rw [wr_succ (m := c.length) hlt (by omega), List.drop_eq_getElem_cons hlt, List.foldl_cons, getD_at _ _ _ hlt]
    exact ih (n + 1) _ (by omega)
theorem max_ev (c : List Int) (hc : c.length ≤ 1000) (h1 : 1 ≤ c.length) : Ev (fun k => slices_Max_int_int.f k c) ((c.drop 1).foldl mx (c.getD 0 0)) := by
  unfold slices_Max_int_int.f
  simp only [show ¬ ((c.length : Int) < 1) by omega, if_false]
  refine Ev.step (fun k => by rw [slices_Max_int_int.j0]) ?_
  simp only [show (0 : Int) < (c.length : Int) by omega, if_true]
  have := max_l0 c hc (c.length - 1) 1 (rd c 0) (by omega)
  rw [show rd c 0 = c.getD 0 0 from rdn c 0] at this ⊢
  exact this
theorem max_zero : ∀ (l : List Int) (m : Int), 0 ≤ m → (∀ x ∈ l, 0 ≤ x) → (l.foldl mx m = 0 ↔ m = 0 ∧ ∀ x ∈ l, x = 0)
  | [], m, _, _ => by simp
  | x :: l, m, hm, h => by
    have hx := h x (List.mem_cons_self ..)
    rw [List.foldl_cons, max_zero l (mx m x) (by unfold mx; split <;> omega) (fun y hy => h y (List.mem_cons_of_mem _ hy))]
    have : mx m x = 0 ↔ m = 0 ∧ x = 0 := by unfold mx; split <;> omega
    rw [this]
    simp [and_assoc]
theorem val_l0 (I O : List (List Int)) (hI : 0 < I.length) (hn1 : 1 ≤ (I.getD 0 []).length) (L : List (List Int)) (hL : L.length ≤ 1000) (hr : ∀ r ∈ L, r.length ≤ 50) : ∀ (d n : Nat), n + d = L.length →
    Ev (fun k => strike_Validate.l0 k L (L.length : Int) (n : Int) I O) (if (L.drop n).all (okr (I.getD 0 []).length) = true then 0 else 1) := by
  intro d
  induction d with
  | zero =>
    intro n hn
    refine Ev.step (fun k => by rw [strike_Validate.l0]) ?_
    simp only [show ¬ ((n : Int) < (L.length : Int)) by omega, if_false]
    rw [List.drop_eq_nil_of_le (by omega)]
    exact Ev.now _
  | succ d ih =>
    intro n hn
    have hlt : n < L.length := by omega
    have hrl := hr _ (List.getElem_mem hlt)
    refine Ev.step (fun k => by rw [strike_Validate.l0]) ?_
    simp only [show ((n : Int) < (L.length : Int)) by omega, show (0 : Int) ≤ (n : Int) by omega, show (0 : Int) < (I.length : Int) by omega, if_true, rdL, rdL0]
    rw [List.drop_eq_getElem_cons hlt, List.all_cons, getD_at L n _ hlt, wr_succ (m := L.length) hlt (by omega)]
    generalize L[n] = c at hrl
    refine Ev.bind (Ev.congr (fun k => all_eq c _ 0 9 (by omega)) (Ev.now _)) ?_
    unfold okr
    rw [show decide ((c.length : Int) = ((I.getD 0 []).length : Int)) = decide (c.length = (I.getD 0 []).length) from by congr 1; exact propext (by omega)]
    by_cases h1 : c.length = (I.getD 0 []).length
    · by_cases h2 : inR 0 9 c = true
      · simp only [h1, h2, decide_true, Bool.true_and, if_true]
        refine Ev.bind (max_ev c (by omega) (by omega)) ?_
        have hpos : ∀ x ∈ c, 0 ≤ x := fun x hx => (of_decide_eq_true (List.all_eq_true.1 h2 x hx)).1
        have hc0 : 0 < c.length := by omega
        have hz := max_zero (c.drop 1) (c.getD 0 0) (by rw [getD_at c 0 _ hc0]; exact hpos _ (List.getElem_mem hc0)) (fun x hx => hpos x (List.mem_of_mem_drop hx))
        have hall : c.all (fun x => decide (x = 0)) = true ↔ c.getD 0 0 = 0 ∧ ∀ x ∈ c.drop 1, x = 0 := by
          rw [getD_at c 0 _ hc0]
          constructor
          · intro h
            have h' := fun x hx => of_decide_eq_true (List.all_eq_true.1 h x hx)
            exact ⟨h' _ (List.getElem_mem hc0), fun x hx => h' x (List.mem_of_mem_drop hx)⟩
          · rintro ⟨ha, hb⟩
            refine List.all_eq_true.2 fun x hx => decide_eq_true ?_
            have hcd : c = c[0] :: c.drop 1 := by
              have := List.drop_eq_getElem_cons hc0
              rwa [List.drop_zero] at this
            rw [hcd] at hx
            rcases List.mem_cons.1 hx with rfl | hx
            · exact ha
            · exact hb x hx
        by_cases h3 : (c.drop 1).foldl mx (c.getD 0 0) = 0
        · have h4 := hall.2 (hz.1 h3)
          simp only [h3, h4, if_true, Bool.not_true, Bool.false_and, Bool.false_eq_true, if_false]
          exact Ev.now _
        · have h4 : c.all (fun x => decide (x = 0)) = false := by
            cases hq : c.all (fun x => decide (x = 0)) with
            | true => exact absurd (hz.2 (hall.1 hq)) h3
            | false => rfl
          simp only [h3, h4, if_false, Bool.not_false, Bool.true_and]
          exact ih (n + 1) (by omega)
      · simp only [h1, Bool.not_eq_true] at h2 ⊢
        simp only [h2, decide_true, Bool.true_and, Bool.false_and, Bool.false_eq_true, if_false]
        exact Ev.now _
    · simp only [h1, decide_false, Bool.false_and, Bool.false_eq_true, if_false]
      exact Ev.now _
theorem val_ev {I O : List (List Int)} (h : Sh I O) : Ev (fun k => strike_Validate.f k I O) (vl I O) := by
  obtain ⟨s1, s2, s3⟩ := h
  unfold strike_Validate.f vl vsz
  have hno : ∀ (k : Nat), strike_Validate.j0 (k + 1) true I O = some 1 := fun k => by rw [strike_Validate.j0]; rfl
  have hnoE : Ev (fun k => strike_Validate.j0 k true I O) 1 := Ev.step hno (Ev.now _)
  refine Ev.bind (Ev.congr (fun k => within _ 1 3) (Ev.now _)) ?_
  by_cases h1 : 1 ≤ I.length ∧ I.length ≤ 3
  · have h1' : (1 : Int) ≤ (I.length : Int) ∧ (I.length : Int) ≤ 3 := by omega
    simp only [h1, h1', and_self, decide_true, if_true, Bool.true_and]
    refine Ev.bind (Ev.congr (fun k => within _ 1 3) (Ev.now _)) ?_
    by_cases h2 : 1 ≤ O.length ∧ O.length ≤ 3
    · have h2' : (1 : Int) ≤ (O.length : Int) ∧ (O.length : Int) ≤ 3 := by omega
      simp only [h2, h2', and_self, decide_true, if_true, Bool.true_and, show (0 : Int) < (I.length : Int) by omega, rdL0]
      refine Ev.bind (Ev.congr (fun k => within _ 1 4) (Ev.now _)) ?_
      by_cases h3 : 1 ≤ (I.getD 0 []).length ∧ (I.getD 0 []).length ≤ 4
      · have h3' : (1 : Int) ≤ ((I.getD 0 []).length : Int) ∧ ((I.getD 0 []).length : Int) ≤ 4 := by omega
        simp only [h3, h3', and_self, decide_true, Bool.not_true, true_and]
        refine Ev.step (fun k => by rw [strike_Validate.j0]) ?_
        simp only [Bool.false_eq_true, if_false]
        have hcc : slices_Concat_int_int.f I O = some (I ++ O) := by unfold slices_Concat_int_int.f; rw [if_pos (by omega)]
        simp only [hcc, Option.bind_some]
        have := val_l0 I O (by omega) h3.1 (I ++ O) (by simp; omega) s3 (I ++ O).length 0 (by omega)
        rw [List.drop_zero] at this
        exact this
      · have h3' : ¬ ((1 : Int) ≤ ((I.getD 0 []).length : Int) ∧ ((I.getD 0 []).length : Int) ≤ 4) := by omega
        simp only [h3, h3', decide_false, Bool.not_false, Bool.false_eq_true, false_and, if_false]
        exact hnoE
    · have h2' : ¬ ((1 : Int) ≤ (O.length : Int) ∧ (O.length : Int) ≤ 3) := by omega
      simp only [h2, h2', decide_false, Bool.false_eq_true, if_false, Bool.false_and, false_and]
      exact hnoE
  · have h1' : ¬ ((1 : Int) ≤ (I.length : Int) ∧ (I.length : Int) ≤ 3) := by omega
    simp only [h1, h1', decide_false, Bool.false_eq_true, if_false, Bool.false_and, false_and]
    exact hnoE
end Go.Proofs.Ytdneelgnmnpanaa.P
