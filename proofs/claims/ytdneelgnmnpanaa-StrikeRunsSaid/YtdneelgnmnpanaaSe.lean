/- Weights and sums without the bounds of Go's ints; lists compared; no conditions beyond those that each theorem names. -/
import Derived.Test.YtdneelgnmnpanaaSd
namespace Go.Proofs.Ytdneelgnmnpanaa.P
open Go.RowKit Go.Proofs.YtdneelgnmnpanaaW.PrintWords
set_option linter.unusedVariables false
set_option linter.unusedSimpArgs false
def dot : List Int → List Int → Int
  | x :: c, y :: w => x * y + dot c w
  | _, _ => 0
theorem dot_nil (w : List Int) : dot [] w = 0 := by rw [dot]; intros; contradiction
theorem dot_nil2 (c : List Int) : dot c [] = 0 := by cases c <;> (rw [dot]; intros; contradiction)
theorem mulb {x y : Int} {A B : Nat} (hx : x.natAbs ≤ A) (hy : y.natAbs ≤ B) : (x * y).natAbs ≤ A * B := by
  rw [Int.natAbs_mul]
  exact Nat.mul_le_mul hx hy
def Atoms (c : List Int) : Prop := ∀ x ∈ c, 0 ≤ x ∧ x ≤ 9
def Coefs (c : List Int) : Prop := ∀ x ∈ c, -1000000 ≤ x ∧ x ≤ 1000000
theorem dot_bound : ∀ (c w : List Int), Atoms c → Coefs w → (dot c w).natAbs ≤ 9000000 * c.length
  | [], w, _, _ => by rw [dot_nil]; simp
  | x :: c, [], _, _ => by rw [dot_nil2]; simp
  | x :: c, y :: w, h, k => by
    have h1 := h x (List.mem_cons_self ..)
    have h2 := k y (List.mem_cons_self ..)
    have h3 := mulb (x := x) (y := y) (A := 9) (B := 1000000) (by omega) (by omega)
    have h4 := dot_bound c w (fun z hz => h z (List.mem_cons_of_mem _ hz)) (fun z hz => k z (List.mem_cons_of_mem _ hz))
    rw [dot, List.length_cons]
    omega
theorem wdot_eq : ∀ (c w : List Int) (s : Int), Atoms c → Coefs w → s.natAbs + 9000000 * c.length ≤ 4611686018427387904 → wdot s c w = s + dot c w
  | [], w, s, _, _, _ => by rw [dot_nil, wdot, Int.add_zero]; all_goals (intro _ _ _ _ p q; first | (cases p; done) | (cases q; done))
  | x :: c, [], s, _, _, _ => by rw [dot_nil2, wdot, Int.add_zero]; all_goals (intro _ _ _ _ p q; first | (cases p; done) | (cases q; done))
  | x :: c, y :: w, s, h, k, hb => by
    have h1 := h x (List.mem_cons_self ..)
    have h2 := k y (List.mem_cons_self ..)
    have h3 := mulb (x := x) (y := y) (A := 9) (B := 1000000) (by omega) (by omega)
    rw [List.length_cons] at hb
    rw [wdot, wrp (x := x * y) (by omega) (by omega), wrp (x := s + x * y) (by omega) (by omega), wdot_eq c w (s + x * y) (fun z hz => h z (List.mem_cons_of_mem _ hz)) (fun z hz => k z (List.mem_cons_of_mem _ hz)) (by omega), dot]
    omega
theorem arow_eq {t a b : Int} {B : Nat} (ht : t.natAbs ≤ 1000000) (hb : 0 ≤ b ∧ b ≤ 9) (ha : a.natAbs ≤ B) (hB : B + 9000000 ≤ 4611686018427387904) : wrap64 (a + wrap64 (t * b)) = a + t * b ∧ (a + t * b).natAbs ≤ B + 9000000 := by
  have h3 := mulb (x := t) (y := b) (A := 1000000) (B := 9) ht (by omega)
  rw [wrp (x := t * b) (by omega) (by omega), wrp (x := a + t * b) (by omega) (by omega)]
  exact ⟨rfl, by omega⟩
theorem dot_arow {t : Int} {B : Nat} (ht : t.natAbs ≤ 1000000) (hB : B + 9000000 ≤ 4611686018427387904) : ∀ (v c w : List Int), (∀ x ∈ v, x.natAbs ≤ B) → Atoms c → v.length = c.length → dot (arow t v c) w = dot v w + t * dot c w ∧ ∀ x ∈ arow t v c, x.natAbs ≤ B + 9000000
  | [], [], w, _, _, _ => by simp [arow, dot_nil]
  | a :: v, b :: c, [], hv, hc, hl => by
    have ha := arow_eq ht (hc b (List.mem_cons_self ..)) (hv a (List.mem_cons_self ..)) hB
    have := (dot_arow ht hB v c [] (fun z hz => hv z (List.mem_cons_of_mem _ hz)) (fun z hz => hc z (List.mem_cons_of_mem _ hz)) (by simpa using hl)).2
    refine ⟨by simp [dot_nil2], fun x hx => ?_⟩
    unfold arow at hx
    rw [List.zipWith_cons_cons] at hx
    rcases List.mem_cons.1 hx with rfl | hx
    · rw [ha.1]; exact ha.2
    · exact this x hx
  | a :: v, b :: c, y :: w, hv, hc, hl => by
    have ha := arow_eq ht (hc b (List.mem_cons_self ..)) (hv a (List.mem_cons_self ..)) hB
    obtain ⟨h1, h2⟩ := dot_arow ht hB v c w (fun z hz => hv z (List.mem_cons_of_mem _ hz)) (fun z hz => hc z (List.mem_cons_of_mem _ hz)) (by simpa using hl)
    have e : arow t (a :: v) (b :: c) = (a + t * b) :: arow t v c := by
      unfold arow
      rw [List.zipWith_cons_cons, ha.1]
    rw [e]
    refine ⟨?_, fun x hx => ?_⟩
    · rw [dot, dot, dot, h1, Int.add_mul, Int.mul_add, Int.mul_assoc]
      omega
    · rcases List.mem_cons.1 hx with rfl | hx
      · exact ha.2
      · exact h2 x hx
def tdot : List (List Int) → List Int → List Int → Int
  | c :: cs, t :: ts, w => t * dot c w + tdot cs ts w
  | _, _, _ => 0
theorem dot_sacc {m : Nat} (w : List Int) : ∀ (L : List (List Int)) (t v : List Int) (B : Nat), (∀ c ∈ L, c.length = m ∧ Atoms c) → Coefs t → v.length = m → (∀ x ∈ v, x.natAbs ≤ B) → B + 9000000 * L.length ≤ 4611686018427387904 → dot (sacc L t v) w = dot v w + tdot L t w
  | [], t, v, B, _, _, _, _, _ => by rw [sacc, tdot, Int.add_zero]; all_goals (intro _ _ _ _ p q; first | (cases p; done) | (cases q; done))
  | c :: L, [], v, B, _, _, _, _, _ => by rw [sacc, tdot, Int.add_zero]; all_goals (intro _ _ _ _ p q; first | (cases p; done) | (cases q; done))
  | c :: L, t :: ts, v, B, hL, ht, hv, hB, hb => by
    rw [List.length_cons, Nat.mul_add, Nat.mul_one] at hb
    have hb1 : B + 9000000 ≤ 4611686018427387904 := Nat.le_trans (Nat.add_le_add_left (Nat.le_add_left 9000000 _) B) hb
    have h0 := ht t (List.mem_cons_self ..)
    have hc := hL c (List.mem_cons_self ..)
    obtain ⟨h1, h2⟩ := dot_arow (t := t) (B := B) (by omega) hb1 v c w hB hc.2 (by omega)
    rw [sacc, tdot, dot_sacc w L ts (arow t v c) (B + 9000000) (fun x hx => hL x (List.mem_cons_of_mem _ hx)) (fun x hx => ht x (List.mem_cons_of_mem _ hx)) (by rw [arow_length _ _ _ (by omega), hv]) h2 (by omega), h1]
    omega
theorem dot_zs (n : Nat) : ∀ (w : List Int), dot (zs n) w = 0 := by
  induction n with
  | zero => intro w; exact dot_nil w
  | succ n ih =>
    intro w
    cases w with
    | nil => exact dot_nil2 _
    | cons y w =>
      show dot (0 :: zs n) (y :: w) = 0
      rw [dot, ih]
      omega
theorem eq_l0 (a b : List Int) (hl : a.length = b.length) (h : a.length ≤ 1000) : ∀ (d n : Nat), n + d = a.length → Ev (fun k => slices_Equal_int_int.l0 k a b (a.length : Int) (n : Int)) (decide (a.drop n = b.drop n)) := by
  intro d
  induction d with
  | zero =>
    intro n hn
    refine Ev.step (fun k => by rw [slices_Equal_int_int.l0]) ?_
    simp only [show ¬ ((n : Int) < (a.length : Int)) by omega, if_false]
    rw [List.drop_eq_nil_of_le (by omega), List.drop_eq_nil_of_le (by omega)]
    exact Ev.now _
  | succ d ih =>
    intro n hn
    have h1 : n < a.length := by omega
    have h2 : n < b.length := by omega
    refine Ev.step (fun k => by rw [slices_Equal_int_int.l0]) ?_
    simp only [show ((n : Int) < (a.length : Int)) by omega, show (0 : Int) ≤ (n : Int) by omega, show ((n : Int) < (b.length : Int)) by omega, if_true, rdn, getD_at a n _ h1, getD_at b n _ h2]
    rw [wr_succ (m := a.length) h1 (by omega), List.drop_eq_getElem_cons h1, List.drop_eq_getElem_cons h2]
    by_cases c : a[n] = b[n]
    · simp only [c, if_true, List.cons.injEq, true_and]
      exact ih (n + 1) (by omega)
    · simp only [c, if_false, List.cons.injEq, false_and, decide_false]
      exact Ev.now _
theorem eq_ev (a b : List Int) (h : a.length ≤ 1000) : Ev (fun k => slices_Equal_int_int.f k a b) (decide (a = b)) := by
  unfold slices_Equal_int_int.f
  by_cases hl : a.length = b.length
  · simp only [show ((a.length : Int) = (b.length : Int)) by omega, if_true]
    have := eq_l0 a b hl h a.length 0 (by omega)
    rw [List.drop_zero, List.drop_zero] at this
    rw [← hl]
    exact this
  · have : a ≠ b := fun e => hl (by rw [e])
    simp only [show ¬ ((a.length : Int) = (b.length : Int)) by omega, if_false, this, decide_false]
    exact Ev.now _
theorem sm_l0 (a b : List Int) (hl : a.length = b.length) (h : a.length ≤ 1000) : ∀ (d n : Nat), n + d = a.length → Ev (fun k => verditerref04_SameInts.l0 k a b (n : Int)) (decide (a.drop n = b.drop n)) := by
  intro d
  induction d with
  | zero =>
    intro n hn
    refine Ev.step (fun k => by rw [verditerref04_SameInts.l0]) ?_
    simp only [show ¬ ((n : Int) < (a.length : Int)) by omega, if_false]
    rw [List.drop_eq_nil_of_le (by omega), List.drop_eq_nil_of_le (by omega)]
    exact Ev.now _
  | succ d ih =>
    intro n hn
    have h1 : n < a.length := by omega
    have h2 : n < b.length := by omega
    refine Ev.step (fun k => by rw [verditerref04_SameInts.l0]) ?_
    simp only [show ((n : Int) < (a.length : Int)) by omega, show (0 : Int) ≤ (n : Int) by omega, show ((n : Int) < (b.length : Int)) by omega, if_true, rdn, getD_at a n _ h1, getD_at b n _ h2]
    rw [wr_succ (m := a.length) h1 (by omega), List.drop_eq_getElem_cons h1, List.drop_eq_getElem_cons h2]
    by_cases c : a[n] = b[n]
    · simp only [c, if_true, List.cons.injEq, true_and]
      exact ih (n + 1) (by omega)
    · simp only [c, if_false, List.cons.injEq, false_and, decide_false]
      exact Ev.now _
theorem sm_ev (a b : List Int) (h : a.length ≤ 1000) : Ev (fun k => verditerref04_SameInts.f k a b) (decide (a = b)) := by
  unfold verditerref04_SameInts.f
  by_cases hl : a.length = b.length
  · simp only [show ((a.length : Int) = (b.length : Int)) by omega, if_true]
    have := sm_l0 a b hl h a.length 0 (by omega)
    rw [List.drop_zero, List.drop_zero] at this
    exact this
  · have : a ≠ b := fun e => hl (by rw [e])
    simp only [show ¬ ((a.length : Int) = (b.length : Int)) by omega, if_false, this, decide_false]
    exact Ev.now _
theorem side_len {I O : List (List Int)} (h : vl I O = 0) (t : List Int) : (inS I O t).length = (I.getD 0 []).length ∧ (outS I O t).length = (I.getD 0 []).length := by
  obtain ⟨s1, s2, s3, s4, s5, s6, s7⟩ := vl_size h
  exact ⟨sacc_length _ I t _ (fun c hc => (s7 c (List.mem_append_left _ hc)).1) (by simp [zs]), sacc_length _ O _ _ (fun c hc => (s7 c (List.mem_append_right _ hc)).1) (by simp [zs])⟩
theorem balances_ev {I O : List (List Int)} (h : vl I O = 0) (t : List Int) (ht : t.length = I.length + O.length) : Ev (fun k => strike_balances.f k I O t) (decide (inS I O t = outS I O t)) := by
  unfold strike_balances.f
  refine Ev.bind (sides_ev h t ht) ?_
  have hl := side_len h t
  have hs := vl_size h
  exact Ev.bind (eq_ev (inS I O t) (outS I O t) (by omega)) (Ev.now _)
end Go.Proofs.Ytdneelgnmnpanaa.P
