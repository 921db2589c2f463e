/- Times that balance, by columns: the reference's answer is the program's; stocks. No conditions beyond those that each theorem names. -/
import Derived.Test.YtdneelgnmnpanaaSe
import Derived.Test.YtdneelgnmnpanaaPl
namespace Go.Proofs.Ytdneelgnmnpanaa.P
open Go.RowKit Go.Proofs.YtdneelgnmnpanaaW.PrintWords
set_option linter.unusedVariables false
set_option linter.unusedSimpArgs false
def csum : List (List Int) → List Int → Nat → Int
  | c :: cs, t :: ts, e => t * c.getD e 0 + csum cs ts e
  | _, _, _ => 0
theorem csum_nil (t : List Int) (e : Nat) : csum [] t e = 0 := by rw [csum]; intros; contradiction
theorem csum_nil2 (L : List (List Int)) (e : Nat) : csum L [] e = 0 := by cases L <;> (rw [csum]; intros; contradiction)
theorem atom_at {c : List Int} (h : Atoms c) (e : Nat) : 0 ≤ c.getD e 0 ∧ c.getD e 0 ≤ 9 := by
  by_cases hl : e < c.length
  · rw [getD_at c e _ hl]
    exact h _ (List.getElem_mem hl)
  · rw [List.getD_eq_getElem?_getD, List.getElem?_eq_none (by omega)]
    simp
theorem sacc_at {m : Nat} (e : Nat) (he : e < m) : ∀ (L : List (List Int)) (t v : List Int) (B : Nat), (∀ c ∈ L, c.length = m ∧ Atoms c) → Coefs t → v.length = m → (∀ x ∈ v, x.natAbs ≤ B) → B + 9000000 * L.length ≤ 4611686018427387904 → (sacc L t v).getD e 0 = v.getD e 0 + csum L t e
  | [], t, v, B, _, _, _, _, _ => by rw [sacc, csum_nil, Int.add_zero]; all_goals (intro _ _ _ _ p q; first | (cases p; done) | (cases q; done))
  | c :: L, [], v, B, _, _, _, _, _ => by rw [sacc, csum_nil2, Int.add_zero]; all_goals (intro _ _ _ _ p q; first | (cases p; done) | (cases q; done))
  | c :: L, t :: ts, v, B, hL, ht, hv, hB, hb => by
    rw [List.length_cons, Nat.mul_add, Nat.mul_one] at hb
    have hb1 : B + 9000000 ≤ 4611686018427387904 := Nat.le_trans (Nat.add_le_add_left (Nat.le_add_left 9000000 _) B) hb
    have h0 := ht t (List.mem_cons_self ..)
    have hc := hL c (List.mem_cons_self ..)
    obtain ⟨h1, h2⟩ := dot_arow (t := t) (B := B) (by omega) hb1 v c [] hB hc.2 (by omega)
    have hal := arow_length t v c (by omega)
    rw [sacc, csum, sacc_at e he L ts (arow t v c) (B + 9000000) (fun x hx => hL x (List.mem_cons_of_mem _ hx)) (fun x hx => ht x (List.mem_cons_of_mem _ hx)) (by rw [hal, hv]) h2 (by omega)]
    have e1 : (arow t v c).getD e 0 = v.getD e 0 + t * c.getD e 0 := by
      rw [getD_at _ e _ (by omega), getD_at v e _ (by omega), getD_at c e _ (by omega)]
      have ha := arow_eq (t := t) (a := v[e]) (b := c[e]) (B := B) (by omega) (hc.2 _ (List.getElem_mem (by omega))) (hB _ (List.getElem_mem (by omega))) (by omega)
      unfold arow
      rw [List.getElem_zipWith, ha.1]
    rw [e1]
    omega
theorem csum_bound (e : Nat) : ∀ (L : List (List Int)) (t : List Int), (∀ c ∈ L, (c.getD e 0).natAbs ≤ 9) → Coefs t → (csum L t e).natAbs ≤ 9000000 * L.length
  | [], t, _, _ => by rw [csum_nil]; simp
  | c :: L, [], _, _ => by rw [csum_nil2]; simp
  | c :: L, t :: ts, h, k => by
    have h1 := h c (List.mem_cons_self ..)
    have h2 := k t (List.mem_cons_self ..)
    have h3 := mulb (x := t) (y := c.getD e 0) (A := 1000000) (B := 9) (by omega) h1
    have h4 := csum_bound e L ts (fun z hz => h z (List.mem_cons_of_mem _ hz)) (fun z hz => k z (List.mem_cons_of_mem _ hz))
    rw [csum, List.length_cons]
    omega
theorem csum_append (e : Nat) : ∀ (L M : List (List Int)) (t : List Int), L.length ≤ t.length → csum (L ++ M) t e = csum L t e + csum M (t.drop L.length) e
  | [], M, t, _ => by rw [csum_nil]; simp
  | c :: L, M, [], h => by simp at h
  | c :: L, M, t :: ts, h => by rw [List.cons_append, csum, csum, csum_append e L M ts (by simpa using h), List.length_cons, List.drop_succ_cons]; omega
def negc (c : List Int) : List Int := c.map fun x => wrap64 (-x)
theorem negc_at {c : List Int} (h : Atoms c) (e : Nat) : (negc c).getD e 0 = -c.getD e 0 := by
  unfold negc
  by_cases hl : e < c.length
  · rw [getD_at _ e _ (by simpa using hl), getD_at c e _ hl, List.getElem_map]
    have := h _ (List.getElem_mem hl)
    exact wrp (by omega) (by omega)
  · rw [List.getD_eq_getElem?_getD, List.getElem?_eq_none (by simpa using hl), List.getD_eq_getElem?_getD, List.getElem?_eq_none (by omega)]
    simp
theorem csum_neg (e : Nat) : ∀ (L : List (List Int)) (t : List Int), (∀ c ∈ L, Atoms c) → csum (L.map negc) t e = -csum L t e
  | [], t, _ => by rw [List.map_nil, csum_nil]; rfl
  | c :: L, [], _ => by rw [csum_nil2, csum_nil2]; rfl
  | c :: L, t :: ts, h => by
    rw [List.map_cons, csum, csum, csum_neg e L ts (fun x hx => h x (List.mem_cons_of_mem _ hx)), negc_at (h c (List.mem_cons_self ..)), Int.mul_neg]
    omega
/-! ### columns -/
theorem cols_l2 (I O : List (List Int)) (out : List (List Int)) (n : Nat) (hn : n < O.length) (hc : O[n].length ≤ 1000) (ho : out.length ≤ 1000) (R : List (List Int)) : ∀ (d j : Nat) (s : List Int), j + d = O[n].length → s.length ≤ j →
    Ev (fun k => verditerref04_Columns.l1 k (out ++ [s ++ negc (O[n].drop j)]) (wrap64 ((n : Int) + 1)) I O) R → Ev (fun k => verditerref04_Columns.l2 k out (n : Int) s (j : Int) I O) R := by
  intro d
  induction d with
  | zero =>
    intro j s hj hs h
    refine Ev.step (fun k => by rw [verditerref04_Columns.l2]) ?_
    rw [List.drop_eq_nil_of_le (by omega)] at h
    simp only [show (0 : Int) ≤ (n : Int) by omega, show ((n : Int) < (O.length : Int)) by omega, if_true, rdL, getD_at O n _ hn, show ¬ ((j : Int) < (O[n].length : Int)) by omega, if_false, show out.length < 5864062014805 by omega]
    simpa [negc] using h
  | succ d ih =>
    intro j s hj hs h
    have hlt : j < O[n].length := by omega
    refine Ev.step (fun k => by rw [verditerref04_Columns.l2]) ?_
    rw [List.drop_eq_getElem_cons hlt] at h
    simp only [show (0 : Int) ≤ (n : Int) by omega, show ((n : Int) < (O.length : Int)) by omega, if_true, rdL, getD_at O n _ hn, show ((j : Int) < (O[n].length : Int)) by omega, show (0 : Int) ≤ (j : Int) by omega, show s.length < 17592186044416 by omega, rdn, getD_at O[n] j _ hlt]
    rw [wr_succ (m := O[n].length) hlt (by omega)]
    refine ih (j + 1) (s ++ [wrap64 (-O[n][j])]) (by omega) (by simp; omega) ?_
    rw [List.append_assoc]
    exact h
theorem cols_l1 (I O : List (List Int)) (hO : O.length ≤ 500) (hc : ∀ c ∈ O, c.length ≤ 1000) : ∀ (d n : Nat) (out : List (List Int)), n + d = O.length → out.length ≤ 500 + n → Ev (fun k => verditerref04_Columns.l1 k out (n : Int) I O) (out ++ (O.drop n).map negc) := by
  intro d
  induction d with
  | zero =>
    intro n out hn ho
    refine Ev.step (fun k => by rw [verditerref04_Columns.l1]) ?_
    simp only [show ¬ ((n : Int) < (O.length : Int)) by omega, if_false]
    rw [List.drop_eq_nil_of_le (by omega), List.map_nil, List.append_nil]
    exact Ev.now _
  | succ d ih =>
    intro n out hn ho
    have hlt : n < O.length := by omega
    refine Ev.step (fun k => by rw [verditerref04_Columns.l1]) ?_
    simp only [show ((n : Int) < (O.length : Int)) by omega, if_true]
    rw [List.drop_eq_getElem_cons hlt, List.map_cons]
    refine cols_l2 I O out n hlt (hc _ (List.getElem_mem hlt)) (by omega) _ O[n].length 0 [] (by omega) (by simp) ?_
    rw [wr_succ (m := O.length) hlt (by omega), List.drop_zero, List.nil_append]
    have := ih (n + 1) (out ++ [negc O[n]]) (by omega) (by simp; omega)
    rw [List.append_assoc] at this
    exact this
theorem cols_l0 (I O : List (List Int)) (hI : I.length ≤ 500) (hc : ∀ c ∈ I, c.length ≤ 1000) (R : List (List Int)) : ∀ (d n : Nat) (out : List (List Int)), n + d = I.length → out.length ≤ n → Ev (fun k => verditerref04_Columns.l1 k (out ++ I.drop n) 0 I O) R → Ev (fun k => verditerref04_Columns.l0 k out (n : Int) I O) R := by
  intro d
  induction d with
  | zero =>
    intro n out hn ho h
    refine Ev.step (fun k => by rw [verditerref04_Columns.l0]) ?_
    rw [List.drop_eq_nil_of_le (by omega), List.append_nil] at h
    simp only [show ¬ ((n : Int) < (I.length : Int)) by omega, if_false]
    exact h
  | succ d ih =>
    intro n out hn ho h
    have hlt : n < I.length := by omega
    have hl := hc _ (List.getElem_mem hlt)
    refine Ev.step (fun k => by rw [verditerref04_Columns.l0]) ?_
    rw [List.drop_eq_getElem_cons hlt] at h
    simp only [show ((n : Int) < (I.length : Int)) by omega, if_true, Option.bind_some, show (0 : Int) ≤ (n : Int) by omega, rdL, getD_at I n _ hlt, List.length_nil, show 0 + I[n].length < 17592186044416 by omega, show out.length < 5864062014805 by omega, List.nil_append]
    rw [wr_succ (m := I.length) hlt (by omega)]
    refine ih (n + 1) (out ++ [I[n]]) (by omega) (by simp; omega) ?_
    rw [List.append_assoc]
    exact h
def cols (I O : List (List Int)) : List (List Int) := I ++ O.map negc
theorem cols_ev {I O : List (List Int)} (h : vl I O = 0) : Ev (fun k => verditerref04_Columns.f k I O) (cols I O) := by
  obtain ⟨s1, s2, s3, s4, s5, s6, s7⟩ := vl_size h
  unfold verditerref04_Columns.f
  refine cols_l0 I O (by omega) (fun c hc => by have := (s7 c (List.mem_append_left _ hc)).1; omega) _ I.length 0 [] (by omega) (by simp) ?_
  rw [List.drop_zero, List.nil_append]
  have := cols_l1 I O (by omega) (fun c hc => by have := (s7 c (List.mem_append_right _ hc)).1; omega) O.length 0 I (by omega) (by omega)
  rw [List.drop_zero] at this
  exact this
/-! ### the reference's balances -/
theorem rb_l1 (t : List Int) (C : List (List Int)) (hC : C.length = t.length) (hC6 : C.length ≤ 6) (e : Nat) (hc : ∀ c ∈ C, e < c.length ∧ (c.getD e 0).natAbs ≤ 9) (ht : Coefs t) (R : Bool) (hR : Ev (fun k => verditerref04_balances.l0 k t C (wrap64 ((e : Int) + 1))) R) : ∀ (d n : Nat) (s : Int), n + d = C.length → s.natAbs ≤ 9000000 * n →
    Ev (fun k => verditerref04_balances.l1 k t C (e : Int) s (n : Int)) (if s + csum (C.drop n) (t.drop n) e = 0 then R else false) := by
  intro d
  induction d with
  | zero =>
    intro n s hn hs
    refine Ev.step (fun k => by rw [verditerref04_balances.l1]) ?_
    rw [List.drop_eq_nil_of_le (by omega), csum_nil, Int.add_zero]
    simp only [show ¬ ((n : Int) < (C.length : Int)) by omega, if_false]
    by_cases h : s = 0
    · simp only [h, if_true]
      exact hR
    · simp only [h, if_false]
      exact Ev.now _
  | succ d ih =>
    intro n s hn hs
    have h1 : n < C.length := by omega
    have h2 : n < t.length := by omega
    obtain ⟨hl, h9⟩ := hc _ (List.getElem_mem h1)
    have htn := ht _ (List.getElem_mem h2)
    refine Ev.step (fun k => by rw [verditerref04_balances.l1]) ?_
    rw [List.drop_eq_getElem_cons h1, List.drop_eq_getElem_cons h2, csum]
    simp only [show ((n : Int) < (C.length : Int)) by omega, show (0 : Int) ≤ (n : Int) by omega, show ((n : Int) < (t.length : Int)) by omega, show (0 : Int) ≤ (e : Int) by omega, if_true, rdL, getD_at C n _ h1, show ((e : Int) < (C[n].length : Int)) by omega, rdn, getD_at t n _ h2]
    generalize C[n].getD e 0 = x at *
    generalize t[n] = y at *
    have hm := mulb (x := y) (y := x) (A := 1000000) (B := 9) (by omega) h9
    rw [wr_succ (m := C.length) h1 (by omega), wrp (x := y * x) (by omega) (by omega), wrp (x := s + y * x) (by omega) (by omega)]
    have := ih (n + 1) (s + y * x) (by omega) (by omega)
    simp only [← Int.add_assoc]
    exact this
open scoped Classical in
theorem rb_l0 (t : List Int) (C : List (List Int)) (m : Nat) (hm : m ≤ 1000) (h0 : 0 < C.length) (hC : C.length = t.length) (hC6 : C.length ≤ 6) (hc : ∀ c ∈ C, c.length = m ∧ ∀ e, (c.getD e 0).natAbs ≤ 9) (ht : Coefs t) : ∀ (d e : Nat), e + d = m →
    Ev (fun k => verditerref04_balances.l0 k t C (e : Int)) (decide (∀ q, e ≤ q → q < m → csum C t q = 0)) := by
  intro d
  induction d with
  | zero =>
    intro e he
    refine Ev.step (fun k => by rw [verditerref04_balances.l0]) ?_
    simp only [show (0 : Int) < (C.length : Int) by omega, if_true, rdL0, getD_at C 0 _ h0, (hc _ (List.getElem_mem h0)).1, show ¬ ((e : Int) < (m : Int)) by omega, if_false]
    rw [decide_eq_true (fun q h1 h2 => by omega)]
    exact Ev.now _
  | succ d ih =>
    intro e he
    refine Ev.step (fun k => by rw [verditerref04_balances.l0]) ?_
    simp only [show (0 : Int) < (C.length : Int) by omega, if_true, rdL0, getD_at C 0 _ h0, (hc _ (List.getElem_mem h0)).1, show ((e : Int) < (m : Int)) by omega]
    have := rb_l1 t C hC hC6 e (fun c hcm => ⟨by rw [(hc c hcm).1]; omega, (hc c hcm).2 e⟩) ht _ (by rw [wr_succ (m := m) (by omega) (by omega)]; exact ih (e + 1) (by omega)) C.length 0 0 (by omega) (by simp)
    rw [List.drop_zero, List.drop_zero, Int.zero_add] at this
    have hd : (if csum C t e = 0 then decide (∀ q, e + 1 ≤ q → q < m → csum C t q = 0) else false) = decide (∀ q, e ≤ q → q < m → csum C t q = 0) := by
      by_cases hz : csum C t e = 0
      · rw [if_pos hz]
        refine decide_eq_decide.2 ⟨fun h q h1 h2 => ?_, fun h q h1 h2 => h q (by omega) h2⟩
        by_cases hq : q = e
        · rw [hq]; exact hz
        · exact h q (by omega) h2
      · rw [if_neg hz, decide_eq_false (fun h => hz (h e (Nat.le_refl _) (by omega)))]
    rw [hd] at this
    exact this
theorem balance_iff {I O : List (List Int)} {t : List Int} (h : vl I O = 0) (htl : t.length = I.length + O.length) (ht : Coefs t) : inS I O t = outS I O t ↔ ∀ q, q < (I.getD 0 []).length → csum I t q = csum O (t.drop I.length) q := by
  obtain ⟨s1, s2, s3, s4, s5, s6, s7⟩ := vl_size h
  have hz : ∀ x ∈ zs (I.getD 0 []).length, x.natAbs ≤ 0 := fun x hx => by
    have := List.eq_of_mem_replicate hx
    omega
  have hzd : ∀ q, (zs (I.getD 0 []).length).getD q 0 = 0 := fun q => by
    unfold zs
    rw [List.getD_eq_getElem?_getD, List.getElem?_replicate]
    split <;> rfl
  have e1 := fun q hq => sacc_at (m := (I.getD 0 []).length) q hq I t (zs (I.getD 0 []).length) 0 (fun c hc => s7 c (List.mem_append_left _ hc)) ht (by simp [zs]) hz (by omega)
  have e2 := fun q hq => sacc_at (m := (I.getD 0 []).length) q hq O (t.drop I.length) (zs (I.getD 0 []).length) 0 (fun c hc => s7 c (List.mem_append_right _ hc)) (fun x hx => ht x (List.mem_of_mem_drop hx)) (by simp [zs]) hz (by omega)
  obtain ⟨l1, l2⟩ := side_len h t
  constructor
  · intro he q hq
    have a := e1 q hq
    have b := e2 q hq
    rw [hzd, Int.zero_add] at a b
    rw [← a, ← b]
    exact congrArg (fun v => v.getD q 0) he
  · intro hall
    apply List.ext_getElem (by rw [l1, l2])
    intro q hq1 hq2
    have a := e1 q (by omega)
    have b := e2 q (by omega)
    rw [hzd, Int.zero_add] at a b
    have := hall q (by omega)
    rw [← getD_at _ q 0 hq1, ← getD_at _ q 0 hq2]
    show (inS I O t).getD q 0 = (outS I O t).getD q 0
    unfold inS outS
    rw [a, b, this]
open scoped Classical in
theorem rbalances_ev {I O : List (List Int)} (h : vl I O = 0) (t : List Int) (htl : t.length = I.length + O.length) (ht : Coefs t) : Ev (fun k => verditerref04_balances.f k I O t) (decide (inS I O t = outS I O t)) := by
  obtain ⟨s1, s2, s3, s4, s5, s6, s7⟩ := vl_size h
  unfold verditerref04_balances.f
  refine Ev.bind (cols_ev h) ?_
  have hcl : (cols I O).length = I.length + O.length := by simp [cols]
  have := rb_l0 t (cols I O) (I.getD 0 []).length (by omega) (by omega) (by omega) (by omega) (fun c hc => by
    unfold cols at hc
    rcases List.mem_append.1 hc with hc | hc
    · have := s7 c (List.mem_append_left _ hc)
      exact ⟨this.1, fun e => by have := atom_at this.2 e; omega⟩
    · obtain ⟨b, hb, rfl⟩ := List.mem_map.1 hc
      have := s7 b (List.mem_append_right _ hb)
      exact ⟨by simp only [negc, List.length_map]; exact this.1, fun e => by rw [negc_at this.2]; have := atom_at this.2 e; omega⟩) ht (I.getD 0 []).length 0 (by omega)
  have hd : decide (∀ q, 0 ≤ q → q < (I.getD 0 []).length → csum (cols I O) t q = 0) = decide (inS I O t = outS I O t) := by
    refine decide_eq_decide.2 ?_
    rw [balance_iff h htl ht]
    have hcs : ∀ q, csum (cols I O) t q = csum I t q - csum O (t.drop I.length) q := fun q => by
      unfold cols
      rw [csum_append q I _ t (by omega), csum_neg q O _ (fun c hc => (s7 c (List.mem_append_right _ hc)).2)]
      omega
    constructor
    · intro hh q hq
      have := hh q (Nat.zero_le _) hq
      rw [hcs] at this
      omega
    · intro hh q _ hq
      rw [hcs, hh q hq]
      omega
  rw [hd] at this
  exact this
end Go.Proofs.Ytdneelgnmnpanaa.P
