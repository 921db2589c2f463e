/- What is weighed and what the sides sum to, by the program and by the reference: the same, as far as lengths fit; no conditions beyond those that each theorem names. -/
import Derived.Test.YtdneelgnmnpanaaSc
namespace Go.Proofs.Ytdneelgnmnpanaa.P
open Go.RowKit Go.Proofs.YtdneelgnmnpanaaW.PrintWords
set_option linter.unusedVariables false
set_option linter.unusedSimpArgs false
def wdot : Int → List Int → List Int → Int
  | s, x :: c, y :: w => wdot (wrap64 (s + wrap64 (x * y))) c w
  | s, _, _ => s
theorem weigh_l1 (w : List Int) (L : List (List Int)) (n : Nat) (out c : List Int) (hcw : c.length = w.length) (hc : c.length ≤ 1000) (ho : out.length ≤ 1000) (R : List Int) : ∀ (d j : Nat) (s : Int), j + d = c.length →
    Ev (fun k => strike_weigh.l0 k w (out ++ [wdot s (c.drop j) (w.drop j)]) L (L.length : Int) (wrap64 ((n : Int) + 1))) R →
    Ev (fun k => strike_weigh.l1 k w out s L (L.length : Int) (n : Int) c (c.length : Int) (j : Int)) R := by
  intro d
  induction d with
  | zero =>
    intro j s hj h
    refine Ev.step (fun k => by rw [strike_weigh.l1]) ?_
    rw [List.drop_eq_nil_of_le (by omega)] at h
    simp only [show ¬ ((j : Int) < (c.length : Int)) by omega, if_false, show out.length < 17592186044416 by omega, if_true]
    exact h
  | succ d ih =>
    intro j s hj h
    have hlt : j < c.length := by omega
    have hlw : j < w.length := by omega
    refine Ev.step (fun k => by rw [strike_weigh.l1]) ?_
    rw [List.drop_eq_getElem_cons hlt, List.drop_eq_getElem_cons hlw, wdot] at h
    simp only [show ((j : Int) < (c.length : Int)) by omega, show (0 : Int) ≤ (j : Int) by omega, show ((j : Int) < (w.length : Int)) by omega, if_true, rdn, getD_at c j _ hlt, getD_at w j _ hlw]
    rw [wr_succ (m := c.length) hlt (by omega)]
    exact ih (j + 1) _ (by omega) h
theorem weigh_l0 (w : List Int) (L : List (List Int)) (hL : L.length ≤ 500) (hw : w.length ≤ 1000) (hc : ∀ c ∈ L, c.length = w.length) : ∀ (d n : Nat) (out : List Int), n + d = L.length → out.length ≤ n → Ev (fun k => strike_weigh.l0 k w out L (L.length : Int) (n : Int)) (out ++ (L.drop n).map (fun c => wdot 0 c w)) := by
  intro d
  induction d with
  | zero =>
    intro n out hn ho
    refine Ev.step (fun k => by rw [strike_weigh.l0]) ?_
    simp only [show ¬ ((n : Int) < (L.length : Int)) by omega, if_false]
    rw [List.drop_eq_nil_of_le (by omega), List.map_nil, List.append_nil]
    exact Ev.now _
  | succ d ih =>
    intro n out hn ho
    have hlt : n < L.length := by omega
    refine Ev.step (fun k => by rw [strike_weigh.l0]) ?_
    simp only [show ((n : Int) < (L.length : Int)) by omega, show (0 : Int) ≤ (n : Int) by omega, if_true, rdL, getD_at L n _ hlt]
    have hl := hc _ (List.getElem_mem hlt)
    have := weigh_l1 w L n out L[n] hl (by omega) (by omega) (out ++ (L.drop n).map (fun c => wdot 0 c w)) L[n].length 0 0 (by omega) (by
      rw [wr_succ (m := L.length) hlt (by omega), List.drop_zero, List.drop_zero, List.drop_eq_getElem_cons hlt, List.map_cons]
      have := ih (n + 1) (out ++ [wdot 0 L[n] w]) (by omega) (by simp; omega)
      rw [List.append_assoc] at this
      exact this)
    exact this
theorem weigh_ev {I O : List (List Int)} (h : vl I O = 0) (w : List Int) (hw : w.length = (I.getD 0 []).length) : Ev (fun k => strike_weigh.f k I O w) ((I ++ O).map (fun c => wdot 0 c w)) := by
  obtain ⟨s1, s2, s3, s4, s5, s6, s7⟩ := vl_size h
  unfold strike_weigh.f
  have hcc : slices_Concat_int_int.f I O = some (I ++ O) := by unfold slices_Concat_int_int.f; rw [if_pos (by omega)]
  simp only [hcc, Option.bind_some]
  have := weigh_l0 w (I ++ O) (by simp; omega) (by omega) (fun c hc => by rw [(s7 c hc).1, hw]) (I ++ O).length 0 [] (by omega) (by simp)
  rw [List.drop_zero, List.nil_append] at this
  exact this
/-! ### sides -/
def arow (t : Int) (v c : List Int) : List Int := List.zipWith (fun a b => wrap64 (a + wrap64 (t * b))) v c
def sacc : List (List Int) → List Int → List Int → List Int
  | c :: cs, t :: ts, v => sacc cs ts (arow t v c)
  | _, _, v => v
theorem arow_length (t : Int) (v c : List Int) (h : c.length = v.length) : (arow t v c).length = v.length := by simp [arow, h]
theorem mix_get (A v : List Int) (j : Nat) (hA : A.length = v.length) (hj : j < v.length) : (A.take j ++ v.drop j).getD j 0 = v[j] := by
  rw [List.getD_eq_getElem?_getD, List.getElem?_append_right (by rw [List.length_take]; omega), List.length_take, Nat.min_eq_left (by omega), Nat.sub_self, List.getElem?_drop, Nat.add_zero, List.getElem?_eq_getElem hj]
  rfl
theorem mix_set (A v : List Int) (j : Nat) (hA : A.length = v.length) (hj : j < v.length) : (A.take j ++ v.drop j).set j (A[j]'(by omega)) = A.take (j + 1) ++ v.drop (j + 1) := by
  rw [List.set_append_right _ _ (by rw [List.length_take]; omega), List.length_take, Nat.min_eq_left (by omega), Nat.sub_self, List.drop_eq_getElem_cons hj, List.set_cons_zero, List.take_succ_eq_append_getElem (by omega), List.append_assoc]
  rfl
theorem mix_length (A v : List Int) (j : Nat) (hA : A.length = v.length) (hj : j ≤ v.length) : (A.take j ++ v.drop j).length = v.length := by simp; omega
theorem sides_l1 (t v2 : List Int) (I O : List (List Int)) (n : Nat) (hnt : n < t.length) (c v : List Int) (hcv : c.length = v.length) (hc : c.length ≤ 1000) (R : List Int × List Int)
    (h : Ev (fun k => strike_sides.l0 k t (arow t[n] v c) v2 I (I.length : Int) (wrap64 ((n : Int) + 1)) I O) R) : ∀ (d j : Nat), j + d = c.length →
    Ev (fun k => strike_sides.l1 k t ((arow t[n] v c).take j ++ v.drop j) v2 (n : Int) I (I.length : Int) (n : Int) c (c.length : Int) (j : Int) I O) R := by
  have hA := arow_length t[n] v c hcv
  intro d
  induction d with
  | zero =>
    intro j hj
    refine Ev.step (fun k => by rw [strike_sides.l1]) ?_
    simp only [show ¬ ((j : Int) < (c.length : Int)) by omega, if_false]
    rw [List.take_of_length_le (by omega), List.drop_eq_nil_of_le (by omega), List.append_nil]
    exact h
  | succ d ih =>
    intro j hj
    have hlt : j < c.length := by omega
    have hlv : j < v.length := by omega
    refine Ev.step (fun k => by rw [strike_sides.l1]) ?_
    simp only [show ((j : Int) < (c.length : Int)) by omega, show (0 : Int) ≤ (j : Int) by omega, mix_length _ v j hA (by omega), show ((j : Int) < (v.length : Int)) by omega, show (0 : Int) ≤ (n : Int) by omega, show ((n : Int) < (t.length : Int)) by omega, if_true, rdn, mix_get _ v j hA hlv, getD_at c j _ hlt, getD_at t n _ hnt, Int.toNat_natCast]
    rw [wr_succ (m := c.length) hlt (by omega)]
    have hs := mix_set (arow t[n] v c) v j hA hlv
    rw [show (arow t[n] v c)[j]'(by omega) = wrap64 (v[j] + wrap64 (t[n] * c[j])) by simp [arow]] at hs
    rw [hs]
    exact ih (j + 1) (by omega)
theorem sides_l3 (t v1 : List Int) (I O : List (List Int)) (hI : I.length ≤ 1000) (n : Nat) (hn : n ≤ 1000) (hnt : I.length + n < t.length) (c v : List Int) (hcv : c.length = v.length) (hc : c.length ≤ 1000) (R : List Int × List Int)
    (h : Ev (fun k => strike_sides.l2 k t v1 (arow t[I.length + n] v c) O (O.length : Int) (wrap64 ((n : Int) + 1)) I O) R) : ∀ (d j : Nat), j + d = c.length →
    Ev (fun k => strike_sides.l3 k t v1 ((arow t[I.length + n] v c).take j ++ v.drop j) (n : Int) O (O.length : Int) (n : Int) c (c.length : Int) (j : Int) I O) R := by
  have hA := arow_length t[I.length + n] v c hcv
  intro d
  induction d with
  | zero =>
    intro j hj
    refine Ev.step (fun k => by rw [strike_sides.l3]) ?_
    simp only [show ¬ ((j : Int) < (c.length : Int)) by omega, if_false]
    rw [List.take_of_length_le (by omega), List.drop_eq_nil_of_le (by omega), List.append_nil]
    exact h
  | succ d ih =>
    intro j hj
    have hlt : j < c.length := by omega
    have hlv : j < v.length := by omega
    have hw : wrap64 ((I.length : Int) + (n : Int)) = ((I.length + n : Nat) : Int) := by rw [wrp (by omega) (by omega)]; omega
    refine Ev.step (fun k => by rw [strike_sides.l3]) ?_
    simp only [show ((j : Int) < (c.length : Int)) by omega, show (0 : Int) ≤ (j : Int) by omega, mix_length _ v j hA (by omega), show ((j : Int) < (v.length : Int)) by omega, hw, show (0 : Int) ≤ ((I.length + n : Nat) : Int) by omega, show (((I.length + n : Nat) : Int) < (t.length : Int)) by omega, if_true, rdn, mix_get _ v j hA hlv, getD_at c j _ hlt, getD_at t (I.length + n) _ hnt, Int.toNat_natCast]
    rw [wr_succ (m := c.length) hlt (by omega)]
    have hs := mix_set (arow t[I.length + n] v c) v j hA hlv
    rw [show (arow t[I.length + n] v c)[j]'(by omega) = wrap64 (v[j] + wrap64 (t[I.length + n] * c[j])) by simp [arow]] at hs
    rw [hs]
    exact ih (j + 1) (by omega)
theorem sacc_drop (L : List (List Int)) (t v : List Int) (n m : Nat) (hn : n < L.length) (hm : m < t.length) : sacc (L.drop n) (t.drop m) v = sacc (L.drop (n + 1)) (t.drop (m + 1)) (arow t[m] v L[n]) := by
  rw [List.drop_eq_getElem_cons hn, List.drop_eq_getElem_cons hm, sacc]
theorem sides_l2 (t v1 : List Int) (I O : List (List Int)) (hI : I.length ≤ 1000) (hO : O.length ≤ 1000) (ht : t.length = I.length + O.length) (m : Nat) (hm : m ≤ 1000) (hc : ∀ c ∈ O, c.length = m) : ∀ (d n : Nat) (v : List Int), n + d = O.length → v.length = m →
    Ev (fun k => strike_sides.l2 k t v1 v O (O.length : Int) (n : Int) I O) (v1, sacc (O.drop n) (t.drop (I.length + n)) v) := by
  intro d
  induction d with
  | zero =>
    intro n v hn hv
    refine Ev.step (fun k => by rw [strike_sides.l2]) ?_
    simp only [show ¬ ((n : Int) < (O.length : Int)) by omega, if_false]
    rw [List.drop_eq_nil_of_le (by omega), sacc]
    · exact Ev.now _
    · intros; contradiction
  | succ d ih =>
    intro n v hn hv
    have hlt : n < O.length := by omega
    have hlc := hc _ (List.getElem_mem hlt)
    refine Ev.step (fun k => by rw [strike_sides.l2]) ?_
    simp only [show ((n : Int) < (O.length : Int)) by omega, show (0 : Int) ≤ (n : Int) by omega, if_true, rdL, getD_at O n _ hlt]
    rw [sacc_drop O t v n (I.length + n) hlt (by omega)]
    have := sides_l3 t v1 I O hI n (by omega) (by omega) O[n] v (by omega) (by omega) _ (by
      rw [wr_succ (m := O.length) hlt (by omega)]
      exact ih (n + 1) (arow t[I.length + n] v O[n]) (by omega) (by rw [arow_length _ _ _ (by omega), hv])) O[n].length 0 (by omega)
    rw [List.take_zero, List.drop_zero, List.nil_append] at this
    exact this
theorem sides_l0 (t v2 : List Int) (I O : List (List Int)) (hI : I.length ≤ 1000) (ht : t.length = I.length + O.length) (m : Nat) (hm : m ≤ 1000) (hc : ∀ c ∈ I, c.length = m) (R : List Int × List Int) : ∀ (d n : Nat) (v : List Int), n + d = I.length → v.length = m →
    Ev (fun k => strike_sides.l2 k t (sacc (I.drop n) (t.drop n) v) v2 O (O.length : Int) 0 I O) R → Ev (fun k => strike_sides.l0 k t v v2 I (I.length : Int) (n : Int) I O) R := by
  intro d
  induction d with
  | zero =>
    intro n v hn hv h
    refine Ev.step (fun k => by rw [strike_sides.l0]) ?_
    simp only [show ¬ ((n : Int) < (I.length : Int)) by omega, if_false]
    rw [List.drop_eq_nil_of_le (by omega), sacc] at h
    · exact h
    · intros; contradiction
  | succ d ih =>
    intro n v hn hv h
    have hlt : n < I.length := by omega
    have hlc := hc _ (List.getElem_mem hlt)
    refine Ev.step (fun k => by rw [strike_sides.l0]) ?_
    simp only [show ((n : Int) < (I.length : Int)) by omega, show (0 : Int) ≤ (n : Int) by omega, if_true, rdL, getD_at I n _ hlt]
    rw [sacc_drop I t v n n hlt (by omega)] at h
    have := sides_l1 t v2 I O n (by omega) I[n] v (by omega) (by omega) R (by
      rw [wr_succ (m := I.length) hlt (by omega)]
      exact ih (n + 1) (arow t[n] v I[n]) (by omega) (by rw [arow_length _ _ _ (by omega), hv]) h) I[n].length 0 (by omega)
    rw [List.take_zero, List.drop_zero, List.nil_append] at this
    exact this
def zs (n : Nat) : List Int := List.replicate n 0
def inS (I O : List (List Int)) (t : List Int) : List Int := sacc I t (zs (I.getD 0 []).length)
def outS (I O : List (List Int)) (t : List Int) : List Int := sacc O (t.drop I.length) (zs (I.getD 0 []).length)
theorem sides_ev {I O : List (List Int)} (h : vl I O = 0) (t : List Int) (ht : t.length = I.length + O.length) : Ev (fun k => strike_sides.f k I O t) (inS I O t, outS I O t) := by
  obtain ⟨s1, s2, s3, s4, s5, s6, s7⟩ := vl_size h
  unfold strike_sides.f
  simp only [show (0 : Int) < (I.length : Int) by omega, rdL0, show (0 : Int) ≤ ((I.getD 0 []).length : Int) by omega, Int.toNat_natCast, show (I.getD 0 []).length ≤ 35184372088832 by omega, if_true]
  have h2 := sides_l2 t (inS I O t) I O (by omega) (by omega) ht (I.getD 0 []).length (by omega) (fun c hc => (s7 c (List.mem_append_right _ hc)).1) O.length 0 (zs (I.getD 0 []).length) (by omega) (by simp [zs])
  rw [List.drop_zero, Nat.add_zero] at h2
  have h0 := sides_l0 t (zs (I.getD 0 []).length) I O (by omega) ht (I.getD 0 []).length (by omega) (fun c hc => (s7 c (List.mem_append_left _ hc)).1) (inS I O t, outS I O t) I.length 0 (zs (I.getD 0 []).length) (by omega) (by simp [zs]) (by rw [List.drop_zero, List.drop_zero]; exact h2)
  exact h0
/-! ### the reference's sums -/
theorem sacc_length (m : Nat) : ∀ (L : List (List Int)) (t v : List Int), (∀ c ∈ L, c.length = m) → v.length = m → (sacc L t v).length = m
  | [], _, v, _, hv => by rw [sacc]; exact hv; intros; contradiction
  | c :: L, [], v, _, hv => by rw [sacc]; exact hv; intros; contradiction
  | c :: L, t :: ts, v, h, hv => by
    rw [sacc]
    exact sacc_length m L ts _ (fun x hx => h x (List.mem_cons_of_mem _ hx)) (by rw [arow_length _ _ _ (by rw [h c (List.mem_cons_self ..), hv]), hv])
/-- The times' errors, and what is put in and comes out. -/
def els (I O : List (List Int)) (t : List Int) : List Int × List Int × Int := if tm I O t = 0 then (inS I O t, outS I O t, 0) else ([], [], tm I O t)
theorem elements_ev {I O : List (List Int)} (h : Sh I O) (t : List Int) (ht : t.length ≤ 1000) : Ev (fun k => strike_Elements.f k I O t) (els I O t) := by
  unfold strike_Elements.f els
  refine Ev.bind (timed_ev h t ht) ?_
  by_cases c : tm I O t = 0
  · simp only [c, if_true]
    obtain ⟨h1, h2, -⟩ := tm_zero c
    exact Ev.bind (sides_ev h1 t h2) (Ev.now _)
  · simp only [c, if_false]
    exact Ev.now _
def wgs (I O : List (List Int)) (w : List Int) : List Int × Int := if wg I O w = 0 then ((I ++ O).map (fun c => wdot 0 c w), 0) else ([], wg I O w)
theorem Weigh_ev {I O : List (List Int)} (h : Sh I O) (w : List Int) (hw : w.length ≤ 1000) : Ev (fun k => strike_Weigh.f k I O w) (wgs I O w) := by
  unfold strike_Weigh.f wgs
  refine Ev.bind (weighted_ev h w hw) ?_
  by_cases c : wg I O w = 0
  · simp only [c, if_true]
    obtain ⟨h1, h2, -⟩ := wg_zero c
    exact Ev.bind (weigh_ev h1 w h2) (Ev.now _)
  · simp only [c, if_false]
    exact Ev.now _
end Go.Proofs.Ytdneelgnmnpanaa.P
