/- The plain law behind StrikeKeeps: for every strike, weights and times the printed law answers true; no conditions. -/
import Derived.Test.YtdneelgnmnpanaaSg
import Derived.Test.YtdneelgnmnpanaaKn
import Derived.Test.YtdneelgnmnpanaaP26
namespace Go.Proofs.Ytdneelgnmnpanaa.P
open Go.RowKit Go.Proofs.YtdneelgnmnpanaaW.PrintWords
set_option linter.unusedVariables false
set_option linter.unusedSimpArgs false
/-- The times, those of what comes out with the opposite sign. -/
def sgt (n : Nat) (t : List Int) : List Int := t.take n ++ (t.drop n).map (fun x => -x)
theorem sgt_length (n : Nat) (t : List Int) : (sgt n t).length = t.length := by simp [sgt]; omega
theorem sgt_at (n : Nat) (t : List Int) (i : Nat) (hi : i < t.length) : (sgt n t)[i]'(by rw [sgt_length]; exact hi) = if i < n then t[i] else -t[i] := by
  unfold sgt
  by_cases h : i < n
  · rw [if_pos h, List.getElem_append_left (by simp; omega), List.getElem_take]
  · rw [if_neg h, List.getElem_append_right (by simp; omega), List.getElem_map, List.getElem_drop]
    congr 2
    simp
    omega
theorem keeps_l0 (I O : List (List Int)) (t W : List Int) (hl : W.length = t.length) (h6 : t.length ≤ 6) (ht : Coefs t) (hW : ∀ x ∈ W, x.natAbs ≤ 36000000) : ∀ (d n : Nat) (s : Int), n + d = W.length → s.natAbs ≤ 36000000000000 * n →
    Ev (fun k => verditerlaw04_strikeKeeps.l0 k t W s (n : Int) I O) (decide (s + dot (W.drop n) ((sgt I.length t).drop n) = 0)) := by
  intro d
  induction d with
  | zero =>
    intro n s hn hs
    refine Ev.step (fun k => by rw [verditerlaw04_strikeKeeps.l0]) ?_
    rw [List.drop_eq_nil_of_le (by omega), dot_nil, Int.add_zero]
    simp only [show ¬ ((n : Int) < (W.length : Int)) by omega, if_false]
    by_cases h : s = 0
    · simp only [h, if_true, decide_true]
      exact Ev.bind known_ev (Ev.now _)
    · simp only [h, if_false, decide_false]
      exact Ev.now _
  | succ d ih =>
    intro n s hn hs
    have h1 : n < W.length := by omega
    have h2 : n < t.length := by omega
    have hw := hW _ (List.getElem_mem h1)
    have htn := ht _ (List.getElem_mem h2)
    have hm := mulb (x := W[n]) (y := t[n]) (A := 36000000) (B := 1000000) hw (by omega)
    refine Ev.step (fun k => by rw [verditerlaw04_strikeKeeps.l0]) ?_
    simp only [show ((n : Int) < (W.length : Int)) by omega, show (0 : Int) ≤ (n : Int) by omega, if_true, rdn, getD_at W n _ h1, show ¬ (W[n] > 4294967296) by omega, if_false, show ¬ (W[n] < -4294967296) by omega, decide_false]
    refine Ev.step (fun k => by rw [verditerlaw04_strikeKeeps.j4]) ?_
    have hsg := sgt_at I.length t n h2
    rw [List.drop_eq_getElem_cons h1, List.drop_eq_getElem_cons (show n < (sgt I.length t).length by rw [sgt_length]; exact h2), dot, hsg]
    simp only [Bool.false_eq_true, if_false, show (0 : Int) ≤ (n : Int) by omega, show ((n : Int) < (W.length : Int)) by omega, show ((n : Int) < (t.length : Int)) by omega, if_true, rdn, getD_at W n _ h1, getD_at t n _ h2]
    rw [wr_succ (m := W.length) h1 (by omega), wrp (x := W[n] * t[n]) (by omega) (by omega)]
    by_cases c : n < I.length
    · simp only [show ((n : Int) < (I.length : Int)) by omega, c, if_true]
      rw [wrp (x := s + W[n] * t[n]) (by omega) (by omega)]
      have := ih (n + 1) (s + W[n] * t[n]) (by omega) (by omega)
      rw [show s + (W[n] * t[n] + dot (W.drop (n + 1)) ((sgt I.length t).drop (n + 1))) = s + W[n] * t[n] + dot (W.drop (n + 1)) ((sgt I.length t).drop (n + 1)) by omega]
      exact this
    · simp only [show ¬ ((n : Int) < (I.length : Int)) by omega, c, if_false]
      rw [wrp (x := s - W[n] * t[n]) (by omega) (by omega)]
      have := ih (n + 1) (s - W[n] * t[n]) (by omega) (by omega)
      rw [show s + (W[n] * -t[n] + dot (W.drop (n + 1)) ((sgt I.length t).drop (n + 1))) = s - W[n] * t[n] + dot (W.drop (n + 1)) ((sgt I.length t).drop (n + 1)) by rw [Int.mul_neg]; omega]
      exact this
theorem dot_map (w : List Int) : ∀ (L : List (List Int)) (t : List Int), dot (L.map (fun c => dot c w)) t = tdot L t w
  | [], t => by rw [List.map_nil, dot_nil, tdot]; all_goals (intros; contradiction)
  | c :: L, [] => by rw [dot_nil2, tdot]; all_goals (intros; contradiction)
  | c :: L, t :: ts => by rw [List.map_cons, dot, tdot, dot_map w L ts, Int.mul_comm]
theorem dot_neg : ∀ (a b : List Int), dot a (b.map (fun x => -x)) = -dot a b
  | [], b => by rw [dot_nil, dot_nil]; rfl
  | x :: a, [] => by rw [List.map_nil, dot_nil2]; rfl
  | x :: a, y :: b => by rw [List.map_cons, dot, dot, dot_neg a b, Int.mul_neg]; omega
theorem dot_append : ∀ (a b c d : List Int), a.length = c.length → dot (a ++ b) (c ++ d) = dot a c + dot b d
  | [], b, [], d, _ => by rw [dot_nil]; simp
  | x :: a, b, y :: c, d, h => by rw [List.cons_append, List.cons_append, dot, dot, dot_append a b c d (by simpa using h)]; omega
theorem tdot_take (w : List Int) : ∀ (L : List (List Int)) (t : List Int), tdot L (t.take L.length) w = tdot L t w
  | [], t => by rw [tdot, tdot]; all_goals (intros; contradiction)
  | c :: L, [] => by rw [List.take_nil]
  | c :: L, t :: ts => by rw [List.length_cons, List.take_succ_cons, tdot, tdot, tdot_take w L ts]
/-- Sums that are equal weigh the same. -/
theorem weigh_same {I O : List (List Int)} {t w : List Int} (h : vl I O = 0) (htl : t.length = I.length + O.length) (ht : Coefs t) (he : inS I O t = outS I O t) : dot ((I ++ O).map (fun c => dot c w)) (sgt I.length t) = 0 := by
  obtain ⟨s1, s2, s3, s4, s5, s6, s7⟩ := vl_size h
  have hz : ∀ x ∈ zs (I.getD 0 []).length, x.natAbs ≤ 0 := fun x hx => by
    have := List.eq_of_mem_replicate hx
    omega
  have e1 := dot_sacc (m := (I.getD 0 []).length) w I t (zs (I.getD 0 []).length) 0 (fun c hc => s7 c (List.mem_append_left _ hc)) ht (by simp [zs]) hz (by omega)
  have e2 := dot_sacc (m := (I.getD 0 []).length) w O (t.drop I.length) (zs (I.getD 0 []).length) 0 (fun c hc => s7 c (List.mem_append_right _ hc)) (fun x hx => ht x (List.mem_of_mem_drop hx)) (by simp [zs]) hz (by omega)
  rw [dot_zs, Int.zero_add] at e1 e2
  have e3 : tdot I t w = tdot O (t.drop I.length) w := by
    rw [← e1, ← e2]
    exact congrArg (fun v => dot v w) he
  rw [List.map_append, sgt, dot_append _ _ _ _ (by simp; omega), dot_neg, dot_map, dot_map, tdot_take, e3]
  omega
theorem map_wdot {I O : List (List Int)} {w : List Int} (h : vl I O = 0) (hw : Coefs w) : (I ++ O).map (fun c => wdot 0 c w) = (I ++ O).map (fun c => dot c w) := by
  obtain ⟨s1, s2, s3, s4, s5, s6, s7⟩ := vl_size h
  refine List.map_congr_left fun c hc => ?_
  rw [wdot_eq c w 0 (s7 c hc).2 hw (by rw [(s7 c hc).1]; omega)]
  omega
theorem in_StrikeKeeps (I O : List (List Int)) (x y : List Int) : Ev (fun k => verditerlaw04_strikeKeeps.f k I O x y) true := by
  have hkn : Ev (fun k => verditerlaw04_strikeKeeps.j0 k x y true I O) true := Ev.step (fun k => by rw [verditerlaw04_strikeKeeps.j0]) (by
    simp only [if_true]
    exact Ev.bind known_ev (Ev.now _))
  have hk2 : ∀ W, Ev (fun k => verditerlaw04_strikeKeeps.j2 k y W true I O) true := fun W => Ev.step (fun k => by rw [verditerlaw04_strikeKeeps.j2]) (by
    simp only [if_true]
    exact Ev.bind known_ev (Ev.now _))
  unfold verditerlaw04_strikeKeeps.f
  obtain ⟨b, hb, hsh⟩ := long_ev I O
  refine Ev.bind hb ?_
  cases b with
  | true => simp only [if_true]; exact hkn
  | false =>
    have hs := hsh rfl
    simp only [Bool.false_eq_true, if_false, many_eq, Option.bind_some]
    by_cases h1 : (x.length : Int) > 100
    · simp only [h1, decide_true, if_true]
      exact hkn
    · by_cases h2 : (y.length : Int) > 100
      · simp only [h1, decide_false, Bool.false_eq_true, if_false, h2, decide_true]
        exact hkn
      · simp only [h1, decide_false, Bool.false_eq_true, if_false, h2]
        refine Ev.step (fun k => by rw [verditerlaw04_strikeKeeps.j0]) ?_
        simp only [Bool.false_eq_true, if_false]
        refine Ev.bind (Balances_ev hs y (by omega)) ?_
        refine Ev.bind (Weigh_ev hs x (by omega)) ?_
        refine Ev.bind (elements_ev hs y (by omega)) ?_
        by_cases c : tm I O y = 0
        · obtain ⟨hv, hyl, hyc⟩ := tm_zero c
          have hsz := vl_size hv
          have hsl := side_len hv y
          unfold bal els
          simp only [c, if_true]
          refine Ev.bind (sm_ev _ _ (by omega)) ?_
          refine Ev.step (fun k => by rw [verditerlaw04_strikeKeeps.j1]) ?_
          simp only [bne_self_eq_false, Bool.false_eq_true, if_false]
          by_cases he : inS I O y = outS I O y
          · simp only [he, decide_true, if_true]
            by_cases cw : wg I O x = 0
            · obtain ⟨_, hxl, hxc⟩ := wg_zero cw
              unfold wgs
              simp only [cw, if_true, bne_self_eq_false]
              refine Ev.step (fun k => by rw [verditerlaw04_strikeKeeps.j2]) ?_
              rw [map_wdot hv hxc]
              have hlen : ((I ++ O).map (fun c => dot c x)).length = y.length := by simp; omega
              simp only [Bool.false_eq_true, if_false, show ((((I ++ O).map (fun c => dot c x)).length : Int) = (y.length : Int)) by omega, if_true]
              have h3 := keeps_l0 I O y ((I ++ O).map (fun c => dot c x)) hlen (by omega) hyc (fun z hz => by
                obtain ⟨c, hc, rfl⟩ := List.mem_map.1 hz
                have h4 := dot_bound c x (hsz.2.2.2.2.2.2 c hc).2 hxc
                rw [(hsz.2.2.2.2.2.2 c hc).1] at h4
                omega) ((I ++ O).map (fun c => dot c x)).length 0 0 (by omega) (by simp)
              rw [List.drop_zero, List.drop_zero, Int.zero_add, weigh_same hv hyl hyc he] at h3
              exact h3
            · unfold wgs
              have : (wg I O x != 0) = true := bne_iff_ne.2 cw
              simp only [cw, if_false, this]
              exact hk2 _
          · simp only [he, decide_false, Bool.false_eq_true, if_false]
            exact hk2 _
        · unfold bal
          simp only [c, if_false]
          exact Ev.bind known_ev (Ev.now _)
end Go.Proofs.Ytdneelgnmnpanaa.P
