/- The plain law behind StrikeBalances: for every strike and two lists of times the printed law answers true; no conditions. -/
import Derived.Test.YtdneelgnmnpanaaSf
import Derived.Test.YtdneelgnmnpanaaSg
import Derived.Test.YtdneelgnmnpanaaKn
import Derived.Test.YtdneelgnmnpanaaP23
namespace Go.Proofs.Ytdneelgnmnpanaa.P
open Go.RowKit Go.Proofs.YtdneelgnmnpanaaW.PrintWords
set_option linter.unusedVariables false
set_option linter.unusedSimpArgs false
theorem rBalances_ev {I O : List (List Int)} (h : Sh I O) (t : List Int) (ht : t.length ≤ 1000) : Ev (fun k => verditerref04_Balances.f k I O t) (bal I O t) := by
  unfold verditerref04_Balances.f bal
  refine Ev.bind (rtimed_ev h t ht) ?_
  by_cases c : tm I O t = 0
  · simp only [c, if_true]
    obtain ⟨h1, h2, h3⟩ := tm_zero c
    exact Ev.bind (rbalances_ev h1 t h2 h3) (Ev.now _)
  · simp only [c, if_false]
    exact Ev.now _
def pls (x y : List Int) : List Int := List.zipWith (fun a b => a + b) x y
theorem pls_length {x y : List Int} (h : x.length = y.length) : (pls x y).length = x.length := by simp [pls]; omega
theorem csum_pls (e : Nat) : ∀ (L : List (List Int)) (x y : List Int), x.length = y.length → csum L (pls x y) e = csum L x e + csum L y e
  | [], x, y, _ => by rw [csum_nil, csum_nil, csum_nil]; rfl
  | c :: L, [], [], _ => by rw [pls, List.zipWith_nil_left, csum_nil2]; rfl
  | c :: L, [], b :: y, h => by simp at h
  | c :: L, a :: x, [], h => by simp at h
  | c :: L, a :: x, b :: y, h => by
    have ih := csum_pls e L x y (by simpa using h)
    unfold pls at ih ⊢
    rw [List.zipWith_cons_cons, csum, csum, csum, ih, Int.add_mul]
    omega
theorem pls_bal {I O : List (List Int)} {x y : List Int} (h : vl I O = 0) (hx : x.length = I.length + O.length) (hy : y.length = I.length + O.length) (cx : Coefs x) (cy : Coefs y) (cs : Coefs (pls x y)) (ex : inS I O x = outS I O x) (ey : inS I O y = outS I O y) : inS I O (pls x y) = outS I O (pls x y) := by
  rw [balance_iff h (by rw [pls_length (by omega)]; exact hx) cs]
  rw [balance_iff h hx cx] at ex
  rw [balance_iff h hy cy] at ey
  intro q hq
  have hd : (pls x y).drop I.length = pls (x.drop I.length) (y.drop I.length) := by unfold pls; rw [List.drop_zipWith]
  rw [hd, csum_pls q I x y (by omega), csum_pls q O _ _ (by simp; omega), ex q hq, ey q hq]
theorem sum_l0 (I O : List (List Int)) (x y : List Int) (hxy : x.length = y.length) (h6 : x.length ≤ 6) (cx : Coefs x) (cy : Coefs y) (hend : Coefs (pls x y) → Ev (fun k => strike_Balances.f k I O (pls x y)) (true, 0)) : ∀ (d n : Nat), n + d = x.length → Coefs ((pls x y).take n) →
    Ev (fun k => verditerlaw04_strikeBalances.l0 k x y ((pls x y).take n) (n : Int) I O) true := by
  have hpl := pls_length hxy
  intro d
  induction d with
  | zero =>
    intro n hn hc
    refine Ev.step (fun k => by rw [verditerlaw04_strikeBalances.l0]) ?_
    rw [List.take_of_length_le (by omega)] at hc ⊢
    simp only [show ¬ ((n : Int) < (x.length : Int)) by omega, if_false]
    refine Ev.bind (hend hc) ?_
    simp only [if_true]
    exact Ev.bind known_ev (Ev.now _)
  | succ d ih =>
    intro n hn hc
    have h1 : n < x.length := by omega
    have h2 : n < y.length := by omega
    have h3 : n < (pls x y).length := by omega
    have a1 := cx _ (List.getElem_mem h1)
    have a2 := cy _ (List.getElem_mem h2)
    have hs : (pls x y)[n] = x[n] + y[n] := by simp only [pls, List.getElem_zipWith]
    refine Ev.step (fun k => by rw [verditerlaw04_strikeBalances.l0]) ?_
    simp only [show ((n : Int) < (x.length : Int)) by omega, show (0 : Int) ≤ (n : Int) by omega, show ((n : Int) < (y.length : Int)) by omega, if_true, rdn, getD_at x n _ h1, getD_at y n _ h2]
    rw [wrp (x := x[n] + y[n]) (by omega) (by omega), wr_succ (m := x.length) h1 (by omega)]
    by_cases c1 : x[n] + y[n] > 1000000
    · simp only [c1, if_true]
      exact Ev.bind known_ev (Ev.now _)
    · by_cases c2 : x[n] + y[n] < -1000000
      · simp only [c1, c2, if_true, if_false]
        exact Ev.bind known_ev (Ev.now _)
      · have hl : ((pls x y).take n).length < 17592186044416 := by rw [List.length_take]; omega
        simp only [c1, c2, if_false, hl, if_true]
        have ht : (pls x y).take n ++ [x[n] + y[n]] = (pls x y).take (n + 1) := by rw [List.take_succ_eq_append_getElem h3, hs]
        rw [ht]
        refine ih (n + 1) (by omega) ?_
        rw [← ht]
        intro z hz
        rcases List.mem_append.1 hz with hz | hz
        · exact hc z hz
        · have := List.mem_singleton.1 hz
          omega
theorem tm_of {I O : List (List Int)} {t : List Int} (h : vl I O = 0) (hl : t.length = I.length + O.length) (hc : Coefs t) : tm I O t = 0 := by
  unfold tm lerr
  rw [if_pos h, if_pos ⟨hl, List.all_eq_true.2 fun x hx => decide_eq_true (hc x hx)⟩]
theorem in_StrikeBalances (I O : List (List Int)) (x y : List Int) : Ev (fun k => verditerlaw04_strikeBalances.f k I O x y) true := by
  have hkn : Ev (fun k => verditerlaw04_strikeBalances.j0 k x y true I O) true := Ev.step (fun k => by rw [verditerlaw04_strikeBalances.j0]) (by
    simp only [if_true]
    exact Ev.bind known_ev (Ev.now _))
  have hk2 : Ev (fun k => verditerlaw04_strikeBalances.j2 k x y true I O) true := Ev.step (fun k => by rw [verditerlaw04_strikeBalances.j2]) (by
    simp only [if_true]
    exact Ev.bind known_ev (Ev.now _))
  unfold verditerlaw04_strikeBalances.f
  obtain ⟨b, hb, hsh⟩ := long_ev I O
  refine Ev.bind hb ?_
  cases b with
  | true => simp only [if_true]; exact hkn
  | false =>
    have hs := hsh rfl
    simp only [Bool.false_eq_true, if_false, many_eq, Option.bind_some]
    by_cases h1 : (x.length : Int) > 100
    · simp only [h1, decide_true, if_true]
      exact hkn
    · by_cases h2 : (y.length : Int) > 100
      · simp only [h1, decide_false, Bool.false_eq_true, if_false, h2, decide_true]
        exact hkn
      · simp only [h1, decide_false, Bool.false_eq_true, if_false, h2]
        refine Ev.step (fun k => by rw [verditerlaw04_strikeBalances.j0]) ?_
        simp only [Bool.false_eq_true, if_false]
        refine Ev.bind (rBalances_ev hs x (by omega)) ?_
        refine Ev.bind (Balances_ev hs x (by omega)) ?_
        simp only [bne_self_eq_false, Bool.false_eq_true, if_false]
        refine Ev.step (fun k => by rw [verditerlaw04_strikeBalances.j1]) ?_
        simp only [Bool.false_eq_true, if_false]
        refine Ev.bind (Balances_ev hs y (by omega)) ?_
        by_cases cx : tm I O x = 0
        · by_cases cy : tm I O y = 0
          · obtain ⟨hv, hxl, hxc⟩ := tm_zero cx
            obtain ⟨-, hyl, hyc⟩ := tm_zero cy
            have hsz := vl_size hv
            unfold bal
            simp only [cx, cy, if_true]
            by_cases ex : inS I O x = outS I O x
            · by_cases ey : inS I O y = outS I O y
              · have hne : ((x.length : Int) != (y.length : Int)) = false := by
                  rw [show (x.length : Int) = (y.length : Int) by omega]
                  exact bne_self_eq_false _
                simp only [ex, ey, decide_true, if_true, hne]
                refine Ev.step (fun k => by rw [verditerlaw04_strikeBalances.j2]) ?_
                simp only [Bool.false_eq_true, if_false]
                have := sum_l0 I O x y (by omega) (by omega) hxc hyc (fun cs => by
                  have hb := pls_bal hv hxl hyl hxc hyc cs ex ey
                  have hpl := pls_length (x := x) (y := y) (by omega)
                  have htm : tm I O (pls x y) = 0 := tm_of hv (by omega) cs
                  have := Balances_ev hs (pls x y) (by omega)
                  unfold bal at this
                  simp only [htm, if_true, hb, decide_true] at this
                  exact this) x.length 0 (by omega) (by intro z hz; rw [List.take_zero] at hz; exact absurd hz (by simp))
                rw [List.take_zero] at this
                exact this
              · simp only [ex, ey, decide_true, decide_false, if_true, Bool.false_eq_true, if_false]
                exact hk2
            · simp only [ex, decide_false, Bool.false_eq_true, if_false]
              exact hk2
          · unfold bal
            simp only [cy, if_false, Bool.false_eq_true, ite_self]
            exact hk2
        · unfold bal
          simp only [cx, if_false, Bool.false_eq_true]
          exact hk2
end Go.Proofs.Ytdneelgnmnpanaa.P
