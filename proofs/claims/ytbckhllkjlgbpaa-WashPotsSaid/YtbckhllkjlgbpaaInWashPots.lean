/- The plain law behind WashPots: for every list of grains, every list of times and every depth the printed law answers true; no conditions beyond the bounds of Go's ints. -/
import Derived.Test.YtbckhllkjlgbpaaPts
import Derived.Test.YtbckhllkjlgbpaaSame
import Derived.Test.YtbckhllkjlgbpaaP27
namespace Go.Proofs.Ytbckhllkjlgbpaa.P
open Go.RowKit Go.Proofs.YtbckhllkjlgbpaaW.PrintWords

theorem tabP_length (l : List S58) (dp : Int) : ∀ (rest pre : List Int), (tabP l dp pre rest).length = rest.length + 1
  | [], pre => rfl
  | t :: r, pre => by rw [tabP, List.length_cons, tabP_length l dp r, List.length_cons]
theorem tabP_rows (l : List S58) (dp : Int) : ∀ (rest pre : List Int), ∀ r ∈ tabP l dp pre rest, r.length = l.length
  | [], pre, r, hr => by
    rw [tabP, List.mem_singleton] at hr
    rw [hr, List.length_map]
  | t :: ts, pre, r, hr => by
    rw [tabP] at hr
    rcases List.mem_cons.1 hr with rfl | hr
    · rw [List.length_map]
    · exact tabP_rows l dp ts _ r hr
/-- The sums over the pots' rows. -/
theorem sums_ev (l : List S58) (dp : Int) (hv : Valid l) (hd : 1 ≤ dp ∧ dp ≤ 20) (ts : List Int) (hts : ts.length ≤ 3) (hok : ∀ t ∈ ts, TOk t dp) (T : List (List S30)) (i : Nat) (hi : i < l.length) (hT : T.length = ts.length + 1)
    (r : Bool) (h : Ev (fun k => verditerlaw01_washPots.l1 k l T (i : Int) (T.length : Int) (red l[i].f1 1).1 (red l[i].f1 1).2) r) : ∀ (rest pre : List Int) (tp : List (List S30)), ts = pre ++ rest → T = tp ++ tabP l dp pre rest → tp.length = pre.length →
    Ev (fun k => verditerlaw01_washPots.l1 k l T (i : Int) (pre.length : Int) (red (l[i].f1 * dp ^ pre.length - nP dp l[i] pre) (dp ^ pre.length)).1 (red (l[i].f1 * dp ^ pre.length - nP dp l[i] pre) (dp ^ pre.length)).2) r := by
  have hll := hv.1
  have hx := hv.all _ (List.getElem_mem hi)
  generalize hxi : l[i] = x at *
  intro rest
  induction rest with
  | nil =>
    intro pre tp e1 e2 e3
    rw [List.append_nil] at e1
    subst e1
    have hp := pow3 dp hd ts.length hts
    have hn := nP_small dp x hx hd ts hok hts
    have hsub : nP dp x ts ≤ x.f1 * dp ^ ts.length := by
      have : ∀ (us : List Int) (n : Int), (∀ u ∈ us, TOk u dp) → 0 ≤ n → us.foldl (fun n t => n * (dp - sk x t dp)) n ≤ n * dp ^ us.length := by
        intro us
        induction us with
        | nil => intro n _ _; simp
        | cons u us ih =>
          intro n hu h0
          have h1 := hu u (List.mem_cons_self ..)
          have hs := sk_bound x u dp hx.1 ⟨h1.1, h1.2.1⟩ hd
          have h2 := mul_bound (a := n) (b := dp - sk x u dp) (A := n) (B := dp) ⟨h0, Int.le_refl _⟩ ⟨by omega, by omega⟩
          have := ih (n * (dp - sk x u dp)) (fun v hv => hu v (List.mem_cons_of_mem _ hv)) h2.1
          have h3 : n * (dp - sk x u dp) * dp ^ us.length ≤ n * dp * dp ^ us.length := Int.mul_le_mul_of_nonneg_right h2.2 (Int.le_of_lt (pow_pos' dp (by omega) _))
          rw [List.foldl_cons, List.length_cons, Int.pow_succ, Int.mul_comm (dp ^ us.length) dp, ← Int.mul_assoc]
          omega
      exact this ts x.f1 hok (by omega)
    have m := mul_bound (a := x.f1) (b := dp ^ ts.length) (A := 100) (B := 8000) ⟨by omega, hx.2.2⟩ ⟨by omega, hp.2⟩
    have b1 := red_bound (x.f1 * dp ^ ts.length - nP dp x ts) (dp ^ ts.length) (by omega) (by omega)
    have b2 := red_bound (nP dp x ts) (dp ^ ts.length) hn.1 (by omega)
    have hrow : rd_L4 T (ts.length : Int) = l.map (elP dp ts []) := by
      rw [e2, ← e3, tabP]
      simp [rd_L4]
    have hel : rd_T30 (l.map (elP dp ts [])) (i : Int) = mkR (red (nP dp x ts) (dp ^ ts.length)) := by
      simp [rd_T30, hi, hxi, elP]
    have hml : ((l.map (elP dp ts [])).length : Int) = (l.length : Int) := by rw [List.length_map]
    refine Ev.step (fun k => by rw [verditerlaw01_washPots.l1]) ?_
    simp only [show (ts.length : Int) < (T.length : Int) by omega, show (0 : Int) ≤ (ts.length : Int) by omega, if_true, hrow, hml, show (0 : Int) ≤ (i : Int) by omega, show (i : Int) < (l.length : Int) by omega, hel]
    refine Ev.bind (small_ev _ (by simp) (fun y hy => ?_)) ?_
    · simp only [List.mem_cons, List.not_mem_nil, or_false] at hy
      rcases hy with rfl | rfl
      · exact ⟨b2.2.2.1, by show (red (nP dp x ts) (dp ^ ts.length)).2 ≤ _; omega, b2.1, by show (red (nP dp x ts) (dp ^ ts.length)).1 ≤ _; omega⟩
      · exact ⟨b1.2.2.1, by show (red (x.f1 * dp ^ ts.length - nP dp x ts) (dp ^ ts.length)).2 ≤ _; omega, b1.1, by show (red (x.f1 * dp ^ ts.length - nP dp x ts) (dp ^ ts.length)).1 ≤ _; omega⟩
    · simp only [if_true]
      refine Ev.bind (Add_ev _ _ _ _ ⟨b1.1, by omega⟩ ⟨b1.2.2.1, by omega⟩ ⟨b2.1, by show (red (nP dp x ts) (dp ^ ts.length)).1 ≤ _; omega⟩ ⟨b2.2.2.1, by show (red (nP dp x ts) (dp ^ ts.length)).2 ≤ _; omega⟩) ?_
      rw [show (mkR (red (nP dp x ts) (dp ^ ts.length))).f0 = (red (nP dp x ts) (dp ^ ts.length)).1 from rfl, show (mkR (red (nP dp x ts) (dp ^ ts.length))).f1 = (red (nP dp x ts) (dp ^ ts.length)).2 from rfl, red_add _ _ _ (by omega) hn.1 (by omega),
        show x.f1 * dp ^ ts.length - nP dp x ts + nP dp x ts = dp ^ ts.length * x.f1 by rw [Int.mul_comm (dp ^ ts.length)]; omega]
      rw [show red (dp ^ ts.length * x.f1) (dp ^ ts.length) = red x.f1 1 from by
        have := red_mul (dp ^ ts.length) x.f1 1 (by omega)
        rw [Int.mul_one] at this
        exact this, wr_succ (m := 10) (by omega) (by omega), ← hT]
      exact h
  | cons t rest ih =>
    intro pre tp e1 e2 e3
    have hpl : pre.length < ts.length := by rw [e1]; simp
    have ht := hok t (by rw [e1]; simp)
    have hokp : ∀ u ∈ pre, TOk u dp := fun u hu => hok u (by rw [e1]; simp [hu])
    have hp := pow3 dp hd pre.length (by omega)
    have hp1 := pow3 dp hd (pre.length + 1) (by omega)
    rw [Int.pow_succ] at hp1
    have hn := nP_small dp x hx hd pre hokp (by omega)
    have hs := sk_bound x t dp hx.1 ⟨ht.1, ht.2.1⟩ hd
    have hn1 := nP_small dp x hx hd (pre ++ [t]) (fun u hu => by
      rcases List.mem_append.1 hu with h | h
      · exact hokp u h
      · rw [List.mem_singleton.1 h]; exact ht) (by simp; omega)
    have hle : ∀ us : List Int, (∀ u ∈ us, TOk u dp) → nP dp x us ≤ x.f1 * dp ^ us.length := by
      have : ∀ (us : List Int) (n : Int), (∀ u ∈ us, TOk u dp) → 0 ≤ n → us.foldl (fun n t => n * (dp - sk x t dp)) n ≤ n * dp ^ us.length := by
        intro us
        induction us with
        | nil => intro n _ _; simp
        | cons u us ih =>
          intro n hu h0
          have h1 := hu u (List.mem_cons_self ..)
          have hs := sk_bound x u dp hx.1 ⟨h1.1, h1.2.1⟩ hd
          have h2 := mul_bound (a := n) (b := dp - sk x u dp) (A := n) (B := dp) ⟨h0, Int.le_refl _⟩ ⟨by omega, by omega⟩
          have := ih (n * (dp - sk x u dp)) (fun v hv => hu v (List.mem_cons_of_mem _ hv)) h2.1
          have h3 : n * (dp - sk x u dp) * dp ^ us.length ≤ n * dp * dp ^ us.length := Int.mul_le_mul_of_nonneg_right h2.2 (Int.le_of_lt (pow_pos' dp (by omega) _))
          rw [List.foldl_cons, List.length_cons, Int.pow_succ, Int.mul_comm (dp ^ us.length) dp, ← Int.mul_assoc]
          omega
      exact fun us hu => this us x.f1 hu (by omega)
    have hsub := hle pre hokp
    have m := mul_bound (a := x.f1) (b := dp ^ pre.length) (A := 100) (B := 8000) ⟨by omega, hx.2.2⟩ ⟨by omega, hp.2⟩
    have m1 := mul_bound (a := nP dp x pre) (b := sk x t dp) (A := 800000) (B := 20) hn ⟨hs.1, by omega⟩
    have m2 := mul_bound (a := nP dp x pre) (b := dp - sk x t dp) (A := nP dp x pre) (B := dp) ⟨hn.1, Int.le_refl _⟩ ⟨by omega, by omega⟩
    have b1 := red_bound (x.f1 * dp ^ pre.length - nP dp x pre) (dp ^ pre.length) (by omega) (by omega)
    have b2 := red_bound (nP dp x pre * sk x t dp) (dp ^ pre.length * dp) m1.1 (by omega)
    have hrow : rd_L4 T (pre.length : Int) = l.map (elP dp pre (t :: rest)) := by
      rw [e2, ← e3, tabP]
      simp [rd_L4]
    have hel : rd_T30 (l.map (elP dp pre (t :: rest))) (i : Int) = mkR (red (nP dp x pre * sk x t dp) (dp ^ pre.length * dp)) := by
      simp [rd_T30, hi, hxi, elP]
    have hml : ((l.map (elP dp pre (t :: rest))).length : Int) = (l.length : Int) := by rw [List.length_map]
    refine Ev.step (fun k => by rw [verditerlaw01_washPots.l1]) ?_
    simp only [show (pre.length : Int) < (T.length : Int) by omega, show (0 : Int) ≤ (pre.length : Int) by omega, if_true, hrow, hml, show (0 : Int) ≤ (i : Int) by omega, show (i : Int) < (l.length : Int) by omega, hel]
    refine Ev.bind (small_ev _ (by simp) (fun y hy => ?_)) ?_
    · simp only [List.mem_cons, List.not_mem_nil, or_false] at hy
      rcases hy with rfl | rfl
      · exact ⟨b2.2.2.1, by show (red (nP dp x pre * sk x t dp) (dp ^ pre.length * dp)).2 ≤ _; omega, b2.1, by show (red (nP dp x pre * sk x t dp) (dp ^ pre.length * dp)).1 ≤ _; omega⟩
      · exact ⟨b1.2.2.1, by show (red (x.f1 * dp ^ pre.length - nP dp x pre) (dp ^ pre.length)).2 ≤ _; omega, b1.1, by show (red (x.f1 * dp ^ pre.length - nP dp x pre) (dp ^ pre.length)).1 ≤ _; omega⟩
    · simp only [if_true]
      refine Ev.bind (Add_ev _ _ _ _ ⟨b1.1, by omega⟩ ⟨b1.2.2.1, by omega⟩ ⟨b2.1, by show (red (nP dp x pre * sk x t dp) (dp ^ pre.length * dp)).1 ≤ _; omega⟩ ⟨b2.2.2.1, by show (red (nP dp x pre * sk x t dp) (dp ^ pre.length * dp)).2 ≤ _; omega⟩) ?_
      rw [show (mkR (red (nP dp x pre * sk x t dp) (dp ^ pre.length * dp))).f0 = (red (nP dp x pre * sk x t dp) (dp ^ pre.length * dp)).1 from rfl, show (mkR (red (nP dp x pre * sk x t dp) (dp ^ pre.length * dp))).f1 = (red (nP dp x pre * sk x t dp) (dp ^ pre.length * dp)).2 from rfl,
        red_add2 _ _ _ _ (by omega) m1.1 (by omega) (by omega)]
      have e4 : (x.f1 * dp ^ pre.length - nP dp x pre) * (dp ^ pre.length * dp) + nP dp x pre * sk x t dp * dp ^ pre.length = dp ^ pre.length * (x.f1 * dp ^ (pre ++ [t]).length - nP dp x (pre ++ [t])) := by
        rw [nP_snoc, List.length_append, List.length_singleton, Int.pow_succ]
        generalize dp ^ pre.length = D
        generalize nP dp x pre = N
        grind
      have e5 : dp ^ pre.length * dp = dp ^ (pre ++ [t]).length := by
        rw [List.length_append, List.length_singleton, Int.pow_succ]
      rw [e4, e5, red_mul _ _ _ (by omega), wr_succ (m := 10) (by omega) (by omega)]
      have g := ih (pre ++ [t]) (tp ++ [l.map (elP dp pre (t :: rest))]) (by rw [e1]; simp) (by rw [e2, tabP]; simp) (by simp [e3])
      rw [show ((pre ++ [t]).length : Int) = ((pre.length + 1 : Nat) : Int) by simp] at g
      exact g
theorem pots_l0 (l : List S58) (dp : Int) (hv : Valid l) (hd : 1 ≤ dp ∧ dp ≤ 20) (ts : List Int) (hts : ts.length ≤ 3) (hok : ∀ t ∈ ts, TOk t dp) : ∀ d n : Nat, n + d = l.length → Ev (fun k => verditerlaw01_washPots.l0 k l (tabP l dp [] ts) (n : Int)) true := by
  have hll := hv.1
  intro d
  induction d with
  | zero =>
    intro n hn
    refine Ev.step (fun k => by rw [verditerlaw01_washPots.l0]) ?_
    simp only [show ¬ ((n : Int) < (l.length : Int)) by omega, if_false]
    exact Ev.bind known_ev (Ev.now _)
  | succ d ih =>
    intro n hn
    have hi : n < l.length := by omega
    have hx := hv.all _ (List.getElem_mem hi)
    have hT := tabP_length l dp ts []
    refine Ev.step (fun k => by rw [verditerlaw01_washPots.l0]) ?_
    simp only [show ((n : Int) < (l.length : Int)) by omega, if_true]
    have g := sums_ev l dp hv hd ts hts hok (tabP l dp [] ts) n hi hT true (by
      refine Ev.step (fun k => by rw [verditerlaw01_washPots.l1]) ?_
      simp only [Int.lt_irrefl, if_false, show (0 : Int) ≤ (n : Int) by omega, show ((n : Int) < (l.length : Int)) by omega, if_true, rd58_n l n hi]
      refine Ev.bind (Ratio_ev _ _ ⟨by omega, by omega⟩ ⟨by omega, by omega⟩) ?_
      simp only [beq_self_eq_true, Bool.not_true, Bool.or_self, Bool.false_eq_true, if_false]
      rw [wr_succ (m := l.length) hi (by omega)]
      exact ih (n + 1) (by omega)) ts [] [] rfl rfl rfl
    rw [show dp ^ ([] : List Int).length = 1 from Int.pow_zero dp, show nP dp l[n] [] = l[n].f1 from rfl, show l[n].f1 * 1 - l[n].f1 = 0 by omega, show red 0 1 = (0, 1) from rfl] at g
    exact g
theorem in_WashPots (l : List S58) (ts : List Int) (dp : Int) (_ : l.length * 16 ≤ 140737488351232) (_ : ∀ x ∈ l, Ok58 x) (_ : ts.length * 8 ≤ 140737488351232) (_ : ∀ x ∈ ts, OkInt x) (_ : OkInt dp) : Ev (fun k => verditerlaw01_washPots.f k l ts dp) true := by
  have hout : Ev (fun k => verditerlaw01_washPots.j0 k l ts dp true) true := by
    refine Ev.step (fun k => by rw [verditerlaw01_washPots.j0]) ?_
    simp only [if_true]
    exact Ev.bind known_ev (Ev.now _)
  unfold verditerlaw01_washPots.f
  simp only [show ∀ l, verditerlaw01_Long.f l = some (decide ((l.length : Int) > 40)) from fun _ => rfl, Option.bind_some, decide_eq_true_eq]
  by_cases c : (l.length : Int) > 40
  · simp only [c, if_true]
    exact hout
  simp only [c, if_false]
  by_cases d : (ts.length : Int) > 40
  · simp only [d, decide_true]
    exact hout
  simp only [d, decide_false]
  refine Ev.step (fun k => by rw [verditerlaw01_washPots.j0]) ?_
  simp only [Bool.false_eq_true, if_false]
  refine Ev.bind (ref_Pots_ev l ts dp) (Ev.bind (wash_Pots_ev l ts dp) ?_)
  have hsz : (pts l ts dp).1.length ≤ 1000 ∧ ∀ r ∈ (pts l ts dp).1, r.length ≤ 1000 := by
    unfold pts
    split
    · split
      · simp
      · split
        · refine ⟨?_, fun r hr => ?_⟩
          · show (tabP l dp [] ts).length ≤ _
            rw [tabP_length]
            omega
          · rw [tabP_rows l dp ts [] r hr]
            omega
        · simp
    · simp
  refine Ev.bind (sameRows_refl _ hsz.1 hsz.2) ?_
  simp only [if_true, bne_self_eq_false]
  refine Ev.step (fun k => by rw [verditerlaw01_washPots.j1]) ?_
  simp only [Bool.false_eq_true, if_false]
  by_cases e : (pts l ts dp).2 = 0
  case neg =>
    simp only [e, if_false]
    exact Ev.bind known_ev (Ev.now _)
  simp only [e, if_true]
  unfold pts at e ⊢
  by_cases h1 : vld l = 0
  case neg => rw [if_neg h1] at e; exact absurd e h1
  by_cases h2 : (ts.length : Int) > 3
  case pos => rw [if_pos h1, if_pos h2] at e; cases e
  by_cases h3 : TOk 0 dp ∧ ∀ t ∈ ts, TOk t dp
  case neg => rw [if_pos h1, if_neg h2, if_neg h3] at e; cases e
  rw [if_pos h1, if_neg h2, if_pos h3]
  simp only [tabP_length]
  rw [wr_succ (m := 41) (by omega) (by omega)]
  simp only [if_true]
  exact pots_l0 l dp ((vld_zero l).1 h1) ⟨h3.1.2.2.1, h3.1.2.2.2⟩ ts (by omega) h3.2 l.length 0 (by omega)
end Go.Proofs.Ytbckhllkjlgbpaa.P
