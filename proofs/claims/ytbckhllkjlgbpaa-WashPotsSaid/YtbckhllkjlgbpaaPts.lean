/- One pot after another: what the printed Pots of the program and of the reference answer, for lists of any grains and times; no conditions beyond those that each theorem names. -/
import Derived.Test.YtbckhllkjlgbpaaStl
import Derived.Test.YtbckhllkjlgbpaaPots
import Derived.Test.YtbckhllkjlgbpaaP62
namespace Go.Proofs.Ytbckhllkjlgbpaa.P
open Go.RowKit Go.Proofs.YtbckhllkjlgbpaaW.PrintWords

/-- What is still above of a grain's mass after pots, in parts of the depth. -/
def nP (dp : Int) (x : S58) (ts : List Int) : Int := ts.foldl (fun n t => n * (dp - sk x t dp)) x.f1
theorem nP_snoc (dp : Int) (x : S58) (ts : List Int) (t : Int) : nP dp x (ts ++ [t]) = nP dp x ts * (dp - sk x t dp) := by
  simp [nP, List.foldl_append]
theorem nP_bound (dp : Int) (x : S58) (hx : 1 ≤ x.f0 ∧ x.f0 ≤ 20) (hd : 1 ≤ dp ∧ dp ≤ 20) : ∀ (ts : List Int) (n : Int), (∀ t ∈ ts, TOk t dp) → 0 ≤ n → 0 ≤ ts.foldl (fun n t => n * (dp - sk x t dp)) n ∧ ts.foldl (fun n t => n * (dp - sk x t dp)) n ≤ n * 20 ^ ts.length
  | [], n, _, h => by simp [h]
  | t :: r, n, ht, h => by
    have h1 := ht t (List.mem_cons_self ..)
    have hs := sk_bound x t dp hx ⟨h1.1, h1.2.1⟩ hd
    have h2 := mul_bound (a := n) (b := dp - sk x t dp) (A := n) (B := 20) ⟨h, Int.le_refl _⟩ ⟨by omega, by omega⟩
    have ih := nP_bound dp x hx hd r (n * (dp - sk x t dp)) (fun u hu => ht u (List.mem_cons_of_mem _ hu)) h2.1
    rw [List.foldl_cons, List.length_cons]
    refine ⟨ih.1, ?_⟩
    have h3 : n * (dp - sk x t dp) * 20 ^ r.length ≤ n * 20 * 20 ^ r.length := Int.mul_le_mul_of_nonneg_right h2.2 (Int.le_of_lt (pow_pos' 20 (by omega) _))
    rw [Int.pow_succ, Int.mul_comm (20 ^ r.length) 20, ← Int.mul_assoc]
    omega
theorem nP_small (dp : Int) (x : S58) (hx : (1 ≤ x.f0 ∧ x.f0 ≤ 20) ∧ 1 ≤ x.f1 ∧ x.f1 ≤ 100) (hd : 1 ≤ dp ∧ dp ≤ 20) (ts : List Int) (ht : ∀ t ∈ ts, TOk t dp) (hl : ts.length ≤ 3) : 0 ≤ nP dp x ts ∧ nP dp x ts ≤ 800000 := by
  have h := nP_bound dp x hx.1 hd ts x.f1 ht (by omega)
  refine ⟨h.1, Int.le_trans h.2 ?_⟩
  have h2 : (20 : Int) ^ ts.length ≤ 8000 := by
    match ts.length, hl with
    | 0, _ => decide
    | 1, _ => decide
    | 2, _ => decide
    | 3, _ => decide
  have := mul_bound (a := x.f1) (b := 20 ^ ts.length) (A := 100) (B := 8000) ⟨by omega, hx.2.2⟩ ⟨Int.le_of_lt (pow_pos' 20 (by omega) _), h2⟩
  exact Int.le_trans this.2 (by decide)
theorem pow3 (dp : Int) (hd : 1 ≤ dp ∧ dp ≤ 20) (n : Nat) (hn : n ≤ 3) : 1 ≤ dp ^ n ∧ dp ^ n ≤ 8000 := by
  have h1 := pow_pos' dp (by omega) n
  have h2 := pow_bound dp ⟨by omega, hd.2⟩ n
  have h3 : (20 : Int) ^ n ≤ 8000 := by
    match n, hn with
    | 0, _ => decide
    | 1, _ => decide
    | 2, _ => decide
    | 3, _ => decide
  omega
/-- What sinks of a grain in the next pot, or stays above after the last. -/
def elP (dp : Int) (pre : List Int) : List Int → S58 → S30
  | [], x => mkR (red (nP dp x pre) (dp ^ pre.length))
  | t :: _, x => mkR (red (nP dp x pre * sk x t dp) (dp ^ pre.length * dp))
/-- The rows of the pots from here on. -/
def tabP (l : List S58) (dp : Int) : List Int → List Int → List (List S30)
  | pre, [] => [l.map (elP dp pre [])]
  | pre, t :: r => l.map (elP dp pre (t :: r)) :: tabP l dp (pre ++ [t]) r
/-- What Pots answers. -/
def pts (l : List S58) (ts : List Int) (dp : Int) : List (List S30) × Int :=
  if vld l = 0 then if (ts.length : Int) > 3 then ([], 3) else if TOk 0 dp ∧ ∀ t ∈ ts, TOk t dp then (tabP l dp [] ts, 0) else ([], 1) else ([], vld l)
theorem rd_pre (pre rest : List Int) (t : Int) : rd (pre ++ t :: rest) (pre.length : Int) = t := by
  simp [rd]
theorem wash_Pots_l (l : List S58) (dp : Int) (hv : Valid l) (hd : 1 ≤ dp ∧ dp ≤ 20) (ts : List Int) (hts : ts.length ≤ 3) (hok : ∀ t ∈ ts, TOk t dp) : ∀ (rest pre : List Int) (acc : List (List S30)), ts = pre ++ rest → acc.length = pre.length →
    Ev (fun k => wash_Pots.l0 k dp (l.map fun x => W x (nP dp x pre) (dp ^ pre.length)) acc ts (ts.length : Int) (pre.length : Int)) (acc ++ tabP l dp pre rest, 0) := by
  intro rest
  induction rest with
  | nil =>
    intro pre acc e ha
    refine Ev.step (fun k => by rw [wash_Pots.l0]) ?_
    simp only [show ¬ ((pre.length : Int) < (ts.length : Int)) by rw [e]; simp, if_false]
    refine Ev.bind (lefts_ev l (fun x => nP dp x pre) (dp ^ pre.length) hv.small.1) ?_
    have hlen : pre.length ≤ 3 := by rw [e] at hts; simpa using hts
    simp only [show acc.length < 5864062014805 by omega, if_true]
    exact Ev.now _
  | cons t r ih =>
    intro pre acc e ha
    have hlen : pre.length < ts.length := by rw [e]; simp
    have ht := hok t (by rw [e]; simp)
    refine Ev.step (fun k => by rw [wash_Pots.l0]) ?_
    have hx : rd ts (pre.length : Int) = t := by rw [e]; exact rd_pre pre r t
    simp only [show ((pre.length : Int) < (ts.length : Int)) by omega, show (0 : Int) ≤ (pre.length : Int) by omega, if_true, hx]
    have hp := pow3 dp hd pre.length (by omega)
    refine Ev.bind (settle_ev l t dp ⟨ht.1, ht.2.1⟩ hd (fun x => nP dp x pre) (dp ^ pre.length) ⟨hp.1, by omega⟩ hv.small.1 (fun x hx => ?_)) ?_
    · have hx1 := hv.all x hx
      have := nP_small dp x hx1 hd pre (fun u hu => hok u (by rw [e]; simp [hu])) (by omega)
      exact ⟨hx1.1, this.1, by omega⟩
    · simp only [show acc.length < 5864062014805 by omega, if_true]
      rw [wr_succ (m := ts.length) hlen (by omega)]
      have h := ih (pre ++ [t]) (acc ++ [l.map (elP dp pre (t :: r))]) (by rw [e]; simp) (by simp [ha])
      simp only [nP_snoc, List.length_append, List.length_singleton, Int.pow_succ, List.append_assoc, List.singleton_append] at h
      exact h
theorem any_bad (ts : List Int) (dp : Int) : ts.any (bad dp) = !decide (∀ t ∈ ts, TOk t dp) := by
  induction ts with
  | nil => simp
  | cons t r ih =>
    rw [List.any_cons, ih]
    by_cases c : TOk t dp
    · have : bad dp t = false := by
        unfold bad TOk at *
        simp [c]
      simp [this, c]
    · have : bad dp t = true := by
        unfold bad
        unfold TOk at c
        simp [c]
      simp [this, c]
theorem wash_Pots_ev (l : List S58) (ts : List Int) (dp : Int) : Ev (fun k => wash_Pots.f k l ts dp) (pts l ts dp) := by
  unfold wash_Pots.f pts
  refine Ev.bind (wash_vld l) ?_
  by_cases c : vld l = 0
  case neg =>
    simp only [c, if_false]
    exact Ev.now _
  simp only [c, if_true]
  have hv := (vld_zero l).1 c
  by_cases d : (ts.length : Int) > 3
  · simp only [d, if_true]
    exact Ev.now _
  simp only [d, if_false, isTime, Option.bind_some, decide_eq_true_eq, slices_ContainsFunc_int_int.f, any_bad, Bool.not_eq_true', decide_eq_false_iff_not]
  by_cases e : TOk 0 dp
  case neg =>
    simp only [show ¬ (0 ≤ (0 : Int) ∧ (0 : Int) ≤ 100 ∧ 1 ≤ dp ∧ dp ≤ 20) from e, e, false_and, if_false]
    exact Ev.now _
  simp only [show (0 ≤ (0 : Int) ∧ (0 : Int) ≤ 100 ∧ 1 ≤ dp ∧ dp ≤ 20) from e, e, true_and, and_self, if_true]
  by_cases f : ∀ t ∈ ts, TOk t dp
  case neg =>
    simp only [f, not_false_eq_true, if_true, if_false]
    exact Ev.now _
  simp only [eq_true f, not_true_eq_false, if_true, if_false]
  refine Ev.bind (pour_ev l hv.small.1 hv.small.2) ?_
  have g := wash_Pots_l l dp hv ⟨e.2.2.1, e.2.2.2⟩ ts (by omega) f ts [] [] rfl rfl
  rw [show dp ^ ([] : List Int).length = 1 from Int.pow_zero dp] at g
  exact g

/-! ### the reference -/
theorem ref_Pots_ok (l : List S58) (ts : List Int) (dp : Int) (hts : ts.length ≤ 3) (r : List (List S30) × Int) : ∀ (rest pre : List Int), ts = pre ++ rest →
    ((TOk 0 dp ∧ ∀ t ∈ rest, TOk t dp) → Ev (fun k => verditerref01_Pots.l1 k l ts dp [] 0) r) → ((¬ (TOk 0 dp ∧ ∀ t ∈ rest, TOk t dp)) → r = ([], 1)) →
    Ev (fun k => verditerref01_Pots.l0 k l ts dp (pre.length : Int)) r := by
  intro rest
  induction rest with
  | nil =>
    intro pre e h1 h2
    refine Ev.step (fun k => by rw [verditerref01_Pots.l0]) ?_
    simp only [show ¬ ((pre.length : Int) < (ts.length : Int)) by rw [e]; simp, if_false, settling, Option.bind_some, decide_eq_true_eq]
    by_cases c : TOk 0 dp
    · simp only [c, if_true]
      exact h1 ⟨c, by simp⟩
    · simp only [c, if_false]
      rw [h2 (fun h => c h.1)]
      exact Ev.now _
  | cons t rest ih =>
    intro pre e h1 h2
    have hlen : pre.length < ts.length := by rw [e]; simp
    have hx : rd ts (pre.length : Int) = t := by rw [e]; exact rd_pre pre rest t
    refine Ev.step (fun k => by rw [verditerref01_Pots.l0]) ?_
    simp only [show ((pre.length : Int) < (ts.length : Int)) by omega, show (0 : Int) ≤ (pre.length : Int) by omega, if_true, hx, settling, Option.bind_some, decide_eq_true_eq]
    by_cases c : TOk t dp
    · simp only [c, if_true]
      rw [wr_succ (m := ts.length) hlen (by omega)]
      have h := ih (pre ++ [t]) (by rw [e]; simp) (fun h => h1 ⟨h.1, fun u hu => by
          rcases List.mem_cons.1 hu with rfl | hu
          · exact c
          · exact h.2 u hu⟩) (fun h => h2 (fun g => h ⟨g.1, fun u hu => g.2 u (List.mem_cons_of_mem _ hu)⟩))
      rw [show (pre ++ [t]).length = pre.length + 1 by simp] at h
      exact h
    · simp only [c, if_false]
      rw [h2 (fun h => c (h.2 t (List.mem_cons_self ..)))]
      exact Ev.now _
theorem ref_Pots_l3 (l : List S58) (dp : Int) (hv : Valid l) (hd : 1 ≤ dp ∧ dp ≤ 20) (pre rest : List Int) (hts : (pre ++ rest).length ≤ 3) (hok : ∀ t ∈ pre ++ rest, TOk t dp) (acc : List (List S30)) (row : List S30) (hrow : row.length ≤ 1000) (lp lr : List S58) (x : S58) (el : l = lp ++ x :: lr) (r : List (List S30) × Int)
    (h : Ev (fun k => verditerref01_Pots.l2 k l (pre ++ rest) dp acc (pre.length : Int) (row ++ [elP dp pre rest x]) ((lp.length + 1 : Nat) : Int)) r) : ∀ (p2 p1 : List Int), pre = p1 ++ p2 →
    Ev (fun k => verditerref01_Pots.l3 k l (pre ++ rest) dp acc (pre.length : Int) row (lp.length : Int) (nP dp x p1) (dp ^ p1.length) (p1.length : Int)) r := by
  have hxm : x ∈ l := by rw [el]; simp
  have hx1 := hv.all x hxm
  have hlp : lp.length < l.length := by rw [el]; simp
  have hll := hv.1
  have hxx : rd_T58 l (lp.length : Int) = x := by rw [el]; exact rd58 lp x lr
  have hpl : pre.length ≤ 3 := by simp at hts; omega
  intro p2
  induction p2 with
  | nil =>
    intro p1 e
    rw [List.append_nil] at e
    subst e
    refine Ev.step (fun k => by rw [verditerref01_Pots.l3]) ?_
    have hn := nP_small dp x hx1 hd pre (fun u hu => hok u (List.mem_append_left _ hu)) hpl
    have hp := pow3 dp hd pre.length hpl
    cases rest with
    | nil =>
      simp only [Int.lt_irrefl, if_false, List.append_nil]
      refine Ev.bind (Ratio_ev _ _ ⟨hn.1, by omega⟩ ⟨hp.1, by omega⟩) ?_
      simp only [show row.length < 8796093022208 by omega, if_true]
      rw [wr_succ (m := l.length) hlp (by omega)]
      rw [List.append_nil] at h
      exact h
    | cons t rest =>
      have ht := hok t (by simp)
      have hlt : pre.length < (pre ++ t :: rest).length := by simp
      have hs := sk_bound x t dp hx1.1 ⟨ht.1, ht.2.1⟩ hd
      have m1 := mul_bound hn ⟨hs.1, show sk x t dp ≤ 20 by omega⟩
      have m2 := mul_bound (a := dp ^ pre.length) (b := dp) (A := 8000) (B := 20) ⟨by omega, hp.2⟩ ⟨by omega, hd.2⟩
      have m3 : 0 < dp ^ pre.length * dp := Int.mul_pos (by omega) (by omega)
      simp only [Int.lt_irrefl, if_false, show (pre.length : Int) < ((pre ++ t :: rest).length : Int) by omega, show (0 : Int) ≤ (lp.length : Int) by omega, show (lp.length : Int) < (l.length : Int) by omega, show (0 : Int) ≤ (pre.length : Int) by omega, if_true, hxx, rd_pre, sinks_ev x t dp hx1.1 ⟨ht.1, ht.2.1⟩, Option.bind_some]
      rw [wr (x := nP dp x pre * sk x t dp) (by omega) (by omega), wr (x := dp ^ pre.length * dp) (by omega) (by omega)]
      refine Ev.bind (Ratio_ev _ _ ⟨m1.1, by omega⟩ ⟨by omega, by omega⟩) ?_
      simp only [show row.length < 8796093022208 by omega, if_true]
      rw [wr_succ (m := l.length) hlp (by omega)]
      exact h
  | cons t p2 ih =>
    intro p1 e
    have ht := hok t (by rw [e]; simp)
    have hlt : p1.length < pre.length := by rw [e]; simp
    have hlt2 : pre.length ≤ (pre ++ rest).length := by simp
    have hrd : rd (pre ++ rest) (p1.length : Int) = t := by rw [e, List.append_assoc]; exact rd_pre p1 _ t
    have hn := nP_small dp x hx1 hd p1 (fun u hu => hok u (by rw [e]; simp [hu])) (by omega)
    have hp := pow3 dp hd p1.length (by omega)
    have hs := sk_bound x t dp hx1.1 ⟨ht.1, ht.2.1⟩ hd
    have m1 := mul_bound hn ⟨show 0 ≤ dp - sk x t dp by omega, show dp - sk x t dp ≤ 20 by omega⟩
    have m2 := mul_bound (a := dp ^ p1.length) (b := dp) (A := 8000) (B := 20) ⟨by omega, hp.2⟩ ⟨by omega, hd.2⟩
    refine Ev.step (fun k => by rw [verditerref01_Pots.l3]) ?_
    simp only [show (p1.length : Int) < (pre.length : Int) by omega, show (p1.length : Int) < ((pre ++ rest).length : Int) by omega, show (0 : Int) ≤ (lp.length : Int) by omega, show (lp.length : Int) < (l.length : Int) by omega, show (0 : Int) ≤ (p1.length : Int) by omega, if_true, hxx, hrd, sinks_ev x t dp hx1.1 ⟨ht.1, ht.2.1⟩, Option.bind_some]
    rw [wr (x := dp - sk x t dp) (by omega) (by omega), wr (x := nP dp x p1 * (dp - sk x t dp)) (by omega) (by omega), wr (x := dp ^ p1.length * dp) (by omega) (by omega), wr_succ (m := pre.length) hlt (by omega)]
    have g := ih (p1 ++ [t]) (by rw [e]; simp)
    rw [nP_snoc, show (p1 ++ [t]).length = p1.length + 1 by simp, Int.pow_succ] at g
    exact g
theorem ref_Pots_l2 (l : List S58) (dp : Int) (hv : Valid l) (hd : 1 ≤ dp ∧ dp ≤ 20) (pre rest : List Int) (hts : (pre ++ rest).length ≤ 3) (hok : ∀ t ∈ pre ++ rest, TOk t dp) (acc : List (List S30)) (hacc : acc.length ≤ 1000) (r : List (List S30) × Int)
    (h : Ev (fun k => verditerref01_Pots.l1 k l (pre ++ rest) dp (acc ++ [l.map (elP dp pre rest)]) ((pre.length + 1 : Nat) : Int)) r) : ∀ (lr lp : List S58), l = lp ++ lr →
    Ev (fun k => verditerref01_Pots.l2 k l (pre ++ rest) dp acc (pre.length : Int) (lp.map (elP dp pre rest)) (lp.length : Int)) r := by
  have hll := hv.1
  have hpl : pre.length ≤ 3 := by simp at hts; omega
  intro lr
  induction lr with
  | nil =>
    intro lp e
    rw [List.append_nil] at e
    subst e
    refine Ev.step (fun k => by rw [verditerref01_Pots.l2]) ?_
    simp only [Int.lt_irrefl, if_false, show acc.length < 5864062014805 by omega, if_true]
    rw [wr_succ (m := 10) (by omega) (by omega)]
    exact h
  | cons x lr ih =>
    intro lp e
    have hlp : lp.length < l.length := by rw [e]; simp
    have hxx : rd_T58 l (lp.length : Int) = x := by rw [e]; exact rd58 lp x lr
    refine Ev.step (fun k => by rw [verditerref01_Pots.l2]) ?_
    simp only [show (lp.length : Int) < (l.length : Int) by omega, show (0 : Int) ≤ (lp.length : Int) by omega, if_true, hxx]
    have g := ih (lp ++ [x]) (by rw [e]; simp)
    rw [List.map_append, show (lp ++ [x]).length = lp.length + 1 by simp] at g
    have f := ref_Pots_l3 l dp hv hd pre rest hts hok acc (lp.map (elP dp pre rest)) (by simp; omega) lp lr x e r g pre [] rfl
    rw [show dp ^ ([] : List Int).length = 1 from Int.pow_zero dp] at f
    exact f
theorem ref_Pots_l1 (l : List S58) (dp : Int) (hv : Valid l) (hd : 1 ≤ dp ∧ dp ≤ 20) (ts : List Int) (hts : ts.length ≤ 3) (hok : ∀ t ∈ ts, TOk t dp) : ∀ (rest pre : List Int) (acc : List (List S30)), ts = pre ++ rest → acc.length = pre.length →
    Ev (fun k => verditerref01_Pots.l1 k l ts dp acc (pre.length : Int)) (acc ++ tabP l dp pre rest, 0) := by
  intro rest
  induction rest with
  | nil =>
    intro pre acc e ha
    have hpl : pre.length = ts.length := by rw [e]; simp
    refine Ev.step (fun k => by rw [verditerref01_Pots.l1]) ?_
    simp only [show (pre.length : Int) ≤ (ts.length : Int) by omega, if_true]
    rw [e]
    refine ref_Pots_l2 l dp hv hd pre [] (by rw [← e]; exact hts) (by rw [← e]; exact hok) acc (by omega) _ ?_ l [] rfl
    refine Ev.step (fun k => by rw [verditerref01_Pots.l1]) ?_
    simp only [show ¬ (((pre.length + 1 : Nat) : Int) ≤ ((pre ++ ([] : List Int)).length : Int)) by simp; omega, if_false]
    exact Ev.now _
  | cons t r ih =>
    intro pre acc e ha
    have hpl : pre.length < ts.length := by rw [e]; simp
    refine Ev.step (fun k => by rw [verditerref01_Pots.l1]) ?_
    simp only [show (pre.length : Int) ≤ (ts.length : Int) by omega, if_true]
    rw [e]
    refine ref_Pots_l2 l dp hv hd pre (t :: r) (by rw [← e]; exact hts) (by rw [← e]; exact hok) acc (by omega) _ ?_ l [] rfl
    have g := ih (pre ++ [t]) (acc ++ [l.map (elP dp pre (t :: r))]) (by rw [e]; simp) (by simp [ha])
    rw [show (pre ++ [t]).length = pre.length + 1 by simp, List.append_assoc, e] at g
    exact g
theorem ref_Pots_ev (l : List S58) (ts : List Int) (dp : Int) : Ev (fun k => verditerref01_Pots.f k l ts dp) (pts l ts dp) := by
  unfold verditerref01_Pots.f pts
  refine Ev.bind (ref_vld l) ?_
  by_cases c : vld l = 0
  case neg =>
    simp only [c, if_false]
    exact Ev.now _
  simp only [c, if_true]
  have hv := (vld_zero l).1 c
  by_cases d : (ts.length : Int) > 3
  · simp only [d, if_true]
    exact Ev.now _
  simp only [d, if_false]
  refine ref_Pots_ok l ts dp (by omega) _ ts [] rfl (fun h => ?_) (fun h => by rw [if_neg h])
  rw [if_pos h]
  exact ref_Pots_l1 l dp hv ⟨h.1.2.2.1, h.1.2.2.2⟩ ts (by omega) h.2 ts [] [] rfl rfl
end Go.Proofs.Ytbckhllkjlgbpaa.P
