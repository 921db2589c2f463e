/- The moves that prove a lot finer: what the printed Moves of the program answers, for every two lists of grains; no conditions beyond those that each theorem names. -/
import Derived.Test.YtbckhllkjlgbpaaMvs
import Derived.Test.YtbckhllkjlgbpaaP82
namespace Go.Proofs.Ytbckhllkjlgbpaa.P
open Go.RowKit Go.Proofs.YtbckhllkjlgbpaaW.PrintWords

/-- The grains with less mass in the first one. -/
def cutq : List S58 → Int → List S58
  | [], _ => []
  | a :: r, q => if a.f1 - q = 0 then r else ⟨a.f0, a.f1 - q⟩ :: r
theorem cutq_blw (a : S58) (r : List S58) (q s : Int) : blw (cutq (a :: r) q) s = blw (a :: r) s - (if a.f0 ≤ s then q else 0) := by
  rw [cutq, blw]
  by_cases c : a.f1 - q = 0
  · rw [if_pos c]
    split <;> omega
  · rw [if_neg c, blw]
    simp only
    split <;> omega
theorem cutq_sm (a : S58) (r : List S58) (q : Int) : sm (cutq (a :: r) q) = sm (a :: r) - q := by
  rw [cutq, sm]
  by_cases c : a.f1 - q = 0
  · rw [if_pos c]
    omega
  · rw [if_neg c, sm]
    simp only
    omega
theorem cutq_at (a : S58) (r : List S58) (q i : Int) : atm (cutq (a :: r) q) i = atm (a :: r) i - (if a.f0 = i then q else 0) := by
  rw [cutq, atm]
  by_cases c : a.f1 - q = 0
  · rw [if_pos c]
    split <;> omega
  · rw [if_neg c, atm]
    simp only
    split <;> omega
theorem cutq_srt (a : S58) (r : List S58) (q : Int) (h : Srt 0 (a :: r)) (h0 : 0 < q) (h1 : q ≤ a.f1) : Srt 0 (cutq (a :: r) q) := by
  rw [cutq]
  obtain ⟨s1, s2, s3, s4, s5⟩ := h
  by_cases c : a.f1 - q = 0
  · rw [if_pos c]
    exact s5.low (by omega)
  · rw [if_neg c]
    exact ⟨s1, s2, by show 1 ≤ a.f1 - q; omega, by show a.f1 - q ≤ 100; omega, s5⟩
theorem cutq_length (a : S58) (r : List S58) (q : Int) : (cutq (a :: r) q).length ≤ r.length + 1 ∧ (q = a.f1 → (cutq (a :: r) q).length ≤ r.length) := by
  rw [cutq]
  by_cases c : a.f1 - q = 0
  · rw [if_pos c]
    exact ⟨by omega, fun _ => Nat.le_refl _⟩
  · rw [if_neg c]
    exact ⟨by simp, fun h => by omega⟩
theorem atm_nonneg : ∀ (l : List S58) (i : Int), (∀ x ∈ l, 1 ≤ x.f1) → 0 ≤ atm l i
  | [], _, _ => by simp [atm]
  | x :: r, i, h => by
    have h1 := atm_nonneg r i (fun y hy => h y (List.mem_cons_of_mem _ hy))
    have h2 := h x (List.mem_cons_self ..)
    rw [atm]
    split <;> omega
theorem j1_ev (a : S58) (x : List S58) (b : S58) (y : List S58) (acc : List S83) (q : Int) (hq0 : 0 < q) (hq1 : q ≤ a.f1) (hq2 : q ≤ b.f1) (ha : a.f1 ≤ 100) (hb : b.f1 ≤ 100) (r : List S83 × Bool × Int)
    (h : Ev (fun k => wash_Moves.l0 k (cutq (a :: x) q) (cutq (b :: y) q) acc) r) : Ev (fun k => wash_Moves.j1 k (a :: x) (b :: y) acc q) r := by
  refine Ev.step (fun k => by rw [wash_Moves.j1]) ?_
  have e1 : rd_T58 (a :: x) 0 = a := rfl
  have e2 : rd_T58 (b :: y) 0 = b := rfl
  have e3 : ∀ (z : S58) (l : List S58), rd_T58 (z :: l) 0 = z := fun _ _ => rfl
  simp only [List.length_cons, show (0 : Int) < ((x.length + 1 : Nat) : Int) by omega, show (0 : Int) < ((y.length + 1 : Nat) : Int) by omega, show (1 : Int) ≤ ((x.length + 1 : Nat) : Int) by omega, show (1 : Int) ≤ ((y.length + 1 : Nat) : Int) by omega, if_true, Option.bind_some, e3,
    show (0 : Int).toNat = 0 from rfl, show (1 : Int).toNat = 1 from rfl, List.set_cons_zero, List.drop_succ_cons, List.drop_zero, wr (x := a.f1 - q) (by omega) (by omega), wr (x := b.f1 - q) (by omega) (by omega)]
  rw [cutq, cutq] at h
  by_cases c : a.f1 - q = 0
  · rw [if_pos c] at h
    simp only [c, if_true]
    by_cases d : b.f1 - q = 0
    · rw [if_pos d] at h
      simp only [d, if_true]
      exact h
    · rw [if_neg d] at h
      simp only [d, if_false]
      exact h
  · rw [if_neg c] at h
    simp only [c, if_false]
    by_cases d : b.f1 - q = 0
    · rw [if_pos d] at h
      simp only [d, if_true]
      exact h
    · rw [if_neg d] at h
      simp only [d, if_false]
      exact h
theorem moves_l (t : List Int) (ht : t.length = 21) : ∀ (n : Nat) (x y : List S58) (acc : List S83) (cur : List Int), x.length + y.length ≤ n → n + acc.length ≤ 1000 → Srt 0 x → Srt 0 y → (∀ s, blw y s ≤ blw x s) → sm x = sm y → cur.length = 21 →
    (∀ i : Nat, i < 21 → cur.getD i 0 = t.getD i 0 - atm x i + atm y i) → (∀ i : Nat, i < 21 → 0 ≤ t.getD i 0 - atm x i) →
    ∃ g : List S83, g.length ≤ n ∧ (∀ v ∈ g, MvOk v) ∧ mvs g cur = some t ∧ Ev (fun k => wash_Moves.l0 k x y acc) (acc ++ g, true, 0)
  | n, [], y, acc, cur, hn, hacc, hx, hy, hb, hs, hc, hi, hp => by
    have hy0 : y = [] := by
      cases y with
      | nil => rfl
      | cons b r =>
        have := sm_pos (b :: r) (fun z hz => by have := hy.mass z hz; omega) (by simp)
        rw [← hs, sm] at this
        omega
    subst hy0
    refine ⟨[], by simp, by simp, ?_, ?_⟩
    · rw [mvs]
      congr 1
      apply List.ext_getElem
      · omega
      · intro i h1 h2
        have := hi i (by omega)
        rw [atm, List.getD_eq_getElem?_getD, List.getD_eq_getElem?_getD, List.getElem?_eq_getElem h1, List.getElem?_eq_getElem h2] at this
        simpa using this
    · refine Ev.step (fun k => by rw [wash_Moves.l0]) ?_
      simp only [List.length_nil, show ¬ (((0 : Nat) : Int) > 0) by omega, if_false, List.append_nil]
      exact Ev.now _
  | n, a :: x, [], acc, cur, hn, hacc, hx, hy, hb, hs, hc, hi, hp => by
    have := sm_pos (a :: x) (fun z hz => by have := hx.mass z hz; omega) (by simp)
    rw [hs, sm] at this
    omega
  | 0, a :: x, b :: y, acc, cur, hn, hacc, hx, hy, hb, hs, hc, hi, hp => by simp at hn
  | n + 1, a :: x, b :: y, acc, cur, hn, hacc, hx, hy, hb, hs, hc, hi, hp => by
    have a1 := hx.mass a (List.mem_cons_self ..)
    have b1 := hy.mass b (List.mem_cons_self ..)
    have hle : a.f0 ≤ b.f0 := by
      have h1 := hb b.f0
      have h2 := blw_bound y b.f0 (fun z hz => by have := hy.mass z (List.mem_cons_of_mem _ hz); omega)
      rw [blw, if_pos (Int.le_refl _)] at h1
      by_cases c : a.f0 ≤ b.f0
      · exact c
      · rw [blw_none (a :: x) b.f0 (fun z hz => by
          rcases List.mem_cons.1 hz with rfl | hz
          · omega
          · have := hx.2.2.2.2.mass z hz
            omega)] at h1
        omega
    obtain ⟨q, hq⟩ : ∃ q, q = mn a.f1 b.f1 := ⟨_, rfl⟩
    have hq3 : 0 < q ∧ q ≤ a.f1 ∧ q ≤ b.f1 ∧ (q = a.f1 ∨ q = b.f1) := by
      rw [hq]
      unfold mn
      split <;> omega
    obtain ⟨q0, q1, q2, q3⟩ := hq3
    have hlen : (cutq (a :: x) q).length + (cutq (b :: y) q).length ≤ n := by
      have h1 := cutq_length a x q
      have h2 := cutq_length b y q
      simp only [List.length_cons] at hn
      rcases q3 with h | h
      · have := h1.2 h
        omega
      · have := h2.2 h
        omega
    have hb' : ∀ s, blw (cutq (b :: y) q) s ≤ blw (cutq (a :: x) q) s := by
      intro s
      have h1 := hb s
      have hx' := blw_bound (cutq (a :: x) q) s (fun z hz => by have := (cutq_srt a x q hx q0 q1).mass z hz; omega)
      rw [cutq_blw] at hx'
      rw [cutq_blw, cutq_blw]
      by_cases c : b.f0 ≤ s
      · rw [if_pos c, if_pos (by omega)]
        omega
      · rw [if_neg c, blw_none (b :: y) s (fun z hz => by
          rcases List.mem_cons.1 hz with rfl | hz
          · omega
          · have := hy.2.2.2.2.mass z hz
            omega)]
        omega
    have hs' : sm (cutq (a :: x) q) = sm (cutq (b :: y) q) := by rw [cutq_sm, cutq_sm, hs]
    have hp' : ∀ i : Nat, i < 21 → 0 ≤ t.getD i 0 - atm (cutq (a :: x) q) i := by
      intro i h
      have := hp i h
      rw [cutq_at]
      split <;> omega
    obtain ⟨i, hi'⟩ : ∃ i : Nat, b.f0 = (i : Int) := ⟨b.f0.toNat, by omega⟩
    obtain ⟨j, hj'⟩ : ∃ j : Nat, a.f0 = (j : Int) := ⟨a.f0.toNat, by omega⟩
    have e3 : ∀ (z : S58) (l : List S58), rd_T58 (z :: l) 0 = z := fun _ _ => rfl
    by_cases c : b.f0 > a.f0
    · have hcur : q ≤ cur.getD i 0 := by
        have h1 := hi i (by omega)
        have h2 := hp i (by omega)
        have h3 := atm_nonneg y (i : Int) (fun z hz => by have := hy.mass z (List.mem_cons_of_mem _ hz); omega)
        rw [show atm (b :: y) (i : Int) = b.f1 + atm y i by rw [atm, if_pos hi']] at h1
        omega
      have g0 : (cur.set i (cur.getD i 0 - q)).getD j 0 = cur.getD j 0 := by
        rw [List.getD_eq_getElem?_getD, List.getElem?_set_ne (by omega), ← List.getD_eq_getElem?_getD]
      obtain ⟨g, hg1, hg2, hg3, hg4⟩ := moves_l t ht n (cutq (a :: x) q) (cutq (b :: y) q) (acc ++ [⟨b.f0, a.f0, q⟩]) ((cur.set i (cur.getD i 0 - q)).set j (cur.getD j 0 + q)) hlen (by simp; omega) (cutq_srt a x q hx q0 q1) (cutq_srt b y q hy q0 q2) hb' hs' (by simp [hc]) (fun k hk => by
        have h1 := hi k hk
        rw [cutq_at, cutq_at]
        by_cases cj : k = j
        · subst cj
          rw [List.getD_eq_getElem?_getD, List.getElem?_set_self (by simp; omega), Option.getD_some, if_pos (by omega), if_neg (by omega)]
          omega
        · by_cases ci : k = i
          · subst ci
            rw [List.getD_eq_getElem?_getD, List.getElem?_set_ne (by omega), List.getElem?_set_self (by omega), Option.getD_some, if_neg (by omega), if_pos (by omega)]
            omega
          · rw [List.getD_eq_getElem?_getD, List.getElem?_set_ne (by omega), List.getElem?_set_ne (by omega), ← List.getD_eq_getElem?_getD, if_neg (by omega), if_neg (by omega)]
            omega) hp'
      refine ⟨⟨b.f0, a.f0, q⟩ :: g, by simp; omega, ?_, ?_, ?_⟩
      · intro v hv
        rcases List.mem_cons.1 hv with rfl | hv
        · exact ⟨by show b.f0 ≤ 20; omega, by show 1 ≤ a.f0; omega, c, by show 1 ≤ q; omega, by show q ≤ 100; omega⟩
        · exact hg2 v hv
      · rw [mvs]
        simp only [hi', hj', Int.toNat_natCast]
        rw [if_neg (by omega)]
        exact hg3
      · refine Ev.step (fun k => by rw [wash_Moves.l0]) ?_
        simp only [List.length_cons, show ((x.length + 1 : Nat) : Int) > 0 by omega, show ((y.length + 1 : Nat) : Int) > 0 by omega, if_true, e3, c, show acc.length < 5864062014805 by omega]
        rw [← hq]
        rw [show acc ++ (⟨b.f0, a.f0, q⟩ : S83) :: g = (acc ++ [⟨b.f0, a.f0, q⟩]) ++ g by simp]
        exact j1_ev a x b y _ q q0 q1 q2 (by omega) (by omega) _ hg4
    · have hij : i = j := by omega
      subst hij
      obtain ⟨g, hg1, hg2, hg3, hg4⟩ := moves_l t ht n (cutq (a :: x) q) (cutq (b :: y) q) acc cur hlen (by omega) (cutq_srt a x q hx q0 q1) (cutq_srt b y q hy q0 q2) hb' hs' hc (fun k hk => by
        have h1 := hi k hk
        rw [cutq_at, cutq_at, hi', hj']
        omega) hp'
      refine ⟨g, by omega, hg2, hg3, ?_⟩
      refine Ev.step (fun k => by rw [wash_Moves.l0]) ?_
      simp only [List.length_cons, show ((x.length + 1 : Nat) : Int) > 0 by omega, show ((y.length + 1 : Nat) : Int) > 0 by omega, if_true, e3, c, if_false]
      rw [← hq]
      exact j1_ev a x b y _ q q0 q1 q2 (by omega) (by omega) _ hg4
end Go.Proofs.Ytbckhllkjlgbpaa.P
