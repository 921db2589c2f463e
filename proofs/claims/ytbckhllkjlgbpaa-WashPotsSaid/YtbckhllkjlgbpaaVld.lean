/- Which lots are right, and their masses: what the printed functions of wash and of the reference answer, for lists of any grains; no conditions beyond those that each theorem names. -/
import Derived.Test.YtbckhllkjlgbpaaBase
import Derived.Test.YtbckhllkjlgbpaaPe
import Derived.Test.YtbckhllkjlgbpaaP23
namespace Go.Proofs.Ytbckhllkjlgbpaa.P
open Go.RowKit Go.Proofs.YtbckhllkjlgbpaaW.PrintWords

/-- The code of an error of the grains from here on, behind one of size lo. -/
def vl : Int → List S58 → Int
  | _, [] => 0
  | lo, x :: r => if lo < x.f0 ∧ x.f0 ≤ 20 ∧ 1 ≤ x.f1 ∧ x.f1 ≤ 100 then vl x.f0 r else 1
/-- The code of a lot's error. -/
def vld (l : List S58) : Int := if (l.length : Int) > 6 then 3 else vl 0 l
/-- Sizes ascend from above lo to 20, masses are from 1 to 100. -/
def Srt : Int → List S58 → Prop
  | _, [] => True
  | lo, x :: r => lo < x.f0 ∧ x.f0 ≤ 20 ∧ 1 ≤ x.f1 ∧ x.f1 ≤ 100 ∧ Srt x.f0 r
theorem vl_zero : ∀ (l : List S58) (lo : Int), vl lo l = 0 ↔ Srt lo l
  | [], _ => by simp [vl, Srt]
  | x :: r, lo => by
    rw [vl, Srt]
    by_cases c : lo < x.f0 ∧ x.f0 ≤ 20 ∧ 1 ≤ x.f1 ∧ x.f1 ≤ 100
    · rw [if_pos c, vl_zero r]
      exact ⟨fun h => ⟨c.1, c.2.1, c.2.2.1, c.2.2.2, h⟩, fun h => h.2.2.2.2⟩
    · rw [if_neg c]
      exact ⟨fun h => absurd h (by decide), fun h => absurd ⟨h.1, h.2.1, h.2.2.1, h.2.2.2.1⟩ c⟩
theorem vl_01 : ∀ (l : List S58) (lo : Int), vl lo l = 0 ∨ vl lo l = 1
  | [], _ => .inl rfl
  | x :: r, lo => by
    rw [vl]
    split
    · exact vl_01 r _
    · exact .inr rfl
/-- A right lot. -/
def Valid (l : List S58) : Prop := l.length ≤ 6 ∧ Srt 0 l
theorem vld_zero (l : List S58) : vld l = 0 ↔ Valid l := by
  unfold vld Valid
  split
  · exact ⟨fun h => absurd h (by decide), fun h => by omega⟩
  · rw [vl_zero]
    exact ⟨fun h => ⟨by omega, h⟩, fun h => h.2⟩
theorem vld_cases (l : List S58) : vld l = 0 ∨ vld l = 1 ∨ vld l = 3 := by
  unfold vld
  split
  · exact .inr (.inr rfl)
  · rcases vl_01 l 0 with h | h
    · exact .inl h
    · exact .inr (.inl h)

theorem rd58 (pre : List S58) (x : S58) (rest : List S58) : rd_T58 (pre ++ x :: rest) (pre.length : Int) = x := by
  simp [rd_T58]
theorem rd58_last (pre : List S58) (x y : S58) (rest : List S58) : rd_T58 ((pre ++ [y]) ++ x :: rest) (((pre ++ [y]).length : Int) - 1) = y := by
  simp [rd_T58]

theorem wash_vl (l : List S58) (hl : l.length ≤ 1000) : ∀ (rest pre : List S58) (lo : Int), l = pre ++ rest → ((pre = [] ∧ lo = 0) ∨ ∃ p0 y, pre = p0 ++ [y] ∧ lo = y.f0 ∧ 1 ≤ lo) →
    Ev (fun k => wash_Validate.l0 k l l (l.length : Int) (pre.length : Int)) (vl lo rest) := by
  intro rest
  induction rest with
  | nil =>
    intro pre lo e _
    refine Ev.step (fun k => by rw [wash_Validate.l0]) ?_
    simp only [show ¬ ((pre.length : Int) < (l.length : Int)) by rw [e]; simp, if_false]
    exact Ev.now _
  | cons x r ih =>
    intro pre lo e hlo
    have hlen : pre.length < l.length := by rw [e]; simp
    refine Ev.step (fun k => by rw [wash_Validate.l0]) ?_
    have hx : rd_T58 l (pre.length : Int) = x := by rw [e]; exact rd58 pre x r
    simp only [show ((pre.length : Int) < (l.length : Int)) by omega, show (0 : Int) ≤ (pre.length : Int) by omega, if_true, hx]
    rw [vl]
    by_cases c1 : x.f0 < 1
    · simp only [c1, if_true]
      rw [if_neg (by rcases hlo with ⟨_, h⟩ | ⟨_, _, _, _, h⟩ <;> omega)]
      exact Ev.now _
    simp only [c1, if_false]
    by_cases c2 : x.f0 > 20
    · simp only [c2, if_true]
      rw [if_neg (by omega)]
      exact Ev.now _
    simp only [c2, if_false]
    by_cases c3 : x.f1 < 1
    · simp only [c3, if_true]
      rw [if_neg (by omega)]
      exact Ev.now _
    simp only [c3, if_false]
    by_cases c4 : x.f1 > 100
    · simp only [c4, if_true]
      rw [if_neg (by omega)]
      exact Ev.now _
    simp only [c4, if_false]
    have hgo : Ev (fun k => wash_Validate.l0 k l l (l.length : Int) (wrap64 ((pre.length : Int) + 1))) (vl x.f0 r) := by
      rw [wr_succ (m := l.length) hlen (by omega)]
      have h := ih (pre ++ [x]) x.f0 (by rw [e]; simp) (.inr ⟨pre, x, rfl, rfl, by omega⟩)
      rw [show (pre ++ [x]).length = pre.length + 1 by simp] at h
      exact h
    rcases hlo with ⟨rfl, rfl⟩ | ⟨p0, y, rfl, rfl, hy⟩
    · simp only [List.length_nil, show ¬ (((0 : Nat) : Int) > 0) by omega, if_false]
      rw [if_pos (by omega)]
      simpa using hgo
    · have h1 : wrap64 (((p0 ++ [y]).length : Int) - 1) = ((p0 ++ [y]).length : Int) - 1 := wr (by omega) (by omega)
      have h2 : rd_T58 l (((p0 ++ [y]).length : Int) - 1) = y := by rw [e]; exact rd58_last p0 x y r
      have h4 : (p0 ++ [y]).length = p0.length + 1 := by simp
      have h3 : ((p0 ++ [y]).length : Int) > 0 := by omega
      simp only [h3, if_true, h1, show (0 : Int) ≤ ((p0 ++ [y]).length : Int) - 1 by omega, show ((p0 ++ [y]).length : Int) - 1 < (l.length : Int) by omega, h2]
      by_cases c5 : y.f0 ≥ x.f0
      · simp only [c5, if_true]
        rw [if_neg (by omega)]
        exact Ev.now _
      · simp only [c5, if_false]
        rw [if_pos (by omega)]
        exact hgo
theorem wash_vld (l : List S58) : Ev (fun k => wash_Validate.f k l) (vld l) := by
  unfold wash_Validate.f vld
  by_cases c : (l.length : Int) > 6
  · simp only [c, if_true]
    exact Ev.now _
  · simp only [c, if_false]
    exact wash_vl l (by omega) l [] 0 rfl (.inl ⟨rfl, rfl⟩)

theorem within (a lo hi : Int) : verditerref01_Within.f a lo hi = some (decide (lo ≤ a ∧ a ≤ hi)) := by
  unfold verditerref01_Within.f
  by_cases h : a ≥ lo
  · rw [if_pos h]
    congr 1
    simp only [decide_eq_decide]
    omega
  · rw [if_neg h]
    congr 1
    symm
    simp only [decide_eq_false_iff_not]
    omega
theorem ref_vl (l : List S58) (hl : l.length ≤ 1000) : ∀ (rest pre : List S58) (lo : Int), l = pre ++ rest → ((pre = [] ∧ lo = 0) ∨ ∃ p0 y, pre = p0 ++ [y] ∧ lo = y.f0 ∧ 1 ≤ lo) →
    Ev (fun k => verditerref01_Validate.l0 k l (pre.length : Int)) (vl lo rest) := by
  intro rest
  induction rest with
  | nil =>
    intro pre lo e _
    refine Ev.step (fun k => by rw [verditerref01_Validate.l0]) ?_
    simp only [show ¬ ((pre.length : Int) < (l.length : Int)) by rw [e]; simp, if_false]
    exact Ev.now _
  | cons x r ih =>
    intro pre lo e hlo
    have hlen : pre.length < l.length := by rw [e]; simp
    refine Ev.step (fun k => by rw [verditerref01_Validate.l0]) ?_
    have hx : rd_T58 l (pre.length : Int) = x := by rw [e]; exact rd58 pre x r
    simp only [show ((pre.length : Int) < (l.length : Int)) by omega, show (0 : Int) ≤ (pre.length : Int) by omega, if_true, hx, within, Option.bind_some, decide_eq_true_eq]
    by_cases c1 : 1 ≤ x.f0 ∧ x.f0 ≤ 20
    case neg =>
      simp only [c1, if_false]
      rw [vl, if_neg (by rcases hlo with ⟨_, h⟩ | ⟨_, _, _, _, h⟩ <;> omega)]
      exact Ev.now _
    simp only [c1, and_self, if_true]
    by_cases c2 : 1 ≤ x.f1 ∧ x.f1 ≤ 100
    case neg =>
      simp only [c2, if_false]
      rw [vl, if_neg (by omega)]
      exact Ev.now _
    simp only [c2, and_self, if_true]
    have hgo : Ev (fun k => verditerref01_Validate.l0 k l (wrap64 ((pre.length : Int) + 1))) (vl x.f0 r) := by
      rw [wr_succ (m := l.length) hlen (by omega)]
      have h := ih (pre ++ [x]) x.f0 (by rw [e]; simp) (.inr ⟨pre, x, rfl, rfl, by omega⟩)
      rw [show (pre ++ [x]).length = pre.length + 1 by simp] at h
      exact h
    rcases hlo with ⟨rfl, rfl⟩ | ⟨p0, y, rfl, rfl, hy⟩
    · simp only [List.length_nil, show ¬ (((0 : Nat) : Int) > 0) by omega, if_false]
      rw [vl, if_pos (by omega)]
      simpa using hgo
    · have h1 : wrap64 (((p0 ++ [y]).length : Int) - 1) = ((p0 ++ [y]).length : Int) - 1 := wr (by omega) (by omega)
      have h2 : rd_T58 l (((p0 ++ [y]).length : Int) - 1) = y := by rw [e]; exact rd58_last p0 x y r
      have h4 : (p0 ++ [y]).length = p0.length + 1 := by simp
      have h3 : ((p0 ++ [y]).length : Int) > 0 := by omega
      simp only [h3, if_true, h1, show (0 : Int) ≤ ((p0 ++ [y]).length : Int) - 1 by omega, show ((p0 ++ [y]).length : Int) - 1 < (l.length : Int) by omega, h2]
      by_cases c5 : x.f0 ≤ y.f0
      · simp only [c5, if_true]
        rw [vl, if_neg (by omega)]
        exact Ev.now _
      · simp only [c5, if_false]
        rw [vl, if_pos (by omega)]
        exact hgo
theorem ref_vld (l : List S58) : Ev (fun k => verditerref01_Validate.f k l) (vld l) := by
  unfold verditerref01_Validate.f vld
  by_cases c : (l.length : Int) > 6
  · simp only [c, if_true]
    exact Ev.now _
  · simp only [c, if_false]
    exact ref_vl l (by omega) l [] 0 rfl (.inl ⟨rfl, rfl⟩)

/-! ### masses -/
def blw : List S58 → Int → Int
  | [], _ => 0
  | x :: r, s => (if x.f0 ≤ s then x.f1 else 0) + blw r s
def sm : List S58 → Int
  | [] => 0
  | x :: r => x.f1 + sm r
theorem Srt.mass {l : List S58} : ∀ {lo : Int}, Srt lo l → ∀ x ∈ l, lo < x.f0 ∧ x.f0 ≤ 20 ∧ 1 ≤ x.f1 ∧ x.f1 ≤ 100 := by
  induction l with
  | nil => intro lo _ x hx; cases hx
  | cons y r ih =>
    intro lo h x hx
    obtain ⟨h1, h2, h3, h4, h5⟩ := h
    rcases List.mem_cons.1 hx with rfl | hx
    · exact ⟨h1, h2, h3, h4⟩
    · have := ih h5 x hx
      omega
theorem Srt.low {l : List S58} {lo lo' : Int} (h : Srt lo l) (hl : lo' ≤ lo) : Srt lo' l := by
  cases l with
  | nil => trivial
  | cons x r => exact ⟨by have := h.1; omega, h.2.1, h.2.2.1, h.2.2.2.1, h.2.2.2.2⟩
theorem blw_bound : ∀ (l : List S58) (s : Int), (∀ x ∈ l, 1 ≤ x.f1 ∧ x.f1 ≤ 100) → 0 ≤ blw l s ∧ blw l s ≤ sm l ∧ sm l ≤ 100 * l.length
  | [], _, _ => by simp [blw, sm]
  | x :: r, s, h => by
    have h1 := blw_bound r s (fun y hy => h y (List.mem_cons_of_mem _ hy))
    have h2 := h x (List.mem_cons_self ..)
    rw [blw, sm, List.length_cons]
    split <;> omega
theorem blw_all : ∀ (l : List S58) (s : Int), (∀ x ∈ l, x.f0 ≤ s) → blw l s = sm l
  | [], _, _ => rfl
  | x :: r, s, h => by
    rw [blw, sm, if_pos (h x (List.mem_cons_self ..)), blw_all r s (fun y hy => h y (List.mem_cons_of_mem _ hy))]
theorem blw_none : ∀ (l : List S58) (s : Int), (∀ x ∈ l, s < x.f0) → blw l s = 0
  | [], _, _ => rfl
  | x :: r, s, h => by
    rw [blw, if_neg (by have := h x (List.mem_cons_self ..); omega), blw_none r s (fun y hy => h y (List.mem_cons_of_mem _ hy))]
    rfl
theorem sm_take_while : ∀ (l : List S58) (lo s : Int), Srt lo l → sm (l.takeWhile fun x => decide (x.f0 ≤ s)) = blw l s
  | [], _, _, _ => rfl
  | x :: r, lo, s, h => by
    rw [blw, List.takeWhile_cons]
    by_cases c : x.f0 ≤ s
    · rw [if_pos (by simpa using c), if_pos c, sm, sm_take_while r _ s h.2.2.2.2]
    · rw [if_neg (by simpa using c), if_neg c, blw_none r s (fun y hy => by have := (h.2.2.2.2).mass y hy; omega)]
      rfl

theorem ref_below_l (l : List S58) (s : Int) (hl : l.length ≤ 1000) (hm : ∀ x ∈ l, 1 ≤ x.f1 ∧ x.f1 ≤ 100) : ∀ (rest pre : List S58) (acc : Int), l = pre ++ rest → 0 ≤ acc → acc ≤ 100 * pre.length →
    Ev (fun k => verditerref01_below.l0 k l s acc (pre.length : Int)) (acc + blw rest s) := by
  intro rest
  induction rest with
  | nil =>
    intro pre acc e _ _
    refine Ev.step (fun k => by rw [verditerref01_below.l0]) ?_
    simp only [show ¬ ((pre.length : Int) < (l.length : Int)) by rw [e]; simp, if_false, blw, Int.add_zero]
    exact Ev.now _
  | cons x r ih =>
    intro pre acc e h0 h1
    have hlen : pre.length < l.length := by rw [e]; simp
    have hx1 := hm x (by rw [e]; simp)
    refine Ev.step (fun k => by rw [verditerref01_below.l0]) ?_
    have hx : rd_T58 l (pre.length : Int) = x := by rw [e]; exact rd58 pre x r
    simp only [show ((pre.length : Int) < (l.length : Int)) by omega, show (0 : Int) ≤ (pre.length : Int) by omega, if_true, hx]
    rw [wr_succ (m := l.length) hlen (by omega), blw, wr (x := acc + x.f1) (by omega) (by omega)]
    by_cases c : x.f0 ≤ s
    · simp only [c, if_true]
      have h := ih (pre ++ [x]) (acc + x.f1) (by rw [e]; simp) (by omega) (by simp; omega)
      rw [show (pre ++ [x]).length = pre.length + 1 by simp, Int.add_assoc] at h
      exact h
    · simp only [c, if_false, Int.zero_add]
      have h := ih (pre ++ [x]) acc (by rw [e]; simp) (by omega) (by simp; omega)
      rw [show (pre ++ [x]).length = pre.length + 1 by simp] at h
      exact h
theorem ref_below (l : List S58) (s : Int) (hl : l.length ≤ 1000) (hm : ∀ x ∈ l, 1 ≤ x.f1 ∧ x.f1 ≤ 100) : Ev (fun k => verditerref01_below.f k l s) (blw l s) := by
  have h := ref_below_l l s hl hm l [] 0 rfl (by omega) (by simp)
  rw [Int.zero_add] at h
  exact h
theorem wash_mass_l (l : List S58) (hl : l.length ≤ 1000) (hm : ∀ x ∈ l, 1 ≤ x.f1 ∧ x.f1 ≤ 100) : ∀ (rest pre : List S58) (acc : Int), l = pre ++ rest → 0 ≤ acc → acc ≤ 100 * pre.length →
    Ev (fun k => wash_mass.l0 k acc l (l.length : Int) (pre.length : Int)) (acc + sm rest) := by
  intro rest
  induction rest with
  | nil =>
    intro pre acc e _ _
    refine Ev.step (fun k => by rw [wash_mass.l0]) ?_
    simp only [show ¬ ((pre.length : Int) < (l.length : Int)) by rw [e]; simp, if_false, sm, Int.add_zero]
    exact Ev.now _
  | cons x r ih =>
    intro pre acc e h0 h1
    have hlen : pre.length < l.length := by rw [e]; simp
    have hx1 := hm x (by rw [e]; simp)
    refine Ev.step (fun k => by rw [wash_mass.l0]) ?_
    have hx : rd_T58 l (pre.length : Int) = x := by rw [e]; exact rd58 pre x r
    simp only [show ((pre.length : Int) < (l.length : Int)) by omega, show (0 : Int) ≤ (pre.length : Int) by omega, if_true, hx]
    rw [wr_succ (m := l.length) hlen (by omega), sm, wr (x := acc + x.f1) (by omega) (by omega)]
    have h := ih (pre ++ [x]) (acc + x.f1) (by rw [e]; simp) (by omega) (by simp; omega)
    rw [show (pre ++ [x]).length = pre.length + 1 by simp, Int.add_assoc] at h
    exact h
theorem wash_mass_ev (l : List S58) (hl : l.length ≤ 1000) (hm : ∀ x ∈ l, 1 ≤ x.f1 ∧ x.f1 ≤ 100) : Ev (fun k => wash_mass.f k l) (sm l) := by
  have h := wash_mass_l l hl hm l [] 0 rfl (by omega) (by simp)
  rw [Int.zero_add] at h
  exact h
theorem wash_upTo_l (l : List S58) (s : Int) (hl : l.length ≤ 1000) : ∀ (rest pre : List S58), l = pre ++ rest →
    Ev (fun k => wash_upTo.l0 k l s (pre.length : Int)) ((pre.length + (rest.takeWhile fun x => decide (x.f0 ≤ s)).length : Nat) : Int) := by
  intro rest
  induction rest with
  | nil =>
    intro pre e
    refine Ev.step (fun k => by rw [wash_upTo.l0]) ?_
    simp only [show ¬ ((pre.length : Int) < (l.length : Int)) by rw [e]; simp, if_false]
    exact Ev.now _
  | cons x r ih =>
    intro pre e
    have hlen : pre.length < l.length := by rw [e]; simp
    refine Ev.step (fun k => by rw [wash_upTo.l0]) ?_
    have hx : rd_T58 l (pre.length : Int) = x := by rw [e]; exact rd58 pre x r
    simp only [show ((pre.length : Int) < (l.length : Int)) by omega, show (0 : Int) ≤ (pre.length : Int) by omega, if_true, hx]
    rw [wr_succ (m := l.length) hlen (by omega), List.takeWhile_cons]
    by_cases c : x.f0 ≤ s
    · simp only [c, decide_true, if_true, List.length_cons]
      have h := ih (pre ++ [x]) (by rw [e]; simp)
      rw [show (pre ++ [x]).length = pre.length + 1 by simp] at h
      rw [show pre.length + ((r.takeWhile fun x => decide (x.f0 ≤ s)).length + 1) = pre.length + 1 + (r.takeWhile fun x => decide (x.f0 ≤ s)).length by omega]
      exact h
    · simp only [c, decide_false, if_false, Bool.false_eq_true, List.length_nil, Nat.add_zero]
      exact Ev.now _
theorem wash_upTo_ev (l : List S58) (s : Int) (hl : l.length ≤ 1000) : Ev (fun k => wash_upTo.f k l s) ((l.takeWhile fun x => decide (x.f0 ≤ s)).length : Int) := by
  have h := wash_upTo_l l s hl l [] rfl
  unfold wash_upTo.f
  simpa using h
theorem take_take_while (l : List S58) (p : S58 → Bool) : l.take (l.takeWhile p).length = l.takeWhile p := by
  exact (List.prefix_iff_eq_take.1 (List.takeWhile_prefix p)).symm

theorem Valid.small {l : List S58} (h : Valid l) : l.length ≤ 1000 ∧ ∀ x ∈ l, 1 ≤ x.f1 ∧ x.f1 ≤ 100 :=
  ⟨by have := h.1; omega, fun x hx => by have := h.2.mass x hx; omega⟩
theorem ref_Mass (l : List S58) : Ev (fun k => verditerref01_Mass.f k l) (if vld l = 0 then (sm l, 0) else (0, vld l)) := by
  unfold verditerref01_Mass.f
  refine Ev.bind (ref_vld l) ?_
  by_cases c : vld l = 0
  · simp only [c, if_true]
    have hv := (vld_zero l).1 c
    refine Ev.bind (ref_below l 20 hv.small.1 hv.small.2) ?_
    rw [blw_all l 20 (fun x hx => (hv.2.mass x hx).2.1)]
    exact Ev.now _
  · simp only [c, if_false]
    exact Ev.now _
theorem ref_Below (l : List S58) (s : Int) : Ev (fun k => verditerref01_Below.f k l s) (if vld l = 0 then (blw l s, 0) else (0, vld l)) := by
  unfold verditerref01_Below.f
  refine Ev.bind (ref_vld l) ?_
  by_cases c : vld l = 0
  · simp only [c, if_true]
    have hv := (vld_zero l).1 c
    refine Ev.bind (ref_below l s hv.small.1 hv.small.2) ?_
    exact Ev.now _
  · simp only [c, if_false]
    exact Ev.now _
theorem wash_Mass_ev (l : List S58) : Ev (fun k => wash_Mass.f k l) (if vld l = 0 then (sm l, 0) else (0, vld l)) := by
  unfold wash_Mass.f
  refine Ev.bind (wash_vld l) ?_
  by_cases c : vld l = 0
  · simp only [c, if_true]
    have hv := (vld_zero l).1 c
    refine Ev.bind (wash_mass_ev l hv.small.1 hv.small.2) ?_
    exact Ev.now _
  · simp only [c, if_false]
    exact Ev.now _
theorem wash_Below_ev (l : List S58) (s : Int) : Ev (fun k => wash_Below.f k l s) (if vld l = 0 then (blw l s, 0) else (0, vld l)) := by
  unfold wash_Below.f
  refine Ev.bind (wash_vld l) ?_
  by_cases c : vld l = 0
  · simp only [c, if_true]
    have hv := (vld_zero l).1 c
    refine Ev.bind (wash_upTo_ev l s hv.small.1) ?_
    have hle : (l.takeWhile fun x => decide (x.f0 ≤ s)).length ≤ l.length := (List.takeWhile_sublist _).length_le
    simp only [show (0 : Int) ≤ ((l.takeWhile fun x => decide (x.f0 ≤ s)).length : Int) by omega, show ((l.takeWhile fun x => decide (x.f0 ≤ s)).length : Int) ≤ (l.length : Int) by omega, if_true, Int.toNat_natCast, take_take_while]
    rw [← sm_take_while l 0 s hv.2]
    refine Ev.bind (wash_mass_ev _ (by have := hv.1; omega) (fun x hx => hv.small.2 x ((List.takeWhile_sublist _).mem hx))) ?_
    exact Ev.now _
  · simp only [c, if_false]
    exact Ev.now _

/-! ### what the program answers to the document's example -/
theorem known_ev : Ev (fun k => verditerlaw01_known.f k) true := Ev.of verditerlaw01_known.mono (k := 60) (by decide +kernel)
end Go.Proofs.Ytbckhllkjlgbpaa.P
