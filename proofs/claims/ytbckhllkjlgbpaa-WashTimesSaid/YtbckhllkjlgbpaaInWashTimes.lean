/- The plain law behind WashTimes: for every list of grains, depth and part the printed law answers true; no conditions beyond the bounds of Go's ints. -/
import Derived.Test.YtbckhllkjlgbpaaMean
import Derived.Test.YtbckhllkjlgbpaaStl
import Derived.Test.YtbckhllkjlgbpaaP25
namespace Go.Proofs.Ytbckhllkjlgbpaa.P
open Go.RowKit Go.Proofs.YtbckhllkjlgbpaaW.PrintWords

/-- What has sunk by a time, of as many parts as the depth. -/
def snk (t dp : Int) : List S58 → Int
  | [] => 0
  | x :: r => x.f1 * sk x t dp + snk t dp r
theorem snk_bound (t dp : Int) (ht : 0 ≤ t ∧ t ≤ 100) (hd : 1 ≤ dp ∧ dp ≤ 20) : ∀ (l : List S58), (∀ x ∈ l, (1 ≤ x.f0 ∧ x.f0 ≤ 20) ∧ 1 ≤ x.f1 ∧ x.f1 ≤ 100) → 0 ≤ snk t dp l ∧ snk t dp l ≤ 2000 * l.length
  | [], _ => by simp [snk]
  | x :: r, h => by
    have h1 := snk_bound t dp ht hd r (fun y hy => h y (List.mem_cons_of_mem _ hy))
    have h2 := h x (List.mem_cons_self ..)
    have hs := sk_bound x t dp h2.1 ht hd
    have h3 := mul_bound ⟨show 0 ≤ x.f1 by omega, h2.2.2⟩ ⟨hs.1, show sk x t dp ≤ 20 by omega⟩
    rw [snk, List.length_cons]
    omega
theorem snk_end (dp : Int) (hd : 1 ≤ dp ∧ dp ≤ 20) : ∀ (l : List S58), (∀ x ∈ l, (1 ≤ x.f0 ∧ x.f0 ≤ 20) ∧ 1 ≤ x.f1 ∧ x.f1 ≤ 100) → snk 20 dp l = sm l * dp
  | [], _ => by simp [snk, sm]
  | x :: r, h => by
    have h2 := h x (List.mem_cons_self ..)
    rw [snk, sm, snk_end dp hd r (fun y hy => h y (List.mem_cons_of_mem _ hy)), Int.add_mul]
    have : sk x 20 dp = dp := by
      unfold sk
      split <;> omega
    rw [this]
/-- Has enough sunk? -/
def cnd (l : List S58) (dp num den t : Int) : Bool := decide (snk t dp l * den ≥ num * sm l * dp)
/-- The first time from t on at which c holds, or the last one. -/
def fnd (c : Int → Bool) : Nat → Int → Int
  | 0, t => t
  | d + 1, t => if c t = true then t else fnd c d (t + 1)
theorem fnd_ge (c : Int → Bool) : ∀ (d : Nat) (t : Int), t ≤ fnd c d t
  | 0, _ => Int.le_refl _
  | d + 1, t => by
    rw [fnd]
    split
    · exact Int.le_refl _
    · have := fnd_ge c d (t + 1)
      omega
theorem fnd_mono (c c' : Int → Bool) : ∀ (d : Nat) (t : Int), 0 ≤ t → t + d ≤ 20 → (∀ s, 0 ≤ s → s ≤ 20 → c s = true → c' s = true) → fnd c' d t ≤ fnd c d t
  | 0, _, _, _, _ => Int.le_refl _
  | d + 1, t, h0, h1, h => by
    rw [fnd, fnd]
    by_cases a : c t = true
    · rw [if_pos a, if_pos (h t h0 (by omega) a)]
      exact Int.le_refl _
    · rw [if_neg a]
      split
      · have := fnd_ge c d (t + 1)
        omega
      · exact fnd_mono c c' d (t + 1) (by omega) (by omega) h
def TA (dp num den : Int) : Prop := 1 ≤ dp ∧ dp ≤ 20 ∧ 1 ≤ den ∧ den ≤ 100 ∧ 0 ≤ num ∧ num ≤ den
instance (dp num den : Int) : Decidable (TA dp num den) := by unfold TA; infer_instance
/-- What Time answers. -/
def tim (l : List S58) (dp num den : Int) : Int × Int := if vld l = 0 then if TA dp num den then (fnd (cnd l dp num den) 20 0, 0) else (0, 1) else (0, vld l)
theorem cnd_end (l : List S58) (dp num den : Int) (hv : Valid l) (h : TA dp num den) : cnd l dp num den 20 = true := by
  have hsm := sm_bound l hv.small.2
  obtain ⟨h1, h2, h3, h4, h5, h6⟩ := h
  unfold cnd
  rw [snk_end dp ⟨h1, h2⟩ l hv.all']
  simp only [decide_eq_true_eq]
  have a1 : 0 ≤ sm l * dp := Int.mul_nonneg hsm.1 (by omega)
  have a2 : num * (sm l * dp) ≤ den * (sm l * dp) := Int.mul_le_mul_of_nonneg_right h6 a1
  rw [Int.mul_assoc num, Int.mul_comm (sm l * dp) den]
  exact a2
theorem wash_Time_l (l : List S58) (dp num den : Int) (hv : Valid l) (h : TA dp num den) : ∀ (d : Nat) (t : Int), 0 ≤ t → t + d = 20 →
    Ev (fun k => wash_Time.l0 k l dp num den t) (fnd (cnd l dp num den) d t, 0) := by
  have hsm := sm_bound l hv.small.2
  have hl6 := hv.1
  have h' := h
  obtain ⟨h1, h2, h3, h4, h5, h6⟩ := h'
  have key : ∀ (d : Nat) (t : Int), 0 ≤ t → t + d = 20 → (cnd l dp num den t = false → Ev (fun k => wash_Time.l0 k l dp num den (wrap64 (t + 1))) (fnd (cnd l dp num den) d t, 0)) →
      (cnd l dp num den t = true → fnd (cnd l dp num den) d t = t) →
      ∀ (rest pre : List S58) (acc : Int), l = pre ++ rest → acc + snk t dp rest = snk t dp l → 0 ≤ acc → acc ≤ 2000 * pre.length → Ev (fun k => wash_Time.l1 k l dp num den t acc l (l.length : Int) (pre.length : Int)) (fnd (cnd l dp num den) d t, 0) := by
    intro d t h0 h20 hno hyes rest
    induction rest with
    | nil =>
      intro pre acc e hacc ha1 ha2
      refine Ev.step (fun k => by rw [wash_Time.l1]) ?_
      have hp : pre.length = l.length := by rw [e]; simp
      simp only [show ¬ ((pre.length : Int) < (l.length : Int)) by omega, if_false]
      refine Ev.bind (wash_mass_ev l hv.small.1 hv.small.2) ?_
      rw [snk, Int.add_zero] at hacc
      have b1 := mul_bound ⟨ha1, show acc ≤ 12000 by omega⟩ ⟨show 0 ≤ den by omega, h4⟩
      have b2 := mul_bound ⟨h5, show num ≤ 100 by omega⟩ ⟨hsm.1, show sm l ≤ 600 by omega⟩
      have b3 := mul_bound b2 ⟨show 0 ≤ dp by omega, h2⟩
      rw [wr (x := acc * den) (by omega) (by omega), wr (x := num * sm l) (by omega) (by omega), wr (x := num * sm l * dp) (by omega) (by omega), hacc]
      by_cases c : snk t dp l * den ≥ num * sm l * dp
      · simp only [c, if_true]
        rw [hyes (by simpa [cnd] using c)]
        exact Ev.now _
      · simp only [c, if_false]
        exact hno (by simpa [cnd] using c)
    | cons x r ih =>
      intro pre acc e hacc ha1 ha2
      have hlen : pre.length < l.length := by rw [e]; simp
      have hx1 := hv.all' x (by rw [e]; simp)
      have hs := sk_bound x t dp hx1.1 ⟨h0, by omega⟩ ⟨h1, h2⟩
      have b1 := mul_bound ⟨show 0 ≤ x.f1 by omega, hx1.2.2⟩ ⟨hs.1, show sk x t dp ≤ 20 by omega⟩
      refine Ev.step (fun k => by rw [wash_Time.l1]) ?_
      have hx : rd_T58 l (pre.length : Int) = x := by rw [e]; exact rd58 pre x r
      simp only [show ((pre.length : Int) < (l.length : Int)) by omega, show (0 : Int) ≤ (pre.length : Int) by omega, if_true, hx, sk_mn x t dp hx1.1 ⟨h0, by omega⟩]
      rw [wr_succ (m := l.length) hlen (by omega), wr (x := x.f1 * sk x t dp) (by omega) (by omega), wr (x := acc + x.f1 * sk x t dp) (by omega) (by omega)]
      have h := ih (pre ++ [x]) (acc + x.f1 * sk x t dp) (by rw [e]; simp) (by rw [← hacc, snk]; omega) (by omega) (by simp; omega)
      rw [show (pre ++ [x]).length = pre.length + 1 by simp] at h
      exact h
  intro d
  induction d with
  | zero =>
    intro t h0 h20
    obtain rfl : t = 20 := by omega
    refine Ev.step (fun k => by rw [wash_Time.l0]) ?_
    exact key 0 20 h0 h20 (fun c => by rw [cnd_end l dp num den hv h] at c; cases c) (fun _ => rfl) l [] 0 rfl (by omega) (by omega) (by simp)
  | succ d ih =>
    intro t h0 h20
    refine Ev.step (fun k => by rw [wash_Time.l0]) ?_
    refine key (d + 1) t h0 h20 (fun c => ?_) (fun c => by rw [fnd, if_pos c]) l [] 0 rfl (by omega) (by omega) (by simp)
    rw [fnd, if_neg (by rw [c]; decide), wr (x := t + 1) (by omega) (by omega)]
    exact ih (t + 1) (by omega) (by omega)
theorem wash_Time_ev (l : List S58) (dp num den : Int) : Ev (fun k => wash_Time.f k l dp num den) (tim l dp num den) := by
  unfold wash_Time.f tim
  refine Ev.bind (wash_vld l) ?_
  by_cases c : vld l = 0
  case neg =>
    simp only [c, if_false]
    exact Ev.now _
  have hv := (vld_zero l).1 c
  have bad : ¬ TA dp num den → Ev (fun k => wash_Time.j0 k l dp num den true) (0, 1) := fun _ => by
    refine Ev.step (fun k => by rw [wash_Time.j0]) ?_
    simp only [if_true]
    exact Ev.now _
  simp only [c, if_true, isTime, Option.bind_some, decide_eq_true_eq]
  by_cases h : TA dp num den
  · have h' := h
    obtain ⟨h1, h2, h3, h4, h5, h6⟩ := h'
    simp only [show (0 ≤ (0 : Int) ∧ (0 : Int) ≤ 100 ∧ 1 ≤ dp ∧ dp ≤ 20) by omega, and_self, if_true, show ¬ (den < 1) by omega, show ¬ (den > 100) by omega, show ¬ (num < 0) by omega, if_false, show ¬ (num > den) by omega, decide_false, h]
    refine Ev.step (fun k => by rw [wash_Time.j0]) ?_
    simp only [Bool.false_eq_true, if_false]
    exact wash_Time_l l dp num den hv h 20 0 (by omega) (by omega)
  · simp only [h, if_false]
    by_cases c1 : 0 ≤ (0 : Int) ∧ (0 : Int) ≤ 100 ∧ 1 ≤ dp ∧ dp ≤ 20
    case neg => simp only [c1, if_false]; exact bad h
    simp only [c1, and_self, if_true]
    by_cases c2 : den < 1
    case pos => simp only [c2, if_true]; exact bad h
    simp only [c2, if_false]
    by_cases c3 : den > 100
    case pos => simp only [c3, if_true]; exact bad h
    simp only [c3, if_false]
    by_cases c4 : num < 0
    case pos => simp only [c4, if_true]; exact bad h
    simp only [c4, if_false]
    have c5 : num > den := by unfold TA at h; omega
    simp only [c5, decide_true]
    exact bad h
theorem ref_Time_l (l : List S58) (dp num den : Int) (hv : Valid l) (h : TA dp num den) : ∀ (d : Nat) (t : Int), 0 ≤ t → t + d = 20 →
    Ev (fun k => verditerref01_Time.l0 k l dp num den t) (fnd (cnd l dp num den) d t, 0) := by
  have hsm := sm_bound l hv.small.2
  have hl6 := hv.1
  have h' := h
  obtain ⟨h1, h2, h3, h4, h5, h6⟩ := h'
  have key : ∀ (d : Nat) (t : Int), 0 ≤ t → t + d = 20 → (cnd l dp num den t = false → Ev (fun k => verditerref01_Time.l0 k l dp num den (wrap64 (t + 1))) (fnd (cnd l dp num den) d t, 0)) →
      (cnd l dp num den t = true → fnd (cnd l dp num den) d t = t) →
      ∀ (rest pre : List S58) (acc : Int), l = pre ++ rest → acc + snk t dp rest = snk t dp l → 0 ≤ acc → acc ≤ 2000 * pre.length → Ev (fun k => verditerref01_Time.l1 k l dp num den t acc (pre.length : Int)) (fnd (cnd l dp num den) d t, 0) := by
    intro d t h0 h20 hno hyes rest
    induction rest with
    | nil =>
      intro pre acc e hacc ha1 ha2
      refine Ev.step (fun k => by rw [verditerref01_Time.l1]) ?_
      have hp : pre.length = l.length := by rw [e]; simp
      simp only [show ¬ ((pre.length : Int) < (l.length : Int)) by omega, if_false]
      refine Ev.bind (ref_below l 20 hv.small.1 hv.small.2) ?_
      rw [blw_all l 20 (fun x hx => (hv.2.mass x hx).2.1)]
      rw [snk, Int.add_zero] at hacc
      have b1 := mul_bound ⟨ha1, show acc ≤ 12000 by omega⟩ ⟨show 0 ≤ den by omega, h4⟩
      have b2 := mul_bound ⟨h5, show num ≤ 100 by omega⟩ ⟨hsm.1, show sm l ≤ 600 by omega⟩
      have b3 := mul_bound b2 ⟨show 0 ≤ dp by omega, h2⟩
      rw [wr (x := acc * den) (by omega) (by omega), wr (x := num * sm l) (by omega) (by omega), wr (x := num * sm l * dp) (by omega) (by omega), hacc]
      by_cases c : snk t dp l * den ≥ num * sm l * dp
      · simp only [c, if_true]
        rw [hyes (by simpa [cnd] using c)]
        exact Ev.now _
      · simp only [c, if_false]
        exact hno (by simpa [cnd] using c)
    | cons x r ih =>
      intro pre acc e hacc ha1 ha2
      have hlen : pre.length < l.length := by rw [e]; simp
      have hx1 := hv.all' x (by rw [e]; simp)
      have hs := sk_bound x t dp hx1.1 ⟨h0, by omega⟩ ⟨h1, h2⟩
      have b1 := mul_bound ⟨show 0 ≤ x.f1 by omega, hx1.2.2⟩ ⟨hs.1, show sk x t dp ≤ 20 by omega⟩
      refine Ev.step (fun k => by rw [verditerref01_Time.l1]) ?_
      have hx : rd_T58 l (pre.length : Int) = x := by rw [e]; exact rd58 pre x r
      simp only [show ((pre.length : Int) < (l.length : Int)) by omega, show (0 : Int) ≤ (pre.length : Int) by omega, if_true, hx, sinks_ev x t dp hx1.1 ⟨h0, by omega⟩, Option.bind_some]
      rw [wr_succ (m := l.length) hlen (by omega), wr (x := x.f1 * sk x t dp) (by omega) (by omega), wr (x := acc + x.f1 * sk x t dp) (by omega) (by omega)]
      have h := ih (pre ++ [x]) (acc + x.f1 * sk x t dp) (by rw [e]; simp) (by rw [← hacc, snk]; omega) (by omega) (by simp; omega)
      rw [show (pre ++ [x]).length = pre.length + 1 by simp] at h
      exact h
  intro d
  induction d with
  | zero =>
    intro t h0 h20
    obtain rfl : t = 20 := by omega
    refine Ev.step (fun k => by rw [verditerref01_Time.l0]) ?_
    exact key 0 20 h0 h20 (fun c => by rw [cnd_end l dp num den hv h] at c; cases c) (fun _ => rfl) l [] 0 rfl (by omega) (by omega) (by simp)
  | succ d ih =>
    intro t h0 h20
    refine Ev.step (fun k => by rw [verditerref01_Time.l0]) ?_
    refine key (d + 1) t h0 h20 (fun c => ?_) (fun c => by rw [fnd, if_pos c]) l [] 0 rfl (by omega) (by omega) (by simp)
    rw [fnd, if_neg (by rw [c]; decide), wr (x := t + 1) (by omega) (by omega)]
    exact ih (t + 1) (by omega) (by omega)
theorem ref_Time_ev (l : List S58) (dp num den : Int) : Ev (fun k => verditerref01_Time.f k l dp num den) (tim l dp num den) := by
  unfold verditerref01_Time.f tim
  refine Ev.bind (ref_vld l) ?_
  by_cases c : vld l = 0
  case neg =>
    simp only [c, if_false]
    exact Ev.now _
  have hv := (vld_zero l).1 c
  have bad : ¬ TA dp num den → Ev (fun k => verditerref01_Time.j0 k l dp num den true) (0, 1) := fun _ => by
    refine Ev.step (fun k => by rw [verditerref01_Time.j0]) ?_
    simp only [if_true]
    exact Ev.now _
  simp only [c, if_true, settling, within, Option.bind_some, decide_eq_true_eq]
  by_cases c1 : TOk 0 dp
  case neg =>
    have h : ¬ TA dp num den := fun h => c1 ⟨by omega, by omega, h.1, h.2.1⟩
    simp only [c1, h, if_false]
    exact bad h
  simp only [c1, if_true]
  by_cases c2 : 1 ≤ den ∧ den ≤ 100
  case neg =>
    have h : ¬ TA dp num den := fun h => c2 ⟨h.2.2.1, h.2.2.2.1⟩
    simp only [c2, h, if_false]
    exact bad h
  simp only [c2, and_self, if_true]
  by_cases c3 : 0 ≤ num ∧ num ≤ den
  case neg =>
    have h : ¬ TA dp num den := fun h => c3 h.2.2.2.2
    simp only [c3, h, if_false, decide_false, Bool.not_false]
    exact bad h
  have h : TA dp num den := ⟨c1.2.2.1, c1.2.2.2, c2.1, c2.2, c3.1, c3.2⟩
  simp only [c3, and_self, decide_true, Bool.not_true, h, if_true]
  refine Ev.step (fun k => by rw [verditerref01_Time.j0]) ?_
  simp only [Bool.false_eq_true, if_false]
  exact ref_Time_l l dp num den hv h 20 0 (by omega) (by omega)
theorem in_WashTimes (l : List S58) (dp num den : Int) (_ : l.length * 16 ≤ 140737488351232) (_ : ∀ x ∈ l, Ok58 x) (_ : OkInt dp) (hn : OkInt num) (_ : OkInt den) : Ev (fun k => verditerlaw01_washTimes.f k l dp num den) true := by
  unfold verditerlaw01_washTimes.f verditerlaw01_Long.f
  simp only [Option.bind_some, decide_eq_true_eq]
  by_cases c : (l.length : Int) > 40
  · simp only [c, if_true]
    exact Ev.bind known_ev (Ev.now _)
  · simp only [c, if_false]
    refine Ev.bind (ref_Time_ev l dp num den) (Ev.bind (wash_Time_ev l dp num den) ?_)
    simp only [if_true, bne_self_eq_false]
    refine Ev.step (fun k => by rw [verditerlaw01_washTimes.j0]) ?_
    simp only [Bool.false_eq_true, if_false]
    have stop : Ev (fun k => verditerlaw01_washTimes.j1 k l dp (tim l dp num den).1 true num den) true := by
      refine Ev.step (fun k => by rw [verditerlaw01_washTimes.j1]) ?_
      simp only [if_true]
      exact Ev.bind known_ev (Ev.now _)
    by_cases c1 : (tim l dp num den).2 = 0
    case neg => simp only [c1, if_false]; exact stop
    simp only [c1, if_true]
    by_cases c2 : num = 0
    case pos => subst c2; simp only [beq_self_eq_true]; exact stop
    rw [show (num == 0) = false by simpa using c2]
    refine Ev.step (fun k => by rw [verditerlaw01_washTimes.j1]) ?_
    simp only [Bool.false_eq_true, if_false]
    by_cases hv0 : vld l = 0
    case neg => exact absurd c1 (by unfold tim; rw [if_neg hv0]; exact hv0)
    by_cases h : TA dp num den
    case neg => exact absurd c1 (by unfold tim; rw [if_pos hv0, if_neg h]; decide)
    have hv := (vld_zero l).1 hv0
    have h' : TA dp (num - 1) den := ⟨h.1, h.2.1, h.2.2.1, h.2.2.2.1, by have := h.2.2.2.2.1; omega, by have := h.2.2.2.2.2; omega⟩
    have hnum := h.2.2.2.2
    have hden := h.2.2.2.1
    rw [wr (x := num - 1) (by omega) (by omega)]
    refine Ev.bind (wash_Time_ev l dp (num - 1) den) ?_
    have e1 : tim l dp num den = (fnd (cnd l dp num den) 20 0, 0) := by unfold tim; rw [if_pos hv0, if_pos h]
    have e2 : tim l dp (num - 1) den = (fnd (cnd l dp (num - 1) den) 20 0, 0) := by unfold tim; rw [if_pos hv0, if_pos h']
    have hle : fnd (cnd l dp (num - 1) den) 20 0 ≤ fnd (cnd l dp num den) 20 0 := by
      refine fnd_mono _ _ 20 0 (by omega) (by omega) (fun s _ _ hs => ?_)
      unfold cnd at hs ⊢
      simp only [decide_eq_true_eq] at hs ⊢
      have hsm := sm_bound l hv.small.2
      have a0 : 0 ≤ sm l * dp := Int.mul_nonneg hsm.1 (by have := h.1; omega)
      have a1 : (num - 1) * sm l * dp ≤ num * sm l * dp := by
        rw [Int.mul_assoc, Int.mul_assoc]
        exact Int.mul_le_mul_of_nonneg_right (by omega) a0
      omega
    rw [e1, e2]
    simp only [if_true, hle]
    exact Ev.bind known_ev (Ev.now _)
end Go.Proofs.Ytbckhllkjlgbpaa.P
