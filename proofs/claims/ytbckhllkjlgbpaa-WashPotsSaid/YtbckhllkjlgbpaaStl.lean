/- Grains that settle: what the printed functions pour, settle, lefts, Settle and Wash of the program, and Settle and Wash of the reference, answer, as fractions in lowest terms. -/
import Derived.Test.YtbckhllkjlgbpaaVld
import Derived.Test.YtbckhllkjlgbpaaRat
import Derived.Test.YtbckhllkjlgbpaaPd
import Derived.Test.YtbckhllkjlgbpaaPr
namespace Go.Proofs.Ytbckhllkjlgbpaa.P
open Go.RowKit Go.Proofs.YtbckhllkjlgbpaaW.PrintWords

def mkR (p : Int × Int) : S30 := ⟨p.1, p.2⟩
/-- How many parts of a grain's mass sink, of as many as the depth. -/
def sk (x : S58) (t dp : Int) : Int := if x.f0 * t < dp then x.f0 * t else dp
theorem sk_bound (x : S58) (t dp : Int) (hx : 1 ≤ x.f0 ∧ x.f0 ≤ 20) (ht : 0 ≤ t ∧ t ≤ 100) (hd : 1 ≤ dp ∧ dp ≤ 20) : 0 ≤ sk x t dp ∧ sk x t dp ≤ dp := by
  have := mul_bound ⟨show 0 ≤ x.f0 by omega, hx.2⟩ ht
  unfold sk
  split <;> omega
theorem sk_mn (x : S58) (t dp : Int) (hx : 1 ≤ x.f0 ∧ x.f0 ≤ 20) (ht : 0 ≤ t ∧ t ≤ 100) : mn (wrap64 (x.f0 * t)) dp = sk x t dp := by
  have := mul_bound ⟨show 0 ≤ x.f0 by omega, hx.2⟩ ht
  rw [wr (by omega) (by omega)]
  unfold mn sk
  split <;> split <;> omega
theorem sk_mn2 (x : S58) (t dp : Int) (hx : 1 ≤ x.f0 ∧ x.f0 ≤ 20) (ht : 0 ≤ t ∧ t ≤ 100) : mn dp (wrap64 (x.f0 * t)) = sk x t dp := by
  have := mul_bound ⟨show 0 ≤ x.f0 by omega, hx.2⟩ ht
  rw [wr (by omega) (by omega)]
  rfl
theorem sinks_ev (x : S58) (t dp : Int) (hx : 1 ≤ x.f0 ∧ x.f0 ≤ 20) (ht : 0 ≤ t ∧ t ≤ 100) : verditerref01_sinks.f x.f0 t dp = some (sk x t dp) := by
  unfold verditerref01_sinks.f
  rw [sk_mn2 x t dp hx ht]
/-- A grain in water: N/D of it is still there. -/
def W (x : S58) (N D : Int) : S107 := ⟨x, mkR (red N D)⟩
theorem rd107 (pre : List S107) (x : S107) (rest : List S107) : rd_T107 (pre ++ x :: rest) (pre.length : Int) = x := by
  simp [rd_T107]

theorem pour_l (l : List S58) (hl : l.length ≤ 1000) (hm : ∀ x ∈ l, 1 ≤ x.f1 ∧ x.f1 ≤ 100) : ∀ (rest pre : List S58) (acc : List S107), l = pre ++ rest → acc.length = pre.length →
    Ev (fun k => wash_pour.l0 k acc l (l.length : Int) (pre.length : Int)) (acc ++ rest.map fun x => W x x.f1 1) := by
  intro rest
  induction rest with
  | nil =>
    intro pre acc e _
    refine Ev.step (fun k => by rw [wash_pour.l0]) ?_
    simp only [show ¬ ((pre.length : Int) < (l.length : Int)) by rw [e]; simp, if_false, List.map_nil, List.append_nil]
    exact Ev.now _
  | cons x r ih =>
    intro pre acc e ha
    have hlen : pre.length < l.length := by rw [e]; simp
    have hx1 := hm x (by rw [e]; simp)
    refine Ev.step (fun k => by rw [wash_pour.l0]) ?_
    have hx : rd_T58 l (pre.length : Int) = x := by rw [e]; exact rd58 pre x r
    simp only [show ((pre.length : Int) < (l.length : Int)) by omega, show (0 : Int) ≤ (pre.length : Int) by omega, if_true, hx]
    refine Ev.bind (ratio_ev x.f1 1 (by omega) (by omega)) ?_
    simp only [show acc.length < 4398046511104 by omega, if_true]
    rw [wr_succ (m := l.length) hlen (by omega)]
    have h := ih (pre ++ [x]) (acc ++ [W x x.f1 1]) (by rw [e]; simp) (by simp [ha])
    rw [show (pre ++ [x]).length = pre.length + 1 by simp, List.append_assoc] at h
    exact h
theorem pour_ev (l : List S58) (hl : l.length ≤ 1000) (hm : ∀ x ∈ l, 1 ≤ x.f1 ∧ x.f1 ≤ 100) : Ev (fun k => wash_pour.f k l) (l.map fun x => W x x.f1 1) := by
  have h := pour_l l hl hm l [] [] rfl rfl
  exact h

theorem lefts_l (L : List S107) (hl : L.length ≤ 1000) : ∀ (rest pre : List S107) (acc : List S30), L = pre ++ rest → acc.length = pre.length →
    Ev (fun k => wash_lefts.l0 k acc L (L.length : Int) (pre.length : Int)) (acc ++ rest.map fun x => x.f1) := by
  intro rest
  induction rest with
  | nil =>
    intro pre acc e _
    refine Ev.step (fun k => by rw [wash_lefts.l0]) ?_
    simp only [show ¬ ((pre.length : Int) < (L.length : Int)) by rw [e]; simp, if_false, List.map_nil, List.append_nil]
    exact Ev.now _
  | cons x r ih =>
    intro pre acc e ha
    have hlen : pre.length < L.length := by rw [e]; simp
    refine Ev.step (fun k => by rw [wash_lefts.l0]) ?_
    have hx : rd_T107 L (pre.length : Int) = x := by rw [e]; exact rd107 pre x r
    simp only [show ((pre.length : Int) < (L.length : Int)) by omega, show (0 : Int) ≤ (pre.length : Int) by omega, if_true, hx, show acc.length < 8796093022208 by omega]
    rw [wr_succ (m := L.length) hlen (by omega)]
    have h := ih (pre ++ [x]) (acc ++ [x.f1]) (by rw [e]; simp) (by simp [ha])
    rw [show (pre ++ [x]).length = pre.length + 1 by simp, List.append_assoc] at h
    exact h
theorem lefts_ev (l : List S58) (N : S58 → Int) (D : Int) (hl : l.length ≤ 1000) : Ev (fun k => wash_lefts.f k (l.map fun x => W x (N x) D)) (l.map fun x => mkR (red (N x) D)) := by
  have h := lefts_l (l.map fun x => W x (N x) D) (by simpa using hl) (l.map fun x => W x (N x) D) [] [] rfl rfl
  rw [List.nil_append, List.map_map] at h
  exact h

theorem settle_l (t dp : Int) (ht : 0 ≤ t ∧ t ≤ 100) (hdp : 1 ≤ dp ∧ dp ≤ 20) (N : S58 → Int) (D : Int) (hD : 1 ≤ D ∧ D ≤ 1000000000) (n : Nat) (hn : n ≤ 1000) :
    ∀ (rest : List S58) (pre : List S107) (acc : List S30), pre.length + rest.length = n → acc.length = pre.length → (∀ x ∈ rest, (1 ≤ x.f0 ∧ x.f0 ≤ 20) ∧ 0 ≤ N x ∧ N x ≤ 1000000000) →
    Ev (fun k => wash_settle.l0 k (pre ++ rest.map fun x => W x (N x) D) t dp acc (n : Int) (pre.length : Int))
      (acc ++ rest.map (fun x => mkR (red (N x * sk x t dp) (D * dp))), pre ++ rest.map fun x => W x (N x * (dp - sk x t dp)) (D * dp)) := by
  intro rest
  induction rest with
  | nil =>
    intro pre acc e _ _
    refine Ev.step (fun k => by rw [wash_settle.l0]) ?_
    simp only [show ¬ ((pre.length : Int) < (n : Int)) by simp at e; omega, if_false, List.map_nil, List.append_nil]
    exact Ev.now _
  | cons x r ih =>
    intro pre acc e ha hr
    obtain ⟨hx0, hN⟩ := hr x (List.mem_cons_self ..)
    have hlen : pre.length < n := by simp at e; omega
    refine Ev.step (fun k => by rw [wash_settle.l0]) ?_
    have hx : rd_T107 (pre ++ (x :: r).map fun x => W x (N x) D) (pre.length : Int) = W x (N x) D := rd107 pre _ _
    have hlen2 : (pre.length : Int) < ((pre ++ (x :: r).map fun x => W x (N x) D).length : Int) := by simp; omega
    simp only [show ((pre.length : Int) < (n : Int)) by omega, show (0 : Int) ≤ (pre.length : Int) by omega, hlen2, if_true, hx]
    have hb := red_bound (N x) D hN.1 (by omega)
    have hs := sk_bound x t dp hx0 ht hdp
    have e1 : (W x (N x) D).f1.f0 = (red (N x) D).1 := rfl
    have e2 : (W x (N x) D).f1.f1 = (red (N x) D).2 := rfl
    have e3 : (W x (N x) D).f0 = x := rfl
    simp only [e1, e2, e3, sk_mn x t dp hx0 ht]
    have m1 := mul_bound ⟨hb.1, show (red (N x) D).1 ≤ 1000000000 by omega⟩ ⟨hs.1, show sk x t dp ≤ 20 by omega⟩
    have m2 := mul_bound ⟨hb.1, show (red (N x) D).1 ≤ 1000000000 by omega⟩ ⟨show 0 ≤ dp - sk x t dp by omega, show dp - sk x t dp ≤ 20 by omega⟩
    have m3 := mul_bound ⟨show 0 ≤ (red (N x) D).2 by omega, show (red (N x) D).2 ≤ 1000000000 by omega⟩ ⟨show 0 ≤ dp by omega, hdp.2⟩
    have m4 : 0 < (red (N x) D).2 * dp := Int.mul_pos (by omega) (by omega)
    rw [wr (x := dp - sk x t dp) (by omega) (by omega), wr (x := (red (N x) D).1 * sk x t dp) (by omega) (by omega), wr (x := (red (N x) D).1 * (dp - sk x t dp)) (by omega) (by omega), wr (x := (red (N x) D).2 * dp) (by omega) (by omega)]
    refine Ev.bind (ratio_ev _ _ ⟨by omega, by omega⟩ ⟨by omega, by omega⟩) ?_
    simp only [show acc.length < 8796093022208 by omega, if_true]
    refine Ev.bind (ratio_ev _ _ ⟨by omega, by omega⟩ ⟨by omega, by omega⟩) ?_
    rw [wr_succ (m := n) hlen (by omega), red_times _ _ _ _ hN.1 (by omega), red_times _ _ _ _ hN.1 (by omega)]
    have h := ih (pre ++ [W x (N x * (dp - sk x t dp)) (D * dp)]) (acc ++ [mkR (red (N x * sk x t dp) (D * dp))]) (by simp at e ⊢; omega) (by simp [ha]) (fun y hy => hr y (List.mem_cons_of_mem _ hy))
    rw [show (pre ++ [W x (N x * (dp - sk x t dp)) (D * dp)]).length = pre.length + 1 by simp, List.append_assoc, List.append_assoc, List.append_assoc] at h
    have hset : (pre ++ (x :: r).map fun x => W x (N x) D).set (pre.length : Int).toNat (W x (N x * (dp - sk x t dp)) (D * dp)) = pre ++ ([W x (N x * (dp - sk x t dp)) (D * dp)] ++ r.map fun x => W x (N x) D) := by simp
    have hset' : (pre ++ (x :: r).map fun x => W x (N x) D).set (pre.length : Int).toNat (⟨⟨x.f0, x.f1⟩, ⟨(red (N x * (dp - sk x t dp)) (D * dp)).1, (red (N x * (dp - sk x t dp)) (D * dp)).2⟩⟩ : S107) = pre ++ ([W x (N x * (dp - sk x t dp)) (D * dp)] ++ r.map fun x => W x (N x) D) := hset
    rw [hset']
    exact h
theorem settle_ev (l : List S58) (t dp : Int) (ht : 0 ≤ t ∧ t ≤ 100) (hdp : 1 ≤ dp ∧ dp ≤ 20) (N : S58 → Int) (D : Int) (hD : 1 ≤ D ∧ D ≤ 1000000000) (hl : l.length ≤ 1000) (hr : ∀ x ∈ l, (1 ≤ x.f0 ∧ x.f0 ≤ 20) ∧ 0 ≤ N x ∧ N x ≤ 1000000000) :
    Ev (fun k => wash_settle.f k (l.map fun x => W x (N x) D) t dp) (l.map (fun x => mkR (red (N x * sk x t dp) (D * dp))), l.map fun x => W x (N x * (dp - sk x t dp)) (D * dp)) := by
  have h := settle_l t dp ht hdp N D hD l.length hl l [] [] (by simp) rfl hr
  unfold wash_settle.f
  simpa using h

/-- A time and a depth that are right. -/
def TOk (t dp : Int) : Prop := 0 ≤ t ∧ t ≤ 100 ∧ 1 ≤ dp ∧ dp ≤ 20
instance (t dp : Int) : Decidable (TOk t dp) := by unfold TOk; infer_instance
theorem Valid.all {l : List S58} (h : Valid l) : ∀ x ∈ l, (1 ≤ x.f0 ∧ x.f0 ≤ 20) ∧ 1 ≤ x.f1 ∧ x.f1 ≤ 100 := fun x hx => by have := h.2.mass x hx; omega
/-- What Settle answers. -/
def stl (l : List S58) (t dp : Int) : List S30 × List S30 × Int :=
  if vld l = 0 then if TOk t dp then (l.map fun x => mkR (red (x.f1 * sk x t dp) dp), l.map fun x => mkR (red (x.f1 * (dp - sk x t dp)) dp), 0) else ([], [], 1) else ([], [], vld l)
theorem wash_Settle_ev (l : List S58) (t dp : Int) : Ev (fun k => wash_Settle.f k l t dp) (stl l t dp) := by
  unfold wash_Settle.f stl
  refine Ev.bind (wash_vld l) ?_
  by_cases c : vld l = 0
  · simp only [c, if_true, isTime, Option.bind_some, decide_eq_true_eq]
    have hv := (vld_zero l).1 c
    by_cases c2 : TOk t dp
    · simp only [show (0 ≤ t ∧ t ≤ 100 ∧ 1 ≤ dp ∧ dp ≤ 20) from c2, and_self, if_true, c2]
      refine Ev.bind (pour_ev l hv.small.1 hv.small.2) ?_
      refine Ev.bind (settle_ev l t dp ⟨c2.1, c2.2.1⟩ c2.2.2 (fun x => x.f1) 1 (by omega) hv.small.1 (fun x hx => by have := hv.all x hx; omega)) ?_
      refine Ev.bind (lefts_ev l (fun x => x.f1 * (dp - sk x t dp)) (1 * dp) hv.small.1) ?_
      simp only [Int.one_mul]
      exact Ev.now _
    · simp only [show ¬ (0 ≤ t ∧ t ≤ 100 ∧ 1 ≤ dp ∧ dp ≤ 20) from c2, if_false, c2]
      exact Ev.now _
  · simp only [c, if_false]
    exact Ev.now _

theorem settling (t d : Int) : verditerref01_settling.f t d = some (decide (TOk t d)) := by
  unfold verditerref01_settling.f TOk
  simp only [within, Option.bind_some, decide_eq_true_eq]
  by_cases h : 0 ≤ t ∧ t ≤ 100
  · simp [h]
  · simp only [h, if_false]
    exact congrArg some (decide_eq_false (by omega)).symm
theorem ref_Settle_l (l : List S58) (t dp : Int) (hl : l.length ≤ 1000) (hm : ∀ x ∈ l, (1 ≤ x.f0 ∧ x.f0 ≤ 20) ∧ 1 ≤ x.f1 ∧ x.f1 ≤ 100) (ht : TOk t dp) : ∀ (rest pre : List S58) (a b : List S30), l = pre ++ rest → a.length = pre.length → b.length = pre.length →
    Ev (fun k => verditerref01_Settle.l0 k l t dp a b (pre.length : Int)) (a ++ rest.map (fun x => mkR (red (x.f1 * sk x t dp) dp)), b ++ rest.map (fun x => mkR (red (x.f1 * (dp - sk x t dp)) dp)), 0) := by
  intro rest
  induction rest with
  | nil =>
    intro pre a b e _ _
    refine Ev.step (fun k => by rw [verditerref01_Settle.l0]) ?_
    simp only [show ¬ ((pre.length : Int) < (l.length : Int)) by rw [e]; simp, if_false, List.map_nil, List.append_nil]
    exact Ev.now _
  | cons x r ih =>
    intro pre a b e ha hb
    have hlen : pre.length < l.length := by rw [e]; simp
    have hx1 := hm x (by rw [e]; simp)
    refine Ev.step (fun k => by rw [verditerref01_Settle.l0]) ?_
    have hx : rd_T58 l (pre.length : Int) = x := by rw [e]; exact rd58 pre x r
    simp only [show ((pre.length : Int) < (l.length : Int)) by omega, show (0 : Int) ≤ (pre.length : Int) by omega, if_true, hx, sinks_ev x t dp hx1.1 ⟨ht.1, ht.2.1⟩, Option.bind_some]
    have hs := sk_bound x t dp hx1.1 ⟨ht.1, ht.2.1⟩ ht.2.2
    have ht2 := ht.2.2
    have m1 := mul_bound ⟨show 0 ≤ x.f1 by omega, hx1.2.2⟩ ⟨hs.1, show sk x t dp ≤ 20 by omega⟩
    have m2 := mul_bound ⟨show 0 ≤ x.f1 by omega, hx1.2.2⟩ ⟨show 0 ≤ dp - sk x t dp by omega, show dp - sk x t dp ≤ 20 by omega⟩
    rw [wr (x := dp - sk x t dp) (by omega) (by omega), wr (x := x.f1 * sk x t dp) (by omega) (by omega), wr (x := x.f1 * (dp - sk x t dp)) (by omega) (by omega)]
    refine Ev.bind (Ratio_ev _ _ ⟨by omega, by omega⟩ ⟨by omega, by omega⟩) ?_
    simp only [show a.length < 8796093022208 by omega, if_true]
    refine Ev.bind (Ratio_ev _ _ ⟨by omega, by omega⟩ ⟨by omega, by omega⟩) ?_
    simp only [show b.length < 8796093022208 by omega, if_true]
    rw [wr_succ (m := l.length) hlen (by omega)]
    have h := ih (pre ++ [x]) (a ++ [mkR (red (x.f1 * sk x t dp) dp)]) (b ++ [mkR (red (x.f1 * (dp - sk x t dp)) dp)]) (by rw [e]; simp) (by simp [ha]) (by simp [hb])
    rw [show (pre ++ [x]).length = pre.length + 1 by simp, List.append_assoc, List.append_assoc] at h
    exact h
theorem ref_Settle_ev (l : List S58) (t dp : Int) : Ev (fun k => verditerref01_Settle.f k l t dp) (stl l t dp) := by
  unfold verditerref01_Settle.f stl
  refine Ev.bind (ref_vld l) ?_
  by_cases c : vld l = 0
  · simp only [c, if_true, settling, Option.bind_some, decide_eq_true_eq]
    have hv := (vld_zero l).1 c
    by_cases c2 : TOk t dp
    · simp only [if_true, c2]
      have h := ref_Settle_l l t dp hv.small.1 hv.all c2 l [] [] [] rfl rfl rfl
      exact h
    · simp only [if_false, c2]
      exact Ev.now _
  · simp only [c, if_false]
    exact Ev.now _

/-! ### several settlings -/
theorem pow_bound (y : Int) (hy : 0 ≤ y ∧ y ≤ 20) : ∀ j : Nat, 0 ≤ y ^ j ∧ y ^ j ≤ 20 ^ j
  | 0 => by simp
  | j + 1 => by
    have h := mul_bound (pow_bound y hy j) hy
    rw [Int.pow_succ, Int.pow_succ]
    exact h
theorem pow_20 : ∀ j : Nat, j ≤ 4 → (20 : Int) ^ j ≤ 160000
  | 0, _ => by decide
  | 1, _ => by decide
  | 2, _ => by decide
  | 3, _ => by decide
  | 4, _ => by decide
  | j + 5, h => by omega
theorem pow_small (y : Int) (hy : 0 ≤ y ∧ y ≤ 20) (j : Nat) (hj : j ≤ 4) : 0 ≤ y ^ j ∧ y ^ j ≤ 160000 := by
  have h1 := pow_bound y hy j
  have h2 := pow_20 j hj
  omega
theorem pow_pos' (y : Int) (hy : 0 < y) : ∀ j : Nat, 0 < y ^ j
  | 0 => by simp
  | j + 1 => by
    rw [Int.pow_succ]
    exact Int.mul_pos (pow_pos' y hy j) hy
/-- What Wash answers. -/
def wsh (l : List S58) (t dp n : Int) : List S30 × Int :=
  if vld l = 0 then if TOk t dp ∧ 1 ≤ n ∧ n ≤ 4 then (l.map fun x => mkR (red (x.f1 * (dp - sk x t dp) ^ n.toNat) (dp ^ n.toNat)), 0) else ([], 1) else ([], vld l)
theorem wash_Wash_l (l : List S58) (t dp : Int) (m : Nat) (hm : m ≤ 4) (hv : Valid l) (ht : TOk t dp) : ∀ (d j : Nat), j + d = m →
    Ev (fun k => wash_Wash.l0 k t dp (l.map fun x => W x (x.f1 * (dp - sk x t dp) ^ j) (dp ^ j)) (m : Int) (j : Int)) (l.map (fun x => mkR (red (x.f1 * (dp - sk x t dp) ^ m) (dp ^ m))), 0) := by
  intro d
  induction d with
  | zero =>
    intro j hj
    obtain rfl : j = m := by omega
    refine Ev.step (fun k => by rw [wash_Wash.l0]) ?_
    simp only [Int.lt_irrefl, if_false]
    exact Ev.bind (lefts_ev l (fun x => x.f1 * (dp - sk x t dp) ^ j) (dp ^ j) hv.small.1) (Ev.now _)
  | succ d ih =>
    intro j hj
    refine Ev.step (fun k => by rw [wash_Wash.l0]) ?_
    simp only [show ((j : Int) < (m : Int)) by omega, if_true]
    have hd2 := ht.2.2
    have h1 := pow_small dp ⟨by omega, hd2.2⟩ j (by omega)
    have h2 := pow_pos' dp (by omega) j
    refine Ev.bind (settle_ev l t dp ⟨ht.1, ht.2.1⟩ ht.2.2 (fun x => x.f1 * (dp - sk x t dp) ^ j) (dp ^ j) ⟨by omega, by omega⟩ hv.small.1 (fun x hx => ?_)) ?_
    · have hx1 := hv.all x hx
      have hs := sk_bound x t dp hx1.1 ⟨ht.1, ht.2.1⟩ ht.2.2
      have h3 := mul_bound ⟨show 0 ≤ x.f1 by omega, hx1.2.2⟩ (pow_small (dp - sk x t dp) ⟨by omega, by omega⟩ j (by omega))
      exact ⟨hx1.1, h3.1, by omega⟩
    · rw [wr_succ (m := m) (by omega) (by omega)]
      have h := ih (j + 1) (by omega)
      simp only [Int.pow_succ, ← Int.mul_assoc] at h
      exact h
theorem wash_Wash_ev (l : List S58) (t dp n : Int) : Ev (fun k => wash_Wash.f k l t dp n) (wsh l t dp n) := by
  unfold wash_Wash.f wsh
  refine Ev.bind (wash_vld l) ?_
  by_cases c : vld l = 0
  · simp only [c, if_true, isTime, Option.bind_some, decide_eq_true_eq]
    have hv := (vld_zero l).1 c
    by_cases c2 : TOk t dp
    · simp only [show (0 ≤ t ∧ t ≤ 100 ∧ 1 ≤ dp ∧ dp ≤ 20) from c2, and_self, if_true, c2, true_and]
      by_cases c3 : n < 1
      · simp only [c3, if_true, show ¬ (1 ≤ n ∧ n ≤ 4) by omega, if_false]
        refine Ev.step (fun k => by rw [wash_Wash.j0]) ?_
        simp only [if_true]
        exact Ev.now _
      · simp only [c3, if_false]
        refine Ev.step (fun k => by rw [wash_Wash.j0]) ?_
        by_cases c4 : n > 4
        · simp only [c4, decide_true, if_true, show ¬ (1 ≤ n ∧ n ≤ 4) by omega, if_false]
          exact Ev.now _
        · simp only [c4, decide_false, Bool.false_eq_true, if_false, show (1 ≤ n ∧ n ≤ 4) by omega, and_self, if_true]
          refine Ev.bind (pour_ev l hv.small.1 hv.small.2) ?_
          have h := wash_Wash_l l t dp n.toNat (by omega) hv c2 n.toNat 0 (by omega)
          simp only [Int.pow_zero, Int.mul_one, Int.toNat_of_nonneg (show 0 ≤ n by omega)] at h
          exact h
    · simp only [show ¬ (0 ≤ t ∧ t ≤ 100 ∧ 1 ≤ dp ∧ dp ≤ 20) from c2, if_false, c2, false_and]
      refine Ev.step (fun k => by rw [wash_Wash.j0]) ?_
      simp only [if_true]
      exact Ev.now _
  · simp only [c, if_false]
    exact Ev.now _
theorem ref_Wash_l (l : List S58) (t dp : Int) (m : Nat) (hm : m ≤ 4) (hv : Valid l) (ht : TOk t dp) : ∀ (rest pre : List S58) (acc : List S30), l = pre ++ rest → acc.length = pre.length →
    Ev (fun k => verditerref01_Wash.l0 k l t dp (m : Int) acc (pre.length : Int)) (acc ++ rest.map (fun x => mkR (red (x.f1 * (dp - sk x t dp) ^ m) (dp ^ m))), 0) := by
  intro rest
  induction rest with
  | nil =>
    intro pre acc e _
    refine Ev.step (fun k => by rw [verditerref01_Wash.l0]) ?_
    simp only [show ¬ ((pre.length : Int) < (l.length : Int)) by rw [e]; simp, if_false, List.map_nil, List.append_nil]
    exact Ev.now _
  | cons x r ih =>
    intro pre acc e ha
    have hlen : pre.length < l.length := by rw [e]; simp
    have hx1 := hv.all x (by rw [e]; simp)
    have hsm := hv.small.1
    have hd2 := ht.2.2
    have hs := sk_bound x t dp hx1.1 ⟨ht.1, ht.2.1⟩ ht.2.2
    refine Ev.step (fun k => by rw [verditerref01_Wash.l0]) ?_
    have hx : rd_T58 l (pre.length : Int) = x := by rw [e]; exact rd58 pre x r
    simp only [show ((pre.length : Int) < (l.length : Int)) by omega, show (0 : Int) ≤ (pre.length : Int) by omega, if_true, hx]
    have inner : ∀ (d j : Nat), j + d = m → Ev (fun k => verditerref01_Wash.l1 k l t dp (m : Int) acc (pre.length : Int) (x.f1 * (dp - sk x t dp) ^ j) (dp ^ j) (j : Int)) (acc ++ (x :: r).map (fun x => mkR (red (x.f1 * (dp - sk x t dp) ^ m) (dp ^ m))), 0) := by
      intro d
      induction d with
      | zero =>
        intro j hj
        obtain rfl : j = m := by omega
        refine Ev.step (fun k => by rw [verditerref01_Wash.l1]) ?_
        simp only [Int.lt_irrefl, if_false]
        have h1 := pow_small dp ⟨by omega, hd2.2⟩ j (by omega)
        have h2 := pow_pos' dp (by omega) j
        have h3 := mul_bound ⟨show 0 ≤ x.f1 by omega, hx1.2.2⟩ (pow_small (dp - sk x t dp) ⟨by omega, by omega⟩ j (by omega))
        refine Ev.bind (Ratio_ev _ _ ⟨h3.1, by omega⟩ ⟨by omega, by omega⟩) ?_
        simp only [show acc.length < 8796093022208 by omega, if_true]
        rw [wr_succ (m := l.length) hlen (by omega)]
        have h := ih (pre ++ [x]) (acc ++ [mkR (red (x.f1 * (dp - sk x t dp) ^ j) (dp ^ j))]) (by rw [e]; simp) (by simp [ha])
        rw [show (pre ++ [x]).length = pre.length + 1 by simp, List.append_assoc] at h
        exact h
      | succ d ihd =>
        intro j hj
        refine Ev.step (fun k => by rw [verditerref01_Wash.l1]) ?_
        simp only [show ((j : Int) < (m : Int)) by omega, show ((pre.length : Int) < (l.length : Int)) by omega, show (0 : Int) ≤ (pre.length : Int) by omega, if_true, hx, sinks_ev x t dp hx1.1 ⟨ht.1, ht.2.1⟩, Option.bind_some]
        have h1 := mul_bound (pow_small dp ⟨by omega, hd2.2⟩ j (by omega)) ⟨show 0 ≤ dp by omega, hd2.2⟩
        have h3 := mul_bound ⟨show 0 ≤ x.f1 by omega, hx1.2.2⟩ (pow_small (dp - sk x t dp) ⟨by omega, by omega⟩ j (by omega))
        have h4 := mul_bound h3 ⟨show 0 ≤ dp - sk x t dp by omega, show dp - sk x t dp ≤ 20 by omega⟩
        rw [wr_succ (m := m) (by omega) (by omega), wr (x := dp - sk x t dp) (by omega) (by omega), wr (x := dp ^ j * dp) (by omega) (by omega), wr (x := x.f1 * (dp - sk x t dp) ^ j * (dp - sk x t dp)) (by omega) (by omega)]
        have h := ihd (j + 1) (by omega)
        simp only [Int.pow_succ, ← Int.mul_assoc] at h
        exact h
    have h := inner m 0 (by omega)
    simp only [Int.pow_zero, Int.mul_one] at h
    exact h
theorem ref_Wash_ev (l : List S58) (t dp n : Int) : Ev (fun k => verditerref01_Wash.f k l t dp n) (wsh l t dp n) := by
  unfold verditerref01_Wash.f wsh
  refine Ev.bind (ref_vld l) ?_
  by_cases c : vld l = 0
  · simp only [c, if_true, settling, Option.bind_some, decide_eq_true_eq]
    have hv := (vld_zero l).1 c
    by_cases c2 : TOk t dp
    · simp only [if_true, c2, true_and, within, Option.bind_some]
      refine Ev.step (fun k => by rw [verditerref01_Wash.j0]) ?_
      by_cases c3 : 1 ≤ n ∧ n ≤ 4
      · simp only [c3, and_self, decide_true, Bool.not_true, Bool.false_eq_true, if_false, if_true]
        have h := ref_Wash_l l t dp n.toNat (by omega) hv c2 l [] [] rfl rfl
        rw [Int.toNat_of_nonneg (show 0 ≤ n by omega)] at h
        exact h
      · simp only [c3, decide_false, Bool.not_false, if_true, if_false]
        exact Ev.now _
    · simp only [if_false, c2, false_and]
      refine Ev.step (fun k => by rw [verditerref01_Wash.j0]) ?_
      simp only [if_true]
      exact Ev.now _
  · simp only [c, if_false]
    exact Ev.now _
end Go.Proofs.Ytbckhllkjlgbpaa.P
