/- Lots as tables of masses by size: what spreading and collecting give, sums, moves; plain facts of lists of numbers, no conditions beyond those that each theorem names. -/
import Derived.Test.YtbckhllkjlgbpaaSm
import Derived.Test.YtbckhllkjlgbpaaSpread
namespace Go.Proofs.Ytbckhllkjlgbpaa.P
open Go.RowKit Go.Proofs.YtbckhllkjlgbpaaW.PrintWords

/-- The masses of the sizes from n on, of d sizes, of grains that ascend. -/
def tb : Nat → Nat → List S58 → List Int
  | _, 0, _ => []
  | n, d + 1, [] => 0 :: tb (n + 1) d []
  | n, d + 1, x :: r => if x.f0 = (n : Int) then x.f1 :: tb (n + 1) d r else 0 :: tb (n + 1) d (x :: r)
theorem tb_length : ∀ (d n : Nat) (l : List S58), (tb n d l).length = d
  | 0, _, _ => by rw [tb]; rfl
  | d + 1, n, [] => by rw [tb, List.length_cons, tb_length d]
  | d + 1, n, x :: r => by
    rw [tb]
    split <;> rw [List.length_cons, tb_length d]
theorem tb_nil : ∀ (d n : Nat), tb n d [] = List.replicate d 0
  | 0, _ => rfl
  | d + 1, n => by rw [tb, tb_nil d, List.replicate_succ]
theorem tb_skip (d n : Nat) (l : List S58) (h : ∀ x ∈ l, (n : Int) < x.f0) : tb n (d + 1) l = 0 :: tb (n + 1) d l := by
  cases l with
  | nil => rw [tb]
  | cons x r => rw [tb, if_neg (by have := h x (List.mem_cons_self ..); omega)]
theorem spr_tb : ∀ (d n : Nat) (l : List S58) (pre : List Int), pre.length = n → n + d = 21 → Srt ((n : Int) - 1) l → spr l (pre ++ List.replicate d 0) = pre ++ tb n d l
  | 0, n, [], pre, _, _, _ => by rw [spr, tb]; rfl
  | 0, n, x :: r, pre, _, hn, hs => by
    have := hs.1
    have := hs.2.1
    omega
  | d + 1, n, [], pre, _, _, _ => by rw [spr, tb_nil]
  | d + 1, n, x :: r, pre, hp, hn, hs => by
    by_cases c : x.f0 = (n : Int)
    · rw [spr, tb, if_pos c]
      have e : (pre ++ List.replicate (d + 1) (0 : Int)).set x.f0.toNat x.f1 = (pre ++ [x.f1]) ++ List.replicate d 0 := by
        rw [c, Int.toNat_natCast, List.replicate_succ, List.set_append_right _ _ (by omega), hp, Nat.sub_self, List.set_cons_zero]
        simp
      rw [e, spr_tb d (n + 1) r (pre ++ [x.f1]) (by simp [hp]) (by omega) (hs.2.2.2.2.low (by omega))]
      simp
    · rw [tb, if_neg c]
      have e : pre ++ List.replicate (d + 1) (0 : Int) = (pre ++ [0]) ++ List.replicate d 0 := by
        rw [List.replicate_succ]
        simp
      have h2 : Srt (((n + 1 : Nat) : Int) - 1) (x :: r) := ⟨by have := hs.1; omega, hs.2⟩
      rw [e, spr_tb d (n + 1) (x :: r) (pre ++ [0]) (by simp [hp]) (by omega) h2]
      simp
/-- The table of a lot. -/
def T (l : List S58) : List Int := spr l zeros21
theorem T_eq {l : List S58} (hv : Valid l) : T l = tb 0 21 l := spr_tb 21 0 l [] rfl rfl (hv.2.low (by omega))
theorem T_length (l : List S58) : (T l).length = 21 := by
  rw [T, spr_length]
  rfl
theorem T_range {l : List S58} (hv : Valid l) : ∀ v ∈ T l, 0 ≤ v ∧ v ≤ 100 := spr_range l _ (fun x hx => by have := hv.2.mass x hx; omega) zeros21_range
theorem col_tb : ∀ (d n : Nat) (l : List S58), n + d = 21 → Srt ((n : Int) - 1) l → col n (tb n d l) = l
  | 0, n, [], _, _ => by rw [tb, col]
  | 0, n, x :: r, hn, hs => by
    have := hs.1
    have := hs.2.1
    omega
  | d + 1, n, [], hn, _ => by
    rw [tb, col, if_neg (by omega), col_tb d (n + 1) [] (by omega) trivial]
  | d + 1, n, x :: r, hn, hs => by
    by_cases c : x.f0 = (n : Int)
    · rw [tb, if_pos c, col, if_pos (by have := hs.2.2.1; omega), col_tb d (n + 1) r (by omega) (hs.2.2.2.2.low (by omega)), ← c]
    · rw [tb, if_neg c, col, if_neg (by omega), col_tb d (n + 1) (x :: r) (by omega) ⟨by have := hs.1; omega, hs.2⟩]
theorem col_T {l : List S58} (hv : Valid l) : col 0 (T l) = l := by
  rw [T_eq hv]
  exact col_tb 21 0 l rfl (hv.2.low (by omega))
theorem col_low : ∀ (m : List Int) (n : Nat), ∀ x ∈ col n m, (n : Int) ≤ x.f0
  | [], _, x, hx => by rw [col] at hx; cases hx
  | v :: r, n, x, hx => by
    rw [col] at hx
    split at hx
    · rcases List.mem_cons.1 hx with rfl | hx
      · exact Int.le_refl _
      · have := col_low r (n + 1) x hx
        omega
    · have := col_low r (n + 1) x hx
      omega
theorem tb_col : ∀ (m : List Int) (n : Nat), (∀ v ∈ m, 0 ≤ v) → tb n m.length (col n m) = m
  | [], _, _ => by rw [List.length_nil, tb]
  | v :: r, n, h => by
    have hv := h v (List.mem_cons_self ..)
    have ih := tb_col r (n + 1) (fun u hu => h u (List.mem_cons_of_mem _ hu))
    rw [List.length_cons, col]
    by_cases c : v > 0
    · rw [if_pos c, tb, if_pos rfl, ih]
    · rw [if_neg c, tb_skip _ _ _ (fun x hx => by have := col_low r (n + 1) x hx; omega), ih, show v = 0 by omega]
theorem T_col {m : List Int} (hl : m.length = 21) (h : ∀ v ∈ m, 0 ≤ v) (hv : Valid (col 0 m)) : T (col 0 m) = m := by
  rw [T_eq hv, ← hl]
  exact tb_col m 0 h
theorem blw_tb : ∀ (d n : Nat) (l : List S58) (s : Nat), n + d = 21 → Srt ((n : Int) - 1) l → n ≤ s + 1 → s < 21 → blw l s = ((tb n d l).take (s + 1 - n)).sum
  | 0, n, l, s, hn, hs, h1, h2 => by
    rw [tb, List.take_nil, blw_none l s (fun x hx => by have := hs.mass x hx; omega)]
    rfl
  | d + 1, n, [], s, hn, hs, h1, h2 => by
    rw [tb_nil, blw]
    simp
  | d + 1, n, x :: r, s, hn, hs, h1, h2 => by
    by_cases c0 : s + 1 = n
    · rw [show s + 1 - n = 0 by omega, List.take_zero, blw_none _ s (fun y hy => by have := hs.mass y hy; omega)]
      rfl
    · have e : s + 1 - n = (s + 1 - (n + 1)) + 1 := by omega
      by_cases c : x.f0 = (n : Int)
      · rw [tb, if_pos c, e, List.take_succ_cons, List.sum_cons, blw, if_pos (by omega), blw_tb d (n + 1) r s (by omega) (hs.2.2.2.2.low (by omega)) (by omega) h2]
      · rw [tb, if_neg c, e, List.take_succ_cons, List.sum_cons, blw_tb d (n + 1) (x :: r) s (by omega) ⟨by have := hs.1; omega, hs.2⟩ (by omega) h2, Int.zero_add]
theorem blw_T {l : List S58} (hv : Valid l) (s : Nat) (h : s < 21) : blw l s = ((T l).take (s + 1)).sum := by
  rw [T_eq hv]
  exact blw_tb 21 0 l s rfl (hv.2.low (by omega)) (by omega) h
theorem sm_T {l : List S58} (hv : Valid l) : sm l = (T l).sum := by
  rw [← blw_all l 20 (fun x hx => (hv.2.mass x hx).2.1)]
  have := blw_T hv 20 (by omega)
  rw [List.take_of_length_le (by rw [T_length]; omega)] at this
  exact this
/-- The mass of a size. -/
def atm : List S58 → Int → Int
  | [], _ => 0
  | x :: r, i => (if x.f0 = i then x.f1 else 0) + atm r i
theorem atm_none : ∀ (l : List S58) (i : Int), (∀ x ∈ l, x.f0 ≠ i) → atm l i = 0
  | [], _, _ => rfl
  | x :: r, i, h => by
    rw [atm, if_neg (h x (List.mem_cons_self ..)), atm_none r i (fun y hy => h y (List.mem_cons_of_mem _ hy))]
    rfl
theorem tb_at : ∀ (d n : Nat) (l : List S58) (j : Nat), n + d = 21 → Srt ((n : Int) - 1) l → j < d → (tb n d l).getD j 0 = atm l ((n + j : Nat) : Int)
  | 0, n, l, j, _, _, h => by omega
  | d + 1, n, [], j, hn, hs, h => by
    rw [tb_nil, atm]
    simp [h]
  | d + 1, n, x :: r, j, hn, hs, h => by
    by_cases c : x.f0 = (n : Int)
    · rw [tb, if_pos c]
      cases j with
      | zero =>
        rw [List.getD_cons_zero, atm, if_pos (by omega), atm_none r _ (fun y hy => by have := hs.2.2.2.2.mass y hy; omega), Int.add_zero]
      | succ j =>
        rw [List.getD_cons_succ, tb_at d (n + 1) r j (by omega) (hs.2.2.2.2.low (by omega)) (by omega), atm, if_neg (by omega), Int.zero_add, show n + 1 + j = n + (j + 1) by omega]
    · have h2 : Srt (((n + 1 : Nat) : Int) - 1) (x :: r) := ⟨by have := hs.1; omega, hs.2⟩
      rw [tb, if_neg c]
      cases j with
      | zero =>
        rw [List.getD_cons_zero, atm_none _ _ (fun y hy => by have := h2.mass y hy; omega)]
      | succ j =>
        rw [List.getD_cons_succ, tb_at d (n + 1) (x :: r) j (by omega) h2 (by omega), show n + 1 + j = n + (j + 1) by omega]
theorem T_at {l : List S58} (hv : Valid l) (j : Nat) (h : j < 21) : (T l).getD j 0 = atm l (j : Int) := by
  rw [T_eq hv, tb_at 21 0 l j rfl (hv.2.low (by omega)) h, Nat.zero_add]

/-! ### tables against each other -/
/-- Nowhere less lies below. -/
def nn : Int → List Int → List Int → Prop
  | ah, x :: a, y :: b => 0 ≤ ah + (x - y) ∧ nn (ah + (x - y)) a b
  | _, _, _ => True
/-- The sum of what lies more below. -/
def tot : Int → List Int → List Int → Int
  | ah, x :: a, y :: b => (ah + (x - y)) + tot (ah + (x - y)) a b
  | _, _, _ => 0
/-- Sizes times masses. -/
def wsum : Nat → List Int → Int
  | _, [] => 0
  | n, x :: a => (n : Int) * x + wsum (n + 1) a
theorem nn_iff : ∀ (a b : List Int) (ah : Int), a.length = b.length → (nn ah a b ↔ ∀ j < a.length, 0 ≤ ah + (a.take (j + 1)).sum - (b.take (j + 1)).sum)
  | [], [], _, _ => by simp [nn]
  | [], _ :: _, _, h => by simp at h
  | _ :: _, [], _, h => by simp at h
  | x :: a, y :: b, ah, h => by
    have ih := nn_iff a b (ah + (x - y)) (by simpa using h)
    rw [nn, ih]
    constructor
    · intro ⟨h1, h2⟩ j hj
      rw [List.take_succ_cons, List.take_succ_cons, List.sum_cons, List.sum_cons]
      cases j with
      | zero => simp; omega
      | succ j => have := h2 j (by simp at hj; omega); omega
    · intro h1
      refine ⟨?_, fun j hj => ?_⟩
      · have := h1 0 (by simp)
        simp at this
        omega
      · have := h1 (j + 1) (by simp; omega)
        rw [List.take_succ_cons, List.take_succ_cons, List.sum_cons, List.sum_cons] at this
        omega
theorem nn_both : ∀ (a b : List Int), a.length = b.length → nn 0 a b → nn 0 b a → a = b
  | [], [], _, _, _ => rfl
  | [], _ :: _, h, _, _ => by simp at h
  | _ :: _, [], h, _, _ => by simp at h
  | x :: a, y :: b, h, h1, h2 => by
    rw [nn] at h1 h2
    have e : x = y := by omega
    subst e
    rw [show (0 : Int) + (x - x) = 0 by omega] at h1 h2
    rw [nn_both a b (by simpa using h) h1.2 h2.2]
theorem nn_refl : ∀ (a : List Int), nn 0 a a
  | [] => trivial
  | x :: a => by
    rw [nn, show (0 : Int) + (x - x) = 0 by omega]
    exact ⟨by omega, nn_refl a⟩
theorem tot_nonneg : ∀ (a b : List Int) (ah : Int), nn ah a b → 0 ≤ tot ah a b
  | [], _, _, _ => by simp [tot]
  | _ :: _, [], _, _ => by simp [tot]
  | x :: a, y :: b, ah, h => by
    rw [nn] at h
    rw [tot]
    have := tot_nonneg a b _ h.2
    omega
theorem tot_wsum : ∀ (a b : List Int) (ah : Int) (n : Nat), a.length = b.length → tot ah a b + wsum n a - wsum n b = a.length * ah + (n + a.length : Int) * (a.sum - b.sum)
  | [], [], _, _, _ => by simp [tot, wsum]
  | [], _ :: _, _, _, h => by simp at h
  | _ :: _, [], _, _, h => by simp at h
  | x :: a, y :: b, ah, n, h => by
    have ih := tot_wsum a b (ah + (x - y)) (n + 1) (by simpa using h)
    rw [tot, wsum, wsum, List.length_cons, List.sum_cons, List.sum_cons]
    have e : ah + (x - y) + tot (ah + (x - y)) a b + ((n : Int) * x + wsum (n + 1) a) - ((n : Int) * y + wsum (n + 1) b) = ah + (x - y) + (n : Int) * x - (n : Int) * y + (tot (ah + (x - y)) a b + wsum (n + 1) a - wsum (n + 1) b) := by omega
    rw [e, ih]
    push_cast
    simp only [Int.mul_add, Int.add_mul, Int.mul_sub, Int.one_mul]
    omega
theorem sum_take_set : ∀ (m : List Int) (i : Nat) (v : Int) (j : Nat), i < m.length → ((m.set i v).take j).sum = (m.take j).sum + if i < j then v - m.getD i 0 else 0
  | [], i, _, _, h => by simp at h
  | x :: m, 0, v, 0, _ => by simp
  | x :: m, 0, v, j + 1, _ => by
    rw [List.set_cons_zero, List.take_succ_cons, List.take_succ_cons, List.sum_cons, List.sum_cons, if_pos (by omega), List.getD_cons_zero]
    omega
  | x :: m, i + 1, v, 0, _ => by simp
  | x :: m, i + 1, v, j + 1, h => by
    rw [List.set_cons_succ, List.take_succ_cons, List.take_succ_cons, List.sum_cons, List.sum_cons, sum_take_set m i v j (by simpa using h), List.getD_cons_succ]
    by_cases c : i < j
    · rw [if_pos c, if_pos (by omega)]
      omega
    · rw [if_neg c, if_neg (by omega)]
      omega
theorem sum_set (m : List Int) (i : Nat) (v : Int) (h : i < m.length) : (m.set i v).sum = m.sum + (v - m.getD i 0) := by
  have := sum_take_set m i v m.length h
  rw [if_pos h, List.take_of_length_le (by simp), List.take_of_length_le (by simp)] at this
  exact this
theorem wsum_set : ∀ (m : List Int) (n i : Nat) (v : Int), i < m.length → wsum n (m.set i v) = wsum n m + (n + i : Int) * (v - m.getD i 0)
  | [], _, i, _, h => by simp at h
  | x :: m, n, 0, v, _ => by
    rw [List.set_cons_zero, wsum, wsum, List.getD_cons_zero]
    simp only [Int.mul_sub, Int.add_mul, Int.natCast_zero, Int.zero_mul]
    omega
  | x :: m, n, i + 1, v, h => by
    rw [List.set_cons_succ, wsum, wsum, List.getD_cons_succ, wsum_set m (n + 1) i v (by simpa using h)]
    push_cast
    simp only [Int.mul_sub, Int.add_mul, Int.one_mul]
    omega
theorem wsum_tb : ∀ (d n : Nat) (l : List S58), n + d = 21 → Srt ((n : Int) - 1) l → wsum n (tb n d l) = szm l
  | 0, n, [], _, _ => by rw [tb, wsum, szm]
  | 0, n, x :: r, hn, hs => by
    have := hs.1
    have := hs.2.1
    omega
  | d + 1, n, [], hn, _ => by
    rw [tb, wsum, wsum_tb d (n + 1) [] (by omega) trivial]
    omega
  | d + 1, n, x :: r, hn, hs => by
    by_cases c : x.f0 = (n : Int)
    · rw [tb, if_pos c, wsum, szm, wsum_tb d (n + 1) r (by omega) (hs.2.2.2.2.low (by omega)), c]
    · rw [tb, if_neg c, wsum, wsum_tb d (n + 1) (x :: r) (by omega) ⟨by have := hs.1; omega, hs.2⟩]
      omega
theorem wsum_T {l : List S58} (hv : Valid l) : wsum 0 (T l) = szm l := by
  rw [T_eq hv]
  exact wsum_tb 21 0 l rfl (hv.2.low (by omega))
theorem T_zero {l : List S58} (hv : Valid l) : ∃ r, T l = 0 :: r ∧ r.length = 20 := by
  refine ⟨tb 1 20 l, ?_, tb_length _ _ _⟩
  rw [T_eq hv]
  exact tb_skip 20 0 l (fun x hx => (hv.2.mass x hx).1)
end Go.Proofs.Ytbckhllkjlgbpaa.P
