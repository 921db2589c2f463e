/- Fractions in lowest terms: what the program's ratio and the reference's Ratio answer, for numbers from 0 on over numbers above 0, and how such fractions multiply and add. -/
import Derived.Test.YtbckhllkjlgbpaaBase
import Derived.Test.YtbckhllkjlgbpaaPa
namespace Go.Proofs.Ytbckhllkjlgbpaa.P
open Go.RowKit Go.Proofs.YtbckhllkjlgbpaaW.PrintWords

/-- n/d in lowest terms. -/
def red (n d : Int) : Int × Int := (n / (Int.gcd n d : Int), d / (Int.gcd n d : Int))

theorem tmod_nat (a b : Nat) : Int.tmod (a : Int) (b : Int) = ((a % b : Nat) : Int) := by
  rw [Int.tmod_eq_emod_of_nonneg (by omega)]
  rfl
theorem gcd_step (a b : Nat) : Nat.gcd (a % b) b = Nat.gcd b a := (Nat.gcd_rec b a).symm

theorem ref_gcd_l : ∀ (b a : Nat), Ev (fun k => verditerref01_gcd.l0 k (a : Int) (b : Int)) ((Nat.gcd b a : Nat) : Int) := by
  intro b
  induction b using Nat.strongRecOn with
  | ind b ih =>
    intro a
    refine Ev.step (fun k => by rw [verditerref01_gcd.l0]) ?_
    by_cases c : b = 0
    · subst c
      simp only [show ((0 : Nat) : Int) = 0 from rfl, if_true, Nat.gcd_zero_left]
      exact Ev.now _
    · simp only [show ¬ ((b : Int) = 0) by omega, if_false]
      rw [tmod_nat, ← gcd_step]
      exact ih (a % b) (Nat.mod_lt _ (by omega)) b
theorem wash_ratio_l (n d : Int) (hn : 0 ≤ n ∧ n ≤ 9223372036854775807) (hd : 1 ≤ d ∧ d ≤ 9223372036854775807) : ∀ (b a : Nat), (Nat.gcd b a = Int.gcd n d) →
    Ev (fun k => wash_ratio.l0 k n d (a : Int) (b : Int)) (red n d) := by
  intro b
  induction b using Nat.strongRecOn with
  | ind b ih =>
    intro a hg
    refine Ev.step (fun k => by rw [wash_ratio.l0]) ?_
    by_cases c : b = 0
    · subst c
      rw [Nat.gcd_zero_left] at hg
      have hpos : 0 < Int.gcd n d := Int.gcd_pos_of_ne_zero_right _ (by omega)
      simp only [show ((0 : Nat) : Int) = 0 from rfl, if_true, show ¬ ((a : Int) = 0) by omega, if_false]
      have h1 : ∀ x : Int, 0 ≤ x → x ≤ 9223372036854775807 → wrap64 (Int.tdiv x (a : Int)) = x / (Int.gcd n d : Int) := by
        intro x h0 h1
        rw [Int.tdiv_eq_ediv_of_nonneg h0, hg]
        have h2 : 0 ≤ x / (Int.gcd n d : Int) := Int.ediv_nonneg h0 (by omega)
        have h3 : x / (Int.gcd n d : Int) ≤ x := Int.ediv_le_self _ h0
        exact wr (by omega) (by omega)
      rw [h1 n hn.1 hn.2, h1 d (by omega) hd.2]
      exact Ev.now _
    · simp only [show ¬ ((b : Int) = 0) by omega, if_false]
      rw [tmod_nat]
      exact ih (a % b) (Nat.mod_lt _ (by omega)) b (by rw [gcd_step]; exact hg)
theorem ratio_ev (n d : Int) (hn : 0 ≤ n ∧ n ≤ 9223372036854775807) (hd : 1 ≤ d ∧ d ≤ 9223372036854775807) : Ev (fun k => wash_ratio.f k n d) (red n d) := by
  obtain ⟨a, rfl⟩ := Int.eq_ofNat_of_zero_le hn.1
  obtain ⟨b, rfl⟩ := Int.eq_ofNat_of_zero_le (show 0 ≤ d by omega)
  exact wash_ratio_l _ _ hn hd b a (by rw [Nat.gcd_comm]; rfl)
theorem Ratio_ev (n d : Int) (hn : 0 ≤ n ∧ n ≤ 9223372036854775807) (hd : 1 ≤ d ∧ d ≤ 9223372036854775807) : Ev (fun k => verditerref01_Ratio.f k n d) (red n d) := by
  unfold verditerref01_Ratio.f
  rw [wr (x := -n) (by omega) (by omega)]
  have hm : mx n (-n) = n := by unfold mx; split <;> omega
  rw [hm]
  obtain ⟨a, rfl⟩ := Int.eq_ofNat_of_zero_le hn.1
  obtain ⟨b, rfl⟩ := Int.eq_ofNat_of_zero_le (show 0 ≤ d by omega)
  refine Ev.bind (ref_gcd_l b a) ?_
  have hg : Nat.gcd b a = Int.gcd (a : Int) (b : Int) := by rw [Nat.gcd_comm]; rfl
  have hpos : 0 < Int.gcd (a : Int) (b : Int) := Int.gcd_pos_of_ne_zero_right _ (by omega)
  rw [hg]
  simp only [show ¬ (((Int.gcd (a : Int) (b : Int) : Nat) : Int) = 0) by omega, if_false]
  have h1 : ∀ x : Int, 0 ≤ x → x ≤ 9223372036854775807 → wrap64 (Int.tdiv x ((Int.gcd (a : Int) (b : Int) : Nat) : Int)) = x / ((Int.gcd (a : Int) (b : Int) : Nat) : Int) := by
    intro x h0 h1
    rw [Int.tdiv_eq_ediv_of_nonneg h0]
    have h2 : 0 ≤ x / ((Int.gcd (a : Int) (b : Int) : Nat) : Int) := Int.ediv_nonneg h0 (by omega)
    have h3 : x / ((Int.gcd (a : Int) (b : Int) : Nat) : Int) ≤ x := Int.ediv_le_self _ h0
    exact wr (by omega) (by omega)
  rw [h1 _ hn.1 hn.2, h1 _ (by omega) hd.2]
  exact Ev.now _

/-! ### lowest terms -/
theorem red_mul (c n d : Int) (hc : 0 < c) : red (c * n) (c * d) = red n d := by
  unfold red
  rw [Int.gcd_mul_left, Int.natCast_mul, Int.natAbs_of_nonneg (by omega), Int.mul_ediv_mul_of_pos _ _ hc, Int.mul_ediv_mul_of_pos _ _ hc]
theorem red_parts (n d : Int) (hn : 0 ≤ n) (hd : 0 < d) : ∃ g : Int, 0 < g ∧ n = g * (red n d).1 ∧ d = g * (red n d).2 ∧ 0 ≤ (red n d).1 ∧ 0 < (red n d).2 := by
  have hpos : 0 < Int.gcd n d := Int.gcd_pos_of_ne_zero_right _ (by omega)
  have h1 : n = (Int.gcd n d : Int) * (n / (Int.gcd n d : Int)) := (Int.mul_ediv_cancel' (Int.gcd_dvd_left ..)).symm
  have h2 : d = (Int.gcd n d : Int) * (d / (Int.gcd n d : Int)) := (Int.mul_ediv_cancel' (Int.gcd_dvd_right ..)).symm
  refine ⟨(Int.gcd n d : Int), by omega, h1, h2, Int.ediv_nonneg hn (by omega), ?_⟩
  have h3 : 0 ≤ d / (Int.gcd n d : Int) := Int.ediv_nonneg (by omega) (by omega)
  have h4 : d / (Int.gcd n d : Int) ≠ 0 := by
    intro h0
    rw [h0, Int.mul_zero] at h2
    omega
  show 0 < d / (Int.gcd n d : Int)
  omega
theorem red_bound (n d : Int) (hn : 0 ≤ n) (hd : 0 < d) : 0 ≤ (red n d).1 ∧ (red n d).1 ≤ n ∧ 1 ≤ (red n d).2 ∧ (red n d).2 ≤ d := by
  obtain ⟨g, hg, h1, h2, h3, h4⟩ := red_parts n d hn hd
  refine ⟨h3, ?_, by omega, ?_⟩
  · exact Int.ediv_le_self _ hn
  · exact Int.ediv_le_self _ (by omega)
/-- A fraction in lowest terms times another one. -/
theorem red_times (n d a b : Int) (hn : 0 ≤ n) (hd : 0 < d) : red ((red n d).1 * a) ((red n d).2 * b) = red (n * a) (d * b) := by
  obtain ⟨g, hg, h1, h2, _, _⟩ := red_parts n d hn hd
  generalize (red n d).1 = p at *
  generalize (red n d).2 = q at *
  rw [h1, h2, Int.mul_assoc, Int.mul_assoc, red_mul _ _ _ hg]
/-- The sum of two fractions in lowest terms of one denominator. -/
theorem red_add (n m d : Int) (hn : 0 ≤ n) (hm : 0 ≤ m) (hd : 0 < d) :
    red ((red n d).1 * (red m d).2 + (red m d).1 * (red n d).2) ((red n d).2 * (red m d).2) = red (n + m) d := by
  obtain ⟨g, hg, h1, h2, _, _⟩ := red_parts n d hn hd
  obtain ⟨h, hh, k1, k2, _, _⟩ := red_parts m d hm hd
  generalize hp : (red n d).1 = p at *
  generalize hq : (red n d).2 = q at *
  generalize hr : (red m d).1 = r at *
  generalize hs : (red m d).2 = s at *
  rw [← red_mul (g * h) _ _ (Int.mul_pos hg hh), ← red_mul d (n + m) d hd]
  have e1 : g * h * (p * s + r * q) = d * (n + m) := by
    have a1 : g * h * (p * s + r * q) = (g * p) * (h * s) + (h * r) * (g * q) := by grind
    rw [a1, ← h1, ← k2, ← k1, ← h2]
    grind
  have e2 : g * h * (q * s) = d * d := by
    have a1 : g * h * (q * s) = (g * q) * (h * s) := by grind
    rw [a1, ← h2, ← k2]
  rw [e1, e2]
/-- The sum of two fractions in lowest terms. -/
theorem red_add2 (n d m e : Int) (hn : 0 ≤ n) (hm : 0 ≤ m) (hd : 0 < d) (he : 0 < e) :
    red ((red n d).1 * (red m e).2 + (red m e).1 * (red n d).2) ((red n d).2 * (red m e).2) = red (n * e + m * d) (d * e) := by
  obtain ⟨g, hg, h1, h2, _, _⟩ := red_parts n d hn hd
  obtain ⟨h, hh, k1, k2, _, _⟩ := red_parts m e hm he
  generalize hp : (red n d).1 = p at *
  generalize hq : (red n d).2 = q at *
  generalize hr : (red m e).1 = r at *
  generalize hs : (red m e).2 = s at *
  rw [← red_mul (g * h) _ _ (Int.mul_pos hg hh)]
  have e1 : g * h * (p * s + r * q) = n * e + m * d := by
    have a1 : g * h * (p * s + r * q) = (g * p) * (h * s) + (h * r) * (g * q) := by grind
    rw [a1, ← h1, ← k2, ← k1, ← h2]
  have e2 : g * h * (q * s) = d * e := by
    have a1 : g * h * (q * s) = (g * q) * (h * s) := by grind
    rw [a1, ← h2, ← k2]
  rw [e1, e2]

theorem mul_bound {a b A B : Int} (ha : 0 ≤ a ∧ a ≤ A) (hb : 0 ≤ b ∧ b ≤ B) : 0 ≤ a * b ∧ a * b ≤ A * B :=
  ⟨Int.mul_nonneg ha.1 hb.1, Int.mul_le_mul ha.2 hb.2 hb.1 (by omega)⟩
theorem Add_ev (a b c d : Int) (ha : 0 ≤ a ∧ a ≤ 1000000000) (hb : 1 ≤ b ∧ b ≤ 1000000000) (hc : 0 ≤ c ∧ c ≤ 1000000000) (hd : 1 ≤ d ∧ d ≤ 1000000000) :
    Ev (fun k => verditerref01_Add.f k a b c d) (red (a * d + c * b) (b * d)) := by
  have h1 := mul_bound ha ⟨show 0 ≤ d by omega, hd.2⟩
  have h2 := mul_bound hc ⟨show 0 ≤ b by omega, hb.2⟩
  have h3 := mul_bound ⟨show 0 ≤ b by omega, hb.2⟩ ⟨show 0 ≤ d by omega, hd.2⟩
  have h4 : 0 < b * d := Int.mul_pos (by omega) (by omega)
  unfold verditerref01_Add.f
  rw [wr (x := a * d) (by omega) (by omega), wr (x := c * b) (by omega) (by omega), wr (x := b * d) (by omega) (by omega), wr (x := a * d + c * b) (by omega) (by omega)]
  exact Ev.bind (Ratio_ev _ _ ⟨by omega, by omega⟩ ⟨by omega, by omega⟩) (Ev.now _)
theorem isTime (t d : Int) : wash_isTime.f t d = some (decide (0 ≤ t ∧ t ≤ 100 ∧ 1 ≤ d ∧ d ≤ 20)) := by
  unfold wash_isTime.f
  by_cases h1 : t ≥ 0 <;> by_cases h2 : t ≤ 100 <;> by_cases h3 : d ≥ 1 <;> simp [h1, h2, h3] <;> omega
end Go.Proofs.Ytbckhllkjlgbpaa.P
