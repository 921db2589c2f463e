/- Masses of lots and sizes times masses: plain facts, no conditions beyond those that each theorem names. -/
import Derived.Test.YtbckhllkjlgbpaaVld
import Derived.Test.YtbckhllkjlgbpaaRat
namespace Go.Proofs.Ytbckhllkjlgbpaa.P
open Go.RowKit Go.Proofs.YtbckhllkjlgbpaaW.PrintWords

/-- Sizes times masses. -/
def szm : List S58 → Int
  | [] => 0
  | x :: r => x.f0 * x.f1 + szm r
theorem Valid.all' {l : List S58} (h : Valid l) : ∀ x ∈ l, (1 ≤ x.f0 ∧ x.f0 ≤ 20) ∧ 1 ≤ x.f1 ∧ x.f1 ≤ 100 := fun x hx => by have := h.2.mass x hx; omega
theorem szm_bound : ∀ (l : List S58), (∀ x ∈ l, (1 ≤ x.f0 ∧ x.f0 ≤ 20) ∧ 1 ≤ x.f1 ∧ x.f1 ≤ 100) → 0 ≤ szm l ∧ szm l ≤ 2000 * l.length
  | [], _ => by simp [szm]
  | x :: r, h => by
    have h1 := szm_bound r (fun y hy => h y (List.mem_cons_of_mem _ hy))
    have h2 := h x (List.mem_cons_self ..)
    have h3 := mul_bound ⟨show 0 ≤ x.f0 by omega, h2.1.2⟩ ⟨show 0 ≤ x.f1 by omega, h2.2.2⟩
    rw [szm, List.length_cons]
    omega
theorem sm_pos : ∀ (l : List S58), (∀ x ∈ l, 1 ≤ x.f1 ∧ x.f1 ≤ 100) → l ≠ [] → 1 ≤ sm l
  | [], _, h => absurd rfl h
  | x :: r, h, _ => by
    have h1 := blw_bound r 0 (fun y hy => h y (List.mem_cons_of_mem _ hy))
    have h2 := h x (List.mem_cons_self ..)
    rw [sm]
    omega
theorem sm_bound (l : List S58) (h : ∀ x ∈ l, 1 ≤ x.f1 ∧ x.f1 ≤ 100) : 0 ≤ sm l ∧ sm l ≤ 100 * l.length := by
  have := blw_bound l 0 h
  omega
end Go.Proofs.Ytbckhllkjlgbpaa.P
