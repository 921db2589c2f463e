/- Rows of slices whose cells up to the capacity are told: what the laws' Keep and Kept look at; no conditions. -/
import Derived.Test.YtdneelgnmnpanaaP0
namespace Go.Proofs.Ytdneelgnmnpanaa.P
open Go.RowKit Go.Proofs.YtdneelgnmnpanaaW.PrintWords Go.Proofs.YtdneelgnmnpanaaW.PrintLast Go.Proofs.YtdneelgnmnpanaaW.PrintMore
/-- A slice of any length, with all its cells up to the capacity. -/
def Full.kd : Kd (List Int) where
  sz := 1
  E := []
  K := fun w xs cs => ∃ A n, cs = [.slice A n xs.length] ∧ n ≤ xs.length ∧ Kd.C (Kd.int .i64) w A xs.length xs
  M := fun _ _ _ _ _ => False
  K_len := by
    rintro w x cs ⟨A, c, rfl, _⟩
    rfl
  K_one := by
    rintro w x cs ⟨A, c, rfl, _⟩ u hu
    rw [List.mem_singleton.1 hu]
    rfl
  K_below := by
    rintro w w1 x cs hb ⟨A, c, rfl, hl, hr⟩
    exact ⟨A, c, rfl, hl, Kd.C_below hr hb⟩
  K_of_M := fun h => h.elim
  M_mono := fun _ h => h
  M_bound := fun h => h
  M_move := fun _ h => h
  M_lower := fun _ h => h
theorem Full.at_ {w : World} {A : Option Addr} {n : Nat} {xs : List (List Int)} (h : Kd.C Full.kd w A n xs) (i : Int) (h0 : 0 ≤ i) (h1 : i < n) : ∃ ad A0 c0, A = some ad ∧ w.cell? (ad.add i.toNat) = some (.slice A0 c0 (rd_L1 xs i).length) ∧ c0 ≤ (rd_L1 xs i).length ∧ Kd.C (Kd.int .i64) w A0 (rd_L1 xs i).length (rd_L1 xs i) := by
  obtain ⟨ad, c, e, _, hK, hc0⟩ := Kd.C_get h ([] : List Int) i h0 h1
  obtain ⟨A0, c0, rfl, hl, hr⟩ := hK
  have hc : ∀ j u, [Value.slice A0 c0 (rd_L1 xs i).length][j]? = some u → w.cell? (ad.add (i.toNat * 1 + j)) = some u := hc0
  exact ⟨ad, A0, c0, e, by have hq := hc 0 _ rfl; rwa [Nat.mul_one, Nat.add_zero] at hq, hl, hr⟩
end Go.Proofs.Ytdneelgnmnpanaa.P
