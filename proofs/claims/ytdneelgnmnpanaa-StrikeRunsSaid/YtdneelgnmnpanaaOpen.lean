/- What a strike law's arguments hold, as lists: tables whose rows are read up to their capacities, too; no conditions. -/
import Derived.Test.YtdneelgnmnpanaaFull
import Derived.Deep.Slices
import Derived.Deep.Fields
import Derived.ChangeSame
import Derived.ChangeSlices
import Derived.SizedLaws
import Derived.Lib.SmallJoins
namespace Go.Proofs.Ytdneelgnmnpanaa.P
open Go.RowKit Go.Proofs.YtdneelgnmnpanaaW.PrintWords
open Go.ChangeShapes Go.WideShapes Go.Deep
set_option linter.unusedVariables false
set_option linter.unusedSimpArgs false
theorem addr_zero' (ad : Addr) : ad.add 0 = ad := by
  cases ad
  unfold Addr.add
  split <;> simp_all
section
variable {H : Type} {enc : TypeId × Value → H} {w : World} {base : Nat} {held : Bool}
/-- The elements up to the length. -/
theorem C_take {α : Type} {K : Kd α} {a : Option Addr} {L : List α} (n : Nat) (h : Kd.C K w a L.length L) : Kd.C K w a (L.take n).length (L.take n) := by
  refine ⟨rfl, ?_, fun hn => ?_⟩
  · have := h.2.1
    simp
    omega
  · obtain ⟨ad, e, hc⟩ := h.2.2 (by simp at hn; omega)
    refine ⟨ad, e, fun j p hj => ?_⟩
    rw [List.getElem?_take] at hj
    split at hj
    · exact hc j p hj
    · cases hj
/-- A slice of numbers: the row of all its cells up to the capacity. -/
theorem open_row {fuel : Nat} {v : Value} {x : DataW H × List MemPlace} (h : DataW.trod enc Try.prog w base (fun _ => true) held fuel 28 [v] = some x) (hw : ∀ n ∈ x.1.weights Try.prog 28, n ≤ reachBytes) :
    ∃ a n q, v = .slice a n (q : List Int).length ∧ n ≤ q.length ∧ Kd.C (Kd.int .i64) w a q.length q ∧ q.length * 8 ≤ reachBytes := by
  rcases open_ints Try.underlying28 Try.underlying3 (by kernel_rfl) h with ⟨hcs, _⟩ | ⟨x0, l, c, zs, hcs, _, hl, hm, hz, hx, hcell, hwf⟩
  · simp at hcs
    subst hcs
    exact ⟨none, 0, [], rfl, Nat.le_refl _, ⟨rfl, by simp, fun h => absurd h (by simp)⟩, Nat.zero_le _⟩
  · simp at hcs
    subst hcs
    simp only [if_true] at hz
    refine ⟨some x0, l, zs, by rw [hz], by omega, Kd.C_of_reads (d := (0 : Int)) (h1 := fun _ => rfl) ⟨rfl, by unfold maxLen at hm; omega, fun _ => ⟨x0, rfl, fun j hj => hcell j (by omega)⟩⟩, ?_⟩
    subst hx
    have hu : Try.prog.underlying 28 = some (.slice 3) := Try.underlying28
    have hB : Try.prog.bytesOf 3 = 8 := by kernel_rfl
    have := hw (zs.length * 8) (by
      simp only [DataW.weights, hu, hB]
      refine List.mem_cons.2 (.inl ?_)
      simp [lits]
      omega)
    exact this
theorem mem_weightsAll {P : Program} {e : TypeId} {n : Nat} : ∀ {ds : List (DataW H)} {d : DataW H}, d ∈ ds → n ∈ d.weights P e → n ∈ DataW.weightsAll P e ds
  | d0 :: ds, d, hd, hn => by
    rw [DataW.weightsAll]
    rcases List.mem_cons.1 hd with rfl | hd
    · exact List.mem_append_left _ hn
    · exact List.mem_append_right _ (mem_weightsAll hd hn)
/-- A table: its rows, and of each row all cells up to the capacity. -/
theorem open_tab {fuel : Nat} {v : Value} {x : DataW H × List MemPlace} (h : DataW.trod enc Try.prog w base (fun _ => true) held fuel 22 [v] = some x) (hw : ∀ n ∈ x.1.weights Try.prog 22, n ≤ reachBytes) :
    ∃ (a : Option Addr) (L Q : List (List Int)), v = .slice a L.length Q.length ∧ Kd.C (Kd.slice 3 (Kd.int .i64)) w a L.length L ∧ L.length ≤ Q.length ∧ Kd.C Full.kd w a Q.length Q ∧ Q.length * 24 ≤ reachBytes ∧ ∀ q ∈ Q, q.length * 8 ≤ reachBytes := by
  have hu : Try.prog.underlying 22 = some (.slice 28) := Try.underlying22
  rcases open_slice hu h with ⟨hcs, _⟩ | ⟨x0, l, c, m, n, D, Pl, hcs, _, hl, hm, hmm, hx, hi⟩
  · simp at hcs
    subst hcs
    exact ⟨none, [], [], rfl, ⟨rfl, by simp, fun h => absurd h (by simp)⟩, Nat.le_refl _, ⟨rfl, by simp, fun h => absurd h (by simp)⟩, Nat.zero_le _, by simp⟩
  · simp at hcs
    subst hcs
    simp only [if_true] at hmm
    subst hmm
    have hB : Try.prog.bytesOf 28 = 24 := by kernel_rfl
    have hC : Try.prog.cellsOf 28 = 1 := by kernel_rfl
    have hD : ∀ i, i < m → ∀ k ∈ (D i).weights Try.prog 28, k ≤ reachBytes := by
      intro i him k hk
      refine hw k ?_
      rw [hx]
      simp only [DataW.weights, hu]
      refine List.mem_cons_of_mem _ ?_
      by_cases hil : i < l
      · exact List.mem_append_left _ (mem_weightsAll (d := D i) (List.mem_map.2 ⟨i, List.mem_range.2 hil, rfl⟩) hk)
      · exact List.mem_append_right _ (mem_weightsAll (d := D i) (List.mem_map.2 ⟨i - l, List.mem_range.2 (by omega), by rw [show l + (i - l) = i by omega]⟩) hk)
    have hrow : ∀ i, i < m → ∃ (y : Option Addr × Nat × List Int), w.cell? (x0.add i) = some (.slice y.1 y.2.1 y.2.2.length) ∧ y.2.1 ≤ y.2.2.length ∧ Kd.C (Kd.int .i64) w y.1 y.2.2.length y.2.2 ∧ y.2.2.length * 8 ≤ reachBytes := by
      intro i him
      obtain ⟨cs', hc, ht'⟩ := hi i him
      rw [hC] at hc
      obtain ⟨_, hcl, hat⟩ := World.cells?_some hc
      match cs', hcl with
      | [u], _ =>
        obtain ⟨a, n1, q, rfl, h1, h2, h3⟩ := open_row ht' (hD i him)
        have := hat 0 (by omega)
        rw [Nat.mul_one, addr_zero'] at this
        exact ⟨(a, n1, q), this, h1, h2, h3⟩
    obtain ⟨f, hf⟩ : ∃ f : Nat → Option Addr × Nat × List Int, ∀ i, i < m → w.cell? (x0.add i) = some (.slice (f i).1 (f i).2.1 (f i).2.2.length) ∧ (f i).2.1 ≤ (f i).2.2.length ∧ Kd.C (Kd.int .i64) w (f i).1 (f i).2.2.length (f i).2.2 ∧ (f i).2.2.length * 8 ≤ reachBytes := by
      refine ⟨fun i => if h : i < m then (hrow i h).choose else (none, 0, []), fun i hi => ?_⟩
      simp only [hi, dif_pos]
      exact (hrow i hi).choose_spec
    refine ⟨some x0, (List.range l).map fun i => (f i).2.2.take (f i).2.1, (List.range m).map fun i => (f i).2.2, by simp, ⟨rfl, by simp; unfold maxLen at hm; omega, fun _ => ⟨x0, rfl, fun j p hj => ?_⟩⟩, by simpa using hl, ⟨rfl, by simp; unfold maxLen at hm; omega, fun _ => ⟨x0, rfl, fun j p hj => ?_⟩⟩, ?_, fun q hq => ?_⟩
    · obtain ⟨hjm, hp⟩ := List.getElem?_eq_some_iff.1 hj
      simp at hjm hp
      obtain ⟨h1, h2, h3, _⟩ := hf j (by omega)
      subst hp
      have hlen : ((f j).2.2.take (f j).2.1).length = (f j).2.1 := by simp; omega
      refine ⟨[.slice (f j).1 (f j).2.1 (f j).2.2.length], rfl, ⟨(f j).1, (f j).2.2.length, by rw [hlen], by rw [hlen]; exact h2, C_take _ h3⟩, fun i u hu => ?_⟩
      have hi0 : i = 0 := by
        have := (List.getElem?_eq_some_iff.1 hu).1
        simp at this
        omega
      subst hi0
      show w.cell? (x0.add (j * 1 + 0)) = some u
      rw [Nat.mul_one, Nat.add_zero, h1]
      exact hu
    · obtain ⟨hjm, hp⟩ := List.getElem?_eq_some_iff.1 hj
      simp at hjm hp
      obtain ⟨h1, h2, h3, _⟩ := hf j hjm
      subst hp
      refine ⟨[.slice (f j).1 (f j).2.1 (f j).2.2.length], rfl, ⟨(f j).1, (f j).2.1, rfl, h2, h3⟩, fun i u hu => ?_⟩
      have hi0 : i = 0 := by
        have := (List.getElem?_eq_some_iff.1 hu).1
        simp at this
        omega
      subst hi0
      show w.cell? (x0.add (j * 1 + 0)) = some u
      rw [Nat.mul_one, Nat.add_zero, h1]
      exact hu
    · have := hw (m * 24) (by
        rw [hx]
        simp only [DataW.weights, hu, hB]
        refine List.mem_cons.2 (.inl ?_)
        simp
        omega)
      simpa using this
    · obtain ⟨i, hi2, rfl⟩ := List.mem_map.1 hq
      exact (hf i (List.mem_range.1 hi2)).2.2.2
theorem w24 {y0 y1 : DataW H} {n : Nat} (h : n ∈ y0.weights Try.prog 22 ∨ n ∈ y1.weights Try.prog 22) : n ∈ (DataW.agg [y0, y1]).weights Try.prog 24 := by
  have hu := Try.underlying24
  simp only [DataW.weights, hu, List.map_cons, List.map_nil, DataW.weightsEach, List.append_nil, List.mem_append]
  exact h
theorem w30 {y0 y1 y2 : DataW H} {n : Nat} (h : n ∈ y0.weights Try.prog 28 ∨ n ∈ y1.weights Try.prog 28) : n ∈ (DataW.agg [y0, y1, y2]).weights Try.prog 30 := by
  have hu := Try.underlying30
  simp only [DataW.weights, hu, List.map_cons, List.map_nil, DataW.weightsEach, List.append_nil, List.mem_append]
  rcases h with h | h
  · exact .inl h
  · exact .inr (.inl h)
theorem sized_at {ts : List TypeId} {ds : List (DataW H)} {j : Nat} {t : TypeId} {d : DataW H} (hsz : (DataW.weightsEach Try.prog ts ds).all (· ≤ reachBytes) = true) (ht : ts[j]? = some t) (hd : ds[j]? = some d) : ∀ n ∈ d.weights Try.prog t, n ≤ reachBytes := fun n hn => by
  have := List.all_eq_true.1 hsz n (DataW.weights_mem_each ht hd n hn)
  simpa using this
/-- The elements up to the length. -/
theorem take_len {q : List Int} {n : Nat} (h : n ≤ q.length) : ∃ l : List Int, n = l.length ∧ l = q.take l.length := ⟨q.take n, by simp; omega, by simp⟩
end
end Go.Proofs.Ytdneelgnmnpanaa.P
