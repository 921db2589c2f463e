/- What a law's slice arguments hold, as lists: an argument that reads as data is a row of cells up to its capacity; no conditions. -/
import Derived.Test.YtbckhllkjlgbpaaP0
import Derived.Deep.Slices
import Derived.Deep.Fields
import Derived.ChangeSame
import Derived.ChangeSlices
import Derived.SizedLaws
namespace Go.Proofs.Ytbckhllkjlgbpaa.P
open Go.RowKit Go.Proofs.YtbckhllkjlgbpaaW.PrintWords
open Go.ChangeShapes Go.WideShapes Go.Deep

/-- All fields are of kind int. -/
def intFields (P : Program) (fs : Array Field) : Bool := (List.range fs.size).all fun i => match fs[i]? with
  | some f => match P.underlying f.type with
    | some (.int .i64) => true
    | _ => false
  | none => false
theorem intFields_of {P : Program} {fs : Array Field} (h : intFields P fs = true) : ∀ (i : Nat) (f : Field), fs[i]? = some f → P.underlying f.type = some (.int .i64) := by
  intro i f hf
  have hi : i < fs.size := (Array.getElem?_eq_some_iff.1 hf).1
  have := List.all_eq_true.1 h i (List.mem_range.2 hi)
  rw [hf] at this
  revert this
  cases hu : P.underlying f.type with
  | none => simp [hu]
  | some u =>
    intro h2
    simp only [hu] at h2
    split at h2
    · rename_i h3; exact h3
    · cases h2

section
variable {H : Type} {enc : TypeId × Value → H} {P : Program} {w : World} {base : Nat} {held : Bool}

/-- The cells of a struct of ints. -/
theorem ints_of_struct {e fuel : Nat} {fs : Array Field} {cs : List Value} {x : DataW H × List MemPlace} {spare : Nat → Bool} (he : P.underlying e = some (.struct fs))
    (hone : oneCellFields P fs = true) (hint : intFields P fs = true) (hC : P.cellsOf e = fs.size) (h : DataW.trod enc P w base spare held fuel e cs = some x) :
    ∃ ns : List Int, ns.length = fs.size ∧ cs = ns.map (Value.int .i64) ∧ ∀ n ∈ ns, (Lit.int .i64 n).wf = true := by
  obtain ⟨xs, n, _, _, hlen, hxl, hf⟩ := DataW.trod_struct he h
  rw [hC] at hlen
  have hcell : ∀ i, i < fs.size → ∃ k, cs[i]? = some (.int .i64 k) ∧ (Lit.int .i64 k).wf = true := by
    intro i hi
    have hfi : fs[i]? = some fs[i] := Array.getElem?_eq_getElem hi
    obtain ⟨ho, hk⟩ := hone_of hone i _ hfi
    have hu := intFields_of hint i _ hfi
    have h1 := hf i _ hfi
    rw [ho, hk] at h1
    have hone' : (cs.drop i).take 1 = [cs[i]'(by omega)] := by
      rw [List.drop_eq_getElem_cons (by omega)]
      rfl
    rw [hone'] at h1
    rw [List.getElem?_eq_getElem (by omega : i < xs.length)] at h1
    obtain ⟨k, hk1, _, hwf⟩ := DataW.trod_int hu h1
    refine ⟨k, ?_, hwf⟩
    rw [List.getElem?_eq_getElem (by omega : i < cs.length)]
    simpa using hk1
  obtain ⟨f, hf'⟩ : ∃ f : Nat → Int, ∀ i, i < fs.size → cs[i]? = some (.int .i64 (f i)) ∧ (Lit.int .i64 (f i)).wf = true := by
    refine ⟨fun i => if h : i < fs.size then (hcell i h).choose else 0, fun i hi => ?_⟩
    simp only [hi, dif_pos]
    exact (hcell i hi).choose_spec
  refine ⟨(List.range fs.size).map f, by simp, ?_, ?_⟩
  · apply List.ext_getElem?
    intro i
    by_cases hi : i < fs.size
    · rw [(hf' i hi).1]
      simp [hi]
    · rw [List.getElem?_eq_none (by omega), List.getElem?_eq_none (by simp; omega)]
  · intro n hn
    obtain ⟨i, hi, rfl⟩ := List.mem_map.1 hn
    exact (hf' i (List.mem_range.1 hi)).2

/-- A slice argument of structs of ints: the row of all its cells up to the capacity. -/
theorem open_structs {α : Type} (K : Kd α) (mk : List Int → α) {t e : TypeId} {fs : Array Field} {a : Option Addr} {len cap : Nat} {d : DataW H} {ps : List MemPlace} (ht : P.underlying t = some (.slice e)) (he : P.underlying e = some (.struct fs))
    (hone : oneCellFields P fs = true) (hint : intFields P fs = true) (hC : P.cellsOf e = fs.size) (hK : K.sz = fs.size) (hmk : ∀ ns : List Int, ns.length = fs.size → ∀ w, K.K w (mk ns) (ns.map (Value.int .i64)))
    (h : DataW.Trod enc P w base (fun _ => true) held t (.slice a len cap) d ps) :
    ∃ L : List α, Kd.C K w a L.length L ∧ L.length = cap ∧ len ≤ cap ∧ (∀ x ∈ L, ∃ ns : List Int, ns.length = fs.size ∧ x = mk ns ∧ ∀ n ∈ ns, (Lit.int .i64 n).wf = true) ∧
      ((cap = 0) ∨ ∃ elems spare, d = .slice elems spare ∧ elems.length + spare.length = cap) := by
  obtain ⟨fuel, hf⟩ := h
  rcases open_slice ht hf with ⟨hcs, _⟩ | ⟨x, l, c, m, n, D, Pl, hcs, _, hl, hm, hmm, hx, hi⟩
  · simp [Value.cells] at hcs
    obtain ⟨rfl, rfl, rfl⟩ := hcs
    exact ⟨[], ⟨rfl, by simp, fun h => absurd h (by simp)⟩, rfl, Nat.le_refl _, by simp, .inl rfl⟩
  · simp [Value.cells] at hcs
    obtain ⟨rfl, rfl, rfl⟩ := hcs
    simp only [if_true] at hmm
    subst hmm
    have hrow : ∀ i, i < m → ∃ ns : List Int, ns.length = fs.size ∧ (∀ j u, (ns.map (Value.int .i64))[j]? = some u → w.cell? (x.add (i * fs.size + j)) = some u) ∧ ∀ n ∈ ns, (Lit.int .i64 n).wf = true := by
      intro i him
      obtain ⟨cs', hc, ht'⟩ := hi i him
      rw [hC] at hc
      obtain ⟨ns, hns, rfl, hwf⟩ := ints_of_struct he hone hint hC ht'
      obtain ⟨_, hcl, hat⟩ := World.cells?_some hc
      refine ⟨ns, hns, fun j u hu => ?_, hwf⟩
      have hj : j < fs.size := by
        have := (List.getElem?_eq_some_iff.1 hu).1
        simp at this
        omega
      rw [← Go.Deep.add_add, hat j hj, hu]
    obtain ⟨f, hf'⟩ : ∃ f : Nat → List Int, ∀ i, i < m → (f i).length = fs.size ∧ (∀ j u, ((f i).map (Value.int .i64))[j]? = some u → w.cell? (x.add (i * fs.size + j)) = some u) ∧ ∀ n ∈ f i, (Lit.int .i64 n).wf = true := by
      refine ⟨fun i => if h : i < m then (hrow i h).choose else [], fun i hi => ?_⟩
      simp only [hi, dif_pos]
      exact (hrow i hi).choose_spec
    refine ⟨(List.range m).map fun i => mk (f i), ⟨rfl, by simp; unfold maxLen at hm; omega, fun _ => ⟨x, rfl, fun j p hj => ?_⟩⟩, by simp, hl, fun y hy => ?_, .inr ?_⟩
    · obtain ⟨hjm, hp⟩ := List.getElem?_eq_some_iff.1 hj
      simp at hjm hp
      obtain ⟨h1, h2, h3⟩ := hf' j hjm
      subst hp
      refine ⟨(f j).map (Value.int .i64), by simp [hK, h1], hmk _ h1 w, fun i u hu => ?_⟩
      rw [hK]
      exact h2 i u hu
    · obtain ⟨i, hi, rfl⟩ := List.mem_map.1 hy
      obtain ⟨h1, _, h3⟩ := hf' i (List.mem_range.1 hi)
      exact ⟨_, h1, rfl, h3⟩
    · obtain ⟨hd, _⟩ := Prod.mk.inj hx
      exact ⟨_, _, hd, by simp; omega⟩

/-- A slice argument of ints: the row of all its cells up to the capacity. -/
theorem open_intRow {t e : TypeId} {a : Option Addr} {len cap : Nat} {d : DataW H} {ps : List MemPlace} (ht : P.underlying t = some (.slice e)) (he : P.underlying e = some (.int .i64)) (hC : P.cellsOf e = 1)
    (h : DataW.Trod enc P w base (fun _ => true) held t (.slice a len cap) d ps) :
    ∃ L : List Int, Kd.C (Kd.int .i64) w a L.length L ∧ L.length = cap ∧ len ≤ cap ∧ (∀ x ∈ L, (Lit.int .i64 x).wf = true) ∧
      ((cap = 0) ∨ ∃ elems spare, d = .slice elems spare ∧ elems.length + spare.length = cap) := by
  obtain ⟨fuel, hf⟩ := h
  rcases open_ints ht he hC hf with ⟨hcs, _⟩ | ⟨x, l, c, zs, hcs, _, hl, hm, hz, hx, hcell, hwf⟩
  · simp [Value.cells] at hcs
    obtain ⟨rfl, rfl, rfl⟩ := hcs
    exact ⟨[], ⟨rfl, by simp, fun h => absurd h (by simp)⟩, rfl, Nat.le_refl _, by simp, .inl rfl⟩
  · simp [Value.cells] at hcs
    obtain ⟨rfl, rfl, rfl⟩ := hcs
    simp only [if_true] at hz
    refine ⟨zs, Kd.C_of_reads (d := (0 : Int)) (h1 := fun _ => rfl) ⟨rfl, by unfold maxLen at hm; omega, fun _ => ⟨x, rfl, fun j hj => hcell j (by omega)⟩⟩, hz, hl, hwf, .inr ?_⟩
    obtain ⟨hd, _⟩ := Prod.mk.inj hx
    refine ⟨_, _, hd, ?_⟩
    simp [lits]
    omega

/-- The elements up to the length. -/
theorem C_take {α : Type} {K : Kd α} {a : Option Addr} {L : List α} (n : Nat) (h : Kd.C K w a L.length L) : Kd.C K w a (L.take n).length (L.take n) := by
  refine ⟨rfl, ?_, fun hn => ?_⟩
  · have := h.2.1
    simp
    omega
  · obtain ⟨ad, e, hc⟩ := h.2.2 (by simp at hn; omega)
    refine ⟨ad, e, fun j p hj => ?_⟩
    rw [List.getElem?_take] at hj
    split at hj
    · exact hc j p hj
    · cases hj

/-- The bytes that an argument's slice takes. -/
theorem sized_any {ts : List TypeId} {ds : List (DataW H)} {j : Nat} {t e : TypeId} {cap B : Nat} {d : DataW H} (hsz : (DataW.weightsEach P ts ds).all (· ≤ reachBytes) = true) (ht : ts[j]? = some t) (hd : ds[j]? = some d) (hu : P.underlying t = some (.slice e)) (hB : P.bytesOf e = B)
    (h : (cap = 0) ∨ ∃ elems spare, d = .slice elems spare ∧ elems.length + spare.length = cap) : cap * B ≤ 140737488351232 := by
  rcases h with rfl | ⟨elems, spare, rfl, rfl⟩
  · simp
  · have z := sized_slice hsz ht hd hu
    rw [hB] at z
    exact z
end
end Go.Proofs.Ytbckhllkjlgbpaa.P
