/- The lines reduced: each of those that are left has a number, not 0, where all others have 0. The program's reduced as plain functions on lists of lines. -/
import Derived.Test.YtdneelgnmnpanaaPlain
namespace Go.Proofs.Ytdneelgnmnpanaa.P
open Go.RowKit Go.Proofs.YtdneelgnmnpanaaW.PrintWords
set_option linter.unusedVariables false
def lineAt (M : List (List Int)) (k : Nat) : List Int := M.getD k []
def cmb (p q : Int) (r t : List Int) : List Int := List.zipWith (fun a b => a * p - b * q) r t
/-- The products stay small. -/
def Okc (p q : Int) (r t : List Int) : Prop := (∀ a ∈ r, (a * p).natAbs ≤ 2305843009213693952) ∧ (∀ b ∈ t, (b * q).natAbs ≤ 2305843009213693952)
instance (p q : Int) (r t : List Int) : Decidable (Okc p q r t) := by unfold Okc; infer_instance
/-- The line j, cleared at the place i by the line top. -/
def elim (i top j : Nat) (M : List (List Int)) : Option (List (List Int)) :=
  if j = top ∨ (lineAt M j).getD i 0 = 0 then some M
  else if Okc ((lineAt M top).getD i 0) ((lineAt M j).getD i 0) (lineAt M j) (lineAt M top) then some (M.set j (pln (cmb ((lineAt M top).getD i 0) ((lineAt M j).getD i 0) (lineAt M j) (lineAt M top))))
  else none
def elims (i top : Nat) : Nat → Nat → List (List Int) → Option (List (List Int))
  | 0, _, M => some M
  | d + 1, j, M => (elim i top j M).bind (elims i top d (j + 1))
def swp (M : List (List Int)) (a b : Nat) : List (List Int) := (M.set a (lineAt M b)).set b (lineAt M a)
def stepc (i : Nat) (M : List (List Int)) (P : List Int) : Option (List (List Int) × List Int) :=
  if fst i (M.drop P.length) < 0 then some (M, P)
  else (elims i P.length M.length 0 (swp M P.length (P.length + (fst i (M.drop P.length)).toNat))).bind fun M' => some (M', P ++ [(i : Int)])
def redc : Nat → Nat → List (List Int) → List Int → Option (List (List Int) × List Int)
  | 0, _, M, P => some (M, P)
  | d + 1, i, M, P => (stepc i M P).bind fun x => redc d (i + 1) x.1 x.2
def red (M : List (List Int)) : Option (List (List Int) × List Int) := redc 6 0 M []
theorem fst_lt (i : Nat) : ∀ (rows : List (List Int)), fst i rows < rows.length
  | [] => by simp [fst]
  | r :: l => by
    have := fst_lt i l
    rw [fst]
    split
    · rw [List.length_cons]; omega
    · split <;> rw [List.length_cons] <;> omega
theorem cmb_length (p q : Int) (r t : List Int) (h : r.length = t.length) : (cmb p q r t).length = r.length := by simp [cmb, h]
theorem pln_length (m : List Int) : (pln m).length = m.length := by unfold pln; split <;> simp
theorem cmb_lim {p q : Int} {r t : List Int} (h : Okc p q r t) : ∀ x ∈ cmb p q r t, Lim x := by
  intro x hx
  obtain ⟨i, hi, rfl⟩ := List.mem_iff_getElem.1 hx
  unfold cmb at hi ⊢
  rw [List.length_zipWith] at hi
  rw [List.getElem_zipWith]
  have h1 := h.1 _ (List.getElem_mem (show i < r.length by omega))
  have h2 := h.2 _ (List.getElem_mem (show i < t.length by omega))
  unfold Lim
  omega
theorem lineAt_eq (M : List (List Int)) (k : Nat) (h : k < M.length) : lineAt M k = M[k] := rowD M k h
theorem Six.swp {M : List (List Int)} (h : Six M) {a b : Nat} (ha : a < M.length) (hb : b < M.length) : Six (swp M a b) := by
  unfold P.swp
  rw [lineAt_eq M a ha, lineAt_eq M b hb]
  exact (h.set a (h.at hb)).set b (h.at ha)
theorem swp_length (M : List (List Int)) (a b : Nat) : (swp M a b).length = M.length := by simp [swp]
end Go.Proofs.Ytdneelgnmnpanaa.P
