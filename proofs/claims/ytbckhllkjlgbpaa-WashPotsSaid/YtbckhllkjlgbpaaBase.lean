/- Plain facts that the laws of the wash layer share: whole numbers within 64 bits, cells kept and compared; no conditions beyond those that each theorem names. -/
import Derived.Test.YtbckhllkjlgbpaaPk
namespace Go.Proofs.Ytbckhllkjlgbpaa.P
open Go.RowKit Go.Proofs.YtbckhllkjlgbpaaW.PrintWords

/-- A number of 64 bits. -/
def OkInt (x : Int) : Prop := -9223372036854775808 ≤ x ∧ x ≤ 9223372036854775807
def Ok58 (x : S58) : Prop := OkInt x.f0 ∧ OkInt x.f1
def Ok83 (x : S83) : Prop := OkInt x.f0 ∧ OkInt x.f1 ∧ OkInt x.f2
theorem okInt_of {x : Int} (h : (Lit.int .i64 x).wf = true) : OkInt x := by
  simp [Lit.wf, IntKind.min, IntKind.max, IntKind.signed, IntKind.bits] at h
  unfold OkInt
  omega
theorem mk58_of (ns : List Int) (h : ns.length = 2) (w : World) : k58.K w (⟨ns.getD 0 0, ns.getD 1 0⟩ : S58) (ns.map (Value.int .i64)) := by
  match ns, h with
  | [a, b], _ => exact k58_mk w ⟨a, b⟩
theorem mk83_of (ns : List Int) (h : ns.length = 3) (w : World) : k83.K w (⟨ns.getD 0 0, ns.getD 1 0, ns.getD 2 0⟩ : S83) (ns.map (Value.int .i64)) := by
  match ns, h with
  | [a, b, c], _ => exact k83_mk w ⟨a, b, c⟩
theorem ok58_of {x : S58} (h : ∃ ns : List Int, ns.length = 2 ∧ x = (⟨ns.getD 0 0, ns.getD 1 0⟩ : S58) ∧ ∀ n ∈ ns, (Lit.int .i64 n).wf = true) : Ok58 x := by
  obtain ⟨ns, h1, rfl, h3⟩ := h
  match ns, h1, h3 with
  | [a, b], _, h3 => exact ⟨okInt_of (h3 a (by simp)), okInt_of (h3 b (by simp))⟩
theorem ok83_of {x : S83} (h : ∃ ns : List Int, ns.length = 3 ∧ x = (⟨ns.getD 0 0, ns.getD 1 0, ns.getD 2 0⟩ : S83) ∧ ∀ n ∈ ns, (Lit.int .i64 n).wf = true) : Ok83 x := by
  obtain ⟨ns, h1, rfl, h3⟩ := h
  match ns, h1, h3 with
  | [a, b, c], _, h3 => exact ⟨okInt_of (h3 a (by simp)), okInt_of (h3 b (by simp)), okInt_of (h3 c (by simp))⟩

theorem wr {x : Int} (h0 : -9223372036854775808 ≤ x) (h1 : x ≤ 9223372036854775807) : wrap64 x = x := by
  unfold wrap64
  omega
theorem wr_succ {n m : Nat} (h : n < m) (hm : m ≤ 9223372036854775807) : wrap64 ((n : Int) + 1) = ((n + 1 : Nat) : Int) := by
  rw [wr (by omega) (by omega)]
  omega

/-! ### cells that are kept and compared -/
theorem keepGrains (q : List S58) (h : q.length * 16 ≤ 140737488351232) : verditerref01_KeepGrains.f q = some q := by
  unfold verditerref01_KeepGrains.f
  simp only [Option.bind_some, List.length_nil, List.nil_append]
  rw [if_pos (by omega)]
theorem keepMoves (q : List S83) (h : q.length * 24 ≤ 140737488351232) : verditerref01_KeepMoves.f q = some q := by
  unfold verditerref01_KeepMoves.f
  simp only [Option.bind_some, List.length_nil, List.nil_append]
  rw [if_pos (by omega)]
theorem keepInts (q : List Int) (h : q.length * 8 ≤ 140737488351232) : verditerref01_KeepInts.f q = some q := by
  unfold verditerref01_KeepInts.f
  simp only [Option.bind_some, List.length_nil, List.nil_append]
  rw [if_pos (by omega)]
theorem keptGrains_l (q : List S58) (h : q.length ≤ 9223372036854775807) : ∀ d n : Nat, n + d = q.length → Ev (fun k => verditerref01_KeptGrains.l0 k q q (n : Int)) true := by
  intro d
  induction d with
  | zero =>
    intro n hn
    refine Ev.step (fun k => by rw [verditerref01_KeptGrains.l0]) ?_
    simp only [show ¬ ((n : Int) < (q.length : Int)) by omega, if_false]
    exact Ev.now _
  | succ d ih =>
    intro n hn
    refine Ev.step (fun k => by rw [verditerref01_KeptGrains.l0]) ?_
    simp only [show ((n : Int) < (q.length : Int)) by omega, show (0 : Int) ≤ (n : Int) by omega, if_true, beq_self_eq_true, Bool.not_true, Bool.or_self, Bool.false_eq_true, if_false]
    rw [wr_succ (m := q.length) (by omega) h]
    exact ih (n + 1) (by omega)
theorem keptGrains (q : List S58) (h : q.length * 16 ≤ 140737488351232) : Ev (fun k => verditerref01_KeptGrains.f k q q) true := by
  unfold verditerref01_KeptGrains.f
  simp only [if_true]
  exact keptGrains_l q (by omega) q.length 0 (by omega)
theorem keptMoves_l (q : List S83) (h : q.length ≤ 9223372036854775807) : ∀ d n : Nat, n + d = q.length → Ev (fun k => verditerref01_KeptMoves.l0 k q q (n : Int)) true := by
  intro d
  induction d with
  | zero =>
    intro n hn
    refine Ev.step (fun k => by rw [verditerref01_KeptMoves.l0]) ?_
    simp only [show ¬ ((n : Int) < (q.length : Int)) by omega, if_false]
    exact Ev.now _
  | succ d ih =>
    intro n hn
    refine Ev.step (fun k => by rw [verditerref01_KeptMoves.l0]) ?_
    simp only [show ((n : Int) < (q.length : Int)) by omega, show (0 : Int) ≤ (n : Int) by omega, if_true, beq_self_eq_true, Bool.not_true, Bool.or_self, Bool.false_eq_true, if_false]
    rw [wr_succ (m := q.length) (by omega) h]
    exact ih (n + 1) (by omega)
theorem keptMoves (q : List S83) (h : q.length * 24 ≤ 140737488351232) : Ev (fun k => verditerref01_KeptMoves.f k q q) true := by
  unfold verditerref01_KeptMoves.f
  simp only [if_true]
  exact keptMoves_l q (by omega) q.length 0 (by omega)
theorem keptInts_l (q : List Int) (h : q.length ≤ 9223372036854775807) : ∀ d n : Nat, n + d = q.length → Ev (fun k => verditerref01_KeptInts.l0 k q q (n : Int)) true := by
  intro d
  induction d with
  | zero =>
    intro n hn
    refine Ev.step (fun k => by rw [verditerref01_KeptInts.l0]) ?_
    simp only [show ¬ ((n : Int) < (q.length : Int)) by omega, if_false]
    exact Ev.now _
  | succ d ih =>
    intro n hn
    refine Ev.step (fun k => by rw [verditerref01_KeptInts.l0]) ?_
    simp only [show ((n : Int) < (q.length : Int)) by omega, show (0 : Int) ≤ (n : Int) by omega, if_true]
    rw [wr_succ (m := q.length) (by omega) h]
    exact ih (n + 1) (by omega)
theorem keptInts (q : List Int) (h : q.length * 8 ≤ 140737488351232) : Ev (fun k => verditerref01_KeptInts.f k q q) true := by
  unfold verditerref01_KeptInts.f
  simp only [if_true]
  exact keptInts_l q (by omega) q.length 0 (by omega)
end Go.Proofs.Ytbckhllkjlgbpaa.P
