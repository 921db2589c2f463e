/- Cells that are kept and compared with themselves; for tables and lists that a memory can hold. -/
import Derived.Test.YtdneelgnmnpanaaSb
import Derived.Test.YtdneelgnmnpanaaPk
import Derived.SizedLaws
namespace Go.Proofs.Ytdneelgnmnpanaa.P
open Go.RowKit Go.Proofs.YtdneelgnmnpanaaW.PrintWords
set_option linter.unusedVariables false
set_option linter.unusedSimpArgs false
theorem keepInts (q : List Int) (h : q.length * 8 ≤ reachBytes) : verditerref01_KeepInts.f q = some q := by
  have : reachBytes < 2 ^ 47 := reachBytes_lt
  unfold verditerref01_KeepInts.f
  simp only [Option.bind_some, List.length_nil, List.nil_append]
  rw [if_pos (by omega)]
theorem keptInts_l (q : List Int) (h : q.length ≤ 9223372036854775807) : ∀ d n : Nat, n + d = q.length → Ev (fun k => verditerref01_KeptInts.l0 k q q (n : Int)) true := by
  intro d
  induction d with
  | zero =>
    intro n hn
    refine Ev.step (fun k => by rw [verditerref01_KeptInts.l0]) ?_
    simp only [show ¬ ((n : Int) < (q.length : Int)) by omega, if_false]
    exact Ev.now _
  | succ d ih =>
    intro n hn
    refine Ev.step (fun k => by rw [verditerref01_KeptInts.l0]) ?_
    simp only [show ((n : Int) < (q.length : Int)) by omega, show (0 : Int) ≤ (n : Int) by omega, if_true]
    rw [wr_succ (m := q.length) (by omega) h]
    exact ih (n + 1) (by omega)
theorem keptInts (q : List Int) (h : q.length * 8 ≤ reachBytes) : Ev (fun k => verditerref01_KeptInts.f k q q) true := by
  have : reachBytes < 2 ^ 47 := reachBytes_lt
  unfold verditerref01_KeptInts.f
  simp only [if_true]
  exact keptInts_l q (by omega) q.length 0 (by omega)
theorem keepTable_l (Q : List (List Int)) (h : Q.length * 24 ≤ reachBytes) (hq : ∀ q ∈ Q, q.length * 8 ≤ reachBytes) : ∀ (d n : Nat) (out : List (List Int)), n + d = Q.length → out.length ≤ n → Ev (fun k => verditerref01_KeepTable.l0 k Q out (n : Int)) (out ++ Q.drop n) := by
  have hr : reachBytes < 2 ^ 47 := reachBytes_lt
  intro d
  induction d with
  | zero =>
    intro n out hn ho
    refine Ev.step (fun k => by rw [verditerref01_KeepTable.l0]) ?_
    simp only [show ¬ ((n : Int) < (Q.length : Int)) by omega, if_false]
    rw [List.drop_eq_nil_of_le (by omega), List.append_nil]
    exact Ev.now _
  | succ d ih =>
    intro n out hn ho
    have hlt : n < Q.length := by omega
    refine Ev.step (fun k => by rw [verditerref01_KeepTable.l0]) ?_
    simp only [show ((n : Int) < (Q.length : Int)) by omega, show (0 : Int) ≤ (n : Int) by omega, if_true, rdL, getD_at Q n _ hlt, keepInts _ (hq _ (List.getElem_mem hlt)), Option.bind_some, show out.length < 5864062014805 by omega]
    rw [wr_succ (m := Q.length) hlt (by omega), List.drop_eq_getElem_cons hlt]
    have := ih (n + 1) (out ++ [Q[n]]) (by omega) (by simp; omega)
    rw [List.append_assoc] at this
    exact this
theorem keepTable (Q : List (List Int)) (h : Q.length * 24 ≤ reachBytes) (hq : ∀ q ∈ Q, q.length * 8 ≤ reachBytes) : Ev (fun k => verditerref01_KeepTable.f k Q) Q := by
  unfold verditerref01_KeepTable.f
  have := keepTable_l Q h hq Q.length 0 [] (by omega) (by simp)
  rw [List.drop_zero, List.nil_append] at this
  exact this
theorem keptTable_l (Q : List (List Int)) (h : Q.length * 24 ≤ reachBytes) (hq : ∀ q ∈ Q, q.length * 8 ≤ reachBytes) : ∀ d n : Nat, n + d = Q.length → Ev (fun k => verditerref01_KeptTable.l0 k Q Q (n : Int)) true := by
  have hr : reachBytes < 2 ^ 47 := reachBytes_lt
  intro d
  induction d with
  | zero =>
    intro n hn
    refine Ev.step (fun k => by rw [verditerref01_KeptTable.l0]) ?_
    simp only [show ¬ ((n : Int) < (Q.length : Int)) by omega, if_false]
    exact Ev.now _
  | succ d ih =>
    intro n hn
    have hlt : n < Q.length := by omega
    refine Ev.step (fun k => by rw [verditerref01_KeptTable.l0]) ?_
    simp only [show ((n : Int) < (Q.length : Int)) by omega, show (0 : Int) ≤ (n : Int) by omega, if_true, rdL, getD_at Q n _ hlt]
    refine Ev.bind (keptInts _ (hq _ (List.getElem_mem hlt))) ?_
    simp only [if_true]
    rw [wr_succ (m := Q.length) hlt (by omega)]
    exact ih (n + 1) (by omega)
theorem keptTable (Q : List (List Int)) (h : Q.length * 24 ≤ reachBytes) (hq : ∀ q ∈ Q, q.length * 8 ≤ reachBytes) : Ev (fun k => verditerref01_KeptTable.f k Q Q) true := by
  unfold verditerref01_KeptTable.f
  simp only [if_true]
  exact keptTable_l Q h hq Q.length 0 (by omega)
end Go.Proofs.Ytdneelgnmnpanaa.P
