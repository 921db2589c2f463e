/- For every input: striking: what is left and what comes out of so many runs is what the document says, and the stock is enough just up to Limit. The law returns true and leaves its arguments as they were. No further conditions. -/
import Derived.Test.YtdneelgnmnpanaaRows
import Derived.Test.YtdneelgnmnpanaaOpen
import Derived.Test.YtdneelgnmnpanaaKp
import Derived.Test.YtdneelgnmnpanaaInStrikeRuns
import Derived.Test.YtdneelgnmnpanaaP9
import Derived.WalkKit
import Derived.ProofKit
import Derived.OpenShut
import Derived.ShutString
import Derived.ChangeOld
import Derived.Below
import Derived.SizedLaws
import Derived.Lib.SmallJoins
namespace Go.Proofs.Ytdneelgnmnpanaa.strikeRuns
open Go.ChangeShapes Go.WideShapes Go.ChangeAt Go.RowKit Go.Joins
open Go.Proofs.Ytdneelgnmnpanaa.P Go.Proofs.YtdneelgnmnpanaaW.PrintWords
set_option linter.unusedVariables false
theorem own : ownKnob Try.prog.godebug = none := by kernel_rfl
theorem laidOut : laidOutB Try.prog = true := by kernel_rfl
set_option maxRecDepth 100000 in
theorem lifted (os : Os) (started : os.Started) (H : Type) (enc : TypeId × Value → H) :
    ReturnsInHanded {} Try.checked os 9 .any (Rows.strikeRunsSpec.pre6 enc Try.prog Try.f9 Rows.strikeRunsRow.domain false) (Rows.strikeRunsSpec.post enc Try.prog Try.f9 false true false false) := by
  refine returnsInHanded_of_change_sized (C := Try.checked) own started (by kernel_rfl) Try.func9
    (ChangeSpec.witness6 (enc := enc) (C := Try.checked) false ⟨#[], #[.agg #[.slice none 0 0, .slice none 0 0], .agg #[.slice none 0 0, .slice none 0 0, .int .i64 0]], []⟩ 8 (by kernel_rfl) (by kernel_rfl) (by kernel_rfl) (by kernel_rfl)) ?_
  intro W base args ds gs before hval0 hW hcnd hsz0 _
  have hsz : (DataW.weightsEach Try.prog (Try.f9.params.toList ++ Rows.strikeRunsSpec.plain.varTypes Try.prog) (ds ++ gs)).all (· ≤ reachBytes) = true := hsz0
  have hval : ∀ (j : Nat) t v, Try.f9.params[j]? = some t → args[j]? = some v → Value.okWide Try.prog W .any base t v := hval0
  have hW' := hW
  obtain ⟨p, q, hA0, hV, rfl, hfz, hnd⟩ := hW
  have hA : DataW.TrodAll enc Try.prog W 0 (fun _ => true) true Try.f9.params.toList args.toList ds p := hA0
  rw [Try.params9] at hA hval hsz
  obtain ⟨v0, vs0, d0, ds0, p0, q0, hargs, rfl, rfl, h0, r0⟩ := trodAll_cons hA
  obtain ⟨v1, vs1, d1, ds1, p1, q1, rfl, rfl, rfl, h1, r1⟩ := trodAll_cons r0
  obtain ⟨rfl, rfl, rfl⟩ := trodAll_nil r1
  obtain rfl : args = #[v0, v1] := by cases args; simp_all
  obtain ⟨rfl, rfl⟩ := trodVars_none hV
  have k0 := h0
  have lt0 : ∀ x ∈ p0, x.block < W.heap.size := by obtain ⟨m, hm⟩ := k0; exact DataW.trod_lt m _ _ _ hm
  obtain ⟨c0_0, c0_1, y0_0, y0_1, m0, rfl, rfl, rfl, hy0_0, hy0_1⟩ := open_agg2 Try.underlying24 (by kernel_rfl) (by kernel_rfl) (hval 0 24 v0 rfl rfl) h0
  obtain ⟨a0_0, l0_0, q0_0, rfl, hC0_0, hle0_0, hQ0_0, hb0_0, hbq0_0⟩ := open_tab hy0_0 (fun n hn => sized_at hsz (j := 0) (t := 24) rfl rfl n (w24 (.inl hn)))
  obtain ⟨a0_1, l0_1, q0_1, rfl, hC0_1, hle0_1, hQ0_1, hb0_1, hbq0_1⟩ := open_tab hy0_1 (fun n hn => sized_at hsz (j := 0) (t := 24) rfl rfl n (w24 (.inr hn)))
  have k1 := h1
  have lt1 : ∀ x ∈ p1, x.block < W.heap.size := by obtain ⟨m, hm⟩ := k1; exact DataW.trod_lt m _ _ _ hm
  obtain ⟨c1_0, c1_1, c1_2, y1_0, y1_1, y1_2, m1, rfl, rfl, rfl, hy1_0, hy1_1, hy1_2⟩ := open_agg3 Try.underlying30 (by kernel_rfl) (by kernel_rfl) (hval 1 30 v1 rfl rfl) h1
  obtain ⟨a1_0, n1_0, q1_0, rfl, hle1_0, hQ1_0, hb1_0⟩ := open_row hy1_0 (fun n hn => sized_at hsz (j := 1) (t := 30) rfl rfl n (w30 (.inl hn)))
  obtain ⟨l1_0, hl1_0, htk1_0⟩ := take_len hle1_0
  subst hl1_0
  have hC1_0 : Kd.C (Kd.int .i64) W a1_0 l1_0.length l1_0 := by rw [htk1_0]; exact C_take _ hQ1_0
  obtain ⟨a1_1, n1_1, q1_1, rfl, hle1_1, hQ1_1, hb1_1⟩ := open_row hy1_1 (fun n hn => sized_at hsz (j := 1) (t := 30) rfl rfl n (w30 (.inr hn)))
  obtain ⟨l1_1, hl1_1, htk1_1⟩ := take_len hle1_1
  subst hl1_1
  have hC1_1 : Kd.C (Kd.int .i64) W a1_1 l1_1.length l1_1 := by rw [htk1_1]; exact C_take _ hQ1_1
  obtain ⟨a1_2, e1_2, rfl, w1_2⟩ := DataW.trod_int Try.underlying3 hy1_2
  obtain rfl : c1_2 = .int .i64 a1_2 := by simpa using e1_2
  clear hA0 hval0 hsz0 hsz
  obtain ⟨k, hk⟩ : Ev (fun k => verditerlaw04_StrikeRuns.f k l0_0 q0_0 l0_1 q0_1 l1_0 q1_0 l1_1 q1_1 a1_2) true := by
    unfold verditerlaw04_StrikeRuns.f
    refine Ev.bind (keepTable q0_0 hb0_0 hbq0_0) ?_
    refine Ev.bind (keepTable q0_1 hb0_1 hbq0_1) ?_
    refine Ev.bind (Ev.congr (fun _ => keepInts q1_0 hb1_0) (Ev.now _)) ?_
    refine Ev.bind (Ev.congr (fun _ => keepInts q1_1 hb1_1) (Ev.now _)) ?_
    refine Ev.bind (in_StrikeRuns l0_0 l0_1 l1_0 l1_1 a1_2) ?_
    simp only [if_true]
    refine Ev.bind (keptTable q0_0 hb0_0 hbq0_0) ?_
    simp only [if_true]
    refine Ev.bind (keptTable q0_1 hb0_1 hbq0_1) ?_
    simp only [if_true]
    refine Ev.bind (keptInts q1_0 hb1_0) ?_
    simp only [if_true]
    refine Ev.bind (keptInts q1_1 hb1_1) ?_
    exact Ev.now _
  refine (verditerlaw04_StrikeRuns.calls k _ l0_0 q0_0 _ l0_1 q0_1 _ l1_0 q1_0 _ l1_1 q1_1 a1_2 true W hC0_0 hle0_0 hQ0_0 hC0_1 hle0_1 hQ0_1 hC1_0 hle1_0 hQ1_0 hC1_1 hle1_1 hQ1_1 (hk k (Nat.le_refl _))).mono fun e W' ⟨he, bel⟩ => ?_
  subst he
  exact ⟨_, rfl, _, _, _, [], _, [], hW', trodAll_mk1 (shut_bool Try.underlying4 _), (trodAll_cons_mk (Below.trod laidOut (by kernel_rfl) (of_decide_eq_true (by kernel_rfl)) k0 bel lt0) (trodAll_cons_mk (Below.trod laidOut (by kernel_rfl) (of_decide_eq_true (by kernel_rfl)) k1 bel lt1) trodAll_mk0)), rfl, bel.frame _, fun h => by cases h⟩
theorem over : Rows.strikeRunsRow.holds Try.pinned (OpenSpec.ofChange Rows.strikeRunsSpec) :=
  OpenClaim.holds_of_wide 9 Try.f9 rfl rfl rfl rfl rfl rfl rfl ⟨rfl, rfl, rfl, rfl, rfl⟩ rfl rfl rfl rfl rfl (by kernel_rfl) Try.func9 (by kernel_rfl)
    (of_decide_eq_true (by kernel_rfl)) (by unfold Func.isWrapper; first | (rw [if_pos (by decide +kernel)]; kernel_rfl) | (rw [if_neg (by decide +kernel)]; exact ⟨rfl, rfl⟩))
    (fun os started H enc _ => lifted os started H enc)
theorem proved : Rows.StrikeRunsSaid := over
#print axioms proved
end Go.Proofs.Ytdneelgnmnpanaa.strikeRuns
namespace Go.Proofs.Ytdneelgnmnpanaa
/-- The row, under a short name, for the claim. -/
theorem strikeRuns_holds : Rows.StrikeRunsSaid := strikeRuns.proved
end Go.Proofs.Ytdneelgnmnpanaa
