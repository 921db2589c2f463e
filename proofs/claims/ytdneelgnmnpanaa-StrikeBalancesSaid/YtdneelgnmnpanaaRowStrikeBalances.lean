/- For every input: striking: which times balance is what the document says, and sums of two such lists balance, too. The law returns true and leaves its arguments as they were. No further conditions. -/
import Derived.Test.YtdneelgnmnpanaaRows
import Derived.Test.YtdneelgnmnpanaaOpen
import Derived.Test.YtdneelgnmnpanaaKp
import Derived.Test.YtdneelgnmnpanaaInStrikeBalances
import Derived.Test.YtdneelgnmnpanaaP5
import Derived.WalkKit
import Derived.ProofKit
import Derived.OpenShut
import Derived.ShutString
import Derived.ChangeOld
import Derived.Below
import Derived.SizedLaws
import Derived.Lib.SmallJoins
namespace Go.Proofs.Ytdneelgnmnpanaa.strikeBalances
open Go.ChangeShapes Go.WideShapes Go.ChangeAt Go.RowKit Go.Joins
open Go.Proofs.Ytdneelgnmnpanaa.P Go.Proofs.YtdneelgnmnpanaaW.PrintWords
set_option linter.unusedVariables false
theorem own : ownKnob Try.prog.godebug = none := by kernel_rfl
theorem laidOut : laidOutB Try.prog = true := by kernel_rfl
set_option maxRecDepth 100000 in
theorem lifted (os : Os) (started : os.Started) (H : Type) (enc : TypeId × Value → H) :
    ReturnsInHanded {} Try.checked os 5 .any (Rows.strikeBalancesSpec.pre6 enc Try.prog Try.f5 Rows.strikeBalancesRow.domain false) (Rows.strikeBalancesSpec.post enc Try.prog Try.f5 false true false false) := by
  refine returnsInHanded_of_change_sized (C := Try.checked) own started (by kernel_rfl) Try.func5
    (ChangeSpec.witness6 (enc := enc) (C := Try.checked) false ⟨#[], #[.agg #[.slice none 0 0, .slice none 0 0], .slice none 0 0, .slice none 0 0], []⟩ 8 (by kernel_rfl) (by kernel_rfl) (by kernel_rfl) (by kernel_rfl)) ?_
  intro W base args ds gs before hval0 hW hcnd hsz0 _
  have hsz : (DataW.weightsEach Try.prog (Try.f5.params.toList ++ Rows.strikeBalancesSpec.plain.varTypes Try.prog) (ds ++ gs)).all (· ≤ reachBytes) = true := hsz0
  have hval : ∀ (j : Nat) t v, Try.f5.params[j]? = some t → args[j]? = some v → Value.okWide Try.prog W .any base t v := hval0
  have hW' := hW
  obtain ⟨p, q, hA0, hV, rfl, hfz, hnd⟩ := hW
  have hA : DataW.TrodAll enc Try.prog W 0 (fun _ => true) true Try.f5.params.toList args.toList ds p := hA0
  rw [Try.params5] at hA hval hsz
  obtain ⟨v0, vs0, d0, ds0, p0, q0, hargs, rfl, rfl, h0, r0⟩ := trodAll_cons hA
  obtain ⟨v1, vs1, d1, ds1, p1, q1, rfl, rfl, rfl, h1, r1⟩ := trodAll_cons r0
  obtain ⟨v2, vs2, d2, ds2, p2, q2, rfl, rfl, rfl, h2, r2⟩ := trodAll_cons r1
  obtain ⟨rfl, rfl, rfl⟩ := trodAll_nil r2
  obtain rfl : args = #[v0, v1, v2] := by cases args; simp_all
  obtain ⟨rfl, rfl⟩ := trodVars_none hV
  have k0 := h0
  have lt0 : ∀ x ∈ p0, x.block < W.heap.size := by obtain ⟨m, hm⟩ := k0; exact DataW.trod_lt m _ _ _ hm
  obtain ⟨c0_0, c0_1, y0_0, y0_1, m0, rfl, rfl, rfl, hy0_0, hy0_1⟩ := open_agg2 Try.underlying24 (by kernel_rfl) (by kernel_rfl) (hval 0 24 v0 rfl rfl) h0
  obtain ⟨a0_0, l0_0, q0_0, rfl, hC0_0, hle0_0, hQ0_0, hb0_0, hbq0_0⟩ := open_tab hy0_0 (fun n hn => sized_at hsz (j := 0) (t := 24) rfl rfl n (w24 (.inl hn)))
  obtain ⟨a0_1, l0_1, q0_1, rfl, hC0_1, hle0_1, hQ0_1, hb0_1, hbq0_1⟩ := open_tab hy0_1 (fun n hn => sized_at hsz (j := 0) (t := 24) rfl rfl n (w24 (.inr hn)))
  have k1 := h1
  have lt1 : ∀ x ∈ p1, x.block < W.heap.size := by obtain ⟨m, hm⟩ := k1; exact DataW.trod_lt m _ _ _ hm
  obtain ⟨b1, ln1, cp1, rfl⟩ := okWide_slice Try.underlying28 (hval 1 28 v1 rfl rfl)
  obtain ⟨fu1, hf1⟩ := h1
  obtain ⟨a1, n1, q1, hv1, hle1, hQ1, hb1⟩ := open_row hf1 (sized_at hsz (j := 1) (t := 28) rfl rfl)
  injection hv1 with e1 e2 e3
  subst e1 e2 e3
  obtain ⟨l1, hl1, htk1⟩ := take_len hle1
  subst hl1
  have hC1 : Kd.C (Kd.int .i64) W b1 l1.length l1 := by rw [htk1]; exact C_take _ hQ1
  have k2 := h2
  have lt2 : ∀ x ∈ p2, x.block < W.heap.size := by obtain ⟨m, hm⟩ := k2; exact DataW.trod_lt m _ _ _ hm
  obtain ⟨b2, ln2, cp2, rfl⟩ := okWide_slice Try.underlying28 (hval 2 28 v2 rfl rfl)
  obtain ⟨fu2, hf2⟩ := h2
  obtain ⟨a2, n2, q2, hv2, hle2, hQ2, hb2⟩ := open_row hf2 (sized_at hsz (j := 2) (t := 28) rfl rfl)
  injection hv2 with e1 e2 e3
  subst e1 e2 e3
  obtain ⟨l2, hl2, htk2⟩ := take_len hle2
  subst hl2
  have hC2 : Kd.C (Kd.int .i64) W b2 l2.length l2 := by rw [htk2]; exact C_take _ hQ2
  clear hA0 hval0 hsz0 hsz
  obtain ⟨k, hk⟩ : Ev (fun k => verditerlaw04_StrikeBalances.f k l0_0 q0_0 l0_1 q0_1 l1 q1 l2 q2) true := by
    unfold verditerlaw04_StrikeBalances.f
    refine Ev.bind (keepTable q0_0 hb0_0 hbq0_0) ?_
    refine Ev.bind (keepTable q0_1 hb0_1 hbq0_1) ?_
    refine Ev.bind (Ev.congr (fun _ => keepInts q1 hb1) (Ev.now _)) ?_
    refine Ev.bind (Ev.congr (fun _ => keepInts q2 hb2) (Ev.now _)) ?_
    refine Ev.bind (in_StrikeBalances l0_0 l0_1 l1 l2) ?_
    simp only [if_true]
    refine Ev.bind (keptTable q0_0 hb0_0 hbq0_0) ?_
    simp only [if_true]
    refine Ev.bind (keptTable q0_1 hb0_1 hbq0_1) ?_
    simp only [if_true]
    refine Ev.bind (keptInts q1 hb1) ?_
    simp only [if_true]
    refine Ev.bind (keptInts q2 hb2) ?_
    exact Ev.now _
  refine (verditerlaw04_StrikeBalances.calls k _ l0_0 q0_0 _ l0_1 q0_1 _ l1 q1 _ l2 q2 true W hC0_0 hle0_0 hQ0_0 hC0_1 hle0_1 hQ0_1 hC1 hle1 hQ1 hC2 hle2 hQ2 (hk k (Nat.le_refl _))).mono fun e W' ⟨he, bel⟩ => ?_
  subst he
  exact ⟨_, rfl, _, _, _, [], _, [], hW', trodAll_mk1 (shut_bool Try.underlying4 _), (trodAll_cons_mk (Below.trod laidOut (by kernel_rfl) (of_decide_eq_true (by kernel_rfl)) k0 bel lt0) (trodAll_cons_mk (Below.trod laidOut (by kernel_rfl) (of_decide_eq_true (by kernel_rfl)) k1 bel lt1) (trodAll_cons_mk (Below.trod laidOut (by kernel_rfl) (of_decide_eq_true (by kernel_rfl)) k2 bel lt2) trodAll_mk0))), rfl, bel.frame _, fun h => by cases h⟩
theorem over : Rows.strikeBalancesRow.holds Try.pinned (OpenSpec.ofChange Rows.strikeBalancesSpec) :=
  OpenClaim.holds_of_wide 5 Try.f5 rfl rfl rfl rfl rfl rfl rfl ⟨rfl, rfl, rfl, rfl, rfl⟩ rfl rfl rfl rfl rfl (by kernel_rfl) Try.func5 (by kernel_rfl)
    (of_decide_eq_true (by kernel_rfl)) (by unfold Func.isWrapper; first | (rw [if_pos (by decide +kernel)]; kernel_rfl) | (rw [if_neg (by decide +kernel)]; exact ⟨rfl, rfl⟩))
    (fun os started H enc _ => lifted os started H enc)
theorem proved : Rows.StrikeBalancesSaid := over
#print axioms proved
end Go.Proofs.Ytdneelgnmnpanaa.strikeBalances
namespace Go.Proofs.Ytdneelgnmnpanaa
/-- The row, under a short name, for the claim. -/
theorem strikeBalances_holds : Rows.StrikeBalancesSaid := strikeBalances.proved
end Go.Proofs.Ytdneelgnmnpanaa
