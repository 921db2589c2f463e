/- For every input: washing: what sinks in one pot after another is what the document says, and it all adds up to the lot. The law returns true and leaves its arguments as they were. No further conditions. -/
import Derived.Test.YtbckhllkjlgbpaaRows
import Derived.Test.YtbckhllkjlgbpaaOpen
import Derived.Test.YtbckhllkjlgbpaaInWashPots
import Derived.Test.YtbckhllkjlgbpaaP8
import Derived.WalkKit
import Derived.ProofKit
import Derived.OpenShut
import Derived.ShutString
import Derived.ChangeOld
import Derived.Below
import Derived.SizedLaws
import Derived.Lib.SmallJoins
namespace Go.Proofs.Ytbckhllkjlgbpaa.washPots
open Go.ChangeShapes Go.WideShapes Go.ChangeAt Go.RowKit Go.Joins
open Go.Proofs.Ytbckhllkjlgbpaa.P Go.Proofs.YtbckhllkjlgbpaaW.PrintWords
set_option linter.unusedVariables false
theorem own : ownKnob Try.prog.godebug = none := by kernel_rfl
theorem laidOut : laidOutB Try.prog = true := by kernel_rfl
set_option maxRecDepth 100000 in
theorem lifted (os : Os) (started : os.Started) (H : Type) (enc : TypeId × Value → H) :
    ReturnsInHanded {} Try.checked os 8 .any (Rows.washPotsSpec.pre6 enc Try.prog Try.f8 Rows.washPotsRow.domain false) (Rows.washPotsSpec.post enc Try.prog Try.f8 false true false false) := by
  refine returnsInHanded_of_change_sized (C := Try.checked) own started (by kernel_rfl) Try.func8
    (ChangeSpec.witness6 (enc := enc) (C := Try.checked) false ⟨#[], #[.slice none 0 0, .slice none 0 0, .int .i64 0], []⟩ 8 (by kernel_rfl) (by kernel_rfl) (by kernel_rfl) (by kernel_rfl)) ?_
  intro W base args ds gs before hval0 hW hcnd hsz0 _
  have hsz : (DataW.weightsEach Try.prog (Try.f8.params.toList ++ Rows.washPotsSpec.plain.varTypes Try.prog) (ds ++ gs)).all (· ≤ reachBytes) = true := hsz0
  have hval : ∀ (j : Nat) t v, Try.f8.params[j]? = some t → args[j]? = some v → Value.okWide Try.prog W .any base t v := hval0
  have hW' := hW
  obtain ⟨p, q, hA0, hV, rfl, hfz, hnd⟩ := hW
  have hA : DataW.TrodAll enc Try.prog W 0 (fun _ => true) true Try.f8.params.toList args.toList ds p := hA0
  rw [Try.params8] at hA hval hsz
  obtain ⟨v0, vs0, d0, ds0, p0, q0, hargs, rfl, rfl, h0, r0⟩ := trodAll_cons hA
  obtain ⟨v1, vs1, d1, ds1, p1, q1, rfl, rfl, rfl, h1, r1⟩ := trodAll_cons r0
  obtain ⟨v2, vs2, d2, ds2, p2, q2, rfl, rfl, rfl, h2, r2⟩ := trodAll_cons r1
  obtain ⟨rfl, rfl, rfl⟩ := trodAll_nil r2
  obtain rfl : args = #[v0, v1, v2] := by cases args; simp_all
  obtain ⟨rfl, rfl⟩ := trodVars_none hV
  obtain ⟨a0, len0, cap0, rfl⟩ := okWide_slice Try.underlying22 (hval 0 22 v0 rfl rfl)
  have k0 := h0
  have lt0 : ∀ x ∈ p0, x.block < W.heap.size := by obtain ⟨m, hm⟩ := k0; exact DataW.trod_lt m _ _ _ hm
  obtain ⟨L0, hC0, hcap0, hle0, hwf0, hd0⟩ := open_structs k58 (fun ns => (⟨ns.getD 0 0, ns.getD 1 0⟩ : S58)) Try.underlying22 Try.underlying58 (by kernel_rfl) (by kernel_rfl) (by kernel_rfl) rfl (mk58_of) h0
  have y0 : L0.length * 16 ≤ 140737488351232 := by rw [hcap0]; exact sized_any hsz (j := 0) (t := 22) rfl rfl Try.underlying22 (by kernel_rfl) hd0
  subst hcap0
  have hwf0 : ∀ x ∈ L0, Ok58 x := fun x hx => ok58_of (hwf0 x hx)
  obtain ⟨l0, hlen0, htk0⟩ : ∃ l : List S58, len0 = l.length ∧ l = L0.take l.length := ⟨L0.take len0, by simp; omega, by simp⟩
  subst hlen0
  have hCl0 : Kd.C k58 W a0 l0.length l0 := by rw [htk0]; exact C_take _ hC0
  have hwl0 : ∀ x ∈ l0, Ok58 x := fun x hx => hwf0 x (List.mem_of_mem_take (htk0 ▸ hx))
  obtain ⟨a1, len1, cap1, rfl⟩ := okWide_slice Try.underlying39 (hval 1 39 v1 rfl rfl)
  have k1 := h1
  have lt1 : ∀ x ∈ p1, x.block < W.heap.size := by obtain ⟨m, hm⟩ := k1; exact DataW.trod_lt m _ _ _ hm
  obtain ⟨L1, hC1, hcap1, hle1, hwf1, hd1⟩ := open_intRow Try.underlying39 Try.underlying3 (by kernel_rfl) h1
  have y1 : L1.length * 8 ≤ 140737488351232 := by rw [hcap1]; exact sized_any hsz (j := 1) (t := 39) rfl rfl Try.underlying39 (by kernel_rfl) hd1
  subst hcap1
  have hwf1 : ∀ x ∈ L1, OkInt x := fun x hx => okInt_of (hwf1 x hx)
  obtain ⟨l1, hlen1, htk1⟩ : ∃ l : List Int, len1 = l.length ∧ l = L1.take l.length := ⟨L1.take len1, by simp; omega, by simp⟩
  subst hlen1
  have hCl1 : Kd.C (Kd.int .i64) W a1 l1.length l1 := by rw [htk1]; exact C_take _ hC1
  have hwl1 : ∀ x ∈ l1, OkInt x := fun x hx => hwf1 x (List.mem_of_mem_take (htk1 ▸ hx))
  obtain ⟨a2, rfl, rfl, rfl, w2⟩ := open_int Try.underlying3 (hval 2 3 v2 rfl rfl) h2
  clear hA0 hval0 hsz0 hsz
  obtain ⟨K, hK⟩ := in_WashPots l0 l1 a2 (by omega) hwl0 (by omega) hwl1 (okInt_of w2)
  replace hK : ∀ k, K ≤ k → verditerlaw01_washPots.f k l0 l1 a2 = some true := hK
  obtain ⟨k, hk⟩ : ∃ k, verditerlaw01_WashPots.f k l0 L0 l1 L1 a2 = some true := by
    obtain ⟨K0, hK0⟩ := keptGrains L0 (by omega)
    replace hK0 : ∀ k, K0 ≤ k → verditerref01_KeptGrains.f k L0 L0 = some true := hK0
    obtain ⟨K1, hK1⟩ := keptInts L1 (by omega)
    replace hK1 : ∀ k, K1 ≤ k → verditerref01_KeptInts.f k L1 L1 = some true := hK1
    refine ⟨(max (max K K0) K1), ?_⟩
    unfold verditerlaw01_WashPots.f
    rw [keepGrains L0 (by omega), keepInts L1 (by omega)]
    simp only [Option.bind_some]
    rw [hK _ (by omega)]
    simp only [Option.bind_some, if_true]
    rw [hK0 _ (by omega)]
    simp only [Option.bind_some, if_true]
    rw [hK1 _ (by omega)]
    rfl
  refine (verditerlaw01_WashPots.calls k _ l0 L0 _ l1 L1 a2 true W hCl0 hle0 hC0 hCl1 hle1 hC1 hk).mono fun e W' ⟨he, bel⟩ => ?_
  subst he
  exact ⟨_, rfl, _, _, _, [], _, [], hW', trodAll_mk1 (shut_bool Try.underlying4 _), (trodAll_cons_mk (Below.trod laidOut (by kernel_rfl) (of_decide_eq_true (by kernel_rfl)) k0 bel lt0) (trodAll_cons_mk (Below.trod laidOut (by kernel_rfl) (of_decide_eq_true (by kernel_rfl)) k1 bel lt1) (trodAll_cons_mk (shut_int Try.underlying3 w2) trodAll_mk0))), rfl, bel.frame _, fun h => by cases h⟩
theorem over : Rows.washPotsRow.holds Try.pinned (OpenSpec.ofChange Rows.washPotsSpec) :=
  OpenClaim.holds_of_wide 8 Try.f8 rfl rfl rfl rfl rfl rfl rfl ⟨rfl, rfl, rfl, rfl, rfl⟩ rfl rfl rfl rfl rfl (by kernel_rfl) Try.func8 (by kernel_rfl)
    (of_decide_eq_true (by kernel_rfl)) (by unfold Func.isWrapper; first | (rw [if_pos (by decide +kernel)]; kernel_rfl) | (rw [if_neg (by decide +kernel)]; exact ⟨rfl, rfl⟩))
    (fun os started H enc _ => lifted os started H enc)
theorem proved : Rows.WashPotsSaid := over
#print axioms proved
end Go.Proofs.Ytbckhllkjlgbpaa.washPots
namespace Go.Proofs.Ytbckhllkjlgbpaa
/-- The row, under a short name, for the claim. -/
theorem washPots_holds : Rows.WashPotsSaid := washPots.proved
end Go.Proofs.Ytbckhllkjlgbpaa
