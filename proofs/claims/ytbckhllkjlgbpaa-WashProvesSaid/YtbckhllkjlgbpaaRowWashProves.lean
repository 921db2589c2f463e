/- For every input: washing: which moves prove that a lot is finer is what the document says, and such moves are found exactly if it is finer. The law returns true and leaves its arguments as they were. No further conditions. -/
import Derived.Test.YtbckhllkjlgbpaaRows
import Derived.Test.YtbckhllkjlgbpaaOpen
import Derived.Test.YtbckhllkjlgbpaaInWashProves
import Derived.Test.YtbckhllkjlgbpaaP16
import Derived.WalkKit
import Derived.ProofKit
import Derived.OpenShut
import Derived.ShutString
import Derived.ChangeOld
import Derived.Below
import Derived.SizedLaws
import Derived.Lib.SmallJoins
namespace Go.Proofs.Ytbckhllkjlgbpaa.washProves
open Go.ChangeShapes Go.WideShapes Go.ChangeAt Go.RowKit Go.Joins
open Go.Proofs.Ytbckhllkjlgbpaa.P Go.Proofs.YtbckhllkjlgbpaaW.PrintWords
set_option linter.unusedVariables false
theorem own : ownKnob Try.prog.godebug = none := by kernel_rfl
theorem laidOut : laidOutB Try.prog = true := by kernel_rfl
set_option maxRecDepth 100000 in
theorem lifted (os : Os) (started : os.Started) (H : Type) (enc : TypeId × Value → H) :
    ReturnsInHanded {} Try.checked os 16 .any (Rows.washProvesSpec.pre6 enc Try.prog Try.f16 Rows.washProvesRow.domain false) (Rows.washProvesSpec.post enc Try.prog Try.f16 false true false false) := by
  refine returnsInHanded_of_change_sized (C := Try.checked) own started (by kernel_rfl) Try.func16
    (ChangeSpec.witness6 (enc := enc) (C := Try.checked) false ⟨#[], #[.slice none 0 0, .slice none 0 0, .slice none 0 0], []⟩ 8 (by kernel_rfl) (by kernel_rfl) (by kernel_rfl) (by kernel_rfl)) ?_
  intro W base args ds gs before hval0 hW hcnd hsz0 _
  have hsz : (DataW.weightsEach Try.prog (Try.f16.params.toList ++ Rows.washProvesSpec.plain.varTypes Try.prog) (ds ++ gs)).all (· ≤ reachBytes) = true := hsz0
  have hval : ∀ (j : Nat) t v, Try.f16.params[j]? = some t → args[j]? = some v → Value.okWide Try.prog W .any base t v := hval0
  have hW' := hW
  obtain ⟨p, q, hA0, hV, rfl, hfz, hnd⟩ := hW
  have hA : DataW.TrodAll enc Try.prog W 0 (fun _ => true) true Try.f16.params.toList args.toList ds p := hA0
  rw [Try.params16] at hA hval hsz
  obtain ⟨v0, vs0, d0, ds0, p0, q0, hargs, rfl, rfl, h0, r0⟩ := trodAll_cons hA
  obtain ⟨v1, vs1, d1, ds1, p1, q1, rfl, rfl, rfl, h1, r1⟩ := trodAll_cons r0
  obtain ⟨v2, vs2, d2, ds2, p2, q2, rfl, rfl, rfl, h2, r2⟩ := trodAll_cons r1
  obtain ⟨rfl, rfl, rfl⟩ := trodAll_nil r2
  obtain rfl : args = #[v0, v1, v2] := by cases args; simp_all
  obtain ⟨rfl, rfl⟩ := trodVars_none hV
  obtain ⟨a0, len0, cap0, rfl⟩ := okWide_slice Try.underlying22 (hval 0 22 v0 rfl rfl)
  have k0 := h0
  have lt0 : ∀ x ∈ p0, x.block < W.heap.size := by obtain ⟨m, hm⟩ := k0; exact DataW.trod_lt m _ _ _ hm
  obtain ⟨L0, hC0, hcap0, hle0, hwf0, hd0⟩ := open_structs k58 (fun ns => (⟨ns.getD 0 0, ns.getD 1 0⟩ : S58)) Try.underlying22 Try.underlying58 (by kernel_rfl) (by kernel_rfl) (by kernel_rfl) rfl (mk58_of) h0
  have y0 : L0.length * 16 ≤ 140737488351232 := by rw [hcap0]; exact sized_any hsz (j := 0) (t := 22) rfl rfl Try.underlying22 (by kernel_rfl) hd0
  subst hcap0
  have hwf0 : ∀ x ∈ L0, Ok58 x := fun x hx => ok58_of (hwf0 x hx)
  obtain ⟨l0, hlen0, htk0⟩ : ∃ l : List S58, len0 = l.length ∧ l = L0.take l.length := ⟨L0.take len0, by simp; omega, by simp⟩
  subst hlen0
  have hCl0 : Kd.C k58 W a0 l0.length l0 := by rw [htk0]; exact C_take _ hC0
  have hwl0 : ∀ x ∈ l0, Ok58 x := fun x hx => hwf0 x (List.mem_of_mem_take (htk0 ▸ hx))
  obtain ⟨a1, len1, cap1, rfl⟩ := okWide_slice Try.underlying22 (hval 1 22 v1 rfl rfl)
  have k1 := h1
  have lt1 : ∀ x ∈ p1, x.block < W.heap.size := by obtain ⟨m, hm⟩ := k1; exact DataW.trod_lt m _ _ _ hm
  obtain ⟨L1, hC1, hcap1, hle1, hwf1, hd1⟩ := open_structs k58 (fun ns => (⟨ns.getD 0 0, ns.getD 1 0⟩ : S58)) Try.underlying22 Try.underlying58 (by kernel_rfl) (by kernel_rfl) (by kernel_rfl) rfl (mk58_of) h1
  have y1 : L1.length * 16 ≤ 140737488351232 := by rw [hcap1]; exact sized_any hsz (j := 1) (t := 22) rfl rfl Try.underlying22 (by kernel_rfl) hd1
  subst hcap1
  have hwf1 : ∀ x ∈ L1, Ok58 x := fun x hx => ok58_of (hwf1 x hx)
  obtain ⟨l1, hlen1, htk1⟩ : ∃ l : List S58, len1 = l.length ∧ l = L1.take l.length := ⟨L1.take len1, by simp; omega, by simp⟩
  subst hlen1
  have hCl1 : Kd.C k58 W a1 l1.length l1 := by rw [htk1]; exact C_take _ hC1
  have hwl1 : ∀ x ∈ l1, Ok58 x := fun x hx => hwf1 x (List.mem_of_mem_take (htk1 ▸ hx))
  obtain ⟨a2, len2, cap2, rfl⟩ := okWide_slice Try.underlying45 (hval 2 45 v2 rfl rfl)
  have k2 := h2
  have lt2 : ∀ x ∈ p2, x.block < W.heap.size := by obtain ⟨m, hm⟩ := k2; exact DataW.trod_lt m _ _ _ hm
  obtain ⟨L2, hC2, hcap2, hle2, hwf2, hd2⟩ := open_structs k83 (fun ns => (⟨ns.getD 0 0, ns.getD 1 0, ns.getD 2 0⟩ : S83)) Try.underlying45 Try.underlying83 (by kernel_rfl) (by kernel_rfl) (by kernel_rfl) rfl (mk83_of) h2
  have y2 : L2.length * 24 ≤ 140737488351232 := by rw [hcap2]; exact sized_any hsz (j := 2) (t := 45) rfl rfl Try.underlying45 (by kernel_rfl) hd2
  subst hcap2
  have hwf2 : ∀ x ∈ L2, Ok83 x := fun x hx => ok83_of (hwf2 x hx)
  obtain ⟨l2, hlen2, htk2⟩ : ∃ l : List S83, len2 = l.length ∧ l = L2.take l.length := ⟨L2.take len2, by simp; omega, by simp⟩
  subst hlen2
  have hCl2 : Kd.C k83 W a2 l2.length l2 := by rw [htk2]; exact C_take _ hC2
  have hwl2 : ∀ x ∈ l2, Ok83 x := fun x hx => hwf2 x (List.mem_of_mem_take (htk2 ▸ hx))
  clear hA0 hval0 hsz0 hsz
  obtain ⟨K, hK⟩ := in_WashProves l0 l1 l2 (by omega) hwl0 (by omega) hwl1 (by omega) hwl2
  replace hK : ∀ k, K ≤ k → verditerlaw01_washProves.f k l0 l1 l2 = some true := hK
  obtain ⟨k, hk⟩ : ∃ k, verditerlaw01_WashProves.f k l0 L0 l1 L1 l2 L2 = some true := by
    obtain ⟨K0, hK0⟩ := keptGrains L0 (by omega)
    replace hK0 : ∀ k, K0 ≤ k → verditerref01_KeptGrains.f k L0 L0 = some true := hK0
    obtain ⟨K1, hK1⟩ := keptGrains L1 (by omega)
    replace hK1 : ∀ k, K1 ≤ k → verditerref01_KeptGrains.f k L1 L1 = some true := hK1
    obtain ⟨K2, hK2⟩ := keptMoves L2 (by omega)
    replace hK2 : ∀ k, K2 ≤ k → verditerref01_KeptMoves.f k L2 L2 = some true := hK2
    refine ⟨(max (max (max K K0) K1) K2), ?_⟩
    unfold verditerlaw01_WashProves.f
    rw [keepGrains L0 (by omega), keepGrains L1 (by omega), keepMoves L2 (by omega)]
    simp only [Option.bind_some]
    rw [hK _ (by omega)]
    simp only [Option.bind_some, if_true]
    rw [hK0 _ (by omega)]
    simp only [Option.bind_some, if_true]
    rw [hK1 _ (by omega)]
    simp only [Option.bind_some, if_true]
    rw [hK2 _ (by omega)]
    rfl
  refine (verditerlaw01_WashProves.calls k _ l0 L0 _ l1 L1 _ l2 L2 true W hCl0 hle0 hC0 hCl1 hle1 hC1 hCl2 hle2 hC2 hk).mono fun e W' ⟨he, bel⟩ => ?_
  subst he
  exact ⟨_, rfl, _, _, _, [], _, [], hW', trodAll_mk1 (shut_bool Try.underlying4 _), (trodAll_cons_mk (Below.trod laidOut (by kernel_rfl) (of_decide_eq_true (by kernel_rfl)) k0 bel lt0) (trodAll_cons_mk (Below.trod laidOut (by kernel_rfl) (of_decide_eq_true (by kernel_rfl)) k1 bel lt1) (trodAll_cons_mk (Below.trod laidOut (by kernel_rfl) (of_decide_eq_true (by kernel_rfl)) k2 bel lt2) trodAll_mk0))), rfl, bel.frame _, fun h => by cases h⟩
theorem over : Rows.washProvesRow.holds Try.pinned (OpenSpec.ofChange Rows.washProvesSpec) :=
  OpenClaim.holds_of_wide 16 Try.f16 rfl rfl rfl rfl rfl rfl rfl ⟨rfl, rfl, rfl, rfl, rfl⟩ rfl rfl rfl rfl rfl (by kernel_rfl) Try.func16 (by kernel_rfl)
    (of_decide_eq_true (by kernel_rfl)) (by unfold Func.isWrapper; first | (rw [if_pos (by decide +kernel)]; kernel_rfl) | (rw [if_neg (by decide +kernel)]; exact ⟨rfl, rfl⟩))
    (fun os started H enc _ => lifted os started H enc)
theorem proved : Rows.WashProvesSaid := over
#print axioms proved
end Go.Proofs.Ytbckhllkjlgbpaa.washProves
namespace Go.Proofs.Ytbckhllkjlgbpaa
/-- The row, under a short name, for the claim. -/
theorem washProves_holds : Rows.WashProvesSaid := washProves.proved
end Go.Proofs.Ytbckhllkjlgbpaa
