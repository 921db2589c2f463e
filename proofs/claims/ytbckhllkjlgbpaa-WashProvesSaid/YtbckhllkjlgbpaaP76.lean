/- Ytbckhllkjlgbpaa: functions of the translation as Lean functions, with their contracts; written by a program of the session. -/
import Derived.Test.YtbckhllkjlgbpaaP0
import Derived.Test.YtbckhllkjlgbpaaP59
import Derived.Test.YtbckhllkjlgbpaaPa
import Derived.Test.YtbckhllkjlgbpaaPf
namespace Go.Proofs.Ytbckhllkjlgbpaa.P
open Go.RowKit Go.Proofs.YtbckhllkjlgbpaaW.PrintWords Go.Proofs.YtbckhllkjlgbpaaW.PrintLast Go.Proofs.YtbckhllkjlgbpaaW.PrintMore
attribute [local go_sem] max2_int min2_int max_two min_two max_three min_three max_four min_four   -- for this text's walks alone
set_option linter.unusedVariables false
set_option linter.unusedSimpArgs false

/-! ### verditerref01_Grind: function 76 -/
mutual
def verditerref01_Grind.l0 : Nat → List (S58) → List (S83) → Int → Option ((List (S58)) × Int)
  | 0, _, _, _ => none
  | k + 1, x0, x1, x7 => if x7 < (x1.length : Int) then (if 0 ≤ x7 then ((verditerref01_Within.f ((rd_T83 x1 x7).f0) 1 20).bind fun t104 => (if t104 = true then ((verditerref01_Within.f ((rd_T83 x1 x7).f1) 1 20).bind fun t105 => (if t105 = true then (if ((rd_T83 x1 x7).f0) ≤ ((rd_T83 x1 x7).f1) then (some (([] : List (S58)), 1)) else ((verditerref01_Within.f ((rd_T83 x1 x7).f2) 1 100).bind fun t106 => (if t106 = true then (verditerref01_Grind.l0 k x0 x1 (wrap64 (x7 + 1))) else (some (([] : List (S58)), 1))))) else (some (([] : List (S58)), 1)))) else (some (([] : List (S58)), 1)))) else (none)) else ((verditerref01_masses.f k x0).bind fun t107 => (verditerref01_Grind.l1 k x1 t107 0))
def verditerref01_Grind.l1 : Nat → List (S83) → List Int → Int → Option ((List (S58)) × Int)
  | 0, _, _, _ => none
  | k + 1, x1, x9, x10 => if x10 < (x1.length : Int) then (if 0 ≤ x10 then (if 0 ≤ ((rd_T83 x1 x10).f0) then (if ((rd_T83 x1 x10).f0) < (x9.length : Int) then (if (rd x9 ((rd_T83 x1 x10).f0)) < ((rd_T83 x1 x10).f2) then (some (([] : List (S58)), 9)) else ((some (x9.set (((rd_T83 x1 x10).f0) : Int).toNat (wrap64 ((rd x9 ((rd_T83 x1 x10).f0)) - ((rd_T83 x1 x10).f2))) : List Int)).bind fun y114 => (if 0 ≤ ((rd_T83 x1 x10).f1) then (if ((rd_T83 x1 x10).f1) < (x9.length : Int) then (verditerref01_Grind.l1 k x1 (y114.set (((rd_T83 x1 x10).f1) : Int).toNat (wrap64 ((rd y114 ((rd_T83 x1 x10).f1)) + ((rd_T83 x1 x10).f2)))) (wrap64 (x10 + 1))) else (none)) else (none)))) else (none)) else (none)) else (none)) else ((verditerref01_lot.f k x9).bind fun t117 => ((verditerref01_Validate.f k t117).bind fun t120 => (if t120 = 0 then (some (t117, 0)) else (some (([] : List (S58)), t120)))))
end
def verditerref01_Grind.f (k : Nat) (l0 : List (S58)) (l1 : List (S83)) : Option ((List (S58)) × Int) := (verditerref01_Validate.f k l0).bind fun t101 => (if t101 = 0 then (if (l1.length : Int) > 12 then (some (([] : List (S58)), 3)) else (verditerref01_Grind.l0 k l0 l1 0)) else (some (([] : List (S58)), t101)))
theorem verditerref01_Grind.mono_l : ∀ k, (∀ y0 y1 y2, LeO (verditerref01_Grind.l0 k y0 y1 y2) (verditerref01_Grind.l0 (k + 1) y0 y1 y2)) ∧ (∀ y0 y1 y2, LeO (verditerref01_Grind.l1 k y0 y1 y2) (verditerref01_Grind.l1 (k + 1) y0 y1 y2))
  | 0 => ⟨fun _ _ _ r h => by simp [verditerref01_Grind.l0] at h, fun _ _ _ r h => by simp [verditerref01_Grind.l1] at h⟩
  | k + 1 => by
    obtain ⟨ih0, ih1⟩ := verditerref01_Grind.mono_l k
    refine ⟨?_, ?_⟩
    · intro y0 y1 y2
      unfold verditerref01_Grind.l0
      repeat' first
      | (with_reducible exact ih0 _ _ _)
      | (with_reducible exact ih1 _ _ _)
      | (with_reducible exact verditerref01_Validate.mono _ _)
      | (with_reducible exact verditerref01_lot.mono _ _)
      | (with_reducible exact verditerref01_masses.mono _ _)
      | (with_reducible exact LeO.refl _)
      | (with_reducible exact LeO.none _)
      | (with_reducible refine LeO.ite ?_ ?_)
      | (with_reducible refine LeO.bind ?_ (fun _ => ?_))
      | exact ih0 _ _ _
      | exact ih1 _ _ _
      | exact verditerref01_Validate.mono _ _
      | exact verditerref01_lot.mono _ _
      | exact verditerref01_masses.mono _ _
      | exact LeO.none _
      | refine LeO.ite ?_ ?_
      | refine LeO.bind ?_ (fun _ => ?_)
    · intro y0 y1 y2
      unfold verditerref01_Grind.l1
      repeat' first
      | (with_reducible exact ih0 _ _ _)
      | (with_reducible exact ih1 _ _ _)
      | (with_reducible exact verditerref01_Validate.mono _ _)
      | (with_reducible exact verditerref01_lot.mono _ _)
      | (with_reducible exact verditerref01_masses.mono _ _)
      | (with_reducible exact LeO.refl _)
      | (with_reducible exact LeO.none _)
      | (with_reducible refine LeO.ite ?_ ?_)
      | (with_reducible refine LeO.bind ?_ (fun _ => ?_))
      | exact ih0 _ _ _
      | exact ih1 _ _ _
      | exact verditerref01_Validate.mono _ _
      | exact verditerref01_lot.mono _ _
      | exact verditerref01_masses.mono _ _
      | exact LeO.none _
      | refine LeO.ite ?_ ?_
      | refine LeO.bind ?_ (fun _ => ?_)
theorem verditerref01_Grind.mono : ∀ a0 a1 k, LeO (verditerref01_Grind.f k a0 a1) (verditerref01_Grind.f (k + 1) a0 a1) := by
  intro a0 a1 k
  obtain ⟨ih0, ih1⟩ := verditerref01_Grind.mono_l k
  unfold verditerref01_Grind.f
  repeat' first
      | (with_reducible exact ih0 _ _ _)
      | (with_reducible exact ih1 _ _ _)
      | (with_reducible exact verditerref01_Validate.mono _ _)
      | (with_reducible exact verditerref01_lot.mono _ _)
      | (with_reducible exact verditerref01_masses.mono _ _)
      | (with_reducible exact LeO.refl _)
      | (with_reducible exact LeO.none _)
      | (with_reducible refine LeO.ite ?_ ?_)
      | (with_reducible refine LeO.bind ?_ (fun _ => ?_))
      | exact ih0 _ _ _
      | exact ih1 _ _ _
      | exact verditerref01_Validate.mono _ _
      | exact verditerref01_lot.mono _ _
      | exact verditerref01_masses.mono _ _
      | exact LeO.none _
      | refine LeO.ite ?_ ?_
      | refine LeO.bind ?_ (fun _ => ?_)
def verditerref01_Grind.T17 : Bool × List (List Nat × List Nat) := (true, [([], []), ([], []), ([1], [1]), ([0, 2], [0, 2]), ([3], [3]), ([], []), ([5], [5]), ([4, 6], [4, 6])])
def verditerref01_Grind.B17 : List Nat := [0, 0, 2, 7, 15, 0, 32, 127]
theorem verditerref01_Grind.tab17 : rtab .any (opsOf Try.f76 17) = verditerref01_Grind.T17 := by kernel_rfl
theorem verditerref01_Grind.bits17 : waitsOk verditerref01_Grind.T17.2 verditerref01_Grind.B17 = true := by kernel_rfl
def verditerref01_Grind.T19 : Bool × List (List Nat × List Nat) := (true, [([], []), ([], []), ([1], [1]), ([0, 2], [0, 2]), ([3], [3]), ([], []), ([5], [5]), ([4, 6], [4, 6]), ([0, 2, 0, 1, 2, 3, 4, 5, 6, 7], [0, 2]), ([8, 7, 0, 1, 2, 3, 4, 5, 6, 7], [7, 8])])
def verditerref01_Grind.B19 : List Nat := [0, 0, 2, 7, 15, 0, 32, 127, 255, 511]
theorem verditerref01_Grind.tab19 : rtab .any (opsOf Try.f76 19) = verditerref01_Grind.T19 := by kernel_rfl
theorem verditerref01_Grind.bits19 : waitsOk verditerref01_Grind.T19.2 verditerref01_Grind.B19 = true := by kernel_rfl
def verditerref01_Grind.T20 : Bool × List (List Nat × List Nat) := (true, [([], []), ([], []), ([1], [1]), ([0, 2], [0, 2]), ([3], [3]), ([], []), ([5], [5]), ([4, 6], [4, 6]), ([0, 2, 0, 1, 2, 3, 4, 5, 6, 7], [0, 2]), ([8, 7, 0, 1, 2, 3, 4, 5, 6, 7], [7, 8])])
def verditerref01_Grind.B20 : List Nat := [0, 0, 2, 7, 15, 0, 32, 127, 255, 511]
theorem verditerref01_Grind.tab20 : rtab .any (opsOf Try.f76 20) = verditerref01_Grind.T20 := by kernel_rfl
theorem verditerref01_Grind.bits20 : waitsOk verditerref01_Grind.T20.2 verditerref01_Grind.B20 = true := by kernel_rfl
set_option maxHeartbeats 8000000 in
set_option maxRecDepth 100000 in
theorem verditerref01_Grind.calls (k : Nat) (A0 : Option Addr) (c0 : Nat) (l0 : List (S58)) (A1 : Option Addr) (c1 : Nat) (l1 : List (S83)) (r1 : List (S58)) (r2 : Int) (w : World) (hr0 : Kd.C k58 w A0 l0.length l0) (hc0 : l0.length ≤ c0) (hr1 : Kd.C k83 w A1 l1.length l1) (hc1 : l1.length ≤ c1) (h : verditerref01_Grind.f k l0 l1 = some (r1, r2)) :
    Calls Try.prog 76 #[.slice A0 l0.length c0, .slice A1 l1.length c1] w fun e w' => ∃ v0_ : Value, e = .returned (.tuple #[v0_, .int .i64 r2]) ∧ Kd.R k58 58 w' w.heap.size (fun _ => True) v0_ r1 ∧ Below w.heap.size w w' := by
  have hu83 := Try.underlying83
  have HR0 := Aside0.mk hr0
  have HC0 := Aside0.mk hc0
  clear hr0 hc0
  have HR1 := Aside0.mk hr1
  have HC1 := Aside0.mk hc1
  clear hr1 hc1
  have HB := Aside0.mk (Below.refl w.heap.size w)
  have H : ((verditerref01_Validate.f k l0).bind fun t101 => (if t101 = 0 then (if (l1.length : Int) > 12 then (some (([] : List (S58)), 3)) else (verditerref01_Grind.l0 k l0 l1 0)) else (some (([] : List (S58)), t101)))) = some (r1, r2) := h
  clear h
  replace H := Option.bind_eq_some_iff.mp H
  obtain ⟨t101, A30, H⟩ := H
  replace H : (if t101 = 0 then (if (l1.length : Int) > 12 then (some (([] : List (S58)), 3)) else (verditerref01_Grind.l0 k l0 l1 0)) else (some (([] : List (S58)), t101))) = some (r1, r2) := H
  have A3 := Aside0.mk A30
  clear A30
  by_cases c4 : t101 = 0
  · rw [if_pos c4] at H
    have c4b0 : (t101 == 0) = true := beq_iff_eq.mpr c4
    have c4b1 : (t101 != 0) = false := bne_eq_false_iff_eq.mpr c4
    clear c4
    by_cases c5 : (l1.length : Int) > 12
    · rw [if_pos c5] at H
      have c5b0 : decide (12 < (l1.length : Int)) = true := decide_eq_true c5
      have c5b1 : decide (12 < l1.length) = true := decide_eq_true (by omega)
      clear c5
      simp only [Option.some.injEq, Prod.mk.injEq] at H
      obtain ⟨rfl, rfl⟩ := H
      go_enter Try.func76, Try.ntmps76
      go_wp2_with (first | ((with_reducible refine gate_callee (f := 59) rfl ?_); refine goesL_ (some 15) rfl rfl Try.func59 (by kernel_rfl) rfl #[.slice A0 l0.length c0] rfl (by (try simp only [List.map_toArray, List.map_cons, List.map_nil]); first | done | rfl | (simp only [List.length_drop, List.length_take]; rfl)) ?_; (with_reducible refine (verditerref01_Validate.calls k _ _ l0 t101 _ ?side1 ?side2 A3.out).mono ?_); (case side1 => repeat (first | exact HR0.out | (with_reducible refine Kd.C_alloc ?_ _) | (with_reducible refine Kd.C_drewN ?_ _) | (with_reducible refine Kd.C_drew ?_))); (case side2 => exact HC0.out); rintro e w6 ⟨rfl, hb⟩; refine ⟨_, rfl, ?_⟩; have n0_ := Aside0.mk (below_step (by repeat (first | (with_reducible first | exact HB.out | apply below_alloc | apply pw_below_drewN | apply below_drew1) | exact HB.out)) hb); clear HB; have HB := n0_; clear n0_; (try clear hb); (try clear hb2); (try clear hk); (try clear hi)))
      go_ret2
      exact ⟨_, by first | rfl | (simp [errW_none, errW_some] <;> rfl) | (simp [*, errW_none, errW_some] <;> rfl), by first | exact Kd.R_nil _ _ _ _ _ | exact Kd.N_nil _ _ _ _ _ | exact Kd.V_nil _ _ _ _ _ | exact Kd.Q_nil _ _ _ _ _ | exact Kd.S_nil _ _ _ _ _, by repeat (first | (with_reducible first | exact HB.out | apply below_alloc | apply pw_below_drewN | apply below_drew1) | exact HB.out)⟩
    · rw [if_neg c5] at H
      have c5b0 : decide (12 < (l1.length : Int)) = false := decide_eq_false c5
      have c5b1 : decide (12 < l1.length) = false := decide_eq_false (by omega)
      clear c5
      have H' := Aside0.mk H
      clear H
      go_enter Try.func76, Try.ntmps76
      go_wp2_with (first | ((with_reducible refine gate_callee (f := 59) rfl ?_); refine goesL_ (some 15) rfl rfl Try.func59 (by kernel_rfl) rfl #[.slice A0 l0.length c0] rfl (by (try simp only [List.map_toArray, List.map_cons, List.map_nil]); first | done | rfl | (simp only [List.length_drop, List.length_take]; rfl)) ?_; (with_reducible refine (verditerref01_Validate.calls k _ _ l0 t101 _ ?side1 ?side2 A3.out).mono ?_); (case side1 => repeat (first | exact HR0.out | (with_reducible refine Kd.C_alloc ?_ _) | (with_reducible refine Kd.C_drewN ?_ _) | (with_reducible refine Kd.C_drew ?_))); (case side2 => exact HC0.out); rintro e w7 ⟨rfl, hb⟩; refine ⟨_, rfl, ?_⟩; have n0_ := Aside0.mk (below_step (by repeat (first | (with_reducible first | exact HB.out | apply below_alloc | apply pw_below_drewN | apply below_drew1) | exact HB.out)) hb); clear HB; have HB := n0_; clear n0_; (try clear hb); (try clear hb2); (try clear hk); (try clear hi)))
      go_loopg [7] k (fun kq v7 w' => ∃ (x7_1 : Int), v7 = .int .i64 x7_1 ∧ Aside0 (verditerref01_Grind.l0 kq l0 l1 x7_1 = some (r1, r2)) ∧ Aside0 (kq ≤ k) ∧ Aside0 (Below w.heap.size w w'))
      case atStart => exact ⟨(0), (by first | rfl | (simp; done) | (simp [*]; done)), H', ⟨Nat.le_refl _⟩, ⟨by repeat (first | (with_reducible first | exact HB.out | apply below_alloc | apply pw_below_drewN | apply below_drew1) | exact HB.out)⟩⟩
      case round =>
        clear H'
        try clear c1
        try clear p2
        try clear c4
        try clear c4b0
        try clear c4b1
        try clear c5
        try clear c5b0
        try clear c5b1
        try clear c7
        obtain ⟨x7_1, rfl, HA, HK1, HB⟩ := hrel
        cases gk with
        | zero => exact absurd HA.out (by simp [verditerref01_Grind.l0])
        | succ k1 =>
          have H := HA.out
          clear HA
          simp only [verditerref01_Grind.l0] at H
          by_cases c8 : x7_1 < (l1.length : Int)
          · rw [if_pos c8] at H
            have c8b0 : decide (x7_1 < (l1.length : Int)) = true := decide_eq_true c8
            clear c8
            by_cases c9 : 0 ≤ x7_1
            · rw [if_pos c9] at H
              have c9b0 : decide (0 ≤ x7_1) = true := decide_eq_true c9
              clear c9
              replace H := Option.bind_eq_some_iff.mp H
              obtain ⟨t104, A100, H⟩ := H
              replace H : (if t104 = true then ((verditerref01_Within.f ((rd_T83 l1 x7_1).f1) 1 20).bind fun t105 => (if t105 = true then (if ((rd_T83 l1 x7_1).f0) ≤ ((rd_T83 l1 x7_1).f1) then (some (([] : List (S58)), 1)) else ((verditerref01_Within.f ((rd_T83 l1 x7_1).f2) 1 100).bind fun t106 => (if t106 = true then (verditerref01_Grind.l0 k1 l0 l1 (wrap64 (x7_1 + 1))) else (some (([] : List (S58)), 1))))) else (some (([] : List (S58)), 1)))) else (some (([] : List (S58)), 1))) = some (r1, r2) := H
              have A10 := Aside0.mk A100
              clear A100
              by_cases c11 : t104 = true
              · subst c11
                have H1 : ((verditerref01_Within.f ((rd_T83 l1 x7_1).f1) 1 20).bind fun t105 => (if t105 = true then (if ((rd_T83 l1 x7_1).f0) ≤ ((rd_T83 l1 x7_1).f1) then (some (([] : List (S58)), 1)) else ((verditerref01_Within.f ((rd_T83 l1 x7_1).f2) 1 100).bind fun t106 => (if t106 = true then (verditerref01_Grind.l0 k1 l0 l1 (wrap64 (x7_1 + 1))) else (some (([] : List (S58)), 1))))) else (some (([] : List (S58)), 1)))) = some (r1, r2) := by rw [if_pos rfl] at H; exact H
                clear H
                have H := H1
                clear H1
                replace H := Option.bind_eq_some_iff.mp H
                obtain ⟨t105, A120, H⟩ := H
                replace H : (if t105 = true then (if ((rd_T83 l1 x7_1).f0) ≤ ((rd_T83 l1 x7_1).f1) then (some (([] : List (S58)), 1)) else ((verditerref01_Within.f ((rd_T83 l1 x7_1).f2) 1 100).bind fun t106 => (if t106 = true then (verditerref01_Grind.l0 k1 l0 l1 (wrap64 (x7_1 + 1))) else (some (([] : List (S58)), 1))))) else (some (([] : List (S58)), 1))) = some (r1, r2) := H
                have A12 := Aside0.mk A120
                clear A120
                by_cases c13 : t105 = true
                · subst c13
                  have H1 : (if ((rd_T83 l1 x7_1).f0) ≤ ((rd_T83 l1 x7_1).f1) then (some (([] : List (S58)), 1)) else ((verditerref01_Within.f ((rd_T83 l1 x7_1).f2) 1 100).bind fun t106 => (if t106 = true then (verditerref01_Grind.l0 k1 l0 l1 (wrap64 (x7_1 + 1))) else (some (([] : List (S58)), 1))))) = some (r1, r2) := by rw [if_pos rfl] at H; exact H
                  clear H
                  have H := H1
                  clear H1
                  by_cases c14 : ((rd_T83 l1 x7_1).f0) ≤ ((rd_T83 l1 x7_1).f1)
                  · rw [if_pos c14] at H
                    have c14b0 : decide (((rd_T83 l1 x7_1).f0) ≤ ((rd_T83 l1 x7_1).f1)) = true := decide_eq_true c14
                    clear c14
                    simp only [Option.some.injEq, Prod.mk.injEq] at H
                    obtain ⟨rfl, rfl⟩ := H
                    have p102 : 0 ≤ (x7_1 : Int) := of_decide_eq_true (by first | (with_reducible assumption) | assumption)
                    have q102 : x7_1 < (l1.length : Int) := of_decide_eq_true (by first | (with_reducible assumption) | assumption)
                    obtain ⟨ad102, e102, hx102_0, hx102_1, hx102_2⟩ := at_T83 HR1.out x7_1 p102 q102
                    cases e102
                    replace hx102_0 := (HB.out.cell (World.block_lt_of_cell? w _ hx102_0)).trans hx102_0
                    replace hx102_1 := (HB.out.cell (World.block_lt_of_cell? w _ hx102_1)).trans hx102_1
                    replace hx102_2 := (HB.out.cell (World.block_lt_of_cell? w _ hx102_2)).trans hx102_2
                    replace p102 := eq_true p102
                    replace q102 := eq_true q102
                    go_wp2_with (first | ((with_reducible refine gate_dst (N := 8) rfl ?_); refine box_event ?hg (N := 8) ?hd (cs := #[.int .i64 0, .int .i64 0, .int .i64 0]) (t := 83) ?hr ?_; (case hd => rfl); (case hg => rfl); (case hr => first | (go_simp; done) | (go_simp; rfl)); intro gb103 hg w15 hbox hb; have n0_ := Aside0.mk (below_step (by repeat (first | (with_reducible first | exact HB.out | apply below_alloc | apply pw_below_drewN | apply below_drew1) | exact HB.out)) hb); have n1_ := Aside0.mk (hbox); have n2_ := Aside0.mk ((by rw [hg]; exact (below_size (by repeat (first | (with_reducible first | exact HB.out | apply below_alloc | apply pw_below_drewN | apply below_drew1) | exact HB.out))) : w.heap.size ≤ gb103)); have n3_ := Aside0.mk ((by rw [hg]; exact (below_size (by repeat (first | (with_reducible first | exact HB.out | apply below_alloc | apply pw_below_drewN | apply below_drew1) | exact HB.out))) : w.heap.size ≤ gb103)); clear HB; have HB := n0_; have BK103 := n1_; have GW103 := n2_; have GE103 := n3_; clear n0_ n1_ n2_ n3_; clear hb hbox hg; have hcz16_0 : w15.cell? ⟨gb103, 0, none⟩ = some (.int .i64 0) := (blk_cell BK103.out 0).trans rfl; have hcz16_1 : w15.cell? ⟨gb103, 1, none⟩ = some (.int .i64 0) := (blk_cell BK103.out 1).trans rfl; have hcz16_2 : w15.cell? ⟨gb103, 2, none⟩ = some (.int .i64 0) := (blk_cell BK103.out 2).trans rfl; have hfz16_0 := blk_frozen BK103.out 0; have hfz16_1 := blk_frozen BK103.out 1; have hfz16_2 := blk_frozen BK103.out 2) | ((with_reducible refine gate_callee (f := 49) rfl ?_); refine goesL_ (some 34) rfl rfl Try.func49 (by kernel_rfl) rfl #[.int .i64 ((rd_T83 l1 x7_1).f0), .int .i64 1, .int .i64 20] rfl (by (try simp only [List.map_toArray, List.map_cons, List.map_nil]); first | done | rfl | (simp only [List.length_drop, List.length_take]; rfl)) ?_; (with_reducible refine (verditerref01_Within.calls ((rd_T83 l1 x7_1).f0) 1 20 true _ A10.out).mono ?_); rintro e w' ⟨rfl, ⟨nd, rfl⟩⟩; refine ⟨_, rfl, ?_⟩) | (go_at_call 49; (with_reducible refine (verditerref01_Within.calls ((rd_T83 l1 x7_1).f1) 1 20 true _ A12.out).mono ?_); rintro e w' ⟨rfl, ⟨nd, rfl⟩⟩))
                    go_ret2
                    exact ⟨_, by first | rfl | (simp [errW_none, errW_some] <;> rfl) | (simp [*, errW_none, errW_some] <;> rfl), by first | exact Kd.R_nil _ _ _ _ _ | exact Kd.N_nil _ _ _ _ _ | exact Kd.V_nil _ _ _ _ _ | exact Kd.Q_nil _ _ _ _ _ | exact Kd.S_nil _ _ _ _ _, by repeat (first | (with_reducible first | exact HB.out | apply below_alloc | apply pw_below_drewN | apply below_drew1 | refine below_set ?_ GE103.out) | exact HB.out)⟩
                  · rw [if_neg c14] at H
                    have c14b0 : decide (((rd_T83 l1 x7_1).f0) ≤ ((rd_T83 l1 x7_1).f1)) = false := decide_eq_false c14
                    clear c14
                    replace H := Option.bind_eq_some_iff.mp H
                    obtain ⟨t106, A170, H⟩ := H
                    replace H : (if t106 = true then (verditerref01_Grind.l0 k1 l0 l1 (wrap64 (x7_1 + 1))) else (some (([] : List (S58)), 1))) = some (r1, r2) := H
                    have A17 := Aside0.mk A170
                    clear A170
                    by_cases c18 : t106 = true
                    · subst c18
                      have H1 : (verditerref01_Grind.l0 k1 l0 l1 (wrap64 (x7_1 + 1))) = some (r1, r2) := by rw [if_pos rfl] at H; exact H
                      clear H
                      have H := H1
                      clear H1
                      have H' := Aside0.mk H
                      clear H
                      have p102 : 0 ≤ (x7_1 : Int) := of_decide_eq_true (by first | (with_reducible assumption) | assumption)
                      have q102 : x7_1 < (l1.length : Int) := of_decide_eq_true (by first | (with_reducible assumption) | assumption)
                      obtain ⟨ad102, e102, hx102_0, hx102_1, hx102_2⟩ := at_T83 HR1.out x7_1 p102 q102
                      cases e102
                      replace hx102_0 := (HB.out.cell (World.block_lt_of_cell? w _ hx102_0)).trans hx102_0
                      replace hx102_1 := (HB.out.cell (World.block_lt_of_cell? w _ hx102_1)).trans hx102_1
                      replace hx102_2 := (HB.out.cell (World.block_lt_of_cell? w _ hx102_2)).trans hx102_2
                      replace p102 := eq_true p102
                      replace q102 := eq_true q102
                      go_wp2_with (first | ((with_reducible refine gate_dst (N := 8) rfl ?_); refine box_event ?hg (N := 8) ?hd (cs := #[.int .i64 0, .int .i64 0, .int .i64 0]) (t := 83) ?hr ?_; (case hd => rfl); (case hg => rfl); (case hr => first | (go_simp; done) | (go_simp; rfl)); intro gb103 hg w19 hbox hb; have n0_ := Aside0.mk (below_step (by repeat (first | (with_reducible first | exact HB.out | apply below_alloc | apply pw_below_drewN | apply below_drew1) | exact HB.out)) hb); have n1_ := Aside0.mk (hbox); have n2_ := Aside0.mk ((by rw [hg]; exact (below_size (by repeat (first | (with_reducible first | exact HB.out | apply below_alloc | apply pw_below_drewN | apply below_drew1) | exact HB.out))) : w.heap.size ≤ gb103)); have n3_ := Aside0.mk ((by rw [hg]; exact (below_size (by repeat (first | (with_reducible first | exact HB.out | apply below_alloc | apply pw_below_drewN | apply below_drew1) | exact HB.out))) : w.heap.size ≤ gb103)); clear HB; have HB := n0_; have BK103 := n1_; have GW103 := n2_; have GE103 := n3_; clear n0_ n1_ n2_ n3_; clear hb hbox hg; have hcz20_0 : w19.cell? ⟨gb103, 0, none⟩ = some (.int .i64 0) := (blk_cell BK103.out 0).trans rfl; have hcz20_1 : w19.cell? ⟨gb103, 1, none⟩ = some (.int .i64 0) := (blk_cell BK103.out 1).trans rfl; have hcz20_2 : w19.cell? ⟨gb103, 2, none⟩ = some (.int .i64 0) := (blk_cell BK103.out 2).trans rfl; have hfz20_0 := blk_frozen BK103.out 0; have hfz20_1 := blk_frozen BK103.out 1; have hfz20_2 := blk_frozen BK103.out 2) | ((with_reducible refine gate_callee (f := 49) rfl ?_); refine goesL_ (some 34) rfl rfl Try.func49 (by kernel_rfl) rfl #[.int .i64 ((rd_T83 l1 x7_1).f0), .int .i64 1, .int .i64 20] rfl (by (try simp only [List.map_toArray, List.map_cons, List.map_nil]); first | done | rfl | (simp only [List.length_drop, List.length_take]; rfl)) ?_; (with_reducible refine (verditerref01_Within.calls ((rd_T83 l1 x7_1).f0) 1 20 true _ A10.out).mono ?_); rintro e w' ⟨rfl, ⟨nd, rfl⟩⟩; refine ⟨_, rfl, ?_⟩) | (go_at_call 49; (with_reducible refine (verditerref01_Within.calls ((rd_T83 l1 x7_1).f1) 1 20 true _ A12.out).mono ?_); rintro e w' ⟨rfl, ⟨nd, rfl⟩⟩) | (go_at_call 49; (with_reducible refine (verditerref01_Within.calls ((rd_T83 l1 x7_1).f2) 1 100 true _ A17.out).mono ?_); rintro e w' ⟨rfl, ⟨nd, rfl⟩⟩))
                      go_roundg k1
                      case measure => have := HK1.out; omega
                      case rel => exact ⟨(wrap64 (x7_1 + 1)), (by first | rfl | (simp; done) | (simp [*]; done)), H', ⟨by have := HK1.out; omega⟩, ⟨by repeat (first | (with_reducible first | exact HB.out | apply below_alloc | apply pw_below_drewN | apply below_drew1 | refine below_set ?_ GE103.out) | exact HB.out)⟩⟩
                    · replace c18 := Bool.eq_false_iff.mpr c18
                      subst c18
                      have H1 : (some (([] : List (S58)), 1)) = some (r1, r2) := by rw [if_neg (show ¬ (false = true) by decide)] at H; exact H
                      clear H
                      have H := H1
                      clear H1
                      simp only [Option.some.injEq, Prod.mk.injEq] at H
                      obtain ⟨rfl, rfl⟩ := H
                      have p102 : 0 ≤ (x7_1 : Int) := of_decide_eq_true (by first | (with_reducible assumption) | assumption)
                      have q102 : x7_1 < (l1.length : Int) := of_decide_eq_true (by first | (with_reducible assumption) | assumption)
                      obtain ⟨ad102, e102, hx102_0, hx102_1, hx102_2⟩ := at_T83 HR1.out x7_1 p102 q102
                      cases e102
                      replace hx102_0 := (HB.out.cell (World.block_lt_of_cell? w _ hx102_0)).trans hx102_0
                      replace hx102_1 := (HB.out.cell (World.block_lt_of_cell? w _ hx102_1)).trans hx102_1
                      replace hx102_2 := (HB.out.cell (World.block_lt_of_cell? w _ hx102_2)).trans hx102_2
                      replace p102 := eq_true p102
                      replace q102 := eq_true q102
                      go_wp2_with (first | ((with_reducible refine gate_dst (N := 8) rfl ?_); refine box_event ?hg (N := 8) ?hd (cs := #[.int .i64 0, .int .i64 0, .int .i64 0]) (t := 83) ?hr ?_; (case hd => rfl); (case hg => rfl); (case hr => first | (go_simp; done) | (go_simp; rfl)); intro gb103 hg w21 hbox hb; have n0_ := Aside0.mk (below_step (by repeat (first | (with_reducible first | exact HB.out | apply below_alloc | apply pw_below_drewN | apply below_drew1) | exact HB.out)) hb); have n1_ := Aside0.mk (hbox); have n2_ := Aside0.mk ((by rw [hg]; exact (below_size (by repeat (first | (with_reducible first | exact HB.out | apply below_alloc | apply pw_below_drewN | apply below_drew1) | exact HB.out))) : w.heap.size ≤ gb103)); have n3_ := Aside0.mk ((by rw [hg]; exact (below_size (by repeat (first | (with_reducible first | exact HB.out | apply below_alloc | apply pw_below_drewN | apply below_drew1) | exact HB.out))) : w.heap.size ≤ gb103)); clear HB; have HB := n0_; have BK103 := n1_; have GW103 := n2_; have GE103 := n3_; clear n0_ n1_ n2_ n3_; clear hb hbox hg; have hcz22_0 : w21.cell? ⟨gb103, 0, none⟩ = some (.int .i64 0) := (blk_cell BK103.out 0).trans rfl; have hcz22_1 : w21.cell? ⟨gb103, 1, none⟩ = some (.int .i64 0) := (blk_cell BK103.out 1).trans rfl; have hcz22_2 : w21.cell? ⟨gb103, 2, none⟩ = some (.int .i64 0) := (blk_cell BK103.out 2).trans rfl; have hfz22_0 := blk_frozen BK103.out 0; have hfz22_1 := blk_frozen BK103.out 1; have hfz22_2 := blk_frozen BK103.out 2) | ((with_reducible refine gate_callee (f := 49) rfl ?_); refine goesL_ (some 34) rfl rfl Try.func49 (by kernel_rfl) rfl #[.int .i64 ((rd_T83 l1 x7_1).f0), .int .i64 1, .int .i64 20] rfl (by (try simp only [List.map_toArray, List.map_cons, List.map_nil]); first | done | rfl | (simp only [List.length_drop, List.length_take]; rfl)) ?_; (with_reducible refine (verditerref01_Within.calls ((rd_T83 l1 x7_1).f0) 1 20 true _ A10.out).mono ?_); rintro e w' ⟨rfl, ⟨nd, rfl⟩⟩; refine ⟨_, rfl, ?_⟩) | (go_at_call 49; (with_reducible refine (verditerref01_Within.calls ((rd_T83 l1 x7_1).f1) 1 20 true _ A12.out).mono ?_); rintro e w' ⟨rfl, ⟨nd, rfl⟩⟩) | (go_at_call 49; (with_reducible refine (verditerref01_Within.calls ((rd_T83 l1 x7_1).f2) 1 100 false _ A17.out).mono ?_); rintro e w' ⟨rfl, ⟨nd, rfl⟩⟩))
                      go_ret2
                      exact ⟨_, by first | rfl | (simp [errW_none, errW_some] <;> rfl) | (simp [*, errW_none, errW_some] <;> rfl), by first | exact Kd.R_nil _ _ _ _ _ | exact Kd.N_nil _ _ _ _ _ | exact Kd.V_nil _ _ _ _ _ | exact Kd.Q_nil _ _ _ _ _ | exact Kd.S_nil _ _ _ _ _, by repeat (first | (with_reducible first | exact HB.out | apply below_alloc | apply pw_below_drewN | apply below_drew1 | refine below_set ?_ GE103.out) | exact HB.out)⟩
                · replace c13 := Bool.eq_false_iff.mpr c13
                  subst c13
                  have H1 : (some (([] : List (S58)), 1)) = some (r1, r2) := by rw [if_neg (show ¬ (false = true) by decide)] at H; exact H
                  clear H
                  have H := H1
                  clear H1
                  simp only [Option.some.injEq, Prod.mk.injEq] at H
                  obtain ⟨rfl, rfl⟩ := H
                  have p102 : 0 ≤ (x7_1 : Int) := of_decide_eq_true (by first | (with_reducible assumption) | assumption)
                  have q102 : x7_1 < (l1.length : Int) := of_decide_eq_true (by first | (with_reducible assumption) | assumption)
                  obtain ⟨ad102, e102, hx102_0, hx102_1, hx102_2⟩ := at_T83 HR1.out x7_1 p102 q102
                  cases e102
                  replace hx102_0 := (HB.out.cell (World.block_lt_of_cell? w _ hx102_0)).trans hx102_0
                  replace hx102_1 := (HB.out.cell (World.block_lt_of_cell? w _ hx102_1)).trans hx102_1
                  replace hx102_2 := (HB.out.cell (World.block_lt_of_cell? w _ hx102_2)).trans hx102_2
                  replace p102 := eq_true p102
                  replace q102 := eq_true q102
                  go_wp2_with (first | ((with_reducible refine gate_dst (N := 8) rfl ?_); refine box_event ?hg (N := 8) ?hd (cs := #[.int .i64 0, .int .i64 0, .int .i64 0]) (t := 83) ?hr ?_; (case hd => rfl); (case hg => rfl); (case hr => first | (go_simp; done) | (go_simp; rfl)); intro gb103 hg w23 hbox hb; have n0_ := Aside0.mk (below_step (by repeat (first | (with_reducible first | exact HB.out | apply below_alloc | apply pw_below_drewN | apply below_drew1) | exact HB.out)) hb); have n1_ := Aside0.mk (hbox); have n2_ := Aside0.mk ((by rw [hg]; exact (below_size (by repeat (first | (with_reducible first | exact HB.out | apply below_alloc | apply pw_below_drewN | apply below_drew1) | exact HB.out))) : w.heap.size ≤ gb103)); have n3_ := Aside0.mk ((by rw [hg]; exact (below_size (by repeat (first | (with_reducible first | exact HB.out | apply below_alloc | apply pw_below_drewN | apply below_drew1) | exact HB.out))) : w.heap.size ≤ gb103)); clear HB; have HB := n0_; have BK103 := n1_; have GW103 := n2_; have GE103 := n3_; clear n0_ n1_ n2_ n3_; clear hb hbox hg; have hcz24_0 : w23.cell? ⟨gb103, 0, none⟩ = some (.int .i64 0) := (blk_cell BK103.out 0).trans rfl; have hcz24_1 : w23.cell? ⟨gb103, 1, none⟩ = some (.int .i64 0) := (blk_cell BK103.out 1).trans rfl; have hcz24_2 : w23.cell? ⟨gb103, 2, none⟩ = some (.int .i64 0) := (blk_cell BK103.out 2).trans rfl; have hfz24_0 := blk_frozen BK103.out 0; have hfz24_1 := blk_frozen BK103.out 1; have hfz24_2 := blk_frozen BK103.out 2) | ((with_reducible refine gate_callee (f := 49) rfl ?_); refine goesL_ (some 34) rfl rfl Try.func49 (by kernel_rfl) rfl #[.int .i64 ((rd_T83 l1 x7_1).f0), .int .i64 1, .int .i64 20] rfl (by (try simp only [List.map_toArray, List.map_cons, List.map_nil]); first | done | rfl | (simp only [List.length_drop, List.length_take]; rfl)) ?_; (with_reducible refine (verditerref01_Within.calls ((rd_T83 l1 x7_1).f0) 1 20 true _ A10.out).mono ?_); rintro e w' ⟨rfl, ⟨nd, rfl⟩⟩; refine ⟨_, rfl, ?_⟩) | (go_at_call 49; (with_reducible refine (verditerref01_Within.calls ((rd_T83 l1 x7_1).f1) 1 20 false _ A12.out).mono ?_); rintro e w' ⟨rfl, ⟨nd, rfl⟩⟩))
                  go_ret2
                  exact ⟨_, by first | rfl | (simp [errW_none, errW_some] <;> rfl) | (simp [*, errW_none, errW_some] <;> rfl), by first | exact Kd.R_nil _ _ _ _ _ | exact Kd.N_nil _ _ _ _ _ | exact Kd.V_nil _ _ _ _ _ | exact Kd.Q_nil _ _ _ _ _ | exact Kd.S_nil _ _ _ _ _, by repeat (first | (with_reducible first | exact HB.out | apply below_alloc | apply pw_below_drewN | apply below_drew1 | refine below_set ?_ GE103.out) | exact HB.out)⟩
              · replace c11 := Bool.eq_false_iff.mpr c11
                subst c11
                have H1 : (some (([] : List (S58)), 1)) = some (r1, r2) := by rw [if_neg (show ¬ (false = true) by decide)] at H; exact H
                clear H
                have H := H1
                clear H1
                simp only [Option.some.injEq, Prod.mk.injEq] at H
                obtain ⟨rfl, rfl⟩ := H
                have p102 : 0 ≤ (x7_1 : Int) := of_decide_eq_true (by first | (with_reducible assumption) | assumption)
                have q102 : x7_1 < (l1.length : Int) := of_decide_eq_true (by first | (with_reducible assumption) | assumption)
                obtain ⟨ad102, e102, hx102_0, hx102_1, hx102_2⟩ := at_T83 HR1.out x7_1 p102 q102
                cases e102
                replace hx102_0 := (HB.out.cell (World.block_lt_of_cell? w _ hx102_0)).trans hx102_0
                replace hx102_1 := (HB.out.cell (World.block_lt_of_cell? w _ hx102_1)).trans hx102_1
                replace hx102_2 := (HB.out.cell (World.block_lt_of_cell? w _ hx102_2)).trans hx102_2
                replace p102 := eq_true p102
                replace q102 := eq_true q102
                go_wp2_with (first | ((with_reducible refine gate_dst (N := 8) rfl ?_); refine box_event ?hg (N := 8) ?hd (cs := #[.int .i64 0, .int .i64 0, .int .i64 0]) (t := 83) ?hr ?_; (case hd => rfl); (case hg => rfl); (case hr => first | (go_simp; done) | (go_simp; rfl)); intro gb103 hg w25 hbox hb; have n0_ := Aside0.mk (below_step (by repeat (first | (with_reducible first | exact HB.out | apply below_alloc | apply pw_below_drewN | apply below_drew1) | exact HB.out)) hb); have n1_ := Aside0.mk (hbox); have n2_ := Aside0.mk ((by rw [hg]; exact (below_size (by repeat (first | (with_reducible first | exact HB.out | apply below_alloc | apply pw_below_drewN | apply below_drew1) | exact HB.out))) : w.heap.size ≤ gb103)); have n3_ := Aside0.mk ((by rw [hg]; exact (below_size (by repeat (first | (with_reducible first | exact HB.out | apply below_alloc | apply pw_below_drewN | apply below_drew1) | exact HB.out))) : w.heap.size ≤ gb103)); clear HB; have HB := n0_; have BK103 := n1_; have GW103 := n2_; have GE103 := n3_; clear n0_ n1_ n2_ n3_; clear hb hbox hg; have hcz26_0 : w25.cell? ⟨gb103, 0, none⟩ = some (.int .i64 0) := (blk_cell BK103.out 0).trans rfl; have hcz26_1 : w25.cell? ⟨gb103, 1, none⟩ = some (.int .i64 0) := (blk_cell BK103.out 1).trans rfl; have hcz26_2 : w25.cell? ⟨gb103, 2, none⟩ = some (.int .i64 0) := (blk_cell BK103.out 2).trans rfl; have hfz26_0 := blk_frozen BK103.out 0; have hfz26_1 := blk_frozen BK103.out 1; have hfz26_2 := blk_frozen BK103.out 2) | ((with_reducible refine gate_callee (f := 49) rfl ?_); refine goesL_ (some 34) rfl rfl Try.func49 (by kernel_rfl) rfl #[.int .i64 ((rd_T83 l1 x7_1).f0), .int .i64 1, .int .i64 20] rfl (by (try simp only [List.map_toArray, List.map_cons, List.map_nil]); first | done | rfl | (simp only [List.length_drop, List.length_take]; rfl)) ?_; (with_reducible refine (verditerref01_Within.calls ((rd_T83 l1 x7_1).f0) 1 20 false _ A10.out).mono ?_); rintro e w' ⟨rfl, ⟨nd, rfl⟩⟩; refine ⟨_, rfl, ?_⟩))
                go_ret2
                exact ⟨_, by first | rfl | (simp [errW_none, errW_some] <;> rfl) | (simp [*, errW_none, errW_some] <;> rfl), by first | exact Kd.R_nil _ _ _ _ _ | exact Kd.N_nil _ _ _ _ _ | exact Kd.V_nil _ _ _ _ _ | exact Kd.Q_nil _ _ _ _ _ | exact Kd.S_nil _ _ _ _ _, by repeat (first | (with_reducible first | exact HB.out | apply below_alloc | apply pw_below_drewN | apply below_drew1 | refine below_set ?_ GE103.out) | exact HB.out)⟩
            · rw [if_neg c9] at H
              exact absurd H (by simp)
          · rw [if_neg c8] at H
            have c8b0 : decide (x7_1 < (l1.length : Int)) = false := decide_eq_false c8
            clear c8
            replace H := Option.bind_eq_some_iff.mp H
            obtain ⟨t107, A270, H⟩ := H
            replace H : (verditerref01_Grind.l1 k1 l1 t107 0) = some (r1, r2) := H
            have A27 := Aside0.mk A270
            clear A270
            have H' := Aside0.mk H
            clear H
            go_wp2_with (first | ((with_reducible refine gate_callee (f := 94) rfl ?_); refine goesL_ (some 56) rfl rfl Try.func94 (by kernel_rfl) rfl #[.slice A0 l0.length c0] rfl (by (try simp only [List.map_toArray, List.map_cons, List.map_nil]); first | done | rfl | (simp only [List.length_drop, List.length_take]; rfl)) ?_; (with_reducible refine (verditerref01_masses.calls k1 _ _ l0 t107 _ ?side1 ?side2 A27.out).mono ?_); (case side1 => repeat (first | exact (Kd.C_below HR0.out HB.out) | (with_reducible refine Kd.C_alloc ?_ _) | (with_reducible refine Kd.C_drewN ?_ _) | (with_reducible refine Kd.C_drew ?_))); (case side2 => exact HC0.out); rintro e w28 ⟨v108, rfl, ho0, hb⟩; refine ⟨_, rfl, ?_⟩; have n0_ := Aside0.mk (Kd.R_lower ho0 (below_size (by repeat (first | (with_reducible first | exact HB.out | apply below_alloc | apply pw_below_drewN | apply below_drew1) | exact HB.out)))); have n1_ := Aside0.mk (below_step (by repeat (first | (with_reducible first | exact HB.out | apply below_alloc | apply pw_below_drewN | apply below_drew1) | exact HB.out)) hb); clear HB; have HO109 := n0_; have HB := n1_; clear n0_ n1_; (try clear hb); (try clear hb2); (try clear hk); (try clear hi); (try clear ho0)))
            go_loopg [10] k1 (fun kq v10 w' => ∃ (x9_2 : List Int) (x10_2 : Int), v10 = .int .i64 x10_2 ∧ Aside0 (verditerref01_Grind.l1 kq l1 x9_2 x10_2 = some (r1, r2)) ∧ Aside0 (kq ≤ k1) ∧ Aside0 (Kd.R (Kd.int .i64) 3 w' w.heap.size (fun _ => True) v108 x9_2) ∧ Aside0 (Below w.heap.size w w'))
            case atStart => exact ⟨(t107), (0), (by first | rfl | (simp; done) | (simp [*]; done)), H', ⟨Nat.le_refl _⟩, ⟨by (with_reducible repeat (first | apply Kd.R_alloc | apply Kd.R_drewN | apply Kd.R_drew)); exact HO109.out⟩, ⟨by repeat (first | (with_reducible first | exact HB.out | apply below_alloc | apply pw_below_drewN | apply below_drew1) | exact HB.out)⟩⟩
            case round =>
              clear H'
              try clear c1
              try clear p1
              try clear q1
              try clear hx1
              try clear p2
              try clear c4
              try clear c4b0
              try clear c4b1
              try clear c5
              try clear c5b0
              try clear c5b1
              try clear p6
              try clear c7
              try clear c8
              try clear c8b0
              try clear c9
              try clear c9b0
              try clear p10
              try clear q10
              try clear hx10
              try clear c11
              try clear c13
              try clear c14
              try clear c14b0
              try clear c18
              try clear hcz16_0
              try clear hcz16_1
              try clear hcz16_2
              try clear hcz20_0
              try clear hcz20_1
              try clear hcz20_2
              try clear hcz22_0
              try clear hcz22_1
              try clear hcz22_2
              try clear hcz24_0
              try clear hcz24_1
              try clear hcz24_2
              try clear hcz26_0
              try clear hcz26_1
              try clear hcz26_2
              try clear hfz16_0
              try clear hfz16_1
              try clear hfz16_2
              try clear hfz20_0
              try clear hfz20_1
              try clear hfz20_2
              try clear hfz22_0
              try clear hfz22_1
              try clear hfz22_2
              try clear hfz24_0
              try clear hfz24_1
              try clear hfz24_2
              try clear hfz26_0
              try clear hfz26_1
              try clear hfz26_2
              try clear hx102_0
              try clear hx102_1
              try clear hx102_2
              try clear p102
              try clear p2
              try clear q102
              obtain ⟨x9_2, x10_2, rfl, HA, HK2, HO_9, HB⟩ := hrel
              cases gk with
              | zero => exact absurd HA.out (by simp [verditerref01_Grind.l1])
              | succ k2 =>
                have H := HA.out
                clear HA
                simp only [verditerref01_Grind.l1] at H
                by_cases c29 : x10_2 < (l1.length : Int)
                · rw [if_pos c29] at H
                  have c29b0 : decide (x10_2 < (l1.length : Int)) = true := decide_eq_true c29
                  clear c29
                  by_cases c30 : 0 ≤ x10_2
                  · rw [if_pos c30] at H
                    have c30b0 : decide (0 ≤ x10_2) = true := decide_eq_true c30
                    clear c30
                    by_cases c31 : 0 ≤ ((rd_T83 l1 x10_2).f0)
                    · rw [if_pos c31] at H
                      have c31b0 : decide (0 ≤ ((rd_T83 l1 x10_2).f0)) = true := decide_eq_true c31
                      clear c31
                      by_cases c32 : ((rd_T83 l1 x10_2).f0) < (x9_2.length : Int)
                      · rw [if_pos c32] at H
                        have c32b0 : decide (((rd_T83 l1 x10_2).f0) < (x9_2.length : Int)) = true := decide_eq_true c32
                        clear c32
                        by_cases c33 : (rd x9_2 ((rd_T83 l1 x10_2).f0)) < ((rd_T83 l1 x10_2).f2)
                        · rw [if_pos c33] at H
                          have c33b0 : decide ((rd x9_2 ((rd_T83 l1 x10_2).f0)) < ((rd_T83 l1 x10_2).f2)) = true := decide_eq_true c33
                          clear c33
                          simp only [Option.some.injEq, Prod.mk.injEq] at H
                          obtain ⟨rfl, rfl⟩ := H
                          have p110 : 0 ≤ (x10_2 : Int) := of_decide_eq_true (by first | (with_reducible assumption) | assumption)
                          have q110 : x10_2 < (l1.length : Int) := of_decide_eq_true (by first | (with_reducible assumption) | assumption)
                          obtain ⟨ad110, e110, hx110_0, hx110_1, hx110_2⟩ := at_T83 HR1.out x10_2 p110 q110
                          cases e110
                          replace hx110_0 := (HB.out.cell (World.block_lt_of_cell? w _ hx110_0)).trans hx110_0
                          replace hx110_1 := (HB.out.cell (World.block_lt_of_cell? w _ hx110_1)).trans hx110_1
                          replace hx110_2 := (HB.out.cell (World.block_lt_of_cell? w _ hx110_2)).trans hx110_2
                          replace p110 := eq_true p110
                          replace q110 := eq_true q110
                          try go_wp2_with (first | ((with_reducible refine gate_dst (N := 11) rfl ?_); refine box_event ?hg (N := 11) ?hd (cs := #[.int .i64 0, .int .i64 0, .int .i64 0]) (t := 83) ?hr ?_; (case hd => rfl); (case hg => rfl); (case hr => first | (go_simp; done) | (go_simp; rfl)); intro gb111 hg w34 hbox hb; have n0_ := Aside0.mk (Kd.R_below (by (with_reducible repeat (first | apply Kd.R_alloc | apply Kd.R_drewN | apply Kd.R_drew)); exact HO_9.out) hb); have n1_ := Aside0.mk (below_step (by repeat (first | (with_reducible first | exact HB.out | apply below_alloc | apply pw_below_drewN | apply below_drew1) | exact HB.out)) hb); have n2_ := Aside0.mk (hbox); have n3_ := Aside0.mk ((by rw [hg]; exact (below_size (by repeat (first | (with_reducible first | exact HB.out | apply below_alloc | apply pw_below_drewN | apply below_drew1) | exact HB.out))) : w.heap.size ≤ gb111)); have n4_ := Aside0.mk ((by rw [hg]; exact (below_size (by repeat (first | (with_reducible first | exact HB.out | apply below_alloc | apply pw_below_drewN | apply below_drew1) | exact HB.out))) : w.heap.size ≤ gb111)); clear HO_9; clear HB; have HO_9 := n0_; have HB := n1_; have BK111 := n2_; have GW111 := n3_; have GE111 := n4_; clear n0_ n1_ n2_ n3_ n4_; clear hb hbox hg; have hcz35_0 : w34.cell? ⟨gb111, 0, none⟩ = some (.int .i64 0) := (blk_cell BK111.out 0).trans rfl; have hcz35_1 : w34.cell? ⟨gb111, 1, none⟩ = some (.int .i64 0) := (blk_cell BK111.out 1).trans rfl; have hcz35_2 : w34.cell? ⟨gb111, 2, none⟩ = some (.int .i64 0) := (blk_cell BK111.out 2).trans rfl; have hfz35_0 := blk_frozen BK111.out 0; have hfz35_1 := blk_frozen BK111.out 1; have hfz35_2 := blk_frozen BK111.out 2))
                          have n0_ : Aside0 (Kd.R (Kd.int .i64) 3 (((w34.setCell ⟨gb111, 0, none⟩ (.int .i64 ((rd_T83 l1 x10_2).f0))).setCell ⟨gb111, 1, none⟩ (.int .i64 ((rd_T83 l1 x10_2).f1))).setCell ⟨gb111, 2, none⟩ (.int .i64 ((rd_T83 l1 x10_2).f2))) w.heap.size (fun _ => True) v108 x9_2) := ⟨by (with_reducible repeat (first | apply Kd.R_alloc | apply Kd.R_drewN | apply Kd.R_drew)); exact Kd.R_mono (Kd.R_far (p := ⟨gb111, 2, none⟩) (Kd.R_far (p := ⟨gb111, 1, none⟩) (Kd.R_far (p := ⟨gb111, 0, none⟩) (Kd.R_types HO_9.out BK111.out (by decide)) (fun _ hk => hk.2) (.int .i64 ((rd_T83 l1 x10_2).f0))) (fun _ hk => hk.2) (.int .i64 ((rd_T83 l1 x10_2).f1))) (fun _ hk => hk.2) (.int .i64 ((rd_T83 l1 x10_2).f2))) (fun _ hk => trivial)⟩
                          have n1_ : Aside0 ((((w34.setCell ⟨gb111, 0, none⟩ (.int .i64 ((rd_T83 l1 x10_2).f0))).setCell ⟨gb111, 1, none⟩ (.int .i64 ((rd_T83 l1 x10_2).f1))).setCell ⟨gb111, 2, none⟩ (.int .i64 ((rd_T83 l1 x10_2).f2))).heap[gb111]? = some (.cells #[.int .i64 ((rd_T83 l1 x10_2).f0), .int .i64 ((rd_T83 l1 x10_2).f1), .int .i64 ((rd_T83 l1 x10_2).f2)] 83 (0, 0))) := ⟨by (with_reducible repeat (first | refine blk_drewN ?_ _ | refine blk_drew ?_ | refine blk_alloc ?_ _)); refine blk_put (cs := #[.int .i64 ((rd_T83 l1 x10_2).f0), .int .i64 ((rd_T83 l1 x10_2).f1), .int .i64 0]) ?_ 2 _ rfl; (with_reducible repeat (first | refine blk_drewN ?_ _ | refine blk_drew ?_ | refine blk_alloc ?_ _)); refine blk_put (cs := #[.int .i64 ((rd_T83 l1 x10_2).f0), .int .i64 0, .int .i64 0]) ?_ 1 _ rfl; (with_reducible repeat (first | refine blk_drewN ?_ _ | refine blk_drew ?_ | refine blk_alloc ?_ _)); refine blk_put (cs := #[.int .i64 0, .int .i64 0, .int .i64 0]) ?_ 0 _ rfl; (with_reducible repeat (first | refine blk_drewN ?_ _ | refine blk_drew ?_ | refine blk_alloc ?_ _)); exact BK111.out⟩
                          have n2_ : Aside0 (Below w.heap.size w (((w34.setCell ⟨gb111, 0, none⟩ (.int .i64 ((rd_T83 l1 x10_2).f0))).setCell ⟨gb111, 1, none⟩ (.int .i64 ((rd_T83 l1 x10_2).f1))).setCell ⟨gb111, 2, none⟩ (.int .i64 ((rd_T83 l1 x10_2).f2)))) := ⟨by repeat (first | (with_reducible first | exact HB.out | apply below_alloc | apply pw_below_drewN | apply below_drew1 | refine below_set ?_ GE111.out) | exact HB.out)⟩
                          (try clear HO_9)
                          (try clear BK111)
                          (try clear HB)
                          generalize (((w34.setCell ⟨gb111, 0, none⟩ (.int .i64 ((rd_T83 l1 x10_2).f0))).setCell ⟨gb111, 1, none⟩ (.int .i64 ((rd_T83 l1 x10_2).f1))).setCell ⟨gb111, 2, none⟩ (.int .i64 ((rd_T83 l1 x10_2).f2))) = w36 at n0_ n1_ n2_ ⊢
                          have HO_9 := n0_
                          have BK111 := n1_
                          have HB := n2_
                          clear n0_ n1_ n2_
                          have n0_ := Aside0.mk (Kd.R_drew HO_9.out)
                          have n1_ := Aside0.mk (blk_drew BK111.out)
                          have n2_ := Aside0.mk (below_drew1 HB.out)
                          clear HO_9
                          clear BK111
                          clear HB
                          have HO_9 := n0_
                          have BK111 := n1_
                          have HB := n2_
                          clear n0_ n1_ n2_
                          obtain ⟨Ao38, co38, eo38⟩ := Kd.R_slice HO_9.out
                          (first | subst eo38 | (injection eo38 with f1_ f2_ f3_; have f4_ := f1_.symm; have f5_ := f3_.symm; clear f1_ f2_ f3_; subst f4_; subst f5_))
                          have p112 : 0 ≤ (((rd_T83 l1 x10_2).f0) : Int) := of_decide_eq_true (by first | (with_reducible assumption) | assumption)
                          have q112 : ((rd_T83 l1 x10_2).f0) < (x9_2.length : Int) := of_decide_eq_true (by first | (with_reducible assumption) | assumption)
                          obtain ⟨ad112, e112, hx112_0⟩ := Kd.at_int (Kd.R_reads' HO_9.out).2.2 ((rd_T83 l1 x10_2).f0) p112 q112
                          cases e112
                          replace p112 := eq_true p112
                          replace q112 := eq_true q112
                          refine start_ (n := 8) (S := fun w' => w'.cell? ⟨gb111, 0, none⟩ = some (.int .i64 ((rd_T83 l1 x10_2).f0)) ∧ w'.cell? ⟨gb111, 1, none⟩ = some (.int .i64 ((rd_T83 l1 x10_2).f1)) ∧ w'.cell? ⟨gb111, 2, none⟩ = some (.int .i64 ((rd_T83 l1 x10_2).f2)) ∧ w'.cell? (ad112.add (((rd_T83 l1 x10_2).f0)).toNat) = some (.int .i64 (rd x9_2 ((rd_T83 l1 x10_2).f0)))) (ds := []) #[false, false, false, false, false, false, false, false] (by kernel_rfl) rfl rfl ⟨(blk_cell BK111.out 0).trans rfl, (blk_cell BK111.out 1).trans rfl, (blk_cell BK111.out 2).trans rfl, hx112_0⟩ (fun hHeld => ?_); refine with_tabW verditerref01_Grind.tab17 verditerref01_Grind.bits17 (fun HT_ HW_ => ?_)
                          generalize w36.drew = w37 at HO_9 BK111 HB hx112_0 hHeld ⊢
                          refine pure_ (i := 0) (N := some 67) (v := ?_) (a' := ?_) #[true, false, false, false, false, false, false, false] rfl rfl (any_of HT_.out (by kernel_rfl)) (fun _ _ _ h => h) (Or.inl ⟨by rfl, ?_⟩) ?_ ?_
                          rotate_left
                          · intro w'
                            go_simp
                            with_reducible rfl
                          rotate_left
                          · simp only [Act.put, List.setIfInBounds_toArray, List.set_cons_zero, List.set_cons_succ, i64_w, i32_w]
                            rfl
                          refine pure_ (i := 1) (N := some 68) (v := ?_) (a' := ?_) #[true, true, false, false, false, false, false, false] rfl rfl (any_of HT_.out (by kernel_rfl)) (fun _ _ _ h => h) (Or.inl ⟨by rfl, ?_⟩) ?_ ?_
                          rotate_left
                          · intro w'
                            go_simp
                            with_reducible rfl
                          rotate_left
                          · simp only [Act.put, List.setIfInBounds_toArray, List.set_cons_zero, List.set_cons_succ, i64_w, i32_w]
                            rfl
                          refine pure_ (i := 5) (N := some 72) (v := ?_) (a' := ?_) #[true, true, false, false, false, true, false, false] rfl rfl (any_of HT_.out (by kernel_rfl)) (fun _ _ _ h => h) (Or.inl ⟨by rfl, ?_⟩) ?_ ?_
                          rotate_left
                          · intro w'
                            go_simp
                            with_reducible rfl
                          rotate_left
                          · simp only [Act.put, List.setIfInBounds_toArray, List.set_cons_zero, List.set_cons_succ, i64_w, i32_w]
                            rfl
                          refine take_ (i := 2) (N := some 69) (v := ?_) (a' := ?_) #[true, true, true, false, false, true, false, false] rfl rfl (take_ofW HT_.out HW_.out (by kernel_rfl)) (fun _ _ _ h => h) (Or.inl ⟨by rfl, ?_⟩) hHeld ?_ ?_
                          rotate_left
                          · rintro w' ⟨s0, s1, s2, s3⟩
                            go_simp
                            with_reducible rfl
                          rotate_left
                          · simp only [Act.put, List.setIfInBounds_toArray, List.set_cons_zero, List.set_cons_succ, i64_w, i32_w]
                            rfl
                          refine pure_ (i := 3) (N := some 70) (v := ?_) (a' := ?_) #[true, true, true, true, false, true, false, false] rfl rfl (any_of HT_.out (by kernel_rfl)) (fun _ _ _ h => h) (Or.inl ⟨by rfl, ?_⟩) ?_ ?_
                          rotate_left
                          · intro w'
                            go_simp
                            with_reducible rfl
                          rotate_left
                          · simp only [Act.put, List.setIfInBounds_toArray, List.set_cons_zero, List.set_cons_succ, i64_w, i32_w]
                            rfl
                          refine take_ (i := 4) (N := some 71) (v := ?_) (a' := ?_) #[true, true, true, true, true, true, false, false] rfl rfl (take_ofW HT_.out HW_.out (by kernel_rfl)) (fun _ _ _ h => h) (Or.inl ⟨by rfl, ?_⟩) hHeld ?_ ?_
                          rotate_left
                          · rintro w' ⟨s0, s1, s2, s3⟩
                            go_simp
                            with_reducible rfl
                          rotate_left
                          · simp only [Act.put, List.setIfInBounds_toArray, List.set_cons_zero, List.set_cons_succ, i64_w, i32_w]
                            rfl
                          refine take_ (i := 6) (N := some 73) (v := ?_) (a' := ?_) #[true, true, true, true, true, true, true, false] rfl rfl (take_ofW HT_.out HW_.out (by kernel_rfl)) (fun _ _ _ h => h) (Or.inl ⟨by rfl, ?_⟩) hHeld ?_ ?_
                          rotate_left
                          · rintro w' ⟨s0, s1, s2, s3⟩
                            go_simp
                            with_reducible rfl
                          rotate_left
                          · simp only [Act.put, List.setIfInBounds_toArray, List.set_cons_zero, List.set_cons_succ, i64_w, i32_w]
                            rfl
                          refine pure_ (i := 7) (N := some 74) (v := ?_) (a' := ?_) #[true, true, true, true, true, true, true, true] rfl rfl (any_of HT_.out (by kernel_rfl)) (fun _ _ _ h => h) (Or.inl ⟨by rfl, ?_⟩) ?_ ?_
                          rotate_left
                          · intro w'
                            go_simp
                            with_reducible rfl
                          rotate_left
                          · simp only [Act.put, List.setIfInBounds_toArray, List.set_cons_zero, List.set_cons_succ, i64_w, i32_w]
                            rfl
                          refine done_ (done_of HT_.out (by kernel_rfl)) ?_
                          try go_wp2
                          go_ret2
                          exact ⟨_, by first | rfl | (simp [errW_none, errW_some] <;> rfl) | (simp [*, errW_none, errW_some] <;> rfl), by first | exact Kd.R_nil _ _ _ _ _ | exact Kd.N_nil _ _ _ _ _ | exact Kd.V_nil _ _ _ _ _ | exact Kd.Q_nil _ _ _ _ _ | exact Kd.S_nil _ _ _ _ _, by repeat (first | (with_reducible first | exact HB.out | apply below_alloc | apply pw_below_drewN | apply below_drew1 | refine below_set ?_ GE111.out) | exact HB.out)⟩
                        · rw [if_neg c33] at H
                          have c33b0 : decide ((rd x9_2 ((rd_T83 l1 x10_2).f0)) < ((rd_T83 l1 x10_2).f2)) = false := decide_eq_false c33
                          clear c33
                          obtain ⟨y114, hy114⟩ : ∃ y_ : List Int, y_ = (x9_2.set (((rd_T83 l1 x10_2).f0) : Int).toNat (wrap64 ((rd x9_2 ((rd_T83 l1 x10_2).f0)) - ((rd_T83 l1 x10_2).f2)))) := ⟨_, rfl⟩
                          replace H : (if 0 ≤ ((rd_T83 l1 x10_2).f1) then (if ((rd_T83 l1 x10_2).f1) < (x9_2.length : Int) then (verditerref01_Grind.l1 k2 l1 (y114.set (((rd_T83 l1 x10_2).f1) : Int).toNat (wrap64 ((rd y114 ((rd_T83 l1 x10_2).f1)) + ((rd_T83 l1 x10_2).f2)))) (wrap64 (x10_2 + 1))) else (none)) else (none)) = some (r1, r2) := by first | (rw [hy114]; with_reducible exact H) | (have H2_ := (Option.bind_some _ _).symm.trans H; rw [hy114]; with_reducible exact H2_) | (have H2_ := (Option.bind_some _ _).symm.trans H; with_reducible exact H2_) | with_reducible exact H | (rw [hy114]; exact H) | exact H
                          have Ny114 := Aside0.mk hy114
                          clear hy114
                          by_cases c40 : 0 ≤ ((rd_T83 l1 x10_2).f1)
                          · rw [if_pos c40] at H
                            have c40b0 : decide (0 ≤ ((rd_T83 l1 x10_2).f1)) = true := decide_eq_true c40
                            clear c40
                            by_cases c41 : ((rd_T83 l1 x10_2).f1) < (x9_2.length : Int)
                            · rw [if_pos c41] at H
                              have c41b0 : decide (((rd_T83 l1 x10_2).f1) < (x9_2.length : Int)) = true := decide_eq_true c41
                              clear c41
                              obtain ⟨y116, hy116⟩ : ∃ y_ : List Int, y_ = (y114.set (((rd_T83 l1 x10_2).f1) : Int).toNat (wrap64 ((rd y114 ((rd_T83 l1 x10_2).f1)) + ((rd_T83 l1 x10_2).f2)))) := ⟨_, rfl⟩
                              replace H : (verditerref01_Grind.l1 k2 l1 y116 (wrap64 (x10_2 + 1))) = some (r1, r2) := by first | (rw [hy116]; with_reducible exact H) | (have H2_ := (Option.bind_some _ _).symm.trans H; rw [hy116]; with_reducible exact H2_) | (have H2_ := (Option.bind_some _ _).symm.trans H; with_reducible exact H2_) | with_reducible exact H | (rw [hy116]; exact H) | exact H
                              have Ny116 := Aside0.mk hy116
                              clear hy116
                              have H' := Aside0.mk H
                              clear H
                              have p110 : 0 ≤ (x10_2 : Int) := of_decide_eq_true (by first | (with_reducible assumption) | assumption)
                              have q110 : x10_2 < (l1.length : Int) := of_decide_eq_true (by first | (with_reducible assumption) | assumption)
                              obtain ⟨ad110, e110, hx110_0, hx110_1, hx110_2⟩ := at_T83 HR1.out x10_2 p110 q110
                              cases e110
                              replace hx110_0 := (HB.out.cell (World.block_lt_of_cell? w _ hx110_0)).trans hx110_0
                              replace hx110_1 := (HB.out.cell (World.block_lt_of_cell? w _ hx110_1)).trans hx110_1
                              replace hx110_2 := (HB.out.cell (World.block_lt_of_cell? w _ hx110_2)).trans hx110_2
                              replace p110 := eq_true p110
                              replace q110 := eq_true q110
                              try go_wp2_with (first | ((with_reducible refine gate_dst (N := 11) rfl ?_); refine box_event ?hg (N := 11) ?hd (cs := #[.int .i64 0, .int .i64 0, .int .i64 0]) (t := 83) ?hr ?_; (case hd => rfl); (case hg => rfl); (case hr => first | (go_simp; done) | (go_simp; rfl)); intro gb111 hg w43 hbox hb; have n0_ := Aside0.mk (Kd.R_below (by (with_reducible repeat (first | apply Kd.R_alloc | apply Kd.R_drewN | apply Kd.R_drew)); exact HO_9.out) hb); have n1_ := Aside0.mk (below_step (by repeat (first | (with_reducible first | exact HB.out | apply below_alloc | apply pw_below_drewN | apply below_drew1) | exact HB.out)) hb); have n2_ := Aside0.mk (hbox); have n3_ := Aside0.mk ((by rw [hg]; exact (below_size (by repeat (first | (with_reducible first | exact HB.out | apply below_alloc | apply pw_below_drewN | apply below_drew1) | exact HB.out))) : w.heap.size ≤ gb111)); have n4_ := Aside0.mk ((by rw [hg]; exact (below_size (by repeat (first | (with_reducible first | exact HB.out | apply below_alloc | apply pw_below_drewN | apply below_drew1) | exact HB.out))) : w.heap.size ≤ gb111)); clear HO_9; clear HB; have HO_9 := n0_; have HB := n1_; have BK111 := n2_; have GW111 := n3_; have GE111 := n4_; clear n0_ n1_ n2_ n3_ n4_; clear hb hbox hg; have hcz44_0 : w43.cell? ⟨gb111, 0, none⟩ = some (.int .i64 0) := (blk_cell BK111.out 0).trans rfl; have hcz44_1 : w43.cell? ⟨gb111, 1, none⟩ = some (.int .i64 0) := (blk_cell BK111.out 1).trans rfl; have hcz44_2 : w43.cell? ⟨gb111, 2, none⟩ = some (.int .i64 0) := (blk_cell BK111.out 2).trans rfl; have hfz44_0 := blk_frozen BK111.out 0; have hfz44_1 := blk_frozen BK111.out 1; have hfz44_2 := blk_frozen BK111.out 2))
                              have n0_ : Aside0 (Kd.R (Kd.int .i64) 3 (((w43.setCell ⟨gb111, 0, none⟩ (.int .i64 ((rd_T83 l1 x10_2).f0))).setCell ⟨gb111, 1, none⟩ (.int .i64 ((rd_T83 l1 x10_2).f1))).setCell ⟨gb111, 2, none⟩ (.int .i64 ((rd_T83 l1 x10_2).f2))) w.heap.size (fun _ => True) v108 x9_2) := ⟨by (with_reducible repeat (first | apply Kd.R_alloc | apply Kd.R_drewN | apply Kd.R_drew)); exact Kd.R_mono (Kd.R_far (p := ⟨gb111, 2, none⟩) (Kd.R_far (p := ⟨gb111, 1, none⟩) (Kd.R_far (p := ⟨gb111, 0, none⟩) (Kd.R_types HO_9.out BK111.out (by decide)) (fun _ hk => hk.2) (.int .i64 ((rd_T83 l1 x10_2).f0))) (fun _ hk => hk.2) (.int .i64 ((rd_T83 l1 x10_2).f1))) (fun _ hk => hk.2) (.int .i64 ((rd_T83 l1 x10_2).f2))) (fun _ hk => trivial)⟩
                              have n1_ : Aside0 ((((w43.setCell ⟨gb111, 0, none⟩ (.int .i64 ((rd_T83 l1 x10_2).f0))).setCell ⟨gb111, 1, none⟩ (.int .i64 ((rd_T83 l1 x10_2).f1))).setCell ⟨gb111, 2, none⟩ (.int .i64 ((rd_T83 l1 x10_2).f2))).heap[gb111]? = some (.cells #[.int .i64 ((rd_T83 l1 x10_2).f0), .int .i64 ((rd_T83 l1 x10_2).f1), .int .i64 ((rd_T83 l1 x10_2).f2)] 83 (0, 0))) := ⟨by (with_reducible repeat (first | refine blk_drewN ?_ _ | refine blk_drew ?_ | refine blk_alloc ?_ _)); refine blk_put (cs := #[.int .i64 ((rd_T83 l1 x10_2).f0), .int .i64 ((rd_T83 l1 x10_2).f1), .int .i64 0]) ?_ 2 _ rfl; (with_reducible repeat (first | refine blk_drewN ?_ _ | refine blk_drew ?_ | refine blk_alloc ?_ _)); refine blk_put (cs := #[.int .i64 ((rd_T83 l1 x10_2).f0), .int .i64 0, .int .i64 0]) ?_ 1 _ rfl; (with_reducible repeat (first | refine blk_drewN ?_ _ | refine blk_drew ?_ | refine blk_alloc ?_ _)); refine blk_put (cs := #[.int .i64 0, .int .i64 0, .int .i64 0]) ?_ 0 _ rfl; (with_reducible repeat (first | refine blk_drewN ?_ _ | refine blk_drew ?_ | refine blk_alloc ?_ _)); exact BK111.out⟩
                              have n2_ : Aside0 (Below w.heap.size w (((w43.setCell ⟨gb111, 0, none⟩ (.int .i64 ((rd_T83 l1 x10_2).f0))).setCell ⟨gb111, 1, none⟩ (.int .i64 ((rd_T83 l1 x10_2).f1))).setCell ⟨gb111, 2, none⟩ (.int .i64 ((rd_T83 l1 x10_2).f2)))) := ⟨by repeat (first | (with_reducible first | exact HB.out | apply below_alloc | apply pw_below_drewN | apply below_drew1 | refine below_set ?_ GE111.out) | exact HB.out)⟩
                              (try clear HO_9)
                              (try clear BK111)
                              (try clear HB)
                              generalize (((w43.setCell ⟨gb111, 0, none⟩ (.int .i64 ((rd_T83 l1 x10_2).f0))).setCell ⟨gb111, 1, none⟩ (.int .i64 ((rd_T83 l1 x10_2).f1))).setCell ⟨gb111, 2, none⟩ (.int .i64 ((rd_T83 l1 x10_2).f2))) = w45 at n0_ n1_ n2_ ⊢
                              have HO_9 := n0_
                              have BK111 := n1_
                              have HB := n2_
                              clear n0_ n1_ n2_
                              have n0_ := Aside0.mk (Kd.R_drew HO_9.out)
                              have n1_ := Aside0.mk (blk_drew BK111.out)
                              have n2_ := Aside0.mk (below_drew1 HB.out)
                              clear HO_9
                              clear BK111
                              clear HB
                              have HO_9 := n0_
                              have BK111 := n1_
                              have HB := n2_
                              clear n0_ n1_ n2_
                              obtain ⟨Ao47, co47, eo47⟩ := Kd.R_slice HO_9.out
                              (first | subst eo47 | (injection eo47 with f1_ f2_ f3_; have f4_ := f1_.symm; have f5_ := f3_.symm; clear f1_ f2_ f3_; subst f4_; subst f5_))
                              have p112 : 0 ≤ (((rd_T83 l1 x10_2).f0) : Int) := of_decide_eq_true (by first | (with_reducible assumption) | assumption)
                              have q112 : ((rd_T83 l1 x10_2).f0) < (x9_2.length : Int) := of_decide_eq_true (by first | (with_reducible assumption) | assumption)
                              obtain ⟨ad112, e112, hx112_0⟩ := Kd.at_int (Kd.R_reads' HO_9.out).2.2 ((rd_T83 l1 x10_2).f0) p112 q112
                              cases e112
                              replace p112 := eq_true p112
                              replace q112 := eq_true q112
                              refine start_ (n := 8) (S := fun w' => w'.cell? ⟨gb111, 0, none⟩ = some (.int .i64 ((rd_T83 l1 x10_2).f0)) ∧ w'.cell? ⟨gb111, 1, none⟩ = some (.int .i64 ((rd_T83 l1 x10_2).f1)) ∧ w'.cell? ⟨gb111, 2, none⟩ = some (.int .i64 ((rd_T83 l1 x10_2).f2)) ∧ w'.cell? (ad112.add (((rd_T83 l1 x10_2).f0)).toNat) = some (.int .i64 (rd x9_2 ((rd_T83 l1 x10_2).f0)))) (ds := []) #[false, false, false, false, false, false, false, false] (by kernel_rfl) rfl rfl ⟨(blk_cell BK111.out 0).trans rfl, (blk_cell BK111.out 1).trans rfl, (blk_cell BK111.out 2).trans rfl, hx112_0⟩ (fun hHeld => ?_); refine with_tabW verditerref01_Grind.tab17 verditerref01_Grind.bits17 (fun HT_ HW_ => ?_)
                              generalize w45.drew = w46 at HO_9 BK111 HB hx112_0 hHeld ⊢
                              refine pure_ (i := 0) (N := some 67) (v := ?_) (a' := ?_) #[true, false, false, false, false, false, false, false] rfl rfl (any_of HT_.out (by kernel_rfl)) (fun _ _ _ h => h) (Or.inl ⟨by rfl, ?_⟩) ?_ ?_
                              rotate_left
                              · intro w'
                                go_simp
                                with_reducible rfl
                              rotate_left
                              · simp only [Act.put, List.setIfInBounds_toArray, List.set_cons_zero, List.set_cons_succ, i64_w, i32_w]
                                rfl
                              refine pure_ (i := 1) (N := some 68) (v := ?_) (a' := ?_) #[true, true, false, false, false, false, false, false] rfl rfl (any_of HT_.out (by kernel_rfl)) (fun _ _ _ h => h) (Or.inl ⟨by rfl, ?_⟩) ?_ ?_
                              rotate_left
                              · intro w'
                                go_simp
                                with_reducible rfl
                              rotate_left
                              · simp only [Act.put, List.setIfInBounds_toArray, List.set_cons_zero, List.set_cons_succ, i64_w, i32_w]
                                rfl
                              refine pure_ (i := 5) (N := some 72) (v := ?_) (a' := ?_) #[true, true, false, false, false, true, false, false] rfl rfl (any_of HT_.out (by kernel_rfl)) (fun _ _ _ h => h) (Or.inl ⟨by rfl, ?_⟩) ?_ ?_
                              rotate_left
                              · intro w'
                                go_simp
                                with_reducible rfl
                              rotate_left
                              · simp only [Act.put, List.setIfInBounds_toArray, List.set_cons_zero, List.set_cons_succ, i64_w, i32_w]
                                rfl
                              refine take_ (i := 2) (N := some 69) (v := ?_) (a' := ?_) #[true, true, true, false, false, true, false, false] rfl rfl (take_ofW HT_.out HW_.out (by kernel_rfl)) (fun _ _ _ h => h) (Or.inl ⟨by rfl, ?_⟩) hHeld ?_ ?_
                              rotate_left
                              · rintro w' ⟨s0, s1, s2, s3⟩
                                go_simp
                                with_reducible rfl
                              rotate_left
                              · simp only [Act.put, List.setIfInBounds_toArray, List.set_cons_zero, List.set_cons_succ, i64_w, i32_w]
                                rfl
                              refine pure_ (i := 3) (N := some 70) (v := ?_) (a' := ?_) #[true, true, true, true, false, true, false, false] rfl rfl (any_of HT_.out (by kernel_rfl)) (fun _ _ _ h => h) (Or.inl ⟨by rfl, ?_⟩) ?_ ?_
                              rotate_left
                              · intro w'
                                go_simp
                                with_reducible rfl
                              rotate_left
                              · simp only [Act.put, List.setIfInBounds_toArray, List.set_cons_zero, List.set_cons_succ, i64_w, i32_w]
                                rfl
                              refine take_ (i := 4) (N := some 71) (v := ?_) (a' := ?_) #[true, true, true, true, true, true, false, false] rfl rfl (take_ofW HT_.out HW_.out (by kernel_rfl)) (fun _ _ _ h => h) (Or.inl ⟨by rfl, ?_⟩) hHeld ?_ ?_
                              rotate_left
                              · rintro w' ⟨s0, s1, s2, s3⟩
                                go_simp
                                with_reducible rfl
                              rotate_left
                              · simp only [Act.put, List.setIfInBounds_toArray, List.set_cons_zero, List.set_cons_succ, i64_w, i32_w]
                                rfl
                              refine take_ (i := 6) (N := some 73) (v := ?_) (a' := ?_) #[true, true, true, true, true, true, true, false] rfl rfl (take_ofW HT_.out HW_.out (by kernel_rfl)) (fun _ _ _ h => h) (Or.inl ⟨by rfl, ?_⟩) hHeld ?_ ?_
                              rotate_left
                              · rintro w' ⟨s0, s1, s2, s3⟩
                                go_simp
                                with_reducible rfl
                              rotate_left
                              · simp only [Act.put, List.setIfInBounds_toArray, List.set_cons_zero, List.set_cons_succ, i64_w, i32_w]
                                rfl
                              refine pure_ (i := 7) (N := some 74) (v := ?_) (a' := ?_) #[true, true, true, true, true, true, true, true] rfl rfl (any_of HT_.out (by kernel_rfl)) (fun _ _ _ h => h) (Or.inl ⟨by rfl, ?_⟩) ?_ ?_
                              rotate_left
                              · intro w'
                                go_simp
                                with_reducible rfl
                              rotate_left
                              · simp only [Act.put, List.setIfInBounds_toArray, List.set_cons_zero, List.set_cons_succ, i64_w, i32_w]
                                rfl
                              refine done_ (done_of HT_.out (by kernel_rfl)) ?_
                              try go_wp2
                              have n0_ := Aside0.mk (Kd.R_drew HO_9.out)
                              have n1_ := Aside0.mk (blk_drew BK111.out)
                              have n2_ := Aside0.mk (below_drew1 HB.out)
                              clear HO_9
                              clear BK111
                              clear HB
                              have HO_9 := n0_
                              have BK111 := n1_
                              have HB := n2_
                              clear n0_ n1_ n2_
                              have p113 : 0 ≤ (((rd_T83 l1 x10_2).f0) : Int) := of_decide_eq_true (by first | (with_reducible assumption) | assumption)
                              have q113 : ((rd_T83 l1 x10_2).f0) < (x9_2.length : Int) := of_decide_eq_true (by first | (with_reducible assumption) | assumption)
                              obtain ⟨ad113, e113, hx113_0⟩ := Kd.at_int (Kd.R_reads' HO_9.out).2.2 ((rd_T83 l1 x10_2).f0) p113 q113
                              obtain rfl : ad112 = ad113 := (by injection e113)
                              replace p113 := eq_true p113
                              replace q113 := eq_true q113
                              have p39 : 0 ≤ (((rd_T83 l1 x10_2).f0) : Int) := of_decide_eq_true (by first | (with_reducible assumption) | assumption)
                              have q39 : (((rd_T83 l1 x10_2).f0) : Int) < ((x9_2.length : Int) : Int) := of_decide_eq_true (by first | (with_reducible assumption) | assumption)
                              obtain ⟨go39, co39, eo39, gb39, gl39, cl39, HG39⟩ := Kd.R_form HO_9.out (by omega)
                              (first | cases eo39 | (injection eo39 with ea_ en_ ec_; (first | subst ea_ | (injection ea_ with ea_; subst ea_)); subst ec_; clear en_))
                              have GB39 := Aside0.mk gb39
                              have GG39 := Aside0.mk HG39
                              clear gb39 gl39 HG39
                              (first | simp only [add_plain] at hx112_0 | skip)
                              (first | simp only [add_plain] at hx113_0 | skip)
                              obtain ⟨hx39_0, hf39_0⟩ := Kd.R_celln 0 HO_9.out (((rd_T83 l1 x10_2).f0) : Int) p39 q39
                              replace p39 := eq_true p39
                              replace q39 := eq_true q39
                              have HP49 := Kd.R_putn HO_9.out (((rd_T83 l1 x10_2).f0) : Int) (wrap64 ((rd x9_2 ((rd_T83 l1 x10_2).f0)) - ((rd_T83 l1 x10_2).f2)))
                              rw [← Ny114.out] at HP49
                              have HQ49 := Aside0.mk HP49
                              clear HP49
                              refine start_ (n := 10) (S := fun w' => w'.cell? ⟨gb111, 0, none⟩ = some (.int .i64 ((rd_T83 l1 x10_2).f0)) ∧ w'.cell? ⟨gb111, 1, none⟩ = some (.int .i64 ((rd_T83 l1 x10_2).f1)) ∧ w'.cell? ⟨gb111, 2, none⟩ = some (.int .i64 ((rd_T83 l1 x10_2).f2)) ∧ w'.cell? ⟨go39, ((rd_T83 l1 x10_2).f0).toNat, none⟩ = some (.int .i64 (rd x9_2 ((rd_T83 l1 x10_2).f0)))) (ds := [9]) #[false, false, false, false, false, false, false, false, false, false] (by kernel_rfl) rfl rfl ⟨(blk_cell BK111.out 0).trans rfl, (blk_cell BK111.out 1).trans rfl, (blk_cell BK111.out 2).trans rfl, hx113_0⟩ (fun hHeld => ?_); refine with_tabW verditerref01_Grind.tab19 verditerref01_Grind.bits19 (fun HT_ HW_ => ?_)
                              generalize w46.drew = w48 at HO_9 BK111 HB GG39 HQ49 hf39_0 hx112_0 hx113_0 hx39_0 hHeld ⊢
                              refine pure_ (i := 0) (N := some 75) (v := ?_) (a' := ?_) #[true, false, false, false, false, false, false, false, false, false] rfl rfl (any_of HT_.out (by kernel_rfl)) (fun _ _ _ h => h) (Or.inl ⟨by rfl, ?_⟩) ?_ ?_
                              rotate_left
                              · intro w'
                                go_simp
                                with_reducible rfl
                              rotate_left
                              · simp only [Act.put, List.setIfInBounds_toArray, List.set_cons_zero, List.set_cons_succ, i64_w, i32_w]
                                rfl
                              refine pure_ (i := 1) (N := some 76) (v := ?_) (a' := ?_) #[true, true, false, false, false, false, false, false, false, false] rfl rfl (any_of HT_.out (by kernel_rfl)) (fun _ _ _ h => h) (Or.inl ⟨by rfl, ?_⟩) ?_ ?_
                              rotate_left
                              · intro w'
                                go_simp
                                with_reducible rfl
                              rotate_left
                              · simp only [Act.put, List.setIfInBounds_toArray, List.set_cons_zero, List.set_cons_succ, i64_w, i32_w]
                                rfl
                              refine pure_ (i := 5) (N := some 80) (v := ?_) (a' := ?_) #[true, true, false, false, false, true, false, false, false, false] rfl rfl (any_of HT_.out (by kernel_rfl)) (fun _ _ _ h => h) (Or.inl ⟨by rfl, ?_⟩) ?_ ?_
                              rotate_left
                              · intro w'
                                go_simp
                                with_reducible rfl
                              rotate_left
                              · simp only [Act.put, List.setIfInBounds_toArray, List.set_cons_zero, List.set_cons_succ, i64_w, i32_w]
                                rfl
                              refine take_ (i := 2) (N := some 77) (v := ?_) (a' := ?_) #[true, true, true, false, false, true, false, false, false, false] rfl rfl (take_ofW HT_.out HW_.out (by kernel_rfl)) (fun _ _ _ h => h) (Or.inl ⟨by rfl, ?_⟩) hHeld ?_ ?_
                              rotate_left
                              · rintro w' ⟨s0, s1, s2, s3⟩
                                go_simp
                                with_reducible rfl
                              rotate_left
                              · simp only [Act.put, List.setIfInBounds_toArray, List.set_cons_zero, List.set_cons_succ, i64_w, i32_w]
                                rfl
                              refine pure_ (i := 3) (N := some 78) (v := ?_) (a' := ?_) #[true, true, true, true, false, true, false, false, false, false] rfl rfl (any_of HT_.out (by kernel_rfl)) (fun _ _ _ h => h) (Or.inl ⟨by rfl, ?_⟩) ?_ ?_
                              rotate_left
                              · intro w'
                                go_simp
                                with_reducible rfl
                              rotate_left
                              · simp only [Act.put, List.setIfInBounds_toArray, List.set_cons_zero, List.set_cons_succ, i64_w, i32_w]
                                rfl
                              refine take_ (i := 4) (N := some 79) (v := ?_) (a' := ?_) #[true, true, true, true, true, true, false, false, false, false] rfl rfl (take_ofW HT_.out HW_.out (by kernel_rfl)) (fun _ _ _ h => h) (Or.inl ⟨by rfl, ?_⟩) hHeld ?_ ?_
                              rotate_left
                              · rintro w' ⟨s0, s1, s2, s3⟩
                                go_simp
                                with_reducible rfl
                              rotate_left
                              · simp only [Act.put, List.setIfInBounds_toArray, List.set_cons_zero, List.set_cons_succ, i64_w, i32_w]
                                rfl
                              refine take_ (i := 6) (N := some 81) (v := ?_) (a' := ?_) #[true, true, true, true, true, true, true, false, false, false] rfl rfl (take_ofW HT_.out HW_.out (by kernel_rfl)) (fun _ _ _ h => h) (Or.inl ⟨by rfl, ?_⟩) hHeld ?_ ?_
                              rotate_left
                              · rintro w' ⟨s0, s1, s2, s3⟩
                                go_simp
                                with_reducible rfl
                              rotate_left
                              · simp only [Act.put, List.setIfInBounds_toArray, List.set_cons_zero, List.set_cons_succ, i64_w, i32_w]
                                rfl
                              refine pure_ (i := 7) (N := some 82) (v := ?_) (a' := ?_) #[true, true, true, true, true, true, true, true, false, false] rfl rfl (any_of HT_.out (by kernel_rfl)) (fun _ _ _ h => h) (Or.inl ⟨by rfl, ?_⟩) ?_ ?_
                              rotate_left
                              · intro w'
                                go_simp
                                with_reducible rfl
                              rotate_left
                              · simp only [Act.put, List.setIfInBounds_toArray, List.set_cons_zero, List.set_cons_succ, i64_w, i32_w]
                                rfl
                              refine pure_ (i := 8) (N := some 83) (v := ?_) (a' := ?_) #[true, true, true, true, true, true, true, true, true, false] rfl rfl (any_of HT_.out (by kernel_rfl)) (fun _ _ _ h => h) (Or.inl ⟨by rfl, ?_⟩) ?_ ?_
                              rotate_left
                              · intro w'
                                go_simp
                                with_reducible rfl
                              rotate_left
                              · simp only [Act.put, List.setIfInBounds_toArray, List.set_cons_zero, List.set_cons_succ, i64_w, i32_w]
                                rfl
                              refine last_ (i := 9) (N := none) #[true, true, true, true, true, true, true, true, true, true] rfl rfl (one_of HT_.out (by kernel_rfl)) (by decide) (fun K hK => ?_)
                              refine skip_ (w1 := ?_) (by rfl) rfl ?_ ?_
                              rotate_left
                              · go_simp
                                rfl
                              refine hK.out _ _ ?_
                              clear hK K
                              refine done_ (done_of HT_.out (by kernel_rfl)) ?_
                              try go_wp2
                              have n0_ : Aside0 (Kd.R (Kd.int .i64) 3 (w48.setCell ⟨go39, (((rd_T83 l1 x10_2).f0) : Int).toNat, none⟩ (.int .i64 (wrap64 ((rd x9_2 ((rd_T83 l1 x10_2).f0)) - ((rd_T83 l1 x10_2).f2))))) w.heap.size (fun _ => True) (.slice (some ⟨go39, 0, none⟩) x9_2.length co47) y114) := ⟨by (with_reducible repeat (first | apply Kd.R_alloc | apply Kd.R_drewN | apply Kd.R_drew)); exact HQ49.out⟩
                              have n1_ : Aside0 ((w48.setCell ⟨go39, (((rd_T83 l1 x10_2).f0) : Int).toNat, none⟩ (.int .i64 (wrap64 ((rd x9_2 ((rd_T83 l1 x10_2).f0)) - ((rd_T83 l1 x10_2).f2))))).heap[gb111]? = some (.cells #[.int .i64 ((rd_T83 l1 x10_2).f0), .int .i64 ((rd_T83 l1 x10_2).f1), .int .i64 ((rd_T83 l1 x10_2).f2)] 83 (0, 0))) := ⟨by (with_reducible repeat (first | refine blk_drewN ?_ _ | refine blk_drew ?_ | refine blk_alloc ?_ _)); refine blk_far ?_ (by have h_ := Kd.R_ne HO_9.out BK111.out (by decide); intro e_; exact h_ (by rw [e_]; rfl)) _; (with_reducible repeat (first | refine blk_drewN ?_ _ | refine blk_drew ?_ | refine blk_alloc ?_ _)); exact BK111.out⟩
                              have n2_ : Aside0 (Below w.heap.size w (w48.setCell ⟨go39, (((rd_T83 l1 x10_2).f0) : Int).toNat, none⟩ (.int .i64 (wrap64 ((rd x9_2 ((rd_T83 l1 x10_2).f0)) - ((rd_T83 l1 x10_2).f2)))))) := ⟨by repeat (first | (with_reducible first | exact HB.out | apply below_alloc | apply pw_below_drewN | apply below_drew1 | refine below_set ?_ GB39.out | refine below_set ?_ GE111.out) | exact HB.out)⟩
                              (try clear HO_9)
                              (try clear BK111)
                              (try clear HB)
                              generalize (w48.setCell ⟨go39, (((rd_T83 l1 x10_2).f0) : Int).toNat, none⟩ (.int .i64 (wrap64 ((rd x9_2 ((rd_T83 l1 x10_2).f0)) - ((rd_T83 l1 x10_2).f2))))) = w50 at n0_ n1_ n2_ ⊢
                              have HO_9 := n0_
                              have BK111 := n1_
                              have HB := n2_
                              clear n0_ n1_ n2_
                              have n0_ := Aside0.mk (Kd.R_drew HO_9.out)
                              have n1_ := Aside0.mk (blk_drew BK111.out)
                              have n2_ := Aside0.mk (below_drew1 HB.out)
                              clear HO_9
                              clear BK111
                              clear HB
                              have HO_9 := n0_
                              have BK111 := n1_
                              have HB := n2_
                              clear n0_ n1_ n2_
                              have p115 : 0 ≤ (((rd_T83 l1 x10_2).f1) : Int) := of_decide_eq_true (by first | (with_reducible assumption) | assumption)
                              have q115 : ((rd_T83 l1 x10_2).f1) < (y114.length : Int) := (by have h_ : (((rd_T83 l1 x10_2).f1) : Int) < ((x9_2.length : Int) : Int) := of_decide_eq_true (by first | (with_reducible assumption) | assumption); first | (have e_ := (Kd.R_reads' HO_9.out).1; omega) | simpa only [Ny114.out, List.length_set] using h_)
                              have ql115 : ((((rd_T83 l1 x10_2).f1) : Int) < ((x9_2.length : Int) : Int)) = True := eq_true (of_decide_eq_true (by first | (with_reducible assumption) | assumption))
                              obtain ⟨ad115, e115, hx115_0⟩ := Kd.at_int (Kd.R_reads' HO_9.out).2.2 ((rd_T83 l1 x10_2).f1) p115 q115
                              obtain rfl : (⟨go39, 0, none⟩ : Addr) = ad115 := (by injection e115)
                              (first | simp only [add_plain] at hx115_0 | simp only [add_at] at hx115_0 | simp only [Addr.add, Nat.zero_add] at hx115_0 | skip)
                              replace p115 := eq_true p115
                              replace q115 := eq_true q115
                              have p42 : 0 ≤ (((rd_T83 l1 x10_2).f1) : Int) := of_decide_eq_true (by first | (with_reducible assumption) | assumption)
                              have q42 : (((rd_T83 l1 x10_2).f1) : Int) < ((x9_2.length : Int) : Int) := of_decide_eq_true (by first | (with_reducible assumption) | assumption)
                              obtain ⟨hx42_0, hf42_0⟩ := Kd.R_celln 0 HO_9.out (((rd_T83 l1 x10_2).f1) : Int) p42 q42
                              replace p42 := eq_true p42
                              replace q42 := eq_true q42
                              have HP52 := Kd.R_putn HO_9.out (((rd_T83 l1 x10_2).f1) : Int) (wrap64 ((rd y114 ((rd_T83 l1 x10_2).f1)) + ((rd_T83 l1 x10_2).f2)))
                              rw [← Ny116.out] at HP52
                              have HQ52 := Aside0.mk HP52
                              clear HP52
                              refine start_ (n := 10) (S := fun w' => w'.cell? ⟨gb111, 0, none⟩ = some (.int .i64 ((rd_T83 l1 x10_2).f0)) ∧ w'.cell? ⟨gb111, 1, none⟩ = some (.int .i64 ((rd_T83 l1 x10_2).f1)) ∧ w'.cell? ⟨gb111, 2, none⟩ = some (.int .i64 ((rd_T83 l1 x10_2).f2)) ∧ w'.cell? ⟨go39, (((rd_T83 l1 x10_2).f1)).toNat, none⟩ = some (.int .i64 (rd y114 ((rd_T83 l1 x10_2).f1)))) (ds := [9]) #[false, false, false, false, false, false, false, false, false, false] (by kernel_rfl) rfl rfl ⟨(blk_cell BK111.out 0).trans rfl, (blk_cell BK111.out 1).trans rfl, (blk_cell BK111.out 2).trans rfl, hx115_0⟩ (fun hHeld => ?_); refine with_tabW verditerref01_Grind.tab20 verditerref01_Grind.bits20 (fun HT_ HW_ => ?_)
                              generalize w50.drew = w51 at HO_9 BK111 HB HQ49 HQ52 hf42_0 hx115_0 hx42_0 hHeld ⊢
                              refine pure_ (i := 0) (N := some 84) (v := ?_) (a' := ?_) #[true, false, false, false, false, false, false, false, false, false] rfl rfl (any_of HT_.out (by kernel_rfl)) (fun _ _ _ h => h) (Or.inl ⟨by rfl, ?_⟩) ?_ ?_
                              rotate_left
                              · intro w'
                                go_simp
                                with_reducible rfl
                              rotate_left
                              · simp only [Act.put, List.setIfInBounds_toArray, List.set_cons_zero, List.set_cons_succ, i64_w, i32_w]
                                rfl
                              refine pure_ (i := 1) (N := some 85) (v := ?_) (a' := ?_) #[true, true, false, false, false, false, false, false, false, false] rfl rfl (any_of HT_.out (by kernel_rfl)) (fun _ _ _ h => h) (Or.inl ⟨by rfl, ?_⟩) ?_ ?_
                              rotate_left
                              · intro w'
                                go_simp
                                with_reducible rfl
                              rotate_left
                              · simp only [Act.put, List.setIfInBounds_toArray, List.set_cons_zero, List.set_cons_succ, i64_w, i32_w]
                                rfl
                              refine pure_ (i := 5) (N := some 89) (v := ?_) (a' := ?_) #[true, true, false, false, false, true, false, false, false, false] rfl rfl (any_of HT_.out (by kernel_rfl)) (fun _ _ _ h => h) (Or.inl ⟨by rfl, ?_⟩) ?_ ?_
                              rotate_left
                              · intro w'
                                go_simp
                                with_reducible rfl
                              rotate_left
                              · simp only [Act.put, List.setIfInBounds_toArray, List.set_cons_zero, List.set_cons_succ, i64_w, i32_w]
                                rfl
                              refine take_ (i := 2) (N := some 86) (v := ?_) (a' := ?_) #[true, true, true, false, false, true, false, false, false, false] rfl rfl (take_ofW HT_.out HW_.out (by kernel_rfl)) (fun _ _ _ h => h) (Or.inl ⟨by rfl, ?_⟩) hHeld ?_ ?_
                              rotate_left
                              · rintro w' ⟨s0, s1, s2, s3⟩
                                go_simp
                                with_reducible rfl
                              rotate_left
                              · simp only [Act.put, List.setIfInBounds_toArray, List.set_cons_zero, List.set_cons_succ, i64_w, i32_w]
                                rfl
                              refine pure_ (i := 3) (N := some 87) (v := ?_) (a' := ?_) #[true, true, true, true, false, true, false, false, false, false] rfl rfl (any_of HT_.out (by kernel_rfl)) (fun _ _ _ h => h) (Or.inl ⟨by rfl, ?_⟩) ?_ ?_
                              rotate_left
                              · intro w'
                                go_simp
                                with_reducible rfl
                              rotate_left
                              · simp only [Act.put, List.setIfInBounds_toArray, List.set_cons_zero, List.set_cons_succ, i64_w, i32_w]
                                rfl
                              refine take_ (i := 4) (N := some 88) (v := ?_) (a' := ?_) #[true, true, true, true, true, true, false, false, false, false] rfl rfl (take_ofW HT_.out HW_.out (by kernel_rfl)) (fun _ _ _ h => h) (Or.inl ⟨by rfl, ?_⟩) hHeld ?_ ?_
                              rotate_left
                              · rintro w' ⟨s0, s1, s2, s3⟩
                                go_simp
                                with_reducible rfl
                              rotate_left
                              · simp only [Act.put, List.setIfInBounds_toArray, List.set_cons_zero, List.set_cons_succ, i64_w, i32_w]
                                rfl
                              refine take_ (i := 6) (N := some 90) (v := ?_) (a' := ?_) #[true, true, true, true, true, true, true, false, false, false] rfl rfl (take_ofW HT_.out HW_.out (by kernel_rfl)) (fun _ _ _ h => h) (Or.inl ⟨by rfl, ?_⟩) hHeld ?_ ?_
                              rotate_left
                              · rintro w' ⟨s0, s1, s2, s3⟩
                                go_simp
                                with_reducible rfl
                              rotate_left
                              · simp only [Act.put, List.setIfInBounds_toArray, List.set_cons_zero, List.set_cons_succ, i64_w, i32_w]
                                rfl
                              refine pure_ (i := 7) (N := some 91) (v := ?_) (a' := ?_) #[true, true, true, true, true, true, true, true, false, false] rfl rfl (any_of HT_.out (by kernel_rfl)) (fun _ _ _ h => h) (Or.inl ⟨by rfl, ?_⟩) ?_ ?_
                              rotate_left
                              · intro w'
                                go_simp
                                with_reducible rfl
                              rotate_left
                              · simp only [Act.put, List.setIfInBounds_toArray, List.set_cons_zero, List.set_cons_succ, i64_w, i32_w]
                                rfl
                              refine pure_ (i := 8) (N := some 92) (v := ?_) (a' := ?_) #[true, true, true, true, true, true, true, true, true, false] rfl rfl (any_of HT_.out (by kernel_rfl)) (fun _ _ _ h => h) (Or.inl ⟨by rfl, ?_⟩) ?_ ?_
                              rotate_left
                              · intro w'
                                go_simp
                                with_reducible rfl
                              rotate_left
                              · simp only [Act.put, List.setIfInBounds_toArray, List.set_cons_zero, List.set_cons_succ, i64_w, i32_w]
                                rfl
                              refine last_ (i := 9) (N := none) #[true, true, true, true, true, true, true, true, true, true] rfl rfl (one_of HT_.out (by kernel_rfl)) (by decide) (fun K hK => ?_)
                              refine skip_ (w1 := ?_) (by rfl) rfl ?_ ?_
                              rotate_left
                              · go_simp
                                rfl
                              refine hK.out _ _ ?_
                              clear hK K
                              refine done_ (done_of HT_.out (by kernel_rfl)) ?_
                              try go_wp2
                              go_roundg k2
                              case measure => have := HK1.out; have := HK2.out; omega
                              case rel => exact ⟨(y116), (wrap64 (x10_2 + 1)), (by first | rfl | (simp; done) | (simp [*]; done)), H', ⟨by have := HK1.out; have := HK2.out; omega⟩, ⟨by (with_reducible repeat (first | apply Kd.R_alloc | apply Kd.R_drewN | apply Kd.R_drew)); exact HQ52.out⟩, ⟨by repeat (first | (with_reducible first | exact HB.out | apply below_alloc | apply pw_below_drewN | apply below_drew1 | refine below_set ?_ GB39.out | refine below_set ?_ GE111.out) | exact HB.out)⟩⟩
                            · rw [if_neg c41] at H
                              exact absurd H (by simp)
                          · rw [if_neg c40] at H
                            exact absurd H (by simp)
                      · rw [if_neg c32] at H
                        exact absurd H (by simp)
                    · rw [if_neg c31] at H
                      exact absurd H (by simp)
                  · rw [if_neg c30] at H
                    exact absurd H (by simp)
                · rw [if_neg c29] at H
                  have c29b0 : decide (x10_2 < (l1.length : Int)) = false := decide_eq_false c29
                  clear c29
                  replace H := Option.bind_eq_some_iff.mp H
                  obtain ⟨t117, A530, H⟩ := H
                  replace H : ((verditerref01_Validate.f k2 t117).bind fun t120 => (if t120 = 0 then (some (t117, 0)) else (some (([] : List (S58)), t120)))) = some (r1, r2) := H
                  have A53 := Aside0.mk A530
                  clear A530
                  replace H := Option.bind_eq_some_iff.mp H
                  obtain ⟨t120, A540, H⟩ := H
                  replace H : (if t120 = 0 then (some (t117, 0)) else (some (([] : List (S58)), t120))) = some (r1, r2) := H
                  have A54 := Aside0.mk A540
                  clear A540
                  by_cases c55 : t120 = 0
                  · rw [if_pos c55] at H
                    have c55b0 : (t120 == 0) = true := beq_iff_eq.mpr c55
                    have c55b1 : (t120 != 0) = false := bne_eq_false_iff_eq.mpr c55
                    clear c55
                    simp only [Option.some.injEq, Prod.mk.injEq] at H
                    obtain ⟨rfl, rfl⟩ := H
                    obtain ⟨Ao56, co56, eo56⟩ := Kd.R_slice HO_9.out
                    subst eo56
                    go_wp2_with (first | ((with_reducible refine gate_callee (f := 95) rfl ?_); refine goesL_ (some 94) rfl rfl Try.func95 (by kernel_rfl) rfl #[.slice Ao56 x9_2.length co56] rfl (by (try simp only [List.map_toArray, List.map_cons, List.map_nil]); first | done | rfl | (simp only [List.length_drop, List.length_take]; rfl)) ?_; (with_reducible refine (verditerref01_lot.calls k2 _ _ x9_2 t117 _ ?side1 ?side2 A53.out).mono ?_); (case side1 => repeat (first | exact (Kd.R_reads' HO_9.out).2.2 | (with_reducible refine Kd.C_alloc ?_ _) | (with_reducible refine Kd.C_drewN ?_ _) | (with_reducible refine Kd.C_drew ?_))); (case side2 => exact (Kd.R_reads' HO_9.out).2.1); rintro e w57 ⟨v118, rfl, ho0, hb⟩; refine ⟨_, rfl, ?_⟩; have n0_ := Aside0.mk (Kd.R_below (by (with_reducible repeat (first | apply Kd.R_alloc | apply Kd.R_drewN | apply Kd.R_drew)); exact HO_9.out) hb); have n1_ := Aside0.mk (Kd.R_lower ho0 (below_size (by repeat (first | (with_reducible first | exact HB.out | apply below_alloc | apply pw_below_drewN | apply below_drew1) | exact HB.out)))); have n2_ := Aside0.mk (below_step (by repeat (first | (with_reducible first | exact HB.out | apply below_alloc | apply pw_below_drewN | apply below_drew1) | exact HB.out)) hb); clear HO_9; clear HB; have HO_9 := n0_; have HO119 := n1_; have HB := n2_; clear n0_ n1_ n2_; (try clear hb); (try clear hb2); (try clear hk); (try clear hi); (try clear ho0); obtain ⟨Ao58, co58, eo58⟩ := Kd.R_slice HO119.out; subst eo58) | ((with_reducible refine gate_callee (f := 59) rfl ?_); refine goesL_ (some 96) rfl rfl Try.func59 (by kernel_rfl) rfl #[.slice Ao58 t117.length co58] rfl (by (try simp only [List.map_toArray, List.map_cons, List.map_nil]); first | done | rfl | (simp only [List.length_drop, List.length_take]; rfl)) ?_; (with_reducible refine (verditerref01_Validate.calls k2 _ _ t117 t120 _ ?side1 ?side2 A54.out).mono ?_); (case side1 => repeat (first | exact (Kd.R_reads' HO119.out).2.2 | (with_reducible refine Kd.C_alloc ?_ _) | (with_reducible refine Kd.C_drewN ?_ _) | (with_reducible refine Kd.C_drew ?_))); (case side2 => exact (Kd.R_reads' HO119.out).2.1); rintro e w59 ⟨rfl, hb⟩; refine ⟨_, rfl, ?_⟩; have n0_ := Aside0.mk (Kd.R_below (by (with_reducible repeat (first | apply Kd.R_alloc | apply Kd.R_drewN | apply Kd.R_drew)); exact HO_9.out) hb); have n1_ := Aside0.mk (Kd.R_below (by (with_reducible repeat (first | apply Kd.R_alloc | apply Kd.R_drewN | apply Kd.R_drew)); exact HO119.out) hb); have n2_ := Aside0.mk (below_step (by repeat (first | (with_reducible first | exact HB.out | apply below_alloc | apply pw_below_drewN | apply below_drew1) | exact HB.out)) hb); clear HO_9; clear HO119; clear HB; have HO_9 := n0_; have HO119 := n1_; have HB := n2_; clear n0_ n1_ n2_; (try clear hb); (try clear hb2); (try clear hk); (try clear hi)))
                    go_ret2
                    exact ⟨_, by first | rfl | (simp [errW_none, errW_some] <;> rfl) | (simp [*, errW_none, errW_some] <;> rfl), by (with_reducible repeat (first | apply Kd.R_alloc | apply Kd.R_drewN | apply Kd.R_drew)); exact HO119.out, by repeat (first | (with_reducible first | exact HB.out | apply below_alloc | apply pw_below_drewN | apply below_drew1) | exact HB.out)⟩
                  · rw [if_neg c55] at H
                    have c55b0 : (t120 == 0) = false := beq_eq_false_iff_ne.mpr c55
                    have c55b1 : (t120 != 0) = true := bne_iff_ne.mpr c55
                    simp only [Option.some.injEq, Prod.mk.injEq] at H
                    obtain ⟨rfl, rfl⟩ := H
                    obtain ⟨Ao60, co60, eo60⟩ := Kd.R_slice HO_9.out
                    subst eo60
                    go_wp2_with (first | ((with_reducible refine gate_callee (f := 95) rfl ?_); refine goesL_ (some 94) rfl rfl Try.func95 (by kernel_rfl) rfl #[.slice Ao60 x9_2.length co60] rfl (by (try simp only [List.map_toArray, List.map_cons, List.map_nil]); first | done | rfl | (simp only [List.length_drop, List.length_take]; rfl)) ?_; (with_reducible refine (verditerref01_lot.calls k2 _ _ x9_2 t117 _ ?side1 ?side2 A53.out).mono ?_); (case side1 => repeat (first | exact (Kd.R_reads' HO_9.out).2.2 | (with_reducible refine Kd.C_alloc ?_ _) | (with_reducible refine Kd.C_drewN ?_ _) | (with_reducible refine Kd.C_drew ?_))); (case side2 => exact (Kd.R_reads' HO_9.out).2.1); rintro e w61 ⟨v118, rfl, ho0, hb⟩; refine ⟨_, rfl, ?_⟩; have n0_ := Aside0.mk (Kd.R_below (by (with_reducible repeat (first | apply Kd.R_alloc | apply Kd.R_drewN | apply Kd.R_drew)); exact HO_9.out) hb); have n1_ := Aside0.mk (Kd.R_lower ho0 (below_size (by repeat (first | (with_reducible first | exact HB.out | apply below_alloc | apply pw_below_drewN | apply below_drew1) | exact HB.out)))); have n2_ := Aside0.mk (below_step (by repeat (first | (with_reducible first | exact HB.out | apply below_alloc | apply pw_below_drewN | apply below_drew1) | exact HB.out)) hb); clear HO_9; clear HB; have HO_9 := n0_; have HO119 := n1_; have HB := n2_; clear n0_ n1_ n2_; (try clear hb); (try clear hb2); (try clear hk); (try clear hi); (try clear ho0); obtain ⟨Ao62, co62, eo62⟩ := Kd.R_slice HO119.out; subst eo62) | ((with_reducible refine gate_callee (f := 59) rfl ?_); refine goesL_ (some 96) rfl rfl Try.func59 (by kernel_rfl) rfl #[.slice Ao62 t117.length co62] rfl (by (try simp only [List.map_toArray, List.map_cons, List.map_nil]); first | done | rfl | (simp only [List.length_drop, List.length_take]; rfl)) ?_; (with_reducible refine (verditerref01_Validate.calls k2 _ _ t117 t120 _ ?side1 ?side2 A54.out).mono ?_); (case side1 => repeat (first | exact (Kd.R_reads' HO119.out).2.2 | (with_reducible refine Kd.C_alloc ?_ _) | (with_reducible refine Kd.C_drewN ?_ _) | (with_reducible refine Kd.C_drew ?_))); (case side2 => exact (Kd.R_reads' HO119.out).2.1); rintro e w63 ⟨rfl, hb⟩; refine ⟨_, rfl, ?_⟩; have n0_ := Aside0.mk (Kd.R_below (by (with_reducible repeat (first | apply Kd.R_alloc | apply Kd.R_drewN | apply Kd.R_drew)); exact HO_9.out) hb); have n1_ := Aside0.mk (Kd.R_below (by (with_reducible repeat (first | apply Kd.R_alloc | apply Kd.R_drewN | apply Kd.R_drew)); exact HO119.out) hb); have n2_ := Aside0.mk (below_step (by repeat (first | (with_reducible first | exact HB.out | apply below_alloc | apply pw_below_drewN | apply below_drew1) | exact HB.out)) hb); clear HO_9; clear HO119; clear HB; have HO_9 := n0_; have HO119 := n1_; have HB := n2_; clear n0_ n1_ n2_; (try clear hb); (try clear hb2); (try clear hk); (try clear hi)))
                    go_ret2
                    exact ⟨_, by first | rfl | (simp [errW_none, errW_some] <;> rfl) | (simp [*, errW_none, errW_some] <;> rfl), by first | exact Kd.R_nil _ _ _ _ _ | exact Kd.N_nil _ _ _ _ _ | exact Kd.V_nil _ _ _ _ _ | exact Kd.Q_nil _ _ _ _ _ | exact Kd.S_nil _ _ _ _ _, by repeat (first | (with_reducible first | exact HB.out | apply below_alloc | apply pw_below_drewN | apply below_drew1) | exact HB.out)⟩
  · rw [if_neg c4] at H
    have c4b0 : (t101 == 0) = false := beq_eq_false_iff_ne.mpr c4
    have c4b1 : (t101 != 0) = true := bne_iff_ne.mpr c4
    simp only [Option.some.injEq, Prod.mk.injEq] at H
    obtain ⟨rfl, rfl⟩ := H
    go_enter Try.func76, Try.ntmps76
    go_wp2_with (first | ((with_reducible refine gate_callee (f := 59) rfl ?_); refine goesL_ (some 15) rfl rfl Try.func59 (by kernel_rfl) rfl #[.slice A0 l0.length c0] rfl (by (try simp only [List.map_toArray, List.map_cons, List.map_nil]); first | done | rfl | (simp only [List.length_drop, List.length_take]; rfl)) ?_; (with_reducible refine (verditerref01_Validate.calls k _ _ l0 t101 _ ?side1 ?side2 A3.out).mono ?_); (case side1 => repeat (first | exact HR0.out | (with_reducible refine Kd.C_alloc ?_ _) | (with_reducible refine Kd.C_drewN ?_ _) | (with_reducible refine Kd.C_drew ?_))); (case side2 => exact HC0.out); rintro e w64 ⟨rfl, hb⟩; refine ⟨_, rfl, ?_⟩; have n0_ := Aside0.mk (below_step (by repeat (first | (with_reducible first | exact HB.out | apply below_alloc | apply pw_below_drewN | apply below_drew1) | exact HB.out)) hb); clear HB; have HB := n0_; clear n0_; (try clear hb); (try clear hb2); (try clear hk); (try clear hi)))
    go_ret2
    exact ⟨_, by first | rfl | (simp [errW_none, errW_some] <;> rfl) | (simp [*, errW_none, errW_some] <;> rfl), by first | exact Kd.R_nil _ _ _ _ _ | exact Kd.N_nil _ _ _ _ _ | exact Kd.V_nil _ _ _ _ _ | exact Kd.Q_nil _ _ _ _ _ | exact Kd.S_nil _ _ _ _ _, by repeat (first | (with_reducible first | exact HB.out | apply below_alloc | apply pw_below_drewN | apply below_drew1) | exact HB.out)⟩

end Go.Proofs.Ytbckhllkjlgbpaa.P
