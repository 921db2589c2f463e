/- Ytbckhllkjlgbpaa: functions of the translation as Lean functions, with their contracts; written by a program of the session. -/
import Derived.Test.YtbckhllkjlgbpaaP0
import Derived.Test.YtbckhllkjlgbpaaPg
import Derived.Test.YtbckhllkjlgbpaaClone
import Derived.Test.YtbckhllkjlgbpaaWork
namespace Go.Proofs.Ytbckhllkjlgbpaa.P
open Go.RowKit Go.Proofs.YtbckhllkjlgbpaaW.PrintWords Go.Proofs.YtbckhllkjlgbpaaW.PrintLast Go.Proofs.YtbckhllkjlgbpaaW.PrintMore
attribute [local go_sem] max2_int min2_int max_two min_two max_three min_three max_four min_four   -- for this text's walks alone
set_option linter.unusedVariables false
set_option linter.unusedSimpArgs false

/-! ### wash_Moves: function 82 -/
mutual
def wash_Moves.l0 : Nat → List (S58) → List (S58) → List (S83) → Option ((List (S83)) × Bool × Int)
  | 0, _, _, _ => none
  | k + 1, x10, x11, x12 => if (x10.length : Int) > 0 then (if 0 < (x10.length : Int) then (if 0 < (x11.length : Int) then (if ((rd_T58 x11 0).f0) > ((rd_T58 x10 0).f0) then (if x12.length < 5864062014805 then (wash_Moves.j1 k x10 x11 (x12 ++ [(⟨(rd_T58 x11 0).f0, (rd_T58 x10 0).f0, mn ((rd_T58 x10 0).f1) ((rd_T58 x11 0).f1)⟩ : S83)]) (mn ((rd_T58 x10 0).f1) ((rd_T58 x11 0).f1))) else (none)) else (wash_Moves.j1 k x10 x11 x12 (mn ((rd_T58 x10 0).f1) ((rd_T58 x11 0).f1)))) else (none)) else (none)) else (some (x12, true, 0))
def wash_Moves.j1 : Nat → List (S58) → List (S58) → List (S83) → Int → Option ((List (S83)) × Bool × Int)
  | 0, _, _, _, _ => none
  | k + 1, x10, x11, x12, x13 => if 0 < (x10.length : Int) then ((some (x10.set (0 : Int).toNat (⟨(rd_T58 x10 0).f0, wrap64 (((rd_T58 x10 0).f1) - x13)⟩ : S58) : List (S58))).bind fun y120 => (if ((rd_T58 y120 0).f1) = 0 then (if 1 ≤ (x10.length : Int) then ((some (y120.drop (1 : Int).toNat : List (S58))).bind fun y122 => (if 0 < (x11.length : Int) then ((some (x11.set (0 : Int).toNat (⟨(rd_T58 x11 0).f0, wrap64 (((rd_T58 x11 0).f1) - x13)⟩ : S58) : List (S58))).bind fun y126 => (if ((rd_T58 y126 0).f1) = 0 then (if 1 ≤ (x11.length : Int) then (wash_Moves.l0 k y122 (y126.drop (1 : Int).toNat) x12) else (none)) else (wash_Moves.l0 k y122 y126 x12))) else (none))) else (none)) else (if 0 < (x11.length : Int) then ((some (x11.set (0 : Int).toNat (⟨(rd_T58 x11 0).f0, wrap64 (((rd_T58 x11 0).f1) - x13)⟩ : S58) : List (S58))).bind fun y132 => (if ((rd_T58 y132 0).f1) = 0 then (if 1 ≤ (x11.length : Int) then (wash_Moves.l0 k y120 (y132.drop (1 : Int).toNat) x12) else (none)) else (wash_Moves.l0 k y120 y132 x12))) else (none)))) else (none)
end
def wash_Moves.f (k : Nat) (l0 : List (S58)) (l1 : List (S58)) : Option ((List (S83)) × Bool × Int) := (wash_pair.f k l0 l1).bind fun t101 => (if t101 = 0 then ((wash_work.f l0 l1).bind fun bt102 => (if bt102.2 = true then ((api_Grain_100.f l0).bind fun t104 => ((api_Grain_100.f l1).bind fun t107 => (wash_Moves.l0 k t104 t107 ([] : List (S83))))) else (some (([] : List (S83)), false, 0)))) else (some (([] : List (S83)), false, t101)))
theorem wash_Moves.mono_l : ∀ k, (∀ y0 y1 y2, LeO (wash_Moves.l0 k y0 y1 y2) (wash_Moves.l0 (k + 1) y0 y1 y2)) ∧ (∀ y0 y1 y2 y3, LeO (wash_Moves.j1 k y0 y1 y2 y3) (wash_Moves.j1 (k + 1) y0 y1 y2 y3))
  | 0 => ⟨fun _ _ _ r h => by simp [wash_Moves.l0] at h, fun _ _ _ _ r h => by simp [wash_Moves.j1] at h⟩
  | k + 1 => by
    obtain ⟨ih0, ih1⟩ := wash_Moves.mono_l k
    refine ⟨?_, ?_⟩
    · intro y0 y1 y2
      unfold wash_Moves.l0
      repeat' first
      | (with_reducible exact ih0 _ _ _)
      | (with_reducible exact ih1 _ _ _ _)
      | (with_reducible exact wash_pair.mono _ _ _)
      | (with_reducible exact LeO.refl _)
      | (with_reducible exact LeO.none _)
      | (with_reducible refine LeO.ite ?_ ?_)
      | (with_reducible refine LeO.bind ?_ (fun _ => ?_))
      | exact ih0 _ _ _
      | exact ih1 _ _ _ _
      | exact wash_pair.mono _ _ _
      | exact LeO.none _
      | refine LeO.ite ?_ ?_
      | refine LeO.bind ?_ (fun _ => ?_)
    · intro y0 y1 y2 y3
      unfold wash_Moves.j1
      repeat' first
      | (with_reducible exact ih0 _ _ _)
      | (with_reducible exact ih1 _ _ _ _)
      | (with_reducible exact wash_pair.mono _ _ _)
      | (with_reducible exact LeO.refl _)
      | (with_reducible exact LeO.none _)
      | (with_reducible refine LeO.ite ?_ ?_)
      | (with_reducible refine LeO.bind ?_ (fun _ => ?_))
      | exact ih0 _ _ _
      | exact ih1 _ _ _ _
      | exact wash_pair.mono _ _ _
      | exact LeO.none _
      | refine LeO.ite ?_ ?_
      | refine LeO.bind ?_ (fun _ => ?_)
theorem wash_Moves.mono : ∀ a0 a1 k, LeO (wash_Moves.f k a0 a1) (wash_Moves.f (k + 1) a0 a1) := by
  intro a0 a1 k
  obtain ⟨ih0, ih1⟩ := wash_Moves.mono_l k
  unfold wash_Moves.f
  repeat' first
      | (with_reducible exact ih0 _ _ _)
      | (with_reducible exact ih1 _ _ _ _)
      | (with_reducible exact wash_pair.mono _ _ _)
      | (with_reducible exact LeO.refl _)
      | (with_reducible exact LeO.none _)
      | (with_reducible refine LeO.ite ?_ ?_)
      | (with_reducible refine LeO.bind ?_ (fun _ => ?_))
      | exact ih0 _ _ _
      | exact ih1 _ _ _ _
      | exact wash_pair.mono _ _ _
      | exact LeO.none _
      | refine LeO.ite ?_ ?_
      | refine LeO.bind ?_ (fun _ => ?_)
def wash_Moves.T10 : Bool × List (List Nat × List Nat) := (true, [([], []), ([0], [0]), ([1], [1]), ([2], [2]), ([], []), ([4], [4]), ([5], [5]), ([6], [6]), ([3, 7], [3, 7]), ([8, 0, 1, 2, 3, 4, 5, 6, 7, 8], [8])])
def wash_Moves.B10 : List Nat := [0, 1, 3, 7, 0, 16, 48, 112, 255, 511]
theorem wash_Moves.tab10 : rtab .any (opsOf Try.f82 10) = wash_Moves.T10 := by kernel_rfl
theorem wash_Moves.bits10 : waitsOk wash_Moves.T10.2 wash_Moves.B10 = true := by kernel_rfl
def wash_Moves.T11 : Bool × List (List Nat × List Nat) := (true, [([], []), ([0], [0]), ([1], [1]), ([2], [2]), ([], []), ([4], [4]), ([5], [5]), ([6], [6]), ([3, 7], [3, 7])])
def wash_Moves.B11 : List Nat := [0, 1, 3, 7, 0, 16, 48, 112, 255]
theorem wash_Moves.tab11 : rtab .any (opsOf Try.f82 11) = wash_Moves.T11 := by kernel_rfl
theorem wash_Moves.bits11 : waitsOk wash_Moves.T11.2 wash_Moves.B11 = true := by kernel_rfl
def wash_Moves.T12 : Bool × List (List Nat × List Nat) := (true, [([], []), ([], []), ([1], [1]), ([2], [2]), ([3], [3]), ([], []), ([5], [5]), ([6], [6]), ([7], [7]), ([], []), ([4, 8, 9], [4, 8, 9]), ([10], [10]), ([0, 11], [0, 11]), ([12, 12, 0, 1, 2, 3, 4, 5, 6, 7, 8, 9, 10, 11, 12], [0, 12])])
def wash_Moves.B12 : List Nat := [0, 0, 2, 6, 14, 0, 32, 96, 224, 0, 1022, 2046, 4095, 8191]
theorem wash_Moves.tab12 : rtab .any (opsOf Try.f82 12) = wash_Moves.T12 := by kernel_rfl
theorem wash_Moves.bits12 : waitsOk wash_Moves.T12.2 wash_Moves.B12 = true := by kernel_rfl
set_option maxHeartbeats 8000000 in
set_option maxRecDepth 100000 in
theorem wash_Moves.calls (k : Nat) (A0 : Option Addr) (c0 : Nat) (l0 : List (S58)) (A1 : Option Addr) (c1 : Nat) (l1 : List (S58)) (r1 : List (S83)) (r2 : Bool) (r3 : Int) (w : World) (hr0 : Kd.C k58 w A0 l0.length l0) (hc0 : l0.length ≤ c0) (hr1 : Kd.C k58 w A1 l1.length l1) (hc1 : l1.length ≤ c1) (h : wash_Moves.f k l0 l1 = some (r1, r2, r3)) :
    Calls Try.prog 82 #[.slice A0 l0.length c0, .slice A1 l1.length c1] w fun e w' => ∃ v0_ : Value, e = .returned (.tuple #[v0_, .bool r2, .int .i64 r3]) ∧ Kd.R k83 83 w' w.heap.size (fun _ => True) v0_ r1 ∧ Below w.heap.size w w' := by
  have hu83 := Try.underlying83
  have HR0 := Aside0.mk hr0
  have HC0 := Aside0.mk hc0
  clear hr0 hc0
  have HR1 := Aside0.mk hr1
  have HC1 := Aside0.mk hc1
  clear hr1 hc1
  have HB := Aside0.mk (Below.refl w.heap.size w)
  have H : ((wash_pair.f k l0 l1).bind fun t101 => (if t101 = 0 then ((wash_work.f l0 l1).bind fun bt102 => (if bt102.2 = true then ((api_Grain_100.f l0).bind fun t104 => ((api_Grain_100.f l1).bind fun t107 => (wash_Moves.l0 k t104 t107 ([] : List (S83))))) else (some (([] : List (S83)), false, 0)))) else (some (([] : List (S83)), false, t101)))) = some (r1, r2, r3) := h
  clear h
  replace H := Option.bind_eq_some_iff.mp H
  obtain ⟨t101, A30, H⟩ := H
  replace H : (if t101 = 0 then ((wash_work.f l0 l1).bind fun bt102 => (if bt102.2 = true then ((api_Grain_100.f l0).bind fun t104 => ((api_Grain_100.f l1).bind fun t107 => (wash_Moves.l0 k t104 t107 ([] : List (S83))))) else (some (([] : List (S83)), false, 0)))) else (some (([] : List (S83)), false, t101))) = some (r1, r2, r3) := H
  have A3 := Aside0.mk A30
  clear A30
  by_cases c4 : t101 = 0
  · rw [if_pos c4] at H
    have c4b0 : (t101 == 0) = true := beq_iff_eq.mpr c4
    have c4b1 : (t101 != 0) = false := bne_eq_false_iff_eq.mpr c4
    clear c4
    replace H := Option.bind_eq_some_iff.mp H
    obtain ⟨⟨t102, t103⟩, A50, H⟩ := H
    replace H : (if t103 = true then ((api_Grain_100.f l0).bind fun t104 => ((api_Grain_100.f l1).bind fun t107 => (wash_Moves.l0 k t104 t107 ([] : List (S83))))) else (some (([] : List (S83)), false, 0))) = some (r1, r2, r3) := H
    have A5 := Aside0.mk A50
    clear A50
    by_cases c6 : t103 = true
    · subst c6
      have H1 : ((api_Grain_100.f l0).bind fun t104 => ((api_Grain_100.f l1).bind fun t107 => (wash_Moves.l0 k t104 t107 ([] : List (S83))))) = some (r1, r2, r3) := by rw [if_pos rfl] at H; exact H
      clear H
      have H := H1
      clear H1
      replace H := Option.bind_eq_some_iff.mp H
      obtain ⟨t104, A70, H⟩ := H
      replace H : ((api_Grain_100.f l1).bind fun t107 => (wash_Moves.l0 k t104 t107 ([] : List (S83)))) = some (r1, r2, r3) := H
      have A7 := Aside0.mk A70
      clear A70
      replace H := Option.bind_eq_some_iff.mp H
      obtain ⟨t107, A80, H⟩ := H
      replace H : (wash_Moves.l0 k t104 t107 ([] : List (S83))) = some (r1, r2, r3) := H
      have A8 := Aside0.mk A80
      clear A80
      have H' := Aside0.mk H
      clear H
      go_enter Try.func82, Try.ntmps82
      go_wp2_with (first | ((with_reducible refine gate_callee (f := 97) rfl ?_); refine goesL_ (some 16) rfl rfl Try.func97 (by kernel_rfl) rfl #[.slice A0 l0.length c0, .slice A1 l1.length c1] rfl (by (try simp only [List.map_toArray, List.map_cons, List.map_nil]); first | done | rfl | (simp only [List.length_drop, List.length_take]; rfl)) ?_; (with_reducible refine (wash_pair.calls k _ _ l0 _ _ l1 t101 _ ?side1 ?side2 ?side3 ?side4 A3.out).mono ?_); (case side1 => repeat (first | exact HR0.out | (with_reducible refine Kd.C_alloc ?_ _) | (with_reducible refine Kd.C_drewN ?_ _) | (with_reducible refine Kd.C_drew ?_))); (case side2 => exact HC0.out); (case side3 => repeat (first | exact HR1.out | (with_reducible refine Kd.C_alloc ?_ _) | (with_reducible refine Kd.C_drewN ?_ _) | (with_reducible refine Kd.C_drew ?_))); (case side4 => exact HC1.out); rintro e w9 ⟨rfl, hb⟩; refine ⟨_, rfl, ?_⟩; have n0_ := Aside0.mk (below_step (by repeat (first | (with_reducible first | exact HB.out | apply below_alloc | apply pw_below_drewN | apply below_drew1) | exact HB.out)) hb); clear HB; have HB := n0_; clear n0_; (try clear hb); (try clear hb2); (try clear hk); (try clear hi)) | ((with_reducible refine gate_callee (f := 98) rfl ?_); refine goesL_ (some 23) rfl rfl Try.func98 (by kernel_rfl) rfl #[.slice A0 l0.length c0, .slice A1 l1.length c1] rfl (by (try simp only [List.map_toArray, List.map_cons, List.map_nil]); first | done | rfl | (simp only [List.length_drop, List.length_take]; rfl)) ?_; (with_reducible refine (wash_work.calls _ _ l0 _ _ l1 t102 true _ ?side1 ?side2 ?side3 ?side4 A5.out).mono ?_); (case side1 => repeat (first | exact (Kd.C_below HR0.out HB.out) | (with_reducible refine Kd.C_alloc ?_ _) | (with_reducible refine Kd.C_drewN ?_ _) | (with_reducible refine Kd.C_drew ?_))); (case side2 => exact HC0.out); (case side3 => repeat (first | exact (Kd.C_below HR1.out HB.out) | (with_reducible refine Kd.C_alloc ?_ _) | (with_reducible refine Kd.C_drewN ?_ _) | (with_reducible refine Kd.C_drew ?_))); (case side4 => exact HC1.out); rintro e w10 ⟨rfl, hb⟩; refine ⟨_, rfl, ?_⟩; have n0_ := Aside0.mk (below_step (by repeat (first | (with_reducible first | exact HB.out | apply below_alloc | apply pw_below_drewN | apply below_drew1) | exact HB.out)) hb); clear HB; have HB := n0_; clear n0_; (try clear hb); (try clear hb2); (try clear hk); (try clear hi)) | ((with_reducible refine gate_callee (f := 100) rfl ?_); refine goesL_ (some 29) rfl rfl Try.func100 (by kernel_rfl) rfl #[.slice A0 l0.length c0] rfl (by (try simp only [List.map_toArray, List.map_cons, List.map_nil]); first | done | rfl | (simp only [List.length_drop, List.length_take]; rfl)) ?_; (with_reducible refine (api_Grain_100.calls _ _ l0 t104 _ ?side1 ?side2 A7.out).mono ?_); (case side1 => repeat (first | exact (Kd.C_below HR0.out HB.out) | (with_reducible refine Kd.C_alloc ?_ _) | (with_reducible refine Kd.C_drewN ?_ _) | (with_reducible refine Kd.C_drew ?_))); (case side2 => exact HC0.out); rintro e w11 ⟨v105, rfl, ho0, hb⟩; refine ⟨_, rfl, ?_⟩; have n0_ := Aside0.mk (Kd.R_lower ho0 (below_size (by repeat (first | (with_reducible first | exact HB.out | apply below_alloc | apply pw_below_drewN | apply below_drew1) | exact HB.out)))); have n1_ := Aside0.mk (below_step (by repeat (first | (with_reducible first | exact HB.out | apply below_alloc | apply pw_below_drewN | apply below_drew1) | exact HB.out)) hb); clear HB; have HO106 := n0_; have HB := n1_; clear n0_ n1_; (try clear hb); (try clear hb2); (try clear hk); (try clear hi); (try clear ho0)) | ((with_reducible refine gate_callee (f := 100) rfl ?_); refine goesL_ (some 31) rfl rfl Try.func100 (by kernel_rfl) rfl #[.slice A1 l1.length c1] rfl (by (try simp only [List.map_toArray, List.map_cons, List.map_nil]); first | done | rfl | (simp only [List.length_drop, List.length_take]; rfl)) ?_; (with_reducible refine (api_Grain_100.calls _ _ l1 t107 _ ?side1 ?side2 A8.out).mono ?_); (case side1 => repeat (first | exact (Kd.C_below HR1.out HB.out) | (with_reducible refine Kd.C_alloc ?_ _) | (with_reducible refine Kd.C_drewN ?_ _) | (with_reducible refine Kd.C_drew ?_))); (case side2 => exact HC1.out); rintro e w12 ⟨v108, rfl, ho0, hb⟩; refine ⟨_, rfl, ?_⟩; have n0_ := Aside0.mk (Kd.R_elder' (by (with_reducible repeat (first | apply Kd.R_alloc | apply Kd.R_drewN | apply Kd.R_drew)); exact HO106.out) (Kd.R_base ho0) hb); have n1_ := Aside0.mk (Kd.R_lower (Kd.R_new' ho0 (Kd.R_lt (by (with_reducible repeat (first | apply Kd.R_alloc | apply Kd.R_drewN | apply Kd.R_drew)); exact HO106.out))) (below_size (by repeat (first | (with_reducible first | exact HB.out | apply below_alloc | apply pw_below_drewN | apply below_drew1) | exact HB.out)))); have n2_ := Aside0.mk (below_step (by repeat (first | (with_reducible first | exact HB.out | apply below_alloc | apply pw_below_drewN | apply below_drew1) | exact HB.out)) hb); clear HO106; clear HB; have HO106 := n0_; have HO109 := n1_; have HB := n2_; clear n0_ n1_ n2_; (try clear hb); (try clear hb2); (try clear hk); (try clear hi); (try clear ho0)))
      go_loopg [10, 11, 12] k (fun kq v10 v11 v12 w' => ∃ (x10_1 : List (S58)) (x11_1 : List (S58)) (x12_1 : List (S83)), Aside0 (wash_Moves.l0 kq x10_1 x11_1 x12_1 = some (r1, r2, r3)) ∧ Aside0 (kq ≤ k) ∧ Aside0 (Kd.Q k58 58 w' w.heap.size (fun k_ => some k_ ≠ (v11 : Value).ownBlock) v10 x10_1) ∧ Aside0 (Kd.Q k58 58 w' w.heap.size (fun k_ => some k_ ≠ (v10 : Value).ownBlock) v11 x11_1) ∧ Aside0 (Kd.R k83 83 w' w.heap.size (fun _ => True) v12 x12_1) ∧ Aside0 (Below w.heap.size w w'))
      case atStart => exact ⟨(t104), (t107), (([] : List (S83))), H', ⟨Nat.le_refl _⟩, ⟨Kd.Q_of_R (by (with_reducible repeat (first | apply Kd.R_alloc | apply Kd.R_drewN | apply Kd.R_drew)); exact Kd.R_mono HO106.out (fun _ hk => hk.2))⟩, ⟨Kd.Q_of_R (by (with_reducible repeat (first | apply Kd.R_alloc | apply Kd.R_drewN | apply Kd.R_drew)); exact Kd.R_mono HO109.out (fun _ hk => hk.2))⟩, ⟨by first | exact Kd.R_nil _ _ _ _ _ | exact Kd.N_nil _ _ _ _ _ | exact Kd.V_nil _ _ _ _ _ | exact Kd.Q_nil _ _ _ _ _ | exact Kd.S_nil _ _ _ _ _⟩, ⟨by repeat (first | (with_reducible first | exact HB.out | apply below_alloc | apply pw_below_drewN | apply below_drew1) | exact HB.out)⟩⟩
      case round =>
        clear H'
        try clear c1
        try clear p2
        try clear c4
        try clear c4b0
        try clear c4b1
        try clear c6
        try clear c8
        try clear c9
        try clear c10
        obtain ⟨x10_1, x11_1, x12_1, HA, HK1, HO_10, HO_11, HO_12, HB⟩ := hrel
        cases gk with
        | zero => exact absurd HA.out (by simp [wash_Moves.l0])
        | succ k1 =>
          have H := HA.out
          clear HA
          simp only [wash_Moves.l0] at H
          by_cases c13 : (x10_1.length : Int) > 0
          · rw [if_pos c13] at H
            have c13b0 : decide (0 < (x10_1.length : Int)) = true := decide_eq_true c13
            have c13b1 : decide (0 < x10_1.length) = true := decide_eq_true (by omega)
            clear c13
            by_cases c14 : 0 < (x10_1.length : Int)
            · rw [if_pos c14] at H
              have c14b0 : decide (0 < (x10_1.length : Int)) = true := decide_eq_true c14
              have c14b1 : decide (0 < x10_1.length) = true := decide_eq_true (by omega)
              clear c14
              by_cases c15 : 0 < (x11_1.length : Int)
              · rw [if_pos c15] at H
                have c15b0 : decide (0 < (x11_1.length : Int)) = true := decide_eq_true c15
                have c15b1 : decide (0 < x11_1.length) = true := decide_eq_true (by omega)
                clear c15
                obtain ⟨ji16, hji16⟩ : ∃ j_ : Int, (mn ((rd_T58 x10_1 0).f1) ((rd_T58 x11_1 0).f1)) = j_ := ⟨_, rfl⟩
                replace H : (if ((rd_T58 x11_1 0).f0) > ((rd_T58 x10_1 0).f0) then (if x12_1.length < 5864062014805 then (wash_Moves.j1 k1 x10_1 x11_1 (x12_1 ++ [(⟨(rd_T58 x11_1 0).f0, (rd_T58 x10_1 0).f0, ji16⟩ : S83)]) ji16) else (none)) else (wash_Moves.j1 k1 x10_1 x11_1 x12_1 ji16)) = some (r1, r2, r3) := by first | (rw [hji16] at H; exact H) | (simp only [hji16] at H ⊢; exact H)
                have hji16_ : (if ((rd_T58 x11_1 0).f1) < ((rd_T58 x10_1 0).f1) then ((rd_T58 x11_1 0).f1) else ((rd_T58 x10_1 0).f1)) = ji16 := hji16
                have HC17 := Aside0.mk H
                clear H
                obtain ⟨Ao18, co18, eo18, _⟩ := Kd.Q_slice HO_10.out
                subst eo18
                try go_wp2
                have n0_ := Aside0.mk (Kd.Q_drew HO_10.out)
                have n1_ := Aside0.mk (Kd.Q_drew HO_11.out)
                have n2_ := Aside0.mk (Kd.R_drew HO_12.out)
                have n3_ := Aside0.mk (below_drew1 HB.out)
                clear HO_10
                clear HO_11
                clear HO_12
                clear HB
                have HO_10 := n0_
                have HO_11 := n1_
                have HO_12 := n2_
                have HB := n3_
                clear n0_ n1_ n2_ n3_
                have p110 : 0 ≤ (0 : Int) := (by omega)
                have q110 : 0 < (x10_1.length : Int) := of_decide_eq_true (by first | (with_reducible assumption) | assumption)
                obtain ⟨ad110, e110, hx110_0, hx110_1⟩ := at_T58 (Kd.Q_reads' HO_10.out).2.2 0 p110 q110
                cases e110
                have qi110 : (0 < x10_1.length) = True := eq_true (by omega)
                (try rw [show ((0 : Int)).toNat = 0 from rfl] at hx110_0)
                (try rw [show 0 * 2 = 0 from rfl] at hx110_0)
                (try rw [Addr.add_zero'] at hx110_0)
                (try rw [show ((0 : Int)).toNat = 0 from rfl] at hx110_1)
                (try rw [show 0 * 2 = 0 from rfl] at hx110_1)
                (try rw [Addr.add_zero'] at hx110_1)
                replace p110 := eq_true p110
                replace q110 := eq_true q110
                obtain ⟨Ao20, co20, eo20, _⟩ := Kd.Q_slice HO_11.out
                (first | subst eo20 | (injection eo20 with f1_ f2_ f3_; have f4_ := f1_.symm; have f5_ := f3_.symm; clear f1_ f2_ f3_; subst f4_; subst f5_))
                have p111 : 0 ≤ (0 : Int) := (by omega)
                have q111 : 0 < (x11_1.length : Int) := of_decide_eq_true (by first | (with_reducible assumption) | assumption)
                obtain ⟨ad111, e111, hx111_0, hx111_1⟩ := at_T58 (Kd.Q_reads' HO_11.out).2.2 0 p111 q111
                cases e111
                have qi111 : (0 < x11_1.length) = True := eq_true (by omega)
                (try rw [show ((0 : Int)).toNat = 0 from rfl] at hx111_0)
                (try rw [show 0 * 2 = 0 from rfl] at hx111_0)
                (try rw [Addr.add_zero'] at hx111_0)
                (try rw [show ((0 : Int)).toNat = 0 from rfl] at hx111_1)
                (try rw [show 0 * 2 = 0 from rfl] at hx111_1)
                (try rw [Addr.add_zero'] at hx111_1)
                replace p111 := eq_true p111
                replace q111 := eq_true q111
                refine start_ (n := 10) (S := fun w' => w'.cell? ad110 = some (.int .i64 ((rd_T58 x10_1 0).f0)) ∧ w'.cell? ⟨ad110.block, ad110.off + 1, none⟩ = some (.int .i64 ((rd_T58 x10_1 0).f1)) ∧ w'.cell? ad111 = some (.int .i64 ((rd_T58 x11_1 0).f0)) ∧ w'.cell? ⟨ad111.block, ad111.off + 1, none⟩ = some (.int .i64 ((rd_T58 x11_1 0).f1))) (ds := []) #[false, false, false, false, false, false, false, false, false, false] (by kernel_rfl) rfl rfl ⟨hx110_0, hx110_1, hx111_0, hx111_1⟩ (fun hHeld => ?_); refine with_tabW wash_Moves.tab10 wash_Moves.bits10 (fun HT_ HW_ => ?_)
                generalize wr.drew = w19 at HO_10 HO_11 HO_12 HB hx110_0 hx110_1 hx111_0 hx111_1 hHeld ⊢
                refine pure_ (i := 0) (N := some 35) (v := ?_) (a' := ?_) #[true, false, false, false, false, false, false, false, false, false] rfl rfl (any_of HT_.out (by kernel_rfl)) (fun _ _ _ h => h) (Or.inl ⟨by rfl, ?_⟩) ?_ ?_
                rotate_left
                · intro w'
                  go_simp
                  with_reducible rfl
                rotate_left
                · simp only [Act.put, List.setIfInBounds_toArray, List.set_cons_zero, List.set_cons_succ, i64_w, i32_w]
                  rfl
                refine pure_ (i := 1) (N := some 36) (v := ?_) (a' := ?_) #[true, true, false, false, false, false, false, false, false, false] rfl rfl (any_of HT_.out (by kernel_rfl)) (fun _ _ _ h => h) (Or.inl ⟨by rfl, ?_⟩) ?_ ?_
                rotate_left
                · intro w'
                  go_simp
                  with_reducible rfl
                rotate_left
                · simp only [Act.put, List.setIfInBounds_toArray, List.set_cons_zero, List.set_cons_succ, i64_w, i32_w]
                  rfl
                refine pure_ (i := 2) (N := some 37) (v := ?_) (a' := ?_) #[true, true, true, false, false, false, false, false, false, false] rfl rfl (any_of HT_.out (by kernel_rfl)) (fun _ _ _ h => h) (Or.inl ⟨by rfl, ?_⟩) ?_ ?_
                rotate_left
                · intro w'
                  go_simp
                  with_reducible rfl
                rotate_left
                · simp only [Act.put, List.setIfInBounds_toArray, List.set_cons_zero, List.set_cons_succ, i64_w, i32_w]
                  rfl
                refine pure_ (i := 4) (N := some 39) (v := ?_) (a' := ?_) #[true, true, true, false, true, false, false, false, false, false] rfl rfl (any_of HT_.out (by kernel_rfl)) (fun _ _ _ h => h) (Or.inl ⟨by rfl, ?_⟩) ?_ ?_
                rotate_left
                · intro w'
                  go_simp
                  with_reducible rfl
                rotate_left
                · simp only [Act.put, List.setIfInBounds_toArray, List.set_cons_zero, List.set_cons_succ, i64_w, i32_w]
                  rfl
                refine pure_ (i := 5) (N := some 40) (v := ?_) (a' := ?_) #[true, true, true, false, true, true, false, false, false, false] rfl rfl (any_of HT_.out (by kernel_rfl)) (fun _ _ _ h => h) (Or.inl ⟨by rfl, ?_⟩) ?_ ?_
                rotate_left
                · intro w'
                  go_simp
                  with_reducible rfl
                rotate_left
                · simp only [Act.put, List.setIfInBounds_toArray, List.set_cons_zero, List.set_cons_succ, i64_w, i32_w]
                  rfl
                refine pure_ (i := 6) (N := some 41) (v := ?_) (a' := ?_) #[true, true, true, false, true, true, true, false, false, false] rfl rfl (any_of HT_.out (by kernel_rfl)) (fun _ _ _ h => h) (Or.inl ⟨by rfl, ?_⟩) ?_ ?_
                rotate_left
                · intro w'
                  go_simp
                  with_reducible rfl
                rotate_left
                · simp only [Act.put, List.setIfInBounds_toArray, List.set_cons_zero, List.set_cons_succ, i64_w, i32_w]
                  rfl
                refine take_ (i := 3) (N := some 38) (v := ?_) (a' := ?_) #[true, true, true, true, true, true, true, false, false, false] rfl rfl (take_ofW HT_.out HW_.out (by kernel_rfl)) (fun _ _ _ h => h) (Or.inl ⟨by rfl, ?_⟩) hHeld ?_ ?_
                rotate_left
                · rintro w' ⟨s0, s1, s2, s3⟩
                  go_simp
                  with_reducible rfl
                rotate_left
                · simp only [Act.put, List.setIfInBounds_toArray, List.set_cons_zero, List.set_cons_succ, i64_w, i32_w]
                  rfl
                refine take_ (i := 7) (N := some 42) (v := ?_) (a' := ?_) #[true, true, true, true, true, true, true, true, false, false] rfl rfl (take_ofW HT_.out HW_.out (by kernel_rfl)) (fun _ _ _ h => h) (Or.inl ⟨by rfl, ?_⟩) hHeld ?_ ?_
                rotate_left
                · rintro w' ⟨s0, s1, s2, s3⟩
                  go_simp
                  with_reducible rfl
                rotate_left
                · simp only [Act.put, List.setIfInBounds_toArray, List.set_cons_zero, List.set_cons_succ, i64_w, i32_w]
                  rfl
                refine pure_ (i := 8) (N := some 43) (v := ?_) (a' := ?_) #[true, true, true, true, true, true, true, true, true, false] rfl rfl (any_of HT_.out (by kernel_rfl)) (fun _ _ _ h => h) (Or.inl ⟨by rfl, ?_⟩) ?_ ?_
                rotate_left
                · intro w'
                  go_simp
                  with_reducible rfl
                rotate_left
                · simp only [Act.put, List.setIfInBounds_toArray, List.set_cons_zero, List.set_cons_succ, i64_w, i32_w]
                  rfl
                refine pure_ (i := 9) (N := some 13) (v := ?_) (a' := ?_) #[true, true, true, true, true, true, true, true, true, true] rfl rfl (any_of HT_.out (by kernel_rfl)) (fun _ _ _ h => h) (Or.inl ⟨by rfl, ?_⟩) ?_ ?_
                rotate_left
                · intro w'
                  go_simp
                  with_reducible rfl
                rotate_left
                · simp only [Act.put, List.setIfInBounds_toArray, List.set_cons_zero, List.set_cons_succ, i64_w, i32_w]
                  rfl
                refine done_ (done_of HT_.out (by kernel_rfl)) ?_
                try go_wp2
                have n0_ := Aside0.mk (Kd.Q_drew HO_10.out)
                have n1_ := Aside0.mk (Kd.Q_drew HO_11.out)
                have n2_ := Aside0.mk (Kd.R_drew HO_12.out)
                have n3_ := Aside0.mk (below_drew1 HB.out)
                clear HO_10
                clear HO_11
                clear HO_12
                clear HB
                have HO_10 := n0_
                have HO_11 := n1_
                have HO_12 := n2_
                have HB := n3_
                clear n0_ n1_ n2_ n3_
                have p112 : 0 ≤ (0 : Int) := (by omega)
                have q112 : 0 < (x11_1.length : Int) := of_decide_eq_true (by first | (with_reducible assumption) | assumption)
                obtain ⟨ad112, e112, hx112_0, hx112_1⟩ := at_T58 (Kd.Q_reads' HO_11.out).2.2 0 p112 q112
                obtain rfl : ad111 = ad112 := (by injection e112)
                have qi112 : (0 < x11_1.length) = True := eq_true (by omega)
                (try rw [show ((0 : Int)).toNat = 0 from rfl] at hx112_0)
                (try rw [show 0 * 2 = 0 from rfl] at hx112_0)
                (try rw [Addr.add_zero'] at hx112_0)
                (try rw [show ((0 : Int)).toNat = 0 from rfl] at hx112_1)
                (try rw [show 0 * 2 = 0 from rfl] at hx112_1)
                (try rw [Addr.add_zero'] at hx112_1)
                replace p112 := eq_true p112
                replace q112 := eq_true q112
                have p113 : 0 ≤ (0 : Int) := (by omega)
                have q113 : 0 < (x10_1.length : Int) := of_decide_eq_true (by first | (with_reducible assumption) | assumption)
                obtain ⟨ad113, e113, hx113_0, hx113_1⟩ := at_T58 (Kd.Q_reads' HO_10.out).2.2 0 p113 q113
                obtain rfl : ad110 = ad113 := (by injection e113)
                have qi113 : (0 < x10_1.length) = True := eq_true (by omega)
                (try rw [show ((0 : Int)).toNat = 0 from rfl] at hx113_0)
                (try rw [show 0 * 2 = 0 from rfl] at hx113_0)
                (try rw [Addr.add_zero'] at hx113_0)
                (try rw [show ((0 : Int)).toNat = 0 from rfl] at hx113_1)
                (try rw [show 0 * 2 = 0 from rfl] at hx113_1)
                (try rw [Addr.add_zero'] at hx113_1)
                replace p113 := eq_true p113
                replace q113 := eq_true q113
                refine start_ (n := 9) (S := fun w' => w'.cell? ad111 = some (.int .i64 ((rd_T58 x11_1 0).f0)) ∧ w'.cell? ⟨ad111.block, ad111.off + 1, none⟩ = some (.int .i64 ((rd_T58 x11_1 0).f1)) ∧ w'.cell? ad110 = some (.int .i64 ((rd_T58 x10_1 0).f0)) ∧ w'.cell? ⟨ad110.block, ad110.off + 1, none⟩ = some (.int .i64 ((rd_T58 x10_1 0).f1))) (ds := []) #[false, false, false, false, false, false, false, false, false] (by kernel_rfl) rfl rfl ⟨hx112_0, hx112_1, hx113_0, hx113_1⟩ (fun hHeld => ?_); refine with_tabW wash_Moves.tab11 wash_Moves.bits11 (fun HT_ HW_ => ?_)
                generalize w19.drew = w21 at HO_10 HO_11 HO_12 HB hx112_0 hx112_1 hx113_0 hx113_1 hHeld ⊢
                refine pure_ (i := 0) (N := some 44) (v := ?_) (a' := ?_) #[true, false, false, false, false, false, false, false, false] rfl rfl (any_of HT_.out (by kernel_rfl)) (fun _ _ _ h => h) (Or.inl ⟨by rfl, ?_⟩) ?_ ?_
                rotate_left
                · intro w'
                  go_simp
                  with_reducible rfl
                rotate_left
                · simp only [Act.put, List.setIfInBounds_toArray, List.set_cons_zero, List.set_cons_succ, i64_w, i32_w]
                  rfl
                refine pure_ (i := 1) (N := some 45) (v := ?_) (a' := ?_) #[true, true, false, false, false, false, false, false, false] rfl rfl (any_of HT_.out (by kernel_rfl)) (fun _ _ _ h => h) (Or.inl ⟨by rfl, ?_⟩) ?_ ?_
                rotate_left
                · intro w'
                  go_simp
                  with_reducible rfl
                rotate_left
                · simp only [Act.put, List.setIfInBounds_toArray, List.set_cons_zero, List.set_cons_succ, i64_w, i32_w]
                  rfl
                refine pure_ (i := 2) (N := some 46) (v := ?_) (a' := ?_) #[true, true, true, false, false, false, false, false, false] rfl rfl (any_of HT_.out (by kernel_rfl)) (fun _ _ _ h => h) (Or.inl ⟨by rfl, ?_⟩) ?_ ?_
                rotate_left
                · intro w'
                  go_simp
                  with_reducible rfl
                rotate_left
                · simp only [Act.put, List.setIfInBounds_toArray, List.set_cons_zero, List.set_cons_succ, i64_w, i32_w]
                  rfl
                refine pure_ (i := 4) (N := some 48) (v := ?_) (a' := ?_) #[true, true, true, false, true, false, false, false, false] rfl rfl (any_of HT_.out (by kernel_rfl)) (fun _ _ _ h => h) (Or.inl ⟨by rfl, ?_⟩) ?_ ?_
                rotate_left
                · intro w'
                  go_simp
                  with_reducible rfl
                rotate_left
                · simp only [Act.put, List.setIfInBounds_toArray, List.set_cons_zero, List.set_cons_succ, i64_w, i32_w]
                  rfl
                refine pure_ (i := 5) (N := some 49) (v := ?_) (a' := ?_) #[true, true, true, false, true, true, false, false, false] rfl rfl (any_of HT_.out (by kernel_rfl)) (fun _ _ _ h => h) (Or.inl ⟨by rfl, ?_⟩) ?_ ?_
                rotate_left
                · intro w'
                  go_simp
                  with_reducible rfl
                rotate_left
                · simp only [Act.put, List.setIfInBounds_toArray, List.set_cons_zero, List.set_cons_succ, i64_w, i32_w]
                  rfl
                refine pure_ (i := 6) (N := some 50) (v := ?_) (a' := ?_) #[true, true, true, false, true, true, true, false, false] rfl rfl (any_of HT_.out (by kernel_rfl)) (fun _ _ _ h => h) (Or.inl ⟨by rfl, ?_⟩) ?_ ?_
                rotate_left
                · intro w'
                  go_simp
                  with_reducible rfl
                rotate_left
                · simp only [Act.put, List.setIfInBounds_toArray, List.set_cons_zero, List.set_cons_succ, i64_w, i32_w]
                  rfl
                refine take_ (i := 3) (N := some 47) (v := ?_) (a' := ?_) #[true, true, true, true, true, true, true, false, false] rfl rfl (take_ofW HT_.out HW_.out (by kernel_rfl)) (fun _ _ _ h => h) (Or.inl ⟨by rfl, ?_⟩) hHeld ?_ ?_
                rotate_left
                · rintro w' ⟨s0, s1, s2, s3⟩
                  go_simp
                  with_reducible rfl
                rotate_left
                · simp only [Act.put, List.setIfInBounds_toArray, List.set_cons_zero, List.set_cons_succ, i64_w, i32_w]
                  rfl
                refine take_ (i := 7) (N := some 51) (v := ?_) (a' := ?_) #[true, true, true, true, true, true, true, true, false] rfl rfl (take_ofW HT_.out HW_.out (by kernel_rfl)) (fun _ _ _ h => h) (Or.inl ⟨by rfl, ?_⟩) hHeld ?_ ?_
                rotate_left
                · rintro w' ⟨s0, s1, s2, s3⟩
                  go_simp
                  with_reducible rfl
                rotate_left
                · simp only [Act.put, List.setIfInBounds_toArray, List.set_cons_zero, List.set_cons_succ, i64_w, i32_w]
                  rfl
                refine pure_ (i := 8) (N := some 52) (v := ?_) (a' := ?_) #[true, true, true, true, true, true, true, true, true] rfl rfl (any_of HT_.out (by kernel_rfl)) (fun _ _ _ h => h) (Or.inl ⟨by rfl, ?_⟩) ?_ ?_
                rotate_left
                · intro w'
                  go_simp
                  with_reducible rfl
                rotate_left
                · simp only [Act.put, List.setIfInBounds_toArray, List.set_cons_zero, List.set_cons_succ, i64_w, i32_w]
                  rfl
                refine done_ (done_of HT_.out (by kernel_rfl)) ?_
                go_upto_if 52 with (fail)
                go_cut [12] (fun v12 wc => ∃ (kq : Nat) (x12_16 : List (S83)), Aside0 (wash_Moves.j1 kq x10_1 x11_1 x12_16 ji16 = some (r1, r2, r3)) ∧ Aside0 (kq ≤ k1) ∧ Aside0 (Kd.Q k58 58 wc w.heap.size (fun k_ => some k_ ≠ ((.slice (some ad111) x11_1.length co20) : Value).ownBlock) (.slice (some ad110) x10_1.length co18) x10_1) ∧ Aside0 (Kd.Q k58 58 wc w.heap.size (fun k_ => some k_ ≠ ((.slice (some ad110) x10_1.length co18) : Value).ownBlock) (.slice (some ad111) x11_1.length co20) x11_1) ∧ Aside0 (Kd.R k83 83 wc w.heap.size (fun _ => True) v12 x12_16) ∧ Aside0 (Below w.heap.size w wc))
                case first =>
                  have H := HC17.out
                  clear HC17
                  by_cases c22 : ((rd_T58 x11_1 0).f0) > ((rd_T58 x10_1 0).f0)
                  · rw [if_pos c22] at H
                    have c22b0 : decide (((rd_T58 x10_1 0).f0) < ((rd_T58 x11_1 0).f0)) = true := decide_eq_true c22
                    clear c22
                    (first | rw [c22b0] | (simp only [i64_w, i32_w]; rw [c22b0]) | skip)
                    by_cases c23 : x12_1.length < 5864062014805
                    · rw [if_pos c23] at H
                      have LMc23 := Aside0.mk c23
                      clear c23
                      obtain ⟨y116, hy116⟩ : ∃ y_ : List (S83), y_ = (x12_1 ++ [(⟨(rd_T58 x11_1 0).f0, (rd_T58 x10_1 0).f0, ji16⟩ : S83)]) := ⟨_, rfl⟩
                      replace H : (wash_Moves.j1 k1 x10_1 x11_1 y116 ji16) = some (r1, r2, r3) := by first | (rw [hy116]; with_reducible exact H) | (have H2_ := (Option.bind_some _ _).symm.trans H; rw [hy116]; with_reducible exact H2_) | (have H2_ := (Option.bind_some _ _).symm.trans H; with_reducible exact H2_) | with_reducible exact H | (rw [hy116]; exact H) | exact H
                      have Ny116 := Aside0.mk hy116
                      clear hy116
                      have H' := Aside0.mk H
                      clear H
                      try go_wp2
                      have n0_ := Aside0.mk (Kd.Q_drew HO_10.out)
                      have n1_ := Aside0.mk (Kd.Q_drew HO_11.out)
                      have n2_ := Aside0.mk (Kd.R_drew HO_12.out)
                      have n3_ := Aside0.mk (below_drew1 HB.out)
                      clear HO_10
                      clear HO_11
                      clear HO_12
                      clear HB
                      have HO_10 := n0_
                      have HO_11 := n1_
                      have HO_12 := n2_
                      have HB := n3_
                      clear n0_ n1_ n2_ n3_
                      have p114 : 0 ≤ (0 : Int) := (by omega)
                      have q114 : 0 < (x11_1.length : Int) := of_decide_eq_true (by first | (with_reducible assumption) | assumption)
                      obtain ⟨ad114, e114, hx114_0, hx114_1⟩ := at_T58 (Kd.Q_reads' HO_11.out).2.2 0 p114 q114
                      obtain rfl : ad111 = ad114 := (by injection e114)
                      have qi114 : (0 < x11_1.length) = True := eq_true (by omega)
                      (try rw [show ((0 : Int)).toNat = 0 from rfl] at hx114_0)
                      (try rw [show 0 * 2 = 0 from rfl] at hx114_0)
                      (try rw [Addr.add_zero'] at hx114_0)
                      (try rw [show ((0 : Int)).toNat = 0 from rfl] at hx114_1)
                      (try rw [show 0 * 2 = 0 from rfl] at hx114_1)
                      (try rw [Addr.add_zero'] at hx114_1)
                      replace p114 := eq_true p114
                      replace q114 := eq_true q114
                      have p115 : 0 ≤ (0 : Int) := (by omega)
                      have q115 : 0 < (x10_1.length : Int) := of_decide_eq_true (by first | (with_reducible assumption) | assumption)
                      obtain ⟨ad115, e115, hx115_0, hx115_1⟩ := at_T58 (Kd.Q_reads' HO_10.out).2.2 0 p115 q115
                      obtain rfl : ad110 = ad115 := (by injection e115)
                      have qi115 : (0 < x10_1.length) = True := eq_true (by omega)
                      (try rw [show ((0 : Int)).toNat = 0 from rfl] at hx115_0)
                      (try rw [show 0 * 2 = 0 from rfl] at hx115_0)
                      (try rw [Addr.add_zero'] at hx115_0)
                      (try rw [show ((0 : Int)).toNat = 0 from rfl] at hx115_1)
                      (try rw [show 0 * 2 = 0 from rfl] at hx115_1)
                      (try rw [Addr.add_zero'] at hx115_1)
                      replace p115 := eq_true p115
                      replace q115 := eq_true q115
                      refine start_ (n := 14) (S := fun w' => w'.cell? ad111 = some (.int .i64 ((rd_T58 x11_1 0).f0)) ∧ w'.cell? ⟨ad111.block, ad111.off + 1, none⟩ = some (.int .i64 ((rd_T58 x11_1 0).f1)) ∧ w'.cell? ad110 = some (.int .i64 ((rd_T58 x10_1 0).f0)) ∧ w'.cell? ⟨ad110.block, ad110.off + 1, none⟩ = some (.int .i64 ((rd_T58 x10_1 0).f1))) (ds := [11, 12]) #[false, false, false, false, false, false, false, false, false, false, false, false, false, false] (by kernel_rfl) rfl rfl ⟨hx114_0, hx114_1, hx115_0, hx115_1⟩ (fun hHeld => ?_); refine with_tabW wash_Moves.tab12 wash_Moves.bits12 (fun HT_ HW_ => ?_)
                      generalize w21.drew = w24 at HO_10 HO_11 HO_12 HB hx114_0 hx114_1 hx115_0 hx115_1 hHeld ⊢
                      refine pure_ (i := 0) (N := some 53) (v := ?_) (a' := ?_) #[true, false, false, false, false, false, false, false, false, false, false, false, false, false] rfl rfl (any_of HT_.out (by kernel_rfl)) (fun _ _ _ h => h) (Or.inl ⟨by rfl, ?_⟩) ?_ ?_
                      rotate_left
                      · intro w'
                        go_simp
                        with_reducible rfl
                      rotate_left
                      · simp only [Act.put, List.setIfInBounds_toArray, List.set_cons_zero, List.set_cons_succ, i64_w, i32_w]
                        rfl
                      refine pure_ (i := 1) (N := some 54) (v := ?_) (a' := ?_) #[true, true, false, false, false, false, false, false, false, false, false, false, false, false] rfl rfl (any_of HT_.out (by kernel_rfl)) (fun _ _ _ h => h) (Or.inl ⟨by rfl, ?_⟩) ?_ ?_
                      rotate_left
                      · intro w'
                        go_simp
                        with_reducible rfl
                      rotate_left
                      · simp only [Act.put, List.setIfInBounds_toArray, List.set_cons_zero, List.set_cons_succ, i64_w, i32_w]
                        rfl
                      refine pure_ (i := 2) (N := some 55) (v := ?_) (a' := ?_) #[true, true, true, false, false, false, false, false, false, false, false, false, false, false] rfl rfl (any_of HT_.out (by kernel_rfl)) (fun _ _ _ h => h) (Or.inl ⟨by rfl, ?_⟩) ?_ ?_
                      rotate_left
                      · intro w'
                        go_simp
                        with_reducible rfl
                      rotate_left
                      · simp only [Act.put, List.setIfInBounds_toArray, List.set_cons_zero, List.set_cons_succ, i64_w, i32_w]
                        rfl
                      refine pure_ (i := 3) (N := some 56) (v := ?_) (a' := ?_) #[true, true, true, true, false, false, false, false, false, false, false, false, false, false] rfl rfl (any_of HT_.out (by kernel_rfl)) (fun _ _ _ h => h) (Or.inl ⟨by rfl, ?_⟩) ?_ ?_
                      rotate_left
                      · intro w'
                        go_simp
                        with_reducible rfl
                      rotate_left
                      · simp only [Act.put, List.setIfInBounds_toArray, List.set_cons_zero, List.set_cons_succ, i64_w, i32_w]
                        rfl
                      refine pure_ (i := 5) (N := some 58) (v := ?_) (a' := ?_) #[true, true, true, true, false, true, false, false, false, false, false, false, false, false] rfl rfl (any_of HT_.out (by kernel_rfl)) (fun _ _ _ h => h) (Or.inl ⟨by rfl, ?_⟩) ?_ ?_
                      rotate_left
                      · intro w'
                        go_simp
                        with_reducible rfl
                      rotate_left
                      · simp only [Act.put, List.setIfInBounds_toArray, List.set_cons_zero, List.set_cons_succ, i64_w, i32_w]
                        rfl
                      refine pure_ (i := 6) (N := some 59) (v := ?_) (a' := ?_) #[true, true, true, true, false, true, true, false, false, false, false, false, false, false] rfl rfl (any_of HT_.out (by kernel_rfl)) (fun _ _ _ h => h) (Or.inl ⟨by rfl, ?_⟩) ?_ ?_
                      rotate_left
                      · intro w'
                        go_simp
                        with_reducible rfl
                      rotate_left
                      · simp only [Act.put, List.setIfInBounds_toArray, List.set_cons_zero, List.set_cons_succ, i64_w, i32_w]
                        rfl
                      refine pure_ (i := 7) (N := some 60) (v := ?_) (a' := ?_) #[true, true, true, true, false, true, true, true, false, false, false, false, false, false] rfl rfl (any_of HT_.out (by kernel_rfl)) (fun _ _ _ h => h) (Or.inl ⟨by rfl, ?_⟩) ?_ ?_
                      rotate_left
                      · intro w'
                        go_simp
                        with_reducible rfl
                      rotate_left
                      · simp only [Act.put, List.setIfInBounds_toArray, List.set_cons_zero, List.set_cons_succ, i64_w, i32_w]
                        rfl
                      refine pure_ (i := 9) (N := some 62) (v := ?_) (a' := ?_) #[true, true, true, true, false, true, true, true, false, true, false, false, false, false] rfl rfl (any_of HT_.out (by kernel_rfl)) (fun _ _ _ h => h) (Or.inl ⟨by rfl, ?_⟩) ?_ ?_
                      rotate_left
                      · intro w'
                        go_simp
                        with_reducible rfl
                      rotate_left
                      · simp only [Act.put, List.setIfInBounds_toArray, List.set_cons_zero, List.set_cons_succ, i64_w, i32_w]
                        rfl
                      refine take_ (i := 4) (N := some 57) (v := ?_) (a' := ?_) #[true, true, true, true, true, true, true, true, false, true, false, false, false, false] rfl rfl (take_ofW HT_.out HW_.out (by kernel_rfl)) (fun _ _ _ h => h) (Or.inl ⟨by rfl, ?_⟩) hHeld ?_ ?_
                      rotate_left
                      · rintro w' ⟨s0, s1, s2, s3⟩
                        go_simp
                        with_reducible rfl
                      rotate_left
                      · simp only [Act.put, List.setIfInBounds_toArray, List.set_cons_zero, List.set_cons_succ, i64_w, i32_w]
                        rfl
                      refine take_ (i := 8) (N := some 61) (v := ?_) (a' := ?_) #[true, true, true, true, true, true, true, true, true, true, false, false, false, false] rfl rfl (take_ofW HT_.out HW_.out (by kernel_rfl)) (fun _ _ _ h => h) (Or.inl ⟨by rfl, ?_⟩) hHeld ?_ ?_
                      rotate_left
                      · rintro w' ⟨s0, s1, s2, s3⟩
                        go_simp
                        with_reducible rfl
                      rotate_left
                      · simp only [Act.put, List.setIfInBounds_toArray, List.set_cons_zero, List.set_cons_succ, i64_w, i32_w]
                        rfl
                      refine pure_ (i := 10) (N := some 63) (v := ?_) (a' := ?_) #[true, true, true, true, true, true, true, true, true, true, true, false, false, false] rfl rfl (any_of HT_.out (by kernel_rfl)) (fun _ _ _ h => h) (Or.inl ⟨by rfl, ?_⟩) ?_ ?_
                      rotate_left
                      · intro w'
                        go_simp
                        with_reducible rfl
                      rotate_left
                      · simp only [Act.put, List.setIfInBounds_toArray, List.set_cons_zero, List.set_cons_succ, i64_w, i32_w]
                        rfl
                      refine last_ (i := 11) (N := some 64) #[true, true, true, true, true, true, true, true, true, true, true, true, false, false] rfl rfl (one_of HT_.out (by kernel_rfl)) (by decide) (fun K hK => ?_)
                      refine value_ (w1 := ?_) (v := ?_) (by rfl) rfl ?_ ?_
                      rotate_left 2
                      · go_simp
                        constructor
                        · rfl
                        · rfl
                      refine hK.out _ _ ?_
                      clear hK K
                      refine norm_ (a' := ?_) ?_ ?_
                      rotate_left
                      · show Act.put _ (some 64) _ = _
                        simp only [Act.put, List.setIfInBounds_toArray, List.set_cons_zero, List.set_cons_succ, i64_w, i32_w]
                        rfl
                      refine last_ (i := 12) (N := some 65) #[true, true, true, true, true, true, true, true, true, true, true, true, true, false] rfl rfl (one_of HT_.out (by kernel_rfl)) (by decide) (fun K hK => ?_)
                      refine Kd.R_append_step k83 (w0 := w) w.heap.size (by rfl) (.tmp 53) (.tmp 64) 45 83 (.agg #[(.int .i64 0), (.int .i64 0), (.int .i64 0)]) 24 rfl Try.underlying45 info83 rfl (by decide) (by omega) u12 x12_1 (⟨(rd_T58 x11_1 0).f0, (rd_T58 x10_1 0).f0, ji16⟩ : S83) [.int .i64 ((rd_T58 x11_1 0).f0), .int .i64 ((rd_T58 x10_1 0).f0), .int .i64 ji16] (fun _ => True) (fun _ => False) rfl rfl ?aP (fun _ hk => hk.elim) ?aF ?aO ?aB ?aS ?aL ?_
                      (case aP => exact k83_mkM _ _ _ (⟨(rd_T58 x11_1 0).f0, (rd_T58 x10_1 0).f0, ji16⟩ : S83))
                      (case aB => exact (by repeat (first | (with_reducible first | exact HB.out | apply below_alloc | apply pw_below_drewN | apply below_drew1) | exact HB.out)))
                      (case aF => exact (fun _ _ => trivial))
                      (case aO => exact (by (with_reducible repeat (first | apply Kd.R_alloc | apply Kd.R_drewN | apply Kd.R_drew)); exact HO_12.out))
                      (case aS => exact (below_size (by repeat (first | (with_reducible first | exact HB.out | apply below_alloc | apply pw_below_drewN | apply below_drew1) | exact HB.out))))
                      (case aL => have := LMc23.out; omega)
                      intro v117 w25 ho hb hg hat
                      rw [← Ny116.out] at ho
                      have n0_ := Aside0.mk (Kd.Q_over' (by (with_reducible repeat (first | apply Kd.Q_alloc | apply Kd.Q_drewN | apply Kd.Q_drew)); exact HO_10.out) (Kd.R_typed (by (with_reducible repeat (first | apply Kd.R_alloc | apply Kd.R_drewN | apply Kd.R_drew)); exact HO_12.out)) (by decide) hg)
                      have n1_ := Aside0.mk (Kd.Q_over' (by (with_reducible repeat (first | apply Kd.Q_alloc | apply Kd.Q_drewN | apply Kd.Q_drew)); exact HO_11.out) (Kd.R_typed (by (with_reducible repeat (first | apply Kd.R_alloc | apply Kd.R_drewN | apply Kd.R_drew)); exact HO_12.out)) (by decide) hg)
                      have n2_ := Aside0.mk (hb)
                      have n3_ := Aside0.mk (ho)
                      clear HO_10
                      clear HO_11
                      clear HB
                      clear HO_12
                      have HO_10 := n0_
                      have HO_11 := n1_
                      have HB := n2_
                      have HO118 := n3_
                      clear n0_ n1_ n2_ n3_
                      clear ho hb hg hat
                      refine hK.out _ _ ?_
                      clear hK K
                      refine norm_ (a' := ?_) ?_ ?_
                      rotate_left
                      · show Act.put _ (some 65) _ = _
                        simp only [Act.put, List.setIfInBounds_toArray, List.set_cons_zero, List.set_cons_succ, i64_w, i32_w]
                        rfl
                      refine pure_ (i := 13) (N := some 12) (v := ?_) (a' := ?_) #[true, true, true, true, true, true, true, true, true, true, true, true, true, true] rfl rfl (any_of HT_.out (by kernel_rfl)) (fun _ _ _ h => h) (Or.inl ⟨by rfl, ?_⟩) ?_ ?_
                      rotate_left
                      · intro w'
                        go_simp
                        with_reducible rfl
                      rotate_left
                      · simp only [Act.put, List.setIfInBounds_toArray, List.set_cons_zero, List.set_cons_succ, i64_w, i32_w]
                        rfl
                      refine done_ (done_of HT_.out (by kernel_rfl)) ?_
                      try go_wp2
                      go_meet
                      case rel => exact ⟨_, (y116), H', ⟨by have := HK1.out; first | omega | exact Nat.le_refl _⟩, ⟨by (with_reducible repeat (first | apply Kd.Q_alloc | apply Kd.Q_drewN | apply Kd.Q_drew)); exact HO_10.out⟩, ⟨by (with_reducible repeat (first | apply Kd.Q_alloc | apply Kd.Q_drewN | apply Kd.Q_drew)); exact HO_11.out⟩, ⟨by (with_reducible repeat (first | apply Kd.R_alloc | apply Kd.R_drewN | apply Kd.R_drew)); exact HO118.out⟩, ⟨by repeat (first | (with_reducible first | exact HB.out | apply below_alloc | apply pw_below_drewN | apply below_drew1) | exact HB.out)⟩⟩
                    · rw [if_neg c23] at H
                      exact absurd H (by simp)
                  · rw [if_neg c22] at H
                    have c22b0 : decide (((rd_T58 x10_1 0).f0) < ((rd_T58 x11_1 0).f0)) = false := decide_eq_false c22
                    clear c22
                    (first | rw [c22b0] | (simp only [i64_w, i32_w]; rw [c22b0]) | skip)
                    have H' := Aside0.mk H
                    clear H
                    go_wp2
                    go_meet
                    case rel => exact ⟨_, (x12_1), H', ⟨by have := HK1.out; first | omega | exact Nat.le_refl _⟩, ⟨by (with_reducible repeat (first | apply Kd.Q_alloc | apply Kd.Q_drewN | apply Kd.Q_drew)); exact HO_10.out⟩, ⟨by (with_reducible repeat (first | apply Kd.Q_alloc | apply Kd.Q_drewN | apply Kd.Q_drew)); exact HO_11.out⟩, ⟨by (with_reducible repeat (first | apply Kd.R_alloc | apply Kd.R_drewN | apply Kd.R_drew)); exact HO_12.out⟩, ⟨by repeat (first | (with_reducible first | exact HB.out | apply below_alloc | apply pw_below_drewN | apply below_drew1) | exact HB.out)⟩⟩
                case rest =>
                  clear HC17
                  try clear c1
                  try clear p1
                  try clear q1
                  try clear hx1
                  try clear qi1
                  try clear c2
                  try clear p2
                  try clear c4
                  try clear c4b0
                  try clear c4b1
                  try clear c6
                  try clear c8
                  try clear c9
                  try clear c10
                  try clear p11
                  try clear q11
                  try clear hx11
                  try clear qi11
                  try clear c13
                  try clear c13b0
                  try clear c13b1
                  try clear c14
                  try clear c14b0
                  try clear c14b1
                  try clear c15
                  try clear c15b0
                  try clear c15b1
                  try clear c22
                  try clear c22b0
                  try clear c23
                  try clear hx110_0
                  try clear hx110_1
                  try clear hx111_0
                  try clear hx111_1
                  try clear hx112_0
                  try clear hx112_1
                  try clear hx113_0
                  try clear hx113_1
                  try clear hx114_0
                  try clear hx114_1
                  try clear hx115_0
                  try clear hx115_1
                  try clear p110
                  try clear p111
                  try clear p112
                  try clear p113
                  try clear p114
                  try clear p115
                  try clear p2
                  try clear q110
                  try clear q111
                  try clear q112
                  try clear q113
                  try clear q114
                  try clear q115
                  obtain ⟨kq, x12_16, HA, HJ16, HO_10, HO_11, HO_12, HB⟩ := hcut
                  cases kq with
                  | zero => exact absurd HA.out (by simp [wash_Moves.j1])
                  | succ kj16 =>
                    have H := HA.out
                    clear HA
                    simp only [wash_Moves.j1] at H
                    by_cases c26 : 0 < (x10_1.length : Int)
                    · rw [if_pos c26] at H
                      have c26b0 : decide (0 < (x10_1.length : Int)) = true := decide_eq_true c26
                      have c26b1 : decide (0 < x10_1.length) = true := decide_eq_true (by omega)
                      clear c26
                      obtain ⟨y120, hy120⟩ : ∃ y_ : List (S58), y_ = (x10_1.set (0 : Int).toNat (⟨(rd_T58 x10_1 0).f0, wrap64 (((rd_T58 x10_1 0).f1) - ji16)⟩ : S58)) := ⟨_, rfl⟩
                      replace H : (if ((rd_T58 y120 0).f1) = 0 then (if 1 ≤ (x10_1.length : Int) then ((some (y120.drop (1 : Int).toNat : List (S58))).bind fun y122 => (if 0 < (x11_1.length : Int) then ((some (x11_1.set (0 : Int).toNat (⟨(rd_T58 x11_1 0).f0, wrap64 (((rd_T58 x11_1 0).f1) - ji16)⟩ : S58) : List (S58))).bind fun y126 => (if ((rd_T58 y126 0).f1) = 0 then (if 1 ≤ (x11_1.length : Int) then (wash_Moves.l0 kj16 y122 (y126.drop (1 : Int).toNat) x12_16) else (none)) else (wash_Moves.l0 kj16 y122 y126 x12_16))) else (none))) else (none)) else (if 0 < (x11_1.length : Int) then ((some (x11_1.set (0 : Int).toNat (⟨(rd_T58 x11_1 0).f0, wrap64 (((rd_T58 x11_1 0).f1) - ji16)⟩ : S58) : List (S58))).bind fun y132 => (if ((rd_T58 y132 0).f1) = 0 then (if 1 ≤ (x11_1.length : Int) then (wash_Moves.l0 kj16 y120 (y132.drop (1 : Int).toNat) x12_16) else (none)) else (wash_Moves.l0 kj16 y120 y132 x12_16))) else (none))) = some (r1, r2, r3) := by first | (rw [hy120]; with_reducible exact H) | (have H2_ := (Option.bind_some _ _).symm.trans H; rw [hy120]; with_reducible exact H2_) | (have H2_ := (Option.bind_some _ _).symm.trans H; with_reducible exact H2_) | with_reducible exact H | (rw [hy120]; exact H) | exact H
                      have Ny120 := Aside0.mk hy120
                      clear hy120
                      by_cases c28 : ((rd_T58 y120 0).f1) = 0
                      · rw [if_pos c28] at H
                        have c28b0 : (((rd_T58 y120 0).f1) == 0) = true := beq_iff_eq.mpr c28
                        have c28b1 : (((rd_T58 y120 0).f1) != 0) = false := bne_eq_false_iff_eq.mpr c28
                        clear c28
                        by_cases c29 : 1 ≤ (x10_1.length : Int)
                        · rw [if_pos c29] at H
                          have c29b0 := eq_true c29
                          have c29b1 : decide (1 ≤ (x10_1.length : Int)) = true := decide_eq_true c29
                          clear c29
                          obtain ⟨y122, hy122⟩ : ∃ y_ : List (S58), y_ = (y120.drop (1 : Int).toNat) := ⟨_, rfl⟩
                          replace H : (if 0 < (x11_1.length : Int) then ((some (x11_1.set (0 : Int).toNat (⟨(rd_T58 x11_1 0).f0, wrap64 (((rd_T58 x11_1 0).f1) - ji16)⟩ : S58) : List (S58))).bind fun y126 => (if ((rd_T58 y126 0).f1) = 0 then (if 1 ≤ (x11_1.length : Int) then (wash_Moves.l0 kj16 y122 (y126.drop (1 : Int).toNat) x12_16) else (none)) else (wash_Moves.l0 kj16 y122 y126 x12_16))) else (none)) = some (r1, r2, r3) := by first | (rw [hy122]; with_reducible exact H) | (have H2_ := (Option.bind_some _ _).symm.trans H; rw [hy122]; with_reducible exact H2_) | (have H2_ := (Option.bind_some _ _).symm.trans H; with_reducible exact H2_) | with_reducible exact H | (rw [hy122]; exact H) | exact H
                          have Ny122 := Aside0.mk hy122
                          clear hy122
                          by_cases c30 : 0 < (x11_1.length : Int)
                          · rw [if_pos c30] at H
                            have c30b0 : decide (0 < (x11_1.length : Int)) = true := decide_eq_true c30
                            have c30b1 : decide (0 < x11_1.length) = true := decide_eq_true (by omega)
                            clear c30
                            obtain ⟨y126, hy126⟩ : ∃ y_ : List (S58), y_ = (x11_1.set (0 : Int).toNat (⟨(rd_T58 x11_1 0).f0, wrap64 (((rd_T58 x11_1 0).f1) - ji16)⟩ : S58)) := ⟨_, rfl⟩
                            replace H : (if ((rd_T58 y126 0).f1) = 0 then (if 1 ≤ (x11_1.length : Int) then (wash_Moves.l0 kj16 y122 (y126.drop (1 : Int).toNat) x12_16) else (none)) else (wash_Moves.l0 kj16 y122 y126 x12_16)) = some (r1, r2, r3) := by first | (rw [hy126]; with_reducible exact H) | (have H2_ := (Option.bind_some _ _).symm.trans H; rw [hy126]; with_reducible exact H2_) | (have H2_ := (Option.bind_some _ _).symm.trans H; with_reducible exact H2_) | with_reducible exact H | (rw [hy126]; exact H) | exact H
                            have Ny126 := Aside0.mk hy126
                            clear hy126
                            by_cases c32 : ((rd_T58 y126 0).f1) = 0
                            · rw [if_pos c32] at H
                              have c32b0 : (((rd_T58 y126 0).f1) == 0) = true := beq_iff_eq.mpr c32
                              have c32b1 : (((rd_T58 y126 0).f1) != 0) = false := bne_eq_false_iff_eq.mpr c32
                              clear c32
                              by_cases c33 : 1 ≤ (x11_1.length : Int)
                              · rw [if_pos c33] at H
                                have c33b0 := eq_true c33
                                have c33b1 : decide (1 ≤ (x11_1.length : Int)) = true := decide_eq_true c33
                                clear c33
                                obtain ⟨y128, hy128⟩ : ∃ y_ : List (S58), y_ = (y126.drop (1 : Int).toNat) := ⟨_, rfl⟩
                                replace H : (wash_Moves.l0 kj16 y122 y128 x12_16) = some (r1, r2, r3) := by first | (rw [hy128]; with_reducible exact H) | (have H2_ := (Option.bind_some _ _).symm.trans H; rw [hy128]; with_reducible exact H2_) | (have H2_ := (Option.bind_some _ _).symm.trans H; with_reducible exact H2_) | with_reducible exact H | (rw [hy128]; exact H) | exact H
                                have Ny128 := Aside0.mk hy128
                                clear hy128
                                have H' := Aside0.mk H
                                clear H
                                have p119 : 0 ≤ (0 : Int) := (by omega)
                                have q119 : 0 < (x10_1.length : Int) := of_decide_eq_true (by first | (with_reducible assumption) | assumption)
                                obtain ⟨ad119, e119, hx119_0, hx119_1⟩ := at_T58 (Kd.Q_reads' HO_10.out).2.2 0 p119 q119
                                obtain rfl : ad110 = ad119 := (by injection e119)
                                have qi119 : (0 < x10_1.length) = True := eq_true (by omega)
                                (try rw [show ((0 : Int)).toNat = 0 from rfl] at hx119_0)
                                (try rw [show 0 * 2 = 0 from rfl] at hx119_0)
                                (try rw [Addr.add_zero'] at hx119_0)
                                (try rw [show ((0 : Int)).toNat = 0 from rfl] at hx119_1)
                                (try rw [show 0 * 2 = 0 from rfl] at hx119_1)
                                (try rw [Addr.add_zero'] at hx119_1)
                                replace p119 := eq_true p119
                                replace q119 := eq_true q119
                                have p27 : 0 ≤ (0 : Int) := (by omega)
                                have q27 : (0 : Int) < ((x10_1.length : Int) : Int) := of_decide_eq_true (by first | (with_reducible assumption) | assumption)
                                have qi27 : (0 < x10_1.length) = True := eq_true (by omega)
                                obtain ⟨go27, oo27, co27, eo27, gb27, gl27, cl27, HG27⟩ := Kd.Q_form HO_10.out (by omega)
                                (first | cases eo27 | (injection eo27 with ea_ en_ ec_; (first | subst ea_ | (injection ea_ with ea_; subst ea_)); subst ec_; clear en_))
                                have GB27 := Aside0.mk gb27
                                have GG27 := Aside0.mk HG27
                                clear gb27 gl27 HG27
                                (first | simp only [add_at] at hx110_0 | skip)
                                (first | simp only [add_at] at hx110_1 | skip)
                                (first | simp only [add_at] at hx113_0 | skip)
                                (first | simp only [add_at] at hx113_1 | skip)
                                (first | simp only [add_at] at hx115_0 | skip)
                                (first | simp only [add_at] at hx115_1 | skip)
                                (first | simp only [add_at] at hx119_0 | skip)
                                (first | simp only [add_at] at hx119_1 | skip)
                                obtain ⟨ce27, hcl27, hM27, hcc27, hfr27⟩ := Kd.Q_elem HO_10.out z58 (0 : Int) p27 q27
                                obtain rfl := k58_openM hM27
                                have hx27_0 : wc.cell? ⟨go27, oo27 + (0 : Int).toNat * 2, none⟩ = some (.int .i64 ((rd_T58 x10_1 0).f0)) := hcc27 0 _ rfl
                                have hx27_1 : wc.cell? ⟨go27, oo27 + (0 : Int).toNat * 2 + 1, none⟩ = some (.int .i64 ((rd_T58 x10_1 0).f1)) := hcc27 1 _ rfl
                                have hf27_0 : wc.frozen? ⟨go27, oo27 + (0 : Int).toNat * 2, none⟩ = false := hfr27 0
                                have hf27_1 : wc.frozen? ⟨go27, oo27 + (0 : Int).toNat * 2 + 1, none⟩ = false := hfr27 1
                                clear hcl27 hcc27 hfr27 hM27
                                (try rw [show ((0 : Int)).toNat = 0 from rfl] at hx27_0)
                                (try simp only [Nat.reduceMul, Nat.zero_mul, Nat.zero_add, Nat.reduceAdd] at hx27_0)
                                (try rw [show ((0 : Int)).toNat = 0 from rfl] at hf27_0)
                                (try simp only [Nat.reduceMul, Nat.zero_mul, Nat.zero_add, Nat.reduceAdd] at hf27_0)
                                (try rw [show ((0 : Int)).toNat = 0 from rfl] at hx27_1)
                                (try simp only [Nat.reduceMul, Nat.zero_mul, Nat.zero_add, Nat.reduceAdd] at hx27_1)
                                (try rw [show ((0 : Int)).toNat = 0 from rfl] at hf27_1)
                                (try simp only [Nat.reduceMul, Nat.zero_mul, Nat.zero_add, Nat.reduceAdd] at hf27_1)
                                replace p27 := eq_true p27
                                replace q27 := eq_true q27
                                have HX34 := Aside0.mk (show Kd.Q k58 58 wc w.heap.size (fun k_ => some k_ ≠ (.slice (some ad111) x11_1.length co20 : Value).ownBlock) (.slice (some ⟨go27, oo27, none⟩) x10_1.length co18) x10_1 from (by (with_reducible repeat (first | apply Kd.Q_alloc | apply Kd.Q_drewN | apply Kd.Q_drew)); exact HO_10.out))
                                obtain ⟨ce34, hcl34, hM34, hcc34, hfr34⟩ := Kd.Q_elem HX34.out z58 (0 : Int) (by omega) (by have h_ : (0 : Int) < ((x10_1.length : Int) : Int) := of_decide_eq_true (by first | (with_reducible assumption) | assumption); first | exact h_ | (have e_ := (Kd.Q_reads' HO_10.out).1; omega) | simpa using h_)
                                obtain rfl := k58_openM hM34
                                have HP34 := Kd.Q_seg HX34.out (0 : Int) (by omega) (by have h_ : (0 : Int) < ((x10_1.length : Int) : Int) := of_decide_eq_true (by first | (with_reducible assumption) | assumption); first | exact h_ | (have e_ := (Kd.Q_reads' HO_10.out).1; omega) | simpa using h_) (seg := [.int .i64 (wrap64 (((rd_T58 x10_1 0).f1) - ji16))]) (j := 1) hcl34 hcc34 (show 2 ≤ 2 from by decide) (x' := (⟨(rd_T58 x10_1 0).f0, wrap64 (((rd_T58 x10_1 0).f1) - ji16)⟩ : S58)) (k58_mkM _ _ _ (⟨(rd_T58 x10_1 0).f0, wrap64 (((rd_T58 x10_1 0).f1) - ji16)⟩ : S58) ) (fun _ hk => hk)
                                have hx34_1 := hcc34 1 _ rfl
                                (try simp only [show (k58).sz = 2 from rfl, Nat.mul_one, Nat.add_zero] at hx34_1)
                                (try rw [show ((0 : Int)).toNat = 0 from rfl] at hx34_1)
                                (try simp only [Nat.reduceMul, Nat.zero_mul, Nat.zero_add, Nat.reduceAdd] at hx34_1)
                                have hf34_1 := hfr34 1
                                (try simp only [show (k58).sz = 2 from rfl, Nat.mul_one, Nat.add_zero] at hf34_1)
                                (try rw [show ((0 : Int)).toNat = 0 from rfl] at hf34_1)
                                (try simp only [Nat.reduceMul, Nat.zero_mul, Nat.zero_add, Nat.reduceAdd] at hf34_1)
                                clear hcl34 hcc34 hfr34 hM34
                                go_wp2_with (first | ((with_reducible refine gate_store (t := 3) (p := 73) rfl ?_); refine store_event (t := 3) (p := 73) (v := ?vo_w35) (w1 := (wc.setCell ⟨go27, oo27 + 1, none⟩ (.int .i64 (wrap64 (((rd_T58 x10_1 0).f1) - ji16))))) ?hg ?ho ?hn ?hr ?_; (case ho => rfl); (case hg => rfl); (case hn => rfl); (case hr => first | (go_simp; done) | (go_simp; rfl)); intro w35 hw; have hg : wc.grownBy w35 (some go27) := (by rw [hw]; exact HP34.2); have hp_ : Kd.Q k58 58 w35 w.heap.size (fun k_ => some k_ ≠ (.slice (some ad111) x11_1.length co20 : Value).ownBlock) (.slice (some ⟨go27, oo27, none⟩) x10_1.length co18) y120 := (by rw [hw, Ny120.out]; exact HP34.1); clear HP34; have n0_ := Aside0.mk (hp_); have n1_ := Aside0.mk (Kd.Q_after (v := (.slice (some ⟨go27, oo27, none⟩) x10_1.length co18)) (v1 := (.slice (some ⟨go27, oo27, none⟩) x10_1.length co18)) (ok := (fun _ => True)) (by (with_reducible repeat (first | apply Kd.Q_alloc | apply Kd.Q_drewN | apply Kd.Q_drew)); exact Kd.Q_mono HO_11.out (fun _ hk => ⟨trivial, hk⟩)) hg (.inl rfl)); have n2_ := Aside0.mk (Kd.R_over' (v := (.slice (some ⟨go27, oo27, none⟩) x10_1.length co18)) (by (with_reducible repeat (first | apply Kd.R_alloc | apply Kd.R_drewN | apply Kd.R_drew)); exact HO_12.out) (Kd.Q_typed HO_10.out) (by decide) hg); have n3_ := Aside0.mk ((by rw [hw]; exact below_set (HB.out) GB27.out : Below w.heap.size w w35)); clear HO_10; clear HO_11; clear HO_12; clear HB; have HO_10 := n0_; have HO_11 := n1_; have HO_12 := n2_; have HB := n3_; clear n0_ n1_ n2_ n3_; clear hg hw hp_; have p121 : 0 ≤ (0 : Int) := (by omega); have q121 : 0 < (y120.length : Int) := (by have h_ : (0 : Int) < ((x10_1.length : Int) : Int) := of_decide_eq_true (by first | (with_reducible assumption) | assumption); first | (have e_ := (Kd.Q_reads' HO_10.out).1; omega) | simpa only [Ny120.out, List.length_set] using h_); have ql121 : ((0 : Int) < ((x10_1.length : Int) : Int)) = True := eq_true (of_decide_eq_true (by first | (with_reducible assumption) | assumption)); (try have qn121 : (0 < x10_1.length) = True := eq_true (by have h_ : (0 : Int) < ((x10_1.length : Int) : Int) := of_decide_eq_true (by first | (with_reducible assumption) | assumption); omega)); obtain ⟨ad121, e121, hx121_0, hx121_1⟩ := at_T58 (Kd.Q_reads' HO_10.out).2.2 0 p121 q121; obtain rfl : (⟨go27, oo27, none⟩ : Addr) = ad121 := (by injection e121); (first | simp only [add_plain] at hx121_0 | simp only [add_at] at hx121_0 | simp only [Addr.add, Nat.zero_add] at hx121_0 | skip); (first | simp only [add_plain] at hx121_1 | simp only [add_at] at hx121_1 | simp only [Addr.add, Nat.zero_add] at hx121_1 | skip); have qi121 : (0 < y120.length) = True := eq_true (by omega); (try rw [show ((0 : Int)).toNat = 0 from rfl] at hx121_0); (try rw [show 0 * 2 = 0 from rfl] at hx121_0); (try rw [Addr.add_zero'] at hx121_0); (try rw [show ((0 : Int)).toNat = 0 from rfl] at hx121_1); (try rw [show 0 * 2 = 0 from rfl] at hx121_1); (try rw [Addr.add_zero'] at hx121_1); replace p121 := eq_true p121; replace q121 := eq_true q121; have q36 : (1 : Int) ≤ ((x10_1.length : Int) : Int) := of_decide_eq_true (by first | (with_reducible assumption) | assumption); obtain ⟨i036, hi036, _, hsz36, _⟩ := info_parts info58; have hcut36 := cut_from (P := Try.prog) 22 58 .i64 Try.underlying22 hi036 2 hsz36 (some ⟨go27, oo27, none⟩) x10_1.length co18 1 (by omega) q36; have hr36 := Kd.Q_drop (k := (1 : Int).toNat) HO_10.out (by have e_ := (Kd.Q_reads' HO_10.out).1; omega); obtain ⟨A36, hA36⟩ : ∃ A1, A1 = (if co18 = (1 : Int).toNat then (some ⟨go27, oo27, none⟩) else ((some ⟨go27, oo27, none⟩) : Option Addr).map (·.add ((1 : Int).toNat * 2))) := ⟨_, rfl⟩; obtain ⟨c36, hc36⟩ : ∃ c1, c1 = co18 - (1 : Int).toNat := ⟨_, rfl⟩; have hy36 : y122.length = x10_1.length - (1 : Int).toNat := (by have e_ := (Kd.Q_reads' HO_10.out).1; rw [Ny122.out, List.length_drop]; omega); rw [← Ny122.out] at hr36; rw [← hy36, ← hA36, ← hc36] at hcut36; replace hr36 : Kd.Q k58 58 w35 w.heap.size (fun k_ => some k_ ≠ (.slice (some ad111) x11_1.length co20 : Value).ownBlock) (.slice A36 y122.length c36) y122 := (by rw [hA36, hc36, hy36]; exact hr36); have HE36 : Aside0 ((Value.slice A36 y122.length c36).ownBlock = (.slice (some ⟨go27, oo27, none⟩) x10_1.length co18 : Value).ownBlock) := ⟨by rw [hA36]; split <;> (cases ((some ⟨go27, oo27, none⟩) : Option Addr) <;> rfl)⟩; clear hy36 hi036 hsz36 HO_10 hA36 hc36; have HO124 := Aside0.mk hr36; clear hr36; replace q36 := eq_true q36; have n_ := Aside0.mk (Kd.Q_mono (ok' := fun k_ => (True ∧ some k_ ≠ (.slice A36 y122.length c36 : Value).ownBlock)) HO_11.out (fun k_ hk => ⟨trivial, (by rw [HE36.out]; exact hk.2)⟩)); clear HO_11; have HO_11 := n_; clear n_; have p125 : 0 ≤ (0 : Int) := (by omega); have q125 : 0 < (x11_1.length : Int) := of_decide_eq_true (by first | (with_reducible assumption) | assumption); obtain ⟨ad125, e125, hx125_0, hx125_1⟩ := at_T58 (Kd.Q_reads' HO_11.out).2.2 0 p125 q125; obtain rfl : ad111 = ad125 := (by injection e125); have qi125 : (0 < x11_1.length) = True := eq_true (by omega); (try rw [show ((0 : Int)).toNat = 0 from rfl] at hx125_0); (try rw [show 0 * 2 = 0 from rfl] at hx125_0); (try rw [Addr.add_zero'] at hx125_0); (try rw [show ((0 : Int)).toNat = 0 from rfl] at hx125_1); (try rw [show 0 * 2 = 0 from rfl] at hx125_1); (try rw [Addr.add_zero'] at hx125_1); replace p125 := eq_true p125; replace q125 := eq_true q125; have p31 : 0 ≤ (0 : Int) := (by omega); have q31 : (0 : Int) < ((x11_1.length : Int) : Int) := of_decide_eq_true (by first | (with_reducible assumption) | assumption); have qi31 : (0 < x11_1.length) = True := eq_true (by omega); obtain ⟨go31, oo31, co31, eo31, gb31, gl31, cl31, HG31⟩ := Kd.Q_form HO_11.out (by omega); (first | cases eo31 | (injection eo31 with ea_ en_ ec_; (first | subst ea_ | (injection ea_ with ea_; subst ea_)); subst ec_; clear en_)); have GB31 := Aside0.mk gb31; have GG31 := Aside0.mk HG31; clear gb31 gl31 HG31; (first | simp only [add_at] at hx111_0 | skip); (first | simp only [add_at] at hx111_1 | skip); (first | simp only [add_at] at hx112_0 | skip); (first | simp only [add_at] at hx112_1 | skip); (first | simp only [add_at] at hx114_0 | skip); (first | simp only [add_at] at hx114_1 | skip); (first | simp only [add_at] at hx125_0 | skip); (first | simp only [add_at] at hx125_1 | skip); obtain ⟨ce31, hcl31, hM31, hcc31, hfr31⟩ := Kd.Q_elem HO_11.out z58 (0 : Int) p31 q31; obtain rfl := k58_openM hM31; have hx31_0 : w35.cell? ⟨go31, oo31 + (0 : Int).toNat * 2, none⟩ = some (.int .i64 ((rd_T58 x11_1 0).f0)) := hcc31 0 _ rfl; have hx31_1 : w35.cell? ⟨go31, oo31 + (0 : Int).toNat * 2 + 1, none⟩ = some (.int .i64 ((rd_T58 x11_1 0).f1)) := hcc31 1 _ rfl; have hf31_0 : w35.frozen? ⟨go31, oo31 + (0 : Int).toNat * 2, none⟩ = false := hfr31 0; have hf31_1 : w35.frozen? ⟨go31, oo31 + (0 : Int).toNat * 2 + 1, none⟩ = false := hfr31 1; clear hcl31 hcc31 hfr31 hM31; (try rw [show ((0 : Int)).toNat = 0 from rfl] at hx31_0); (try simp only [Nat.reduceMul, Nat.zero_mul, Nat.zero_add, Nat.reduceAdd] at hx31_0); (try rw [show ((0 : Int)).toNat = 0 from rfl] at hf31_0); (try simp only [Nat.reduceMul, Nat.zero_mul, Nat.zero_add, Nat.reduceAdd] at hf31_0); (try rw [show ((0 : Int)).toNat = 0 from rfl] at hx31_1); (try simp only [Nat.reduceMul, Nat.zero_mul, Nat.zero_add, Nat.reduceAdd] at hx31_1); (try rw [show ((0 : Int)).toNat = 0 from rfl] at hf31_1); (try simp only [Nat.reduceMul, Nat.zero_mul, Nat.zero_add, Nat.reduceAdd] at hf31_1); replace p31 := eq_true p31; replace q31 := eq_true q31; have n_ := Aside0.mk (Kd.Q_mono (ok' := (fun k_ => some k_ ≠ (.slice A36 y122.length c36 : Value).ownBlock)) HO_11.out (fun k_ hk => hk.2)); clear HO_11; have HO_11 := n_; clear n_; have HX37 := Aside0.mk (show Kd.Q k58 58 w35 w.heap.size (fun k_ => some k_ ≠ (.slice A36 y122.length c36 : Value).ownBlock) (.slice (some ⟨go31, oo31, none⟩) x11_1.length co20) x11_1 from (by (with_reducible repeat (first | apply Kd.Q_alloc | apply Kd.Q_drewN | apply Kd.Q_drew)); exact HO_11.out)); obtain ⟨ce37, hcl37, hM37, hcc37, hfr37⟩ := Kd.Q_elem HX37.out z58 (0 : Int) (by omega) (by have h_ : (0 : Int) < ((x11_1.length : Int) : Int) := of_decide_eq_true (by first | (with_reducible assumption) | assumption); first | exact h_ | (have e_ := (Kd.Q_reads' HO_11.out).1; omega) | simpa using h_); obtain rfl := k58_openM hM37; have HP37 := Kd.Q_seg HX37.out (0 : Int) (by omega) (by have h_ : (0 : Int) < ((x11_1.length : Int) : Int) := of_decide_eq_true (by first | (with_reducible assumption) | assumption); first | exact h_ | (have e_ := (Kd.Q_reads' HO_11.out).1; omega) | simpa using h_) (seg := [.int .i64 (wrap64 (((rd_T58 x11_1 0).f1) - ji16))]) (j := 1) hcl37 hcc37 (show 2 ≤ 2 from by decide) (x' := (⟨(rd_T58 x11_1 0).f0, wrap64 (((rd_T58 x11_1 0).f1) - ji16)⟩ : S58)) (k58_mkM _ _ _ (⟨(rd_T58 x11_1 0).f0, wrap64 (((rd_T58 x11_1 0).f1) - ji16)⟩ : S58) ) (fun _ hk => hk); have hx37_1 := hcc37 1 _ rfl; (try simp only [show (k58).sz = 2 from rfl, Nat.mul_one, Nat.add_zero] at hx37_1); (try rw [show ((0 : Int)).toNat = 0 from rfl] at hx37_1); (try simp only [Nat.reduceMul, Nat.zero_mul, Nat.zero_add, Nat.reduceAdd] at hx37_1); have hf37_1 := hfr37 1; (try simp only [show (k58).sz = 2 from rfl, Nat.mul_one, Nat.add_zero] at hf37_1); (try rw [show ((0 : Int)).toNat = 0 from rfl] at hf37_1); (try simp only [Nat.reduceMul, Nat.zero_mul, Nat.zero_add, Nat.reduceAdd] at hf37_1); clear hcl37 hcc37 hfr37 hM37) | ((with_reducible refine gate_store (t := 3) (p := 88) rfl ?_); refine store_event (t := 3) (p := 88) (v := ?vo_w38) (w1 := (w35.setCell ⟨go31, oo31 + 1, none⟩ (.int .i64 (wrap64 (((rd_T58 x11_1 0).f1) - ji16))))) ?hg ?ho ?hn ?hr ?_; (case ho => rfl); (case hg => rfl); (case hn => rfl); (case hr => first | (go_simp; done) | (go_simp; rfl)); intro w38 hw; have hg : w35.grownBy w38 (some go31) := (by rw [hw]; exact HP37.2); have hp_ : Kd.Q k58 58 w38 w.heap.size (fun k_ => some k_ ≠ (.slice A36 y122.length c36 : Value).ownBlock) (.slice (some ⟨go31, oo31, none⟩) x11_1.length co20) y126 := (by rw [hw, Ny126.out]; exact HP37.1); clear HP37; have n0_ := Aside0.mk (Kd.Q_after (v := (.slice (some ⟨go31, oo31, none⟩) x11_1.length co20)) (v1 := (.slice (some ⟨go31, oo31, none⟩) x11_1.length co20)) (ok := (fun _ => True)) (by (with_reducible repeat (first | apply Kd.Q_alloc | apply Kd.Q_drewN | apply Kd.Q_drew)); exact Kd.Q_mono HO124.out (fun _ hk => ⟨trivial, hk⟩)) hg (.inl rfl)); have n1_ := Aside0.mk (hp_); have n2_ := Aside0.mk (Kd.R_over' (v := (.slice (some ⟨go31, oo31, none⟩) x11_1.length co20)) (by (with_reducible repeat (first | apply Kd.R_alloc | apply Kd.R_drewN | apply Kd.R_drew)); exact HO_12.out) (Kd.Q_typed HO_11.out) (by decide) hg); have n3_ := Aside0.mk ((by rw [hw]; exact below_set (HB.out) GB31.out : Below w.heap.size w w38)); clear HO124; clear HO_11; clear HO_12; clear HB; have HO124 := n0_; have HO_11 := n1_; have HO_12 := n2_; have HB := n3_; clear n0_ n1_ n2_ n3_; clear hg hw hp_; have p127 : 0 ≤ (0 : Int) := (by omega); have q127 : 0 < (y126.length : Int) := (by have h_ : (0 : Int) < ((x11_1.length : Int) : Int) := of_decide_eq_true (by first | (with_reducible assumption) | assumption); first | (have e_ := (Kd.Q_reads' HO_11.out).1; omega) | simpa only [Ny126.out, List.length_set] using h_); have ql127 : ((0 : Int) < ((x11_1.length : Int) : Int)) = True := eq_true (of_decide_eq_true (by first | (with_reducible assumption) | assumption)); (try have qn127 : (0 < x11_1.length) = True := eq_true (by have h_ : (0 : Int) < ((x11_1.length : Int) : Int) := of_decide_eq_true (by first | (with_reducible assumption) | assumption); omega)); obtain ⟨ad127, e127, hx127_0, hx127_1⟩ := at_T58 (Kd.Q_reads' HO_11.out).2.2 0 p127 q127; obtain rfl : (⟨go31, oo31, none⟩ : Addr) = ad127 := (by injection e127); (first | simp only [add_plain] at hx127_0 | simp only [add_at] at hx127_0 | simp only [Addr.add, Nat.zero_add] at hx127_0 | skip); (first | simp only [add_plain] at hx127_1 | simp only [add_at] at hx127_1 | simp only [Addr.add, Nat.zero_add] at hx127_1 | skip); have qi127 : (0 < y126.length) = True := eq_true (by omega); (try rw [show ((0 : Int)).toNat = 0 from rfl] at hx127_0); (try rw [show 0 * 2 = 0 from rfl] at hx127_0); (try rw [Addr.add_zero'] at hx127_0); (try rw [show ((0 : Int)).toNat = 0 from rfl] at hx127_1); (try rw [show 0 * 2 = 0 from rfl] at hx127_1); (try rw [Addr.add_zero'] at hx127_1); replace p127 := eq_true p127; replace q127 := eq_true q127; have q39 : (1 : Int) ≤ ((x11_1.length : Int) : Int) := of_decide_eq_true (by first | (with_reducible assumption) | assumption); obtain ⟨i039, hi039, _, hsz39, _⟩ := info_parts info58; have hcut39 := cut_from (P := Try.prog) 22 58 .i64 Try.underlying22 hi039 2 hsz39 (some ⟨go31, oo31, none⟩) x11_1.length co20 1 (by omega) q39; have hr39 := Kd.Q_drop (k := (1 : Int).toNat) HO_11.out (by have e_ := (Kd.Q_reads' HO_11.out).1; omega); obtain ⟨A39, hA39⟩ : ∃ A1, A1 = (if co20 = (1 : Int).toNat then (some ⟨go31, oo31, none⟩) else ((some ⟨go31, oo31, none⟩) : Option Addr).map (·.add ((1 : Int).toNat * 2))) := ⟨_, rfl⟩; obtain ⟨c39, hc39⟩ : ∃ c1, c1 = co20 - (1 : Int).toNat := ⟨_, rfl⟩; have hy39 : y128.length = x11_1.length - (1 : Int).toNat := (by have e_ := (Kd.Q_reads' HO_11.out).1; rw [Ny128.out, List.length_drop]; omega); rw [← Ny128.out] at hr39; rw [← hy39, ← hA39, ← hc39] at hcut39; replace hr39 : Kd.Q k58 58 w38 w.heap.size (fun k_ => some k_ ≠ (.slice A36 y122.length c36 : Value).ownBlock) (.slice A39 y128.length c39) y128 := (by rw [hA39, hc39, hy39]; exact hr39); have HE39 : Aside0 ((Value.slice A39 y128.length c39).ownBlock = (.slice (some ⟨go31, oo31, none⟩) x11_1.length co20 : Value).ownBlock) := ⟨by rw [hA39]; split <;> (cases ((some ⟨go31, oo31, none⟩) : Option Addr) <;> rfl)⟩; clear hy39 hi039 hsz39 HO_11 hA39 hc39; have HO130 := Aside0.mk hr39; clear hr39; replace q39 := eq_true q39; have n_ := Aside0.mk (Kd.Q_mono (ok' := fun k_ => (True ∧ some k_ ≠ (.slice A39 y128.length c39 : Value).ownBlock)) HO124.out (fun k_ hk => ⟨trivial, (by rw [HE39.out]; exact hk.2)⟩)); clear HO124; have HO124 := n_; clear n_))
                                go_roundg kj16
                                case measure => have := HK1.out; have := HJ16.out; omega
                                case rel => exact ⟨(y122), (y128), (x12_16), H', ⟨by have := HK1.out; have := HJ16.out; omega⟩, ⟨by (with_reducible repeat (first | apply Kd.Q_alloc | apply Kd.Q_drewN | apply Kd.Q_drew)); exact Kd.Q_mono HO124.out (fun _ hk => hk.2)⟩, ⟨by (with_reducible repeat (first | apply Kd.Q_alloc | apply Kd.Q_drewN | apply Kd.Q_drew)); exact HO130.out⟩, ⟨by (with_reducible repeat (first | apply Kd.R_alloc | apply Kd.R_drewN | apply Kd.R_drew)); exact HO_12.out⟩, ⟨by repeat (first | (with_reducible first | exact HB.out | apply below_alloc | apply pw_below_drewN | apply below_drew1) | exact HB.out)⟩⟩
                              · rw [if_neg c33] at H
                                exact absurd H (by simp)
                            · rw [if_neg c32] at H
                              have c32b0 : (((rd_T58 y126 0).f1) == 0) = false := beq_eq_false_iff_ne.mpr c32
                              have c32b1 : (((rd_T58 y126 0).f1) != 0) = true := bne_iff_ne.mpr c32
                              have H' := Aside0.mk H
                              clear H
                              have p119 : 0 ≤ (0 : Int) := (by omega)
                              have q119 : 0 < (x10_1.length : Int) := of_decide_eq_true (by first | (with_reducible assumption) | assumption)
                              obtain ⟨ad119, e119, hx119_0, hx119_1⟩ := at_T58 (Kd.Q_reads' HO_10.out).2.2 0 p119 q119
                              obtain rfl : ad110 = ad119 := (by injection e119)
                              have qi119 : (0 < x10_1.length) = True := eq_true (by omega)
                              (try rw [show ((0 : Int)).toNat = 0 from rfl] at hx119_0)
                              (try rw [show 0 * 2 = 0 from rfl] at hx119_0)
                              (try rw [Addr.add_zero'] at hx119_0)
                              (try rw [show ((0 : Int)).toNat = 0 from rfl] at hx119_1)
                              (try rw [show 0 * 2 = 0 from rfl] at hx119_1)
                              (try rw [Addr.add_zero'] at hx119_1)
                              replace p119 := eq_true p119
                              replace q119 := eq_true q119
                              have p27 : 0 ≤ (0 : Int) := (by omega)
                              have q27 : (0 : Int) < ((x10_1.length : Int) : Int) := of_decide_eq_true (by first | (with_reducible assumption) | assumption)
                              have qi27 : (0 < x10_1.length) = True := eq_true (by omega)
                              obtain ⟨go27, oo27, co27, eo27, gb27, gl27, cl27, HG27⟩ := Kd.Q_form HO_10.out (by omega)
                              (first | cases eo27 | (injection eo27 with ea_ en_ ec_; (first | subst ea_ | (injection ea_ with ea_; subst ea_)); subst ec_; clear en_))
                              have GB27 := Aside0.mk gb27
                              have GG27 := Aside0.mk HG27
                              clear gb27 gl27 HG27
                              (first | simp only [add_at] at hx119_0 | skip)
                              (first | simp only [add_at] at hx119_1 | skip)
                              obtain ⟨ce27, hcl27, hM27, hcc27, hfr27⟩ := Kd.Q_elem HO_10.out z58 (0 : Int) p27 q27
                              obtain rfl := k58_openM hM27
                              have hx27_0 : wc.cell? ⟨go27, oo27 + (0 : Int).toNat * 2, none⟩ = some (.int .i64 ((rd_T58 x10_1 0).f0)) := hcc27 0 _ rfl
                              have hx27_1 : wc.cell? ⟨go27, oo27 + (0 : Int).toNat * 2 + 1, none⟩ = some (.int .i64 ((rd_T58 x10_1 0).f1)) := hcc27 1 _ rfl
                              have hf27_0 : wc.frozen? ⟨go27, oo27 + (0 : Int).toNat * 2, none⟩ = false := hfr27 0
                              have hf27_1 : wc.frozen? ⟨go27, oo27 + (0 : Int).toNat * 2 + 1, none⟩ = false := hfr27 1
                              clear hcl27 hcc27 hfr27 hM27
                              (try rw [show ((0 : Int)).toNat = 0 from rfl] at hx27_0)
                              (try simp only [Nat.reduceMul, Nat.zero_mul, Nat.zero_add, Nat.reduceAdd] at hx27_0)
                              (try rw [show ((0 : Int)).toNat = 0 from rfl] at hf27_0)
                              (try simp only [Nat.reduceMul, Nat.zero_mul, Nat.zero_add, Nat.reduceAdd] at hf27_0)
                              (try rw [show ((0 : Int)).toNat = 0 from rfl] at hx27_1)
                              (try simp only [Nat.reduceMul, Nat.zero_mul, Nat.zero_add, Nat.reduceAdd] at hx27_1)
                              (try rw [show ((0 : Int)).toNat = 0 from rfl] at hf27_1)
                              (try simp only [Nat.reduceMul, Nat.zero_mul, Nat.zero_add, Nat.reduceAdd] at hf27_1)
                              replace p27 := eq_true p27
                              replace q27 := eq_true q27
                              have HX40 := Aside0.mk (show Kd.Q k58 58 wc w.heap.size (fun k_ => some k_ ≠ (.slice (some ad111) x11_1.length co20 : Value).ownBlock) (.slice (some ⟨go27, oo27, none⟩) x10_1.length co18) x10_1 from (by (with_reducible repeat (first | apply Kd.Q_alloc | apply Kd.Q_drewN | apply Kd.Q_drew)); exact HO_10.out))
                              obtain ⟨ce40, hcl40, hM40, hcc40, hfr40⟩ := Kd.Q_elem HX40.out z58 (0 : Int) (by omega) (by have h_ : (0 : Int) < ((x10_1.length : Int) : Int) := of_decide_eq_true (by first | (with_reducible assumption) | assumption); first | exact h_ | (have e_ := (Kd.Q_reads' HO_10.out).1; omega) | simpa using h_)
                              obtain rfl := k58_openM hM40
                              have HP40 := Kd.Q_seg HX40.out (0 : Int) (by omega) (by have h_ : (0 : Int) < ((x10_1.length : Int) : Int) := of_decide_eq_true (by first | (with_reducible assumption) | assumption); first | exact h_ | (have e_ := (Kd.Q_reads' HO_10.out).1; omega) | simpa using h_) (seg := [.int .i64 (wrap64 (((rd_T58 x10_1 0).f1) - ji16))]) (j := 1) hcl40 hcc40 (show 2 ≤ 2 from by decide) (x' := (⟨(rd_T58 x10_1 0).f0, wrap64 (((rd_T58 x10_1 0).f1) - ji16)⟩ : S58)) (k58_mkM _ _ _ (⟨(rd_T58 x10_1 0).f0, wrap64 (((rd_T58 x10_1 0).f1) - ji16)⟩ : S58) ) (fun _ hk => hk)
                              have hx40_1 := hcc40 1 _ rfl
                              (try simp only [show (k58).sz = 2 from rfl, Nat.mul_one, Nat.add_zero] at hx40_1)
                              (try rw [show ((0 : Int)).toNat = 0 from rfl] at hx40_1)
                              (try simp only [Nat.reduceMul, Nat.zero_mul, Nat.zero_add, Nat.reduceAdd] at hx40_1)
                              have hf40_1 := hfr40 1
                              (try simp only [show (k58).sz = 2 from rfl, Nat.mul_one, Nat.add_zero] at hf40_1)
                              (try rw [show ((0 : Int)).toNat = 0 from rfl] at hf40_1)
                              (try simp only [Nat.reduceMul, Nat.zero_mul, Nat.zero_add, Nat.reduceAdd] at hf40_1)
                              clear hcl40 hcc40 hfr40 hM40
                              go_wp2_with (first | ((with_reducible refine gate_store (t := 3) (p := 73) rfl ?_); refine store_event (t := 3) (p := 73) (v := ?vo_w41) (w1 := (wc.setCell ⟨go27, oo27 + 1, none⟩ (.int .i64 (wrap64 (((rd_T58 x10_1 0).f1) - ji16))))) ?hg ?ho ?hn ?hr ?_; (case ho => rfl); (case hg => rfl); (case hn => rfl); (case hr => first | (go_simp; done) | (go_simp; rfl)); intro w41 hw; have hg : wc.grownBy w41 (some go27) := (by rw [hw]; exact HP40.2); have hp_ : Kd.Q k58 58 w41 w.heap.size (fun k_ => some k_ ≠ (.slice (some ad111) x11_1.length co20 : Value).ownBlock) (.slice (some ⟨go27, oo27, none⟩) x10_1.length co18) y120 := (by rw [hw, Ny120.out]; exact HP40.1); clear HP40; have n0_ := Aside0.mk (hp_); have n1_ := Aside0.mk (Kd.Q_after (v := (.slice (some ⟨go27, oo27, none⟩) x10_1.length co18)) (v1 := (.slice (some ⟨go27, oo27, none⟩) x10_1.length co18)) (ok := (fun _ => True)) (by (with_reducible repeat (first | apply Kd.Q_alloc | apply Kd.Q_drewN | apply Kd.Q_drew)); exact Kd.Q_mono HO_11.out (fun _ hk => ⟨trivial, hk⟩)) hg (.inl rfl)); have n2_ := Aside0.mk (Kd.R_over' (v := (.slice (some ⟨go27, oo27, none⟩) x10_1.length co18)) (by (with_reducible repeat (first | apply Kd.R_alloc | apply Kd.R_drewN | apply Kd.R_drew)); exact HO_12.out) (Kd.Q_typed HO_10.out) (by decide) hg); have n3_ := Aside0.mk ((by rw [hw]; exact below_set (HB.out) GB27.out : Below w.heap.size w w41)); clear HO_10; clear HO_11; clear HO_12; clear HB; have HO_10 := n0_; have HO_11 := n1_; have HO_12 := n2_; have HB := n3_; clear n0_ n1_ n2_ n3_; clear hg hw hp_; have p121 : 0 ≤ (0 : Int) := (by omega); have q121 : 0 < (y120.length : Int) := (by have h_ : (0 : Int) < ((x10_1.length : Int) : Int) := of_decide_eq_true (by first | (with_reducible assumption) | assumption); first | (have e_ := (Kd.Q_reads' HO_10.out).1; omega) | simpa only [Ny120.out, List.length_set] using h_); have ql121 : ((0 : Int) < ((x10_1.length : Int) : Int)) = True := eq_true (of_decide_eq_true (by first | (with_reducible assumption) | assumption)); (try have qn121 : (0 < x10_1.length) = True := eq_true (by have h_ : (0 : Int) < ((x10_1.length : Int) : Int) := of_decide_eq_true (by first | (with_reducible assumption) | assumption); omega)); obtain ⟨ad121, e121, hx121_0, hx121_1⟩ := at_T58 (Kd.Q_reads' HO_10.out).2.2 0 p121 q121; obtain rfl : (⟨go27, oo27, none⟩ : Addr) = ad121 := (by injection e121); (first | simp only [add_plain] at hx121_0 | simp only [add_at] at hx121_0 | simp only [Addr.add, Nat.zero_add] at hx121_0 | skip); (first | simp only [add_plain] at hx121_1 | simp only [add_at] at hx121_1 | simp only [Addr.add, Nat.zero_add] at hx121_1 | skip); have qi121 : (0 < y120.length) = True := eq_true (by omega); (try rw [show ((0 : Int)).toNat = 0 from rfl] at hx121_0); (try rw [show 0 * 2 = 0 from rfl] at hx121_0); (try rw [Addr.add_zero'] at hx121_0); (try rw [show ((0 : Int)).toNat = 0 from rfl] at hx121_1); (try rw [show 0 * 2 = 0 from rfl] at hx121_1); (try rw [Addr.add_zero'] at hx121_1); replace p121 := eq_true p121; replace q121 := eq_true q121; have q42 : (1 : Int) ≤ ((x10_1.length : Int) : Int) := of_decide_eq_true (by first | (with_reducible assumption) | assumption); obtain ⟨i042, hi042, _, hsz42, _⟩ := info_parts info58; have hcut42 := cut_from (P := Try.prog) 22 58 .i64 Try.underlying22 hi042 2 hsz42 (some ⟨go27, oo27, none⟩) x10_1.length co18 1 (by omega) q42; have hr42 := Kd.Q_drop (k := (1 : Int).toNat) HO_10.out (by have e_ := (Kd.Q_reads' HO_10.out).1; omega); obtain ⟨A42, hA42⟩ : ∃ A1, A1 = (if co18 = (1 : Int).toNat then (some ⟨go27, oo27, none⟩) else ((some ⟨go27, oo27, none⟩) : Option Addr).map (·.add ((1 : Int).toNat * 2))) := ⟨_, rfl⟩; obtain ⟨c42, hc42⟩ : ∃ c1, c1 = co18 - (1 : Int).toNat := ⟨_, rfl⟩; have hy42 : y122.length = x10_1.length - (1 : Int).toNat := (by have e_ := (Kd.Q_reads' HO_10.out).1; rw [Ny122.out, List.length_drop]; omega); rw [← Ny122.out] at hr42; rw [← hy42, ← hA42, ← hc42] at hcut42; replace hr42 : Kd.Q k58 58 w41 w.heap.size (fun k_ => some k_ ≠ (.slice (some ad111) x11_1.length co20 : Value).ownBlock) (.slice A42 y122.length c42) y122 := (by rw [hA42, hc42, hy42]; exact hr42); have HE42 : Aside0 ((Value.slice A42 y122.length c42).ownBlock = (.slice (some ⟨go27, oo27, none⟩) x10_1.length co18 : Value).ownBlock) := ⟨by rw [hA42]; split <;> (cases ((some ⟨go27, oo27, none⟩) : Option Addr) <;> rfl)⟩; clear hy42 hi042 hsz42 HO_10 hA42 hc42; have HO124 := Aside0.mk hr42; clear hr42; replace q42 := eq_true q42; have n_ := Aside0.mk (Kd.Q_mono (ok' := fun k_ => (True ∧ some k_ ≠ (.slice A42 y122.length c42 : Value).ownBlock)) HO_11.out (fun k_ hk => ⟨trivial, (by rw [HE42.out]; exact hk.2)⟩)); clear HO_11; have HO_11 := n_; clear n_; have p125 : 0 ≤ (0 : Int) := (by omega); have q125 : 0 < (x11_1.length : Int) := of_decide_eq_true (by first | (with_reducible assumption) | assumption); obtain ⟨ad125, e125, hx125_0, hx125_1⟩ := at_T58 (Kd.Q_reads' HO_11.out).2.2 0 p125 q125; obtain rfl : ad111 = ad125 := (by injection e125); have qi125 : (0 < x11_1.length) = True := eq_true (by omega); (try rw [show ((0 : Int)).toNat = 0 from rfl] at hx125_0); (try rw [show 0 * 2 = 0 from rfl] at hx125_0); (try rw [Addr.add_zero'] at hx125_0); (try rw [show ((0 : Int)).toNat = 0 from rfl] at hx125_1); (try rw [show 0 * 2 = 0 from rfl] at hx125_1); (try rw [Addr.add_zero'] at hx125_1); replace p125 := eq_true p125; replace q125 := eq_true q125; have p31 : 0 ≤ (0 : Int) := (by omega); have q31 : (0 : Int) < ((x11_1.length : Int) : Int) := of_decide_eq_true (by first | (with_reducible assumption) | assumption); have qi31 : (0 < x11_1.length) = True := eq_true (by omega); obtain ⟨go31, oo31, co31, eo31, gb31, gl31, cl31, HG31⟩ := Kd.Q_form HO_11.out (by omega); (first | cases eo31 | (injection eo31 with ea_ en_ ec_; (first | subst ea_ | (injection ea_ with ea_; subst ea_)); subst ec_; clear en_)); have GB31 := Aside0.mk gb31; have GG31 := Aside0.mk HG31; clear gb31 gl31 HG31; (first | simp only [add_at] at hx125_0 | skip); (first | simp only [add_at] at hx125_1 | skip); obtain ⟨ce31, hcl31, hM31, hcc31, hfr31⟩ := Kd.Q_elem HO_11.out z58 (0 : Int) p31 q31; obtain rfl := k58_openM hM31; have hx31_0 : w41.cell? ⟨go31, oo31 + (0 : Int).toNat * 2, none⟩ = some (.int .i64 ((rd_T58 x11_1 0).f0)) := hcc31 0 _ rfl; have hx31_1 : w41.cell? ⟨go31, oo31 + (0 : Int).toNat * 2 + 1, none⟩ = some (.int .i64 ((rd_T58 x11_1 0).f1)) := hcc31 1 _ rfl; have hf31_0 : w41.frozen? ⟨go31, oo31 + (0 : Int).toNat * 2, none⟩ = false := hfr31 0; have hf31_1 : w41.frozen? ⟨go31, oo31 + (0 : Int).toNat * 2 + 1, none⟩ = false := hfr31 1; clear hcl31 hcc31 hfr31 hM31; (try rw [show ((0 : Int)).toNat = 0 from rfl] at hx31_0); (try simp only [Nat.reduceMul, Nat.zero_mul, Nat.zero_add, Nat.reduceAdd] at hx31_0); (try rw [show ((0 : Int)).toNat = 0 from rfl] at hf31_0); (try simp only [Nat.reduceMul, Nat.zero_mul, Nat.zero_add, Nat.reduceAdd] at hf31_0); (try rw [show ((0 : Int)).toNat = 0 from rfl] at hx31_1); (try simp only [Nat.reduceMul, Nat.zero_mul, Nat.zero_add, Nat.reduceAdd] at hx31_1); (try rw [show ((0 : Int)).toNat = 0 from rfl] at hf31_1); (try simp only [Nat.reduceMul, Nat.zero_mul, Nat.zero_add, Nat.reduceAdd] at hf31_1); replace p31 := eq_true p31; replace q31 := eq_true q31; have n_ := Aside0.mk (Kd.Q_mono (ok' := (fun k_ => some k_ ≠ (.slice A42 y122.length c42 : Value).ownBlock)) HO_11.out (fun k_ hk => hk.2)); clear HO_11; have HO_11 := n_; clear n_; have HX43 := Aside0.mk (show Kd.Q k58 58 w41 w.heap.size (fun k_ => some k_ ≠ (.slice A42 y122.length c42 : Value).ownBlock) (.slice (some ⟨go31, oo31, none⟩) x11_1.length co20) x11_1 from (by (with_reducible repeat (first | apply Kd.Q_alloc | apply Kd.Q_drewN | apply Kd.Q_drew)); exact HO_11.out)); obtain ⟨ce43, hcl43, hM43, hcc43, hfr43⟩ := Kd.Q_elem HX43.out z58 (0 : Int) (by omega) (by have h_ : (0 : Int) < ((x11_1.length : Int) : Int) := of_decide_eq_true (by first | (with_reducible assumption) | assumption); first | exact h_ | (have e_ := (Kd.Q_reads' HO_11.out).1; omega) | simpa using h_); obtain rfl := k58_openM hM43; have HP43 := Kd.Q_seg HX43.out (0 : Int) (by omega) (by have h_ : (0 : Int) < ((x11_1.length : Int) : Int) := of_decide_eq_true (by first | (with_reducible assumption) | assumption); first | exact h_ | (have e_ := (Kd.Q_reads' HO_11.out).1; omega) | simpa using h_) (seg := [.int .i64 (wrap64 (((rd_T58 x11_1 0).f1) - ji16))]) (j := 1) hcl43 hcc43 (show 2 ≤ 2 from by decide) (x' := (⟨(rd_T58 x11_1 0).f0, wrap64 (((rd_T58 x11_1 0).f1) - ji16)⟩ : S58)) (k58_mkM _ _ _ (⟨(rd_T58 x11_1 0).f0, wrap64 (((rd_T58 x11_1 0).f1) - ji16)⟩ : S58) ) (fun _ hk => hk); have hx43_1 := hcc43 1 _ rfl; (try simp only [show (k58).sz = 2 from rfl, Nat.mul_one, Nat.add_zero] at hx43_1); (try rw [show ((0 : Int)).toNat = 0 from rfl] at hx43_1); (try simp only [Nat.reduceMul, Nat.zero_mul, Nat.zero_add, Nat.reduceAdd] at hx43_1); have hf43_1 := hfr43 1; (try simp only [show (k58).sz = 2 from rfl, Nat.mul_one, Nat.add_zero] at hf43_1); (try rw [show ((0 : Int)).toNat = 0 from rfl] at hf43_1); (try simp only [Nat.reduceMul, Nat.zero_mul, Nat.zero_add, Nat.reduceAdd] at hf43_1); clear hcl43 hcc43 hfr43 hM43) | ((with_reducible refine gate_store (t := 3) (p := 88) rfl ?_); refine store_event (t := 3) (p := 88) (v := ?vo_w44) (w1 := (w41.setCell ⟨go31, oo31 + 1, none⟩ (.int .i64 (wrap64 (((rd_T58 x11_1 0).f1) - ji16))))) ?hg ?ho ?hn ?hr ?_; (case ho => rfl); (case hg => rfl); (case hn => rfl); (case hr => first | (go_simp; done) | (go_simp; rfl)); intro w44 hw; have hg : w41.grownBy w44 (some go31) := (by rw [hw]; exact HP43.2); have hp_ : Kd.Q k58 58 w44 w.heap.size (fun k_ => some k_ ≠ (.slice A42 y122.length c42 : Value).ownBlock) (.slice (some ⟨go31, oo31, none⟩) x11_1.length co20) y126 := (by rw [hw, Ny126.out]; exact HP43.1); clear HP43; have n0_ := Aside0.mk (Kd.Q_after (v := (.slice (some ⟨go31, oo31, none⟩) x11_1.length co20)) (v1 := (.slice (some ⟨go31, oo31, none⟩) x11_1.length co20)) (ok := (fun _ => True)) (by (with_reducible repeat (first | apply Kd.Q_alloc | apply Kd.Q_drewN | apply Kd.Q_drew)); exact Kd.Q_mono HO124.out (fun _ hk => ⟨trivial, hk⟩)) hg (.inl rfl)); have n1_ := Aside0.mk (hp_); have n2_ := Aside0.mk (Kd.R_over' (v := (.slice (some ⟨go31, oo31, none⟩) x11_1.length co20)) (by (with_reducible repeat (first | apply Kd.R_alloc | apply Kd.R_drewN | apply Kd.R_drew)); exact HO_12.out) (Kd.Q_typed HO_11.out) (by decide) hg); have n3_ := Aside0.mk ((by rw [hw]; exact below_set (HB.out) GB31.out : Below w.heap.size w w44)); clear HO124; clear HO_11; clear HO_12; clear HB; have HO124 := n0_; have HO_11 := n1_; have HO_12 := n2_; have HB := n3_; clear n0_ n1_ n2_ n3_; clear hg hw hp_; have p127 : 0 ≤ (0 : Int) := (by omega); have q127 : 0 < (y126.length : Int) := (by have h_ : (0 : Int) < ((x11_1.length : Int) : Int) := of_decide_eq_true (by first | (with_reducible assumption) | assumption); first | (have e_ := (Kd.Q_reads' HO_11.out).1; omega) | simpa only [Ny126.out, List.length_set] using h_); have ql127 : ((0 : Int) < ((x11_1.length : Int) : Int)) = True := eq_true (of_decide_eq_true (by first | (with_reducible assumption) | assumption)); (try have qn127 : (0 < x11_1.length) = True := eq_true (by have h_ : (0 : Int) < ((x11_1.length : Int) : Int) := of_decide_eq_true (by first | (with_reducible assumption) | assumption); omega)); obtain ⟨ad127, e127, hx127_0, hx127_1⟩ := at_T58 (Kd.Q_reads' HO_11.out).2.2 0 p127 q127; obtain rfl : (⟨go31, oo31, none⟩ : Addr) = ad127 := (by injection e127); (first | simp only [add_plain] at hx127_0 | simp only [add_at] at hx127_0 | simp only [Addr.add, Nat.zero_add] at hx127_0 | skip); (first | simp only [add_plain] at hx127_1 | simp only [add_at] at hx127_1 | simp only [Addr.add, Nat.zero_add] at hx127_1 | skip); have qi127 : (0 < y126.length) = True := eq_true (by omega); (try rw [show ((0 : Int)).toNat = 0 from rfl] at hx127_0); (try rw [show 0 * 2 = 0 from rfl] at hx127_0); (try rw [Addr.add_zero'] at hx127_0); (try rw [show ((0 : Int)).toNat = 0 from rfl] at hx127_1); (try rw [show 0 * 2 = 0 from rfl] at hx127_1); (try rw [Addr.add_zero'] at hx127_1); replace p127 := eq_true p127; replace q127 := eq_true q127))
                              go_roundg kj16
                              case measure => have := HK1.out; have := HJ16.out; omega
                              case rel => exact ⟨(y122), (y126), (x12_16), H', ⟨by have := HK1.out; have := HJ16.out; omega⟩, ⟨by (with_reducible repeat (first | apply Kd.Q_alloc | apply Kd.Q_drewN | apply Kd.Q_drew)); exact Kd.Q_mono HO124.out (fun _ hk => hk.2)⟩, ⟨by (with_reducible repeat (first | apply Kd.Q_alloc | apply Kd.Q_drewN | apply Kd.Q_drew)); exact HO_11.out⟩, ⟨by (with_reducible repeat (first | apply Kd.R_alloc | apply Kd.R_drewN | apply Kd.R_drew)); exact HO_12.out⟩, ⟨by repeat (first | (with_reducible first | exact HB.out | apply below_alloc | apply pw_below_drewN | apply below_drew1) | exact HB.out)⟩⟩
                          · rw [if_neg c30] at H
                            exact absurd H (by simp)
                        · rw [if_neg c29] at H
                          exact absurd H (by simp)
                      · rw [if_neg c28] at H
                        have c28b0 : (((rd_T58 y120 0).f1) == 0) = false := beq_eq_false_iff_ne.mpr c28
                        have c28b1 : (((rd_T58 y120 0).f1) != 0) = true := bne_iff_ne.mpr c28
                        by_cases c45 : 0 < (x11_1.length : Int)
                        · rw [if_pos c45] at H
                          have c45b0 : decide (0 < (x11_1.length : Int)) = true := decide_eq_true c45
                          have c45b1 : decide (0 < x11_1.length) = true := decide_eq_true (by omega)
                          clear c45
                          obtain ⟨y132, hy132⟩ : ∃ y_ : List (S58), y_ = (x11_1.set (0 : Int).toNat (⟨(rd_T58 x11_1 0).f0, wrap64 (((rd_T58 x11_1 0).f1) - ji16)⟩ : S58)) := ⟨_, rfl⟩
                          replace H : (if ((rd_T58 y132 0).f1) = 0 then (if 1 ≤ (x11_1.length : Int) then (wash_Moves.l0 kj16 y120 (y132.drop (1 : Int).toNat) x12_16) else (none)) else (wash_Moves.l0 kj16 y120 y132 x12_16)) = some (r1, r2, r3) := by first | (rw [hy132]; with_reducible exact H) | (have H2_ := (Option.bind_some _ _).symm.trans H; rw [hy132]; with_reducible exact H2_) | (have H2_ := (Option.bind_some _ _).symm.trans H; with_reducible exact H2_) | with_reducible exact H | (rw [hy132]; exact H) | exact H
                          have Ny132 := Aside0.mk hy132
                          clear hy132
                          by_cases c47 : ((rd_T58 y132 0).f1) = 0
                          · rw [if_pos c47] at H
                            have c47b0 : (((rd_T58 y132 0).f1) == 0) = true := beq_iff_eq.mpr c47
                            have c47b1 : (((rd_T58 y132 0).f1) != 0) = false := bne_eq_false_iff_eq.mpr c47
                            clear c47
                            by_cases c48 : 1 ≤ (x11_1.length : Int)
                            · rw [if_pos c48] at H
                              have c48b0 := eq_true c48
                              have c48b1 : decide (1 ≤ (x11_1.length : Int)) = true := decide_eq_true c48
                              clear c48
                              obtain ⟨y134, hy134⟩ : ∃ y_ : List (S58), y_ = (y132.drop (1 : Int).toNat) := ⟨_, rfl⟩
                              replace H : (wash_Moves.l0 kj16 y120 y134 x12_16) = some (r1, r2, r3) := by first | (rw [hy134]; with_reducible exact H) | (have H2_ := (Option.bind_some _ _).symm.trans H; rw [hy134]; with_reducible exact H2_) | (have H2_ := (Option.bind_some _ _).symm.trans H; with_reducible exact H2_) | with_reducible exact H | (rw [hy134]; exact H) | exact H
                              have Ny134 := Aside0.mk hy134
                              clear hy134
                              have H' := Aside0.mk H
                              clear H
                              have p119 : 0 ≤ (0 : Int) := (by omega)
                              have q119 : 0 < (x10_1.length : Int) := of_decide_eq_true (by first | (with_reducible assumption) | assumption)
                              obtain ⟨ad119, e119, hx119_0, hx119_1⟩ := at_T58 (Kd.Q_reads' HO_10.out).2.2 0 p119 q119
                              obtain rfl : ad110 = ad119 := (by injection e119)
                              have qi119 : (0 < x10_1.length) = True := eq_true (by omega)
                              (try rw [show ((0 : Int)).toNat = 0 from rfl] at hx119_0)
                              (try rw [show 0 * 2 = 0 from rfl] at hx119_0)
                              (try rw [Addr.add_zero'] at hx119_0)
                              (try rw [show ((0 : Int)).toNat = 0 from rfl] at hx119_1)
                              (try rw [show 0 * 2 = 0 from rfl] at hx119_1)
                              (try rw [Addr.add_zero'] at hx119_1)
                              replace p119 := eq_true p119
                              replace q119 := eq_true q119
                              have p27 : 0 ≤ (0 : Int) := (by omega)
                              have q27 : (0 : Int) < ((x10_1.length : Int) : Int) := of_decide_eq_true (by first | (with_reducible assumption) | assumption)
                              have qi27 : (0 < x10_1.length) = True := eq_true (by omega)
                              obtain ⟨go27, oo27, co27, eo27, gb27, gl27, cl27, HG27⟩ := Kd.Q_form HO_10.out (by omega)
                              (first | cases eo27 | (injection eo27 with ea_ en_ ec_; (first | subst ea_ | (injection ea_ with ea_; subst ea_)); subst ec_; clear en_))
                              have GB27 := Aside0.mk gb27
                              have GG27 := Aside0.mk HG27
                              clear gb27 gl27 HG27
                              (first | simp only [add_at] at hx119_0 | skip)
                              (first | simp only [add_at] at hx119_1 | skip)
                              obtain ⟨ce27, hcl27, hM27, hcc27, hfr27⟩ := Kd.Q_elem HO_10.out z58 (0 : Int) p27 q27
                              obtain rfl := k58_openM hM27
                              have hx27_0 : wc.cell? ⟨go27, oo27 + (0 : Int).toNat * 2, none⟩ = some (.int .i64 ((rd_T58 x10_1 0).f0)) := hcc27 0 _ rfl
                              have hx27_1 : wc.cell? ⟨go27, oo27 + (0 : Int).toNat * 2 + 1, none⟩ = some (.int .i64 ((rd_T58 x10_1 0).f1)) := hcc27 1 _ rfl
                              have hf27_0 : wc.frozen? ⟨go27, oo27 + (0 : Int).toNat * 2, none⟩ = false := hfr27 0
                              have hf27_1 : wc.frozen? ⟨go27, oo27 + (0 : Int).toNat * 2 + 1, none⟩ = false := hfr27 1
                              clear hcl27 hcc27 hfr27 hM27
                              (try rw [show ((0 : Int)).toNat = 0 from rfl] at hx27_0)
                              (try simp only [Nat.reduceMul, Nat.zero_mul, Nat.zero_add, Nat.reduceAdd] at hx27_0)
                              (try rw [show ((0 : Int)).toNat = 0 from rfl] at hf27_0)
                              (try simp only [Nat.reduceMul, Nat.zero_mul, Nat.zero_add, Nat.reduceAdd] at hf27_0)
                              (try rw [show ((0 : Int)).toNat = 0 from rfl] at hx27_1)
                              (try simp only [Nat.reduceMul, Nat.zero_mul, Nat.zero_add, Nat.reduceAdd] at hx27_1)
                              (try rw [show ((0 : Int)).toNat = 0 from rfl] at hf27_1)
                              (try simp only [Nat.reduceMul, Nat.zero_mul, Nat.zero_add, Nat.reduceAdd] at hf27_1)
                              replace p27 := eq_true p27
                              replace q27 := eq_true q27
                              have HX49 := Aside0.mk (show Kd.Q k58 58 wc w.heap.size (fun k_ => some k_ ≠ (.slice (some ad111) x11_1.length co20 : Value).ownBlock) (.slice (some ⟨go27, oo27, none⟩) x10_1.length co18) x10_1 from (by (with_reducible repeat (first | apply Kd.Q_alloc | apply Kd.Q_drewN | apply Kd.Q_drew)); exact HO_10.out))
                              obtain ⟨ce49, hcl49, hM49, hcc49, hfr49⟩ := Kd.Q_elem HX49.out z58 (0 : Int) (by omega) (by have h_ : (0 : Int) < ((x10_1.length : Int) : Int) := of_decide_eq_true (by first | (with_reducible assumption) | assumption); first | exact h_ | (have e_ := (Kd.Q_reads' HO_10.out).1; omega) | simpa using h_)
                              obtain rfl := k58_openM hM49
                              have HP49 := Kd.Q_seg HX49.out (0 : Int) (by omega) (by have h_ : (0 : Int) < ((x10_1.length : Int) : Int) := of_decide_eq_true (by first | (with_reducible assumption) | assumption); first | exact h_ | (have e_ := (Kd.Q_reads' HO_10.out).1; omega) | simpa using h_) (seg := [.int .i64 (wrap64 (((rd_T58 x10_1 0).f1) - ji16))]) (j := 1) hcl49 hcc49 (show 2 ≤ 2 from by decide) (x' := (⟨(rd_T58 x10_1 0).f0, wrap64 (((rd_T58 x10_1 0).f1) - ji16)⟩ : S58)) (k58_mkM _ _ _ (⟨(rd_T58 x10_1 0).f0, wrap64 (((rd_T58 x10_1 0).f1) - ji16)⟩ : S58) ) (fun _ hk => hk)
                              have hx49_1 := hcc49 1 _ rfl
                              (try simp only [show (k58).sz = 2 from rfl, Nat.mul_one, Nat.add_zero] at hx49_1)
                              (try rw [show ((0 : Int)).toNat = 0 from rfl] at hx49_1)
                              (try simp only [Nat.reduceMul, Nat.zero_mul, Nat.zero_add, Nat.reduceAdd] at hx49_1)
                              have hf49_1 := hfr49 1
                              (try simp only [show (k58).sz = 2 from rfl, Nat.mul_one, Nat.add_zero] at hf49_1)
                              (try rw [show ((0 : Int)).toNat = 0 from rfl] at hf49_1)
                              (try simp only [Nat.reduceMul, Nat.zero_mul, Nat.zero_add, Nat.reduceAdd] at hf49_1)
                              clear hcl49 hcc49 hfr49 hM49
                              go_wp2_with (first | ((with_reducible refine gate_store (t := 3) (p := 73) rfl ?_); refine store_event (t := 3) (p := 73) (v := ?vo_w50) (w1 := (wc.setCell ⟨go27, oo27 + 1, none⟩ (.int .i64 (wrap64 (((rd_T58 x10_1 0).f1) - ji16))))) ?hg ?ho ?hn ?hr ?_; (case ho => rfl); (case hg => rfl); (case hn => rfl); (case hr => first | (go_simp; done) | (go_simp; rfl)); intro w50 hw; have hg : wc.grownBy w50 (some go27) := (by rw [hw]; exact HP49.2); have hp_ : Kd.Q k58 58 w50 w.heap.size (fun k_ => some k_ ≠ (.slice (some ad111) x11_1.length co20 : Value).ownBlock) (.slice (some ⟨go27, oo27, none⟩) x10_1.length co18) y120 := (by rw [hw, Ny120.out]; exact HP49.1); clear HP49; have n0_ := Aside0.mk (hp_); have n1_ := Aside0.mk (Kd.Q_after (v := (.slice (some ⟨go27, oo27, none⟩) x10_1.length co18)) (v1 := (.slice (some ⟨go27, oo27, none⟩) x10_1.length co18)) (ok := (fun _ => True)) (by (with_reducible repeat (first | apply Kd.Q_alloc | apply Kd.Q_drewN | apply Kd.Q_drew)); exact Kd.Q_mono HO_11.out (fun _ hk => ⟨trivial, hk⟩)) hg (.inl rfl)); have n2_ := Aside0.mk (Kd.R_over' (v := (.slice (some ⟨go27, oo27, none⟩) x10_1.length co18)) (by (with_reducible repeat (first | apply Kd.R_alloc | apply Kd.R_drewN | apply Kd.R_drew)); exact HO_12.out) (Kd.Q_typed HO_10.out) (by decide) hg); have n3_ := Aside0.mk ((by rw [hw]; exact below_set (HB.out) GB27.out : Below w.heap.size w w50)); clear HO_10; clear HO_11; clear HO_12; clear HB; have HO_10 := n0_; have HO_11 := n1_; have HO_12 := n2_; have HB := n3_; clear n0_ n1_ n2_ n3_; clear hg hw hp_; have p121 : 0 ≤ (0 : Int) := (by omega); have q121 : 0 < (y120.length : Int) := (by have h_ : (0 : Int) < ((x10_1.length : Int) : Int) := of_decide_eq_true (by first | (with_reducible assumption) | assumption); first | (have e_ := (Kd.Q_reads' HO_10.out).1; omega) | simpa only [Ny120.out, List.length_set] using h_); have ql121 : ((0 : Int) < ((x10_1.length : Int) : Int)) = True := eq_true (of_decide_eq_true (by first | (with_reducible assumption) | assumption)); (try have qn121 : (0 < x10_1.length) = True := eq_true (by have h_ : (0 : Int) < ((x10_1.length : Int) : Int) := of_decide_eq_true (by first | (with_reducible assumption) | assumption); omega)); obtain ⟨ad121, e121, hx121_0, hx121_1⟩ := at_T58 (Kd.Q_reads' HO_10.out).2.2 0 p121 q121; obtain rfl : (⟨go27, oo27, none⟩ : Addr) = ad121 := (by injection e121); (first | simp only [add_plain] at hx121_0 | simp only [add_at] at hx121_0 | simp only [Addr.add, Nat.zero_add] at hx121_0 | skip); (first | simp only [add_plain] at hx121_1 | simp only [add_at] at hx121_1 | simp only [Addr.add, Nat.zero_add] at hx121_1 | skip); have qi121 : (0 < y120.length) = True := eq_true (by omega); (try rw [show ((0 : Int)).toNat = 0 from rfl] at hx121_0); (try rw [show 0 * 2 = 0 from rfl] at hx121_0); (try rw [Addr.add_zero'] at hx121_0); (try rw [show ((0 : Int)).toNat = 0 from rfl] at hx121_1); (try rw [show 0 * 2 = 0 from rfl] at hx121_1); (try rw [Addr.add_zero'] at hx121_1); replace p121 := eq_true p121; replace q121 := eq_true q121; have p131 : 0 ≤ (0 : Int) := (by omega); have q131 : 0 < (x11_1.length : Int) := of_decide_eq_true (by first | (with_reducible assumption) | assumption); obtain ⟨ad131, e131, hx131_0, hx131_1⟩ := at_T58 (Kd.Q_reads' HO_11.out).2.2 0 p131 q131; obtain rfl : ad111 = ad131 := (by injection e131); have qi131 : (0 < x11_1.length) = True := eq_true (by omega); (try rw [show ((0 : Int)).toNat = 0 from rfl] at hx131_0); (try rw [show 0 * 2 = 0 from rfl] at hx131_0); (try rw [Addr.add_zero'] at hx131_0); (try rw [show ((0 : Int)).toNat = 0 from rfl] at hx131_1); (try rw [show 0 * 2 = 0 from rfl] at hx131_1); (try rw [Addr.add_zero'] at hx131_1); replace p131 := eq_true p131; replace q131 := eq_true q131; have p46 : 0 ≤ (0 : Int) := (by omega); have q46 : (0 : Int) < ((x11_1.length : Int) : Int) := of_decide_eq_true (by first | (with_reducible assumption) | assumption); have qi46 : (0 < x11_1.length) = True := eq_true (by omega); obtain ⟨go46, oo46, co46, eo46, gb46, gl46, cl46, HG46⟩ := Kd.Q_form HO_11.out (by omega); (first | cases eo46 | (injection eo46 with ea_ en_ ec_; (first | subst ea_ | (injection ea_ with ea_; subst ea_)); subst ec_; clear en_)); have GB46 := Aside0.mk gb46; have GG46 := Aside0.mk HG46; clear gb46 gl46 HG46; (first | simp only [add_at] at hx131_0 | skip); (first | simp only [add_at] at hx131_1 | skip); obtain ⟨ce46, hcl46, hM46, hcc46, hfr46⟩ := Kd.Q_elem HO_11.out z58 (0 : Int) p46 q46; obtain rfl := k58_openM hM46; have hx46_0 : w50.cell? ⟨go46, oo46 + (0 : Int).toNat * 2, none⟩ = some (.int .i64 ((rd_T58 x11_1 0).f0)) := hcc46 0 _ rfl; have hx46_1 : w50.cell? ⟨go46, oo46 + (0 : Int).toNat * 2 + 1, none⟩ = some (.int .i64 ((rd_T58 x11_1 0).f1)) := hcc46 1 _ rfl; have hf46_0 : w50.frozen? ⟨go46, oo46 + (0 : Int).toNat * 2, none⟩ = false := hfr46 0; have hf46_1 : w50.frozen? ⟨go46, oo46 + (0 : Int).toNat * 2 + 1, none⟩ = false := hfr46 1; clear hcl46 hcc46 hfr46 hM46; (try rw [show ((0 : Int)).toNat = 0 from rfl] at hx46_0); (try simp only [Nat.reduceMul, Nat.zero_mul, Nat.zero_add, Nat.reduceAdd] at hx46_0); (try rw [show ((0 : Int)).toNat = 0 from rfl] at hf46_0); (try simp only [Nat.reduceMul, Nat.zero_mul, Nat.zero_add, Nat.reduceAdd] at hf46_0); (try rw [show ((0 : Int)).toNat = 0 from rfl] at hx46_1); (try simp only [Nat.reduceMul, Nat.zero_mul, Nat.zero_add, Nat.reduceAdd] at hx46_1); (try rw [show ((0 : Int)).toNat = 0 from rfl] at hf46_1); (try simp only [Nat.reduceMul, Nat.zero_mul, Nat.zero_add, Nat.reduceAdd] at hf46_1); replace p46 := eq_true p46; replace q46 := eq_true q46; have n_ := Aside0.mk (Kd.Q_mono (ok' := (fun k_ => some k_ ≠ (.slice (some ⟨go27, oo27, none⟩) x10_1.length co18 : Value).ownBlock)) HO_11.out (fun k_ hk => hk.2)); clear HO_11; have HO_11 := n_; clear n_; have HX51 := Aside0.mk (show Kd.Q k58 58 w50 w.heap.size (fun k_ => some k_ ≠ (.slice (some ⟨go27, oo27, none⟩) x10_1.length co18 : Value).ownBlock) (.slice (some ⟨go46, oo46, none⟩) x11_1.length co20) x11_1 from (by (with_reducible repeat (first | apply Kd.Q_alloc | apply Kd.Q_drewN | apply Kd.Q_drew)); exact HO_11.out)); obtain ⟨ce51, hcl51, hM51, hcc51, hfr51⟩ := Kd.Q_elem HX51.out z58 (0 : Int) (by omega) (by have h_ : (0 : Int) < ((x11_1.length : Int) : Int) := of_decide_eq_true (by first | (with_reducible assumption) | assumption); first | exact h_ | (have e_ := (Kd.Q_reads' HO_11.out).1; omega) | simpa using h_); obtain rfl := k58_openM hM51; have HP51 := Kd.Q_seg HX51.out (0 : Int) (by omega) (by have h_ : (0 : Int) < ((x11_1.length : Int) : Int) := of_decide_eq_true (by first | (with_reducible assumption) | assumption); first | exact h_ | (have e_ := (Kd.Q_reads' HO_11.out).1; omega) | simpa using h_) (seg := [.int .i64 (wrap64 (((rd_T58 x11_1 0).f1) - ji16))]) (j := 1) hcl51 hcc51 (show 2 ≤ 2 from by decide) (x' := (⟨(rd_T58 x11_1 0).f0, wrap64 (((rd_T58 x11_1 0).f1) - ji16)⟩ : S58)) (k58_mkM _ _ _ (⟨(rd_T58 x11_1 0).f0, wrap64 (((rd_T58 x11_1 0).f1) - ji16)⟩ : S58) ) (fun _ hk => hk); have hx51_1 := hcc51 1 _ rfl; (try simp only [show (k58).sz = 2 from rfl, Nat.mul_one, Nat.add_zero] at hx51_1); (try rw [show ((0 : Int)).toNat = 0 from rfl] at hx51_1); (try simp only [Nat.reduceMul, Nat.zero_mul, Nat.zero_add, Nat.reduceAdd] at hx51_1); have hf51_1 := hfr51 1; (try simp only [show (k58).sz = 2 from rfl, Nat.mul_one, Nat.add_zero] at hf51_1); (try rw [show ((0 : Int)).toNat = 0 from rfl] at hf51_1); (try simp only [Nat.reduceMul, Nat.zero_mul, Nat.zero_add, Nat.reduceAdd] at hf51_1); clear hcl51 hcc51 hfr51 hM51) | ((with_reducible refine gate_store (t := 3) (p := 88) rfl ?_); refine store_event (t := 3) (p := 88) (v := ?vo_w52) (w1 := (w50.setCell ⟨go46, oo46 + 1, none⟩ (.int .i64 (wrap64 (((rd_T58 x11_1 0).f1) - ji16))))) ?hg ?ho ?hn ?hr ?_; (case ho => rfl); (case hg => rfl); (case hn => rfl); (case hr => first | (go_simp; done) | (go_simp; rfl)); intro w52 hw; have hg : w50.grownBy w52 (some go46) := (by rw [hw]; exact HP51.2); have hp_ : Kd.Q k58 58 w52 w.heap.size (fun k_ => some k_ ≠ (.slice (some ⟨go27, oo27, none⟩) x10_1.length co18 : Value).ownBlock) (.slice (some ⟨go46, oo46, none⟩) x11_1.length co20) y132 := (by rw [hw, Ny132.out]; exact HP51.1); clear HP51; have n0_ := Aside0.mk (Kd.Q_after (v := (.slice (some ⟨go46, oo46, none⟩) x11_1.length co20)) (v1 := (.slice (some ⟨go46, oo46, none⟩) x11_1.length co20)) (ok := (fun _ => True)) (by (with_reducible repeat (first | apply Kd.Q_alloc | apply Kd.Q_drewN | apply Kd.Q_drew)); exact Kd.Q_mono HO_10.out (fun _ hk => ⟨trivial, hk⟩)) hg (.inl rfl)); have n1_ := Aside0.mk (hp_); have n2_ := Aside0.mk (Kd.R_over' (v := (.slice (some ⟨go46, oo46, none⟩) x11_1.length co20)) (by (with_reducible repeat (first | apply Kd.R_alloc | apply Kd.R_drewN | apply Kd.R_drew)); exact HO_12.out) (Kd.Q_typed HO_11.out) (by decide) hg); have n3_ := Aside0.mk ((by rw [hw]; exact below_set (HB.out) GB46.out : Below w.heap.size w w52)); clear HO_10; clear HO_11; clear HO_12; clear HB; have HO_10 := n0_; have HO_11 := n1_; have HO_12 := n2_; have HB := n3_; clear n0_ n1_ n2_ n3_; clear hg hw hp_; have p133 : 0 ≤ (0 : Int) := (by omega); have q133 : 0 < (y132.length : Int) := (by have h_ : (0 : Int) < ((x11_1.length : Int) : Int) := of_decide_eq_true (by first | (with_reducible assumption) | assumption); first | (have e_ := (Kd.Q_reads' HO_11.out).1; omega) | simpa only [Ny132.out, List.length_set] using h_); have ql133 : ((0 : Int) < ((x11_1.length : Int) : Int)) = True := eq_true (of_decide_eq_true (by first | (with_reducible assumption) | assumption)); (try have qn133 : (0 < x11_1.length) = True := eq_true (by have h_ : (0 : Int) < ((x11_1.length : Int) : Int) := of_decide_eq_true (by first | (with_reducible assumption) | assumption); omega)); obtain ⟨ad133, e133, hx133_0, hx133_1⟩ := at_T58 (Kd.Q_reads' HO_11.out).2.2 0 p133 q133; obtain rfl : (⟨go46, oo46, none⟩ : Addr) = ad133 := (by injection e133); (first | simp only [add_plain] at hx133_0 | simp only [add_at] at hx133_0 | simp only [Addr.add, Nat.zero_add] at hx133_0 | skip); (first | simp only [add_plain] at hx133_1 | simp only [add_at] at hx133_1 | simp only [Addr.add, Nat.zero_add] at hx133_1 | skip); have qi133 : (0 < y132.length) = True := eq_true (by omega); (try rw [show ((0 : Int)).toNat = 0 from rfl] at hx133_0); (try rw [show 0 * 2 = 0 from rfl] at hx133_0); (try rw [Addr.add_zero'] at hx133_0); (try rw [show ((0 : Int)).toNat = 0 from rfl] at hx133_1); (try rw [show 0 * 2 = 0 from rfl] at hx133_1); (try rw [Addr.add_zero'] at hx133_1); replace p133 := eq_true p133; replace q133 := eq_true q133; have q53 : (1 : Int) ≤ ((x11_1.length : Int) : Int) := of_decide_eq_true (by first | (with_reducible assumption) | assumption); obtain ⟨i053, hi053, _, hsz53, _⟩ := info_parts info58; have hcut53 := cut_from (P := Try.prog) 22 58 .i64 Try.underlying22 hi053 2 hsz53 (some ⟨go46, oo46, none⟩) x11_1.length co20 1 (by omega) q53; have hr53 := Kd.Q_drop (k := (1 : Int).toNat) HO_11.out (by have e_ := (Kd.Q_reads' HO_11.out).1; omega); obtain ⟨A53, hA53⟩ : ∃ A1, A1 = (if co20 = (1 : Int).toNat then (some ⟨go46, oo46, none⟩) else ((some ⟨go46, oo46, none⟩) : Option Addr).map (·.add ((1 : Int).toNat * 2))) := ⟨_, rfl⟩; obtain ⟨c53, hc53⟩ : ∃ c1, c1 = co20 - (1 : Int).toNat := ⟨_, rfl⟩; have hy53 : y134.length = x11_1.length - (1 : Int).toNat := (by have e_ := (Kd.Q_reads' HO_11.out).1; rw [Ny134.out, List.length_drop]; omega); rw [← Ny134.out] at hr53; rw [← hy53, ← hA53, ← hc53] at hcut53; replace hr53 : Kd.Q k58 58 w52 w.heap.size (fun k_ => some k_ ≠ (.slice (some ⟨go27, oo27, none⟩) x10_1.length co18 : Value).ownBlock) (.slice A53 y134.length c53) y134 := (by rw [hA53, hc53, hy53]; exact hr53); have HE53 : Aside0 ((Value.slice A53 y134.length c53).ownBlock = (.slice (some ⟨go46, oo46, none⟩) x11_1.length co20 : Value).ownBlock) := ⟨by rw [hA53]; split <;> (cases ((some ⟨go46, oo46, none⟩) : Option Addr) <;> rfl)⟩; clear hy53 hi053 hsz53 HO_11 hA53 hc53; have HO136 := Aside0.mk hr53; clear hr53; replace q53 := eq_true q53; have n_ := Aside0.mk (Kd.Q_mono (ok' := fun k_ => (True ∧ some k_ ≠ (.slice A53 y134.length c53 : Value).ownBlock)) HO_10.out (fun k_ hk => ⟨trivial, (by rw [HE53.out]; exact hk.2)⟩)); clear HO_10; have HO_10 := n_; clear n_))
                              go_roundg kj16
                              case measure => have := HK1.out; have := HJ16.out; omega
                              case rel => exact ⟨(y120), (y134), (x12_16), H', ⟨by have := HK1.out; have := HJ16.out; omega⟩, ⟨by (with_reducible repeat (first | apply Kd.Q_alloc | apply Kd.Q_drewN | apply Kd.Q_drew)); exact Kd.Q_mono HO_10.out (fun _ hk => hk.2)⟩, ⟨by (with_reducible repeat (first | apply Kd.Q_alloc | apply Kd.Q_drewN | apply Kd.Q_drew)); exact HO136.out⟩, ⟨by (with_reducible repeat (first | apply Kd.R_alloc | apply Kd.R_drewN | apply Kd.R_drew)); exact HO_12.out⟩, ⟨by repeat (first | (with_reducible first | exact HB.out | apply below_alloc | apply pw_below_drewN | apply below_drew1) | exact HB.out)⟩⟩
                            · rw [if_neg c48] at H
                              exact absurd H (by simp)
                          · rw [if_neg c47] at H
                            have c47b0 : (((rd_T58 y132 0).f1) == 0) = false := beq_eq_false_iff_ne.mpr c47
                            have c47b1 : (((rd_T58 y132 0).f1) != 0) = true := bne_iff_ne.mpr c47
                            have H' := Aside0.mk H
                            clear H
                            have p119 : 0 ≤ (0 : Int) := (by omega)
                            have q119 : 0 < (x10_1.length : Int) := of_decide_eq_true (by first | (with_reducible assumption) | assumption)
                            obtain ⟨ad119, e119, hx119_0, hx119_1⟩ := at_T58 (Kd.Q_reads' HO_10.out).2.2 0 p119 q119
                            obtain rfl : ad110 = ad119 := (by injection e119)
                            have qi119 : (0 < x10_1.length) = True := eq_true (by omega)
                            (try rw [show ((0 : Int)).toNat = 0 from rfl] at hx119_0)
                            (try rw [show 0 * 2 = 0 from rfl] at hx119_0)
                            (try rw [Addr.add_zero'] at hx119_0)
                            (try rw [show ((0 : Int)).toNat = 0 from rfl] at hx119_1)
                            (try rw [show 0 * 2 = 0 from rfl] at hx119_1)
                            (try rw [Addr.add_zero'] at hx119_1)
                            replace p119 := eq_true p119
                            replace q119 := eq_true q119
                            have p27 : 0 ≤ (0 : Int) := (by omega)
                            have q27 : (0 : Int) < ((x10_1.length : Int) : Int) := of_decide_eq_true (by first | (with_reducible assumption) | assumption)
                            have qi27 : (0 < x10_1.length) = True := eq_true (by omega)
                            obtain ⟨go27, oo27, co27, eo27, gb27, gl27, cl27, HG27⟩ := Kd.Q_form HO_10.out (by omega)
                            (first | cases eo27 | (injection eo27 with ea_ en_ ec_; (first | subst ea_ | (injection ea_ with ea_; subst ea_)); subst ec_; clear en_))
                            have GB27 := Aside0.mk gb27
                            have GG27 := Aside0.mk HG27
                            clear gb27 gl27 HG27
                            (first | simp only [add_at] at hx119_0 | skip)
                            (first | simp only [add_at] at hx119_1 | skip)
                            obtain ⟨ce27, hcl27, hM27, hcc27, hfr27⟩ := Kd.Q_elem HO_10.out z58 (0 : Int) p27 q27
                            obtain rfl := k58_openM hM27
                            have hx27_0 : wc.cell? ⟨go27, oo27 + (0 : Int).toNat * 2, none⟩ = some (.int .i64 ((rd_T58 x10_1 0).f0)) := hcc27 0 _ rfl
                            have hx27_1 : wc.cell? ⟨go27, oo27 + (0 : Int).toNat * 2 + 1, none⟩ = some (.int .i64 ((rd_T58 x10_1 0).f1)) := hcc27 1 _ rfl
                            have hf27_0 : wc.frozen? ⟨go27, oo27 + (0 : Int).toNat * 2, none⟩ = false := hfr27 0
                            have hf27_1 : wc.frozen? ⟨go27, oo27 + (0 : Int).toNat * 2 + 1, none⟩ = false := hfr27 1
                            clear hcl27 hcc27 hfr27 hM27
                            (try rw [show ((0 : Int)).toNat = 0 from rfl] at hx27_0)
                            (try simp only [Nat.reduceMul, Nat.zero_mul, Nat.zero_add, Nat.reduceAdd] at hx27_0)
                            (try rw [show ((0 : Int)).toNat = 0 from rfl] at hf27_0)
                            (try simp only [Nat.reduceMul, Nat.zero_mul, Nat.zero_add, Nat.reduceAdd] at hf27_0)
                            (try rw [show ((0 : Int)).toNat = 0 from rfl] at hx27_1)
                            (try simp only [Nat.reduceMul, Nat.zero_mul, Nat.zero_add, Nat.reduceAdd] at hx27_1)
                            (try rw [show ((0 : Int)).toNat = 0 from rfl] at hf27_1)
                            (try simp only [Nat.reduceMul, Nat.zero_mul, Nat.zero_add, Nat.reduceAdd] at hf27_1)
                            replace p27 := eq_true p27
                            replace q27 := eq_true q27
                            have HX54 := Aside0.mk (show Kd.Q k58 58 wc w.heap.size (fun k_ => some k_ ≠ (.slice (some ad111) x11_1.length co20 : Value).ownBlock) (.slice (some ⟨go27, oo27, none⟩) x10_1.length co18) x10_1 from (by (with_reducible repeat (first | apply Kd.Q_alloc | apply Kd.Q_drewN | apply Kd.Q_drew)); exact HO_10.out))
                            obtain ⟨ce54, hcl54, hM54, hcc54, hfr54⟩ := Kd.Q_elem HX54.out z58 (0 : Int) (by omega) (by have h_ : (0 : Int) < ((x10_1.length : Int) : Int) := of_decide_eq_true (by first | (with_reducible assumption) | assumption); first | exact h_ | (have e_ := (Kd.Q_reads' HO_10.out).1; omega) | simpa using h_)
                            obtain rfl := k58_openM hM54
                            have HP54 := Kd.Q_seg HX54.out (0 : Int) (by omega) (by have h_ : (0 : Int) < ((x10_1.length : Int) : Int) := of_decide_eq_true (by first | (with_reducible assumption) | assumption); first | exact h_ | (have e_ := (Kd.Q_reads' HO_10.out).1; omega) | simpa using h_) (seg := [.int .i64 (wrap64 (((rd_T58 x10_1 0).f1) - ji16))]) (j := 1) hcl54 hcc54 (show 2 ≤ 2 from by decide) (x' := (⟨(rd_T58 x10_1 0).f0, wrap64 (((rd_T58 x10_1 0).f1) - ji16)⟩ : S58)) (k58_mkM _ _ _ (⟨(rd_T58 x10_1 0).f0, wrap64 (((rd_T58 x10_1 0).f1) - ji16)⟩ : S58) ) (fun _ hk => hk)
                            have hx54_1 := hcc54 1 _ rfl
                            (try simp only [show (k58).sz = 2 from rfl, Nat.mul_one, Nat.add_zero] at hx54_1)
                            (try rw [show ((0 : Int)).toNat = 0 from rfl] at hx54_1)
                            (try simp only [Nat.reduceMul, Nat.zero_mul, Nat.zero_add, Nat.reduceAdd] at hx54_1)
                            have hf54_1 := hfr54 1
                            (try simp only [show (k58).sz = 2 from rfl, Nat.mul_one, Nat.add_zero] at hf54_1)
                            (try rw [show ((0 : Int)).toNat = 0 from rfl] at hf54_1)
                            (try simp only [Nat.reduceMul, Nat.zero_mul, Nat.zero_add, Nat.reduceAdd] at hf54_1)
                            clear hcl54 hcc54 hfr54 hM54
                            go_wp2_with (first | ((with_reducible refine gate_store (t := 3) (p := 73) rfl ?_); refine store_event (t := 3) (p := 73) (v := ?vo_w55) (w1 := (wc.setCell ⟨go27, oo27 + 1, none⟩ (.int .i64 (wrap64 (((rd_T58 x10_1 0).f1) - ji16))))) ?hg ?ho ?hn ?hr ?_; (case ho => rfl); (case hg => rfl); (case hn => rfl); (case hr => first | (go_simp; done) | (go_simp; rfl)); intro w55 hw; have hg : wc.grownBy w55 (some go27) := (by rw [hw]; exact HP54.2); have hp_ : Kd.Q k58 58 w55 w.heap.size (fun k_ => some k_ ≠ (.slice (some ad111) x11_1.length co20 : Value).ownBlock) (.slice (some ⟨go27, oo27, none⟩) x10_1.length co18) y120 := (by rw [hw, Ny120.out]; exact HP54.1); clear HP54; have n0_ := Aside0.mk (hp_); have n1_ := Aside0.mk (Kd.Q_after (v := (.slice (some ⟨go27, oo27, none⟩) x10_1.length co18)) (v1 := (.slice (some ⟨go27, oo27, none⟩) x10_1.length co18)) (ok := (fun _ => True)) (by (with_reducible repeat (first | apply Kd.Q_alloc | apply Kd.Q_drewN | apply Kd.Q_drew)); exact Kd.Q_mono HO_11.out (fun _ hk => ⟨trivial, hk⟩)) hg (.inl rfl)); have n2_ := Aside0.mk (Kd.R_over' (v := (.slice (some ⟨go27, oo27, none⟩) x10_1.length co18)) (by (with_reducible repeat (first | apply Kd.R_alloc | apply Kd.R_drewN | apply Kd.R_drew)); exact HO_12.out) (Kd.Q_typed HO_10.out) (by decide) hg); have n3_ := Aside0.mk ((by rw [hw]; exact below_set (HB.out) GB27.out : Below w.heap.size w w55)); clear HO_10; clear HO_11; clear HO_12; clear HB; have HO_10 := n0_; have HO_11 := n1_; have HO_12 := n2_; have HB := n3_; clear n0_ n1_ n2_ n3_; clear hg hw hp_; have p121 : 0 ≤ (0 : Int) := (by omega); have q121 : 0 < (y120.length : Int) := (by have h_ : (0 : Int) < ((x10_1.length : Int) : Int) := of_decide_eq_true (by first | (with_reducible assumption) | assumption); first | (have e_ := (Kd.Q_reads' HO_10.out).1; omega) | simpa only [Ny120.out, List.length_set] using h_); have ql121 : ((0 : Int) < ((x10_1.length : Int) : Int)) = True := eq_true (of_decide_eq_true (by first | (with_reducible assumption) | assumption)); (try have qn121 : (0 < x10_1.length) = True := eq_true (by have h_ : (0 : Int) < ((x10_1.length : Int) : Int) := of_decide_eq_true (by first | (with_reducible assumption) | assumption); omega)); obtain ⟨ad121, e121, hx121_0, hx121_1⟩ := at_T58 (Kd.Q_reads' HO_10.out).2.2 0 p121 q121; obtain rfl : (⟨go27, oo27, none⟩ : Addr) = ad121 := (by injection e121); (first | simp only [add_plain] at hx121_0 | simp only [add_at] at hx121_0 | simp only [Addr.add, Nat.zero_add] at hx121_0 | skip); (first | simp only [add_plain] at hx121_1 | simp only [add_at] at hx121_1 | simp only [Addr.add, Nat.zero_add] at hx121_1 | skip); have qi121 : (0 < y120.length) = True := eq_true (by omega); (try rw [show ((0 : Int)).toNat = 0 from rfl] at hx121_0); (try rw [show 0 * 2 = 0 from rfl] at hx121_0); (try rw [Addr.add_zero'] at hx121_0); (try rw [show ((0 : Int)).toNat = 0 from rfl] at hx121_1); (try rw [show 0 * 2 = 0 from rfl] at hx121_1); (try rw [Addr.add_zero'] at hx121_1); replace p121 := eq_true p121; replace q121 := eq_true q121; have p131 : 0 ≤ (0 : Int) := (by omega); have q131 : 0 < (x11_1.length : Int) := of_decide_eq_true (by first | (with_reducible assumption) | assumption); obtain ⟨ad131, e131, hx131_0, hx131_1⟩ := at_T58 (Kd.Q_reads' HO_11.out).2.2 0 p131 q131; obtain rfl : ad111 = ad131 := (by injection e131); have qi131 : (0 < x11_1.length) = True := eq_true (by omega); (try rw [show ((0 : Int)).toNat = 0 from rfl] at hx131_0); (try rw [show 0 * 2 = 0 from rfl] at hx131_0); (try rw [Addr.add_zero'] at hx131_0); (try rw [show ((0 : Int)).toNat = 0 from rfl] at hx131_1); (try rw [show 0 * 2 = 0 from rfl] at hx131_1); (try rw [Addr.add_zero'] at hx131_1); replace p131 := eq_true p131; replace q131 := eq_true q131; have p46 : 0 ≤ (0 : Int) := (by omega); have q46 : (0 : Int) < ((x11_1.length : Int) : Int) := of_decide_eq_true (by first | (with_reducible assumption) | assumption); have qi46 : (0 < x11_1.length) = True := eq_true (by omega); obtain ⟨go46, oo46, co46, eo46, gb46, gl46, cl46, HG46⟩ := Kd.Q_form HO_11.out (by omega); (first | cases eo46 | (injection eo46 with ea_ en_ ec_; (first | subst ea_ | (injection ea_ with ea_; subst ea_)); subst ec_; clear en_)); have GB46 := Aside0.mk gb46; have GG46 := Aside0.mk HG46; clear gb46 gl46 HG46; (first | simp only [add_at] at hx131_0 | skip); (first | simp only [add_at] at hx131_1 | skip); obtain ⟨ce46, hcl46, hM46, hcc46, hfr46⟩ := Kd.Q_elem HO_11.out z58 (0 : Int) p46 q46; obtain rfl := k58_openM hM46; have hx46_0 : w55.cell? ⟨go46, oo46 + (0 : Int).toNat * 2, none⟩ = some (.int .i64 ((rd_T58 x11_1 0).f0)) := hcc46 0 _ rfl; have hx46_1 : w55.cell? ⟨go46, oo46 + (0 : Int).toNat * 2 + 1, none⟩ = some (.int .i64 ((rd_T58 x11_1 0).f1)) := hcc46 1 _ rfl; have hf46_0 : w55.frozen? ⟨go46, oo46 + (0 : Int).toNat * 2, none⟩ = false := hfr46 0; have hf46_1 : w55.frozen? ⟨go46, oo46 + (0 : Int).toNat * 2 + 1, none⟩ = false := hfr46 1; clear hcl46 hcc46 hfr46 hM46; (try rw [show ((0 : Int)).toNat = 0 from rfl] at hx46_0); (try simp only [Nat.reduceMul, Nat.zero_mul, Nat.zero_add, Nat.reduceAdd] at hx46_0); (try rw [show ((0 : Int)).toNat = 0 from rfl] at hf46_0); (try simp only [Nat.reduceMul, Nat.zero_mul, Nat.zero_add, Nat.reduceAdd] at hf46_0); (try rw [show ((0 : Int)).toNat = 0 from rfl] at hx46_1); (try simp only [Nat.reduceMul, Nat.zero_mul, Nat.zero_add, Nat.reduceAdd] at hx46_1); (try rw [show ((0 : Int)).toNat = 0 from rfl] at hf46_1); (try simp only [Nat.reduceMul, Nat.zero_mul, Nat.zero_add, Nat.reduceAdd] at hf46_1); replace p46 := eq_true p46; replace q46 := eq_true q46; have n_ := Aside0.mk (Kd.Q_mono (ok' := (fun k_ => some k_ ≠ (.slice (some ⟨go27, oo27, none⟩) x10_1.length co18 : Value).ownBlock)) HO_11.out (fun k_ hk => hk.2)); clear HO_11; have HO_11 := n_; clear n_; have HX56 := Aside0.mk (show Kd.Q k58 58 w55 w.heap.size (fun k_ => some k_ ≠ (.slice (some ⟨go27, oo27, none⟩) x10_1.length co18 : Value).ownBlock) (.slice (some ⟨go46, oo46, none⟩) x11_1.length co20) x11_1 from (by (with_reducible repeat (first | apply Kd.Q_alloc | apply Kd.Q_drewN | apply Kd.Q_drew)); exact HO_11.out)); obtain ⟨ce56, hcl56, hM56, hcc56, hfr56⟩ := Kd.Q_elem HX56.out z58 (0 : Int) (by omega) (by have h_ : (0 : Int) < ((x11_1.length : Int) : Int) := of_decide_eq_true (by first | (with_reducible assumption) | assumption); first | exact h_ | (have e_ := (Kd.Q_reads' HO_11.out).1; omega) | simpa using h_); obtain rfl := k58_openM hM56; have HP56 := Kd.Q_seg HX56.out (0 : Int) (by omega) (by have h_ : (0 : Int) < ((x11_1.length : Int) : Int) := of_decide_eq_true (by first | (with_reducible assumption) | assumption); first | exact h_ | (have e_ := (Kd.Q_reads' HO_11.out).1; omega) | simpa using h_) (seg := [.int .i64 (wrap64 (((rd_T58 x11_1 0).f1) - ji16))]) (j := 1) hcl56 hcc56 (show 2 ≤ 2 from by decide) (x' := (⟨(rd_T58 x11_1 0).f0, wrap64 (((rd_T58 x11_1 0).f1) - ji16)⟩ : S58)) (k58_mkM _ _ _ (⟨(rd_T58 x11_1 0).f0, wrap64 (((rd_T58 x11_1 0).f1) - ji16)⟩ : S58) ) (fun _ hk => hk); have hx56_1 := hcc56 1 _ rfl; (try simp only [show (k58).sz = 2 from rfl, Nat.mul_one, Nat.add_zero] at hx56_1); (try rw [show ((0 : Int)).toNat = 0 from rfl] at hx56_1); (try simp only [Nat.reduceMul, Nat.zero_mul, Nat.zero_add, Nat.reduceAdd] at hx56_1); have hf56_1 := hfr56 1; (try simp only [show (k58).sz = 2 from rfl, Nat.mul_one, Nat.add_zero] at hf56_1); (try rw [show ((0 : Int)).toNat = 0 from rfl] at hf56_1); (try simp only [Nat.reduceMul, Nat.zero_mul, Nat.zero_add, Nat.reduceAdd] at hf56_1); clear hcl56 hcc56 hfr56 hM56) | ((with_reducible refine gate_store (t := 3) (p := 88) rfl ?_); refine store_event (t := 3) (p := 88) (v := ?vo_w57) (w1 := (w55.setCell ⟨go46, oo46 + 1, none⟩ (.int .i64 (wrap64 (((rd_T58 x11_1 0).f1) - ji16))))) ?hg ?ho ?hn ?hr ?_; (case ho => rfl); (case hg => rfl); (case hn => rfl); (case hr => first | (go_simp; done) | (go_simp; rfl)); intro w57 hw; have hg : w55.grownBy w57 (some go46) := (by rw [hw]; exact HP56.2); have hp_ : Kd.Q k58 58 w57 w.heap.size (fun k_ => some k_ ≠ (.slice (some ⟨go27, oo27, none⟩) x10_1.length co18 : Value).ownBlock) (.slice (some ⟨go46, oo46, none⟩) x11_1.length co20) y132 := (by rw [hw, Ny132.out]; exact HP56.1); clear HP56; have n0_ := Aside0.mk (Kd.Q_after (v := (.slice (some ⟨go46, oo46, none⟩) x11_1.length co20)) (v1 := (.slice (some ⟨go46, oo46, none⟩) x11_1.length co20)) (ok := (fun _ => True)) (by (with_reducible repeat (first | apply Kd.Q_alloc | apply Kd.Q_drewN | apply Kd.Q_drew)); exact Kd.Q_mono HO_10.out (fun _ hk => ⟨trivial, hk⟩)) hg (.inl rfl)); have n1_ := Aside0.mk (hp_); have n2_ := Aside0.mk (Kd.R_over' (v := (.slice (some ⟨go46, oo46, none⟩) x11_1.length co20)) (by (with_reducible repeat (first | apply Kd.R_alloc | apply Kd.R_drewN | apply Kd.R_drew)); exact HO_12.out) (Kd.Q_typed HO_11.out) (by decide) hg); have n3_ := Aside0.mk ((by rw [hw]; exact below_set (HB.out) GB46.out : Below w.heap.size w w57)); clear HO_10; clear HO_11; clear HO_12; clear HB; have HO_10 := n0_; have HO_11 := n1_; have HO_12 := n2_; have HB := n3_; clear n0_ n1_ n2_ n3_; clear hg hw hp_; have p133 : 0 ≤ (0 : Int) := (by omega); have q133 : 0 < (y132.length : Int) := (by have h_ : (0 : Int) < ((x11_1.length : Int) : Int) := of_decide_eq_true (by first | (with_reducible assumption) | assumption); first | (have e_ := (Kd.Q_reads' HO_11.out).1; omega) | simpa only [Ny132.out, List.length_set] using h_); have ql133 : ((0 : Int) < ((x11_1.length : Int) : Int)) = True := eq_true (of_decide_eq_true (by first | (with_reducible assumption) | assumption)); (try have qn133 : (0 < x11_1.length) = True := eq_true (by have h_ : (0 : Int) < ((x11_1.length : Int) : Int) := of_decide_eq_true (by first | (with_reducible assumption) | assumption); omega)); obtain ⟨ad133, e133, hx133_0, hx133_1⟩ := at_T58 (Kd.Q_reads' HO_11.out).2.2 0 p133 q133; obtain rfl : (⟨go46, oo46, none⟩ : Addr) = ad133 := (by injection e133); (first | simp only [add_plain] at hx133_0 | simp only [add_at] at hx133_0 | simp only [Addr.add, Nat.zero_add] at hx133_0 | skip); (first | simp only [add_plain] at hx133_1 | simp only [add_at] at hx133_1 | simp only [Addr.add, Nat.zero_add] at hx133_1 | skip); have qi133 : (0 < y132.length) = True := eq_true (by omega); (try rw [show ((0 : Int)).toNat = 0 from rfl] at hx133_0); (try rw [show 0 * 2 = 0 from rfl] at hx133_0); (try rw [Addr.add_zero'] at hx133_0); (try rw [show ((0 : Int)).toNat = 0 from rfl] at hx133_1); (try rw [show 0 * 2 = 0 from rfl] at hx133_1); (try rw [Addr.add_zero'] at hx133_1); replace p133 := eq_true p133; replace q133 := eq_true q133))
                            go_roundg kj16
                            case measure => have := HK1.out; have := HJ16.out; omega
                            case rel => exact ⟨(y120), (y132), (x12_16), H', ⟨by have := HK1.out; have := HJ16.out; omega⟩, ⟨by (with_reducible repeat (first | apply Kd.Q_alloc | apply Kd.Q_drewN | apply Kd.Q_drew)); exact Kd.Q_mono HO_10.out (fun _ hk => hk.2)⟩, ⟨by (with_reducible repeat (first | apply Kd.Q_alloc | apply Kd.Q_drewN | apply Kd.Q_drew)); exact HO_11.out⟩, ⟨by (with_reducible repeat (first | apply Kd.R_alloc | apply Kd.R_drewN | apply Kd.R_drew)); exact HO_12.out⟩, ⟨by repeat (first | (with_reducible first | exact HB.out | apply below_alloc | apply pw_below_drewN | apply below_drew1) | exact HB.out)⟩⟩
                        · rw [if_neg c45] at H
                          exact absurd H (by simp)
                    · rw [if_neg c26] at H
                      exact absurd H (by simp)
              · rw [if_neg c15] at H
                exact absurd H (by simp)
            · rw [if_neg c14] at H
              exact absurd H (by simp)
          · rw [if_neg c13] at H
            have c13b0 : decide (0 < (x10_1.length : Int)) = false := decide_eq_false c13
            have c13b1 : decide (0 < x10_1.length) = false := decide_eq_false (by omega)
            clear c13
            simp only [Option.some.injEq, Prod.mk.injEq] at H
            obtain ⟨rfl, rfl, rfl⟩ := H
            obtain ⟨Ao58, co58, eo58, _⟩ := Kd.Q_slice HO_10.out
            subst eo58
            go_wp2
            go_ret3
            exact ⟨_, by first | rfl | (simp [errW_none, errW_some] <;> rfl) | (simp [*, errW_none, errW_some] <;> rfl), by (with_reducible repeat (first | apply Kd.R_alloc | apply Kd.R_drewN | apply Kd.R_drew)); exact HO_12.out, by repeat (first | (with_reducible first | exact HB.out | apply below_alloc | apply pw_below_drewN | apply below_drew1) | exact HB.out)⟩
    · replace c6 := Bool.eq_false_iff.mpr c6
      subst c6
      have H1 : (some (([] : List (S83)), false, 0)) = some (r1, r2, r3) := by rw [if_neg (show ¬ (false = true) by decide)] at H; exact H
      clear H
      have H := H1
      clear H1
      simp only [Option.some.injEq, Prod.mk.injEq] at H
      obtain ⟨rfl, rfl, rfl⟩ := H
      go_enter Try.func82, Try.ntmps82
      go_wp2_with (first | ((with_reducible refine gate_callee (f := 97) rfl ?_); refine goesL_ (some 16) rfl rfl Try.func97 (by kernel_rfl) rfl #[.slice A0 l0.length c0, .slice A1 l1.length c1] rfl (by (try simp only [List.map_toArray, List.map_cons, List.map_nil]); first | done | rfl | (simp only [List.length_drop, List.length_take]; rfl)) ?_; (with_reducible refine (wash_pair.calls k _ _ l0 _ _ l1 t101 _ ?side1 ?side2 ?side3 ?side4 A3.out).mono ?_); (case side1 => repeat (first | exact HR0.out | (with_reducible refine Kd.C_alloc ?_ _) | (with_reducible refine Kd.C_drewN ?_ _) | (with_reducible refine Kd.C_drew ?_))); (case side2 => exact HC0.out); (case side3 => repeat (first | exact HR1.out | (with_reducible refine Kd.C_alloc ?_ _) | (with_reducible refine Kd.C_drewN ?_ _) | (with_reducible refine Kd.C_drew ?_))); (case side4 => exact HC1.out); rintro e w59 ⟨rfl, hb⟩; refine ⟨_, rfl, ?_⟩; have n0_ := Aside0.mk (below_step (by repeat (first | (with_reducible first | exact HB.out | apply below_alloc | apply pw_below_drewN | apply below_drew1) | exact HB.out)) hb); clear HB; have HB := n0_; clear n0_; (try clear hb); (try clear hb2); (try clear hk); (try clear hi)) | ((with_reducible refine gate_callee (f := 98) rfl ?_); refine goesL_ (some 23) rfl rfl Try.func98 (by kernel_rfl) rfl #[.slice A0 l0.length c0, .slice A1 l1.length c1] rfl (by (try simp only [List.map_toArray, List.map_cons, List.map_nil]); first | done | rfl | (simp only [List.length_drop, List.length_take]; rfl)) ?_; (with_reducible refine (wash_work.calls _ _ l0 _ _ l1 t102 false _ ?side1 ?side2 ?side3 ?side4 A5.out).mono ?_); (case side1 => repeat (first | exact (Kd.C_below HR0.out HB.out) | (with_reducible refine Kd.C_alloc ?_ _) | (with_reducible refine Kd.C_drewN ?_ _) | (with_reducible refine Kd.C_drew ?_))); (case side2 => exact HC0.out); (case side3 => repeat (first | exact (Kd.C_below HR1.out HB.out) | (with_reducible refine Kd.C_alloc ?_ _) | (with_reducible refine Kd.C_drewN ?_ _) | (with_reducible refine Kd.C_drew ?_))); (case side4 => exact HC1.out); rintro e w60 ⟨rfl, hb⟩; refine ⟨_, rfl, ?_⟩; have n0_ := Aside0.mk (below_step (by repeat (first | (with_reducible first | exact HB.out | apply below_alloc | apply pw_below_drewN | apply below_drew1) | exact HB.out)) hb); clear HB; have HB := n0_; clear n0_; (try clear hb); (try clear hb2); (try clear hk); (try clear hi)))
      go_ret3
      exact ⟨_, by first | rfl | (simp [errW_none, errW_some] <;> rfl) | (simp [*, errW_none, errW_some] <;> rfl), by first | exact Kd.R_nil _ _ _ _ _ | exact Kd.N_nil _ _ _ _ _ | exact Kd.V_nil _ _ _ _ _ | exact Kd.Q_nil _ _ _ _ _ | exact Kd.S_nil _ _ _ _ _, by repeat (first | (with_reducible first | exact HB.out | apply below_alloc | apply pw_below_drewN | apply below_drew1) | exact HB.out)⟩
  · rw [if_neg c4] at H
    have c4b0 : (t101 == 0) = false := beq_eq_false_iff_ne.mpr c4
    have c4b1 : (t101 != 0) = true := bne_iff_ne.mpr c4
    simp only [Option.some.injEq, Prod.mk.injEq] at H
    obtain ⟨rfl, rfl, rfl⟩ := H
    go_enter Try.func82, Try.ntmps82
    go_wp2_with (first | ((with_reducible refine gate_callee (f := 97) rfl ?_); refine goesL_ (some 16) rfl rfl Try.func97 (by kernel_rfl) rfl #[.slice A0 l0.length c0, .slice A1 l1.length c1] rfl (by (try simp only [List.map_toArray, List.map_cons, List.map_nil]); first | done | rfl | (simp only [List.length_drop, List.length_take]; rfl)) ?_; (with_reducible refine (wash_pair.calls k _ _ l0 _ _ l1 t101 _ ?side1 ?side2 ?side3 ?side4 A3.out).mono ?_); (case side1 => repeat (first | exact HR0.out | (with_reducible refine Kd.C_alloc ?_ _) | (with_reducible refine Kd.C_drewN ?_ _) | (with_reducible refine Kd.C_drew ?_))); (case side2 => exact HC0.out); (case side3 => repeat (first | exact HR1.out | (with_reducible refine Kd.C_alloc ?_ _) | (with_reducible refine Kd.C_drewN ?_ _) | (with_reducible refine Kd.C_drew ?_))); (case side4 => exact HC1.out); rintro e w61 ⟨rfl, hb⟩; refine ⟨_, rfl, ?_⟩; have n0_ := Aside0.mk (below_step (by repeat (first | (with_reducible first | exact HB.out | apply below_alloc | apply pw_below_drewN | apply below_drew1) | exact HB.out)) hb); clear HB; have HB := n0_; clear n0_; (try clear hb); (try clear hb2); (try clear hk); (try clear hi)))
    go_ret3
    exact ⟨_, by first | rfl | (simp [errW_none, errW_some] <;> rfl) | (simp [*, errW_none, errW_some] <;> rfl), by first | exact Kd.R_nil _ _ _ _ _ | exact Kd.N_nil _ _ _ _ _ | exact Kd.V_nil _ _ _ _ _ | exact Kd.Q_nil _ _ _ _ _ | exact Kd.S_nil _ _ _ _ _, by repeat (first | (with_reducible first | exact HB.out | apply below_alloc | apply pw_below_drewN | apply below_drew1) | exact HB.out)⟩

end Go.Proofs.Ytbckhllkjlgbpaa.P
