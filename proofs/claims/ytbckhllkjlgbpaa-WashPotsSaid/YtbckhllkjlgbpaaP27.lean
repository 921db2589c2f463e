/- Ytbckhllkjlgbpaa: functions of the translation as Lean functions, with their contracts; written by a program of the session. -/
import Derived.Test.YtbckhllkjlgbpaaP0
import Derived.Test.YtbckhllkjlgbpaaPQ
import Derived.Test.YtbckhllkjlgbpaaP23
import Derived.Test.YtbckhllkjlgbpaaP62
import Derived.Test.YtbckhllkjlgbpaaPa
import Derived.Test.YtbckhllkjlgbpaaPb
import Derived.Test.YtbckhllkjlgbpaaPots
namespace Go.Proofs.Ytbckhllkjlgbpaa.P
open Go.RowKit Go.Proofs.YtbckhllkjlgbpaaW.PrintWords Go.Proofs.YtbckhllkjlgbpaaW.PrintLast Go.Proofs.YtbckhllkjlgbpaaW.PrintMore
attribute [local go_sem] max2_int min2_int max_two min_two max_three min_three max_four min_four   -- for this text's walks alone
set_option linter.unusedVariables false
set_option linter.unusedSimpArgs false

attribute [local go_sem high] eqA30
/-! ### verditerlaw01_washPots: function 27 -/
mutual
def verditerlaw01_washPots.j0 : Nat → List (S58) → List Int → Int → Bool → Option (Bool)
  | 0, _, _, _, _ => none
  | k + 1, x0, x1, x2, x20 => if x20 = true then ((verditerlaw01_known.f k).bind fun t102 => (some t102)) else ((verditerref01_Pots.f k x0 x1 x2).bind fun bt103 => ((wash_Pots.f k x0 x1 x2).bind fun bt107 => ((verditerref01_SameRows.f k bt107.1 bt103.1).bind fun t111 => (if t111 = true then (verditerlaw01_washPots.j1 k x0 x1 bt107.1 bt107.2 (bt107.2 != bt103.2)) else (verditerlaw01_washPots.j1 k x0 x1 bt107.1 bt107.2 true)))))
def verditerlaw01_washPots.j1 : Nat → List (S58) → List Int → List (List (S30)) → Int → Bool → Option (Bool)
  | 0, _, _, _, _, _ => none
  | k + 1, x0, x1, x9, x10, x44 => if x44 = true then (some false) else (if x10 = 0 then (if (x9.length : Int) = (wrap64 ((x1.length : Int) + 1)) then (verditerlaw01_washPots.l0 k x0 x9 0) else (some false)) else ((verditerlaw01_known.f k).bind fun t112 => (some t112)))
def verditerlaw01_washPots.l0 : Nat → List (S58) → List (List (S30)) → Int → Option (Bool)
  | 0, _, _, _ => none
  | k + 1, x0, x9, x11 => if x11 < (x0.length : Int) then (verditerlaw01_washPots.l1 k x0 x9 x11 0 0 1) else ((verditerlaw01_known.f k).bind fun t113 => (some t113))
def verditerlaw01_washPots.l1 : Nat → List (S58) → List (List (S30)) → Int → Int → Int → Int → Option (Bool)
  | 0, _, _, _, _, _, _ => none
  | k + 1, x0, x9, x11, x13, x115000, x115001 => if x13 < (x9.length : Int) then (if 0 ≤ x13 then (if ((rd_L4 x9 x13).length : Int) = (x0.length : Int) then (if 0 ≤ x11 then (if x11 < ((rd_L4 x9 x13).length : Int) then ((verditerlaw01_small.f k (([(⟨(rd_T30 (rd_L4 x9 x13) x11).f0, (rd_T30 (rd_L4 x9 x13) x11).f1⟩ : S30), (⟨x115000, x115001⟩ : S30)] : List (S30)))).bind fun t124 => (if t124 = true then ((verditerref01_Add.f k x115000 x115001 ((rd_T30 (rd_L4 x9 x13) x11).f0) ((rd_T30 (rd_L4 x9 x13) x11).f1)).bind fun bt127 => (verditerlaw01_washPots.l1 k x0 x9 x11 (wrap64 (x13 + 1)) bt127.1 bt127.2)) else (some false))) else (none)) else (none)) else (some false)) else (none)) else (if 0 ≤ x11 then (if x11 < (x0.length : Int) then ((verditerref01_Ratio.f k ((rd_T58 x0 x11).f1) 1).bind fun bt116 => (if (!(x115000 == bt116.1) || (!(x115001 == bt116.2))) = true then (some false) else (verditerlaw01_washPots.l0 k x0 x9 (wrap64 (x11 + 1))))) else (none)) else (none))
end
def verditerlaw01_washPots.f (k : Nat) (l0 : List (S58)) (l1 : List Int) (a2 : Int) : Option (Bool) := (verditerlaw01_Long.f l0).bind fun t101 => (if t101 = true then (verditerlaw01_washPots.j0 k l0 l1 a2 true) else (verditerlaw01_washPots.j0 k l0 l1 a2 (decide ((l1.length : Int) > 40))))
theorem verditerlaw01_washPots.mono_l : ∀ k, (∀ y0 y1 y2 y3, LeO (verditerlaw01_washPots.j0 k y0 y1 y2 y3) (verditerlaw01_washPots.j0 (k + 1) y0 y1 y2 y3)) ∧ (∀ y0 y1 y2 y3 y4, LeO (verditerlaw01_washPots.j1 k y0 y1 y2 y3 y4) (verditerlaw01_washPots.j1 (k + 1) y0 y1 y2 y3 y4)) ∧ (∀ y0 y1 y2, LeO (verditerlaw01_washPots.l0 k y0 y1 y2) (verditerlaw01_washPots.l0 (k + 1) y0 y1 y2)) ∧ (∀ y0 y1 y2 y3 y4 y5, LeO (verditerlaw01_washPots.l1 k y0 y1 y2 y3 y4 y5) (verditerlaw01_washPots.l1 (k + 1) y0 y1 y2 y3 y4 y5))
  | 0 => ⟨fun _ _ _ _ r h => by simp [verditerlaw01_washPots.j0] at h, fun _ _ _ _ _ r h => by simp [verditerlaw01_washPots.j1] at h, fun _ _ _ r h => by simp [verditerlaw01_washPots.l0] at h, fun _ _ _ _ _ _ r h => by simp [verditerlaw01_washPots.l1] at h⟩
  | k + 1 => by
    obtain ⟨ih0, ih1, ih2, ih3⟩ := verditerlaw01_washPots.mono_l k
    refine ⟨?_, ?_, ?_, ?_⟩
    · intro y0 y1 y2 y3
      unfold verditerlaw01_washPots.j0
      repeat' first
      | (with_reducible exact ih0 _ _ _ _)
      | (with_reducible exact ih1 _ _ _ _ _)
      | (with_reducible exact ih2 _ _ _)
      | (with_reducible exact ih3 _ _ _ _ _ _)
      | (with_reducible exact verditerlaw01_known.mono _)
      | (with_reducible exact verditerlaw01_small.mono _ _)
      | (with_reducible exact verditerref01_Add.mono _ _ _ _ _)
      | (with_reducible exact verditerref01_Pots.mono _ _ _ _)
      | (with_reducible exact verditerref01_Ratio.mono _ _ _)
      | (with_reducible exact verditerref01_SameRows.mono _ _ _)
      | (with_reducible exact wash_Pots.mono _ _ _ _)
      | (with_reducible exact LeO.refl _)
      | (with_reducible exact LeO.none _)
      | (with_reducible refine LeO.ite ?_ ?_)
      | (with_reducible refine LeO.bind ?_ (fun _ => ?_))
      | exact ih0 _ _ _ _
      | exact ih1 _ _ _ _ _
      | exact ih2 _ _ _
      | exact ih3 _ _ _ _ _ _
      | exact verditerlaw01_known.mono _
      | exact verditerlaw01_small.mono _ _
      | exact verditerref01_Add.mono _ _ _ _ _
      | exact verditerref01_Pots.mono _ _ _ _
      | exact verditerref01_Ratio.mono _ _ _
      | exact verditerref01_SameRows.mono _ _ _
      | exact wash_Pots.mono _ _ _ _
      | exact LeO.none _
      | refine LeO.ite ?_ ?_
      | refine LeO.bind ?_ (fun _ => ?_)
    · intro y0 y1 y2 y3 y4
      unfold verditerlaw01_washPots.j1
      repeat' first
      | (with_reducible exact ih0 _ _ _ _)
      | (with_reducible exact ih1 _ _ _ _ _)
      | (with_reducible exact ih2 _ _ _)
      | (with_reducible exact ih3 _ _ _ _ _ _)
      | (with_reducible exact verditerlaw01_known.mono _)
      | (with_reducible exact verditerlaw01_small.mono _ _)
      | (with_reducible exact verditerref01_Add.mono _ _ _ _ _)
      | (with_reducible exact verditerref01_Pots.mono _ _ _ _)
      | (with_reducible exact verditerref01_Ratio.mono _ _ _)
      | (with_reducible exact verditerref01_SameRows.mono _ _ _)
      | (with_reducible exact wash_Pots.mono _ _ _ _)
      | (with_reducible exact LeO.refl _)
      | (with_reducible exact LeO.none _)
      | (with_reducible refine LeO.ite ?_ ?_)
      | (with_reducible refine LeO.bind ?_ (fun _ => ?_))
      | exact ih0 _ _ _ _
      | exact ih1 _ _ _ _ _
      | exact ih2 _ _ _
      | exact ih3 _ _ _ _ _ _
      | exact verditerlaw01_known.mono _
      | exact verditerlaw01_small.mono _ _
      | exact verditerref01_Add.mono _ _ _ _ _
      | exact verditerref01_Pots.mono _ _ _ _
      | exact verditerref01_Ratio.mono _ _ _
      | exact verditerref01_SameRows.mono _ _ _
      | exact wash_Pots.mono _ _ _ _
      | exact LeO.none _
      | refine LeO.ite ?_ ?_
      | refine LeO.bind ?_ (fun _ => ?_)
    · intro y0 y1 y2
      unfold verditerlaw01_washPots.l0
      repeat' first
      | (with_reducible exact ih0 _ _ _ _)
      | (with_reducible exact ih1 _ _ _ _ _)
      | (with_reducible exact ih2 _ _ _)
      | (with_reducible exact ih3 _ _ _ _ _ _)
      | (with_reducible exact verditerlaw01_known.mono _)
      | (with_reducible exact verditerlaw01_small.mono _ _)
      | (with_reducible exact verditerref01_Add.mono _ _ _ _ _)
      | (with_reducible exact verditerref01_Pots.mono _ _ _ _)
      | (with_reducible exact verditerref01_Ratio.mono _ _ _)
      | (with_reducible exact verditerref01_SameRows.mono _ _ _)
      | (with_reducible exact wash_Pots.mono _ _ _ _)
      | (with_reducible exact LeO.refl _)
      | (with_reducible exact LeO.none _)
      | (with_reducible refine LeO.ite ?_ ?_)
      | (with_reducible refine LeO.bind ?_ (fun _ => ?_))
      | exact ih0 _ _ _ _
      | exact ih1 _ _ _ _ _
      | exact ih2 _ _ _
      | exact ih3 _ _ _ _ _ _
      | exact verditerlaw01_known.mono _
      | exact verditerlaw01_small.mono _ _
      | exact verditerref01_Add.mono _ _ _ _ _
      | exact verditerref01_Pots.mono _ _ _ _
      | exact verditerref01_Ratio.mono _ _ _
      | exact verditerref01_SameRows.mono _ _ _
      | exact wash_Pots.mono _ _ _ _
      | exact LeO.none _
      | refine LeO.ite ?_ ?_
      | refine LeO.bind ?_ (fun _ => ?_)
    · intro y0 y1 y2 y3 y4 y5
      unfold verditerlaw01_washPots.l1
      repeat' first
      | (with_reducible exact ih0 _ _ _ _)
      | (with_reducible exact ih1 _ _ _ _ _)
      | (with_reducible exact ih2 _ _ _)
      | (with_reducible exact ih3 _ _ _ _ _ _)
      | (with_reducible exact verditerlaw01_known.mono _)
      | (with_reducible exact verditerlaw01_small.mono _ _)
      | (with_reducible exact verditerref01_Add.mono _ _ _ _ _)
      | (with_reducible exact verditerref01_Pots.mono _ _ _ _)
      | (with_reducible exact verditerref01_Ratio.mono _ _ _)
      | (with_reducible exact verditerref01_SameRows.mono _ _ _)
      | (with_reducible exact wash_Pots.mono _ _ _ _)
      | (with_reducible exact LeO.refl _)
      | (with_reducible exact LeO.none _)
      | (with_reducible refine LeO.ite ?_ ?_)
      | (with_reducible refine LeO.bind ?_ (fun _ => ?_))
      | exact ih0 _ _ _ _
      | exact ih1 _ _ _ _ _
      | exact ih2 _ _ _
      | exact ih3 _ _ _ _ _ _
      | exact verditerlaw01_known.mono _
      | exact verditerlaw01_small.mono _ _
      | exact verditerref01_Add.mono _ _ _ _ _
      | exact verditerref01_Pots.mono _ _ _ _
      | exact verditerref01_Ratio.mono _ _ _
      | exact verditerref01_SameRows.mono _ _ _
      | exact wash_Pots.mono _ _ _ _
      | exact LeO.none _
      | refine LeO.ite ?_ ?_
      | refine LeO.bind ?_ (fun _ => ?_)
theorem verditerlaw01_washPots.mono : ∀ a0 a1 a2 k, LeO (verditerlaw01_washPots.f k a0 a1 a2) (verditerlaw01_washPots.f (k + 1) a0 a1 a2) := by
  intro a0 a1 a2 k
  obtain ⟨ih0, ih1, ih2, ih3⟩ := verditerlaw01_washPots.mono_l k
  unfold verditerlaw01_washPots.f
  repeat' first
      | (with_reducible exact ih0 _ _ _ _)
      | (with_reducible exact ih1 _ _ _ _ _)
      | (with_reducible exact ih2 _ _ _)
      | (with_reducible exact ih3 _ _ _ _ _ _)
      | (with_reducible exact verditerlaw01_known.mono _)
      | (with_reducible exact verditerlaw01_small.mono _ _)
      | (with_reducible exact verditerref01_Add.mono _ _ _ _ _)
      | (with_reducible exact verditerref01_Pots.mono _ _ _ _)
      | (with_reducible exact verditerref01_Ratio.mono _ _ _)
      | (with_reducible exact verditerref01_SameRows.mono _ _ _)
      | (with_reducible exact wash_Pots.mono _ _ _ _)
      | (with_reducible exact LeO.refl _)
      | (with_reducible exact LeO.none _)
      | (with_reducible refine LeO.ite ?_ ?_)
      | (with_reducible refine LeO.bind ?_ (fun _ => ?_))
      | exact ih0 _ _ _ _
      | exact ih1 _ _ _ _ _
      | exact ih2 _ _ _
      | exact ih3 _ _ _ _ _ _
      | exact verditerlaw01_known.mono _
      | exact verditerlaw01_small.mono _ _
      | exact verditerref01_Add.mono _ _ _ _ _
      | exact verditerref01_Pots.mono _ _ _ _
      | exact verditerref01_Ratio.mono _ _ _
      | exact verditerref01_SameRows.mono _ _ _
      | exact wash_Pots.mono _ _ _ _
      | exact LeO.none _
      | refine LeO.ite ?_ ?_
      | refine LeO.bind ?_ (fun _ => ?_)
def verditerlaw01_washPots.T18 : Bool × List (List Nat × List Nat) := (true, [([], []), ([], []), ([0, 1], [0, 1]), ([2], [2]), ([3], [3]), ([], []), ([5], [5]), ([4, 6], [4, 6]), ([7], [7]), ([8], [8]), ([8], [8]), ([9, 10, 8], [8, 9, 10]), ([11, 8], [8, 11]), ([8], [8]), ([12, 13, 8], [8, 12, 13]), ([14, 8], [8, 14]), ([8], [8]), ([15, 16, 8], [8, 15, 16]), ([17, 8, 8], [8, 17]), ([18, 8], [8, 18]), ([8, 19], [8, 19])])
def verditerlaw01_washPots.B18 : List Nat := [0, 0, 3, 7, 15, 0, 32, 127, 255, 511, 511, 2047, 4095, 511, 16383, 32767, 511, 131071, 262143, 524287, 1048575]
theorem verditerlaw01_washPots.tab18 : rtab .any (opsOf Try.f27 18) = verditerlaw01_washPots.T18 := by kernel_rfl
theorem verditerlaw01_washPots.bits18 : waitsOk verditerlaw01_washPots.T18.2 verditerlaw01_washPots.B18 = true := by kernel_rfl
def verditerlaw01_washPots.T20 : Bool × List (List Nat × List Nat) := (true, [([], []), ([], []), ([], []), ([1, 2], [1, 2]), ([3], [3]), ([], []), ([4, 5], [4, 5]), ([6], [6]), ([0, 7], [0, 7]), ([8, 8, 0, 1, 2, 3, 4, 5, 6, 7, 8], [8])])
def verditerlaw01_washPots.B20 : List Nat := [0, 0, 0, 6, 14, 0, 62, 126, 255, 511]
theorem verditerlaw01_washPots.tab20 : rtab .any (opsOf Try.f27 20) = verditerlaw01_washPots.T20 := by kernel_rfl
theorem verditerlaw01_washPots.bits20 : waitsOk verditerlaw01_washPots.T20.2 verditerlaw01_washPots.B20 = true := by kernel_rfl
def verditerlaw01_washPots.T21 : Bool × List (List Nat × List Nat) := (true, [([], []), ([], []), ([], []), ([1, 2], [1, 2]), ([3], [3]), ([4], [4]), ([5], [5]), ([0, 6], [0, 6])])
def verditerlaw01_washPots.B21 : List Nat := [0, 0, 0, 6, 14, 30, 62, 127]
theorem verditerlaw01_washPots.tab21 : rtab .any (opsOf Try.f27 21) = verditerlaw01_washPots.T21 := by kernel_rfl
theorem verditerlaw01_washPots.bits21 : waitsOk verditerlaw01_washPots.T21.2 verditerlaw01_washPots.B21 = true := by kernel_rfl
set_option maxHeartbeats 8000000 in
set_option maxRecDepth 100000 in
theorem verditerlaw01_washPots.calls (k : Nat) (A0 : Option Addr) (c0 : Nat) (l0 : List (S58)) (A1 : Option Addr) (c1 : Nat) (l1 : List Int) (a2 : Int) (r : Bool) (w : World) (hr0 : Kd.C k58 w A0 l0.length l0) (hc0 : l0.length ≤ c0) (hr1 : Kd.C (Kd.int .i64) w A1 l1.length l1) (hc1 : l1.length ≤ c1) (h : verditerlaw01_washPots.f k l0 l1 a2 = some r) :
    Calls Try.prog 27 #[.slice A0 l0.length c0, .slice A1 l1.length c1, .int .i64 a2] w fun e w' => e = .returned (.bool r) ∧ Below w.heap.size w w' := by
  have hu30 := Try.underlying30
  have HR0 := Aside0.mk hr0
  have HC0 := Aside0.mk hc0
  clear hr0 hc0
  have HR1 := Aside0.mk hr1
  have HC1 := Aside0.mk hc1
  clear hr1 hc1
  have HB := Aside0.mk (Below.refl w.heap.size w)
  have H : ((verditerlaw01_Long.f l0).bind fun t101 => (if t101 = true then (verditerlaw01_washPots.j0 k l0 l1 a2 true) else (verditerlaw01_washPots.j0 k l0 l1 a2 (decide ((l1.length : Int) > 40))))) = some r := h
  clear h
  have HC4 := Aside0.mk H
  clear H
  go_enter Try.func27, Try.ntmps27
  go_upto_region 1 with (fail)
  go_cut [20] (fun v20 wc => ∃ (kq : Nat) (x20_3 : Bool), v20 = .bool x20_3 ∧ Aside0 (verditerlaw01_washPots.j0 kq l0 l1 a2 x20_3 = some r) ∧ Aside0 (kq ≤ k) ∧ Aside0 (Below w.heap.size w wc))
  case first =>
    have H := HC4.out
    clear HC4
    replace H := Option.bind_eq_some_iff.mp H
    obtain ⟨t101, A50, H⟩ := H
    replace H : (if t101 = true then (verditerlaw01_washPots.j0 k l0 l1 a2 true) else (verditerlaw01_washPots.j0 k l0 l1 a2 (decide ((l1.length : Int) > 40)))) = some r := H
    have A5 := Aside0.mk A50
    clear A50
    by_cases c6 : t101 = true
    · subst c6
      have H1 : (verditerlaw01_washPots.j0 k l0 l1 a2 true) = some r := by rw [if_pos rfl] at H; exact H
      clear H
      have H := H1
      clear H1
      have H' := Aside0.mk H
      clear H
      go_wp2_with (first | ((with_reducible refine gate_callee (f := 39) rfl ?_); refine goesL_ (some 15) rfl rfl Try.func39 (by kernel_rfl) rfl #[.slice A0 l0.length c0] rfl (by (try simp only [List.map_toArray, List.map_cons, List.map_nil]); first | done | rfl | (simp only [List.length_drop, List.length_take]; rfl)) ?_; (with_reducible refine (verditerlaw01_Long.calls _ _ l0 true _ ?side1 ?side2 A5.out).mono ?_); (case side1 => repeat (first | exact (Kd.C_below HR0.out HB.out) | (with_reducible refine Kd.C_alloc ?_ _) | (with_reducible refine Kd.C_drewN ?_ _) | (with_reducible refine Kd.C_drew ?_))); (case side2 => exact HC0.out); rintro e w' ⟨rfl, ⟨nd, rfl⟩⟩; refine ⟨_, rfl, ?_⟩))
      go_meet
      case rel => exact ⟨_, (true), (by first | rfl | (simp; done) | (simp [*]; done)), H', ⟨by first | omega | exact Nat.le_refl _⟩, ⟨by repeat (first | (with_reducible first | exact HB.out | apply below_alloc | apply pw_below_drewN | apply below_drew1) | exact HB.out)⟩⟩
    · replace c6 := Bool.eq_false_iff.mpr c6
      subst c6
      have H1 : (verditerlaw01_washPots.j0 k l0 l1 a2 (decide ((l1.length : Int) > 40))) = some r := by rw [if_neg (show ¬ (false = true) by decide)] at H; exact H
      clear H
      have H := H1
      clear H1
      have H' := Aside0.mk H
      clear H
      go_wp2_with (first | ((with_reducible refine gate_callee (f := 39) rfl ?_); refine goesL_ (some 15) rfl rfl Try.func39 (by kernel_rfl) rfl #[.slice A0 l0.length c0] rfl (by (try simp only [List.map_toArray, List.map_cons, List.map_nil]); first | done | rfl | (simp only [List.length_drop, List.length_take]; rfl)) ?_; (with_reducible refine (verditerlaw01_Long.calls _ _ l0 false _ ?side1 ?side2 A5.out).mono ?_); (case side1 => repeat (first | exact (Kd.C_below HR0.out HB.out) | (with_reducible refine Kd.C_alloc ?_ _) | (with_reducible refine Kd.C_drewN ?_ _) | (with_reducible refine Kd.C_drew ?_))); (case side2 => exact HC0.out); rintro e w' ⟨rfl, ⟨nd, rfl⟩⟩; refine ⟨_, rfl, ?_⟩))
      go_meet
      case rel => exact ⟨_, (decide ((l1.length : Int) > 40)), (by first | rfl | (simp; done) | (simp [*]; done)), H', ⟨by first | omega | exact Nat.le_refl _⟩, ⟨by repeat (first | (with_reducible first | exact HB.out | apply below_alloc | apply pw_below_drewN | apply below_drew1) | exact HB.out)⟩⟩
  case rest =>
    clear HC4
    try clear c1
    try clear c2
    try clear p2
    try clear c3
    try clear c6
    obtain ⟨kq, x20_3, rfl, HA, HJ3, HB⟩ := hcut
    cases kq with
    | zero => exact absurd HA.out (by simp [verditerlaw01_washPots.j0])
    | succ kj3 =>
      have H := HA.out
      clear HA
      simp only [verditerlaw01_washPots.j0] at H
      by_cases c7 : x20_3 = true
      · subst c7
        have H1 : ((verditerlaw01_known.f kj3).bind fun t102 => (some t102)) = some r := by rw [if_pos rfl] at H; exact H
        clear H
        have H := H1
        clear H1
        replace H := Option.bind_eq_some_iff.mp H
        obtain ⟨t102, A80, H⟩ := H
        replace H : (some t102) = some r := H
        have A8 := Aside0.mk A80
        clear A80
        obtain rfl := Option.some.inj H
        go_wp2_with (first | ((with_reducible refine gate_callee (f := 23) rfl ?_); refine goesL_ (some 21) rfl rfl Try.func23 (by kernel_rfl) rfl #[] rfl (by (try simp only [List.map_toArray, List.map_cons, List.map_nil]); first | done | rfl | (simp only [List.length_drop, List.length_take]; rfl)) ?_; (with_reducible refine (verditerlaw01_known.calls kj3  t102 _ A8.out).mono ?_); rintro e w9 ⟨rfl, hb⟩; refine ⟨_, rfl, ?_⟩; have n0_ := Aside0.mk (below_step (by repeat (first | (with_reducible first | exact HB.out | apply below_alloc | apply pw_below_drewN | apply below_drew1) | exact HB.out)) hb); clear HB; have HB := n0_; clear n0_; (try clear hb); (try clear hb2); (try clear hk); (try clear hi)))
        go_ret
        exact ⟨by first | rfl | (simp [errW_none, errW_some] <;> rfl) | (simp [*, errW_none, errW_some] <;> rfl), by repeat (first | (with_reducible first | exact HB.out | apply below_alloc | apply pw_below_drewN | apply below_drew1) | exact HB.out)⟩
      · replace c7 := Bool.eq_false_iff.mpr c7
        subst c7
        have H1 : ((verditerref01_Pots.f kj3 l0 l1 a2).bind fun bt103 => ((wash_Pots.f kj3 l0 l1 a2).bind fun bt107 => ((verditerref01_SameRows.f kj3 bt107.1 bt103.1).bind fun t111 => (if t111 = true then (verditerlaw01_washPots.j1 kj3 l0 l1 bt107.1 bt107.2 (bt107.2 != bt103.2)) else (verditerlaw01_washPots.j1 kj3 l0 l1 bt107.1 bt107.2 true))))) = some r := by rw [if_neg (show ¬ (false = true) by decide)] at H; exact H
        clear H
        have H := H1
        clear H1
        replace H := Option.bind_eq_some_iff.mp H
        obtain ⟨⟨t103, t104⟩, A100, H⟩ := H
        replace H : ((wash_Pots.f kj3 l0 l1 a2).bind fun bt107 => ((verditerref01_SameRows.f kj3 bt107.1 t103).bind fun t111 => (if t111 = true then (verditerlaw01_washPots.j1 kj3 l0 l1 bt107.1 bt107.2 (bt107.2 != t104)) else (verditerlaw01_washPots.j1 kj3 l0 l1 bt107.1 bt107.2 true)))) = some r := H
        have A10 := Aside0.mk A100
        clear A100
        replace H := Option.bind_eq_some_iff.mp H
        obtain ⟨⟨t107, t108⟩, A110, H⟩ := H
        replace H : ((verditerref01_SameRows.f kj3 t107 t103).bind fun t111 => (if t111 = true then (verditerlaw01_washPots.j1 kj3 l0 l1 t107 t108 (t108 != t104)) else (verditerlaw01_washPots.j1 kj3 l0 l1 t107 t108 true))) = some r := H
        have A11 := Aside0.mk A110
        clear A110
        have HC12 := Aside0.mk H
        clear H
        go_upto_region 5 with (first | ((with_reducible refine gate_callee (f := 62) rfl ?_); refine goesL_ (some 26) rfl rfl Try.func62 (by kernel_rfl) rfl #[.slice A0 l0.length c0, .slice A1 l1.length c1, .int .i64 a2] rfl (by (try simp only [List.map_toArray, List.map_cons, List.map_nil]); first | done | rfl | (simp only [List.length_drop, List.length_take]; rfl)) ?_; (with_reducible refine (verditerref01_Pots.calls kj3 _ _ l0 _ _ l1 a2 t103 t104 _ ?side1 ?side2 ?side3 ?side4 A10.out).mono ?_); (case side1 => repeat (first | exact (Kd.C_below HR0.out HB.out) | (with_reducible refine Kd.C_alloc ?_ _) | (with_reducible refine Kd.C_drewN ?_ _) | (with_reducible refine Kd.C_drew ?_))); (case side2 => exact HC0.out); (case side3 => repeat (first | exact (Kd.C_below HR1.out HB.out) | (with_reducible refine Kd.C_alloc ?_ _) | (with_reducible refine Kd.C_drewN ?_ _) | (with_reducible refine Kd.C_drew ?_))); (case side4 => exact HC1.out); rintro e w13 ⟨v105, rfl, ho0, hb⟩; refine ⟨_, rfl, ?_⟩; have n0_ := Aside0.mk (Kd.S_lower ho0 (below_size (by repeat (first | (with_reducible first | exact HB.out | apply below_alloc | apply pw_below_drewN | apply below_drew1) | exact HB.out)))); have n1_ := Aside0.mk (below_step (by repeat (first | (with_reducible first | exact HB.out | apply below_alloc | apply pw_below_drewN | apply below_drew1) | exact HB.out)) hb); clear HB; have HO106 := n0_; have HB := n1_; clear n0_ n1_; (try clear hb); (try clear hb2); (try clear hk); (try clear hi); (try clear ho0)) | ((with_reducible refine gate_callee (f := 63) rfl ?_); refine goesL_ (some 33) rfl rfl Try.func63 (by kernel_rfl) rfl #[.slice A0 l0.length c0, .slice A1 l1.length c1, .int .i64 a2] rfl (by (try simp only [List.map_toArray, List.map_cons, List.map_nil]); first | done | rfl | (simp only [List.length_drop, List.length_take]; rfl)) ?_; (with_reducible refine (wash_Pots.calls kj3 _ _ l0 _ _ l1 a2 t107 t108 _ ?side1 ?side2 ?side3 ?side4 A11.out).mono ?_); (case side1 => repeat (first | exact (Kd.C_below HR0.out HB.out) | (with_reducible refine Kd.C_alloc ?_ _) | (with_reducible refine Kd.C_drewN ?_ _) | (with_reducible refine Kd.C_drew ?_))); (case side2 => exact HC0.out); (case side3 => repeat (first | exact (Kd.C_below HR1.out HB.out) | (with_reducible refine Kd.C_alloc ?_ _) | (with_reducible refine Kd.C_drewN ?_ _) | (with_reducible refine Kd.C_drew ?_))); (case side4 => exact HC1.out); rintro e w14 ⟨v109, rfl, ho0, hb⟩; refine ⟨_, rfl, ?_⟩; have n0_ := Aside0.mk (Kd.S_elder' (by (with_reducible repeat (first | apply Kd.S_alloc | apply Kd.S_drewN | apply Kd.S_drew)); exact HO106.out) (Kd.S_base ho0) hb); have n1_ := Aside0.mk (Kd.S_lower (Kd.S_new' ho0 (Kd.S_lt (by (with_reducible repeat (first | apply Kd.S_alloc | apply Kd.S_drewN | apply Kd.S_drew)); exact HO106.out))) (below_size (by repeat (first | (with_reducible first | exact HB.out | apply below_alloc | apply pw_below_drewN | apply below_drew1) | exact HB.out)))); have n2_ := Aside0.mk (below_step (by repeat (first | (with_reducible first | exact HB.out | apply below_alloc | apply pw_below_drewN | apply below_drew1) | exact HB.out)) hb); clear HO106; clear HB; have HO106 := n0_; have HO110 := n1_; have HB := n2_; clear n0_ n1_ n2_; (try clear hb); (try clear hb2); (try clear hk); (try clear hi); (try clear ho0)))
        (try simp only [Act.put, List.setIfInBounds_toArray, List.set_cons_zero, List.set_cons_succ])
        go_cut [44] (fun v44 wc => ∃ (kq : Nat) (x44_11 : Bool), v44 = .bool x44_11 ∧ Aside0 (verditerlaw01_washPots.j1 kq l0 l1 t107 t108 x44_11 = some r) ∧ Aside0 (kq ≤ kj3) ∧ Aside0 (Kd.S (Kd.slice 30 k30) 50 wc w.heap.size (fun _ => True) v109 t107) ∧ Aside0 (Below w.heap.size w wc))
        case first =>
          have H := HC12.out
          clear HC12
          replace H := Option.bind_eq_some_iff.mp H
          obtain ⟨t111, A150, H⟩ := H
          replace H : (if t111 = true then (verditerlaw01_washPots.j1 kj3 l0 l1 t107 t108 (t108 != t104)) else (verditerlaw01_washPots.j1 kj3 l0 l1 t107 t108 true)) = some r := H
          have A15 := Aside0.mk A150
          clear A150
          by_cases c16 : t111 = true
          · subst c16
            have H1 : (verditerlaw01_washPots.j1 kj3 l0 l1 t107 t108 (t108 != t104)) = some r := by rw [if_pos rfl] at H; exact H
            clear H
            have H := H1
            clear H1
            have H' := Aside0.mk H
            clear H
            obtain ⟨Ao17, co17, eo17⟩ := Kd.S_slice HO110.out
            subst eo17
            obtain ⟨Ao18, co18, eo18⟩ := Kd.S_slice HO106.out
            subst eo18
            go_wp2_with (first | ((with_reducible refine gate_callee (f := 64) rfl ?_); refine goesL_ (some 38) rfl rfl Try.func64 (by kernel_rfl) rfl #[.slice Ao17 t107.length co17, .slice Ao18 t103.length co18] rfl (by (try simp only [List.map_toArray, List.map_cons, List.map_nil]); first | done | rfl | (simp only [List.length_drop, List.length_take]; rfl)) ?_; (with_reducible refine (verditerref01_SameRows.calls kj3 _ _ t107 _ _ t103 true _ ?side1 ?side2 ?side3 ?side4 A15.out).mono ?_); (case side1 => repeat (first | exact (Kd.S_reads' HO110.out).2.2 | (with_reducible refine Kd.C_alloc ?_ _) | (with_reducible refine Kd.C_drewN ?_ _) | (with_reducible refine Kd.C_drew ?_))); (case side2 => exact (Kd.S_reads' HO110.out).2.1); (case side3 => repeat (first | exact (Kd.S_reads' HO106.out).2.2 | (with_reducible refine Kd.C_alloc ?_ _) | (with_reducible refine Kd.C_drewN ?_ _) | (with_reducible refine Kd.C_drew ?_))); (case side4 => exact (Kd.S_reads' HO106.out).2.1); rintro e w' ⟨rfl, ⟨nd, rfl⟩⟩; refine ⟨_, rfl, ?_⟩))
            go_meet
            case rel => exact ⟨_, ((t108 != t104)), (by first | rfl | (simp; done) | (simp [*]; done)), H', ⟨by have := HJ3.out; first | omega | exact Nat.le_refl _⟩, ⟨by (with_reducible repeat (first | apply Kd.S_alloc | apply Kd.S_drewN | apply Kd.S_drew)); exact Kd.S_mono HO110.out (fun _ hk => trivial)⟩, ⟨by repeat (first | (with_reducible first | exact HB.out | apply below_alloc | apply pw_below_drewN | apply below_drew1) | exact HB.out)⟩⟩
          · replace c16 := Bool.eq_false_iff.mpr c16
            subst c16
            have H1 : (verditerlaw01_washPots.j1 kj3 l0 l1 t107 t108 true) = some r := by rw [if_neg (show ¬ (false = true) by decide)] at H; exact H
            clear H
            have H := H1
            clear H1
            have H' := Aside0.mk H
            clear H
            obtain ⟨Ao19, co19, eo19⟩ := Kd.S_slice HO110.out
            subst eo19
            obtain ⟨Ao20, co20, eo20⟩ := Kd.S_slice HO106.out
            subst eo20
            go_wp2_with (first | ((with_reducible refine gate_callee (f := 64) rfl ?_); refine goesL_ (some 38) rfl rfl Try.func64 (by kernel_rfl) rfl #[.slice Ao19 t107.length co19, .slice Ao20 t103.length co20] rfl (by (try simp only [List.map_toArray, List.map_cons, List.map_nil]); first | done | rfl | (simp only [List.length_drop, List.length_take]; rfl)) ?_; (with_reducible refine (verditerref01_SameRows.calls kj3 _ _ t107 _ _ t103 false _ ?side1 ?side2 ?side3 ?side4 A15.out).mono ?_); (case side1 => repeat (first | exact (Kd.S_reads' HO110.out).2.2 | (with_reducible refine Kd.C_alloc ?_ _) | (with_reducible refine Kd.C_drewN ?_ _) | (with_reducible refine Kd.C_drew ?_))); (case side2 => exact (Kd.S_reads' HO110.out).2.1); (case side3 => repeat (first | exact (Kd.S_reads' HO106.out).2.2 | (with_reducible refine Kd.C_alloc ?_ _) | (with_reducible refine Kd.C_drewN ?_ _) | (with_reducible refine Kd.C_drew ?_))); (case side4 => exact (Kd.S_reads' HO106.out).2.1); rintro e w' ⟨rfl, ⟨nd, rfl⟩⟩; refine ⟨_, rfl, ?_⟩))
            go_meet
            case rel => exact ⟨_, (true), (by first | rfl | (simp; done) | (simp [*]; done)), H', ⟨by have := HJ3.out; first | omega | exact Nat.le_refl _⟩, ⟨by (with_reducible repeat (first | apply Kd.S_alloc | apply Kd.S_drewN | apply Kd.S_drew)); exact Kd.S_mono HO110.out (fun _ hk => trivial)⟩, ⟨by repeat (first | (with_reducible first | exact HB.out | apply below_alloc | apply pw_below_drewN | apply below_drew1) | exact HB.out)⟩⟩
        case rest =>
          clear HC12
          try clear c1
          try clear c2
          try clear p2
          try clear c3
          try clear c6
          try clear c7
          try clear c16
          try clear p2
          obtain ⟨kq, x44_11, rfl, HA, HJ11, HO_9, HB⟩ := hcut
          cases kq with
          | zero => exact absurd HA.out (by simp [verditerlaw01_washPots.j1])
          | succ kj11 =>
            have H := HA.out
            clear HA
            simp only [verditerlaw01_washPots.j1] at H
            by_cases c21 : x44_11 = true
            · subst c21
              have H1 : (some false) = some r := by rw [if_pos rfl] at H; exact H
              clear H
              have H := H1
              clear H1
              obtain rfl := Option.some.inj H
              go_wp2
              go_ret
              exact ⟨by first | rfl | (simp [errW_none, errW_some] <;> rfl) | (simp [*, errW_none, errW_some] <;> rfl), by repeat (first | (with_reducible first | exact HB.out | apply below_alloc | apply pw_below_drewN | apply below_drew1) | exact HB.out)⟩
            · replace c21 := Bool.eq_false_iff.mpr c21
              subst c21
              have H1 : (if t108 = 0 then (if (t107.length : Int) = (wrap64 ((l1.length : Int) + 1)) then (verditerlaw01_washPots.l0 kj11 l0 t107 0) else (some false)) else ((verditerlaw01_known.f kj11).bind fun t112 => (some t112))) = some r := by rw [if_neg (show ¬ (false = true) by decide)] at H; exact H
              clear H
              have H := H1
              clear H1
              by_cases c22 : t108 = 0
              · rw [if_pos c22] at H
                have c22b0 : (t108 == 0) = true := beq_iff_eq.mpr c22
                have c22b1 : (t108 != 0) = false := bne_eq_false_iff_eq.mpr c22
                clear c22
                by_cases c23 : (t107.length : Int) = (wrap64 ((l1.length : Int) + 1))
                · rw [if_pos c23] at H
                  have c23b0 : ((t107.length : Int) == (wrap64 ((l1.length : Int) + 1))) = true := beq_iff_eq.mpr c23
                  have c23b1 : ((t107.length : Int) != (wrap64 ((l1.length : Int) + 1))) = false := bne_eq_false_iff_eq.mpr c23
                  clear c23
                  have H' := Aside0.mk H
                  clear H
                  obtain ⟨Ao24, co24, eo24⟩ := Kd.S_slice HO_9.out
                  subst eo24
                  go_wp2
                  go_loopg [11] kj11 (fun kq v11 w' => ∃ (x11_3 : Int), v11 = .int .i64 x11_3 ∧ Aside0 (verditerlaw01_washPots.l0 kq l0 t107 x11_3 = some r) ∧ Aside0 (kq ≤ kj11) ∧ Aside0 (Kd.S (Kd.slice 30 k30) 50 w' w.heap.size (fun _ => True) (.slice Ao24 t107.length co24) t107) ∧ Aside0 (Below w.heap.size w w'))
                  case atStart => exact ⟨(0), (by first | rfl | (simp; done) | (simp [*]; done)), H', ⟨Nat.le_refl _⟩, ⟨by (with_reducible repeat (first | apply Kd.S_alloc | apply Kd.S_drewN | apply Kd.S_drew)); exact HO_9.out⟩, ⟨by repeat (first | (with_reducible first | exact HB.out | apply below_alloc | apply pw_below_drewN | apply below_drew1) | exact HB.out)⟩⟩
                  case round =>
                    clear H'
                    try clear c1
                    try clear c2
                    try clear p2
                    try clear c3
                    try clear c6
                    try clear p6
                    try clear c7
                    try clear c16
                    try clear c21
                    try clear c22
                    try clear c22b0
                    try clear c22b1
                    try clear c23
                    try clear c23b0
                    try clear c23b1
                    try clear p2
                    obtain ⟨x11_3, rfl, HA, HK3, HO_9, HB⟩ := hrel
                    cases gk with
                    | zero => exact absurd HA.out (by simp [verditerlaw01_washPots.l0])
                    | succ k3 =>
                      have H := HA.out
                      clear HA
                      simp only [verditerlaw01_washPots.l0] at H
                      by_cases c25 : x11_3 < (l0.length : Int)
                      · rw [if_pos c25] at H
                        have c25b0 : decide (x11_3 < (l0.length : Int)) = true := decide_eq_true c25
                        clear c25
                        have H' := Aside0.mk H
                        clear H
                        go_wp2_with (first | ((with_reducible refine gate_dst (N := 12) rfl ?_); (try (refine gate_guard (by rfl) ?_; dsimp only)); refine box_event ?hg (N := 12) ?hd (cs := #[.int .i64 0, .int .i64 0]) (t := 30) ?hr ?_; (case hd => rfl); (case hg => rfl); (case hr => first | (go_simp; done) | (go_simp; rfl)); intro gb114 hg w26 hbox hb; have n0_ := Aside0.mk (Kd.S_below (Kd.S_elderB (by (with_reducible repeat (first | apply Kd.S_alloc | apply Kd.S_drewN | apply Kd.S_drew)); exact HO_9.out) gb114 (Nat.le_of_eq hg.symm)) hb); have n1_ := Aside0.mk (below_step (by repeat (first | (with_reducible first | exact HB.out | apply below_alloc | apply pw_below_drewN | apply below_drew1) | exact HB.out)) hb); have n2_ := Aside0.mk (hbox); have n3_ := Aside0.mk ((by rw [hg]; exact (below_size (by repeat (first | (with_reducible first | exact HB.out | apply below_alloc | apply pw_below_drewN | apply below_drew1) | exact HB.out))) : w.heap.size ≤ gb114)); have n4_ := Aside0.mk ((by rw [hg]; exact (below_size (by repeat (first | (with_reducible first | exact HB.out | apply below_alloc | apply pw_below_drewN | apply below_drew1) | exact HB.out))) : w.heap.size ≤ gb114)); clear HO_9; clear HB; have HO_9 := n0_; have HB := n1_; have BK114 := n2_; have GW114 := n3_; have GE114 := n4_; clear n0_ n1_ n2_ n3_ n4_; clear hb hbox hg; have hcz27_0 : w26.cell? ⟨gb114, 0, none⟩ = some (.int .i64 0) := (blk_cell BK114.out 0).trans rfl; have hcz27_1 : w26.cell? ⟨gb114, 1, none⟩ = some (.int .i64 0) := (blk_cell BK114.out 1).trans rfl; have hfz27_0 := blk_frozen BK114.out 0; have hfz27_1 := blk_frozen BK114.out 1))
                        go_loopg [13] k3 (fun kq v13 w' => ∃ (x13_4 : Int) (x115000_4 : Int) (x115001_4 : Int), v13 = .int .i64 x13_4 ∧ Aside0 (verditerlaw01_washPots.l1 kq l0 t107 x11_3 x13_4 x115000_4 x115001_4 = some r) ∧ Aside0 (kq ≤ k3) ∧ Aside0 (Kd.S (Kd.slice 30 k30) 50 w' w.heap.size (fun k_ => k_ ≠ gb114) (.slice Ao24 t107.length co24) t107) ∧ Aside0 (w'.heap[gb114]? = some (.cells #[.int .i64 x115000_4, .int .i64 x115001_4] 30 (0, 0))) ∧ Aside0 (Below w.heap.size w w'))
                        case atStart => exact ⟨(0), (0), (1), (by first | rfl | (simp; done) | (simp [*]; done)), H', ⟨Nat.le_refl _⟩, ⟨by (with_reducible repeat (first | apply Kd.S_alloc | apply Kd.S_drewN | apply Kd.S_drew)); exact Kd.S_mono (Kd.S_far (p := ⟨gb114, 1, none⟩) (Kd.S_far (p := ⟨gb114, 0, none⟩) (Kd.S_mono HO_9.out (fun k_ hk => (⟨hk, hk.2⟩ : _ ∧ k_ ≠ gb114))) (fun _ hk => hk.2) (.int .i64 0)) (fun _ hk => hk.2) (.int .i64 1)) (fun _ hk => hk.1.2)⟩, ⟨by (with_reducible repeat (first | refine blk_drewN ?_ _ | refine blk_drew ?_ | refine blk_alloc ?_ _)); refine blk_put (cs := #[.int .i64 0, .int .i64 0]) ?_ 1 _ rfl; (with_reducible repeat (first | refine blk_drewN ?_ _ | refine blk_drew ?_ | refine blk_alloc ?_ _)); refine blk_put (cs := #[.int .i64 0, .int .i64 0]) ?_ 0 _ rfl; (with_reducible repeat (first | refine blk_drewN ?_ _ | refine blk_drew ?_ | refine blk_alloc ?_ _)); exact BK114.out⟩, ⟨by repeat (first | (with_reducible first | exact HB.out | apply below_alloc | apply pw_below_drewN | apply below_drew1 | refine below_set ?_ GE114.out) | exact HB.out)⟩⟩
                        case round =>
                          clear H'
                          try clear c1
                          try clear c2
                          try clear p2
                          try clear c3
                          try clear c6
                          try clear p6
                          try clear c7
                          try clear c16
                          try clear c21
                          try clear c22
                          try clear c22b0
                          try clear c22b1
                          try clear c23
                          try clear c23b0
                          try clear c23b1
                          try clear c25
                          try clear c25b0
                          try clear c27
                          try clear hcz27_0
                          try clear hcz27_1
                          try clear hfz27_0
                          try clear hfz27_1
                          try clear p2
                          try clear p6
                          obtain ⟨x13_4, x115000_4, x115001_4, rfl, HA, HK4, HO_9, BK114, HB⟩ := hrel
                          cases gk with
                          | zero => exact absurd HA.out (by simp [verditerlaw01_washPots.l1])
                          | succ k4 =>
                            have H := HA.out
                            clear HA
                            simp only [verditerlaw01_washPots.l1] at H
                            by_cases c28 : x13_4 < (t107.length : Int)
                            · rw [if_pos c28] at H
                              have c28b0 : decide (x13_4 < (t107.length : Int)) = true := decide_eq_true c28
                              clear c28
                              by_cases c29 : 0 ≤ x13_4
                              · rw [if_pos c29] at H
                                have c29b0 : decide (0 ≤ x13_4) = true := decide_eq_true c29
                                clear c29
                                by_cases c30 : ((rd_L4 t107 x13_4).length : Int) = (l0.length : Int)
                                · rw [if_pos c30] at H
                                  have c30b0 : (((rd_L4 t107 x13_4).length : Int) == (l0.length : Int)) = true := beq_iff_eq.mpr c30
                                  have c30b1 : (((rd_L4 t107 x13_4).length : Int) != (l0.length : Int)) = false := bne_eq_false_iff_eq.mpr c30
                                  have c30b2 : ((rd_L4 t107 x13_4).length == l0.length) = true := by first | simpa using c30 | (simp at c30 ⊢; omega)
                                  clear c30
                                  by_cases c31 : 0 ≤ x11_3
                                  · rw [if_pos c31] at H
                                    have c31b0 : decide (0 ≤ x11_3) = true := decide_eq_true c31
                                    clear c31
                                    by_cases c32 : x11_3 < ((rd_L4 t107 x13_4).length : Int)
                                    · rw [if_pos c32] at H
                                      have c32b0 : decide (x11_3 < ((rd_L4 t107 x13_4).length : Int)) = true := decide_eq_true c32
                                      clear c32
                                      obtain ⟨y121, hy121⟩ : ∃ y_ : List (S30), y_ = (([(⟨(rd_T30 (rd_L4 t107 x13_4) x11_3).f0, (rd_T30 (rd_L4 t107 x13_4) x11_3).f1⟩ : S30), (⟨x115000_4, x115001_4⟩ : S30)] : List (S30))) := ⟨_, rfl⟩
                                      replace H : ((verditerlaw01_small.f k4 y121).bind fun t124 => (if t124 = true then ((verditerref01_Add.f k4 x115000_4 x115001_4 ((rd_T30 (rd_L4 t107 x13_4) x11_3).f0) ((rd_T30 (rd_L4 t107 x13_4) x11_3).f1)).bind fun bt127 => (verditerlaw01_washPots.l1 k4 l0 t107 x11_3 (wrap64 (x13_4 + 1)) bt127.1 bt127.2)) else (some false))) = some r := by first | (rw [hy121]; with_reducible exact H) | (have H2_ := (Option.bind_some _ _).symm.trans H; rw [hy121]; with_reducible exact H2_) | (have H2_ := (Option.bind_some _ _).symm.trans H; with_reducible exact H2_) | with_reducible exact H | (rw [hy121]; exact H) | exact H
                                      have Ny121 := Aside0.mk hy121
                                      clear hy121
                                      replace H := Option.bind_eq_some_iff.mp H
                                      obtain ⟨t124, A330, H⟩ := H
                                      replace H : (if t124 = true then ((verditerref01_Add.f k4 x115000_4 x115001_4 ((rd_T30 (rd_L4 t107 x13_4) x11_3).f0) ((rd_T30 (rd_L4 t107 x13_4) x11_3).f1)).bind fun bt127 => (verditerlaw01_washPots.l1 k4 l0 t107 x11_3 (wrap64 (x13_4 + 1)) bt127.1 bt127.2)) else (some false)) = some r := H
                                      have A33 := Aside0.mk A330
                                      clear A330
                                      by_cases c34 : t124 = true
                                      · subst c34
                                        have H1 : ((verditerref01_Add.f k4 x115000_4 x115001_4 ((rd_T30 (rd_L4 t107 x13_4) x11_3).f0) ((rd_T30 (rd_L4 t107 x13_4) x11_3).f1)).bind fun bt127 => (verditerlaw01_washPots.l1 k4 l0 t107 x11_3 (wrap64 (x13_4 + 1)) bt127.1 bt127.2)) = some r := by rw [if_pos rfl] at H; exact H
                                        clear H
                                        have H := H1
                                        clear H1
                                        replace H := Option.bind_eq_some_iff.mp H
                                        obtain ⟨⟨t127, t128⟩, A350, H⟩ := H
                                        replace H : (verditerlaw01_washPots.l1 k4 l0 t107 x11_3 (wrap64 (x13_4 + 1)) t127 t128) = some r := H
                                        have A35 := Aside0.mk A350
                                        clear A350
                                        have H' := Aside0.mk H
                                        clear H
                                        try go_wp2
                                        have n0_ := Aside0.mk (Kd.S_drew HO_9.out)
                                        have n1_ := Aside0.mk (blk_drew BK114.out)
                                        have n2_ := Aside0.mk (below_drew1 HB.out)
                                        clear HO_9
                                        clear BK114
                                        clear HB
                                        have HO_9 := n0_
                                        have BK114 := n1_
                                        have HB := n2_
                                        clear n0_ n1_ n2_
                                        have p118 : 0 ≤ (x13_4 : Int) := of_decide_eq_true (by first | (with_reducible assumption) | assumption)
                                        have q118 : x13_4 < (t107.length : Int) := of_decide_eq_true (by first | (with_reducible assumption) | assumption)
                                        obtain ⟨ad118, A118_0, c118_0, e118, hx118_0, hl118_0, hi118_0⟩ := at_L4 (Kd.S_reads' HO_9.out).2.2 x13_4 p118 q118
                                        cases e118
                                        obtain ⟨ce118, hce118, hMe118, hcc118⟩ := Kd.S_get HO_9.out [] x13_4 p118 (by first | exact q118 | exact of_decide_eq_true (by first | (with_reducible assumption) | assumption) | (have e_ := (Kd.S_reads' HO_9.out).1; omega))
                                        obtain ⟨ve118_0, rfl, ge118_0⟩ := hMe118
                                        have hv118_0 := hcc118 0 _ rfl
                                        rw [Nat.add_zero, show ((Kd.slice 30 k30)).sz = 1 from rfl, Nat.mul_one] at hv118_0
                                        replace hv118_0 := Option.some.inj (hv118_0.symm.trans hx118_0)
                                        rw [hv118_0] at ge118_0
                                        have HL118_0 := Aside0.mk (show Kd.R k30 30 _ _ _ _ (rd_L4 t107 x13_4) from ge118_0)
                                        clear hv118_0 ge118_0
                                        clear hcc118 hce118
                                        have HR118_0 := Aside0.mk hi118_0
                                        have HC118_0 := Aside0.mk hl118_0
                                        clear hi118_0 hl118_0
                                        replace p118 := eq_true p118
                                        replace q118 := eq_true q118
                                        have p119 : 0 ≤ (x13_4 : Int) := of_decide_eq_true (by first | (with_reducible assumption) | assumption)
                                        have q119 : x13_4 < (t107.length : Int) := of_decide_eq_true (by first | (with_reducible assumption) | assumption)
                                        obtain ⟨ad119, A119_0, c119_0, e119, hx119_0, hl119_0, hi119_0⟩ := at_L4 (Kd.S_reads' HO_9.out).2.2 x13_4 p119 q119
                                        obtain rfl : ad118 = ad119 := (by injection e119)
                                        obtain ⟨ce119, hce119, hMe119, hcc119⟩ := Kd.S_get HO_9.out [] x13_4 p119 (by first | exact q119 | exact of_decide_eq_true (by first | (with_reducible assumption) | assumption) | (have e_ := (Kd.S_reads' HO_9.out).1; omega))
                                        obtain ⟨ve119_0, rfl, ge119_0⟩ := hMe119
                                        have hv119_0 := hcc119 0 _ rfl
                                        rw [Nat.add_zero, show ((Kd.slice 30 k30)).sz = 1 from rfl, Nat.mul_one] at hv119_0
                                        replace hv119_0 := Option.some.inj (hv119_0.symm.trans hx119_0)
                                        rw [hv119_0] at ge119_0
                                        have HL119_0 := Aside0.mk (show Kd.R k30 30 _ _ _ _ (rd_L4 t107 x13_4) from ge119_0)
                                        clear hv119_0 ge119_0
                                        clear hcc119 hce119
                                        have HR119_0 := Aside0.mk hi119_0
                                        have HC119_0 := Aside0.mk hl119_0
                                        clear hi119_0 hl119_0
                                        replace p119 := eq_true p119
                                        replace q119 := eq_true q119
                                        have ea_ := Option.some.inj (hx118_0.symm.trans hx119_0)
                                        injection ea_ with ea_ en_ ec_
                                        subst ea_
                                        subst ec_
                                        clear en_
                                        have p120 : 0 ≤ (x11_3 : Int) := of_decide_eq_true (by first | (with_reducible assumption) | assumption)
                                        have q120 : x11_3 < ((rd_L4 t107 x13_4).length : Int) := of_decide_eq_true (by first | (with_reducible assumption) | assumption)
                                        obtain ⟨ad120, e120, hx120_0, hx120_1⟩ := at_T30 (by repeat (first | (with_reducible exact HR119_0.out) | (with_reducible refine Kd.C_alloc ?_ _) | (with_reducible refine Kd.C_drewN ?_ _) | (with_reducible refine Kd.C_drew ?_) | exact HR119_0.out)) x11_3 p120 q120
                                        cases e120
                                        replace p120 := eq_true p120
                                        replace q120 := eq_true q120
                                        refine start_ (n := 21) (S := fun w' => w'.cell? ⟨gb114, 0, none⟩ = some (.int .i64 x115000_4) ∧ w'.cell? ⟨gb114, 1, none⟩ = some (.int .i64 x115001_4) ∧ w'.cell? (ad118.add (x13_4).toNat) = some (.slice (some ad120) (rd_L4 t107 x13_4).length c118_0) ∧ w'.cell? (ad118.add (x13_4).toNat) = some (.slice (some ad120) (rd_L4 t107 x13_4).length c118_0) ∧ w'.cell? (ad120.add ((x11_3).toNat * 2)) = some (.int .i64 ((rd_T30 (rd_L4 t107 x13_4) x11_3).f0)) ∧ w'.cell? ⟨(ad120.add ((x11_3).toNat * 2)).block, (ad120.add ((x11_3).toNat * 2)).off + 1, none⟩ = some (.int .i64 ((rd_T30 (rd_L4 t107 x13_4) x11_3).f1))) (ds := []) #[false, false, false, false, false, false, false, false, false, false, false, false, false, false, false, false, false, false, false, false, false] (by kernel_rfl) rfl rfl ⟨(blk_cell BK114.out 0).trans rfl, (blk_cell BK114.out 1).trans rfl, hx118_0, hx119_0, hx120_0, hx120_1⟩ (fun hHeld => ?_); refine with_tabW verditerlaw01_washPots.tab18 verditerlaw01_washPots.bits18 (fun HT_ HW_ => ?_)
                                        generalize wr.drew = w36 at HO_9 BK114 HB HL118_0 HL119_0 HR118_0 HR119_0 hx118_0 hx119_0 hx120_0 hx120_1 hHeld ⊢
                                        refine pure_ (i := 0) (N := some 67) (v := ?_) (a' := ?_) #[true, false, false, false, false, false, false, false, false, false, false, false, false, false, false, false, false, false, false, false, false] rfl rfl (any_of HT_.out (by kernel_rfl)) (fun _ _ _ h => h) (Or.inl ⟨by rfl, ?_⟩) ?_ ?_
                                        rotate_left
                                        · intro w'
                                          go_simp
                                          with_reducible rfl
                                        rotate_left
                                        · simp only [Act.put, List.setIfInBounds_toArray, List.set_cons_zero, List.set_cons_succ, i64_w, i32_w]
                                          rfl
                                        refine pure_ (i := 1) (N := some 68) (v := ?_) (a' := ?_) #[true, true, false, false, false, false, false, false, false, false, false, false, false, false, false, false, false, false, false, false, false] rfl rfl (any_of HT_.out (by kernel_rfl)) (fun _ _ _ h => h) (Or.inl ⟨by rfl, ?_⟩) ?_ ?_
                                        rotate_left
                                        · intro w'
                                          go_simp
                                          with_reducible rfl
                                        rotate_left
                                        · simp only [Act.put, List.setIfInBounds_toArray, List.set_cons_zero, List.set_cons_succ, i64_w, i32_w]
                                          rfl
                                        refine pure_ (i := 2) (N := some 69) (v := ?_) (a' := ?_) #[true, true, true, false, false, false, false, false, false, false, false, false, false, false, false, false, false, false, false, false, false] rfl rfl (any_of HT_.out (by kernel_rfl)) (fun _ _ _ h => h) (Or.inl ⟨by rfl, ?_⟩) ?_ ?_
                                        rotate_left
                                        · intro w'
                                          go_simp
                                          with_reducible rfl
                                        rotate_left
                                        · simp only [Act.put, List.setIfInBounds_toArray, List.set_cons_zero, List.set_cons_succ, i64_w, i32_w]
                                          rfl
                                        refine pure_ (i := 5) (N := some 72) (v := ?_) (a' := ?_) #[true, true, true, false, false, true, false, false, false, false, false, false, false, false, false, false, false, false, false, false, false] rfl rfl (any_of HT_.out (by kernel_rfl)) (fun _ _ _ h => h) (Or.inl ⟨by rfl, ?_⟩) ?_ ?_
                                        rotate_left
                                        · intro w'
                                          go_simp
                                          with_reducible rfl
                                        rotate_left
                                        · simp only [Act.put, List.setIfInBounds_toArray, List.set_cons_zero, List.set_cons_succ, i64_w, i32_w]
                                          rfl
                                        refine pure_ (i := 6) (N := some 73) (v := ?_) (a' := ?_) #[true, true, true, false, false, true, true, false, false, false, false, false, false, false, false, false, false, false, false, false, false] rfl rfl (any_of HT_.out (by kernel_rfl)) (fun _ _ _ h => h) (Or.inl ⟨by rfl, ?_⟩) ?_ ?_
                                        rotate_left
                                        · intro w'
                                          go_simp
                                          with_reducible rfl
                                        rotate_left
                                        · simp only [Act.put, List.setIfInBounds_toArray, List.set_cons_zero, List.set_cons_succ, i64_w, i32_w]
                                          rfl
                                        refine take_ (i := 3) (N := some 70) (v := ?_) (a' := ?_) #[true, true, true, true, false, true, true, false, false, false, false, false, false, false, false, false, false, false, false, false, false] rfl rfl (take_ofW HT_.out HW_.out (by kernel_rfl)) (fun _ _ _ h => h) (Or.inl ⟨by rfl, ?_⟩) hHeld ?_ ?_
                                        rotate_left
                                        · rintro w' ⟨s0, s1, s2, s3, s4, s5⟩
                                          go_simp
                                          with_reducible rfl
                                        rotate_left
                                        · simp only [Act.put, List.setIfInBounds_toArray, List.set_cons_zero, List.set_cons_succ, i64_w, i32_w]
                                          rfl
                                        refine pure_ (i := 4) (N := some 71) (v := ?_) (a' := ?_) #[true, true, true, true, true, true, true, false, false, false, false, false, false, false, false, false, false, false, false, false, false] rfl rfl (any_of HT_.out (by kernel_rfl)) (fun _ _ _ h => h) (Or.inl ⟨by rfl, ?_⟩) ?_ ?_
                                        rotate_left
                                        · intro w'
                                          go_simp
                                          with_reducible rfl
                                        rotate_left
                                        · simp only [Act.put, List.setIfInBounds_toArray, List.set_cons_zero, List.set_cons_succ, i64_w, i32_w]
                                          rfl
                                        refine pure_ (i := 7) (N := some 74) (v := ?_) (a' := ?_) #[true, true, true, true, true, true, true, true, false, false, false, false, false, false, false, false, false, false, false, false, false] rfl rfl (any_of HT_.out (by kernel_rfl)) (fun _ _ _ h => h) (Or.inl ⟨by rfl, ?_⟩) ?_ ?_
                                        rotate_left
                                        · intro w'
                                          go_simp
                                          with_reducible rfl
                                        rotate_left
                                        · simp only [Act.put, List.setIfInBounds_toArray, List.set_cons_zero, List.set_cons_succ, i64_w, i32_w]
                                          rfl
                                        refine pure_ (i := 8) (N := some 75) (v := ?_) (a' := ?_) #[true, true, true, true, true, true, true, true, true, false, false, false, false, false, false, false, false, false, false, false, false] rfl rfl (any_of HT_.out (by kernel_rfl)) (fun _ _ _ h => h) (Or.inl ⟨by rfl, ?_⟩) ?_ ?_
                                        rotate_left
                                        · intro w'
                                          go_simp
                                          with_reducible rfl
                                        rotate_left
                                        · simp only [Act.put, List.setIfInBounds_toArray, List.set_cons_zero, List.set_cons_succ, i64_w, i32_w]
                                          rfl
                                        refine pure_ (i := 9) (N := some 76) (v := ?_) (a' := ?_) #[true, true, true, true, true, true, true, true, true, true, false, false, false, false, false, false, false, false, false, false, false] rfl rfl (any_of HT_.out (by kernel_rfl)) (fun _ _ _ h => h) (Or.inl ⟨by rfl, ?_⟩) ?_ ?_
                                        rotate_left
                                        · intro w'
                                          go_simp
                                          with_reducible rfl
                                        rotate_left
                                        · simp only [Act.put, List.setIfInBounds_toArray, List.set_cons_zero, List.set_cons_succ, i64_w, i32_w]
                                          rfl
                                        refine pure_ (i := 10) (N := some 77) (v := ?_) (a' := ?_) #[true, true, true, true, true, true, true, true, true, true, true, false, false, false, false, false, false, false, false, false, false] rfl rfl (any_of HT_.out (by kernel_rfl)) (fun _ _ _ h => h) (Or.inl ⟨by rfl, ?_⟩) ?_ ?_
                                        rotate_left
                                        · intro w'
                                          go_simp
                                          with_reducible rfl
                                        rotate_left
                                        · simp only [Act.put, List.setIfInBounds_toArray, List.set_cons_zero, List.set_cons_succ, i64_w, i32_w]
                                          rfl
                                        refine pure_ (i := 11) (N := some 78) (v := ?_) (a' := ?_) #[true, true, true, true, true, true, true, true, true, true, true, true, false, false, false, false, false, false, false, false, false] rfl rfl (any_of HT_.out (by kernel_rfl)) (fun _ _ _ h => h) (Or.inl ⟨by rfl, ?_⟩) ?_ ?_
                                        rotate_left
                                        · intro w'
                                          go_simp
                                          with_reducible rfl
                                        rotate_left
                                        · simp only [Act.put, List.setIfInBounds_toArray, List.set_cons_zero, List.set_cons_succ, i64_w, i32_w]
                                          rfl
                                        refine pure_ (i := 13) (N := some 80) (v := ?_) (a' := ?_) #[true, true, true, true, true, true, true, true, true, true, true, true, false, true, false, false, false, false, false, false, false] rfl rfl (any_of HT_.out (by kernel_rfl)) (fun _ _ _ h => h) (Or.inl ⟨by rfl, ?_⟩) ?_ ?_
                                        rotate_left
                                        · intro w'
                                          go_simp
                                          with_reducible rfl
                                        rotate_left
                                        · simp only [Act.put, List.setIfInBounds_toArray, List.set_cons_zero, List.set_cons_succ, i64_w, i32_w]
                                          rfl
                                        refine take_ (i := 12) (N := some 79) (v := ?_) (a' := ?_) #[true, true, true, true, true, true, true, true, true, true, true, true, true, true, false, false, false, false, false, false, false] rfl rfl (take_ofW HT_.out HW_.out (by kernel_rfl)) (fun _ _ _ h => h) (Or.inl ⟨by rfl, ?_⟩) hHeld ?_ ?_
                                        rotate_left
                                        · rintro w' ⟨s0, s1, s2, s3, s4, s5⟩
                                          go_simp
                                          with_reducible rfl
                                        rotate_left
                                        · simp only [Act.put, List.setIfInBounds_toArray, List.set_cons_zero, List.set_cons_succ, i64_w, i32_w]
                                          rfl
                                        refine pure_ (i := 14) (N := some 81) (v := ?_) (a' := ?_) #[true, true, true, true, true, true, true, true, true, true, true, true, true, true, true, false, false, false, false, false, false] rfl rfl (any_of HT_.out (by kernel_rfl)) (fun _ _ _ h => h) (Or.inl ⟨by rfl, ?_⟩) ?_ ?_
                                        rotate_left
                                        · intro w'
                                          go_simp
                                          with_reducible rfl
                                        rotate_left
                                        · simp only [Act.put, List.setIfInBounds_toArray, List.set_cons_zero, List.set_cons_succ, i64_w, i32_w]
                                          rfl
                                        refine take_ (i := 15) (N := some 82) (v := ?_) (a' := ?_) #[true, true, true, true, true, true, true, true, true, true, true, true, true, true, true, true, false, false, false, false, false] rfl rfl (take_ofW HT_.out HW_.out (by kernel_rfl)) (fun _ _ _ h => h) (Or.inl ⟨by rfl, ?_⟩) hHeld ?_ ?_
                                        rotate_left
                                        · rintro w' ⟨s0, s1, s2, s3, s4, s5⟩
                                          go_simp
                                          with_reducible rfl
                                        rotate_left
                                        · simp only [Act.put, List.setIfInBounds_toArray, List.set_cons_zero, List.set_cons_succ, i64_w, i32_w]
                                          rfl
                                        refine take_ (i := 16) (N := some 83) (v := ?_) (a' := ?_) #[true, true, true, true, true, true, true, true, true, true, true, true, true, true, true, true, true, false, false, false, false] rfl rfl (take_ofW HT_.out HW_.out (by kernel_rfl)) (fun _ _ _ h => h) (Or.inl ⟨by rfl, ?_⟩) hHeld ?_ ?_
                                        rotate_left
                                        · rintro w' ⟨s0, s1, s2, s3, s4, s5⟩
                                          go_simp
                                          with_reducible rfl
                                        rotate_left
                                        · simp only [Act.put, List.setIfInBounds_toArray, List.set_cons_zero, List.set_cons_succ, i64_w, i32_w]
                                          rfl
                                        refine one_ (i := 17) (N := some 84) #[true, true, true, true, true, true, true, true, true, true, true, true, true, true, true, true, true, true, false, false, false] rfl rfl (one_of HT_.out (by kernel_rfl)) (by decide) (fun K hK => ?_)
                                        refine Kd.R_lit_step k30 _ 30 ?hg (N := 84) ?hd (xs := ([(⟨(rd_T30 (rd_L4 t107 x13_4) x11_3).f0, (rd_T30 (rd_L4 t107 x13_4) x11_3).f1⟩ : S30), (⟨x115000_4, x115001_4⟩ : S30)] : List (S30))) (inner := [.int .i64 ((rd_T30 (rd_L4 t107 x13_4) x11_3).f0), .int .i64 ((rd_T30 (rd_L4 t107 x13_4) x11_3).f1), .int .i64 x115000_4, .int .i64 x115001_4]) (ok := fun _ => True) (okp := fun _ => True) ?hr ?hp (fun _ hk => hk) trivial (Below.refl _ _) (Nat.le_refl _) (by simp) ?_; (case hd => rfl); (case hg => rfl); (case hr => first | (go_simp; done) | (go_simp; rfl)); (case hp => exact (Reps.c2 (show Kd.M k30 _ _ _ (⟨(rd_T30 (rd_L4 t107 x13_4) x11_3).f0, (rd_T30 (rd_L4 t107 x13_4) x11_3).f1⟩ : S30) [.int .i64 ((rd_T30 (rd_L4 t107 x13_4) x11_3).f0), .int .i64 ((rd_T30 (rd_L4 t107 x13_4) x11_3).f1)] from (k30_mkM _ _ _ (⟨(rd_T30 (rd_L4 t107 x13_4) x11_3).f0, (rd_T30 (rd_L4 t107 x13_4) x11_3).f1⟩ : S30) )) (Reps.c2 (show Kd.M k30 _ _ _ (⟨x115000_4, x115001_4⟩ : S30) [.int .i64 x115000_4, .int .i64 x115001_4] from (k30_mkM _ _ _ (⟨x115000_4, x115001_4⟩ : S30) )) (Reps.none _ _))))
                                        intro v122 w37 ho38 hb hg_ hnew_
                                        have HS2_ := (hb.cell (World.block_lt_of_cell? _ _ (hHeld.2.2.1))).trans (hHeld.2.2.1)
                                        have HS3_ := (hb.cell (World.block_lt_of_cell? _ _ (hHeld.2.2.2.1))).trans (hHeld.2.2.2.1)
                                        have HS4_ := (hb.cell (World.block_lt_of_cell? _ _ (hHeld.2.2.2.2.1))).trans (hHeld.2.2.2.2.1)
                                        have HS5_ := (hb.cell (World.block_lt_of_cell? _ _ (hHeld.2.2.2.2.2))).trans (hHeld.2.2.2.2.2)
                                        clear hg_ hnew_
                                        (first | rw [← Ny121.out] at ho38 | (simp only [Int.reduceToNat] at ho38; rw [← Ny121.out] at ho38))
                                        have n0_ := Aside0.mk (Kd.S_elder' (by (with_reducible repeat (first | apply Kd.S_alloc | apply Kd.S_drewN | apply Kd.S_drew)); exact HO_9.out) (Kd.R_base ho38) hb)
                                        have n1_ := Aside0.mk (Kd.R_elder' (by (with_reducible repeat (first | apply Kd.R_alloc | apply Kd.R_drewN | apply Kd.R_drew)); exact HL118_0.out) (Kd.R_base ho38) hb)
                                        have n2_ := Aside0.mk (Kd.R_elder' (by (with_reducible repeat (first | apply Kd.R_alloc | apply Kd.R_drewN | apply Kd.R_drew)); exact HL119_0.out) (Kd.R_base ho38) hb)
                                        have n3_ := Aside0.mk (Kd.R_lower (Kd.R_newB (Kd.R_new' (Kd.R_new' ho38 (Kd.R_lt (by (with_reducible repeat (first | apply Kd.R_alloc | apply Kd.R_drewN | apply Kd.R_drew)); exact HL118_0.out))) (Kd.R_lt (by (with_reducible repeat (first | apply Kd.R_alloc | apply Kd.R_drewN | apply Kd.R_drew)); exact HL119_0.out))) (g := gb114) (o := .cells #[.int .i64 x115000_4, .int .i64 x115001_4] 30 (0, 0)) (by (with_reducible repeat (first | refine blk_drewN ?_ _ | refine blk_drew ?_ | refine blk_alloc ?_ _)); exact BK114.out)) (below_size (by repeat (first | (with_reducible first | exact HB.out | apply below_alloc | apply pw_below_drewN | apply below_drew1 | refine below_set ?_ GE114.out) | exact HB.out))))
                                        have n4_ := Aside0.mk (blk_below (g := gb114) (o := .cells #[.int .i64 x115000_4, .int .i64 x115001_4] 30 (0, 0)) (by (with_reducible repeat (first | refine blk_drewN ?_ _ | refine blk_drew ?_ | refine blk_alloc ?_ _)); exact BK114.out) hb)
                                        have n5_ := Aside0.mk (Kd.C_below (by repeat (first | (with_reducible exact HR118_0.out) | (with_reducible refine Kd.C_alloc ?_ _) | (with_reducible refine Kd.C_drewN ?_ _) | (with_reducible refine Kd.C_drew ?_) | exact HR118_0.out)) hb)
                                        have n6_ := Aside0.mk (Kd.C_below (by repeat (first | (with_reducible exact HR119_0.out) | (with_reducible refine Kd.C_alloc ?_ _) | (with_reducible refine Kd.C_drewN ?_ _) | (with_reducible refine Kd.C_drew ?_) | exact HR119_0.out)) hb)
                                        have n7_ := Aside0.mk (below_step (by repeat (first | (with_reducible first | exact HB.out | apply below_alloc | apply pw_below_drewN | apply below_drew1 | refine below_set ?_ GE114.out) | exact HB.out)) hb)
                                        clear HO_9
                                        clear HL118_0
                                        clear HL119_0
                                        clear BK114
                                        clear HR118_0
                                        clear HR119_0
                                        clear HB
                                        have HO_9 := n0_
                                        have HL118_0 := n1_
                                        have HL119_0 := n2_
                                        have HO123 := n3_
                                        have BK114 := n4_
                                        have HR118_0 := n5_
                                        have HR119_0 := n6_
                                        have HB := n7_
                                        clear n0_ n1_ n2_ n3_ n4_ n5_ n6_ n7_
                                        clear hb ho38
                                        obtain ⟨Ao39, co39, eo39⟩ := Kd.R_slice HO123.out
                                        (first | subst eo39 | (injection eo39 with f1_ f2_ f3_; have f4_ := f1_.symm; have f5_ := f3_.symm; clear f1_ f2_ f3_; subst f4_; subst f5_))
                                        refine hK.out _ _ ⟨(blk_cell BK114.out 0).trans rfl, (blk_cell BK114.out 1).trans rfl, HS2_, HS3_, HS4_, HS5_⟩ (fun hHeld => ?_)
                                        clear hK K
                                        refine norm_ (a' := ?_) ?_ ?_
                                        rotate_left
                                        · show Act.put _ (some 84) _ = _
                                          simp only [Act.put, List.setIfInBounds_toArray, List.set_cons_zero, List.set_cons_succ, i64_w, i32_w]
                                          rfl
                                        refine one_ (i := 18) (N := some 85) #[true, true, true, true, true, true, true, true, true, true, true, true, true, true, true, true, true, true, true, false, false] rfl rfl (one_of HT_.out (by kernel_rfl)) (by decide) (fun K hK => ?_)
                                        refine goes_ Try.func43 (by kernel_rfl) rfl #[.slice Ao39 y121.length co39] (by rfl) rfl rfl (by (try simp only [List.map_toArray, List.map_cons, List.map_nil]); first | done | rfl | (simp only [List.length_drop, List.length_take]; rfl)) ?_
                                        with_reducible refine (verditerlaw01_small.calls k4 _ _ y121 true _ ?side1 ?side2 A33.out).mono ?_
                                        (case side1 => repeat (first | exact (Kd.R_reads' HO123.out).2.2 | (with_reducible refine Kd.C_alloc ?_ _) | (with_reducible refine Kd.C_drewN ?_ _) | (with_reducible refine Kd.C_drew ?_)))
                                        (case side2 => exact (Kd.R_reads' HO123.out).2.1)
                                        rintro e w' ⟨rfl, ⟨nd, rfl⟩⟩
                                        refine ⟨_, rfl, ?_⟩
                                        refine hK.out _ _ ⟨(blk_cell BK114.out 0).trans rfl, (blk_cell BK114.out 1).trans rfl, hHeld.2.2.1, hHeld.2.2.2.1, hHeld.2.2.2.2.1, hHeld.2.2.2.2.2⟩ (fun hHeld => ?_)
                                        clear hK K
                                        refine norm_ (a' := ?_) ?_ ?_
                                        rotate_left
                                        · show Act.put _ (some 85) _ = _
                                          simp only [Act.put, List.setIfInBounds_toArray, List.set_cons_zero, List.set_cons_succ, i64_w, i32_w]
                                          rfl
                                        refine pure_ (i := 19) (N := some 86) (v := ?_) (a' := ?_) #[true, true, true, true, true, true, true, true, true, true, true, true, true, true, true, true, true, true, true, true, false] rfl rfl (any_of HT_.out (by kernel_rfl)) (fun _ _ _ h => h) (Or.inl ⟨by rfl, ?_⟩) ?_ ?_
                                        rotate_left
                                        · intro w'
                                          go_simp
                                          with_reducible rfl
                                        rotate_left
                                        · simp only [Act.put, List.setIfInBounds_toArray, List.set_cons_zero, List.set_cons_succ, i64_w, i32_w]
                                          rfl
                                        refine pure_ (i := 20) (N := some 87) (v := ?_) (a' := ?_) #[true, true, true, true, true, true, true, true, true, true, true, true, true, true, true, true, true, true, true, true, true] rfl rfl (any_of HT_.out (by kernel_rfl)) (fun _ _ _ h => h) (Or.inl ⟨by rfl, ?_⟩) ?_ ?_
                                        rotate_left
                                        · intro w'
                                          go_simp
                                          with_reducible rfl
                                        rotate_left
                                        · simp only [Act.put, List.setIfInBounds_toArray, List.set_cons_zero, List.set_cons_succ, i64_w, i32_w]
                                          rfl
                                        refine done_ (done_of HT_.out (by kernel_rfl)) ?_
                                        try go_wp2
                                        (try (rw [drewN_self w37]; generalize hq_ : World.drewN w37 _ = w37; have n0_ : Aside0 (Kd.R k30 30 w37 w.heap.size (fun k_ => some k_ ≠ (.slice Ao39 y121.length co39 : Value).ownBlock ∧ some k_ ≠ (.slice (some ad118) t107.length co24 : Value).ownBlock ∧ k_ ≠ gb114) (.slice (some ad120) (rd_L4 t107 x13_4).length c118_0) (rd_L4 t107 x13_4)) := ⟨by rw [← hq_]; exact (by (with_reducible repeat (first | apply Kd.R_alloc | apply Kd.R_drewN | apply Kd.R_drew)); exact Kd.R_mono HL118_0.out (fun _ hk => ⟨hk.2, ⟨hk.1.2, hk.1.1⟩⟩))⟩; have n1_ : Aside0 (Kd.R k30 30 w37 w.heap.size (fun k_ => some k_ ≠ (.slice Ao39 y121.length co39 : Value).ownBlock ∧ some k_ ≠ (.slice (some ad118) t107.length co24 : Value).ownBlock ∧ k_ ≠ gb114) (.slice (some ad120) (rd_L4 t107 x13_4).length c118_0) (rd_L4 t107 x13_4)) := ⟨by rw [← hq_]; exact (by (with_reducible repeat (first | apply Kd.R_alloc | apply Kd.R_drewN | apply Kd.R_drew)); exact Kd.R_mono HL119_0.out (fun _ hk => ⟨hk.2, ⟨hk.1.2, hk.1.1⟩⟩))⟩; have n2_ : Aside0 (Kd.R k30 30 w37 w.heap.size (fun k_ => some k_ ≠ (.slice (some ad120) (rd_L4 t107 x13_4).length c118_0 : Value).ownBlock ∧ some k_ ≠ (.slice (some ad120) (rd_L4 t107 x13_4).length c118_0 : Value).ownBlock ∧ k_ ≠ gb114) (.slice Ao39 y121.length co39) y121) := ⟨by rw [← hq_]; exact (by (with_reducible repeat (first | apply Kd.R_alloc | apply Kd.R_drewN | apply Kd.R_drew)); exact Kd.R_mono HO123.out (fun _ hk => ⟨hk.1.1.2, ⟨hk.1.2, hk.2⟩⟩))⟩; have n3_ : Aside0 (Kd.S (Kd.slice 30 k30) 50 w37 w.heap.size (fun k_ => some k_ ≠ (.slice Ao39 y121.length co39 : Value).ownBlock ∧ k_ ≠ gb114) (.slice (some ad118) t107.length co24) t107) := ⟨by rw [← hq_]; exact (by (with_reducible repeat (first | apply Kd.S_alloc | apply Kd.S_drewN | apply Kd.S_drew)); exact Kd.S_mono HO_9.out (fun _ hk => ⟨hk.2, hk.1⟩))⟩; have n4_ : Aside0 (w37.heap[gb114]? = some (.cells #[.int .i64 x115000_4, .int .i64 x115001_4] 30 (0, 0))) := ⟨by rw [← hq_]; exact (by (with_reducible repeat (first | refine blk_drewN ?_ _ | refine blk_drew ?_ | refine blk_alloc ?_ _)); exact BK114.out)⟩; have n5_ : Aside0 (Below w.heap.size w w37) := ⟨by rw [← hq_]; exact (by repeat (first | (with_reducible first | exact HB.out | apply below_alloc | apply pw_below_drewN | apply below_drew1 | refine below_set ?_ GE114.out) | exact HB.out))⟩; have n6_ : Aside0 (Kd.C k30 w37 (some ad120) (rd_L4 t107 x13_4).length (rd_L4 t107 x13_4)) := ⟨by rw [← hq_]; exact (by repeat (first | (with_reducible exact HR118_0.out) | (with_reducible refine Kd.C_alloc ?_ _) | (with_reducible refine Kd.C_drewN ?_ _) | (with_reducible refine Kd.C_drew ?_) | exact HR118_0.out))⟩; have n7_ : Aside0 (Kd.C k30 w37 (some ad120) (rd_L4 t107 x13_4).length (rd_L4 t107 x13_4)) := ⟨by rw [← hq_]; exact (by repeat (first | (with_reducible exact HR119_0.out) | (with_reducible refine Kd.C_alloc ?_ _) | (with_reducible refine Kd.C_drewN ?_ _) | (with_reducible refine Kd.C_drew ?_) | exact HR119_0.out))⟩; clear HL118_0 HL119_0 HO123 HO_9 BK114 HB HR118_0 HR119_0 hq_; have HL118_0 := n0_; have HL119_0 := n1_; have HO123 := n2_; have HO_9 := n3_; have BK114 := n4_; have HB := n5_; have HR118_0 := n6_; have HR119_0 := n7_; clear n0_ n1_ n2_ n3_ n4_ n5_ n6_ n7_))
                                        have n0_ := Aside0.mk (Kd.S_drew HO_9.out)
                                        have n1_ := Aside0.mk (Kd.R_drew HL118_0.out)
                                        have n2_ := Aside0.mk (Kd.R_drew HL119_0.out)
                                        have n3_ := Aside0.mk (Kd.R_drew HO123.out)
                                        have n4_ := Aside0.mk (blk_drew BK114.out)
                                        have n5_ := Aside0.mk (Kd.C_drew HR118_0.out)
                                        have n6_ := Aside0.mk (Kd.C_drew HR119_0.out)
                                        have n7_ := Aside0.mk (below_drew1 HB.out)
                                        clear HO_9
                                        clear HL118_0
                                        clear HL119_0
                                        clear HO123
                                        clear BK114
                                        clear HR118_0
                                        clear HR119_0
                                        clear HB
                                        have HO_9 := n0_
                                        have HL118_0 := n1_
                                        have HL119_0 := n2_
                                        have HO123 := n3_
                                        have BK114 := n4_
                                        have HR118_0 := n5_
                                        have HR119_0 := n6_
                                        have HB := n7_
                                        clear n0_ n1_ n2_ n3_ n4_ n5_ n6_ n7_
                                        have p125 : 0 ≤ (x13_4 : Int) := of_decide_eq_true (by first | (with_reducible assumption) | assumption)
                                        have q125 : x13_4 < (t107.length : Int) := of_decide_eq_true (by first | (with_reducible assumption) | assumption)
                                        obtain ⟨ad125, A125_0, c125_0, e125, hx125_0, hl125_0, hi125_0⟩ := at_L4 (Kd.S_reads' HO_9.out).2.2 x13_4 p125 q125
                                        obtain rfl : ad118 = ad125 := (by injection e125)
                                        obtain ⟨ce125, hce125, hMe125, hcc125⟩ := Kd.S_get HO_9.out [] x13_4 p125 (by first | exact q125 | exact of_decide_eq_true (by first | (with_reducible assumption) | assumption) | (have e_ := (Kd.S_reads' HO_9.out).1; omega))
                                        obtain ⟨ve125_0, rfl, ge125_0⟩ := hMe125
                                        have hv125_0 := hcc125 0 _ rfl
                                        rw [Nat.add_zero, show ((Kd.slice 30 k30)).sz = 1 from rfl, Nat.mul_one] at hv125_0
                                        replace hv125_0 := Option.some.inj (hv125_0.symm.trans hx125_0)
                                        rw [hv125_0] at ge125_0
                                        have HL125_0 := Aside0.mk (show Kd.R k30 30 _ _ _ _ (rd_L4 t107 x13_4) from ge125_0)
                                        clear hv125_0 ge125_0
                                        clear hcc125 hce125
                                        have HR125_0 := Aside0.mk hi125_0
                                        have HC125_0 := Aside0.mk hl125_0
                                        clear hi125_0 hl125_0
                                        replace p125 := eq_true p125
                                        replace q125 := eq_true q125
                                        have p126 : 0 ≤ (x11_3 : Int) := of_decide_eq_true (by first | (with_reducible assumption) | assumption)
                                        have q126 : x11_3 < ((rd_L4 t107 x13_4).length : Int) := of_decide_eq_true (by first | (with_reducible assumption) | assumption)
                                        obtain ⟨ad126, e126, hx126_0, hx126_1⟩ := at_T30 (by repeat (first | (with_reducible exact HR125_0.out) | (with_reducible refine Kd.C_alloc ?_ _) | (with_reducible refine Kd.C_drewN ?_ _) | (with_reducible refine Kd.C_drew ?_) | exact HR125_0.out)) x11_3 p126 q126
                                        cases e126
                                        replace p126 := eq_true p126
                                        replace q126 := eq_true q126
                                        refine start_ (n := 10) (S := fun w' => w'.cell? ⟨gb114, 0, none⟩ = some (.int .i64 x115000_4) ∧ w'.cell? ⟨gb114, 1, none⟩ = some (.int .i64 x115001_4) ∧ w'.cell? (ad118.add (x13_4).toNat) = some (.slice (some ad126) (rd_L4 t107 x13_4).length c125_0) ∧ w'.cell? (ad126.add ((x11_3).toNat * 2)) = some (.int .i64 ((rd_T30 (rd_L4 t107 x13_4) x11_3).f0)) ∧ w'.cell? ⟨(ad126.add ((x11_3).toNat * 2)).block, (ad126.add ((x11_3).toNat * 2)).off + 1, none⟩ = some (.int .i64 ((rd_T30 (rd_L4 t107 x13_4) x11_3).f1))) (ds := [9]) #[false, false, false, false, false, false, false, false, false, false] (by kernel_rfl) rfl rfl ⟨(blk_cell BK114.out 0).trans rfl, (blk_cell BK114.out 1).trans rfl, hx125_0, hx126_0, hx126_1⟩ (fun hHeld => ?_); refine with_tabW verditerlaw01_washPots.tab20 verditerlaw01_washPots.bits20 (fun HT_ HW_ => ?_)
                                        generalize w37.drew = w40 at HO_9 HL118_0 HL119_0 HO123 BK114 HR118_0 HR119_0 HB HL125_0 HR125_0 hx125_0 hx126_0 hx126_1 hHeld ⊢
                                        refine pure_ (i := 1) (N := some 89) (v := ?_) (a' := ?_) #[false, true, false, false, false, false, false, false, false, false] rfl rfl (any_of HT_.out (by kernel_rfl)) (fun _ _ _ h => h) (Or.inl ⟨by rfl, ?_⟩) ?_ ?_
                                        rotate_left
                                        · intro w'
                                          go_simp
                                          with_reducible rfl
                                        rotate_left
                                        · simp only [Act.put, List.setIfInBounds_toArray, List.set_cons_zero, List.set_cons_succ, i64_w, i32_w]
                                          rfl
                                        refine pure_ (i := 2) (N := some 90) (v := ?_) (a' := ?_) #[false, true, true, false, false, false, false, false, false, false] rfl rfl (any_of HT_.out (by kernel_rfl)) (fun _ _ _ h => h) (Or.inl ⟨by rfl, ?_⟩) ?_ ?_
                                        rotate_left
                                        · intro w'
                                          go_simp
                                          with_reducible rfl
                                        rotate_left
                                        · simp only [Act.put, List.setIfInBounds_toArray, List.set_cons_zero, List.set_cons_succ, i64_w, i32_w]
                                          rfl
                                        refine pure_ (i := 3) (N := some 91) (v := ?_) (a' := ?_) #[false, true, true, true, false, false, false, false, false, false] rfl rfl (any_of HT_.out (by kernel_rfl)) (fun _ _ _ h => h) (Or.inl ⟨by rfl, ?_⟩) ?_ ?_
                                        rotate_left
                                        · intro w'
                                          go_simp
                                          with_reducible rfl
                                        rotate_left
                                        · simp only [Act.put, List.setIfInBounds_toArray, List.set_cons_zero, List.set_cons_succ, i64_w, i32_w]
                                          rfl
                                        refine pure_ (i := 5) (N := some 93) (v := ?_) (a' := ?_) #[false, true, true, true, false, true, false, false, false, false] rfl rfl (any_of HT_.out (by kernel_rfl)) (fun _ _ _ h => h) (Or.inl ⟨by rfl, ?_⟩) ?_ ?_
                                        rotate_left
                                        · intro w'
                                          go_simp
                                          with_reducible rfl
                                        rotate_left
                                        · simp only [Act.put, List.setIfInBounds_toArray, List.set_cons_zero, List.set_cons_succ, i64_w, i32_w]
                                          rfl
                                        refine take_ (i := 0) (N := some 88) (v := ?_) (a' := ?_) #[true, true, true, true, false, true, false, false, false, false] rfl rfl (take_ofW HT_.out HW_.out (by kernel_rfl)) (fun _ _ _ h => h) (Or.inl ⟨by rfl, ?_⟩) hHeld ?_ ?_
                                        rotate_left
                                        · rintro w' ⟨s0, s1, s2, s3, s4⟩
                                          go_simp
                                          with_reducible rfl
                                        rotate_left
                                        · simp only [Act.put, List.setIfInBounds_toArray, List.set_cons_zero, List.set_cons_succ, i64_w, i32_w]
                                          rfl
                                        refine take_ (i := 4) (N := some 92) (v := ?_) (a' := ?_) #[true, true, true, true, true, true, false, false, false, false] rfl rfl (take_ofW HT_.out HW_.out (by kernel_rfl)) (fun _ _ _ h => h) (Or.inl ⟨by rfl, ?_⟩) hHeld ?_ ?_
                                        rotate_left
                                        · rintro w' ⟨s0, s1, s2, s3, s4⟩
                                          go_simp
                                          with_reducible rfl
                                        rotate_left
                                        · simp only [Act.put, List.setIfInBounds_toArray, List.set_cons_zero, List.set_cons_succ, i64_w, i32_w]
                                          rfl
                                        refine pure_ (i := 6) (N := some 94) (v := ?_) (a' := ?_) #[true, true, true, true, true, true, true, false, false, false] rfl rfl (any_of HT_.out (by kernel_rfl)) (fun _ _ _ h => h) (Or.inl ⟨by rfl, ?_⟩) ?_ ?_
                                        rotate_left
                                        · intro w'
                                          go_simp
                                          with_reducible rfl
                                        rotate_left
                                        · simp only [Act.put, List.setIfInBounds_toArray, List.set_cons_zero, List.set_cons_succ, i64_w, i32_w]
                                          rfl
                                        refine take_ (i := 7) (N := some 95) (v := ?_) (a' := ?_) #[true, true, true, true, true, true, true, true, false, false] rfl rfl (take_ofW HT_.out HW_.out (by kernel_rfl)) (fun _ _ _ h => h) (Or.inl ⟨by rfl, ?_⟩) hHeld ?_ ?_
                                        rotate_left
                                        · rintro w' ⟨s0, s1, s2, s3, s4⟩
                                          go_simp
                                          with_reducible rfl
                                        rotate_left
                                        · simp only [Act.put, List.setIfInBounds_toArray, List.set_cons_zero, List.set_cons_succ, i64_w, i32_w]
                                          rfl
                                        refine one_ (i := 8) (N := some 96) #[true, true, true, true, true, true, true, true, true, false] rfl rfl (one_of HT_.out (by kernel_rfl)) (by decide) (fun K hK => ?_)
                                        refine goes_ Try.func44 (by kernel_rfl) rfl #[.agg #[.int .i64 x115000_4, .int .i64 x115001_4], .agg #[.int .i64 ((rd_T30 (rd_L4 t107 x13_4) x11_3).f0), .int .i64 ((rd_T30 (rd_L4 t107 x13_4) x11_3).f1)]] (by rfl) rfl rfl (by (try simp only [List.map_toArray, List.map_cons, List.map_nil]); first | done | rfl | (simp only [List.length_drop, List.length_take]; rfl)) ?_
                                        with_reducible refine (verditerref01_Add.calls k4 x115000_4 x115001_4 ((rd_T30 (rd_L4 t107 x13_4) x11_3).f0) ((rd_T30 (rd_L4 t107 x13_4) x11_3).f1) t127 t128 _ A35.out).mono ?_
                                        rintro e w41 ⟨rfl, hb⟩
                                        have HS2_ := (hb.cell (World.block_lt_of_cell? _ _ (hHeld.2.2.1))).trans (hHeld.2.2.1)
                                        have HS3_ := (hb.cell (World.block_lt_of_cell? _ _ (hHeld.2.2.2.1))).trans (hHeld.2.2.2.1)
                                        have HS4_ := (hb.cell (World.block_lt_of_cell? _ _ (hHeld.2.2.2.2))).trans (hHeld.2.2.2.2)
                                        refine ⟨_, rfl, ?_⟩
                                        have n0_ := Aside0.mk (Kd.S_below (by (with_reducible repeat (first | apply Kd.S_alloc | apply Kd.S_drewN | apply Kd.S_drew)); exact HO_9.out) hb)
                                        have n1_ := Aside0.mk (Kd.R_below (by (with_reducible repeat (first | apply Kd.R_alloc | apply Kd.R_drewN | apply Kd.R_drew)); exact HL118_0.out) hb)
                                        have n2_ := Aside0.mk (Kd.R_below (by (with_reducible repeat (first | apply Kd.R_alloc | apply Kd.R_drewN | apply Kd.R_drew)); exact HL119_0.out) hb)
                                        have n3_ := Aside0.mk (Kd.R_below (by (with_reducible repeat (first | apply Kd.R_alloc | apply Kd.R_drewN | apply Kd.R_drew)); exact HO123.out) hb)
                                        have n4_ := Aside0.mk (Kd.R_below (by (with_reducible repeat (first | apply Kd.R_alloc | apply Kd.R_drewN | apply Kd.R_drew)); exact HL125_0.out) hb)
                                        have n5_ := Aside0.mk (blk_below (g := gb114) (o := .cells #[.int .i64 x115000_4, .int .i64 x115001_4] 30 (0, 0)) (by (with_reducible repeat (first | refine blk_drewN ?_ _ | refine blk_drew ?_ | refine blk_alloc ?_ _)); exact BK114.out) hb)
                                        have n6_ := Aside0.mk (Kd.C_below (by repeat (first | (with_reducible exact HR118_0.out) | (with_reducible refine Kd.C_alloc ?_ _) | (with_reducible refine Kd.C_drewN ?_ _) | (with_reducible refine Kd.C_drew ?_) | exact HR118_0.out)) hb)
                                        have n7_ := Aside0.mk (Kd.C_below (by repeat (first | (with_reducible exact HR119_0.out) | (with_reducible refine Kd.C_alloc ?_ _) | (with_reducible refine Kd.C_drewN ?_ _) | (with_reducible refine Kd.C_drew ?_) | exact HR119_0.out)) hb)
                                        have n8_ := Aside0.mk (Kd.C_below (by repeat (first | (with_reducible exact HR125_0.out) | (with_reducible refine Kd.C_alloc ?_ _) | (with_reducible refine Kd.C_drewN ?_ _) | (with_reducible refine Kd.C_drew ?_) | exact HR125_0.out)) hb)
                                        have n9_ := Aside0.mk (below_step (by repeat (first | (with_reducible first | exact HB.out | apply below_alloc | apply pw_below_drewN | apply below_drew1 | refine below_set ?_ GE114.out) | exact HB.out)) hb)
                                        clear HO_9
                                        clear HL118_0
                                        clear HL119_0
                                        clear HO123
                                        clear HL125_0
                                        clear BK114
                                        clear HR118_0
                                        clear HR119_0
                                        clear HR125_0
                                        clear HB
                                        have HO_9 := n0_
                                        have HL118_0 := n1_
                                        have HL119_0 := n2_
                                        have HO123 := n3_
                                        have HL125_0 := n4_
                                        have BK114 := n5_
                                        have HR118_0 := n6_
                                        have HR119_0 := n7_
                                        have HR125_0 := n8_
                                        have HB := n9_
                                        clear n0_ n1_ n2_ n3_ n4_ n5_ n6_ n7_ n8_ n9_
                                        (try clear hb)
                                        (try clear hb2)
                                        (try clear hk)
                                        (try clear hi)
                                        refine hK.out _ _ ⟨(blk_cell BK114.out 0).trans rfl, (blk_cell BK114.out 1).trans rfl, HS2_, HS3_, HS4_⟩ (fun hHeld => ?_)
                                        clear hK K
                                        refine norm_ (a' := ?_) ?_ ?_
                                        rotate_left
                                        · show Act.put _ (some 96) _ = _
                                          simp only [Act.put, List.setIfInBounds_toArray, List.set_cons_zero, List.set_cons_succ, i64_w, i32_w]
                                          rfl
                                        refine last_ (i := 9) (N := none) #[true, true, true, true, true, true, true, true, true, true] rfl rfl (one_of HT_.out (by kernel_rfl)) (by decide) (fun K hK => ?_)
                                        have hs42 : w41.cell? ⟨gb114, 0, none⟩ = some (.int .i64 x115000_4) := (blk_cell BK114.out 0).trans rfl
                                        have hfs42 := blk_frozen BK114.out 0
                                        have hs43 : w41.cell? ⟨gb114, 1, none⟩ = some (.int .i64 x115001_4) := (blk_cell BK114.out 1).trans rfl
                                        have hfs43 := blk_frozen BK114.out 1
                                        refine skip_ (w1 := ?_) (by rfl) rfl ?_ ?_
                                        rotate_left
                                        · go_simp
                                          rfl
                                        refine hK.out _ _ ?_
                                        clear hK K
                                        refine done_ (done_of HT_.out (by kernel_rfl)) ?_
                                        try go_wp2
                                        go_roundg k4
                                        case measure => have := HJ3.out; have := HJ11.out; have := HK3.out; have := HK4.out; omega
                                        case rel => exact ⟨(wrap64 (x13_4 + 1)), (t127), (t128), (by first | rfl | (simp; done) | (simp [*]; done)), H', ⟨by have := HJ3.out; have := HJ11.out; have := HK3.out; have := HK4.out; omega⟩, ⟨by (with_reducible repeat (first | apply Kd.S_alloc | apply Kd.S_drewN | apply Kd.S_drew)); exact Kd.S_mono (Kd.S_far (p := ⟨gb114, 1, none⟩) (Kd.S_far (p := ⟨gb114, 0, none⟩) (Kd.S_mono HO_9.out (fun k_ hk => (⟨hk, by first | exact hk.2 | exact hk.1⟩ : _ ∧ k_ ≠ gb114))) (fun _ hk => hk.2) (.int .i64 t127)) (fun _ hk => hk.2) (.int .i64 t128)) (fun _ hk => hk.2)⟩, ⟨by (with_reducible repeat (first | refine blk_drewN ?_ _ | refine blk_drew ?_ | refine blk_alloc ?_ _)); refine blk_put (cs := #[.int .i64 t127, .int .i64 x115001_4]) ?_ 1 _ rfl; (with_reducible repeat (first | refine blk_drewN ?_ _ | refine blk_drew ?_ | refine blk_alloc ?_ _)); refine blk_put (cs := #[.int .i64 x115000_4, .int .i64 x115001_4]) ?_ 0 _ rfl; (with_reducible repeat (first | refine blk_drewN ?_ _ | refine blk_drew ?_ | refine blk_alloc ?_ _)); exact BK114.out⟩, ⟨by repeat (first | (with_reducible first | exact HB.out | apply below_alloc | apply pw_below_drewN | apply below_drew1 | refine below_set ?_ GE114.out) | exact HB.out)⟩⟩
                                      · replace c34 := Bool.eq_false_iff.mpr c34
                                        subst c34
                                        have H1 : (some false) = some r := by rw [if_neg (show ¬ (false = true) by decide)] at H; exact H
                                        clear H
                                        have H := H1
                                        clear H1
                                        obtain rfl := Option.some.inj H
                                        try go_wp2
                                        have n0_ := Aside0.mk (Kd.S_drew HO_9.out)
                                        have n1_ := Aside0.mk (blk_drew BK114.out)
                                        have n2_ := Aside0.mk (below_drew1 HB.out)
                                        clear HO_9
                                        clear BK114
                                        clear HB
                                        have HO_9 := n0_
                                        have BK114 := n1_
                                        have HB := n2_
                                        clear n0_ n1_ n2_
                                        have p118 : 0 ≤ (x13_4 : Int) := of_decide_eq_true (by first | (with_reducible assumption) | assumption)
                                        have q118 : x13_4 < (t107.length : Int) := of_decide_eq_true (by first | (with_reducible assumption) | assumption)
                                        obtain ⟨ad118, A118_0, c118_0, e118, hx118_0, hl118_0, hi118_0⟩ := at_L4 (Kd.S_reads' HO_9.out).2.2 x13_4 p118 q118
                                        cases e118
                                        obtain ⟨ce118, hce118, hMe118, hcc118⟩ := Kd.S_get HO_9.out [] x13_4 p118 (by first | exact q118 | exact of_decide_eq_true (by first | (with_reducible assumption) | assumption) | (have e_ := (Kd.S_reads' HO_9.out).1; omega))
                                        obtain ⟨ve118_0, rfl, ge118_0⟩ := hMe118
                                        have hv118_0 := hcc118 0 _ rfl
                                        rw [Nat.add_zero, show ((Kd.slice 30 k30)).sz = 1 from rfl, Nat.mul_one] at hv118_0
                                        replace hv118_0 := Option.some.inj (hv118_0.symm.trans hx118_0)
                                        rw [hv118_0] at ge118_0
                                        have HL118_0 := Aside0.mk (show Kd.R k30 30 _ _ _ _ (rd_L4 t107 x13_4) from ge118_0)
                                        clear hv118_0 ge118_0
                                        clear hcc118 hce118
                                        have HR118_0 := Aside0.mk hi118_0
                                        have HC118_0 := Aside0.mk hl118_0
                                        clear hi118_0 hl118_0
                                        replace p118 := eq_true p118
                                        replace q118 := eq_true q118
                                        have p119 : 0 ≤ (x13_4 : Int) := of_decide_eq_true (by first | (with_reducible assumption) | assumption)
                                        have q119 : x13_4 < (t107.length : Int) := of_decide_eq_true (by first | (with_reducible assumption) | assumption)
                                        obtain ⟨ad119, A119_0, c119_0, e119, hx119_0, hl119_0, hi119_0⟩ := at_L4 (Kd.S_reads' HO_9.out).2.2 x13_4 p119 q119
                                        obtain rfl : ad118 = ad119 := (by injection e119)
                                        obtain ⟨ce119, hce119, hMe119, hcc119⟩ := Kd.S_get HO_9.out [] x13_4 p119 (by first | exact q119 | exact of_decide_eq_true (by first | (with_reducible assumption) | assumption) | (have e_ := (Kd.S_reads' HO_9.out).1; omega))
                                        obtain ⟨ve119_0, rfl, ge119_0⟩ := hMe119
                                        have hv119_0 := hcc119 0 _ rfl
                                        rw [Nat.add_zero, show ((Kd.slice 30 k30)).sz = 1 from rfl, Nat.mul_one] at hv119_0
                                        replace hv119_0 := Option.some.inj (hv119_0.symm.trans hx119_0)
                                        rw [hv119_0] at ge119_0
                                        have HL119_0 := Aside0.mk (show Kd.R k30 30 _ _ _ _ (rd_L4 t107 x13_4) from ge119_0)
                                        clear hv119_0 ge119_0
                                        clear hcc119 hce119
                                        have HR119_0 := Aside0.mk hi119_0
                                        have HC119_0 := Aside0.mk hl119_0
                                        clear hi119_0 hl119_0
                                        replace p119 := eq_true p119
                                        replace q119 := eq_true q119
                                        have ea_ := Option.some.inj (hx118_0.symm.trans hx119_0)
                                        injection ea_ with ea_ en_ ec_
                                        subst ea_
                                        subst ec_
                                        clear en_
                                        have p120 : 0 ≤ (x11_3 : Int) := of_decide_eq_true (by first | (with_reducible assumption) | assumption)
                                        have q120 : x11_3 < ((rd_L4 t107 x13_4).length : Int) := of_decide_eq_true (by first | (with_reducible assumption) | assumption)
                                        obtain ⟨ad120, e120, hx120_0, hx120_1⟩ := at_T30 (by repeat (first | (with_reducible exact HR119_0.out) | (with_reducible refine Kd.C_alloc ?_ _) | (with_reducible refine Kd.C_drewN ?_ _) | (with_reducible refine Kd.C_drew ?_) | exact HR119_0.out)) x11_3 p120 q120
                                        cases e120
                                        replace p120 := eq_true p120
                                        replace q120 := eq_true q120
                                        refine start_ (n := 21) (S := fun w' => w'.cell? ⟨gb114, 0, none⟩ = some (.int .i64 x115000_4) ∧ w'.cell? ⟨gb114, 1, none⟩ = some (.int .i64 x115001_4) ∧ w'.cell? (ad118.add (x13_4).toNat) = some (.slice (some ad120) (rd_L4 t107 x13_4).length c118_0) ∧ w'.cell? (ad118.add (x13_4).toNat) = some (.slice (some ad120) (rd_L4 t107 x13_4).length c118_0) ∧ w'.cell? (ad120.add ((x11_3).toNat * 2)) = some (.int .i64 ((rd_T30 (rd_L4 t107 x13_4) x11_3).f0)) ∧ w'.cell? ⟨(ad120.add ((x11_3).toNat * 2)).block, (ad120.add ((x11_3).toNat * 2)).off + 1, none⟩ = some (.int .i64 ((rd_T30 (rd_L4 t107 x13_4) x11_3).f1))) (ds := []) #[false, false, false, false, false, false, false, false, false, false, false, false, false, false, false, false, false, false, false, false, false] (by kernel_rfl) rfl rfl ⟨(blk_cell BK114.out 0).trans rfl, (blk_cell BK114.out 1).trans rfl, hx118_0, hx119_0, hx120_0, hx120_1⟩ (fun hHeld => ?_); refine with_tabW verditerlaw01_washPots.tab18 verditerlaw01_washPots.bits18 (fun HT_ HW_ => ?_)
                                        generalize wr.drew = w44 at HO_9 BK114 HB HL118_0 HL119_0 HR118_0 HR119_0 hx118_0 hx119_0 hx120_0 hx120_1 hHeld ⊢
                                        refine pure_ (i := 0) (N := some 67) (v := ?_) (a' := ?_) #[true, false, false, false, false, false, false, false, false, false, false, false, false, false, false, false, false, false, false, false, false] rfl rfl (any_of HT_.out (by kernel_rfl)) (fun _ _ _ h => h) (Or.inl ⟨by rfl, ?_⟩) ?_ ?_
                                        rotate_left
                                        · intro w'
                                          go_simp
                                          with_reducible rfl
                                        rotate_left
                                        · simp only [Act.put, List.setIfInBounds_toArray, List.set_cons_zero, List.set_cons_succ, i64_w, i32_w]
                                          rfl
                                        refine pure_ (i := 1) (N := some 68) (v := ?_) (a' := ?_) #[true, true, false, false, false, false, false, false, false, false, false, false, false, false, false, false, false, false, false, false, false] rfl rfl (any_of HT_.out (by kernel_rfl)) (fun _ _ _ h => h) (Or.inl ⟨by rfl, ?_⟩) ?_ ?_
                                        rotate_left
                                        · intro w'
                                          go_simp
                                          with_reducible rfl
                                        rotate_left
                                        · simp only [Act.put, List.setIfInBounds_toArray, List.set_cons_zero, List.set_cons_succ, i64_w, i32_w]
                                          rfl
                                        refine pure_ (i := 2) (N := some 69) (v := ?_) (a' := ?_) #[true, true, true, false, false, false, false, false, false, false, false, false, false, false, false, false, false, false, false, false, false] rfl rfl (any_of HT_.out (by kernel_rfl)) (fun _ _ _ h => h) (Or.inl ⟨by rfl, ?_⟩) ?_ ?_
                                        rotate_left
                                        · intro w'
                                          go_simp
                                          with_reducible rfl
                                        rotate_left
                                        · simp only [Act.put, List.setIfInBounds_toArray, List.set_cons_zero, List.set_cons_succ, i64_w, i32_w]
                                          rfl
                                        refine pure_ (i := 5) (N := some 72) (v := ?_) (a' := ?_) #[true, true, true, false, false, true, false, false, false, false, false, false, false, false, false, false, false, false, false, false, false] rfl rfl (any_of HT_.out (by kernel_rfl)) (fun _ _ _ h => h) (Or.inl ⟨by rfl, ?_⟩) ?_ ?_
                                        rotate_left
                                        · intro w'
                                          go_simp
                                          with_reducible rfl
                                        rotate_left
                                        · simp only [Act.put, List.setIfInBounds_toArray, List.set_cons_zero, List.set_cons_succ, i64_w, i32_w]
                                          rfl
                                        refine pure_ (i := 6) (N := some 73) (v := ?_) (a' := ?_) #[true, true, true, false, false, true, true, false, false, false, false, false, false, false, false, false, false, false, false, false, false] rfl rfl (any_of HT_.out (by kernel_rfl)) (fun _ _ _ h => h) (Or.inl ⟨by rfl, ?_⟩) ?_ ?_
                                        rotate_left
                                        · intro w'
                                          go_simp
                                          with_reducible rfl
                                        rotate_left
                                        · simp only [Act.put, List.setIfInBounds_toArray, List.set_cons_zero, List.set_cons_succ, i64_w, i32_w]
                                          rfl
                                        refine take_ (i := 3) (N := some 70) (v := ?_) (a' := ?_) #[true, true, true, true, false, true, true, false, false, false, false, false, false, false, false, false, false, false, false, false, false] rfl rfl (take_ofW HT_.out HW_.out (by kernel_rfl)) (fun _ _ _ h => h) (Or.inl ⟨by rfl, ?_⟩) hHeld ?_ ?_
                                        rotate_left
                                        · rintro w' ⟨s0, s1, s2, s3, s4, s5⟩
                                          go_simp
                                          with_reducible rfl
                                        rotate_left
                                        · simp only [Act.put, List.setIfInBounds_toArray, List.set_cons_zero, List.set_cons_succ, i64_w, i32_w]
                                          rfl
                                        refine pure_ (i := 4) (N := some 71) (v := ?_) (a' := ?_) #[true, true, true, true, true, true, true, false, false, false, false, false, false, false, false, false, false, false, false, false, false] rfl rfl (any_of HT_.out (by kernel_rfl)) (fun _ _ _ h => h) (Or.inl ⟨by rfl, ?_⟩) ?_ ?_
                                        rotate_left
                                        · intro w'
                                          go_simp
                                          with_reducible rfl
                                        rotate_left
                                        · simp only [Act.put, List.setIfInBounds_toArray, List.set_cons_zero, List.set_cons_succ, i64_w, i32_w]
                                          rfl
                                        refine pure_ (i := 7) (N := some 74) (v := ?_) (a' := ?_) #[true, true, true, true, true, true, true, true, false, false, false, false, false, false, false, false, false, false, false, false, false] rfl rfl (any_of HT_.out (by kernel_rfl)) (fun _ _ _ h => h) (Or.inl ⟨by rfl, ?_⟩) ?_ ?_
                                        rotate_left
                                        · intro w'
                                          go_simp
                                          with_reducible rfl
                                        rotate_left
                                        · simp only [Act.put, List.setIfInBounds_toArray, List.set_cons_zero, List.set_cons_succ, i64_w, i32_w]
                                          rfl
                                        refine pure_ (i := 8) (N := some 75) (v := ?_) (a' := ?_) #[true, true, true, true, true, true, true, true, true, false, false, false, false, false, false, false, false, false, false, false, false] rfl rfl (any_of HT_.out (by kernel_rfl)) (fun _ _ _ h => h) (Or.inl ⟨by rfl, ?_⟩) ?_ ?_
                                        rotate_left
                                        · intro w'
                                          go_simp
                                          with_reducible rfl
                                        rotate_left
                                        · simp only [Act.put, List.setIfInBounds_toArray, List.set_cons_zero, List.set_cons_succ, i64_w, i32_w]
                                          rfl
                                        refine pure_ (i := 9) (N := some 76) (v := ?_) (a' := ?_) #[true, true, true, true, true, true, true, true, true, true, false, false, false, false, false, false, false, false, false, false, false] rfl rfl (any_of HT_.out (by kernel_rfl)) (fun _ _ _ h => h) (Or.inl ⟨by rfl, ?_⟩) ?_ ?_
                                        rotate_left
                                        · intro w'
                                          go_simp
                                          with_reducible rfl
                                        rotate_left
                                        · simp only [Act.put, List.setIfInBounds_toArray, List.set_cons_zero, List.set_cons_succ, i64_w, i32_w]
                                          rfl
                                        refine pure_ (i := 10) (N := some 77) (v := ?_) (a' := ?_) #[true, true, true, true, true, true, true, true, true, true, true, false, false, false, false, false, false, false, false, false, false] rfl rfl (any_of HT_.out (by kernel_rfl)) (fun _ _ _ h => h) (Or.inl ⟨by rfl, ?_⟩) ?_ ?_
                                        rotate_left
                                        · intro w'
                                          go_simp
                                          with_reducible rfl
                                        rotate_left
                                        · simp only [Act.put, List.setIfInBounds_toArray, List.set_cons_zero, List.set_cons_succ, i64_w, i32_w]
                                          rfl
                                        refine pure_ (i := 11) (N := some 78) (v := ?_) (a' := ?_) #[true, true, true, true, true, true, true, true, true, true, true, true, false, false, false, false, false, false, false, false, false] rfl rfl (any_of HT_.out (by kernel_rfl)) (fun _ _ _ h => h) (Or.inl ⟨by rfl, ?_⟩) ?_ ?_
                                        rotate_left
                                        · intro w'
                                          go_simp
                                          with_reducible rfl
                                        rotate_left
                                        · simp only [Act.put, List.setIfInBounds_toArray, List.set_cons_zero, List.set_cons_succ, i64_w, i32_w]
                                          rfl
                                        refine pure_ (i := 13) (N := some 80) (v := ?_) (a' := ?_) #[true, true, true, true, true, true, true, true, true, true, true, true, false, true, false, false, false, false, false, false, false] rfl rfl (any_of HT_.out (by kernel_rfl)) (fun _ _ _ h => h) (Or.inl ⟨by rfl, ?_⟩) ?_ ?_
                                        rotate_left
                                        · intro w'
                                          go_simp
                                          with_reducible rfl
                                        rotate_left
                                        · simp only [Act.put, List.setIfInBounds_toArray, List.set_cons_zero, List.set_cons_succ, i64_w, i32_w]
                                          rfl
                                        refine take_ (i := 12) (N := some 79) (v := ?_) (a' := ?_) #[true, true, true, true, true, true, true, true, true, true, true, true, true, true, false, false, false, false, false, false, false] rfl rfl (take_ofW HT_.out HW_.out (by kernel_rfl)) (fun _ _ _ h => h) (Or.inl ⟨by rfl, ?_⟩) hHeld ?_ ?_
                                        rotate_left
                                        · rintro w' ⟨s0, s1, s2, s3, s4, s5⟩
                                          go_simp
                                          with_reducible rfl
                                        rotate_left
                                        · simp only [Act.put, List.setIfInBounds_toArray, List.set_cons_zero, List.set_cons_succ, i64_w, i32_w]
                                          rfl
                                        refine pure_ (i := 14) (N := some 81) (v := ?_) (a' := ?_) #[true, true, true, true, true, true, true, true, true, true, true, true, true, true, true, false, false, false, false, false, false] rfl rfl (any_of HT_.out (by kernel_rfl)) (fun _ _ _ h => h) (Or.inl ⟨by rfl, ?_⟩) ?_ ?_
                                        rotate_left
                                        · intro w'
                                          go_simp
                                          with_reducible rfl
                                        rotate_left
                                        · simp only [Act.put, List.setIfInBounds_toArray, List.set_cons_zero, List.set_cons_succ, i64_w, i32_w]
                                          rfl
                                        refine take_ (i := 15) (N := some 82) (v := ?_) (a' := ?_) #[true, true, true, true, true, true, true, true, true, true, true, true, true, true, true, true, false, false, false, false, false] rfl rfl (take_ofW HT_.out HW_.out (by kernel_rfl)) (fun _ _ _ h => h) (Or.inl ⟨by rfl, ?_⟩) hHeld ?_ ?_
                                        rotate_left
                                        · rintro w' ⟨s0, s1, s2, s3, s4, s5⟩
                                          go_simp
                                          with_reducible rfl
                                        rotate_left
                                        · simp only [Act.put, List.setIfInBounds_toArray, List.set_cons_zero, List.set_cons_succ, i64_w, i32_w]
                                          rfl
                                        refine take_ (i := 16) (N := some 83) (v := ?_) (a' := ?_) #[true, true, true, true, true, true, true, true, true, true, true, true, true, true, true, true, true, false, false, false, false] rfl rfl (take_ofW HT_.out HW_.out (by kernel_rfl)) (fun _ _ _ h => h) (Or.inl ⟨by rfl, ?_⟩) hHeld ?_ ?_
                                        rotate_left
                                        · rintro w' ⟨s0, s1, s2, s3, s4, s5⟩
                                          go_simp
                                          with_reducible rfl
                                        rotate_left
                                        · simp only [Act.put, List.setIfInBounds_toArray, List.set_cons_zero, List.set_cons_succ, i64_w, i32_w]
                                          rfl
                                        refine one_ (i := 17) (N := some 84) #[true, true, true, true, true, true, true, true, true, true, true, true, true, true, true, true, true, true, false, false, false] rfl rfl (one_of HT_.out (by kernel_rfl)) (by decide) (fun K hK => ?_)
                                        refine Kd.R_lit_step k30 _ 30 ?hg (N := 84) ?hd (xs := ([(⟨(rd_T30 (rd_L4 t107 x13_4) x11_3).f0, (rd_T30 (rd_L4 t107 x13_4) x11_3).f1⟩ : S30), (⟨x115000_4, x115001_4⟩ : S30)] : List (S30))) (inner := [.int .i64 ((rd_T30 (rd_L4 t107 x13_4) x11_3).f0), .int .i64 ((rd_T30 (rd_L4 t107 x13_4) x11_3).f1), .int .i64 x115000_4, .int .i64 x115001_4]) (ok := fun _ => True) (okp := fun _ => True) ?hr ?hp (fun _ hk => hk) trivial (Below.refl _ _) (Nat.le_refl _) (by simp) ?_; (case hd => rfl); (case hg => rfl); (case hr => first | (go_simp; done) | (go_simp; rfl)); (case hp => exact (Reps.c2 (show Kd.M k30 _ _ _ (⟨(rd_T30 (rd_L4 t107 x13_4) x11_3).f0, (rd_T30 (rd_L4 t107 x13_4) x11_3).f1⟩ : S30) [.int .i64 ((rd_T30 (rd_L4 t107 x13_4) x11_3).f0), .int .i64 ((rd_T30 (rd_L4 t107 x13_4) x11_3).f1)] from (k30_mkM _ _ _ (⟨(rd_T30 (rd_L4 t107 x13_4) x11_3).f0, (rd_T30 (rd_L4 t107 x13_4) x11_3).f1⟩ : S30) )) (Reps.c2 (show Kd.M k30 _ _ _ (⟨x115000_4, x115001_4⟩ : S30) [.int .i64 x115000_4, .int .i64 x115001_4] from (k30_mkM _ _ _ (⟨x115000_4, x115001_4⟩ : S30) )) (Reps.none _ _))))
                                        intro v122 w45 ho46 hb hg_ hnew_
                                        have HS2_ := (hb.cell (World.block_lt_of_cell? _ _ (hHeld.2.2.1))).trans (hHeld.2.2.1)
                                        have HS3_ := (hb.cell (World.block_lt_of_cell? _ _ (hHeld.2.2.2.1))).trans (hHeld.2.2.2.1)
                                        have HS4_ := (hb.cell (World.block_lt_of_cell? _ _ (hHeld.2.2.2.2.1))).trans (hHeld.2.2.2.2.1)
                                        have HS5_ := (hb.cell (World.block_lt_of_cell? _ _ (hHeld.2.2.2.2.2))).trans (hHeld.2.2.2.2.2)
                                        clear hg_ hnew_
                                        (first | rw [← Ny121.out] at ho46 | (simp only [Int.reduceToNat] at ho46; rw [← Ny121.out] at ho46))
                                        have n0_ := Aside0.mk (Kd.S_elder' (by (with_reducible repeat (first | apply Kd.S_alloc | apply Kd.S_drewN | apply Kd.S_drew)); exact HO_9.out) (Kd.R_base ho46) hb)
                                        have n1_ := Aside0.mk (Kd.R_elder' (by (with_reducible repeat (first | apply Kd.R_alloc | apply Kd.R_drewN | apply Kd.R_drew)); exact HL118_0.out) (Kd.R_base ho46) hb)
                                        have n2_ := Aside0.mk (Kd.R_elder' (by (with_reducible repeat (first | apply Kd.R_alloc | apply Kd.R_drewN | apply Kd.R_drew)); exact HL119_0.out) (Kd.R_base ho46) hb)
                                        have n3_ := Aside0.mk (Kd.R_lower (Kd.R_newB (Kd.R_new' (Kd.R_new' ho46 (Kd.R_lt (by (with_reducible repeat (first | apply Kd.R_alloc | apply Kd.R_drewN | apply Kd.R_drew)); exact HL118_0.out))) (Kd.R_lt (by (with_reducible repeat (first | apply Kd.R_alloc | apply Kd.R_drewN | apply Kd.R_drew)); exact HL119_0.out))) (g := gb114) (o := .cells #[.int .i64 x115000_4, .int .i64 x115001_4] 30 (0, 0)) (by (with_reducible repeat (first | refine blk_drewN ?_ _ | refine blk_drew ?_ | refine blk_alloc ?_ _)); exact BK114.out)) (below_size (by repeat (first | (with_reducible first | exact HB.out | apply below_alloc | apply pw_below_drewN | apply below_drew1 | refine below_set ?_ GE114.out) | exact HB.out))))
                                        have n4_ := Aside0.mk (blk_below (g := gb114) (o := .cells #[.int .i64 x115000_4, .int .i64 x115001_4] 30 (0, 0)) (by (with_reducible repeat (first | refine blk_drewN ?_ _ | refine blk_drew ?_ | refine blk_alloc ?_ _)); exact BK114.out) hb)
                                        have n5_ := Aside0.mk (Kd.C_below (by repeat (first | (with_reducible exact HR118_0.out) | (with_reducible refine Kd.C_alloc ?_ _) | (with_reducible refine Kd.C_drewN ?_ _) | (with_reducible refine Kd.C_drew ?_) | exact HR118_0.out)) hb)
                                        have n6_ := Aside0.mk (Kd.C_below (by repeat (first | (with_reducible exact HR119_0.out) | (with_reducible refine Kd.C_alloc ?_ _) | (with_reducible refine Kd.C_drewN ?_ _) | (with_reducible refine Kd.C_drew ?_) | exact HR119_0.out)) hb)
                                        have n7_ := Aside0.mk (below_step (by repeat (first | (with_reducible first | exact HB.out | apply below_alloc | apply pw_below_drewN | apply below_drew1 | refine below_set ?_ GE114.out) | exact HB.out)) hb)
                                        clear HO_9
                                        clear HL118_0
                                        clear HL119_0
                                        clear BK114
                                        clear HR118_0
                                        clear HR119_0
                                        clear HB
                                        have HO_9 := n0_
                                        have HL118_0 := n1_
                                        have HL119_0 := n2_
                                        have HO123 := n3_
                                        have BK114 := n4_
                                        have HR118_0 := n5_
                                        have HR119_0 := n6_
                                        have HB := n7_
                                        clear n0_ n1_ n2_ n3_ n4_ n5_ n6_ n7_
                                        clear hb ho46
                                        obtain ⟨Ao47, co47, eo47⟩ := Kd.R_slice HO123.out
                                        (first | subst eo47 | (injection eo47 with f1_ f2_ f3_; have f4_ := f1_.symm; have f5_ := f3_.symm; clear f1_ f2_ f3_; subst f4_; subst f5_))
                                        refine hK.out _ _ ⟨(blk_cell BK114.out 0).trans rfl, (blk_cell BK114.out 1).trans rfl, HS2_, HS3_, HS4_, HS5_⟩ (fun hHeld => ?_)
                                        clear hK K
                                        refine norm_ (a' := ?_) ?_ ?_
                                        rotate_left
                                        · show Act.put _ (some 84) _ = _
                                          simp only [Act.put, List.setIfInBounds_toArray, List.set_cons_zero, List.set_cons_succ, i64_w, i32_w]
                                          rfl
                                        refine one_ (i := 18) (N := some 85) #[true, true, true, true, true, true, true, true, true, true, true, true, true, true, true, true, true, true, true, false, false] rfl rfl (one_of HT_.out (by kernel_rfl)) (by decide) (fun K hK => ?_)
                                        refine goes_ Try.func43 (by kernel_rfl) rfl #[.slice Ao47 y121.length co47] (by rfl) rfl rfl (by (try simp only [List.map_toArray, List.map_cons, List.map_nil]); first | done | rfl | (simp only [List.length_drop, List.length_take]; rfl)) ?_
                                        with_reducible refine (verditerlaw01_small.calls k4 _ _ y121 false _ ?side1 ?side2 A33.out).mono ?_
                                        (case side1 => repeat (first | exact (Kd.R_reads' HO123.out).2.2 | (with_reducible refine Kd.C_alloc ?_ _) | (with_reducible refine Kd.C_drewN ?_ _) | (with_reducible refine Kd.C_drew ?_)))
                                        (case side2 => exact (Kd.R_reads' HO123.out).2.1)
                                        rintro e w' ⟨rfl, ⟨nd, rfl⟩⟩
                                        refine ⟨_, rfl, ?_⟩
                                        refine hK.out _ _ ⟨(blk_cell BK114.out 0).trans rfl, (blk_cell BK114.out 1).trans rfl, hHeld.2.2.1, hHeld.2.2.2.1, hHeld.2.2.2.2.1, hHeld.2.2.2.2.2⟩ (fun hHeld => ?_)
                                        clear hK K
                                        refine norm_ (a' := ?_) ?_ ?_
                                        rotate_left
                                        · show Act.put _ (some 85) _ = _
                                          simp only [Act.put, List.setIfInBounds_toArray, List.set_cons_zero, List.set_cons_succ, i64_w, i32_w]
                                          rfl
                                        refine pure_ (i := 19) (N := some 86) (v := ?_) (a' := ?_) #[true, true, true, true, true, true, true, true, true, true, true, true, true, true, true, true, true, true, true, true, false] rfl rfl (any_of HT_.out (by kernel_rfl)) (fun _ _ _ h => h) (Or.inl ⟨by rfl, ?_⟩) ?_ ?_
                                        rotate_left
                                        · intro w'
                                          go_simp
                                          with_reducible rfl
                                        rotate_left
                                        · simp only [Act.put, List.setIfInBounds_toArray, List.set_cons_zero, List.set_cons_succ, i64_w, i32_w]
                                          rfl
                                        refine pure_ (i := 20) (N := some 87) (v := ?_) (a' := ?_) #[true, true, true, true, true, true, true, true, true, true, true, true, true, true, true, true, true, true, true, true, true] rfl rfl (any_of HT_.out (by kernel_rfl)) (fun _ _ _ h => h) (Or.inl ⟨by rfl, ?_⟩) ?_ ?_
                                        rotate_left
                                        · intro w'
                                          go_simp
                                          with_reducible rfl
                                        rotate_left
                                        · simp only [Act.put, List.setIfInBounds_toArray, List.set_cons_zero, List.set_cons_succ, i64_w, i32_w]
                                          rfl
                                        refine done_ (done_of HT_.out (by kernel_rfl)) ?_
                                        try go_wp2
                                        go_ret
                                        exact ⟨by first | rfl | (simp [errW_none, errW_some] <;> rfl) | (simp [*, errW_none, errW_some] <;> rfl), by repeat (first | (with_reducible first | exact HB.out | apply below_alloc | apply pw_below_drewN | apply below_drew1 | refine below_set ?_ GE114.out) | exact HB.out)⟩
                                    · rw [if_neg c32] at H
                                      exact absurd H (by simp)
                                  · rw [if_neg c31] at H
                                    exact absurd H (by simp)
                                · rw [if_neg c30] at H
                                  have c30b0 : (((rd_L4 t107 x13_4).length : Int) == (l0.length : Int)) = false := beq_eq_false_iff_ne.mpr c30
                                  have c30b1 : (((rd_L4 t107 x13_4).length : Int) != (l0.length : Int)) = true := bne_iff_ne.mpr c30
                                  have c30b2 : ((rd_L4 t107 x13_4).length == l0.length) = false := by first | simpa using c30 | (simp at c30 ⊢; omega)
                                  obtain rfl := Option.some.inj H
                                  try go_wp2
                                  have n0_ := Aside0.mk (Kd.S_drew HO_9.out)
                                  have n1_ := Aside0.mk (blk_drew BK114.out)
                                  have n2_ := Aside0.mk (below_drew1 HB.out)
                                  clear HO_9
                                  clear BK114
                                  clear HB
                                  have HO_9 := n0_
                                  have BK114 := n1_
                                  have HB := n2_
                                  clear n0_ n1_ n2_
                                  have p118 : 0 ≤ (x13_4 : Int) := of_decide_eq_true (by first | (with_reducible assumption) | assumption)
                                  have q118 : x13_4 < (t107.length : Int) := of_decide_eq_true (by first | (with_reducible assumption) | assumption)
                                  obtain ⟨ad118, A118_0, c118_0, e118, hx118_0, hl118_0, hi118_0⟩ := at_L4 (Kd.S_reads' HO_9.out).2.2 x13_4 p118 q118
                                  cases e118
                                  obtain ⟨ce118, hce118, hMe118, hcc118⟩ := Kd.S_get HO_9.out [] x13_4 p118 (by first | exact q118 | exact of_decide_eq_true (by first | (with_reducible assumption) | assumption) | (have e_ := (Kd.S_reads' HO_9.out).1; omega))
                                  obtain ⟨ve118_0, rfl, ge118_0⟩ := hMe118
                                  have hv118_0 := hcc118 0 _ rfl
                                  rw [Nat.add_zero, show ((Kd.slice 30 k30)).sz = 1 from rfl, Nat.mul_one] at hv118_0
                                  replace hv118_0 := Option.some.inj (hv118_0.symm.trans hx118_0)
                                  rw [hv118_0] at ge118_0
                                  have HL118_0 := Aside0.mk (show Kd.R k30 30 _ _ _ _ (rd_L4 t107 x13_4) from ge118_0)
                                  clear hv118_0 ge118_0
                                  clear hcc118 hce118
                                  have HR118_0 := Aside0.mk hi118_0
                                  have HC118_0 := Aside0.mk hl118_0
                                  clear hi118_0 hl118_0
                                  replace p118 := eq_true p118
                                  replace q118 := eq_true q118
                                  refine start_ (n := 21) (S := fun w' => w'.cell? (ad118.add (x13_4).toNat) = some (.slice A118_0 (rd_L4 t107 x13_4).length c118_0)) (ds := []) #[false, false, false, false, false, false, false, false, false, false, false, false, false, false, false, false, false, false, false, false, false] (by kernel_rfl) rfl rfl (hx118_0) (fun hHeld => ?_); refine with_tabW verditerlaw01_washPots.tab18 verditerlaw01_washPots.bits18 (fun HT_ HW_ => ?_)
                                  generalize wr.drew = w48 at HO_9 BK114 HB HL118_0 HR118_0 hx118_0 hHeld ⊢
                                  refine pure_ (i := 0) (N := some 67) (v := ?_) (a' := ?_) #[true, false, false, false, false, false, false, false, false, false, false, false, false, false, false, false, false, false, false, false, false] rfl rfl (any_of HT_.out (by kernel_rfl)) (fun _ _ _ h => h) (Or.inl ⟨by rfl, ?_⟩) ?_ ?_
                                  rotate_left
                                  · intro w'
                                    go_simp
                                    with_reducible rfl
                                  rotate_left
                                  · simp only [Act.put, List.setIfInBounds_toArray, List.set_cons_zero, List.set_cons_succ, i64_w, i32_w]
                                    rfl
                                  refine pure_ (i := 1) (N := some 68) (v := ?_) (a' := ?_) #[true, true, false, false, false, false, false, false, false, false, false, false, false, false, false, false, false, false, false, false, false] rfl rfl (any_of HT_.out (by kernel_rfl)) (fun _ _ _ h => h) (Or.inl ⟨by rfl, ?_⟩) ?_ ?_
                                  rotate_left
                                  · intro w'
                                    go_simp
                                    with_reducible rfl
                                  rotate_left
                                  · simp only [Act.put, List.setIfInBounds_toArray, List.set_cons_zero, List.set_cons_succ, i64_w, i32_w]
                                    rfl
                                  refine pure_ (i := 2) (N := some 69) (v := ?_) (a' := ?_) #[true, true, true, false, false, false, false, false, false, false, false, false, false, false, false, false, false, false, false, false, false] rfl rfl (any_of HT_.out (by kernel_rfl)) (fun _ _ _ h => h) (Or.inl ⟨by rfl, ?_⟩) ?_ ?_
                                  rotate_left
                                  · intro w'
                                    go_simp
                                    with_reducible rfl
                                  rotate_left
                                  · simp only [Act.put, List.setIfInBounds_toArray, List.set_cons_zero, List.set_cons_succ, i64_w, i32_w]
                                    rfl
                                  refine pure_ (i := 5) (N := some 72) (v := ?_) (a' := ?_) #[true, true, true, false, false, true, false, false, false, false, false, false, false, false, false, false, false, false, false, false, false] rfl rfl (any_of HT_.out (by kernel_rfl)) (fun _ _ _ h => h) (Or.inl ⟨by rfl, ?_⟩) ?_ ?_
                                  rotate_left
                                  · intro w'
                                    go_simp
                                    with_reducible rfl
                                  rotate_left
                                  · simp only [Act.put, List.setIfInBounds_toArray, List.set_cons_zero, List.set_cons_succ, i64_w, i32_w]
                                    rfl
                                  refine pure_ (i := 6) (N := some 73) (v := ?_) (a' := ?_) #[true, true, true, false, false, true, true, false, false, false, false, false, false, false, false, false, false, false, false, false, false] rfl rfl (any_of HT_.out (by kernel_rfl)) (fun _ _ _ h => h) (Or.inl ⟨by rfl, ?_⟩) ?_ ?_
                                  rotate_left
                                  · intro w'
                                    go_simp
                                    with_reducible rfl
                                  rotate_left
                                  · simp only [Act.put, List.setIfInBounds_toArray, List.set_cons_zero, List.set_cons_succ, i64_w, i32_w]
                                    rfl
                                  refine take_ (i := 3) (N := some 70) (v := ?_) (a' := ?_) #[true, true, true, true, false, true, true, false, false, false, false, false, false, false, false, false, false, false, false, false, false] rfl rfl (take_ofW HT_.out HW_.out (by kernel_rfl)) (fun _ _ _ h => h) (Or.inl ⟨by rfl, ?_⟩) hHeld ?_ ?_
                                  rotate_left
                                  · intro w' s0
                                    go_simp
                                    with_reducible rfl
                                  rotate_left
                                  · simp only [Act.put, List.setIfInBounds_toArray, List.set_cons_zero, List.set_cons_succ, i64_w, i32_w]
                                    rfl
                                  refine pure_ (i := 4) (N := some 71) (v := ?_) (a' := ?_) #[true, true, true, true, true, true, true, false, false, false, false, false, false, false, false, false, false, false, false, false, false] rfl rfl (any_of HT_.out (by kernel_rfl)) (fun _ _ _ h => h) (Or.inl ⟨by rfl, ?_⟩) ?_ ?_
                                  rotate_left
                                  · intro w'
                                    go_simp
                                    with_reducible rfl
                                  rotate_left
                                  · simp only [Act.put, List.setIfInBounds_toArray, List.set_cons_zero, List.set_cons_succ, i64_w, i32_w]
                                    rfl
                                  refine pure_ (i := 7) (N := some 74) (v := ?_) (a' := ?_) #[true, true, true, true, true, true, true, true, false, false, false, false, false, false, false, false, false, false, false, false, false] rfl rfl (any_of HT_.out (by kernel_rfl)) (fun _ _ _ h => h) (Or.inl ⟨by rfl, ?_⟩) ?_ ?_
                                  rotate_left
                                  · intro w'
                                    go_simp
                                    with_reducible rfl
                                  rotate_left
                                  · simp only [Act.put, List.setIfInBounds_toArray, List.set_cons_zero, List.set_cons_succ, i64_w, i32_w]
                                    rfl
                                  refine pure_ (i := 8) (N := some 75) (v := ?_) (a' := ?_) #[true, true, true, true, true, true, true, true, true, false, false, false, false, false, false, false, false, false, false, false, false] rfl rfl (any_of HT_.out (by kernel_rfl)) (fun _ _ _ h => h) (Or.inl ⟨by rfl, ?_⟩) ?_ ?_
                                  rotate_left
                                  · intro w'
                                    go_simp
                                    with_reducible rfl
                                  rotate_left
                                  · simp only [Act.put, List.setIfInBounds_toArray, List.set_cons_zero, List.set_cons_succ, i64_w, i32_w]
                                    rfl
                                  refine pure_ (i := 9) (N := some 76) (v := undef) (a' := ?_) #[true, true, true, true, true, true, true, true, true, true, false, false, false, false, false, false, false, false, false, false, false] rfl rfl (any_of HT_.out (by kernel_rfl)) (fun _ _ _ h => h) (Or.inr ⟨by rfl, rfl⟩) ?_ ?_
                                  rotate_left
                                  · simp only [Act.put, List.setIfInBounds_toArray, List.set_cons_zero, List.set_cons_succ, i64_w, i32_w]
                                    rfl
                                  refine pure_ (i := 10) (N := some 77) (v := undef) (a' := ?_) #[true, true, true, true, true, true, true, true, true, true, true, false, false, false, false, false, false, false, false, false, false] rfl rfl (any_of HT_.out (by kernel_rfl)) (fun _ _ _ h => h) (Or.inr ⟨by rfl, rfl⟩) ?_ ?_
                                  rotate_left
                                  · simp only [Act.put, List.setIfInBounds_toArray, List.set_cons_zero, List.set_cons_succ, i64_w, i32_w]
                                    rfl
                                  refine pure_ (i := 11) (N := some 78) (v := undef) (a' := ?_) #[true, true, true, true, true, true, true, true, true, true, true, true, false, false, false, false, false, false, false, false, false] rfl rfl (any_of HT_.out (by kernel_rfl)) (fun _ _ _ h => h) (Or.inr ⟨by rfl, rfl⟩) ?_ ?_
                                  rotate_left
                                  · simp only [Act.put, List.setIfInBounds_toArray, List.set_cons_zero, List.set_cons_succ, i64_w, i32_w]
                                    rfl
                                  refine pure_ (i := 12) (N := some 79) (v := undef) (a' := ?_) #[true, true, true, true, true, true, true, true, true, true, true, true, true, false, false, false, false, false, false, false, false] rfl rfl (any_of HT_.out (by kernel_rfl)) (fun _ _ _ h => h) (Or.inr ⟨by rfl, rfl⟩) ?_ ?_
                                  rotate_left
                                  · simp only [Act.put, List.setIfInBounds_toArray, List.set_cons_zero, List.set_cons_succ, i64_w, i32_w]
                                    rfl
                                  refine pure_ (i := 13) (N := some 80) (v := undef) (a' := ?_) #[true, true, true, true, true, true, true, true, true, true, true, true, true, true, false, false, false, false, false, false, false] rfl rfl (any_of HT_.out (by kernel_rfl)) (fun _ _ _ h => h) (Or.inr ⟨by rfl, rfl⟩) ?_ ?_
                                  rotate_left
                                  · simp only [Act.put, List.setIfInBounds_toArray, List.set_cons_zero, List.set_cons_succ, i64_w, i32_w]
                                    rfl
                                  refine pure_ (i := 14) (N := some 81) (v := undef) (a' := ?_) #[true, true, true, true, true, true, true, true, true, true, true, true, true, true, true, false, false, false, false, false, false] rfl rfl (any_of HT_.out (by kernel_rfl)) (fun _ _ _ h => h) (Or.inr ⟨by rfl, rfl⟩) ?_ ?_
                                  rotate_left
                                  · simp only [Act.put, List.setIfInBounds_toArray, List.set_cons_zero, List.set_cons_succ, i64_w, i32_w]
                                    rfl
                                  refine pure_ (i := 15) (N := some 82) (v := undef) (a' := ?_) #[true, true, true, true, true, true, true, true, true, true, true, true, true, true, true, true, false, false, false, false, false] rfl rfl (any_of HT_.out (by kernel_rfl)) (fun _ _ _ h => h) (Or.inr ⟨by rfl, rfl⟩) ?_ ?_
                                  rotate_left
                                  · simp only [Act.put, List.setIfInBounds_toArray, List.set_cons_zero, List.set_cons_succ, i64_w, i32_w]
                                    rfl
                                  refine pure_ (i := 16) (N := some 83) (v := undef) (a' := ?_) #[true, true, true, true, true, true, true, true, true, true, true, true, true, true, true, true, true, false, false, false, false] rfl rfl (any_of HT_.out (by kernel_rfl)) (fun _ _ _ h => h) (Or.inr ⟨by rfl, rfl⟩) ?_ ?_
                                  rotate_left
                                  · simp only [Act.put, List.setIfInBounds_toArray, List.set_cons_zero, List.set_cons_succ, i64_w, i32_w]
                                    rfl
                                  refine pure_ (i := 17) (N := some 84) (v := undef) (a' := ?_) #[true, true, true, true, true, true, true, true, true, true, true, true, true, true, true, true, true, true, false, false, false] rfl rfl (any_of HT_.out (by kernel_rfl)) (fun _ _ _ h => h) (Or.inr ⟨by rfl, rfl⟩) ?_ ?_
                                  rotate_left
                                  · simp only [Act.put, List.setIfInBounds_toArray, List.set_cons_zero, List.set_cons_succ, i64_w, i32_w]
                                    rfl
                                  refine pure_ (i := 18) (N := some 85) (v := undef) (a' := ?_) #[true, true, true, true, true, true, true, true, true, true, true, true, true, true, true, true, true, true, true, false, false] rfl rfl (any_of HT_.out (by kernel_rfl)) (fun _ _ _ h => h) (Or.inr ⟨by rfl, rfl⟩) ?_ ?_
                                  rotate_left
                                  · simp only [Act.put, List.setIfInBounds_toArray, List.set_cons_zero, List.set_cons_succ, i64_w, i32_w]
                                    rfl
                                  refine pure_ (i := 19) (N := some 86) (v := undef) (a' := ?_) #[true, true, true, true, true, true, true, true, true, true, true, true, true, true, true, true, true, true, true, true, false] rfl rfl (any_of HT_.out (by kernel_rfl)) (fun _ _ _ h => h) (Or.inr ⟨by rfl, rfl⟩) ?_ ?_
                                  rotate_left
                                  · simp only [Act.put, List.setIfInBounds_toArray, List.set_cons_zero, List.set_cons_succ, i64_w, i32_w]
                                    rfl
                                  refine pure_ (i := 20) (N := some 87) (v := ?_) (a' := ?_) #[true, true, true, true, true, true, true, true, true, true, true, true, true, true, true, true, true, true, true, true, true] rfl rfl (any_of HT_.out (by kernel_rfl)) (fun _ _ _ h => h) (Or.inl ⟨by rfl, ?_⟩) ?_ ?_
                                  rotate_left
                                  · intro w'
                                    go_simp
                                    with_reducible rfl
                                  rotate_left
                                  · simp only [Act.put, List.setIfInBounds_toArray, List.set_cons_zero, List.set_cons_succ, i64_w, i32_w]
                                    rfl
                                  refine done_ (done_of HT_.out (by kernel_rfl)) ?_
                                  try go_wp2
                                  go_ret
                                  exact ⟨by first | rfl | (simp [errW_none, errW_some] <;> rfl) | (simp [*, errW_none, errW_some] <;> rfl), by repeat (first | (with_reducible first | exact HB.out | apply below_alloc | apply pw_below_drewN | apply below_drew1 | refine below_set ?_ GE114.out) | exact HB.out)⟩
                              · rw [if_neg c29] at H
                                exact absurd H (by simp)
                            · rw [if_neg c28] at H
                              have c28b0 : decide (x13_4 < (t107.length : Int)) = false := decide_eq_false c28
                              clear c28
                              by_cases c49 : 0 ≤ x11_3
                              · rw [if_pos c49] at H
                                have c49b0 : decide (0 ≤ x11_3) = true := decide_eq_true c49
                                clear c49
                                by_cases c50 : x11_3 < (l0.length : Int)
                                · rw [if_pos c50] at H
                                  have c50b0 : decide (x11_3 < (l0.length : Int)) = true := decide_eq_true c50
                                  clear c50
                                  replace H := Option.bind_eq_some_iff.mp H
                                  obtain ⟨⟨t116, t117⟩, A510, H⟩ := H
                                  replace H : (if (!(x115000_4 == t116) || (!(x115001_4 == t117))) = true then (some false) else (verditerlaw01_washPots.l0 k4 l0 t107 (wrap64 (x11_3 + 1)))) = some r := H
                                  have A51 := Aside0.mk A510
                                  clear A510
                                  by_cases c52 : (!(x115000_4 == t116) || (!(x115001_4 == t117))) = true
                                  · rw [if_pos c52] at H
                                    have c52b0 : (!(x115000_4 == t116) || (!(x115001_4 == t117))) = true := c52
                                    clear c52
                                    obtain rfl := Option.some.inj H
                                    try go_wp2
                                    have n0_ := Aside0.mk (Kd.S_drew HO_9.out)
                                    have n1_ := Aside0.mk (blk_drew BK114.out)
                                    have n2_ := Aside0.mk (below_drew1 HB.out)
                                    clear HO_9
                                    clear BK114
                                    clear HB
                                    have HO_9 := n0_
                                    have BK114 := n1_
                                    have HB := n2_
                                    clear n0_ n1_ n2_
                                    have p115 : 0 ≤ (x11_3 : Int) := of_decide_eq_true (by first | (with_reducible assumption) | assumption)
                                    have q115 : x11_3 < (l0.length : Int) := of_decide_eq_true (by first | (with_reducible assumption) | assumption)
                                    obtain ⟨ad115, e115, hx115_0, hx115_1⟩ := at_T58 HR0.out x11_3 p115 q115
                                    have hw115_1 := hx115_1
                                    have hw115_0 := hx115_0
                                    cases e115
                                    replace hx115_0 := (HB.out.cell (World.block_lt_of_cell? w _ hx115_0)).trans hx115_0
                                    replace hx115_1 := (HB.out.cell (World.block_lt_of_cell? w _ hx115_1)).trans hx115_1
                                    replace p115 := eq_true p115
                                    replace q115 := eq_true q115
                                    refine start_ (n := 8) (S := fun w' => w'.cell? ⟨gb114, 0, none⟩ = some (.int .i64 x115000_4) ∧ w'.cell? ⟨gb114, 1, none⟩ = some (.int .i64 x115001_4) ∧ w'.cell? (ad115.add ((x11_3).toNat * 2)) = some (.int .i64 ((rd_T58 l0 x11_3).f0)) ∧ w'.cell? ⟨(ad115.add ((x11_3).toNat * 2)).block, (ad115.add ((x11_3).toNat * 2)).off + 1, none⟩ = some (.int .i64 ((rd_T58 l0 x11_3).f1))) (ds := []) #[false, false, false, false, false, false, false, false] (by kernel_rfl) rfl rfl ⟨(blk_cell BK114.out 0).trans rfl, (blk_cell BK114.out 1).trans rfl, ((HB.out.cell (World.block_lt_of_cell? w _ hw115_0)).trans hw115_0), ((HB.out.cell (World.block_lt_of_cell? w _ hw115_1)).trans hw115_1)⟩ (fun hHeld => ?_); refine with_tabW verditerlaw01_washPots.tab21 verditerlaw01_washPots.bits21 (fun HT_ HW_ => ?_)
                                    generalize wr.drew = w53 at HO_9 BK114 HB hx115_0 hx115_1 hHeld ⊢
                                    refine pure_ (i := 1) (N := some 98) (v := ?_) (a' := ?_) #[false, true, false, false, false, false, false, false] rfl rfl (any_of HT_.out (by kernel_rfl)) (fun _ _ _ h => h) (Or.inl ⟨by rfl, ?_⟩) ?_ ?_
                                    rotate_left
                                    · intro w'
                                      go_simp
                                      with_reducible rfl
                                    rotate_left
                                    · simp only [Act.put, List.setIfInBounds_toArray, List.set_cons_zero, List.set_cons_succ, i64_w, i32_w]
                                      rfl
                                    refine pure_ (i := 2) (N := some 99) (v := ?_) (a' := ?_) #[false, true, true, false, false, false, false, false] rfl rfl (any_of HT_.out (by kernel_rfl)) (fun _ _ _ h => h) (Or.inl ⟨by rfl, ?_⟩) ?_ ?_
                                    rotate_left
                                    · intro w'
                                      go_simp
                                      with_reducible rfl
                                    rotate_left
                                    · simp only [Act.put, List.setIfInBounds_toArray, List.set_cons_zero, List.set_cons_succ, i64_w, i32_w]
                                      rfl
                                    refine pure_ (i := 3) (N := some 100) (v := ?_) (a' := ?_) #[false, true, true, true, false, false, false, false] rfl rfl (any_of HT_.out (by kernel_rfl)) (fun _ _ _ h => h) (Or.inl ⟨by rfl, ?_⟩) ?_ ?_
                                    rotate_left
                                    · intro w'
                                      go_simp
                                      with_reducible rfl
                                    rotate_left
                                    · simp only [Act.put, List.setIfInBounds_toArray, List.set_cons_zero, List.set_cons_succ, i64_w, i32_w]
                                      rfl
                                    refine pure_ (i := 4) (N := some 101) (v := ?_) (a' := ?_) #[false, true, true, true, true, false, false, false] rfl rfl (any_of HT_.out (by kernel_rfl)) (fun _ _ _ h => h) (Or.inl ⟨by rfl, ?_⟩) ?_ ?_
                                    rotate_left
                                    · intro w'
                                      go_simp
                                      with_reducible rfl
                                    rotate_left
                                    · simp only [Act.put, List.setIfInBounds_toArray, List.set_cons_zero, List.set_cons_succ, i64_w, i32_w]
                                      rfl
                                    refine take_ (i := 0) (N := some 97) (v := ?_) (a' := ?_) #[true, true, true, true, true, false, false, false] rfl rfl (take_ofW HT_.out HW_.out (by kernel_rfl)) (fun _ _ _ h => h) (Or.inl ⟨by rfl, ?_⟩) hHeld ?_ ?_
                                    rotate_left
                                    · rintro w' ⟨s0, s1, s2, s3⟩
                                      go_simp
                                      with_reducible rfl
                                    rotate_left
                                    · simp only [Act.put, List.setIfInBounds_toArray, List.set_cons_zero, List.set_cons_succ, i64_w, i32_w]
                                      rfl
                                    refine take_ (i := 5) (N := some 102) (v := ?_) (a' := ?_) #[true, true, true, true, true, true, false, false] rfl rfl (take_ofW HT_.out HW_.out (by kernel_rfl)) (fun _ _ _ h => h) (Or.inl ⟨by rfl, ?_⟩) hHeld ?_ ?_
                                    rotate_left
                                    · rintro w' ⟨s0, s1, s2, s3⟩
                                      go_simp
                                      with_reducible rfl
                                    rotate_left
                                    · simp only [Act.put, List.setIfInBounds_toArray, List.set_cons_zero, List.set_cons_succ, i64_w, i32_w]
                                      rfl
                                    refine one_ (i := 6) (N := some 103) #[true, true, true, true, true, true, true, false] rfl rfl (one_of HT_.out (by kernel_rfl)) (by decide) (fun K hK => ?_)
                                    refine goes_ Try.func45 (by kernel_rfl) rfl #[.int .i64 ((rd_T58 l0 x11_3).f1), .int .i64 1] (by rfl) rfl rfl (by (try simp only [List.map_toArray, List.map_cons, List.map_nil]); first | done | rfl | (simp only [List.length_drop, List.length_take]; rfl)) ?_
                                    with_reducible refine (verditerref01_Ratio.calls k4 ((rd_T58 l0 x11_3).f1) 1 t116 t117 _ A51.out).mono ?_
                                    rintro e w54 ⟨rfl, hb⟩
                                    refine ⟨_, rfl, ?_⟩
                                    have n0_ := Aside0.mk (Kd.S_below (by (with_reducible repeat (first | apply Kd.S_alloc | apply Kd.S_drewN | apply Kd.S_drew)); exact HO_9.out) hb)
                                    have n1_ := Aside0.mk (blk_below (g := gb114) (o := .cells #[.int .i64 x115000_4, .int .i64 x115001_4] 30 (0, 0)) (by (with_reducible repeat (first | refine blk_drewN ?_ _ | refine blk_drew ?_ | refine blk_alloc ?_ _)); exact BK114.out) hb)
                                    have n2_ := Aside0.mk (below_step (by repeat (first | (with_reducible first | exact HB.out | apply below_alloc | apply pw_below_drewN | apply below_drew1 | refine below_set ?_ GE114.out) | exact HB.out)) hb)
                                    clear HO_9
                                    clear BK114
                                    clear HB
                                    have HO_9 := n0_
                                    have BK114 := n1_
                                    have HB := n2_
                                    clear n0_ n1_ n2_
                                    (try clear hb)
                                    (try clear hb2)
                                    (try clear hk)
                                    (try clear hi)
                                    refine hK.out _ _ ⟨(blk_cell BK114.out 0).trans rfl, (blk_cell BK114.out 1).trans rfl, ((HB.out.cell (World.block_lt_of_cell? w _ hw115_0)).trans hw115_0), ((HB.out.cell (World.block_lt_of_cell? w _ hw115_1)).trans hw115_1)⟩ (fun hHeld => ?_)
                                    clear hK K
                                    refine norm_ (a' := ?_) ?_ ?_
                                    rotate_left
                                    · show Act.put _ (some 103) _ = _
                                      simp only [Act.put, List.setIfInBounds_toArray, List.set_cons_zero, List.set_cons_succ, i64_w, i32_w]
                                      rfl
                                    refine pure_ (i := 7) (N := some 104) (v := ?_) (a' := ?_) #[true, true, true, true, true, true, true, true] rfl rfl (any_of HT_.out (by kernel_rfl)) (fun _ _ _ h => h) (Or.inl ⟨by rfl, ?_⟩) ?_ ?_
                                    rotate_left
                                    · intro w'
                                      go_simp
                                      with_reducible rfl
                                    rotate_left
                                    · simp only [Act.put, List.setIfInBounds_toArray, List.set_cons_zero, List.set_cons_succ, i64_w, i32_w]
                                      rfl
                                    refine done_ (done_of HT_.out (by kernel_rfl)) ?_
                                    try go_wp2
                                    go_ret
                                    exact ⟨by first | rfl | (simp [errW_none, errW_some] <;> rfl) | (simp [*, errW_none, errW_some] <;> rfl), by repeat (first | (with_reducible first | exact HB.out | apply below_alloc | apply pw_below_drewN | apply below_drew1 | refine below_set ?_ GE114.out) | exact HB.out)⟩
                                  · rw [if_neg c52] at H
                                    have c52b0 : (!(x115000_4 == t116) || (!(x115001_4 == t117))) = false := by simpa using c52
                                    clear c52
                                    have H' := Aside0.mk H
                                    clear H
                                    try go_wp2
                                    have n0_ := Aside0.mk (Kd.S_drew HO_9.out)
                                    have n1_ := Aside0.mk (blk_drew BK114.out)
                                    have n2_ := Aside0.mk (below_drew1 HB.out)
                                    clear HO_9
                                    clear BK114
                                    clear HB
                                    have HO_9 := n0_
                                    have BK114 := n1_
                                    have HB := n2_
                                    clear n0_ n1_ n2_
                                    have p115 : 0 ≤ (x11_3 : Int) := of_decide_eq_true (by first | (with_reducible assumption) | assumption)
                                    have q115 : x11_3 < (l0.length : Int) := of_decide_eq_true (by first | (with_reducible assumption) | assumption)
                                    obtain ⟨ad115, e115, hx115_0, hx115_1⟩ := at_T58 HR0.out x11_3 p115 q115
                                    have hw115_1 := hx115_1
                                    have hw115_0 := hx115_0
                                    cases e115
                                    replace hx115_0 := (HB.out.cell (World.block_lt_of_cell? w _ hx115_0)).trans hx115_0
                                    replace hx115_1 := (HB.out.cell (World.block_lt_of_cell? w _ hx115_1)).trans hx115_1
                                    replace p115 := eq_true p115
                                    replace q115 := eq_true q115
                                    refine start_ (n := 8) (S := fun w' => w'.cell? ⟨gb114, 0, none⟩ = some (.int .i64 x115000_4) ∧ w'.cell? ⟨gb114, 1, none⟩ = some (.int .i64 x115001_4) ∧ w'.cell? (ad115.add ((x11_3).toNat * 2)) = some (.int .i64 ((rd_T58 l0 x11_3).f0)) ∧ w'.cell? ⟨(ad115.add ((x11_3).toNat * 2)).block, (ad115.add ((x11_3).toNat * 2)).off + 1, none⟩ = some (.int .i64 ((rd_T58 l0 x11_3).f1))) (ds := []) #[false, false, false, false, false, false, false, false] (by kernel_rfl) rfl rfl ⟨(blk_cell BK114.out 0).trans rfl, (blk_cell BK114.out 1).trans rfl, ((HB.out.cell (World.block_lt_of_cell? w _ hw115_0)).trans hw115_0), ((HB.out.cell (World.block_lt_of_cell? w _ hw115_1)).trans hw115_1)⟩ (fun hHeld => ?_); refine with_tabW verditerlaw01_washPots.tab21 verditerlaw01_washPots.bits21 (fun HT_ HW_ => ?_)
                                    generalize wr.drew = w55 at HO_9 BK114 HB hx115_0 hx115_1 hHeld ⊢
                                    refine pure_ (i := 1) (N := some 98) (v := ?_) (a' := ?_) #[false, true, false, false, false, false, false, false] rfl rfl (any_of HT_.out (by kernel_rfl)) (fun _ _ _ h => h) (Or.inl ⟨by rfl, ?_⟩) ?_ ?_
                                    rotate_left
                                    · intro w'
                                      go_simp
                                      with_reducible rfl
                                    rotate_left
                                    · simp only [Act.put, List.setIfInBounds_toArray, List.set_cons_zero, List.set_cons_succ, i64_w, i32_w]
                                      rfl
                                    refine pure_ (i := 2) (N := some 99) (v := ?_) (a' := ?_) #[false, true, true, false, false, false, false, false] rfl rfl (any_of HT_.out (by kernel_rfl)) (fun _ _ _ h => h) (Or.inl ⟨by rfl, ?_⟩) ?_ ?_
                                    rotate_left
                                    · intro w'
                                      go_simp
                                      with_reducible rfl
                                    rotate_left
                                    · simp only [Act.put, List.setIfInBounds_toArray, List.set_cons_zero, List.set_cons_succ, i64_w, i32_w]
                                      rfl
                                    refine pure_ (i := 3) (N := some 100) (v := ?_) (a' := ?_) #[false, true, true, true, false, false, false, false] rfl rfl (any_of HT_.out (by kernel_rfl)) (fun _ _ _ h => h) (Or.inl ⟨by rfl, ?_⟩) ?_ ?_
                                    rotate_left
                                    · intro w'
                                      go_simp
                                      with_reducible rfl
                                    rotate_left
                                    · simp only [Act.put, List.setIfInBounds_toArray, List.set_cons_zero, List.set_cons_succ, i64_w, i32_w]
                                      rfl
                                    refine pure_ (i := 4) (N := some 101) (v := ?_) (a' := ?_) #[false, true, true, true, true, false, false, false] rfl rfl (any_of HT_.out (by kernel_rfl)) (fun _ _ _ h => h) (Or.inl ⟨by rfl, ?_⟩) ?_ ?_
                                    rotate_left
                                    · intro w'
                                      go_simp
                                      with_reducible rfl
                                    rotate_left
                                    · simp only [Act.put, List.setIfInBounds_toArray, List.set_cons_zero, List.set_cons_succ, i64_w, i32_w]
                                      rfl
                                    refine take_ (i := 0) (N := some 97) (v := ?_) (a' := ?_) #[true, true, true, true, true, false, false, false] rfl rfl (take_ofW HT_.out HW_.out (by kernel_rfl)) (fun _ _ _ h => h) (Or.inl ⟨by rfl, ?_⟩) hHeld ?_ ?_
                                    rotate_left
                                    · rintro w' ⟨s0, s1, s2, s3⟩
                                      go_simp
                                      with_reducible rfl
                                    rotate_left
                                    · simp only [Act.put, List.setIfInBounds_toArray, List.set_cons_zero, List.set_cons_succ, i64_w, i32_w]
                                      rfl
                                    refine take_ (i := 5) (N := some 102) (v := ?_) (a' := ?_) #[true, true, true, true, true, true, false, false] rfl rfl (take_ofW HT_.out HW_.out (by kernel_rfl)) (fun _ _ _ h => h) (Or.inl ⟨by rfl, ?_⟩) hHeld ?_ ?_
                                    rotate_left
                                    · rintro w' ⟨s0, s1, s2, s3⟩
                                      go_simp
                                      with_reducible rfl
                                    rotate_left
                                    · simp only [Act.put, List.setIfInBounds_toArray, List.set_cons_zero, List.set_cons_succ, i64_w, i32_w]
                                      rfl
                                    refine one_ (i := 6) (N := some 103) #[true, true, true, true, true, true, true, false] rfl rfl (one_of HT_.out (by kernel_rfl)) (by decide) (fun K hK => ?_)
                                    refine goes_ Try.func45 (by kernel_rfl) rfl #[.int .i64 ((rd_T58 l0 x11_3).f1), .int .i64 1] (by rfl) rfl rfl (by (try simp only [List.map_toArray, List.map_cons, List.map_nil]); first | done | rfl | (simp only [List.length_drop, List.length_take]; rfl)) ?_
                                    with_reducible refine (verditerref01_Ratio.calls k4 ((rd_T58 l0 x11_3).f1) 1 t116 t117 _ A51.out).mono ?_
                                    rintro e w56 ⟨rfl, hb⟩
                                    refine ⟨_, rfl, ?_⟩
                                    have n0_ := Aside0.mk (Kd.S_below (by (with_reducible repeat (first | apply Kd.S_alloc | apply Kd.S_drewN | apply Kd.S_drew)); exact HO_9.out) hb)
                                    have n1_ := Aside0.mk (blk_below (g := gb114) (o := .cells #[.int .i64 x115000_4, .int .i64 x115001_4] 30 (0, 0)) (by (with_reducible repeat (first | refine blk_drewN ?_ _ | refine blk_drew ?_ | refine blk_alloc ?_ _)); exact BK114.out) hb)
                                    have n2_ := Aside0.mk (below_step (by repeat (first | (with_reducible first | exact HB.out | apply below_alloc | apply pw_below_drewN | apply below_drew1 | refine below_set ?_ GE114.out) | exact HB.out)) hb)
                                    clear HO_9
                                    clear BK114
                                    clear HB
                                    have HO_9 := n0_
                                    have BK114 := n1_
                                    have HB := n2_
                                    clear n0_ n1_ n2_
                                    (try clear hb)
                                    (try clear hb2)
                                    (try clear hk)
                                    (try clear hi)
                                    refine hK.out _ _ ⟨(blk_cell BK114.out 0).trans rfl, (blk_cell BK114.out 1).trans rfl, ((HB.out.cell (World.block_lt_of_cell? w _ hw115_0)).trans hw115_0), ((HB.out.cell (World.block_lt_of_cell? w _ hw115_1)).trans hw115_1)⟩ (fun hHeld => ?_)
                                    clear hK K
                                    refine norm_ (a' := ?_) ?_ ?_
                                    rotate_left
                                    · show Act.put _ (some 103) _ = _
                                      simp only [Act.put, List.setIfInBounds_toArray, List.set_cons_zero, List.set_cons_succ, i64_w, i32_w]
                                      rfl
                                    refine pure_ (i := 7) (N := some 104) (v := ?_) (a' := ?_) #[true, true, true, true, true, true, true, true] rfl rfl (any_of HT_.out (by kernel_rfl)) (fun _ _ _ h => h) (Or.inl ⟨by rfl, ?_⟩) ?_ ?_
                                    rotate_left
                                    · intro w'
                                      go_simp
                                      with_reducible rfl
                                    rotate_left
                                    · simp only [Act.put, List.setIfInBounds_toArray, List.set_cons_zero, List.set_cons_succ, i64_w, i32_w]
                                      rfl
                                    refine done_ (done_of HT_.out (by kernel_rfl)) ?_
                                    try go_wp2
                                    go_roundg k4
                                    case measure => have := HJ3.out; have := HJ11.out; have := HK3.out; have := HK4.out; omega
                                    case rel => exact ⟨(wrap64 (x11_3 + 1)), (by first | rfl | (simp; done) | (simp [*]; done)), H', ⟨by have := HJ3.out; have := HJ11.out; have := HK3.out; have := HK4.out; omega⟩, ⟨by (with_reducible repeat (first | apply Kd.S_alloc | apply Kd.S_drewN | apply Kd.S_drew)); exact Kd.S_mono HO_9.out (fun _ hk => trivial)⟩, ⟨by repeat (first | (with_reducible first | exact HB.out | apply below_alloc | apply pw_below_drewN | apply below_drew1 | refine below_set ?_ GE114.out) | exact HB.out)⟩⟩
                                · rw [if_neg c50] at H
                                  exact absurd H (by simp)
                              · rw [if_neg c49] at H
                                exact absurd H (by simp)
                      · rw [if_neg c25] at H
                        have c25b0 : decide (x11_3 < (l0.length : Int)) = false := decide_eq_false c25
                        clear c25
                        replace H := Option.bind_eq_some_iff.mp H
                        obtain ⟨t113, A570, H⟩ := H
                        replace H : (some t113) = some r := H
                        have A57 := Aside0.mk A570
                        clear A570
                        obtain rfl := Option.some.inj H
                        go_wp2_with (first | ((with_reducible refine gate_callee (f := 23) rfl ?_); refine goesL_ (some 105) rfl rfl Try.func23 (by kernel_rfl) rfl #[] rfl (by (try simp only [List.map_toArray, List.map_cons, List.map_nil]); first | done | rfl | (simp only [List.length_drop, List.length_take]; rfl)) ?_; (with_reducible refine (verditerlaw01_known.calls k3  t113 _ A57.out).mono ?_); rintro e w58 ⟨rfl, hb⟩; refine ⟨_, rfl, ?_⟩; have n0_ := Aside0.mk (Kd.S_below (by (with_reducible repeat (first | apply Kd.S_alloc | apply Kd.S_drewN | apply Kd.S_drew)); exact HO_9.out) hb); have n1_ := Aside0.mk (below_step (by repeat (first | (with_reducible first | exact HB.out | apply below_alloc | apply pw_below_drewN | apply below_drew1) | exact HB.out)) hb); clear HO_9; clear HB; have HO_9 := n0_; have HB := n1_; clear n0_ n1_; (try clear hb); (try clear hb2); (try clear hk); (try clear hi)))
                        go_ret
                        exact ⟨by first | rfl | (simp [errW_none, errW_some] <;> rfl) | (simp [*, errW_none, errW_some] <;> rfl), by repeat (first | (with_reducible first | exact HB.out | apply below_alloc | apply pw_below_drewN | apply below_drew1) | exact HB.out)⟩
                · rw [if_neg c23] at H
                  have c23b0 : ((t107.length : Int) == (wrap64 ((l1.length : Int) + 1))) = false := beq_eq_false_iff_ne.mpr c23
                  have c23b1 : ((t107.length : Int) != (wrap64 ((l1.length : Int) + 1))) = true := bne_iff_ne.mpr c23
                  obtain rfl := Option.some.inj H
                  obtain ⟨Ao59, co59, eo59⟩ := Kd.S_slice HO_9.out
                  subst eo59
                  go_wp2
                  go_ret
                  exact ⟨by first | rfl | (simp [errW_none, errW_some] <;> rfl) | (simp [*, errW_none, errW_some] <;> rfl), by repeat (first | (with_reducible first | exact HB.out | apply below_alloc | apply pw_below_drewN | apply below_drew1) | exact HB.out)⟩
              · rw [if_neg c22] at H
                have c22b0 : (t108 == 0) = false := beq_eq_false_iff_ne.mpr c22
                have c22b1 : (t108 != 0) = true := bne_iff_ne.mpr c22
                replace H := Option.bind_eq_some_iff.mp H
                obtain ⟨t112, A600, H⟩ := H
                replace H : (some t112) = some r := H
                have A60 := Aside0.mk A600
                clear A600
                obtain rfl := Option.some.inj H
                go_wp2_with (first | ((with_reducible refine gate_callee (f := 23) rfl ?_); refine goesL_ (some 47) rfl rfl Try.func23 (by kernel_rfl) rfl #[] rfl (by (try simp only [List.map_toArray, List.map_cons, List.map_nil]); first | done | rfl | (simp only [List.length_drop, List.length_take]; rfl)) ?_; (with_reducible refine (verditerlaw01_known.calls kj11  t112 _ A60.out).mono ?_); rintro e w61 ⟨rfl, hb⟩; refine ⟨_, rfl, ?_⟩; have n0_ := Aside0.mk (Kd.S_below (by (with_reducible repeat (first | apply Kd.S_alloc | apply Kd.S_drewN | apply Kd.S_drew)); exact HO_9.out) hb); have n1_ := Aside0.mk (below_step (by repeat (first | (with_reducible first | exact HB.out | apply below_alloc | apply pw_below_drewN | apply below_drew1) | exact HB.out)) hb); clear HO_9; clear HB; have HO_9 := n0_; have HB := n1_; clear n0_ n1_; (try clear hb); (try clear hb2); (try clear hk); (try clear hi)))
                go_ret
                exact ⟨by first | rfl | (simp [errW_none, errW_some] <;> rfl) | (simp [*, errW_none, errW_some] <;> rfl), by repeat (first | (with_reducible first | exact HB.out | apply below_alloc | apply pw_below_drewN | apply below_drew1) | exact HB.out)⟩

end Go.Proofs.Ytbckhllkjlgbpaa.P
