/- What the claim's last text wants, part 5: functions of the translation as Lean functions with their contracts, and plain theorems; no conditions beyond those that each theorem names. -/
import Derived.Test.YtdneelgnmnpanaaZSp4
import Derived.SizedLaws
section
namespace Go.Proofs.Ytdneelgnmnpanaa.P
open Go.RowKit Go.Proofs.YtdneelgnmnpanaaW.PrintWords Go.Proofs.YtdneelgnmnpanaaW.PrintLast Go.Proofs.YtdneelgnmnpanaaW.PrintMore
attribute [local go_sem] max2_int min2_int max_two min_two max_three min_three max_four min_four   -- for this text's walks alone
set_option linter.unusedVariables false
set_option linter.unusedSimpArgs false
mutual
def verditerref04_Validate.j0 : Nat → Bool → List (List Int) → List (List Int) → Option (Int)
 | 0, _, _, _ => none
 | k + 1, x27, x102000, x102001 => if x27 = true then (some 1) else ((some (([] : List (List Int)) : List (List Int))).bind fun y106 => (if y106.length + x102000.length < 5864062014805 then ((some (y106 ++ x102000 : List (List Int))).bind fun y109 => (if y109.length + x102001.length < 5864062014805 then (verditerref04_Validate.l0 k (y109 ++ x102001) 0 x102000 x102001) else (none))) else (none)))
def verditerref04_Validate.l0 : Nat → List (List Int) → Int → List (List Int) → List (List Int) → Option (Int)
 | 0, _, _, _, _ => none
 | k + 1, x3, x4, x102000, x102001 => if x4 < (x3.length : Int) then (if 0 ≤ x4 then (if 0 < (x102000.length : Int) then (if ((rd_L1 x3 x4).length : Int) = ((rd_L1 x102000 0).length : Int) then (verditerref04_Validate.l1 k x3 x4 0 0 x102000 x102001) else (some 1)) else (none)) else (none)) else (some 0)
def verditerref04_Validate.l1 : Nat → List (List Int) → Int → Int → Int → List (List Int) → List (List Int) → Option (Int)
 | 0, _, _, _, _, _, _ => none
 | k + 1, x3, x4, x5, x6, x102000, x102001 => if 0 ≤ x4 then (if x4 < (x3.length : Int) then (if x6 < ((rd_L1 x3 x4).length : Int) then (if 0 ≤ x6 then ((verditerref04_within.f (rd (rd_L1 x3 x4) x6) 0 9).bind fun t120 => (if t120 = true then (verditerref04_Validate.l1 k x3 x4 (wrap64 (x5 + (rd (rd_L1 x3 x4) x6))) (wrap64 (x6 + 1)) x102000 x102001) else (some 1))) else (none)) else (if x5 = 0 then (some 1) else (verditerref04_Validate.l0 k x3 (wrap64 (x4 + 1)) x102000 x102001))) else (none)) else (none)
end
def verditerref04_Validate.f (k : Nat) (l0_0 : List (List Int)) (l0_1 : List (List Int)) : Option (Int) := (verditerref04_within.f (l0_0.length : Int) 1 3).bind fun t102 => (if t102 = true then ((verditerref04_within.f (l0_1.length : Int) 1 3).bind fun t103 => (if t103 = true then (if 0 < (l0_0.length : Int) then ((verditerref04_within.f ((rd_L1 l0_0 0).length : Int) 1 4).bind fun t105 => (verditerref04_Validate.j0 k (!t105) l0_0 l0_1)) else (none)) else (verditerref04_Validate.j0 k true l0_0 l0_1))) else (verditerref04_Validate.j0 k true l0_0 l0_1))
def verditerref04_Validate.T3 : Bool × List (List Nat × List Nat) := (true, [([], []), ([], []), ([1], [1]), ([0, 2], [0, 2]), ([], []), ([4], [4]), ([3, 5, 3], [3, 5]), ([6, 6, 0, 1, 2, 3, 4, 5, 6], [6])])
def verditerref04_Validate.B3 : List Nat := [0, 0, 2, 7, 0, 16, 63, 127]
theorem verditerref04_Validate.tab3 : rtab .any (opsOf Try.f55 3) = verditerref04_Validate.T3 := by kernel_rfl
theorem verditerref04_Validate.bits3 : waitsOk verditerref04_Validate.T3.2 verditerref04_Validate.B3 = true := by kernel_rfl
def verditerref04_Validate.T7 : Bool × List (List Nat × List Nat) := (true, [([], []), ([], []), ([0, 1], [0, 1]), ([2], [2]), ([3], [3]), ([], []), ([5], [5]), ([6], [6]), ([7], [7]), ([8], [8]), ([4, 9], [4, 9])])
def verditerref04_Validate.B7 : List Nat := [0, 0, 3, 7, 15, 0, 32, 96, 224, 480, 1023]
theorem verditerref04_Validate.tab7 : rtab .any (opsOf Try.f55 7) = verditerref04_Validate.T7 := by kernel_rfl
theorem verditerref04_Validate.bits7 : waitsOk verditerref04_Validate.T7.2 verditerref04_Validate.B7 = true := by kernel_rfl
set_option maxHeartbeats 8000000 in
set_option maxRecDepth 100000 in
theorem verditerref04_Validate.calls (k : Nat) (P0_0_ : Nat → Prop) (A0_0 : Option Addr) (c0_0 : Nat) (l0_0 : List (List Int)) (P0_1_ : Nat → Prop) (A0_1 : Option Addr) (c0_1 : Nat) (l0_1 : List (List Int)) (r : Int) (w : World) (hs0_0 : Kd.V (Kd.slice 3 (Kd.int .i64)) 28 w w.heap.size (fun k_ => P0_0_ k_) (.slice A0_0 l0_0.length c0_0) l0_0) (hs0_1 : Kd.V (Kd.slice 3 (Kd.int .i64)) 28 w w.heap.size (fun k_ => P0_1_ k_) (.slice A0_1 l0_1.length c0_1) l0_1) (h : verditerref04_Validate.f k l0_0 l0_1 = some r) :
  Calls Try.prog 55 #[.agg #[.slice A0_0 l0_0.length c0_0, .slice A0_1 l0_1.length c0_1]] w fun e w' => e = .returned (.int .i64 r) ∧ Below w.heap.size w w' := by
 have hu24 := Try.underlying24
 have HO0_0 := Aside0.mk (show Kd.V (Kd.slice 3 (Kd.int .i64)) 28 w w.heap.size (fun k_ => ((P0_0_ k_ ∨ P0_1_ k_) ∨ w.heap.size ≤ k_)) (.slice A0_0 l0_0.length c0_0) l0_0 from Kd.V_mono hs0_0 (fun k_ hk => .inl (.inl hk)))
 have HO0_1 := Aside0.mk (show Kd.V (Kd.slice 3 (Kd.int .i64)) 28 w w.heap.size (fun k_ => ((P0_0_ k_ ∨ P0_1_ k_) ∨ w.heap.size ≤ k_)) (.slice A0_1 l0_1.length c0_1) l0_1 from Kd.V_mono hs0_1 (fun k_ hk => .inl (.inr hk)))
 have HB := Aside0.mk (Below.refl w.heap.size w)
 have H : ((verditerref04_within.f (l0_0.length : Int) 1 3).bind fun t102 => (if t102 = true then ((verditerref04_within.f (l0_1.length : Int) 1 3).bind fun t103 => (if t103 = true then (if 0 < (l0_0.length : Int) then ((verditerref04_within.f ((rd_L1 l0_0 0).length : Int) 1 4).bind fun t105 => (verditerref04_Validate.j0 k (!t105) l0_0 l0_1)) else (none)) else (verditerref04_Validate.j0 k true l0_0 l0_1))) else (verditerref04_Validate.j0 k true l0_0 l0_1))) = some r := h
 clear h
 have HC2 := Aside0.mk H
 clear H
 go_enter Try.func55, Try.ntmps55
 go_upto_region 1 with (first | ((with_reducible refine gate_dst (N := 1) rfl ?_); (try (refine gate_guard (by rfl) ?_; dsimp only)); refine box_event ?hg (N := 1) ?hd (cs := #[.slice A0_0 l0_0.length c0_0, .slice A0_1 l0_1.length c0_1]) (t := 24) ?hr ?_; (case hd => rfl); (case hg => rfl); (case hr => first | (go_simp; done) | (go_simp; rfl)); intro gb101 hg w3 hbox hb; have n0_ := Aside0.mk (Kd.V_below (Kd.V_elderB HO0_0.out gb101 (Nat.le_of_eq hg.symm)) hb); have n1_ := Aside0.mk (Kd.V_below (Kd.V_elderB HO0_1.out gb101 (Nat.le_of_eq hg.symm)) hb); have n2_ := Aside0.mk (below_step bB hb); have n3_ := Aside0.mk (hbox); have n4_ := Aside0.mk ((by rw [hg]; exact (below_size bB) : w.heap.size ≤ gb101)); have n5_ := Aside0.mk ((by rw [hg]; exact (below_size bB) : w.heap.size ≤ gb101)); clear HO0_0; clear HO0_1; clear HB; have HO0_0 := n0_; have HO0_1 := n1_; have HB := n2_; have BK101 := n3_; have GW101 := n4_; have GE101 := n5_; clear n0_ n1_ n2_ n3_ n4_ n5_; clear hb hbox hg))
 (try simp only [Act.put, List.setIfInBounds_toArray, List.set_cons_zero, List.set_cons_succ])
 go_cut [27] (fun v27 wc => ∃ (kq : Nat) (x27_1 : Bool), v27 = .bool x27_1 ∧ Aside0 (verditerref04_Validate.j0 kq x27_1 l0_0 l0_1 = some r) ∧ Aside0 (kq ≤ k) ∧ Aside0 (Kd.V (Kd.slice 3 (Kd.int .i64)) 28 wc w.heap.size (fun k_ => ((P0_0_ k_ ∨ P0_1_ k_) ∨ w.heap.size ≤ k_) ∧ k_ ≠ gb101) (.slice A0_0 l0_0.length c0_0) l0_0) ∧ Aside0 (Kd.V (Kd.slice 3 (Kd.int .i64)) 28 wc w.heap.size (fun k_ => ((P0_0_ k_ ∨ P0_1_ k_) ∨ w.heap.size ≤ k_) ∧ k_ ≠ gb101) (.slice A0_1 l0_1.length c0_1) l0_1) ∧ Aside0 (wc.heap[gb101]? = some (.cells #[(.slice A0_0 l0_0.length c0_0), (.slice A0_1 l0_1.length c0_1)] 24 (0, 0))) ∧ Aside0 (Below w.heap.size w wc))
 case first =>
  have H := HC2.out
  clear HC2
  replace H := Option.bind_eq_some_iff.mp H
  obtain ⟨t102, A40, H⟩ := H
  replace H : (if t102 = true then ((verditerref04_within.f (l0_1.length : Int) 1 3).bind fun t103 => (if t103 = true then (if 0 < (l0_0.length : Int) then ((verditerref04_within.f ((rd_L1 l0_0 0).length : Int) 1 4).bind fun t105 => (verditerref04_Validate.j0 k (!t105) l0_0 l0_1)) else (none)) else (verditerref04_Validate.j0 k true l0_0 l0_1))) else (verditerref04_Validate.j0 k true l0_0 l0_1)) = some r := H
  have A4 := Aside0.mk A40
  clear A40
  by_cases c5 : t102 = true
  ·
   subst c5
   have H1 : ((verditerref04_within.f (l0_1.length : Int) 1 3).bind fun t103 => (if t103 = true then (if 0 < (l0_0.length : Int) then ((verditerref04_within.f ((rd_L1 l0_0 0).length : Int) 1 4).bind fun t105 => (verditerref04_Validate.j0 k (!t105) l0_0 l0_1)) else (none)) else (verditerref04_Validate.j0 k true l0_0 l0_1))) = some r := by rw [if_pos rfl] at H; exact H
   clear H
   have H := H1
   clear H1
   replace H := Option.bind_eq_some_iff.mp H
   obtain ⟨t103, A60, H⟩ := H
   replace H : (if t103 = true then (if 0 < (l0_0.length : Int) then ((verditerref04_within.f ((rd_L1 l0_0 0).length : Int) 1 4).bind fun t105 => (verditerref04_Validate.j0 k (!t105) l0_0 l0_1)) else (none)) else (verditerref04_Validate.j0 k true l0_0 l0_1)) = some r := H
   have A6 := Aside0.mk A60
   clear A60
   by_cases c7 : t103 = true
   ·
    subst c7
    have H1 : (if 0 < (l0_0.length : Int) then ((verditerref04_within.f ((rd_L1 l0_0 0).length : Int) 1 4).bind fun t105 => (verditerref04_Validate.j0 k (!t105) l0_0 l0_1)) else (none)) = some r := by rw [if_pos rfl] at H; exact H
    clear H
    have H := H1
    clear H1
    by_cases c8 : 0 < (l0_0.length : Int)
    ·
     rw [if_pos c8] at H
     have c8b0 : decide (0 < (l0_0.length : Int)) = true := decide_eq_true c8
     have c8b1 : decide (0 < l0_0.length) = true := decide_eq_true (by omega)
     clear c8
     (first | rw [c8b0] | (simp only [i64_w, i32_w]; rw [c8b0]) | skip)
     replace H := Option.bind_eq_some_iff.mp H
     obtain ⟨t105, A90, H⟩ := H
     replace H : (verditerref04_Validate.j0 k (!t105) l0_0 l0_1) = some r := H
     have A9 := Aside0.mk A90
     clear A90
     have H' := Aside0.mk H
     clear H
     have hcz10_0 : w3.cell? ⟨gb101, 0, none⟩ = some (.slice A0_0 l0_0.length c0_0) := (blk_cell BK101.out 0).trans rfl
     have hcz10_1 : w3.cell? ⟨gb101, 1, none⟩ = some (.slice A0_1 l0_1.length c0_1) := (blk_cell BK101.out 1).trans rfl
     have hfz10_0 := blk_frozen BK101.out 0
     have hfz10_1 := blk_frozen BK101.out 1
     go_wp2_with (first | ((with_reducible refine gate_callee (f := 99) rfl ?_); refine goesL_ (some 10) rfl rfl Try.func99 (by kernel_rfl) rfl #[.int .i64 (l0_0.length : Int), .int .i64 1, .int .i64 3] rfl hA ?_; (with_reducible refine (verditerref04_within.calls (l0_0.length : Int) 1 3 true _ A4.out).mono ?_); rintro e w' ⟨rfl, ⟨nd, rfl⟩⟩; refine ⟨_, rfl, ?_⟩) | (go_at_call 99; (with_reducible refine (verditerref04_within.calls (l0_1.length : Int) 1 3 true _ A6.out).mono ?_); rintro e w' ⟨rfl, ⟨nd, rfl⟩⟩; have p104 : 0 ≤ (0 : Int) := (by omega); have q104 : 0 < (l0_0.length : Int) := of_decide_eq_true (by assumption); obtain ⟨ad104, A104_0, c104_0, e104, hx104_0, hl104_0, hi104_0⟩ := at_L1 (Kd.V_reads' HO0_0.out).2.2 0 p104 q104; cases e104; obtain ⟨ce104, hce104, hMe104, hcc104⟩ := Kd.V_get HO0_0.out [] 0 p104 (by first | exact q104 | exact of_decide_eq_true (by assumption) | (have e_ := (Kd.V_reads' HO0_0.out).1; omega)); obtain ⟨ua104_0, uc104_0, rfl, ul104_0, ge104_0⟩ := Kd.FK_slice_open hMe104; have hv104_0 := hcc104 0 _ rfl; rw [Nat.add_zero, show ((Kd.slice 3 (Kd.int .i64))).sz = 1 from rfl, Nat.mul_one] at hv104_0; replace hv104_0 := Option.some.inj (hv104_0.symm.trans hx104_0); injection hv104_0 with hva_ hvn_ hvc_; rw [hva_] at ge104_0; rw [hvc_] at ul104_0; have HL104_0 := Aside0.mk (show Kd.V (Kd.int .i64) 3 _ w.heap.size _ _ (rd_L1 l0_0 0) from Kd.V_mk ul104_0 ge104_0); clear hva_ hvn_ hvc_ ge104_0 ul104_0; clear hcc104 hce104; have qi104 : (0 < l0_0.length) = True := eq_true (by omega); (try rw [show ((0 : Int)).toNat = 0 from rfl] at hx104_0); (try rw [Addr.add_zero'] at hx104_0); have HR104_0 := Aside0.mk hi104_0; have HC104_0 := Aside0.mk hl104_0; clear hi104_0 hl104_0; replace p104 := eq_true p104; replace q104 := eq_true q104) | (go_at_call 99; (with_reducible refine (verditerref04_within.calls ((rd_L1 l0_0 0).length : Int) 1 4 t105 _ A9.out).mono ?_); rintro e w' ⟨rfl, ⟨nd, rfl⟩⟩))
     go_meet
     case rel => exact ⟨_, (!t105), (by first | rfl | (simp; done) | (simp [*]; done)), H', ⟨by first | omega | exact Nat.le_refl _⟩, ⟨by (with_reducible repeat (first | apply Kd.V_alloc | apply Kd.V_drewN | apply Kd.V_drew)); exact HO0_0.out⟩, ⟨by (with_reducible repeat (first | apply Kd.V_alloc | apply Kd.V_drewN | apply Kd.V_drew)); exact HO0_1.out⟩, ⟨by (with_reducible repeat (first | refine blk_drewN ?_ _ | refine blk_drew ?_ | refine blk_alloc ?_ _)); exact BK101.out⟩, ⟨bB⟩⟩
    ·
     rw [if_neg c8] at H
     exact absurd H (by simp)
   ·
    replace c7 := Bool.eq_false_iff.mpr c7
    subst c7
    have H1 : (verditerref04_Validate.j0 k true l0_0 l0_1) = some r := by rw [if_neg (show ¬ (false = true) by decide)] at H; exact H
    clear H
    have H := H1
    clear H1
    have H' := Aside0.mk H
    clear H
    have hcz11_0 : w3.cell? ⟨gb101, 0, none⟩ = some (.slice A0_0 l0_0.length c0_0) := (blk_cell BK101.out 0).trans rfl
    have hcz11_1 : w3.cell? ⟨gb101, 1, none⟩ = some (.slice A0_1 l0_1.length c0_1) := (blk_cell BK101.out 1).trans rfl
    have hfz11_0 := blk_frozen BK101.out 0
    have hfz11_1 := blk_frozen BK101.out 1
    go_wp2_with (first | ((with_reducible refine gate_callee (f := 99) rfl ?_); refine goesL_ (some 10) rfl rfl Try.func99 (by kernel_rfl) rfl #[.int .i64 (l0_0.length : Int), .int .i64 1, .int .i64 3] rfl hA ?_; (with_reducible refine (verditerref04_within.calls (l0_0.length : Int) 1 3 true _ A4.out).mono ?_); rintro e w' ⟨rfl, ⟨nd, rfl⟩⟩; refine ⟨_, rfl, ?_⟩) | (go_at_call 99; (with_reducible refine (verditerref04_within.calls (l0_1.length : Int) 1 3 false _ A6.out).mono ?_); rintro e w' ⟨rfl, ⟨nd, rfl⟩⟩))
    go_meet
    case rel => exact ⟨_, (true), (by first | rfl | (simp; done) | (simp [*]; done)), H', ⟨by first | omega | exact Nat.le_refl _⟩, ⟨by (with_reducible repeat (first | apply Kd.V_alloc | apply Kd.V_drewN | apply Kd.V_drew)); exact HO0_0.out⟩, ⟨by (with_reducible repeat (first | apply Kd.V_alloc | apply Kd.V_drewN | apply Kd.V_drew)); exact HO0_1.out⟩, ⟨by (with_reducible repeat (first | refine blk_drewN ?_ _ | refine blk_drew ?_ | refine blk_alloc ?_ _)); exact BK101.out⟩, ⟨bB⟩⟩
  ·
   replace c5 := Bool.eq_false_iff.mpr c5
   subst c5
   have H1 : (verditerref04_Validate.j0 k true l0_0 l0_1) = some r := by rw [if_neg (show ¬ (false = true) by decide)] at H; exact H
   clear H
   have H := H1
   clear H1
   have H' := Aside0.mk H
   clear H
   have hcz12_0 : w3.cell? ⟨gb101, 0, none⟩ = some (.slice A0_0 l0_0.length c0_0) := (blk_cell BK101.out 0).trans rfl
   have hcz12_1 : w3.cell? ⟨gb101, 1, none⟩ = some (.slice A0_1 l0_1.length c0_1) := (blk_cell BK101.out 1).trans rfl
   have hfz12_0 := blk_frozen BK101.out 0
   have hfz12_1 := blk_frozen BK101.out 1
   go_wp2_with (first | ((with_reducible refine gate_callee (f := 99) rfl ?_); refine goesL_ (some 10) rfl rfl Try.func99 (by kernel_rfl) rfl #[.int .i64 (l0_0.length : Int), .int .i64 1, .int .i64 3] rfl hA ?_; (with_reducible refine (verditerref04_within.calls (l0_0.length : Int) 1 3 false _ A4.out).mono ?_); rintro e w' ⟨rfl, ⟨nd, rfl⟩⟩; refine ⟨_, rfl, ?_⟩))
   go_meet
   case rel => exact ⟨_, (true), (by first | rfl | (simp; done) | (simp [*]; done)), H', ⟨by first | omega | exact Nat.le_refl _⟩, ⟨by (with_reducible repeat (first | apply Kd.V_alloc | apply Kd.V_drewN | apply Kd.V_drew)); exact HO0_0.out⟩, ⟨by (with_reducible repeat (first | apply Kd.V_alloc | apply Kd.V_drewN | apply Kd.V_drew)); exact HO0_1.out⟩, ⟨by (with_reducible repeat (first | refine blk_drewN ?_ _ | refine blk_drew ?_ | refine blk_alloc ?_ _)); exact BK101.out⟩, ⟨bB⟩⟩
 case rest =>
  clear HC2
  try clear c1
  try clear p1
  try clear q1
  try clear hx1
  try clear qi1
  try clear p2
  try clear c5
  try clear c7
  try clear c8
  try clear c8b0
  try clear c8b1
  try clear c9
  try clear c10
  try clear p10
  try clear q10
  try clear hx10
  try clear qi10
  try clear hcz10_0
  try clear hcz10_1
  try clear hcz11_0
  try clear hcz11_1
  try clear hcz12_0
  try clear hcz12_1
  try clear hfz10_0
  try clear hfz10_1
  try clear hfz11_0
  try clear hfz11_1
  try clear hfz12_0
  try clear hfz12_1
  try clear hx104_0
  try clear p104
  try clear q104
  obtain ⟨kq, x27_1, rfl, HA, HJ1, HO_102000, HO_102001, BK101, HB⟩ := hcut
  cases kq with
  | zero => exact absurd HA.out (by simp [verditerref04_Validate.j0])
  | succ kj1 =>
   have H := HA.out
   clear HA
   simp only [verditerref04_Validate.j0] at H
   by_cases c13 : x27_1 = true
   ·
    subst c13
    have H1 : (some 1) = some r := by rw [if_pos rfl] at H; exact H
    clear H
    have H := H1
    clear H1
    obtain rfl := Option.some.inj H
    go_wp2
    go_ret
    exact ⟨by first | rfl | (simp [errW_none, errW_some] <;> rfl) | (simp [*, errW_none, errW_some] <;> rfl), bB⟩
   ·
    replace c13 := Bool.eq_false_iff.mpr c13
    subst c13
    have H1 : ((some (([] : List (List Int)) : List (List Int))).bind fun y106 => (if y106.length + l0_0.length < 5864062014805 then ((some (y106 ++ l0_0 : List (List Int))).bind fun y109 => (if y109.length + l0_1.length < 5864062014805 then (verditerref04_Validate.l0 kj1 (y109 ++ l0_1) 0 l0_0 l0_1) else (none))) else (none))) = some r := by rw [if_neg (show ¬ (false = true) by decide)] at H; exact H
    clear H
    have H := H1
    clear H1
    obtain ⟨y106, hy106⟩ : ∃ y_ : List (List Int), y_ = (([] : List (List Int))) := ⟨_, rfl⟩
    replace H : (if y106.length + l0_0.length < 5864062014805 then ((some (y106 ++ l0_0 : List (List Int))).bind fun y109 => (if y109.length + l0_1.length < 5864062014805 then (verditerref04_Validate.l0 kj1 (y109 ++ l0_1) 0 l0_0 l0_1) else (none))) else (none)) = some r := by first | (rw [hy106]; with_reducible exact H) | (have H2_ := (Option.bind_some _ _).symm.trans H; rw [hy106]; with_reducible exact H2_) | (have H2_ := (Option.bind_some _ _).symm.trans H; with_reducible exact H2_) | with_reducible exact H | (rw [hy106]; exact H) | exact H
    have Ny106 := Aside0.mk hy106
    clear hy106
    by_cases c14 : y106.length + l0_0.length < 5864062014805
    ·
     rw [if_pos c14] at H
     have LMc14 := Aside0.mk c14
     clear c14
     obtain ⟨y109, hy109⟩ : ∃ y_ : List (List Int), y_ = (y106 ++ l0_0) := ⟨_, rfl⟩
     replace H : (if y109.length + l0_1.length < 5864062014805 then (verditerref04_Validate.l0 kj1 (y109 ++ l0_1) 0 l0_0 l0_1) else (none)) = some r := by first | (rw [hy109]; with_reducible exact H) | (have H2_ := (Option.bind_some _ _).symm.trans H; rw [hy109]; with_reducible exact H2_) | (have H2_ := (Option.bind_some _ _).symm.trans H; with_reducible exact H2_) | with_reducible exact H | (rw [hy109]; exact H) | exact H
     have Ny109 := Aside0.mk hy109
     clear hy109
     by_cases c15 : y109.length + l0_1.length < 5864062014805
     ·
      rw [if_pos c15] at H
      have LMc15 := Aside0.mk c15
      clear c15
      obtain ⟨y112, hy112⟩ : ∃ y_ : List (List Int), y_ = (y109 ++ l0_1) := ⟨_, rfl⟩
      replace H : (verditerref04_Validate.l0 kj1 y112 0 l0_0 l0_1) = some r := by first | (rw [hy112]; with_reducible exact H) | (have H2_ := (Option.bind_some _ _).symm.trans H; rw [hy112]; with_reducible exact H2_) | (have H2_ := (Option.bind_some _ _).symm.trans H; with_reducible exact H2_) | with_reducible exact H | (rw [hy112]; exact H) | exact H
      have Ny112 := Aside0.mk hy112
      clear hy112
      have H' := Aside0.mk H
      clear H
      try go_wp2
      have n0_ := Aside0.mk (Kd.V_drew HO_102000.out)
      have n1_ := Aside0.mk (Kd.V_drew HO_102001.out)
      have n2_ := Aside0.mk (blk_drew BK101.out)
      have n3_ := Aside0.mk (below_drew1 HB.out)
      clear HO_102000
      clear HO_102001
      clear BK101
      clear HB
      have HO_102000 := n0_
      have HO_102001 := n1_
      have BK101 := n2_
      have HB := n3_
      clear n0_ n1_ n2_ n3_
      refine start_ (n := 8) (S := fun w' => w'.cell? ⟨gb101, 0, none⟩ = some (.slice A0_0 l0_0.length c0_0) ∧ w'.cell? ⟨gb101, 1, none⟩ = some (.slice A0_1 l0_1.length c0_1)) (ds := []) #[false, false, false, false, false, false, false, false] (by kernel_rfl) rfl rfl ⟨(blk_cell BK101.out 0).trans rfl, (blk_cell BK101.out 1).trans rfl⟩ (fun hHeld => ?_); refine with_tabW verditerref04_Validate.tab3 verditerref04_Validate.bits3 (fun HT_ HW_ => ?_)
      generalize wc.drew = w16 at HO_102000 HO_102001 BK101 HB hHeld ⊢
      refine pure_ (i := 1) (N := some 29) (v := ?_) (a' := ?_) #[false, true, false, false, false, false, false, false] rfl rfl (any_of HT_.out (by kernel_rfl)) (fun _ _ _ h => h) (Or.inl ⟨by rfl, ?_⟩) ?_ ?_
      rotate_left
      ·
       intro w'
       go_simp
       with_reducible rfl
      rotate_left
      ·
       simp only [Act.put, List.setIfInBounds_toArray, List.set_cons_zero, List.set_cons_succ, i64_w, i32_w]
       rfl
      refine pure_ (i := 4) (N := some 32) (v := ?_) (a' := ?_) #[false, true, false, false, true, false, false, false] rfl rfl (any_of HT_.out (by kernel_rfl)) (fun _ _ _ h => h) (Or.inl ⟨by rfl, ?_⟩) ?_ ?_
      rotate_left
      ·
       intro w'
       go_simp
       with_reducible rfl
      rotate_left
      ·
       simp only [Act.put, List.setIfInBounds_toArray, List.set_cons_zero, List.set_cons_succ, i64_w, i32_w]
       rfl
      refine take_ (i := 2) (N := some 30) (v := ?_) (a' := ?_) #[false, true, true, false, true, false, false, false] rfl rfl (take_ofW HT_.out HW_.out (by kernel_rfl)) (fun _ _ _ h => h) (Or.inl ⟨by rfl, ?_⟩) hHeld ?_ ?_
      rotate_left
      ·
       rintro w' ⟨s0, s1⟩
       go_simp
       with_reducible rfl
      rotate_left
      ·
       simp only [Act.put, List.setIfInBounds_toArray, List.set_cons_zero, List.set_cons_succ, i64_w, i32_w]
       rfl
      refine take_ (i := 5) (N := some 33) (v := ?_) (a' := ?_) #[false, true, true, false, true, true, false, false] rfl rfl (take_ofW HT_.out HW_.out (by kernel_rfl)) (fun _ _ _ h => h) (Or.inl ⟨by rfl, ?_⟩) hHeld ?_ ?_
      rotate_left
      ·
       rintro w' ⟨s0, s1⟩
       go_simp
       with_reducible rfl
      rotate_left
      ·
       simp only [Act.put, List.setIfInBounds_toArray, List.set_cons_zero, List.set_cons_succ, i64_w, i32_w]
       rfl
      refine one_ (i := 0) (N := some 28) #[true, true, true, false, true, true, false, false] rfl rfl (one_of HT_.out (by kernel_rfl)) (by decide) (fun K hK => ?_)
      refine Kd.N_lit_step (Kd.slice 3 (Kd.int .i64)) _ 28 ?hg (N' := 28) ?hd (xs := ([] : List (List Int))) (inner := []) (ok := (fun k_ => ((P0_0_ k_ ∨ P0_1_ k_) ∨ w.heap.size ≤ k_) ∧ k_ ≠ gb101)) (okp := (fun k_ => ((P0_0_ k_ ∨ P0_1_ k_) ∨ w.heap.size ≤ k_) ∧ k_ ≠ gb101)) ?hr ?hp (fun _ hk => hk) ((show ∀ k_, w16.heap.size ≤ k_ → (fun k_ => ((P0_0_ k_ ∨ P0_1_ k_) ∨ w.heap.size ≤ k_) ∧ k_ ≠ gb101) k_ from fun k_ hk => ⟨(.inr (Nat.le_trans (below_size bB) hk)), Kd.freshB (g := gb101) (o := .cells #[.slice A0_0 l0_0.length c0_0, .slice A0_1 l0_1.length c0_1] 24 (0, 0)) (by (with_reducible repeat (first | refine blk_drewN ?_ _ | refine blk_drew ?_ | refine blk_alloc ?_ _)); exact BK101.out) k_ hk⟩) _ (Nat.le_refl _)) (Below.refl _ _) (Nat.le_refl _) (by simp) ?_; (case hd => rfl); (case hg => rfl); (case hr => first | (go_simp; done) | (go_simp; rfl)); (case hp => exact (Reps.none _ _))
      intro v107 w17 ho18 hb hg_ hnew_
      clear hg_ hnew_
      (first | rw [← Ny106.out] at ho18 | (simp only [Int.reduceToNat] at ho18; rw [← Ny106.out] at ho18))
      have n0_ := Aside0.mk (Kd.V_elder' HO_102000.out (Kd.N_base ho18) hb)
      have n1_ := Aside0.mk (Kd.V_elder' HO_102001.out (Kd.N_base ho18) hb)
      have n2_ := Aside0.mk (Kd.N_lower ho18 (below_size bB))
      have n3_ := Aside0.mk (blk_below BK101.out hb)
      have n4_ := Aside0.mk (below_step bB hb)
      clear HO_102000
      clear HO_102001
      clear BK101
      clear HB
      have HO_102000 := n0_
      have HO_102001 := n1_
      have HO108 := n2_
      have BK101 := n3_
      have HB := n4_
      clear n0_ n1_ n2_ n3_ n4_
      clear hb ho18
      refine hK.out _ _ ⟨(blk_cell BK101.out 0).trans rfl, (blk_cell BK101.out 1).trans rfl⟩ (fun hHeld => ?_)
      clear hK K
      refine norm_ (a' := ?_) ?_ ?_
      rotate_left
      ·
       show Act.put _ (some 28) _ = _
       simp only [Act.put, List.setIfInBounds_toArray, List.set_cons_zero, List.set_cons_succ, i64_w, i32_w]
       rfl
      refine one_ (i := 3) (N := some 31) #[true, true, true, true, true, true, false, false] rfl rfl (one_of HT_.out (by kernel_rfl)) (by decide) (fun K hK => ?_)
      refine Kd.N_append_rows_step (Kd.slice 3 (Kd.int .i64)) (w0 := w) w.heap.size (by rfl) (.tmp 28) (.tmp 30) 22 28 (.slice none 0 0) 24 rfl Try.underlying22 info28 rfl (by decide) (by omega) v107 y106 l0_0 _ _ _ (fun k_ => ((P0_0_ k_ ∨ P0_1_ k_) ∨ w.heap.size ≤ k_) ∧ k_ ≠ gb101) (fun k_ => ((fun k_ => ((P0_0_ k_ ∨ P0_1_ k_) ∨ w.heap.size ≤ k_) ∧ k_ ≠ gb101)) k_ ∧ some k_ ≠ (v107 : Value).ownBlock) rfl rfl ?aO ?aR (fun _ hk => hk) ?aF ?aB ?aS ?aL ?_
      (case aR => exact (by skip; exact Kd.V_F (Kd.V_mono (ok' := (fun k_ => ((fun k_ => ((P0_0_ k_ ∨ P0_1_ k_) ∨ w.heap.size ≤ k_) ∧ k_ ≠ gb101)) k_ ∧ some k_ ≠ (v107 : Value).ownBlock)) (HO_102000.out) (fun k_ hk => ⟨⟨hk.1.1, hk.1.2⟩, hk.2⟩))))
      (case aB => exact bB)
      (case aF => exact (fun k_ hk => ⟨(.inr (Nat.le_trans (below_size bB) hk)), Kd.freshB (g := gb101) (o := .cells #[.slice A0_0 l0_0.length c0_0, .slice A0_1 l0_1.length c0_1] 24 (0, 0)) (by (with_reducible repeat (first | refine blk_drewN ?_ _ | refine blk_drew ?_ | refine blk_alloc ?_ _)); exact BK101.out) k_ hk⟩))
      (case aO => exact HO108.out)
      (case aS => exact (below_size bB))
      (case aL => have := LMc14.out; omega)
      intro v110 w19 ho hb hg hat
      rw [← Ny109.out] at ho
      have n0_ := Aside0.mk (Kd.V_afterv (ok := (fun k_ => ((P0_0_ k_ ∨ P0_1_ k_) ∨ w.heap.size ≤ k_) ∧ k_ ≠ gb101)) HO_102000.out hg hat)
      have n1_ := Aside0.mk (Kd.V_afterv (ok := (fun k_ => ((P0_0_ k_ ∨ P0_1_ k_) ∨ w.heap.size ≤ k_) ∧ k_ ≠ gb101)) HO_102001.out hg hat)
      have n2_ := Aside0.mk (blk_grown (g := gb101) (o := .cells #[.slice A0_0 l0_0.length c0_0, .slice A0_1 l0_1.length c0_1] 24 (0, 0)) (by (with_reducible repeat (first | refine blk_drewN ?_ _ | refine blk_drew ?_ | refine blk_alloc ?_ _)); exact BK101.out) hg (Kd.N_ne HO108.out BK101.out (by decide)))
      have n3_ := Aside0.mk (hb)
      have n4_ := Aside0.mk (ho)
      clear HO_102000
      clear HO_102001
      clear BK101
      clear HB
      clear HO108
      have HO_102000 := n0_
      have HO_102001 := n1_
      have BK101 := n2_
      have HB := n3_
      have HO111 := n4_
      clear n0_ n1_ n2_ n3_ n4_
      clear ho hb hg hat
      refine hK.out _ _ ⟨(blk_cell BK101.out 0).trans rfl, (blk_cell BK101.out 1).trans rfl⟩ (fun hHeld => ?_)
      clear hK K
      refine norm_ (a' := ?_) ?_ ?_
      rotate_left
      ·
       show Act.put _ (some 31) _ = _
       simp only [Act.put, List.setIfInBounds_toArray, List.set_cons_zero, List.set_cons_succ, i64_w, i32_w]
       rfl
      refine one_ (i := 6) (N := some 34) #[true, true, true, true, true, true, true, false] rfl rfl (one_of HT_.out (by kernel_rfl)) (by decide) (fun K hK => ?_)
      refine Kd.N_append_rows_step (Kd.slice 3 (Kd.int .i64)) (w0 := w) w.heap.size (by rfl) (.tmp 31) (.tmp 33) 22 28 (.slice none 0 0) 24 rfl Try.underlying22 info28 rfl (by decide) (by omega) v110 y109 l0_1 _ _ _ (fun k_ => ((P0_0_ k_ ∨ P0_1_ k_) ∨ w.heap.size ≤ k_) ∧ k_ ≠ gb101) (fun k_ => ((fun k_ => ((P0_0_ k_ ∨ P0_1_ k_) ∨ w.heap.size ≤ k_) ∧ k_ ≠ gb101)) k_ ∧ some k_ ≠ (v110 : Value).ownBlock) rfl rfl ?aO ?aR (fun _ hk => hk) ?aF ?aB ?aS ?aL ?_
      (case aR => exact (by skip; exact Kd.V_F (Kd.V_mono (ok' := (fun k_ => ((fun k_ => ((P0_0_ k_ ∨ P0_1_ k_) ∨ w.heap.size ≤ k_) ∧ k_ ≠ gb101)) k_ ∧ some k_ ≠ (v110 : Value).ownBlock)) (HO_102001.out) (fun k_ hk => ⟨⟨hk.1.1, hk.1.2⟩, hk.2⟩))))
      (case aB => exact bB)
      (case aF => exact (fun k_ hk => ⟨(.inr (Nat.le_trans (below_size bB) hk)), Kd.freshB (g := gb101) (o := .cells #[.slice A0_0 l0_0.length c0_0, .slice A0_1 l0_1.length c0_1] 24 (0, 0)) (by (with_reducible repeat (first | refine blk_drewN ?_ _ | refine blk_drew ?_ | refine blk_alloc ?_ _)); exact BK101.out) k_ hk⟩))
      (case aO => exact HO111.out)
      (case aS => exact (below_size bB))
      (case aL => have := LMc15.out; omega)
      intro v113 w20 ho hb hg hat
      rw [← Ny112.out] at ho
      have n0_ := Aside0.mk (Kd.V_afterv (ok := (fun k_ => ((P0_0_ k_ ∨ P0_1_ k_) ∨ w.heap.size ≤ k_) ∧ k_ ≠ gb101)) HO_102000.out hg hat)
      have n1_ := Aside0.mk (Kd.V_afterv (ok := (fun k_ => ((P0_0_ k_ ∨ P0_1_ k_) ∨ w.heap.size ≤ k_) ∧ k_ ≠ gb101)) HO_102001.out hg hat)
      have n2_ := Aside0.mk (blk_grown (g := gb101) (o := .cells #[.slice A0_0 l0_0.length c0_0, .slice A0_1 l0_1.length c0_1] 24 (0, 0)) (by (with_reducible repeat (first | refine blk_drewN ?_ _ | refine blk_drew ?_ | refine blk_alloc ?_ _)); exact BK101.out) hg (Kd.N_ne HO111.out BK101.out (by decide)))
      have n3_ := Aside0.mk (hb)
      have n4_ := Aside0.mk (ho)
      clear HO_102000
      clear HO_102001
      clear BK101
      clear HB
      clear HO111
      have HO_102000 := n0_
      have HO_102001 := n1_
      have BK101 := n2_
      have HB := n3_
      have HO114 := n4_
      clear n0_ n1_ n2_ n3_ n4_
      clear ho hb hg hat
      refine hK.out _ _ ⟨(blk_cell BK101.out 0).trans rfl, (blk_cell BK101.out 1).trans rfl⟩ (fun hHeld => ?_)
      clear hK K
      refine norm_ (a' := ?_) ?_ ?_
      rotate_left
      ·
       show Act.put _ (some 34) _ = _
       simp only [Act.put, List.setIfInBounds_toArray, List.set_cons_zero, List.set_cons_succ, i64_w, i32_w]
       rfl
      refine pure_ (i := 7) (N := some 3) (v := ?_) (a' := ?_) #[true, true, true, true, true, true, true, true] rfl rfl (any_of HT_.out (by kernel_rfl)) (fun _ _ _ h => h) (Or.inl ⟨by rfl, ?_⟩) ?_ ?_
      rotate_left
      ·
       intro w'
       go_simp
       with_reducible rfl
      rotate_left
      ·
       simp only [Act.put, List.setIfInBounds_toArray, List.set_cons_zero, List.set_cons_succ, i64_w, i32_w]
       rfl
      refine done_ (done_of HT_.out (by kernel_rfl)) ?_
      try go_wp2
      go_loopg [4] kj1 (fun kq v4 w' => ∃ (x4_2 : Int), v4 = .int .i64 x4_2 ∧ Aside0 (verditerref04_Validate.l0 kq y112 x4_2 l0_0 l0_1 = some r) ∧ Aside0 (kq ≤ kj1) ∧ Aside0 (Kd.N (Kd.slice 3 (Kd.int .i64)) 28 w' w.heap.size (fun k_ => ((P0_0_ k_ ∨ P0_1_ k_) ∨ w.heap.size ≤ k_) ∧ k_ ≠ gb101) v113 y112) ∧ Aside0 (Kd.V (Kd.slice 3 (Kd.int .i64)) 28 w' w.heap.size (fun k_ => ((P0_0_ k_ ∨ P0_1_ k_) ∨ w.heap.size ≤ k_) ∧ some k_ ≠ (v113 : Value).ownBlock ∧ k_ ≠ gb101) (.slice A0_0 l0_0.length c0_0) l0_0) ∧ Aside0 (Kd.V (Kd.slice 3 (Kd.int .i64)) 28 w' w.heap.size (fun k_ => ((P0_0_ k_ ∨ P0_1_ k_) ∨ w.heap.size ≤ k_) ∧ some k_ ≠ (v113 : Value).ownBlock ∧ k_ ≠ gb101) (.slice A0_1 l0_1.length c0_1) l0_1) ∧ Aside0 (w'.heap[gb101]? = some (.cells #[(.slice A0_0 l0_0.length c0_0), (.slice A0_1 l0_1.length c0_1)] 24 (0, 0))) ∧ Aside0 (Below w.heap.size w w'))
      case atStart => exact ⟨(0), (by first | rfl | (simp; done) | (simp [*]; done)), H', ⟨Nat.le_refl _⟩, ⟨by (with_reducible repeat (first | apply Kd.N_alloc | apply Kd.N_drewN | apply Kd.N_drew)); exact HO114.out⟩, ⟨by (with_reducible repeat (first | apply Kd.V_alloc | apply Kd.V_drewN | apply Kd.V_drew)); exact Kd.V_mono HO_102000.out (fun _ hk => ⟨hk.1.1, ⟨hk.2, hk.1.2⟩⟩)⟩, ⟨by (with_reducible repeat (first | apply Kd.V_alloc | apply Kd.V_drewN | apply Kd.V_drew)); exact Kd.V_mono HO_102001.out (fun _ hk => ⟨hk.1.1, ⟨hk.2, hk.1.2⟩⟩)⟩, ⟨by (with_reducible repeat (first | refine blk_drewN ?_ _ | refine blk_drew ?_ | refine blk_alloc ?_ _)); exact BK101.out⟩, ⟨bB⟩⟩
      case round =>
       clear H'
       try clear c1
       try clear p1
       try clear q1
       try clear hx1
       try clear qi1
       try clear p2
       try clear c5
       try clear c7
       try clear c8
       try clear c8b0
       try clear c8b1
       try clear c9
       try clear c10
       try clear p10
       try clear q10
       try clear hx10
       try clear qi10
       try clear c13
       try clear c14
       try clear c15
       try clear hcz10_0
       try clear hcz10_1
       try clear hcz11_0
       try clear hcz11_1
       try clear hcz12_0
       try clear hcz12_1
       try clear hfz10_0
       try clear hfz10_1
       try clear hfz11_0
       try clear hfz11_1
       try clear hfz12_0
       try clear hfz12_1
       try clear hx104_0
       try clear p1
       try clear p10
       try clear p104
       try clear p2
       try clear q1
       try clear q10
       try clear q104
       obtain ⟨x4_2, rfl, HA, HK2, HO_3, HO_102000, HO_102001, BK101, HB⟩ := hrel
       cases gk with
       | zero => exact absurd HA.out (by simp [verditerref04_Validate.l0])
       | succ k2 =>
        have H := HA.out
        clear HA
        simp only [verditerref04_Validate.l0] at H
        by_cases c21 : x4_2 < (y112.length : Int)
        ·
         rw [if_pos c21] at H
         have c21b0 : decide (x4_2 < (y112.length : Int)) = true := decide_eq_true c21
         clear c21
         by_cases c22 : 0 ≤ x4_2
         ·
          rw [if_pos c22] at H
          have c22b0 : decide (0 ≤ x4_2) = true := decide_eq_true c22
          clear c22
          by_cases c23 : 0 < (l0_0.length : Int)
          ·
           rw [if_pos c23] at H
           have c23b0 : decide (0 < (l0_0.length : Int)) = true := decide_eq_true c23
           have c23b1 : decide (0 < l0_0.length) = true := decide_eq_true (by omega)
           clear c23
           by_cases c24 : ((rd_L1 y112 x4_2).length : Int) = ((rd_L1 l0_0 0).length : Int)
           ·
            rw [if_pos c24] at H
            have c24b0 : (((rd_L1 y112 x4_2).length : Int) == ((rd_L1 l0_0 0).length : Int)) = true := beq_iff_eq.mpr c24
            have c24b1 : (((rd_L1 y112 x4_2).length : Int) != ((rd_L1 l0_0 0).length : Int)) = false := bne_eq_false_iff_eq.mpr c24
            have c24b2 : ((rd_L1 y112 x4_2).length == (rd_L1 l0_0 0).length) = true := by first | simpa using c24 | (simp at c24 ⊢; omega)
            clear c24
            have H' := Aside0.mk H
            clear H
            obtain ⟨Ao25, co25, eo25⟩ := Kd.N_slice HO_3.out
            subst eo25
            try go_wp2
            have n0_ := Aside0.mk (Kd.N_drew HO_3.out)
            have n1_ := Aside0.mk (Kd.V_drew HO_102000.out)
            have n2_ := Aside0.mk (Kd.V_drew HO_102001.out)
            have n3_ := Aside0.mk (blk_drew BK101.out)
            have n4_ := Aside0.mk (below_drew1 HB.out)
            clear HO_3
            clear HO_102000
            clear HO_102001
            clear BK101
            clear HB
            have HO_3 := n0_
            have HO_102000 := n1_
            have HO_102001 := n2_
            have BK101 := n3_
            have HB := n4_
            clear n0_ n1_ n2_ n3_ n4_
            have p115 : 0 ≤ (x4_2 : Int) := of_decide_eq_true (by assumption)
            have q115 : x4_2 < (y112.length : Int) := of_decide_eq_true (by assumption)
            obtain ⟨ad115, A115_0, c115_0, e115, hx115_0, hl115_0, hi115_0⟩ := at_L1 (Kd.N_reads' HO_3.out).2.2 x4_2 p115 q115
            cases e115
            obtain ⟨ce115, hce115, hMe115, hcc115⟩ := Kd.N_get HO_3.out [] x4_2 p115 (by first | exact q115 | exact of_decide_eq_true (by assumption) | (have e_ := (Kd.N_reads' HO_3.out).1; omega))
            obtain ⟨ua115_0, uc115_0, rfl, ul115_0, ge115_0⟩ := Kd.FK_slice_open hMe115
            have hv115_0 := hcc115 0 _ rfl
            rw [Nat.add_zero, show ((Kd.slice 3 (Kd.int .i64))).sz = 1 from rfl, Nat.mul_one] at hv115_0
            replace hv115_0 := Option.some.inj (hv115_0.symm.trans hx115_0)
            injection hv115_0 with hva_ hvn_ hvc_
            rw [hva_] at ge115_0
            rw [hvc_] at ul115_0
            have HL115_0 := Aside0.mk (show Kd.V (Kd.int .i64) 3 _ w.heap.size _ _ (rd_L1 y112 x4_2) from Kd.V_mk ul115_0 ge115_0)
            clear hva_ hvn_ hvc_ ge115_0 ul115_0
            clear hcc115 hce115
            have HR115_0 := Aside0.mk hi115_0
            have HC115_0 := Aside0.mk hl115_0
            clear hi115_0 hl115_0
            replace p115 := eq_true p115
            replace q115 := eq_true q115
            have p116 : 0 ≤ (0 : Int) := (by omega)
            have q116 : 0 < (l0_0.length : Int) := of_decide_eq_true (by assumption)
            obtain ⟨ad116, A116_0, c116_0, e116, hx116_0, hl116_0, hi116_0⟩ := at_L1 (Kd.V_reads' HO_102000.out).2.2 0 p116 q116
            cases e116
            obtain ⟨ce116, hce116, hMe116, hcc116⟩ := Kd.V_get HO_102000.out [] 0 p116 (by first | exact q116 | exact of_decide_eq_true (by assumption) | (have e_ := (Kd.V_reads' HO_102000.out).1; omega))
            obtain ⟨ua116_0, uc116_0, rfl, ul116_0, ge116_0⟩ := Kd.FK_slice_open hMe116
            have hv116_0 := hcc116 0 _ rfl
            rw [Nat.add_zero, show ((Kd.slice 3 (Kd.int .i64))).sz = 1 from rfl, Nat.mul_one] at hv116_0
            replace hv116_0 := Option.some.inj (hv116_0.symm.trans hx116_0)
            injection hv116_0 with hva_ hvn_ hvc_
            rw [hva_] at ge116_0
            rw [hvc_] at ul116_0
            have HL116_0 := Aside0.mk (show Kd.V (Kd.int .i64) 3 _ w.heap.size _ _ (rd_L1 l0_0 0) from Kd.V_mk ul116_0 ge116_0)
            clear hva_ hvn_ hvc_ ge116_0 ul116_0
            clear hcc116 hce116
            have qi116 : (0 < l0_0.length) = True := eq_true (by omega)
            (try rw [show ((0 : Int)).toNat = 0 from rfl] at hx116_0)
            (try rw [Addr.add_zero'] at hx116_0)
            have HR116_0 := Aside0.mk hi116_0
            have HC116_0 := Aside0.mk hl116_0
            clear hi116_0 hl116_0
            replace p116 := eq_true p116
            replace q116 := eq_true q116
            refine start_ (n := 11) (S := fun w' => w'.cell? ⟨gb101, 0, none⟩ = some (.slice (some ad116) l0_0.length c0_0) ∧ w'.cell? ⟨gb101, 1, none⟩ = some (.slice A0_1 l0_1.length c0_1) ∧ w'.cell? (ad115.add (x4_2).toNat) = some (.slice A115_0 (rd_L1 y112 x4_2).length c115_0) ∧ w'.cell? ad116 = some (.slice A116_0 (rd_L1 l0_0 0).length c116_0)) (ds := []) #[false, false, false, false, false, false, false, false, false, false, false] (by kernel_rfl) rfl rfl ⟨(blk_cell BK101.out 0).trans rfl, (blk_cell BK101.out 1).trans rfl, hx115_0, hx116_0⟩ (fun hHeld => ?_); refine with_tabW verditerref04_Validate.tab7 verditerref04_Validate.bits7 (fun HT_ HW_ => ?_)
            generalize wr.drew = w26 at HO_3 HO_102000 HO_102001 BK101 HB HL115_0 HL116_0 HR115_0 HR116_0 hx115_0 hx116_0 hHeld ⊢
            refine pure_ (i := 0) (N := some 41) (v := ?_) (a' := ?_) #[true, false, false, false, false, false, false, false, false, false, false] rfl rfl (any_of HT_.out (by kernel_rfl)) (fun _ _ _ h => h) (Or.inl ⟨by rfl, ?_⟩) ?_ ?_
            rotate_left
            ·
             intro w'
             go_simp
             with_reducible rfl
            rotate_left
            ·
             simp only [Act.put, List.setIfInBounds_toArray, List.set_cons_zero, List.set_cons_succ, i64_w, i32_w]
             rfl
            refine pure_ (i := 1) (N := some 42) (v := ?_) (a' := ?_) #[true, true, false, false, false, false, false, false, false, false, false] rfl rfl (any_of HT_.out (by kernel_rfl)) (fun _ _ _ h => h) (Or.inl ⟨by rfl, ?_⟩) ?_ ?_
            rotate_left
            ·
             intro w'
             go_simp
             with_reducible rfl
            rotate_left
            ·
             simp only [Act.put, List.setIfInBounds_toArray, List.set_cons_zero, List.set_cons_succ, i64_w, i32_w]
             rfl
            refine pure_ (i := 2) (N := some 43) (v := ?_) (a' := ?_) #[true, true, true, false, false, false, false, false, false, false, false] rfl rfl (any_of HT_.out (by kernel_rfl)) (fun _ _ _ h => h) (Or.inl ⟨by rfl, ?_⟩) ?_ ?_
            rotate_left
            ·
             intro w'
             go_simp
             with_reducible rfl
            rotate_left
            ·
             simp only [Act.put, List.setIfInBounds_toArray, List.set_cons_zero, List.set_cons_succ, i64_w, i32_w]
             rfl
            refine pure_ (i := 5) (N := some 46) (v := ?_) (a' := ?_) #[true, true, true, false, false, true, false, false, false, false, false] rfl rfl (any_of HT_.out (by kernel_rfl)) (fun _ _ _ h => h) (Or.inl ⟨by rfl, ?_⟩) ?_ ?_
            rotate_left
            ·
             intro w'
             go_simp
             with_reducible rfl
            rotate_left
            ·
             simp only [Act.put, List.setIfInBounds_toArray, List.set_cons_zero, List.set_cons_succ, i64_w, i32_w]
             rfl
            refine take_ (i := 3) (N := some 44) (v := ?_) (a' := ?_) #[true, true, true, true, false, true, false, false, false, false, false] rfl rfl (take_ofW HT_.out HW_.out (by kernel_rfl)) (fun _ _ _ h => h) (Or.inl ⟨by rfl, ?_⟩) hHeld ?_ ?_
            rotate_left
            ·
             rintro w' ⟨s0, s1, s2, s3⟩
             go_simp
             with_reducible rfl
            rotate_left
            ·
             simp only [Act.put, List.setIfInBounds_toArray, List.set_cons_zero, List.set_cons_succ, i64_w, i32_w]
             rfl
            refine pure_ (i := 4) (N := some 45) (v := ?_) (a' := ?_) #[true, true, true, true, true, true, false, false, false, false, false] rfl rfl (any_of HT_.out (by kernel_rfl)) (fun _ _ _ h => h) (Or.inl ⟨by rfl, ?_⟩) ?_ ?_
            rotate_left
            ·
             intro w'
             go_simp
             with_reducible rfl
            rotate_left
            ·
             simp only [Act.put, List.setIfInBounds_toArray, List.set_cons_zero, List.set_cons_succ, i64_w, i32_w]
             rfl
            refine take_ (i := 6) (N := some 47) (v := ?_) (a' := ?_) #[true, true, true, true, true, true, true, false, false, false, false] rfl rfl (take_ofW HT_.out HW_.out (by kernel_rfl)) (fun _ _ _ h => h) (Or.inl ⟨by rfl, ?_⟩) hHeld ?_ ?_
            rotate_left
            ·
             rintro w' ⟨s0, s1, s2, s3⟩
             go_simp
             with_reducible rfl
            rotate_left
            ·
             simp only [Act.put, List.setIfInBounds_toArray, List.set_cons_zero, List.set_cons_succ, i64_w, i32_w]
             rfl
            refine pure_ (i := 7) (N := some 48) (v := ?_) (a' := ?_) #[true, true, true, true, true, true, true, true, false, false, false] rfl rfl (any_of HT_.out (by kernel_rfl)) (fun _ _ _ h => h) (Or.inl ⟨by rfl, ?_⟩) ?_ ?_
            rotate_left
            ·
             intro w'
             go_simp
             with_reducible rfl
            rotate_left
            ·
             simp only [Act.put, List.setIfInBounds_toArray, List.set_cons_zero, List.set_cons_succ, i64_w, i32_w]
             rfl
            refine take_ (i := 8) (N := some 49) (v := ?_) (a' := ?_) #[true, true, true, true, true, true, true, true, true, false, false] rfl rfl (take_ofW HT_.out HW_.out (by kernel_rfl)) (fun _ _ _ h => h) (Or.inl ⟨by rfl, ?_⟩) hHeld ?_ ?_
            rotate_left
            ·
             rintro w' ⟨s0, s1, s2, s3⟩
             go_simp
             with_reducible rfl
            rotate_left
            ·
             simp only [Act.put, List.setIfInBounds_toArray, List.set_cons_zero, List.set_cons_succ, i64_w, i32_w]
             rfl
            refine pure_ (i := 9) (N := some 50) (v := ?_) (a' := ?_) #[true, true, true, true, true, true, true, true, true, true, false] rfl rfl (any_of HT_.out (by kernel_rfl)) (fun _ _ _ h => h) (Or.inl ⟨by rfl, ?_⟩) ?_ ?_
            rotate_left
            ·
             intro w'
             go_simp
             with_reducible rfl
            rotate_left
            ·
             simp only [Act.put, List.setIfInBounds_toArray, List.set_cons_zero, List.set_cons_succ, i64_w, i32_w]
             rfl
            refine pure_ (i := 10) (N := some 51) (v := ?_) (a' := ?_) #[true, true, true, true, true, true, true, true, true, true, true] rfl rfl (any_of HT_.out (by kernel_rfl)) (fun _ _ _ h => h) (Or.inl ⟨by rfl, ?_⟩) ?_ ?_
            rotate_left
            ·
             intro w'
             go_simp
             with_reducible rfl
            rotate_left
            ·
             simp only [Act.put, List.setIfInBounds_toArray, List.set_cons_zero, List.set_cons_succ, i64_w, i32_w]
             rfl
            refine done_ (done_of HT_.out (by kernel_rfl)) ?_
            try go_wp2
            go_loopg [5, 6] k2 (fun kq v5 v6 w' => ∃ (x5_3 : Int) (x6_3 : Int), v5 = .int .i64 x5_3 ∧ v6 = .int .i64 x6_3 ∧ Aside0 (verditerref04_Validate.l1 kq y112 x4_2 x5_3 x6_3 l0_0 l0_1 = some r) ∧ Aside0 (kq ≤ k2) ∧ Aside0 (Kd.N (Kd.slice 3 (Kd.int .i64)) 28 w' w.heap.size (fun k_ => ((P0_0_ k_ ∨ P0_1_ k_) ∨ w.heap.size ≤ k_) ∧ k_ ≠ gb101) (.slice (some ad115) y112.length co25) y112) ∧ Aside0 (Kd.V (Kd.slice 3 (Kd.int .i64)) 28 w' w.heap.size (fun k_ => ((P0_0_ k_ ∨ P0_1_ k_) ∨ w.heap.size ≤ k_) ∧ some k_ ≠ ((.slice (some ad115) y112.length co25) : Value).ownBlock ∧ k_ ≠ gb101) (.slice (some ad116) l0_0.length c0_0) l0_0) ∧ Aside0 (Kd.V (Kd.slice 3 (Kd.int .i64)) 28 w' w.heap.size (fun k_ => ((P0_0_ k_ ∨ P0_1_ k_) ∨ w.heap.size ≤ k_) ∧ some k_ ≠ ((.slice (some ad115) y112.length co25) : Value).ownBlock ∧ k_ ≠ gb101) (.slice A0_1 l0_1.length c0_1) l0_1) ∧ Aside0 (w'.heap[gb101]? = some (.cells #[(.slice (some ad116) l0_0.length c0_0), (.slice A0_1 l0_1.length c0_1)] 24 (0, 0))) ∧ Aside0 (Kd.C (Kd.int .i64) w' A115_0 (rd_L1 y112 x4_2).length (rd_L1 y112 x4_2)) ∧ Aside0 (Kd.C (Kd.int .i64) w' A116_0 (rd_L1 l0_0 0).length (rd_L1 l0_0 0)) ∧ Aside0 (Below w.heap.size w w'))
            case atStart => exact ⟨(0), (0), (by first | rfl | (simp; done) | (simp [*]; done)), (by first | rfl | (simp; done) | (simp [*]; done)), H', ⟨Nat.le_refl _⟩, ⟨by (with_reducible repeat (first | apply Kd.N_alloc | apply Kd.N_drewN | apply Kd.N_drew)); exact HO_3.out⟩, ⟨by (with_reducible repeat (first | apply Kd.V_alloc | apply Kd.V_drewN | apply Kd.V_drew)); exact HO_102000.out⟩, ⟨by (with_reducible repeat (first | apply Kd.V_alloc | apply Kd.V_drewN | apply Kd.V_drew)); exact HO_102001.out⟩, ⟨by (with_reducible repeat (first | refine blk_drewN ?_ _ | refine blk_drew ?_ | refine blk_alloc ?_ _)); exact BK101.out⟩, ⟨by repeat (first | (with_reducible exact HR115_0.out) | (with_reducible refine Kd.C_alloc ?_ _) | (with_reducible refine Kd.C_drewN ?_ _) | (with_reducible refine Kd.C_drew ?_) | exact HR115_0.out)⟩, ⟨by repeat (first | (with_reducible exact HR116_0.out) | (with_reducible refine Kd.C_alloc ?_ _) | (with_reducible refine Kd.C_drewN ?_ _) | (with_reducible refine Kd.C_drew ?_) | exact HR116_0.out)⟩, ⟨bB⟩⟩
            case round =>
             clear H'
             try clear c1
             try clear p1
             try clear q1
             try clear hx1
             try clear qi1
             try clear c2
             try clear p2
             try clear c5
             try clear c7
             try clear c8
             try clear c8b0
             try clear c8b1
             try clear c9
             try clear c10
             try clear p10
             try clear q10
             try clear hx10
             try clear qi10
             try clear c11
             try clear p11
             try clear q11
             try clear hx11
             try clear qi11
             try clear c13
             try clear c14
             try clear c15
             try clear c21
             try clear c21b0
             try clear c22
             try clear c22b0
             try clear c23
             try clear c23b0
             try clear c23b1
             try clear c24
             try clear c24b0
             try clear c24b1
             try clear c24b2
             try clear hcz10_0
             try clear hcz10_1
             try clear hcz11_0
             try clear hcz11_1
             try clear hcz12_0
             try clear hcz12_1
             try clear hfz10_0
             try clear hfz10_1
             try clear hfz11_0
             try clear hfz11_1
             try clear hfz12_0
             try clear hfz12_1
             try clear hx104_0
             try clear hx115_0
             try clear hx116_0
             try clear p1
             try clear p10
             try clear p104
             try clear p115
             try clear p116
             try clear p2
             try clear q1
             try clear q10
             try clear q104
             try clear q115
             try clear q116
             obtain ⟨x5_3, x6_3, rfl, rfl, HA, HK3, HO_3, HO_102000, HO_102001, BK101, HR115_0, HR116_0, HB⟩ := hrel
             cases gk with
             | zero => exact absurd HA.out (by simp [verditerref04_Validate.l1])
             | succ k3 =>
              have H := HA.out
              clear HA
              simp only [verditerref04_Validate.l1] at H
              by_cases c27 : 0 ≤ x4_2
              ·
               rw [if_pos c27] at H
               have c27b0 : decide (0 ≤ x4_2) = true := decide_eq_true c27
               clear c27
               by_cases c28 : x4_2 < (y112.length : Int)
               ·
                rw [if_pos c28] at H
                have c28b0 : decide (x4_2 < (y112.length : Int)) = true := decide_eq_true c28
                clear c28
                by_cases c29 : x6_3 < ((rd_L1 y112 x4_2).length : Int)
                ·
                 rw [if_pos c29] at H
                 have c29b0 : decide (x6_3 < ((rd_L1 y112 x4_2).length : Int)) = true := decide_eq_true c29
                 clear c29
                 by_cases c30 : 0 ≤ x6_3
                 ·
                  rw [if_pos c30] at H
                  have c30b0 : decide (0 ≤ x6_3) = true := decide_eq_true c30
                  clear c30
                  replace H := Option.bind_eq_some_iff.mp H
                  obtain ⟨t120, A310, H⟩ := H
                  replace H : (if t120 = true then (verditerref04_Validate.l1 k3 y112 x4_2 (wrap64 (x5_3 + (rd (rd_L1 y112 x4_2) x6_3))) (wrap64 (x6_3 + 1)) l0_0 l0_1) else (some 1)) = some r := H
                  have A31 := Aside0.mk A310
                  clear A310
                  by_cases c32 : t120 = true
                  ·
                   subst c32
                   have H1 : (verditerref04_Validate.l1 k3 y112 x4_2 (wrap64 (x5_3 + (rd (rd_L1 y112 x4_2) x6_3))) (wrap64 (x6_3 + 1)) l0_0 l0_1) = some r := by rw [if_pos rfl] at H; exact H
                   clear H
                   have H := H1
                   clear H1
                   have H' := Aside0.mk H
                   clear H
                   have p117 : 0 ≤ (x4_2 : Int) := of_decide_eq_true (by assumption)
                   have q117 : x4_2 < (y112.length : Int) := of_decide_eq_true (by assumption)
                   obtain ⟨ad117, A117_0, c117_0, e117, hx117_0, hl117_0, hi117_0⟩ := at_L1 (Kd.N_reads' HO_3.out).2.2 x4_2 p117 q117
                   obtain rfl : ad115 = ad117 := (by injection e117)
                   obtain ⟨ce117, hce117, hMe117, hcc117⟩ := Kd.N_get HO_3.out [] x4_2 p117 (by first | exact q117 | exact of_decide_eq_true (by assumption) | (have e_ := (Kd.N_reads' HO_3.out).1; omega))
                   obtain ⟨ua117_0, uc117_0, rfl, ul117_0, ge117_0⟩ := Kd.FK_slice_open hMe117
                   have hv117_0 := hcc117 0 _ rfl
                   rw [Nat.add_zero, show ((Kd.slice 3 (Kd.int .i64))).sz = 1 from rfl, Nat.mul_one] at hv117_0
                   replace hv117_0 := Option.some.inj (hv117_0.symm.trans hx117_0)
                   injection hv117_0 with hva_ hvn_ hvc_
                   rw [hva_] at ge117_0
                   rw [hvc_] at ul117_0
                   have HL117_0 := Aside0.mk (show Kd.V (Kd.int .i64) 3 _ w.heap.size _ _ (rd_L1 y112 x4_2) from Kd.V_mk ul117_0 ge117_0)
                   clear hva_ hvn_ hvc_ ge117_0 ul117_0
                   clear hcc117 hce117
                   have HR117_0 := Aside0.mk hi117_0
                   have HC117_0 := Aside0.mk hl117_0
                   clear hi117_0 hl117_0
                   replace p117 := eq_true p117
                   replace q117 := eq_true q117
                   have p118 : 0 ≤ (x4_2 : Int) := of_decide_eq_true (by assumption)
                   have q118 : x4_2 < (y112.length : Int) := of_decide_eq_true (by assumption)
                   obtain ⟨ad118, A118_0, c118_0, e118, hx118_0, hl118_0, hi118_0⟩ := at_L1 (Kd.N_reads' HO_3.out).2.2 x4_2 p118 q118
                   obtain rfl : ad115 = ad118 := (by injection e118)
                   obtain ⟨ce118, hce118, hMe118, hcc118⟩ := Kd.N_get HO_3.out [] x4_2 p118 (by first | exact q118 | exact of_decide_eq_true (by assumption) | (have e_ := (Kd.N_reads' HO_3.out).1; omega))
                   obtain ⟨ua118_0, uc118_0, rfl, ul118_0, ge118_0⟩ := Kd.FK_slice_open hMe118
                   have hv118_0 := hcc118 0 _ rfl
                   rw [Nat.add_zero, show ((Kd.slice 3 (Kd.int .i64))).sz = 1 from rfl, Nat.mul_one] at hv118_0
                   replace hv118_0 := Option.some.inj (hv118_0.symm.trans hx118_0)
                   injection hv118_0 with hva_ hvn_ hvc_
                   rw [hva_] at ge118_0
                   rw [hvc_] at ul118_0
                   have HL118_0 := Aside0.mk (show Kd.V (Kd.int .i64) 3 _ w.heap.size _ _ (rd_L1 y112 x4_2) from Kd.V_mk ul118_0 ge118_0)
                   clear hva_ hvn_ hvc_ ge118_0 ul118_0
                   clear hcc118 hce118
                   have HR118_0 := Aside0.mk hi118_0
                   have HC118_0 := Aside0.mk hl118_0
                   clear hi118_0 hl118_0
                   replace p118 := eq_true p118
                   replace q118 := eq_true q118
                   have ea_ := Option.some.inj (hx117_0.symm.trans hx118_0)
                   injection ea_ with ea_ en_ ec_
                   subst ea_
                   subst ec_
                   clear en_
                   have p119 : 0 ≤ (x6_3 : Int) := of_decide_eq_true (by assumption)
                   have q119 : x6_3 < ((rd_L1 y112 x4_2).length : Int) := of_decide_eq_true (by assumption)
                   obtain ⟨ad119, e119, hx119_0⟩ := Kd.at_int (by repeat (first | (with_reducible exact HR118_0.out) | (with_reducible refine Kd.C_alloc ?_ _) | (with_reducible refine Kd.C_drewN ?_ _) | (with_reducible refine Kd.C_drew ?_) | exact HR118_0.out)) x6_3 p119 q119
                   cases e119
                   replace p119 := eq_true p119
                   replace q119 := eq_true q119
                   go_wp2_with (first | ((with_reducible refine gate_callee (f := 99) rfl ?_); refine goesL_ (some 68) rfl rfl Try.func99 (by kernel_rfl) rfl #[.int .i64 (rd (rd_L1 y112 x4_2) x6_3), .int .i64 0, .int .i64 9] rfl hA ?_; (with_reducible refine (verditerref04_within.calls (rd (rd_L1 y112 x4_2) x6_3) 0 9 true _ A31.out).mono ?_); rintro e w' ⟨rfl, ⟨nd, rfl⟩⟩; refine ⟨_, rfl, ?_⟩; have p121 : 0 ≤ (x4_2 : Int) := of_decide_eq_true (by assumption); have q121 : x4_2 < (y112.length : Int) := of_decide_eq_true (by assumption); obtain ⟨ad121, A121_0, c121_0, e121, hx121_0, hl121_0, hi121_0⟩ := at_L1 (Kd.N_reads' HO_3.out).2.2 x4_2 p121 q121; obtain rfl : ad115 = ad121 := (by injection e121); obtain ⟨ce121, hce121, hMe121, hcc121⟩ := Kd.N_get HO_3.out [] x4_2 p121 (by first | exact q121 | exact of_decide_eq_true (by assumption) | (have e_ := (Kd.N_reads' HO_3.out).1; omega)); obtain ⟨ua121_0, uc121_0, rfl, ul121_0, ge121_0⟩ := Kd.FK_slice_open hMe121; have hv121_0 := hcc121 0 _ rfl; rw [Nat.add_zero, show ((Kd.slice 3 (Kd.int .i64))).sz = 1 from rfl, Nat.mul_one] at hv121_0; replace hv121_0 := Option.some.inj (hv121_0.symm.trans hx121_0); injection hv121_0 with hva_ hvn_ hvc_; rw [hva_] at ge121_0; rw [hvc_] at ul121_0; have HL121_0 := Aside0.mk (show Kd.V (Kd.int .i64) 3 _ w.heap.size _ _ (rd_L1 y112 x4_2) from Kd.V_mk ul121_0 ge121_0); clear hva_ hvn_ hvc_ ge121_0 ul121_0; clear hcc121 hce121; have HR121_0 := Aside0.mk hi121_0; have HC121_0 := Aside0.mk hl121_0; clear hi121_0 hl121_0; replace p121 := eq_true p121; replace q121 := eq_true q121; have ea_ := Option.some.inj (hx117_0.symm.trans hx121_0); injection ea_ with ea_ en_ ec_; subst ea_; subst ec_; clear en_; have p122 : 0 ≤ (x6_3 : Int) := of_decide_eq_true (by assumption); have q122 : x6_3 < ((rd_L1 y112 x4_2).length : Int) := of_decide_eq_true (by assumption); obtain ⟨ad122, e122, hx122_0⟩ := Kd.at_int (by repeat (first | (with_reducible exact HR121_0.out) | (with_reducible refine Kd.C_alloc ?_ _) | (with_reducible refine Kd.C_drewN ?_ _) | (with_reducible refine Kd.C_drew ?_) | exact HR121_0.out)) x6_3 p122 q122; cases e122; replace p122 := eq_true p122; replace q122 := eq_true q122))
                   go_roundg k3
                   case measure => have := HJ1.out; have := HK2.out; have := HK3.out; omega
                   case rel => exact ⟨(wrap64 (x5_3 + (rd (rd_L1 y112 x4_2) x6_3))), (wrap64 (x6_3 + 1)), (by first | rfl | (simp; done) | (simp [*]; done)), (by first | rfl | (simp; done) | (simp [*]; done)), H', ⟨by have := HJ1.out; have := HK2.out; have := HK3.out; omega⟩, ⟨by (with_reducible repeat (first | apply Kd.N_alloc | apply Kd.N_drewN | apply Kd.N_drew)); exact HO_3.out⟩, ⟨by (with_reducible repeat (first | apply Kd.V_alloc | apply Kd.V_drewN | apply Kd.V_drew)); exact HO_102000.out⟩, ⟨by (with_reducible repeat (first | apply Kd.V_alloc | apply Kd.V_drewN | apply Kd.V_drew)); exact HO_102001.out⟩, ⟨by (with_reducible repeat (first | refine blk_drewN ?_ _ | refine blk_drew ?_ | refine blk_alloc ?_ _)); exact BK101.out⟩, ⟨by repeat (first | (with_reducible exact HR115_0.out) | (with_reducible refine Kd.C_alloc ?_ _) | (with_reducible refine Kd.C_drewN ?_ _) | (with_reducible refine Kd.C_drew ?_) | exact HR115_0.out)⟩, ⟨by repeat (first | (with_reducible exact HR116_0.out) | (with_reducible refine Kd.C_alloc ?_ _) | (with_reducible refine Kd.C_drewN ?_ _) | (with_reducible refine Kd.C_drew ?_) | exact HR116_0.out)⟩, ⟨bB⟩⟩
                  ·
                   replace c32 := Bool.eq_false_iff.mpr c32
                   subst c32
                   have H1 : (some 1) = some r := by rw [if_neg (show ¬ (false = true) by decide)] at H; exact H
                   clear H
                   have H := H1
                   clear H1
                   obtain rfl := Option.some.inj H
                   have p117 : 0 ≤ (x4_2 : Int) := of_decide_eq_true (by assumption)
                   have q117 : x4_2 < (y112.length : Int) := of_decide_eq_true (by assumption)
                   obtain ⟨ad117, A117_0, c117_0, e117, hx117_0, hl117_0, hi117_0⟩ := at_L1 (Kd.N_reads' HO_3.out).2.2 x4_2 p117 q117
                   obtain rfl : ad115 = ad117 := (by injection e117)
                   obtain ⟨ce117, hce117, hMe117, hcc117⟩ := Kd.N_get HO_3.out [] x4_2 p117 (by first | exact q117 | exact of_decide_eq_true (by assumption) | (have e_ := (Kd.N_reads' HO_3.out).1; omega))
                   obtain ⟨ua117_0, uc117_0, rfl, ul117_0, ge117_0⟩ := Kd.FK_slice_open hMe117
                   have hv117_0 := hcc117 0 _ rfl
                   rw [Nat.add_zero, show ((Kd.slice 3 (Kd.int .i64))).sz = 1 from rfl, Nat.mul_one] at hv117_0
                   replace hv117_0 := Option.some.inj (hv117_0.symm.trans hx117_0)
                   injection hv117_0 with hva_ hvn_ hvc_
                   rw [hva_] at ge117_0
                   rw [hvc_] at ul117_0
                   have HL117_0 := Aside0.mk (show Kd.V (Kd.int .i64) 3 _ w.heap.size _ _ (rd_L1 y112 x4_2) from Kd.V_mk ul117_0 ge117_0)
                   clear hva_ hvn_ hvc_ ge117_0 ul117_0
                   clear hcc117 hce117
                   have HR117_0 := Aside0.mk hi117_0
                   have HC117_0 := Aside0.mk hl117_0
                   clear hi117_0 hl117_0
                   replace p117 := eq_true p117
                   replace q117 := eq_true q117
                   have p118 : 0 ≤ (x4_2 : Int) := of_decide_eq_true (by assumption)
                   have q118 : x4_2 < (y112.length : Int) := of_decide_eq_true (by assumption)
                   obtain ⟨ad118, A118_0, c118_0, e118, hx118_0, hl118_0, hi118_0⟩ := at_L1 (Kd.N_reads' HO_3.out).2.2 x4_2 p118 q118
                   obtain rfl : ad115 = ad118 := (by injection e118)
                   obtain ⟨ce118, hce118, hMe118, hcc118⟩ := Kd.N_get HO_3.out [] x4_2 p118 (by first | exact q118 | exact of_decide_eq_true (by assumption) | (have e_ := (Kd.N_reads' HO_3.out).1; omega))
                   obtain ⟨ua118_0, uc118_0, rfl, ul118_0, ge118_0⟩ := Kd.FK_slice_open hMe118
                   have hv118_0 := hcc118 0 _ rfl
                   rw [Nat.add_zero, show ((Kd.slice 3 (Kd.int .i64))).sz = 1 from rfl, Nat.mul_one] at hv118_0
                   replace hv118_0 := Option.some.inj (hv118_0.symm.trans hx118_0)
                   injection hv118_0 with hva_ hvn_ hvc_
                   rw [hva_] at ge118_0
                   rw [hvc_] at ul118_0
                   have HL118_0 := Aside0.mk (show Kd.V (Kd.int .i64) 3 _ w.heap.size _ _ (rd_L1 y112 x4_2) from Kd.V_mk ul118_0 ge118_0)
                   clear hva_ hvn_ hvc_ ge118_0 ul118_0
                   clear hcc118 hce118
                   have HR118_0 := Aside0.mk hi118_0
                   have HC118_0 := Aside0.mk hl118_0
                   clear hi118_0 hl118_0
                   replace p118 := eq_true p118
                   replace q118 := eq_true q118
                   have ea_ := Option.some.inj (hx117_0.symm.trans hx118_0)
                   injection ea_ with ea_ en_ ec_
                   subst ea_
                   subst ec_
                   clear en_
                   have p119 : 0 ≤ (x6_3 : Int) := of_decide_eq_true (by assumption)
                   have q119 : x6_3 < ((rd_L1 y112 x4_2).length : Int) := of_decide_eq_true (by assumption)
                   obtain ⟨ad119, e119, hx119_0⟩ := Kd.at_int (by repeat (first | (with_reducible exact HR118_0.out) | (with_reducible refine Kd.C_alloc ?_ _) | (with_reducible refine Kd.C_drewN ?_ _) | (with_reducible refine Kd.C_drew ?_) | exact HR118_0.out)) x6_3 p119 q119
                   cases e119
                   replace p119 := eq_true p119
                   replace q119 := eq_true q119
                   go_wp2_with (first | ((with_reducible refine gate_callee (f := 99) rfl ?_); refine goesL_ (some 68) rfl rfl Try.func99 (by kernel_rfl) rfl #[.int .i64 (rd (rd_L1 y112 x4_2) x6_3), .int .i64 0, .int .i64 9] rfl hA ?_; (with_reducible refine (verditerref04_within.calls (rd (rd_L1 y112 x4_2) x6_3) 0 9 false _ A31.out).mono ?_); rintro e w' ⟨rfl, ⟨nd, rfl⟩⟩; refine ⟨_, rfl, ?_⟩))
                   go_ret
                   exact ⟨by first | rfl | (simp [errW_none, errW_some] <;> rfl) | (simp [*, errW_none, errW_some] <;> rfl), bB⟩
                 ·
                  rw [if_neg c30] at H
                  exact absurd H (by simp)
                ·
                 rw [if_neg c29] at H
                 have c29b0 : decide (x6_3 < ((rd_L1 y112 x4_2).length : Int)) = false := decide_eq_false c29
                 clear c29
                 by_cases c33 : x5_3 = 0
                 ·
                  rw [if_pos c33] at H
                  have c33b0 : (x5_3 == 0) = true := beq_iff_eq.mpr c33
                  have c33b1 : (x5_3 != 0) = false := bne_eq_false_iff_eq.mpr c33
                  clear c33
                  obtain rfl := Option.some.inj H
                  have p117 : 0 ≤ (x4_2 : Int) := of_decide_eq_true (by assumption)
                  have q117 : x4_2 < (y112.length : Int) := of_decide_eq_true (by assumption)
                  obtain ⟨ad117, A117_0, c117_0, e117, hx117_0, hl117_0, hi117_0⟩ := at_L1 (Kd.N_reads' HO_3.out).2.2 x4_2 p117 q117
                  obtain rfl : ad115 = ad117 := (by injection e117)
                  obtain ⟨ce117, hce117, hMe117, hcc117⟩ := Kd.N_get HO_3.out [] x4_2 p117 (by first | exact q117 | exact of_decide_eq_true (by assumption) | (have e_ := (Kd.N_reads' HO_3.out).1; omega))
                  obtain ⟨ua117_0, uc117_0, rfl, ul117_0, ge117_0⟩ := Kd.FK_slice_open hMe117
                  have hv117_0 := hcc117 0 _ rfl
                  rw [Nat.add_zero, show ((Kd.slice 3 (Kd.int .i64))).sz = 1 from rfl, Nat.mul_one] at hv117_0
                  replace hv117_0 := Option.some.inj (hv117_0.symm.trans hx117_0)
                  injection hv117_0 with hva_ hvn_ hvc_
                  rw [hva_] at ge117_0
                  rw [hvc_] at ul117_0
                  have HL117_0 := Aside0.mk (show Kd.V (Kd.int .i64) 3 _ w.heap.size _ _ (rd_L1 y112 x4_2) from Kd.V_mk ul117_0 ge117_0)
                  clear hva_ hvn_ hvc_ ge117_0 ul117_0
                  clear hcc117 hce117
                  have HR117_0 := Aside0.mk hi117_0
                  have HC117_0 := Aside0.mk hl117_0
                  clear hi117_0 hl117_0
                  replace p117 := eq_true p117
                  replace q117 := eq_true q117
                  go_wp2
                  go_ret
                  exact ⟨by first | rfl | (simp [errW_none, errW_some] <;> rfl) | (simp [*, errW_none, errW_some] <;> rfl), bB⟩
                 ·
                  rw [if_neg c33] at H
                  have c33b0 : (x5_3 == 0) = false := beq_eq_false_iff_ne.mpr c33
                  have c33b1 : (x5_3 != 0) = true := bne_iff_ne.mpr c33
                  have H' := Aside0.mk H
                  clear H
                  have p117 : 0 ≤ (x4_2 : Int) := of_decide_eq_true (by assumption)
                  have q117 : x4_2 < (y112.length : Int) := of_decide_eq_true (by assumption)
                  obtain ⟨ad117, A117_0, c117_0, e117, hx117_0, hl117_0, hi117_0⟩ := at_L1 (Kd.N_reads' HO_3.out).2.2 x4_2 p117 q117
                  obtain rfl : ad115 = ad117 := (by injection e117)
                  obtain ⟨ce117, hce117, hMe117, hcc117⟩ := Kd.N_get HO_3.out [] x4_2 p117 (by first | exact q117 | exact of_decide_eq_true (by assumption) | (have e_ := (Kd.N_reads' HO_3.out).1; omega))
                  obtain ⟨ua117_0, uc117_0, rfl, ul117_0, ge117_0⟩ := Kd.FK_slice_open hMe117
                  have hv117_0 := hcc117 0 _ rfl
                  rw [Nat.add_zero, show ((Kd.slice 3 (Kd.int .i64))).sz = 1 from rfl, Nat.mul_one] at hv117_0
                  replace hv117_0 := Option.some.inj (hv117_0.symm.trans hx117_0)
                  injection hv117_0 with hva_ hvn_ hvc_
                  rw [hva_] at ge117_0
                  rw [hvc_] at ul117_0
                  have HL117_0 := Aside0.mk (show Kd.V (Kd.int .i64) 3 _ w.heap.size _ _ (rd_L1 y112 x4_2) from Kd.V_mk ul117_0 ge117_0)
                  clear hva_ hvn_ hvc_ ge117_0 ul117_0
                  clear hcc117 hce117
                  have HR117_0 := Aside0.mk hi117_0
                  have HC117_0 := Aside0.mk hl117_0
                  clear hi117_0 hl117_0
                  replace p117 := eq_true p117
                  replace q117 := eq_true q117
                  go_wp2
                  go_roundg k3
                  case measure => have := HJ1.out; have := HK2.out; have := HK3.out; omega
                  case rel => exact ⟨(wrap64 (x4_2 + 1)), (by first | rfl | (simp; done) | (simp [*]; done)), H', ⟨by have := HJ1.out; have := HK2.out; have := HK3.out; omega⟩, ⟨by (with_reducible repeat (first | apply Kd.N_alloc | apply Kd.N_drewN | apply Kd.N_drew)); exact HO_3.out⟩, ⟨by (with_reducible repeat (first | apply Kd.V_alloc | apply Kd.V_drewN | apply Kd.V_drew)); exact HO_102000.out⟩, ⟨by (with_reducible repeat (first | apply Kd.V_alloc | apply Kd.V_drewN | apply Kd.V_drew)); exact HO_102001.out⟩, ⟨by (with_reducible repeat (first | refine blk_drewN ?_ _ | refine blk_drew ?_ | refine blk_alloc ?_ _)); exact BK101.out⟩, ⟨bB⟩⟩
               ·
                rw [if_neg c28] at H
                exact absurd H (by simp)
              ·
               rw [if_neg c27] at H
               exact absurd H (by simp)
           ·
            rw [if_neg c24] at H
            have c24b0 : (((rd_L1 y112 x4_2).length : Int) == ((rd_L1 l0_0 0).length : Int)) = false := beq_eq_false_iff_ne.mpr c24
            have c24b1 : (((rd_L1 y112 x4_2).length : Int) != ((rd_L1 l0_0 0).length : Int)) = true := bne_iff_ne.mpr c24
            have c24b2 : ((rd_L1 y112 x4_2).length == (rd_L1 l0_0 0).length) = false := by first | simpa using c24 | (simp at c24 ⊢; omega)
            obtain rfl := Option.some.inj H
            obtain ⟨Ao34, co34, eo34⟩ := Kd.N_slice HO_3.out
            subst eo34
            try go_wp2
            have n0_ := Aside0.mk (Kd.N_drew HO_3.out)
            have n1_ := Aside0.mk (Kd.V_drew HO_102000.out)
            have n2_ := Aside0.mk (Kd.V_drew HO_102001.out)
            have n3_ := Aside0.mk (blk_drew BK101.out)
            have n4_ := Aside0.mk (below_drew1 HB.out)
            clear HO_3
            clear HO_102000
            clear HO_102001
            clear BK101
            clear HB
            have HO_3 := n0_
            have HO_102000 := n1_
            have HO_102001 := n2_
            have BK101 := n3_
            have HB := n4_
            clear n0_ n1_ n2_ n3_ n4_
            have p115 : 0 ≤ (x4_2 : Int) := of_decide_eq_true (by assumption)
            have q115 : x4_2 < (y112.length : Int) := of_decide_eq_true (by assumption)
            obtain ⟨ad115, A115_0, c115_0, e115, hx115_0, hl115_0, hi115_0⟩ := at_L1 (Kd.N_reads' HO_3.out).2.2 x4_2 p115 q115
            cases e115
            obtain ⟨ce115, hce115, hMe115, hcc115⟩ := Kd.N_get HO_3.out [] x4_2 p115 (by first | exact q115 | exact of_decide_eq_true (by assumption) | (have e_ := (Kd.N_reads' HO_3.out).1; omega))
            obtain ⟨ua115_0, uc115_0, rfl, ul115_0, ge115_0⟩ := Kd.FK_slice_open hMe115
            have hv115_0 := hcc115 0 _ rfl
            rw [Nat.add_zero, show ((Kd.slice 3 (Kd.int .i64))).sz = 1 from rfl, Nat.mul_one] at hv115_0
            replace hv115_0 := Option.some.inj (hv115_0.symm.trans hx115_0)
            injection hv115_0 with hva_ hvn_ hvc_
            rw [hva_] at ge115_0
            rw [hvc_] at ul115_0
            have HL115_0 := Aside0.mk (show Kd.V (Kd.int .i64) 3 _ w.heap.size _ _ (rd_L1 y112 x4_2) from Kd.V_mk ul115_0 ge115_0)
            clear hva_ hvn_ hvc_ ge115_0 ul115_0
            clear hcc115 hce115
            have HR115_0 := Aside0.mk hi115_0
            have HC115_0 := Aside0.mk hl115_0
            clear hi115_0 hl115_0
            replace p115 := eq_true p115
            replace q115 := eq_true q115
            have p116 : 0 ≤ (0 : Int) := (by omega)
            have q116 : 0 < (l0_0.length : Int) := of_decide_eq_true (by assumption)
            obtain ⟨ad116, A116_0, c116_0, e116, hx116_0, hl116_0, hi116_0⟩ := at_L1 (Kd.V_reads' HO_102000.out).2.2 0 p116 q116
            cases e116
            obtain ⟨ce116, hce116, hMe116, hcc116⟩ := Kd.V_get HO_102000.out [] 0 p116 (by first | exact q116 | exact of_decide_eq_true (by assumption) | (have e_ := (Kd.V_reads' HO_102000.out).1; omega))
            obtain ⟨ua116_0, uc116_0, rfl, ul116_0, ge116_0⟩ := Kd.FK_slice_open hMe116
            have hv116_0 := hcc116 0 _ rfl
            rw [Nat.add_zero, show ((Kd.slice 3 (Kd.int .i64))).sz = 1 from rfl, Nat.mul_one] at hv116_0
            replace hv116_0 := Option.some.inj (hv116_0.symm.trans hx116_0)
            injection hv116_0 with hva_ hvn_ hvc_
            rw [hva_] at ge116_0
            rw [hvc_] at ul116_0
            have HL116_0 := Aside0.mk (show Kd.V (Kd.int .i64) 3 _ w.heap.size _ _ (rd_L1 l0_0 0) from Kd.V_mk ul116_0 ge116_0)
            clear hva_ hvn_ hvc_ ge116_0 ul116_0
            clear hcc116 hce116
            have qi116 : (0 < l0_0.length) = True := eq_true (by omega)
            (try rw [show ((0 : Int)).toNat = 0 from rfl] at hx116_0)
            (try rw [Addr.add_zero'] at hx116_0)
            have HR116_0 := Aside0.mk hi116_0
            have HC116_0 := Aside0.mk hl116_0
            clear hi116_0 hl116_0
            replace p116 := eq_true p116
            replace q116 := eq_true q116
            refine start_ (n := 11) (S := fun w' => w'.cell? ⟨gb101, 0, none⟩ = some (.slice (some ad116) l0_0.length c0_0) ∧ w'.cell? ⟨gb101, 1, none⟩ = some (.slice A0_1 l0_1.length c0_1) ∧ w'.cell? (ad115.add (x4_2).toNat) = some (.slice A115_0 (rd_L1 y112 x4_2).length c115_0) ∧ w'.cell? ad116 = some (.slice A116_0 (rd_L1 l0_0 0).length c116_0)) (ds := []) #[false, false, false, false, false, false, false, false, false, false, false] (by kernel_rfl) rfl rfl ⟨(blk_cell BK101.out 0).trans rfl, (blk_cell BK101.out 1).trans rfl, hx115_0, hx116_0⟩ (fun hHeld => ?_); refine with_tabW verditerref04_Validate.tab7 verditerref04_Validate.bits7 (fun HT_ HW_ => ?_)
            generalize wr.drew = w35 at HO_3 HO_102000 HO_102001 BK101 HB HL115_0 HL116_0 HR115_0 HR116_0 hx115_0 hx116_0 hHeld ⊢
            refine pure_ (i := 0) (N := some 41) (v := ?_) (a' := ?_) #[true, false, false, false, false, false, false, false, false, false, false] rfl rfl (any_of HT_.out (by kernel_rfl)) (fun _ _ _ h => h) (Or.inl ⟨by rfl, ?_⟩) ?_ ?_
            rotate_left
            ·
             intro w'
             go_simp
             with_reducible rfl
            rotate_left
            ·
             simp only [Act.put, List.setIfInBounds_toArray, List.set_cons_zero, List.set_cons_succ, i64_w, i32_w]
             rfl
            refine pure_ (i := 1) (N := some 42) (v := ?_) (a' := ?_) #[true, true, false, false, false, false, false, false, false, false, false] rfl rfl (any_of HT_.out (by kernel_rfl)) (fun _ _ _ h => h) (Or.inl ⟨by rfl, ?_⟩) ?_ ?_
            rotate_left
            ·
             intro w'
             go_simp
             with_reducible rfl
            rotate_left
            ·
             simp only [Act.put, List.setIfInBounds_toArray, List.set_cons_zero, List.set_cons_succ, i64_w, i32_w]
             rfl
            refine pure_ (i := 2) (N := some 43) (v := ?_) (a' := ?_) #[true, true, true, false, false, false, false, false, false, false, false] rfl rfl (any_of HT_.out (by kernel_rfl)) (fun _ _ _ h => h) (Or.inl ⟨by rfl, ?_⟩) ?_ ?_
            rotate_left
            ·
             intro w'
             go_simp
             with_reducible rfl
            rotate_left
            ·
             simp only [Act.put, List.setIfInBounds_toArray, List.set_cons_zero, List.set_cons_succ, i64_w, i32_w]
             rfl
            refine pure_ (i := 5) (N := some 46) (v := ?_) (a' := ?_) #[true, true, true, false, false, true, false, false, false, false, false] rfl rfl (any_of HT_.out (by kernel_rfl)) (fun _ _ _ h => h) (Or.inl ⟨by rfl, ?_⟩) ?_ ?_
            rotate_left
            ·
             intro w'
             go_simp
             with_reducible rfl
            rotate_left
            ·
             simp only [Act.put, List.setIfInBounds_toArray, List.set_cons_zero, List.set_cons_succ, i64_w, i32_w]
             rfl
            refine take_ (i := 3) (N := some 44) (v := ?_) (a' := ?_) #[true, true, true, true, false, true, false, false, false, false, false] rfl rfl (take_ofW HT_.out HW_.out (by kernel_rfl)) (fun _ _ _ h => h) (Or.inl ⟨by rfl, ?_⟩) hHeld ?_ ?_
            rotate_left
            ·
             rintro w' ⟨s0, s1, s2, s3⟩
             go_simp
             with_reducible rfl
            rotate_left
            ·
             simp only [Act.put, List.setIfInBounds_toArray, List.set_cons_zero, List.set_cons_succ, i64_w, i32_w]
             rfl
            refine pure_ (i := 4) (N := some 45) (v := ?_) (a' := ?_) #[true, true, true, true, true, true, false, false, false, false, false] rfl rfl (any_of HT_.out (by kernel_rfl)) (fun _ _ _ h => h) (Or.inl ⟨by rfl, ?_⟩) ?_ ?_
            rotate_left
            ·
             intro w'
             go_simp
             with_reducible rfl
            rotate_left
            ·
             simp only [Act.put, List.setIfInBounds_toArray, List.set_cons_zero, List.set_cons_succ, i64_w, i32_w]
             rfl
            refine take_ (i := 6) (N := some 47) (v := ?_) (a' := ?_) #[true, true, true, true, true, true, true, false, false, false, false] rfl rfl (take_ofW HT_.out HW_.out (by kernel_rfl)) (fun _ _ _ h => h) (Or.inl ⟨by rfl, ?_⟩) hHeld ?_ ?_
            rotate_left
            ·
             rintro w' ⟨s0, s1, s2, s3⟩
             go_simp
             with_reducible rfl
            rotate_left
            ·
             simp only [Act.put, List.setIfInBounds_toArray, List.set_cons_zero, List.set_cons_succ, i64_w, i32_w]
             rfl
            refine pure_ (i := 7) (N := some 48) (v := ?_) (a' := ?_) #[true, true, true, true, true, true, true, true, false, false, false] rfl rfl (any_of HT_.out (by kernel_rfl)) (fun _ _ _ h => h) (Or.inl ⟨by rfl, ?_⟩) ?_ ?_
            rotate_left
            ·
             intro w'
             go_simp
             with_reducible rfl
            rotate_left
            ·
             simp only [Act.put, List.setIfInBounds_toArray, List.set_cons_zero, List.set_cons_succ, i64_w, i32_w]
             rfl
            refine take_ (i := 8) (N := some 49) (v := ?_) (a' := ?_) #[true, true, true, true, true, true, true, true, true, false, false] rfl rfl (take_ofW HT_.out HW_.out (by kernel_rfl)) (fun _ _ _ h => h) (Or.inl ⟨by rfl, ?_⟩) hHeld ?_ ?_
            rotate_left
            ·
             rintro w' ⟨s0, s1, s2, s3⟩
             go_simp
             with_reducible rfl
            rotate_left
            ·
             simp only [Act.put, List.setIfInBounds_toArray, List.set_cons_zero, List.set_cons_succ, i64_w, i32_w]
             rfl
            refine pure_ (i := 9) (N := some 50) (v := ?_) (a' := ?_) #[true, true, true, true, true, true, true, true, true, true, false] rfl rfl (any_of HT_.out (by kernel_rfl)) (fun _ _ _ h => h) (Or.inl ⟨by rfl, ?_⟩) ?_ ?_
            rotate_left
            ·
             intro w'
             go_simp
             with_reducible rfl
            rotate_left
            ·
             simp only [Act.put, List.setIfInBounds_toArray, List.set_cons_zero, List.set_cons_succ, i64_w, i32_w]
             rfl
            refine pure_ (i := 10) (N := some 51) (v := ?_) (a' := ?_) #[true, true, true, true, true, true, true, true, true, true, true] rfl rfl (any_of HT_.out (by kernel_rfl)) (fun _ _ _ h => h) (Or.inl ⟨by rfl, ?_⟩) ?_ ?_
            rotate_left
            ·
             intro w'
             go_simp
             with_reducible rfl
            rotate_left
            ·
             simp only [Act.put, List.setIfInBounds_toArray, List.set_cons_zero, List.set_cons_succ, i64_w, i32_w]
             rfl
            refine done_ (done_of HT_.out (by kernel_rfl)) ?_
            try go_wp2
            go_ret
            exact ⟨by first | rfl | (simp [errW_none, errW_some] <;> rfl) | (simp [*, errW_none, errW_some] <;> rfl), bB⟩
          ·
           rw [if_neg c23] at H
           exact absurd H (by simp)
         ·
          rw [if_neg c22] at H
          exact absurd H (by simp)
        ·
         rw [if_neg c21] at H
         have c21b0 : decide (x4_2 < (y112.length : Int)) = false := decide_eq_false c21
         clear c21
         obtain rfl := Option.some.inj H
         obtain ⟨Ao36, co36, eo36⟩ := Kd.N_slice HO_3.out
         subst eo36
         go_wp2
         go_ret
         exact ⟨by first | rfl | (simp [errW_none, errW_some] <;> rfl) | (simp [*, errW_none, errW_some] <;> rfl), bB⟩
     ·
      rw [if_neg c15] at H
      exact absurd H (by simp)
    ·
     rw [if_neg c14] at H
     exact absurd H (by simp)
end Go.Proofs.Ytdneelgnmnpanaa.P
end
section
namespace Go.Proofs.Ytdneelgnmnpanaa.P
open Go.RowKit Go.Proofs.YtdneelgnmnpanaaW.PrintWords
set_option linter.unusedVariables false
theorem wr_succ {n m : Nat} (h : n < m) (hm : m ≤ 9223372036854775807) : wrap64 ((n : Int) + 1) = ((n + 1 : Nat) : Int) := by
  rw [wrp (by omega) (by omega)]
  omega
theorem rdn (l : List Int) (n : Nat) : rd l (n : Int) = l.getD n 0 := by simp [rd]
theorem rdL (l : List (List Int)) (n : Nat) : rd_L1 l (n : Int) = l.getD n [] := by simp [rd_L1]
theorem rdL0 (l : List (List Int)) : rd_L1 l 0 = l.getD 0 [] := rdL l 0
theorem getD_at {α : Type} (l : List α) (n : Nat) (d : α) (h : n < l.length) : l.getD n d = l[n] := by
  rw [List.getD_eq_getElem?_getD, List.getElem?_eq_getElem h]; rfl
def Sh (I O : List (List Int)) : Prop := I.length ≤ 50 ∧ O.length ≤ 50 ∧ ∀ r ∈ I ++ O, r.length ≤ 50
theorem long_l1 (I O : List (List Int)) (hO : O.length ≤ 50) : ∀ (d n : Nat), n + d = O.length → ∃ b, Ev (fun k => verditerlaw04_Long.l1 k (n : Int) I O) b ∧ (b = false → ∀ r ∈ O.drop n, r.length ≤ 50) := by
  intro d
  induction d with
  | zero =>
    intro n hn
    refine ⟨false, Ev.step (fun k => by rw [verditerlaw04_Long.l1]) ?_, fun _ => by rw [List.drop_eq_nil_of_le (by omega)]; simp⟩
    simp only [show ¬ ((n : Int) < (O.length : Int)) by omega, if_false]
    exact Ev.now _
  | succ d ih =>
    intro n hn
    have hlt : n < O.length := by omega
    obtain ⟨b, hb, hf⟩ := ih (n + 1) (by omega)
    by_cases hl : ((O.getD n []).length : Int) > 50
    · refine ⟨true, Ev.step (fun k => by rw [verditerlaw04_Long.l1]) ?_, fun h => by cases h⟩
      simp only [show ((n : Int) < (O.length : Int)) by omega, show (0 : Int) ≤ (n : Int) by omega, if_true, rdL, hl]
      exact Ev.now _
    · refine ⟨b, Ev.step (fun k => by rw [verditerlaw04_Long.l1]) ?_, fun h => ?_⟩
      · simp only [show ((n : Int) < (O.length : Int)) by omega, show (0 : Int) ≤ (n : Int) by omega, if_true, rdL, hl, if_false]
        rw [wr_succ (m := O.length) hlt (by omega)]
        exact hb
      · rw [List.drop_eq_getElem_cons hlt]
        intro r hr
        rcases List.mem_cons.1 hr with rfl | hr
        · rw [getD_at _ _ _ hlt] at hl
          omega
        · exact hf h r hr
theorem long_l0 (I O : List (List Int)) (hI : I.length ≤ 50) (hO : O.length ≤ 50) : ∀ (d n : Nat), n + d = I.length → ∃ b, Ev (fun k => verditerlaw04_Long.l0 k (n : Int) I O) b ∧ (b = false → (∀ r ∈ I.drop n, r.length ≤ 50) ∧ ∀ r ∈ O, r.length ≤ 50) := by
  intro d
  induction d with
  | zero =>
    intro n hn
    obtain ⟨b, hb, hf⟩ := long_l1 I O hO O.length 0 (by omega)
    refine ⟨b, Ev.step (fun k => by rw [verditerlaw04_Long.l0]) ?_, fun h => ⟨by rw [List.drop_eq_nil_of_le (by omega)]; simp, by have := hf h; rwa [List.drop_zero] at this⟩⟩
    simp only [show ¬ ((n : Int) < (I.length : Int)) by omega, if_false]
    exact hb
  | succ d ih =>
    intro n hn
    have hlt : n < I.length := by omega
    obtain ⟨b, hb, hf⟩ := ih (n + 1) (by omega)
    by_cases hl : ((I.getD n []).length : Int) > 50
    · refine ⟨true, Ev.step (fun k => by rw [verditerlaw04_Long.l0]) ?_, fun h => by cases h⟩
      simp only [show ((n : Int) < (I.length : Int)) by omega, show (0 : Int) ≤ (n : Int) by omega, if_true, rdL, hl]
      exact Ev.now _
    · refine ⟨b, Ev.step (fun k => by rw [verditerlaw04_Long.l0]) ?_, fun h => ⟨?_, (hf h).2⟩⟩
      · simp only [show ((n : Int) < (I.length : Int)) by omega, show (0 : Int) ≤ (n : Int) by omega, if_true, rdL, hl, if_false]
        rw [wr_succ (m := I.length) hlt (by omega)]
        exact hb
      · rw [List.drop_eq_getElem_cons hlt]
        intro r hr
        rcases List.mem_cons.1 hr with rfl | hr
        · rw [getD_at _ _ _ hlt] at hl
          omega
        · exact (hf h).1 r hr
theorem long_ev (I O : List (List Int)) : ∃ b, Ev (fun k => verditerlaw04_Long.f k I O) b ∧ (b = false → Sh I O) := by
  unfold verditerlaw04_Long.f
  by_cases h1 : (I.length : Int) > 50
  · refine ⟨true, ?_, fun h => by cases h⟩
    simp only [h1, if_true]
    refine Ev.step (fun k => by rw [verditerlaw04_Long.j0]) ?_
    simp only [if_true]
    exact Ev.now _
  · by_cases h2 : (O.length : Int) > 50
    · refine ⟨true, ?_, fun h => by cases h⟩
      simp only [h1, if_false, h2, decide_true]
      refine Ev.step (fun k => by rw [verditerlaw04_Long.j0]) ?_
      simp only [if_true]
      exact Ev.now _
    · obtain ⟨b, hb, hf⟩ := long_l0 I O (by omega) (by omega) I.length 0 (by omega)
      refine ⟨b, ?_, fun h => ⟨by omega, by omega, fun r hr => ?_⟩⟩
      · simp only [h1, if_false, h2, decide_false]
        refine Ev.step (fun k => by rw [verditerlaw04_Long.j0]) ?_
        simp only [Bool.false_eq_true, if_false]
        exact hb
      · have := hf h
        rw [List.drop_zero] at this
        rcases List.mem_append.1 hr with hr | hr
        · exact this.1 r hr
        · exact this.2 r hr
def inR (lo hi : Int) (l : List Int) : Bool := l.all fun x => decide (lo ≤ x ∧ x ≤ hi)
def okr (n : Nat) (c : List Int) : Bool := decide (c.length = n) && (inR 0 9 c && !c.all (fun x => decide (x = 0)))
def vsz (I O : List (List Int)) : Bool := decide (1 ≤ I.length ∧ I.length ≤ 3) && (decide (1 ≤ O.length ∧ O.length ≤ 3) && decide (1 ≤ (I.getD 0 []).length ∧ (I.getD 0 []).length ≤ 4))
def vl (I O : List (List Int)) : Int := if vsz I O = true ∧ (I ++ O).all (okr (I.getD 0 []).length) = true then 0 else 1
theorem all_eq (l : List Int) (a lo hi : Int) (h : l.length ≤ 1000) : strike_all.f l a lo hi = some (decide ((l.length : Int) = a) && inR lo hi l) := by
  unfold strike_all.f
  rw [if_pos h]
  congr 2
  unfold inR
  induction l with
  | nil => rfl
  | cons x l ih =>
    rw [List.any_cons, List.all_cons, Bool.not_or, ih (by simp at h; omega)]
    simp [bad]
theorem rwithin (n lo hi : Int) : verditerref04_within.f n lo hi = some (decide (lo ≤ n ∧ n ≤ hi)) := by
  unfold verditerref04_within.f
  by_cases h : n ≥ lo
  · simp [h]
  · simp [h]
theorem max_l0 (c : List Int) (hc : c.length ≤ 1000) : ∀ (d n : Nat) (m : Int), n + d = c.length → Ev (fun k => slices_Max_int_int.l0 k c m (n : Int)) ((c.drop n).foldl mx m) := by
  intro d
  induction d with
  | zero =>
    intro n m hn
    refine Ev.step (fun k => by rw [slices_Max_int_int.l0]) ?_
    simp only [show ¬ ((n : Int) < (c.length : Int)) by omega, if_false]
    rw [List.drop_eq_nil_of_le (by omega)]
    exact Ev.now _
  | succ d ih =>
    intro n m hn
    have hlt : n < c.length := by omega
    refine Ev.step (fun k => by rw [slices_Max_int_int.l0]) ?_
    simp only [show ((n : Int) < (c.length : Int)) by omega, show (0 : Int) ≤ (n : Int) by omega, if_true, rdn]
    rw [wr_succ (m := c.length) hlt (by omega), List.drop_eq_getElem_cons hlt, List.foldl_cons, getD_at _ _ _ hlt]
    exact ih (n + 1) _ (by omega)
theorem max_ev (c : List Int) (hc : c.length ≤ 1000) (h1 : 1 ≤ c.length) : Ev (fun k => slices_Max_int_int.f k c) ((c.drop 1).foldl mx (c.getD 0 0)) := by
  unfold slices_Max_int_int.f
  simp only [show ¬ ((c.length : Int) < 1) by omega, if_false]
  refine Ev.step (fun k => by rw [slices_Max_int_int.j0]) ?_
  simp only [show (0 : Int) < (c.length : Int) by omega, if_true]
  have := max_l0 c hc (c.length - 1) 1 (rd c 0) (by omega)
  rw [show rd c 0 = c.getD 0 0 from rdn c 0] at this ⊢
  exact this
theorem max_zero : ∀ (l : List Int) (m : Int), 0 ≤ m → (∀ x ∈ l, 0 ≤ x) → (l.foldl mx m = 0 ↔ m = 0 ∧ ∀ x ∈ l, x = 0)
  | [], m, _, _ => by simp
  | x :: l, m, hm, h => by
    have hx := h x (List.mem_cons_self ..)
    rw [List.foldl_cons, max_zero l (mx m x) (by unfold mx; split <;> omega) (fun y hy => h y (List.mem_cons_of_mem _ hy))]
    have : mx m x = 0 ↔ m = 0 ∧ x = 0 := by unfold mx; split <;> omega
    rw [this]
    simp [and_assoc]
theorem val_l0 (I O : List (List Int)) (hI : 0 < I.length) (hn1 : 1 ≤ (I.getD 0 []).length) (L : List (List Int)) (hL : L.length ≤ 1000) (hr : ∀ r ∈ L, r.length ≤ 50) : ∀ (d n : Nat), n + d = L.length →
    Ev (fun k => strike_Validate.l0 k L (L.length : Int) (n : Int) I O) (if (L.drop n).all (okr (I.getD 0 []).length) = true then 0 else 1) := by
  intro d
  induction d with
  | zero =>
    intro n hn
    refine Ev.step (fun k => by rw [strike_Validate.l0]) ?_
    simp only [show ¬ ((n : Int) < (L.length : Int)) by omega, if_false]
    rw [List.drop_eq_nil_of_le (by omega)]
    exact Ev.now _
  | succ d ih =>
    intro n hn
    have hlt : n < L.length := by omega
    have hrl := hr _ (List.getElem_mem hlt)
    refine Ev.step (fun k => by rw [strike_Validate.l0]) ?_
    simp only [show ((n : Int) < (L.length : Int)) by omega, show (0 : Int) ≤ (n : Int) by omega, show (0 : Int) < (I.length : Int) by omega, if_true, rdL, rdL0]
    rw [List.drop_eq_getElem_cons hlt, List.all_cons, getD_at L n _ hlt, wr_succ (m := L.length) hlt (by omega)]
    generalize L[n] = c at hrl
    refine Ev.bind (Ev.congr (fun k => all_eq c _ 0 9 (by omega)) (Ev.now _)) ?_
    unfold okr
    rw [show decide ((c.length : Int) = ((I.getD 0 []).length : Int)) = decide (c.length = (I.getD 0 []).length) from by congr 1; exact propext (by omega)]
    by_cases h1 : c.length = (I.getD 0 []).length
    · by_cases h2 : inR 0 9 c = true
      · simp only [h1, h2, decide_true, Bool.true_and, if_true]
        refine Ev.bind (max_ev c (by omega) (by omega)) ?_
        have hpos : ∀ x ∈ c, 0 ≤ x := fun x hx => (of_decide_eq_true (List.all_eq_true.1 h2 x hx)).1
        have hc0 : 0 < c.length := by omega
        have hz := max_zero (c.drop 1) (c.getD 0 0) (by rw [getD_at c 0 _ hc0]; exact hpos _ (List.getElem_mem hc0)) (fun x hx => hpos x (List.mem_of_mem_drop hx))
        have hall : c.all (fun x => decide (x = 0)) = true ↔ c.getD 0 0 = 0 ∧ ∀ x ∈ c.drop 1, x = 0 := by
          rw [getD_at c 0 _ hc0]
          constructor
          · intro h
            have h' := fun x hx => of_decide_eq_true (List.all_eq_true.1 h x hx)
            exact ⟨h' _ (List.getElem_mem hc0), fun x hx => h' x (List.mem_of_mem_drop hx)⟩
          · rintro ⟨ha, hb⟩
            refine List.all_eq_true.2 fun x hx => decide_eq_true ?_
            have hcd : c = c[0] :: c.drop 1 := by
              have := List.drop_eq_getElem_cons hc0
              rwa [List.drop_zero] at this
            rw [hcd] at hx
            rcases List.mem_cons.1 hx with rfl | hx
            · exact ha
            · exact hb x hx
        by_cases h3 : (c.drop 1).foldl mx (c.getD 0 0) = 0
        · have h4 := hall.2 (hz.1 h3)
          simp only [h3, h4, if_true, Bool.not_true, Bool.false_and, Bool.false_eq_true, if_false]
          exact Ev.now _
        · have h4 : c.all (fun x => decide (x = 0)) = false := by
            cases hq : c.all (fun x => decide (x = 0)) with
            | true => exact absurd (hz.2 (hall.1 hq)) h3
            | false => rfl
          simp only [h3, h4, if_false, Bool.not_false, Bool.true_and]
          exact ih (n + 1) (by omega)
      · simp only [h1, Bool.not_eq_true] at h2 ⊢
        simp only [h2, decide_true, Bool.true_and, Bool.false_and, Bool.false_eq_true, if_false]
        exact Ev.now _
    · simp only [h1, decide_false, Bool.false_and, Bool.false_eq_true, if_false]
      exact Ev.now _
theorem val_ev {I O : List (List Int)} (h : Sh I O) : Ev (fun k => strike_Validate.f k I O) (vl I O) := by
  obtain ⟨s1, s2, s3⟩ := h
  unfold strike_Validate.f vl vsz
  have hno : ∀ (k : Nat), strike_Validate.j0 (k + 1) true I O = some 1 := fun k => by rw [strike_Validate.j0]; rfl
  have hnoE : Ev (fun k => strike_Validate.j0 k true I O) 1 := Ev.step hno (Ev.now _)
  refine Ev.bind (Ev.congr (fun k => within _ 1 3) (Ev.now _)) ?_
  by_cases h1 : 1 ≤ I.length ∧ I.length ≤ 3
  · have h1' : (1 : Int) ≤ (I.length : Int) ∧ (I.length : Int) ≤ 3 := by omega
    simp only [h1, h1', and_self, decide_true, if_true, Bool.true_and]
    refine Ev.bind (Ev.congr (fun k => within _ 1 3) (Ev.now _)) ?_
    by_cases h2 : 1 ≤ O.length ∧ O.length ≤ 3
    · have h2' : (1 : Int) ≤ (O.length : Int) ∧ (O.length : Int) ≤ 3 := by omega
      simp only [h2, h2', and_self, decide_true, if_true, Bool.true_and, show (0 : Int) < (I.length : Int) by omega, rdL0]
      refine Ev.bind (Ev.congr (fun k => within _ 1 4) (Ev.now _)) ?_
      by_cases h3 : 1 ≤ (I.getD 0 []).length ∧ (I.getD 0 []).length ≤ 4
      · have h3' : (1 : Int) ≤ ((I.getD 0 []).length : Int) ∧ ((I.getD 0 []).length : Int) ≤ 4 := by omega
        simp only [h3, h3', and_self, decide_true, Bool.not_true, true_and]
        refine Ev.step (fun k => by rw [strike_Validate.j0]) ?_
        simp only [Bool.false_eq_true, if_false]
        have hcc : slices_Concat_int_int.f I O = some (I ++ O) := by unfold slices_Concat_int_int.f; rw [if_pos (by omega)]
        simp only [hcc, Option.bind_some]
        have := val_l0 I O (by omega) h3.1 (I ++ O) (by simp; omega) s3 (I ++ O).length 0 (by omega)
        rw [List.drop_zero] at this
        exact this
      · have h3' : ¬ ((1 : Int) ≤ ((I.getD 0 []).length : Int) ∧ ((I.getD 0 []).length : Int) ≤ 4) := by omega
        simp only [h3, h3', decide_false, Bool.not_false, Bool.false_eq_true, false_and, if_false]
        exact hnoE
    · have h2' : ¬ ((1 : Int) ≤ (O.length : Int) ∧ (O.length : Int) ≤ 3) := by omega
      simp only [h2, h2', decide_false, Bool.false_eq_true, if_false, Bool.false_and, false_and]
      exact hnoE
  · have h1' : ¬ ((1 : Int) ≤ (I.length : Int) ∧ (I.length : Int) ≤ 3) := by omega
    simp only [h1, h1', decide_false, Bool.false_eq_true, if_false, Bool.false_and, false_and]
    exact hnoE
end Go.Proofs.Ytdneelgnmnpanaa.P
end
section
namespace Go.Proofs.Ytdneelgnmnpanaa.P
open Go.RowKit Go.Proofs.YtdneelgnmnpanaaW.PrintWords Go.Proofs.YtdneelgnmnpanaaW.PrintLast Go.Proofs.YtdneelgnmnpanaaW.PrintMore
attribute [local go_sem] max2_int min2_int max_two min_two max_three min_three max_four min_four   -- for this text's walks alone
set_option linter.unusedVariables false
set_option linter.unusedSimpArgs false
def verditerref01_KeepInts.f (l0 : List Int) : Option (List Int) := (some (([] : List Int) : List Int)).bind fun y101 => (if y101.length + l0.length < 17592186044416 then (some (y101 ++ l0)) else (none))
set_option maxHeartbeats 8000000 in
set_option maxRecDepth 100000 in
theorem verditerref01_KeepInts.calls (A0 : Option Addr) (n0 : Nat) (l0 : List Int) (r : List Int) (w : World) (hr0 : Kd.C (Kd.int .i64) w A0 l0.length l0) (hc0 : n0 ≤ l0.length) (h : verditerref01_KeepInts.f l0 = some r) :
  Calls Try.prog 20 #[.slice A0 n0 l0.length] w fun e w' => ∃ v0_ : Value, e = .returned (v0_) ∧ Kd.R (Kd.int .i64) 3 w' w.heap.size (fun _ => True) v0_ r ∧ Below w.heap.size w w' := by
 have HR0 := Aside0.mk hr0
 have HC0 := Aside0.mk hc0
 clear hr0 hc0
 have HB := Aside0.mk (Below.refl w.heap.size w)
 have H : ((some (([] : List Int) : List Int)).bind fun y101 => (if y101.length + l0.length < 17592186044416 then (some (y101 ++ l0)) else (none))) = some r := h
 clear h
 obtain ⟨y101, hy101⟩ : ∃ y_ : List Int, y_ = (([] : List Int)) := ⟨_, rfl⟩
 replace H : (if y101.length + l0.length < 17592186044416 then (some (y101 ++ l0)) else (none)) = some r := by first | (rw [hy101]; with_reducible exact H) | (have H2_ := (Option.bind_some _ _).symm.trans H; rw [hy101]; with_reducible exact H2_) | (have H2_ := (Option.bind_some _ _).symm.trans H; with_reducible exact H2_) | with_reducible exact H | (rw [hy101]; exact H) | exact H
 have Ny101 := Aside0.mk hy101
 clear hy101
 by_cases c2 : y101.length + l0.length < 17592186044416
 ·
  rw [if_pos c2] at H
  have LMc2 := Aside0.mk c2
  clear c2
  obtain ⟨y104, hy104⟩ : ∃ y_ : List Int, y_ = (y101 ++ l0) := ⟨_, rfl⟩
  replace H : (some y104) = some r := by first | (rw [hy104]; with_reducible exact H) | (have H2_ := (Option.bind_some _ _).symm.trans H; rw [hy104]; with_reducible exact H2_) | (have H2_ := (Option.bind_some _ _).symm.trans H; with_reducible exact H2_) | with_reducible exact H | (rw [hy104]; exact H) | exact H
  have Ny104 := Aside0.mk hy104
  clear hy104
  obtain rfl := Option.some.inj H
  go_enter Try.func20, Try.ntmps20
  go_wp2_with (first | ((with_reducible refine gate_dst (N := 3) rfl ?_); refine Kd.R_lit (Kd.int .i64) _ 3 ?hg (N := 3) ?hd (xs := ([] : List Int)) (inner := []) (ok := fun _ => True) (okp := fun _ => True) ?hr ?hp (fun _ hk => hk) trivial (Below.refl _ _) (Nat.le_refl _) (by simp) ?_; (case hd => rfl); (case hg => rfl); (case hr => first | (go_simp; done) | (go_simp; rfl)); (case hp => exact (Reps.none _ _)); intro v102 w3 ho4 hb hg_ hnew_; clear hg_ hnew_; (first | rw [← Ny101.out] at ho4 | (simp only [Int.reduceToNat] at ho4; rw [← Ny101.out] at ho4)); have n0_ := Aside0.mk (Kd.R_lower ho4 (below_size bB)); have n1_ := Aside0.mk (below_step bB hb); clear HB; have HO103 := n0_; have HB := n1_; clear n0_ n1_; clear hb ho4) | ((with_reducible refine gate_builtin (b := .append) (xs := #[.tmp 3, .tmp 7]) rfl ?_); at_builtin; refine Kd.R_append_rows (Kd.int .i64) (w0 := w) w.heap.size rfl (.tmp 3) (.tmp 7) 28 3 (.int .i64 0) 8 rfl Try.underlying28 info3 rfl (by decide) (by omega) v102 y101 l0 _ _ _ (fun _ => True) (fun _ => False) rfl rfl ?aO ?aR (fun _ _ h => h) (fun _ h => h.elim) ?aF ?aB ?aS ?aL ?_; (case aR => exact (Kd.C_below HR0.out HB.out)); (case aB => exact bB); (case aF => exact (fun _ _ => trivial)); (case aO => exact HO103.out); (case aS => exact (below_size bB)); (case aL => have := LMc2.out; omega); intro v105 w5 ho hb hg hat; rw [← Ny104.out] at ho; have n0_ := Aside0.mk (hb); have n1_ := Aside0.mk (ho); clear HB; clear HO103; have HB := n0_; have HO106 := n1_; clear n0_ n1_; clear ho hb hg hat))
  go_ret
  exact ⟨_, by first | rfl | (simp [errW_none, errW_some] <;> rfl) | (simp [*, errW_none, errW_some] <;> rfl), by (with_reducible repeat (first | apply Kd.R_alloc | apply Kd.R_drewN | apply Kd.R_drew)); exact HO106.out, bB⟩
 ·
  rw [if_neg c2] at H
  exact absurd H (by simp)
def verditerref01_KeepTable.l0 : Nat → List (List Int) → List (List Int) → Int → Option ((List (List Int)))
 | 0, _, _, _ => none
 | k + 1, x0, x3, x4 => if x4 < (x0.length : Int) then (if 0 ≤ x4 then ((verditerref01_KeepInts.f (rd_L1 x0 x4)).bind fun t102 => (if x3.length < 5864062014805 then (verditerref01_KeepTable.l0 k x0 (x3 ++ [t102]) (wrap64 (x4 + 1))) else (none))) else (none)) else (some x3)
def verditerref01_KeepTable.f (k : Nat) (l0 : List (List Int)) : Option ((List (List Int))) := verditerref01_KeepTable.l0 k l0 ([] : List (List Int)) 0
set_option maxHeartbeats 8000000 in
set_option maxRecDepth 100000 in
theorem verditerref01_KeepTable.calls (k : Nat) (A0 : Option Addr) (n0 : Nat) (l0 : List (List Int)) (r : List (List Int)) (w : World) (hr0 : Kd.C Full.kd w A0 l0.length l0) (hc0 : n0 ≤ l0.length) (h : verditerref01_KeepTable.f k l0 = some r) :
  Calls Try.prog 17 #[.slice A0 n0 l0.length] w fun e w' => ∃ v0_ : Value, e = .returned (v0_) ∧ Kd.S (Kd.slice 3 (Kd.int .i64)) 28 w' w.heap.size (fun _ => True) v0_ r ∧ Below w.heap.size w w' := by
 have HR0 := Aside0.mk hr0
 have HC0 := Aside0.mk hc0
 clear hr0 hc0
 have HB := Aside0.mk (Below.refl w.heap.size w)
 have H : (verditerref01_KeepTable.l0 k l0 ([] : List (List Int)) 0) = some r := h
 clear h
 have H' := Aside0.mk H
 clear H
 go_enter Try.func17, Try.ntmps17
 go_wp2
 go_loopg [3, 4] k (fun kq v3 v4 w' => ∃ (x3_1 : List (List Int)) (x4_1 : Int), v4 = .int .i64 x4_1 ∧ Aside0 (verditerref01_KeepTable.l0 kq l0 x3_1 x4_1 = some r) ∧ Aside0 (kq ≤ k) ∧ Aside0 (Kd.S (Kd.slice 3 (Kd.int .i64)) 28 w' w.heap.size (fun _ => True) v3 x3_1) ∧ Aside0 (Below w.heap.size w w'))
 case atStart => exact ⟨(([] : List (List Int))), (0), (by first | rfl | (simp; done) | (simp [*]; done)), H', ⟨Nat.le_refl _⟩, ⟨by first | exact Kd.S_nil _ _ _ _ _ | exact Kd.N_nil _ _ _ _ _ | exact Kd.V_nil _ _ _ _ _ | exact Kd.Q_nil _ _ _ _ _ | exact Kd.R_nil _ _ _ _ _⟩, ⟨bB⟩⟩
 case round =>
  clear H'
  try clear c1
  obtain ⟨x3_1, x4_1, rfl, HA, HK1, HO_3, HB⟩ := hrel
  cases gk with
  | zero => exact absurd HA.out (by simp [verditerref01_KeepTable.l0])
  | succ k1 =>
   have H := HA.out
   clear HA
   simp only [verditerref01_KeepTable.l0] at H
   by_cases c2 : x4_1 < (l0.length : Int)
   ·
    rw [if_pos c2] at H
    have c2b0 : decide (x4_1 < (l0.length : Int)) = true := decide_eq_true c2
    clear c2
    by_cases c3 : 0 ≤ x4_1
    ·
     rw [if_pos c3] at H
     have c3b0 : decide (0 ≤ x4_1) = true := decide_eq_true c3
     clear c3
     replace H := Option.bind_eq_some_iff.mp H
     obtain ⟨t102, A40, H⟩ := H
     replace H : (if x3_1.length < 5864062014805 then (verditerref01_KeepTable.l0 k1 l0 (x3_1 ++ [t102]) (wrap64 (x4_1 + 1))) else (none)) = some r := H
     have A4 := Aside0.mk A40
     clear A40
     by_cases c5 : x3_1.length < 5864062014805
     ·
      rw [if_pos c5] at H
      have LMc5 := Aside0.mk c5
      clear c5
      obtain ⟨y105, hy105⟩ : ∃ y_ : List (List Int), y_ = (x3_1 ++ [t102]) := ⟨_, rfl⟩
      replace H : (verditerref01_KeepTable.l0 k1 l0 y105 (wrap64 (x4_1 + 1))) = some r := by first | (rw [hy105]; with_reducible exact H) | (have H2_ := (Option.bind_some _ _).symm.trans H; rw [hy105]; with_reducible exact H2_) | (have H2_ := (Option.bind_some _ _).symm.trans H; with_reducible exact H2_) | with_reducible exact H | (rw [hy105]; exact H) | exact H
      have Ny105 := Aside0.mk hy105
      clear hy105
      have H' := Aside0.mk H
      clear H
      have p101 : 0 ≤ (x4_1 : Int) := of_decide_eq_true (by assumption)
      have q101 : x4_1 < (l0.length : Int) := of_decide_eq_true (by assumption)
      obtain ⟨ad101, A101_0, c101_0, e101, hx101_0, hl101_0, hi101_0⟩ := Full.at_ HR0.out x4_1 p101 q101
      cases e101
      replace hx101_0 := (HB.out.cell (World.block_lt_of_cell? w _ hx101_0)).trans hx101_0
      have HR101_0 := Aside0.mk hi101_0
      have HC101_0 := Aside0.mk hl101_0
      clear hi101_0 hl101_0
      replace p101 := eq_true p101
      replace q101 := eq_true q101
      go_wp2_with (first | ((with_reducible refine gate_callee (f := 20) rfl ?_); refine goesL_ (some 20) rfl rfl Try.func20 (by kernel_rfl) rfl #[.slice A101_0 c101_0 (rd_L1 l0 x4_1).length] rfl hA ?_; (with_reducible refine (verditerref01_KeepInts.calls _ _ (rd_L1 l0 x4_1) t102 _ ?side1 ?side2 A4.out).mono ?_); (case side1 => exact (Kd.C_below HR101_0.out HB.out)); (case side2 => exact HC101_0.out); rintro e w6 ⟨v103, rfl, ho0, hb⟩; refine ⟨_, rfl, ?_⟩; have n0_ := Aside0.mk (Kd.S_elder' HO_3.out (Kd.R_base ho0) hb); have n1_ := Aside0.mk (Kd.R_lower ho0 (below_size bB)); have n2_ := Aside0.mk (below_step bB hb); clear HO_3; clear HB; have HO_3 := n0_; have HO104 := n1_; have HB := n2_; clear n0_ n1_ n2_; (try clear hb); (try clear hb2); (try clear hk); (try clear hi); (try clear ho0); obtain ⟨Ao8, co8, eo8⟩ := Kd.R_slice HO104.out; subst eo8) | ((with_reducible refine gate_builtin (b := .append) (xs := #[.tmp 15, .tmp 21]) rfl ?_); at_builtin; refine Kd.S_append (Kd.slice 3 (Kd.int .i64)) (w0 := w) w.heap.size rfl (.tmp 15) (.tmp 21) 22 28 (.slice none 0 0) 24 rfl Try.underlying22 info28 rfl (by decide) (by omega) u3 x3_1 t102 [.slice Ao8 t102.length co8] (fun _ => True) (fun k_ => some k_ = (.slice Ao8 t102.length co8 : Value).ownBlock) rfl rfl ?aP (fun k_ hk_ => ((Kd.R_mono (ok' := fun k_ => ((fun _ => True)) k_ ∧ some k_ ≠ (u3 : Value).ownBlock) (Kd.R_apart' (HO104.out) (Kd.S_typed HO_3.out) (by decide)) (fun k_ hk => ⟨trivial, hk.2⟩))).1 k_ hk_.symm) ?aF ?aO ?aB ?aS ?aL ?_; (case aP => exact Kd.M_row (Kd.R_mono (Kd.R_tight rfl (Kd.R_mono (ok' := fun k_ => ((fun _ => True)) k_ ∧ some k_ ≠ (u3 : Value).ownBlock) (Kd.R_apart' (HO104.out) (Kd.S_typed HO_3.out) (by decide)) (fun k_ hk => ⟨trivial, hk.2⟩))) (fun _ h_ => h_))); (case aB => exact bB); (case aF => exact (fun _ _ => trivial)); (case aO => exact (by (with_reducible repeat (first | apply Kd.S_alloc | apply Kd.S_drewN | apply Kd.S_drew)); exact Kd.S_mono HO_3.out (fun k_ hk => ⟨trivial, fun e_ => hk.2 e_⟩))); (case aS => exact (below_size bB)); (case aL => have := LMc5.out; omega); intro v106 w7 ho hb hg hat; rw [← Ny105.out] at ho; have n0_ := Aside0.mk (hb); have n1_ := Aside0.mk (ho); clear HB; clear HO_3; clear HO104; have HB := n0_; have HO107 := n1_; clear n0_ n1_; clear ho hb hg hat))
      go_roundg k1
      case measure => have := HK1.out; omega
      case rel => exact ⟨(y105), (wrap64 (x4_1 + 1)), (by first | rfl | (simp; done) | (simp [*]; done)), H', ⟨by have := HK1.out; omega⟩, ⟨by (with_reducible repeat (first | apply Kd.S_alloc | apply Kd.S_drewN | apply Kd.S_drew)); exact HO107.out⟩, ⟨bB⟩⟩
     ·
      rw [if_neg c5] at H
      exact absurd H (by simp)
    ·
     rw [if_neg c3] at H
     exact absurd H (by simp)
   ·
    rw [if_neg c2] at H
    have c2b0 : decide (x4_1 < (l0.length : Int)) = false := decide_eq_false c2
    clear c2
    obtain rfl := Option.some.inj H
    go_wp2
    go_ret
    exact ⟨_, by first | rfl | (simp [errW_none, errW_some] <;> rfl) | (simp [*, errW_none, errW_some] <;> rfl), by (with_reducible repeat (first | apply Kd.S_alloc | apply Kd.S_drewN | apply Kd.S_drew)); exact HO_3.out, bB⟩
def verditerref01_KeptInts.l0 : Nat → List Int → List Int → Int → Option (Bool)
 | 0, _, _, _ => none
 | k + 1, x0, x1, x5 => if x5 < (x1.length : Int) then (if 0 ≤ x5 then (if x5 < (x0.length : Int) then (if (rd x0 x5) = (rd x1 x5) then (verditerref01_KeptInts.l0 k x0 x1 (wrap64 (x5 + 1))) else (some false)) else (none)) else (none)) else (some true)
def verditerref01_KeptInts.f (k : Nat) (l0 : List Int) (l1 : List Int) : Option (Bool) := if (l0.length : Int) = (l1.length : Int) then (verditerref01_KeptInts.l0 k l0 l1 0) else (some false)
set_option maxHeartbeats 8000000 in
set_option maxRecDepth 100000 in
theorem verditerref01_KeptInts.calls (k : Nat) (A0 : Option Addr) (c0 : Nat) (l0 : List Int) (A1 : Option Addr) (n1 : Nat) (l1 : List Int) (r : Bool) (w : World) (hr0 : Kd.C (Kd.int .i64) w A0 l0.length l0) (hc0 : l0.length ≤ c0) (hr1 : Kd.C (Kd.int .i64) w A1 l1.length l1) (hc1 : n1 ≤ l1.length) (h : verditerref01_KeptInts.f k l0 l1 = some r) :
  Calls Try.prog 22 #[.slice A0 l0.length c0, .slice A1 n1 l1.length] w fun e w' => e = .returned (.bool r) ∧ Drawn0 w w' := by
 have HR0 := Aside0.mk hr0
 have HC0 := Aside0.mk hc0
 clear hr0 hc0
 have HR1 := Aside0.mk hr1
 have HC1 := Aside0.mk hc1
 clear hr1 hc1
 have H : (if (l0.length : Int) = (l1.length : Int) then (verditerref01_KeptInts.l0 k l0 l1 0) else (some false)) = some r := h
 clear h
 by_cases c3 : (l0.length : Int) = (l1.length : Int)
 ·
  rw [if_pos c3] at H
  have c3b0 : ((l0.length : Int) == (l1.length : Int)) = true := beq_iff_eq.mpr c3
  have c3b1 : ((l0.length : Int) != (l1.length : Int)) = false := bne_eq_false_iff_eq.mpr c3
  have c3b2 : (l0.length == l1.length) = true := by first | simpa using c3 | (simp at c3 ⊢; omega)
  clear c3
  have H' := Aside0.mk H
  clear H
  go_enter Try.func22, Try.ntmps22
  go_wp2
  repeat (go_quiet (fail); try go_wp2)
  go_loopg [5] k (fun kq v5 w' => ∃ (x5_1 : Int), v5 = .int .i64 x5_1 ∧ Aside0 (verditerref01_KeptInts.l0 kq l0 l1 x5_1 = some r) ∧ Aside0 (kq ≤ k) ∧ Drawn0 w w')
  case atStart => exact ⟨(0), (by first | rfl | (simp; done) | (simp [*]; done)), H', ⟨Nat.le_refl _⟩, by repeat (first | exact Drawn0.refl _ | apply Drawn0.step)⟩
  case round =>
   clear H'
   try clear c1
   try clear c2
   try clear p2
   try clear c3
   try clear c3b0
   try clear c3b1
   try clear c3b2
   obtain ⟨x5_1, rfl, HA, HK1, ⟨m1, rfl⟩⟩ := hrel
   cases gk with
   | zero => exact absurd HA.out (by simp [verditerref01_KeptInts.l0])
   | succ k1 =>
    have H := HA.out
    clear HA
    simp only [verditerref01_KeptInts.l0] at H
    by_cases c4 : x5_1 < (l1.length : Int)
    ·
     rw [if_pos c4] at H
     have c4b0 : decide (x5_1 < (l1.length : Int)) = true := decide_eq_true c4
     clear c4
     by_cases c5 : 0 ≤ x5_1
     ·
      rw [if_pos c5] at H
      have c5b0 : decide (0 ≤ x5_1) = true := decide_eq_true c5
      clear c5
      by_cases c6 : x5_1 < (l0.length : Int)
      ·
       rw [if_pos c6] at H
       have c6b0 : decide (x5_1 < (l0.length : Int)) = true := decide_eq_true c6
       clear c6
       by_cases c7 : (rd l0 x5_1) = (rd l1 x5_1)
       ·
        rw [if_pos c7] at H
        have c7b0 : ((rd l0 x5_1) == (rd l1 x5_1)) = true := beq_iff_eq.mpr c7
        have c7b1 : ((rd l0 x5_1) != (rd l1 x5_1)) = false := bne_eq_false_iff_eq.mpr c7
        clear c7
        have H' := Aside0.mk H
        clear H
        have p101 : 0 ≤ (x5_1 : Int) := of_decide_eq_true (by assumption)
        have q101 : x5_1 < (l0.length : Int) := of_decide_eq_true (by assumption)
        obtain ⟨ad101, e101, hx101_0⟩ := Kd.at_int HR0.out x5_1 p101 q101
        cases e101
        replace p101 := eq_true p101
        replace q101 := eq_true q101
        have p102 : 0 ≤ (x5_1 : Int) := of_decide_eq_true (by assumption)
        have q102 : x5_1 < (l1.length : Int) := of_decide_eq_true (by assumption)
        obtain ⟨ad102, e102, hx102_0⟩ := Kd.at_int HR1.out x5_1 p102 q102
        cases e102
        replace p102 := eq_true p102
        replace q102 := eq_true q102
        go_wp2
        repeat (go_quiet (fail); try go_wp2)
        go_roundg k1
        case measure => have := HK1.out; omega
        case rel => exact ⟨(wrap64 (x5_1 + 1)), (by first | rfl | (simp; done) | (simp [*]; done)), H', ⟨by have := HK1.out; omega⟩, by repeat (first | exact Drawn0.refl _ | apply Drawn0.step)⟩
       ·
        rw [if_neg c7] at H
        have c7b0 : ((rd l0 x5_1) == (rd l1 x5_1)) = false := beq_eq_false_iff_ne.mpr c7
        have c7b1 : ((rd l0 x5_1) != (rd l1 x5_1)) = true := bne_iff_ne.mpr c7
        obtain rfl := Option.some.inj H
        have p101 : 0 ≤ (x5_1 : Int) := of_decide_eq_true (by assumption)
        have q101 : x5_1 < (l0.length : Int) := of_decide_eq_true (by assumption)
        obtain ⟨ad101, e101, hx101_0⟩ := Kd.at_int HR0.out x5_1 p101 q101
        cases e101
        replace p101 := eq_true p101
        replace q101 := eq_true q101
        have p102 : 0 ≤ (x5_1 : Int) := of_decide_eq_true (by assumption)
        have q102 : x5_1 < (l1.length : Int) := of_decide_eq_true (by assumption)
        obtain ⟨ad102, e102, hx102_0⟩ := Kd.at_int HR1.out x5_1 p102 q102
        cases e102
        replace p102 := eq_true p102
        replace q102 := eq_true q102
        go_wp2
        repeat (go_quiet (fail); try go_wp2)
        go_ret
        exact ⟨by first | rfl | (simp; done) | (simp [*]; done), by repeat (first | exact Drawn0.refl _ | apply Drawn0.step)⟩
      ·
       rw [if_neg c6] at H
       exact absurd H (by simp)
     ·
      rw [if_neg c5] at H
      exact absurd H (by simp)
    ·
     rw [if_neg c4] at H
     have c4b0 : decide (x5_1 < (l1.length : Int)) = false := decide_eq_false c4
     clear c4
     obtain rfl := Option.some.inj H
     go_wp2
     repeat (go_quiet (fail); try go_wp2)
     go_ret
     exact ⟨by first | rfl | (simp; done) | (simp [*]; done), by repeat (first | exact Drawn0.refl _ | apply Drawn0.step)⟩
 ·
  rw [if_neg c3] at H
  have c3b0 : ((l0.length : Int) == (l1.length : Int)) = false := beq_eq_false_iff_ne.mpr c3
  have c3b1 : ((l0.length : Int) != (l1.length : Int)) = true := bne_iff_ne.mpr c3
  have c3b2 : (l0.length == l1.length) = false := by first | simpa using c3 | (simp at c3 ⊢; omega)
  obtain rfl := Option.some.inj H
  go_enter Try.func22, Try.ntmps22
  go_wp2
  repeat (go_quiet (fail); try go_wp2)
  go_ret
  exact ⟨by first | rfl | (simp; done) | (simp [*]; done), by repeat (first | exact Drawn0.refl _ | apply Drawn0.step)⟩
def verditerref01_KeptTable.l0 : Nat → List (List Int) → List (List Int) → Int → Option (Bool)
 | 0, _, _, _ => none
 | k + 1, x0, x1, x5 => if x5 < (x1.length : Int) then (if 0 ≤ x5 then (if x5 < (x0.length : Int) then ((verditerref01_KeptInts.f k (rd_L1 x0 x5) (rd_L1 x1 x5)).bind fun t103 => (if t103 = true then (verditerref01_KeptTable.l0 k x0 x1 (wrap64 (x5 + 1))) else (some false))) else (none)) else (none)) else (some true)
def verditerref01_KeptTable.f (k : Nat) (l0 : List (List Int)) (l1 : List (List Int)) : Option (Bool) := if (l0.length : Int) = (l1.length : Int) then (verditerref01_KeptTable.l0 k l0 l1 0) else (some false)
set_option maxHeartbeats 8000000 in
set_option maxRecDepth 100000 in
theorem verditerref01_KeptTable.calls (k : Nat) (A0 : Option Addr) (c0 : Nat) (l0 : List (List Int)) (A1 : Option Addr) (n1 : Nat) (l1 : List (List Int)) (r : Bool) (w : World) (hr0 : Kd.C (Kd.slice 3 (Kd.int .i64)) w A0 l0.length l0) (hc0 : l0.length ≤ c0) (hr1 : Kd.C Full.kd w A1 l1.length l1) (hc1 : n1 ≤ l1.length) (h : verditerref01_KeptTable.f k l0 l1 = some r) :
  Calls Try.prog 19 #[.slice A0 l0.length c0, .slice A1 n1 l1.length] w fun e w' => e = .returned (.bool r) ∧ Drawn0 w w' := by
 have HR0 := Aside0.mk hr0
 have HC0 := Aside0.mk hc0
 clear hr0 hc0
 have HR1 := Aside0.mk hr1
 have HC1 := Aside0.mk hc1
 clear hr1 hc1
 have H : (if (l0.length : Int) = (l1.length : Int) then (verditerref01_KeptTable.l0 k l0 l1 0) else (some false)) = some r := h
 clear h
 by_cases c3 : (l0.length : Int) = (l1.length : Int)
 ·
  rw [if_pos c3] at H
  have c3b0 : ((l0.length : Int) == (l1.length : Int)) = true := beq_iff_eq.mpr c3
  have c3b1 : ((l0.length : Int) != (l1.length : Int)) = false := bne_eq_false_iff_eq.mpr c3
  have c3b2 : (l0.length == l1.length) = true := by first | simpa using c3 | (simp at c3 ⊢; omega)
  clear c3
  have H' := Aside0.mk H
  clear H
  go_enter Try.func19, Try.ntmps19
  go_wp2
  repeat (go_quiet (fail); try go_wp2)
  go_loopg [5] k (fun kq v5 w' => ∃ (x5_1 : Int), v5 = .int .i64 x5_1 ∧ Aside0 (verditerref01_KeptTable.l0 kq l0 l1 x5_1 = some r) ∧ Aside0 (kq ≤ k) ∧ Drawn0 w w')
  case atStart => exact ⟨(0), (by first | rfl | (simp; done) | (simp [*]; done)), H', ⟨Nat.le_refl _⟩, by repeat (first | exact Drawn0.refl _ | apply Drawn0.step)⟩
  case round =>
   clear H'
   try clear c1
   try clear p2
   try clear c3
   try clear c3b0
   try clear c3b1
   try clear c3b2
   obtain ⟨x5_1, rfl, HA, HK1, ⟨m1, rfl⟩⟩ := hrel
   cases gk with
   | zero => exact absurd HA.out (by simp [verditerref01_KeptTable.l0])
   | succ k1 =>
    have H := HA.out
    clear HA
    simp only [verditerref01_KeptTable.l0] at H
    by_cases c4 : x5_1 < (l1.length : Int)
    ·
     rw [if_pos c4] at H
     have c4b0 : decide (x5_1 < (l1.length : Int)) = true := decide_eq_true c4
     clear c4
     by_cases c5 : 0 ≤ x5_1
     ·
      rw [if_pos c5] at H
      have c5b0 : decide (0 ≤ x5_1) = true := decide_eq_true c5
      clear c5
      by_cases c6 : x5_1 < (l0.length : Int)
      ·
       rw [if_pos c6] at H
       have c6b0 : decide (x5_1 < (l0.length : Int)) = true := decide_eq_true c6
       clear c6
       replace H := Option.bind_eq_some_iff.mp H
       obtain ⟨t103, A70, H⟩ := H
       replace H : (if t103 = true then (verditerref01_KeptTable.l0 k1 l0 l1 (wrap64 (x5_1 + 1))) else (some false)) = some r := H
       have A7 := Aside0.mk A70
       clear A70
       by_cases c8 : t103 = true
       ·
        subst c8
        have H1 : (verditerref01_KeptTable.l0 k1 l0 l1 (wrap64 (x5_1 + 1))) = some r := by rw [if_pos rfl] at H; exact H
        clear H
        have H := H1
        clear H1
        have H' := Aside0.mk H
        clear H
        have p101 : 0 ≤ (x5_1 : Int) := of_decide_eq_true (by assumption)
        have q101 : x5_1 < (l0.length : Int) := of_decide_eq_true (by assumption)
        obtain ⟨ad101, A101_0, c101_0, e101, hx101_0, hl101_0, hi101_0⟩ := at_L1 HR0.out x5_1 p101 q101
        cases e101
        have HR101_0 := Aside0.mk hi101_0
        have HC101_0 := Aside0.mk hl101_0
        clear hi101_0 hl101_0
        replace p101 := eq_true p101
        replace q101 := eq_true q101
        have p102 : 0 ≤ (x5_1 : Int) := of_decide_eq_true (by assumption)
        have q102 : x5_1 < (l1.length : Int) := of_decide_eq_true (by assumption)
        obtain ⟨ad102, A102_0, c102_0, e102, hx102_0, hl102_0, hi102_0⟩ := Full.at_ HR1.out x5_1 p102 q102
        cases e102
        have HR102_0 := Aside0.mk hi102_0
        have HC102_0 := Aside0.mk hl102_0
        clear hi102_0 hl102_0
        replace p102 := eq_true p102
        replace q102 := eq_true q102
        go_wp2_with (first | (go_at_call 22; (with_reducible refine (verditerref01_KeptInts.calls k1 _ _ (rd_L1 l0 x5_1) _ _ (rd_L1 l1 x5_1) true _ ?side1 ?side2 ?side3 ?side4 A7.out).mono ?_); (case side1 => exact HR101_0.out); (case side2 => exact HC101_0.out); (case side3 => exact HR102_0.out); (case side4 => exact HC102_0.out); rintro e w' ⟨rfl, ⟨nd, rfl⟩⟩; (try first | exact ⟨rfl, _, World.drewN_drewN _ _ _⟩ | exact ⟨rfl, _, Eq.trans (World.drewN_drewN _ _ _) (congrArg (World.drewN _) (Nat.add_assoc _ _ _))⟩)))
        repeat (go_quiet (first | (go_at_call 22; (with_reducible refine (verditerref01_KeptInts.calls k1 _ _ (rd_L1 l0 x5_1) _ _ (rd_L1 l1 x5_1) true _ ?side1 ?side2 ?side3 ?side4 A7.out).mono ?_); (case side1 => exact HR101_0.out); (case side2 => exact HC101_0.out); (case side3 => exact HR102_0.out); (case side4 => exact HC102_0.out); rintro e w' ⟨rfl, ⟨nd, rfl⟩⟩; (try first | exact ⟨rfl, _, World.drewN_drewN _ _ _⟩ | exact ⟨rfl, _, Eq.trans (World.drewN_drewN _ _ _) (congrArg (World.drewN _) (Nat.add_assoc _ _ _))⟩))); try go_wp2_with (first | (go_at_call 22; (with_reducible refine (verditerref01_KeptInts.calls k1 _ _ (rd_L1 l0 x5_1) _ _ (rd_L1 l1 x5_1) true _ ?side1 ?side2 ?side3 ?side4 A7.out).mono ?_); (case side1 => exact HR101_0.out); (case side2 => exact HC101_0.out); (case side3 => exact HR102_0.out); (case side4 => exact HC102_0.out); rintro e w' ⟨rfl, ⟨nd, rfl⟩⟩; (try first | exact ⟨rfl, _, World.drewN_drewN _ _ _⟩ | exact ⟨rfl, _, Eq.trans (World.drewN_drewN _ _ _) (congrArg (World.drewN _) (Nat.add_assoc _ _ _))⟩))))
        go_roundg k1
        case measure => have := HK1.out; omega
        case rel => exact ⟨(wrap64 (x5_1 + 1)), (by first | rfl | (simp; done) | (simp [*]; done)), H', ⟨by have := HK1.out; omega⟩, by repeat (first | exact Drawn0.refl _ | apply Drawn0.step)⟩
       ·
        replace c8 := Bool.eq_false_iff.mpr c8
        subst c8
        have H1 : (some false) = some r := by rw [if_neg (show ¬ (false = true) by decide)] at H; exact H
        clear H
        have H := H1
        clear H1
        obtain rfl := Option.some.inj H
        have p101 : 0 ≤ (x5_1 : Int) := of_decide_eq_true (by assumption)
        have q101 : x5_1 < (l0.length : Int) := of_decide_eq_true (by assumption)
        obtain ⟨ad101, A101_0, c101_0, e101, hx101_0, hl101_0, hi101_0⟩ := at_L1 HR0.out x5_1 p101 q101
        cases e101
        have HR101_0 := Aside0.mk hi101_0
        have HC101_0 := Aside0.mk hl101_0
        clear hi101_0 hl101_0
        replace p101 := eq_true p101
        replace q101 := eq_true q101
        have p102 : 0 ≤ (x5_1 : Int) := of_decide_eq_true (by assumption)
        have q102 : x5_1 < (l1.length : Int) := of_decide_eq_true (by assumption)
        obtain ⟨ad102, A102_0, c102_0, e102, hx102_0, hl102_0, hi102_0⟩ := Full.at_ HR1.out x5_1 p102 q102
        cases e102
        have HR102_0 := Aside0.mk hi102_0
        have HC102_0 := Aside0.mk hl102_0
        clear hi102_0 hl102_0
        replace p102 := eq_true p102
        replace q102 := eq_true q102
        go_wp2_with (first | (go_at_call 22; (with_reducible refine (verditerref01_KeptInts.calls k1 _ _ (rd_L1 l0 x5_1) _ _ (rd_L1 l1 x5_1) false _ ?side1 ?side2 ?side3 ?side4 A7.out).mono ?_); (case side1 => exact HR101_0.out); (case side2 => exact HC101_0.out); (case side3 => exact HR102_0.out); (case side4 => exact HC102_0.out); rintro e w' ⟨rfl, ⟨nd, rfl⟩⟩; (try first | exact ⟨rfl, _, World.drewN_drewN _ _ _⟩ | exact ⟨rfl, _, Eq.trans (World.drewN_drewN _ _ _) (congrArg (World.drewN _) (Nat.add_assoc _ _ _))⟩)))
        repeat (go_quiet (first | (go_at_call 22; (with_reducible refine (verditerref01_KeptInts.calls k1 _ _ (rd_L1 l0 x5_1) _ _ (rd_L1 l1 x5_1) false _ ?side1 ?side2 ?side3 ?side4 A7.out).mono ?_); (case side1 => exact HR101_0.out); (case side2 => exact HC101_0.out); (case side3 => exact HR102_0.out); (case side4 => exact HC102_0.out); rintro e w' ⟨rfl, ⟨nd, rfl⟩⟩; (try first | exact ⟨rfl, _, World.drewN_drewN _ _ _⟩ | exact ⟨rfl, _, Eq.trans (World.drewN_drewN _ _ _) (congrArg (World.drewN _) (Nat.add_assoc _ _ _))⟩))); try go_wp2_with (first | (go_at_call 22; (with_reducible refine (verditerref01_KeptInts.calls k1 _ _ (rd_L1 l0 x5_1) _ _ (rd_L1 l1 x5_1) false _ ?side1 ?side2 ?side3 ?side4 A7.out).mono ?_); (case side1 => exact HR101_0.out); (case side2 => exact HC101_0.out); (case side3 => exact HR102_0.out); (case side4 => exact HC102_0.out); rintro e w' ⟨rfl, ⟨nd, rfl⟩⟩; (try first | exact ⟨rfl, _, World.drewN_drewN _ _ _⟩ | exact ⟨rfl, _, Eq.trans (World.drewN_drewN _ _ _) (congrArg (World.drewN _) (Nat.add_assoc _ _ _))⟩))))
        go_ret
        exact ⟨by first | rfl | (simp; done) | (simp [*]; done), by repeat (first | exact Drawn0.refl _ | apply Drawn0.step)⟩
      ·
       rw [if_neg c6] at H
       exact absurd H (by simp)
     ·
      rw [if_neg c5] at H
      exact absurd H (by simp)
    ·
     rw [if_neg c4] at H
     have c4b0 : decide (x5_1 < (l1.length : Int)) = false := decide_eq_false c4
     clear c4
     obtain rfl := Option.some.inj H
     go_wp2
     repeat (go_quiet (fail); try go_wp2)
     go_ret
     exact ⟨by first | rfl | (simp; done) | (simp [*]; done), by repeat (first | exact Drawn0.refl _ | apply Drawn0.step)⟩
 ·
  rw [if_neg c3] at H
  have c3b0 : ((l0.length : Int) == (l1.length : Int)) = false := beq_eq_false_iff_ne.mpr c3
  have c3b1 : ((l0.length : Int) != (l1.length : Int)) = true := bne_iff_ne.mpr c3
  have c3b2 : (l0.length == l1.length) = false := by first | simpa using c3 | (simp at c3 ⊢; omega)
  obtain rfl := Option.some.inj H
  go_enter Try.func19, Try.ntmps19
  go_wp2
  repeat (go_quiet (fail); try go_wp2)
  go_ret
  exact ⟨by first | rfl | (simp; done) | (simp [*]; done), by repeat (first | exact Drawn0.refl _ | apply Drawn0.step)⟩
end Go.Proofs.Ytdneelgnmnpanaa.P
end
section
namespace Go.Proofs.Ytdneelgnmnpanaa.P
open Go.RowKit Go.Proofs.YtdneelgnmnpanaaW.PrintWords
set_option linter.unusedVariables false
set_option linter.unusedSimpArgs false
theorem keepInts (q : List Int) (h : q.length * 8 ≤ reachBytes) : verditerref01_KeepInts.f q = some q := by
  have : reachBytes < 2 ^ 47 := reachBytes_lt
  unfold verditerref01_KeepInts.f
  simp only [Option.bind_some, List.length_nil, List.nil_append]
  rw [if_pos (by omega)]
theorem keptInts_l (q : List Int) (h : q.length ≤ 9223372036854775807) : ∀ d n : Nat, n + d = q.length → Ev (fun k => verditerref01_KeptInts.l0 k q q (n : Int)) true := by
  intro d
  induction d with
  | zero =>
    intro n hn
    refine Ev.step (fun k => by rw [verditerref01_KeptInts.l0]) ?_
    simp only [show ¬ ((n : Int) < (q.length : Int)) by omega, if_false]
    exact Ev.now _
  | succ d ih =>
    intro n hn
    refine Ev.step (fun k => by rw [verditerref01_KeptInts.l0]) ?_
    simp only [show ((n : Int) < (q.length : Int)) by omega, show (0 : Int) ≤ (n : Int) by omega, if_true]
    rw [wr_succ (m := q.length) (by omega) h]
    exact ih (n + 1) (by omega)
theorem keptInts (q : List Int) (h : q.length * 8 ≤ reachBytes) : Ev (fun k => verditerref01_KeptInts.f k q q) true := by
  have : reachBytes < 2 ^ 47 := reachBytes_lt
  unfold verditerref01_KeptInts.f
  simp only [if_true]
  exact keptInts_l q (by omega) q.length 0 (by omega)
theorem keepTable_l (Q : List (List Int)) (h : Q.length * 24 ≤ reachBytes) (hq : ∀ q ∈ Q, q.length * 8 ≤ reachBytes) : ∀ (d n : Nat) (out : List (List Int)), n + d = Q.length → out.length ≤ n → Ev (fun k => verditerref01_KeepTable.l0 k Q out (n : Int)) (out ++ Q.drop n) := by
  have hr : reachBytes < 2 ^ 47 := reachBytes_lt
  intro d
  induction d with
  | zero =>
    intro n out hn ho
    refine Ev.step (fun k => by rw [verditerref01_KeepTable.l0]) ?_
    simp only [show ¬ ((n : Int) < (Q.length : Int)) by omega, if_false]
    rw [List.drop_eq_nil_of_le (by omega), List.append_nil]
    exact Ev.now _
  | succ d ih =>
    intro n out hn ho
    have hlt : n < Q.length := by omega
    refine Ev.step (fun k => by rw [verditerref01_KeepTable.l0]) ?_
    simp only [show ((n : Int) < (Q.length : Int)) by omega, show (0 : Int) ≤ (n : Int) by omega, if_true, rdL, getD_at Q n _ hlt, keepInts _ (hq _ (List.getElem_mem hlt)), Option.bind_some, show out.length < 5864062014805 by omega]
    rw [wr_succ (m := Q.length) hlt (by omega), List.drop_eq_getElem_cons hlt]
    have := ih (n + 1) (out ++ [Q[n]]) (by omega) (by simp; omega)
    rw [List.append_assoc] at this
    exact this
theorem keepTable (Q : List (List Int)) (h : Q.length * 24 ≤ reachBytes) (hq : ∀ q ∈ Q, q.length * 8 ≤ reachBytes) : Ev (fun k => verditerref01_KeepTable.f k Q) Q := by
  unfold verditerref01_KeepTable.f
  have := keepTable_l Q h hq Q.length 0 [] (by omega) (by simp)
  rw [List.drop_zero, List.nil_append] at this
  exact this
theorem keptTable_l (Q : List (List Int)) (h : Q.length * 24 ≤ reachBytes) (hq : ∀ q ∈ Q, q.length * 8 ≤ reachBytes) : ∀ d n : Nat, n + d = Q.length → Ev (fun k => verditerref01_KeptTable.l0 k Q Q (n : Int)) true := by
  have hr : reachBytes < 2 ^ 47 := reachBytes_lt
  intro d
  induction d with
  | zero =>
    intro n hn
    refine Ev.step (fun k => by rw [verditerref01_KeptTable.l0]) ?_
    simp only [show ¬ ((n : Int) < (Q.length : Int)) by omega, if_false]
    exact Ev.now _
  | succ d ih =>
    intro n hn
    have hlt : n < Q.length := by omega
    refine Ev.step (fun k => by rw [verditerref01_KeptTable.l0]) ?_
    simp only [show ((n : Int) < (Q.length : Int)) by omega, show (0 : Int) ≤ (n : Int) by omega, if_true, rdL, getD_at Q n _ hlt]
    refine Ev.bind (keptInts _ (hq _ (List.getElem_mem hlt))) ?_
    simp only [if_true]
    rw [wr_succ (m := Q.length) hlt (by omega)]
    exact ih (n + 1) (by omega)
theorem keptTable (Q : List (List Int)) (h : Q.length * 24 ≤ reachBytes) (hq : ∀ q ∈ Q, q.length * 8 ≤ reachBytes) : Ev (fun k => verditerref01_KeptTable.f k Q Q) true := by
  unfold verditerref01_KeptTable.f
  simp only [if_true]
  exact keptTable_l Q h hq Q.length 0 (by omega)
end Go.Proofs.Ytdneelgnmnpanaa.P
end
section
namespace Go.Proofs.Det
variable {K : Type}
def sgn (f : List (K → Int) → Int) (j : K) : List (K → Int) → List (K → Int) → Int
  | _, [] => 0
  | pre, v :: post => v j * f (pre ++ post) - sgn f j (pre ++ [v]) post
def det : List K → List (K → Int) → Int
  | [], _ => 1
  | j :: J, I => sgn (det J) j [] I
def comb (a : Int) (u : K → Int) (b : Int) (v : K → Int) : K → Int := fun j => a * u j + b * v j
def Lin (n : Nat) (f : List (K → Int) → Int) : Prop := ∀ p q u v a b, p.length + q.length + 1 = n → f (p ++ comb a u b v :: q) = a * f (p ++ u :: q) + b * f (p ++ v :: q)
def Alt (n : Nat) (f : List (K → Int) → Int) : Prop := ∀ p q u, p.length + q.length + 2 = n → f (p ++ u :: u :: q) = 0
theorem sgn_lin_pre {n : Nat} {f : List (K → Int) → Int} (h : Lin n f) (j : K) : ∀ (post p q : List (K → Int)) (u v : K → Int) (a b : Int), p.length + q.length + 1 + post.length = n + 1 → sgn f j (p ++ comb a u b v :: q) post = a * sgn f j (p ++ u :: q) post + b * sgn f j (p ++ v :: q) post
  | [], p, q, u, v, a, b, _ => by simp [sgn]
  | w :: post, p, q, u, v, a, b, e => by
    simp only [List.length_cons] at e
    have ih := sgn_lin_pre h j post p (q ++ [w]) u v a b (by simp; omega)
    have h1 := h p (q ++ post) u v a b (by simp; omega)
    simp only [sgn, List.append_assoc, List.cons_append]
    rw [ih, h1]
    grind
theorem sgn_lin {n : Nat} {f : List (K → Int) → Int} (h : Lin n f) (j : K) : ∀ (p pre q : List (K → Int)) (u v : K → Int) (a b : Int), pre.length + p.length + q.length + 1 = n + 1 → sgn f j pre (p ++ comb a u b v :: q) = a * sgn f j pre (p ++ u :: q) + b * sgn f j pre (p ++ v :: q)
  | [], pre, q, u, v, a, b, e => by
    have h1 := sgn_lin_pre h j q pre [] u v a b (by simp at e ⊢; omega)
    simp only [List.nil_append, sgn]
    rw [h1]
    simp only [comb]
    grind
  | w :: p, pre, q, u, v, a, b, e => by
    simp only [List.length_cons] at e
    have ih := sgn_lin h j p (pre ++ [w]) q u v a b (by simp; omega)
    have h1 := h (pre ++ p) q u v a b (by simp; omega)
    simp only [List.append_assoc] at h1
    simp only [List.cons_append, sgn]
    rw [ih, h1]
    grind
theorem det_lin : ∀ J : List K, Lin J.length (det J)
  | [] => fun p q u v a b e => by simp at e
  | j :: J => fun p q u v a b e => sgn_lin (det_lin J) j p [] q u v a b (by simp at e ⊢; omega)
theorem sgn_alt_pre {n : Nat} {f : List (K → Int) → Int} (h : Alt n f) (j : K) : ∀ (post p q : List (K → Int)) (u : K → Int), p.length + q.length + 2 + post.length = n + 1 → sgn f j (p ++ u :: u :: q) post = 0
  | [], p, q, u, _ => rfl
  | w :: post, p, q, u, e => by
    simp only [List.length_cons] at e
    have ih := sgn_alt_pre h j post p (q ++ [w]) u (by simp; omega)
    have h1 := h p (q ++ post) u (by simp; omega)
    simp only [sgn, List.append_assoc, List.cons_append]
    rw [ih, h1]
    simp
theorem sgn_alt {n : Nat} {f : List (K → Int) → Int} (h : Alt n f) (j : K) : ∀ (p pre q : List (K → Int)) (u : K → Int), pre.length + p.length + q.length + 2 = n + 1 → sgn f j pre (p ++ u :: u :: q) = 0
  | [], pre, q, u, e => by
    have h1 := sgn_alt_pre h j q pre [] u (by simp at e ⊢; omega)
    simp only [List.nil_append, sgn, List.append_assoc, List.singleton_append]
    rw [h1]
    omega
  | w :: p, pre, q, u, e => by
    simp only [List.length_cons] at e
    have ih := sgn_alt h j p (pre ++ [w]) q u (by simp; omega)
    have h1 := h (pre ++ p) q u (by simp; omega)
    simp only [List.append_assoc] at h1
    simp only [List.cons_append, sgn]
    rw [ih, h1]
    simp
theorem det_alt : ∀ J : List K, Alt J.length (det J)
  | [] => fun p q u e => by simp at e
  | j :: J => fun p q u e => sgn_alt (det_alt J) j p [] q u (by simp at e ⊢; omega)
theorem swap {n : Nat} {f : List (K → Int) → Int} (hl : Lin n f) (ha : Alt n f) (p q : List (K → Int)) (u v : K → Int) (e : p.length + q.length + 2 = n) : f (p ++ u :: v :: q) = - f (p ++ v :: u :: q) := by
  have h0 := ha p q (comb 1 u 1 v) e
  have h1 := hl p (comb 1 u 1 v :: q) u v 1 1 (by simp; omega)
  have h2 := hl (p ++ [u]) q u v 1 1 (by simp; omega)
  have h3 := hl (p ++ [v]) q u v 1 1 (by simp; omega)
  have h4 := ha p q u e
  have h5 := ha p q v e
  simp only [List.append_assoc, List.singleton_append] at h2 h3
  rw [h1, h2, h3, h4, h5] at h0
  omega
theorem equal_rows {n : Nat} {f : List (K → Int) → Int} (hl : Lin n f) (ha : Alt n f) : ∀ (q p r : List (K → Int)) (u : K → Int), p.length + q.length + r.length + 2 = n → f (p ++ u :: (q ++ u :: r)) = 0
  | [], p, r, u, e => ha p r u (by simp at e; omega)
  | w :: q, p, r, u, e => by
    simp only [List.length_cons] at e
    have h1 := swap hl ha p (q ++ u :: r) u w (by simp; omega)
    have ih := equal_rows hl ha q (p ++ [w]) r u (by simp; omega)
    simp only [List.append_assoc, List.singleton_append] at ih
    rw [List.cons_append, h1, ih]
    rfl
theorem zero_row {n : Nat} {f : List (K → Int) → Int} (hl : Lin n f) (p q : List (K → Int)) (e : p.length + q.length + 1 = n) : f (p ++ (fun _ => 0) :: q) = 0 := by
  have h := hl p q (fun _ => 0) (fun _ => 0) 0 0 e
  rw [show comb 0 (fun _ => 0) 0 (fun _ => 0) = (fun _ : K => (0 : Int)) from by funext j; simp [comb]] at h
  omega
inductive Gen (S : (K → Int) → Prop) : (K → Int) → Prop
  | base {v} : S v → Gen S v
  | zero : Gen S (fun _ => 0)
  | comb {u v} (a b : Int) : Gen S u → Gen S v → Gen S (comb a u b v)
  | quot {u v} (d : Int) : d ≠ 0 → Gen S u → (∀ j, u j = d * v j) → Gen S v
theorem gen_trans {S S' : (K → Int) → Prop} (h : ∀ v, S v → Gen S' v) {v : K → Int} (hv : Gen S v) : Gen S' v := by
  induction hv with
  | base h1 => exact h _ h1
  | zero => exact .zero
  | comb a b _ _ h1 h2 => exact .comb a b h1 h2
  | quot d hd _ e h1 => exact .quot d hd h1 e
theorem gen_orth {S : (K → Int) → Prop} (g : (K → Int) → Int) (hg : ∀ a u b v, g (comb a u b v) = a * g u + b * g v) (h : ∀ v, S v → g v = 0) {v : K → Int} (hv : Gen S v) : g v = 0 := by
  have h0 : g (fun _ => 0) = 0 := by
    have := hg 0 (fun _ => 0) 0 (fun _ => 0)
    rw [show comb 0 (fun _ => 0) 0 (fun _ => 0) = (fun _ : K => (0 : Int)) from by funext j; simp [comb]] at this
    omega
  induction hv with
  | base h1 => exact h _ h1
  | zero => exact h0
  | comb a b _ _ h1 h2 => rw [hg, h1, h2]; simp
  | @quot u v d hd _ e h1 =>
    have h2 : u = comb d v 0 v := by funext j; simp [comb, e j]
    rw [h2, hg] at h1
    have : d * g v = 0 := by omega
    rcases Int.mul_eq_zero.1 this with h3 | h3
    · exact absurd h3 hd
    · exact h3
theorem gen_vanish {n : Nat} {f : List (K → Int) → Int} (hl : Lin n f) {S : (K → Int) → Prop} (h : ∀ I : List (K → Int), I.length = n → (∀ v ∈ I, S v) → f I = 0) : ∀ (p q : List (K → Int)), p.length + q.length = n → (∀ v ∈ p, Gen S v) → (∀ v ∈ q, S v) → f (p ++ q) = 0 := by
  intro p
  induction hp : p.length generalizing p with
  | zero =>
    intro q e _ hq
    rw [List.eq_nil_of_length_eq_zero hp, List.nil_append]
    exact h q (by omega) hq
  | succ k ih =>
    intro q e hpg hq
    obtain ⟨p', w, rfl⟩ : ∃ p' w, p = p' ++ [w] := ⟨p.dropLast, p.getLast (by intro h0; rw [h0] at hp; simp at hp), (List.dropLast_concat_getLast _).symm⟩
    have hk : p'.length = k := by simpa using hp
    rw [List.append_assoc, List.singleton_append]
    refine gen_orth (S := S) (fun v => f (p' ++ v :: q)) (fun a u b v => hl p' q u v a b (by omega)) (fun v hv => ?_) (hpg w (by simp))
    have := ih p' hk (v :: q) (by simp; omega) (fun x hx => hpg x (by simp [hx])) (fun x hx => by
      rcases List.mem_cons.1 hx with rfl | hx
      · exact hv
      · exact hq x hx)
    exact this
end Go.Proofs.Det
end
section
namespace Go.Proofs.Det
variable {K : Type}
def Van (r : Nat) (S : (K → Int) → Prop) : Prop := ∀ J : List K, J.length = r → ∀ I : List (K → Int), I.length = r → (∀ v ∈ I, S v) → det J I = 0
theorem van_gen {r : Nat} {S S' : (K → Int) → Prop} (h : Van r S) (hg : ∀ v, S' v → Gen S v) : Van r S' := by
  intro J hJ I hI hv
  have hl := det_lin J
  rw [hJ] at hl
  have := gen_vanish hl (S := S) (fun I hI hv => h J hJ I hI hv) I [] (by simpa using hI) (fun v hv' => hg v (hv v hv')) (by simp)
  simpa using this
theorem sgn_zero (f : List (K → Int) → Int) (j : K) : ∀ (post pre : List (K → Int)), (∀ v ∈ post, v j = 0) → sgn f j pre post = 0
  | [], _, _ => rfl
  | v :: post, pre, h => by
    rw [sgn, h v (List.mem_cons_self ..), sgn_zero f j post _ (fun u hu => h u (List.mem_cons_of_mem _ hu))]
    simp
def Steps : List K → List (K → Int) → Prop
  | [], [] => True
  | j :: J, v :: R => v j ≠ 0 ∧ (∀ u ∈ R, u j = 0) ∧ Steps J R
  | _, _ => False
theorem steps_det : ∀ (J : List K) (R : List (K → Int)), Steps J R → det J R ≠ 0
  | [], [], _ => by simp [det]
  | [], _ :: _, h => h.elim
  | _ :: _, [], h => h.elim
  | j :: J, v :: R, h => by
    obtain ⟨h1, h2, h3⟩ := h
    rw [det, sgn, List.nil_append, List.nil_append, sgn_zero _ _ _ _ h2, Int.sub_zero]
    exact Int.mul_ne_zero h1 (steps_det J R h3)
theorem nodup_le : ∀ (r : Nat) (l : List Nat), l.Nodup → (∀ x ∈ l, x < r) → l.length ≤ r
  | 0, l, _, h => by
    cases l with
    | nil => simp
    | cons x t => have := h x (List.mem_cons_self ..); omega
  | r + 1, l, hn, h => by
    by_cases c : r ∈ l
    · have h1 := nodup_le r (l.erase r) (hn.erase r) (fun x hx => by
        have h2 := (hn.mem_erase_iff).1 hx
        have := h x h2.2
        have := h2.1
        omega)
      rw [List.length_erase_of_mem c] at h1
      omega
    · have := nodup_le r l hn (fun x hx => by
        have h1 := h x hx
        have : x ≠ r := fun e => c (e ▸ hx)
        omega)
      omega
theorem split_of_not_nodup : ∀ (l : List Nat), ¬ l.Nodup → ∃ p a q s, l = p ++ a :: (q ++ a :: s)
  | [], h => (h List.nodup_nil).elim
  | x :: t, h => by
    by_cases c : x ∈ t
    · obtain ⟨q, s, e⟩ := List.append_of_mem c
      exact ⟨[], x, q, s, by rw [e]; rfl⟩
    · obtain ⟨p, a, q, s, e⟩ := split_of_not_nodup t (fun hn => h (List.nodup_cons.2 ⟨c, hn⟩))
      exact ⟨x :: p, a, q, s, by rw [e]; rfl⟩
theorem van_short (R : List (K → Int)) : Van (R.length + 1) (fun v => v ∈ R) := by
  intro J hJ I hI hv
  obtain ⟨l, hl, hI2⟩ : ∃ l : List Nat, (∀ x ∈ l, x < R.length) ∧ I = l.map (fun x => R.getD x (fun _ => 0)) := by
    clear hI
    induction I with
    | nil => exact ⟨[], by simp, rfl⟩
    | cons v I ih =>
      obtain ⟨l, h1, h2⟩ := ih (fun u hu => hv u (List.mem_cons_of_mem _ hu))
      obtain ⟨n, hn, e⟩ := List.getElem_of_mem (hv v (List.mem_cons_self ..))
      refine ⟨n :: l, fun x hx => ?_, ?_⟩
      · rcases List.mem_cons.1 hx with rfl | hx
        · exact hn
        · exact h1 x hx
      · rw [List.map_cons, ← h2, List.getD_eq_getElem?_getD, List.getElem?_eq_getElem hn, e]
        rfl
  have hll : l.length = R.length + 1 := by rw [hI2] at hI; simpa using hI
  obtain ⟨p, a, q, s, e⟩ := split_of_not_nodup l (fun hn => by have := nodup_le R.length l hn hl; omega)
  rw [hI2, e]
  simp only [List.map_append, List.map_cons]
  have h1 := det_lin J
  have h2 := det_alt J
  rw [hJ] at h1 h2
  refine equal_rows h1 h2 _ _ _ _ ?_
  rw [e] at hll
  simp at hll ⊢
  omega
theorem van_up {r : Nat} {S : (K → Int) → Prop} (h : Van r S) : Van (r + 1) S := by
  intro J hJ I hI hv
  match J, hJ with
  | j :: J, hJ =>
    have : ∀ (post pre : List (K → Int)), pre.length + post.length = r + 1 → (∀ v ∈ pre, S v) → (∀ v ∈ post, S v) → sgn (det J) j pre post = 0 := by
      intro post
      induction post with
      | nil => intros; rfl
      | cons v post ih =>
        intro pre e h1 h2
        rw [sgn, ih (pre ++ [v]) (by simp at e ⊢; omega) (fun u hu => by
          rcases List.mem_append.1 hu with hu | hu
          · exact h1 u hu
          · rw [List.mem_singleton.1 hu]; exact h2 v (List.mem_cons_self ..)) (fun u hu => h2 u (List.mem_cons_of_mem _ hu)),
          h J (by simpa using hJ) (pre ++ post) (by simp at e ⊢; omega) (fun u hu => by
          rcases List.mem_append.1 hu with hu | hu
          · exact h1 u hu
          · exact h2 u (List.mem_cons_of_mem _ hu))]
        simp
    exact this I [] (by simpa using hI) (by simp) hv
end Go.Proofs.Det
end
section
namespace Go.Proofs.Ytdneelgnmnpanaa.P
open Go.RowKit Go.Proofs.YtdneelgnmnpanaaW.PrintWords Go.Proofs.Det
set_option linter.unusedVariables false
set_option linter.unusedSimpArgs false
theorem gc_dvd : ∀ (m : List Int) (d : Nat), ((m.foldl (fun d n => Int.gcd d n) d : Nat) : Int) ∣ (d : Int) ∧ ∀ x ∈ m, ((m.foldl (fun d n => Int.gcd d n) d : Nat) : Int) ∣ x
  | [], d => ⟨Int.dvd_refl _, fun x hx => absurd hx (by simp)⟩
  | y :: m, d => by
    obtain ⟨h1, h2⟩ := gc_dvd m (Int.gcd d y)
    rw [List.foldl_cons]
    refine ⟨Int.dvd_trans h1 (Int.gcd_dvd_left ..), fun x hx => ?_⟩
    rcases List.mem_cons.1 hx with rfl | hx
    · exact Int.dvd_trans h1 (Int.gcd_dvd_right ..)
    · exact h2 x hx
theorem getD_none {l : List Int} {j : Nat} (h : l.length ≤ j) : l.getD j 0 = 0 := by
  rw [List.getD_eq_getElem?_getD, List.getElem?_eq_none h]
  rfl
theorem getD_some {l : List Int} {j : Nat} (h : j < l.length) : l.getD j 0 = l[j] := by
  rw [List.getD_eq_getElem?_getD, List.getElem?_eq_getElem h]
  rfl
theorem pln_at (m : List Int) : ∃ g : Int, g ≠ 0 ∧ ∀ j, m.getD j 0 = g * (pln m).getD j 0 ∧ ((pln m).getD j 0).natAbs ≤ (m.getD j 0).natAbs := by
  unfold pln
  by_cases h : 1 < gc m
  · rw [if_pos h]
    refine ⟨(gc m : Int), by omega, fun j => ?_⟩
    by_cases hj : j < m.length
    · rw [getD_some hj, getD_some (by simpa using hj), List.getElem_map]
      have hd : (gc m : Int) ∣ m[j] := (gc_dvd m 0).2 _ (List.getElem_mem hj)
      have he : (gc m : Int) * (m[j].tdiv (gc m : Int)) = m[j] := Int.mul_tdiv_cancel' hd
      refine ⟨he.symm, ?_⟩
      generalize m[j].tdiv (gc m : Int) = y at *
      rw [← he, Int.natAbs_mul, Int.natAbs_natCast]
      exact Nat.le_mul_of_pos_left _ (by omega)
    · rw [getD_none (by omega), getD_none (by simp; omega)]
      simp
  · rw [if_neg h]
    exact ⟨1, by omega, fun j => ⟨by omega, Nat.le_refl _⟩⟩
def upd (i : Nat) (t r : List Int) : List Int := if r.getD i 0 = 0 then r else pln (cmb (t.getD i 0) (r.getD i 0) r t)
theorem cmb_at (p q : Int) {r t : List Int} (h : r.length = t.length) (j : Nat) : (cmb p q r t).getD j 0 = r.getD j 0 * p - t.getD j 0 * q := by
  by_cases hj : j < r.length
  · rw [getD_some hj, getD_some (show j < t.length by omega), getD_some (by rw [cmb_length _ _ _ _ h]; exact hj)]
    simp only [cmb, List.getElem_zipWith]
  · rw [getD_none (l := cmb p q r t) (by rw [cmb_length _ _ _ _ h]; omega), getD_none (l := r) (by omega), getD_none (l := t) (by omega)]
    omega
theorem upd_length (i : Nat) {t r : List Int} (h : r.length = t.length) : (upd i t r).length = r.length := by
  unfold upd
  split
  · rfl
  · rw [pln_length, cmb_length _ _ _ _ h]
theorem upd_spec (i : Nat) {t r : List Int} (h : r.length = t.length) (ht : t.getD i 0 ≠ 0) : ∃ g p q : Int, g ≠ 0 ∧ p ≠ 0 ∧ (∀ j, p * r.getD j 0 + (-q) * t.getD j 0 = g * (upd i t r).getD j 0) ∧ (upd i t r).getD i 0 = 0 := by
  unfold upd
  by_cases c : r.getD i 0 = 0
  · rw [if_pos c]
    exact ⟨1, 1, 0, by omega, by omega, fun j => by simp, c⟩
  · rw [if_neg c]
    obtain ⟨g, hg, hj⟩ := pln_at (cmb (t.getD i 0) (r.getD i 0) r t)
    refine ⟨g, t.getD i 0, r.getD i 0, hg, ht, fun j => ?_, ?_⟩
    · rw [← (hj j).1, cmb_at _ _ h, Int.neg_mul, Int.mul_comm (t.getD i 0), Int.mul_comm (r.getD i 0) (t.getD j 0)]
      omega
    · have h1 := (hj i).1
      rw [cmb_at _ _ h, Int.mul_comm (t.getD i 0), Int.sub_self] at h1
      rcases Int.mul_eq_zero.1 h1.symm with h2 | h2
      · exact absurd h2 hg
      · exact h2
theorem nmul {x y : Int} {A B : Nat} (hx : x.natAbs ≤ A) (hy : y.natAbs ≤ B) : (x * y).natAbs ≤ A * B := by
  rw [Int.natAbs_mul]
  exact Nat.mul_le_mul hx hy
theorem upd_bd (i : Nat) {t r : List Int} (h : r.length = t.length) (B : Nat) (h1 : ∀ j, (r.getD j 0).natAbs ≤ B) (h2 : ∀ j, (t.getD j 0).natAbs ≤ B) (hB : 1 ≤ B) : ∀ j, ((upd i t r).getD j 0).natAbs ≤ 2 * (B * B) := by
  intro j
  unfold upd
  have hb : B ≤ B * B := Nat.le_mul_of_pos_left _ hB
  by_cases c : r.getD i 0 = 0
  · rw [if_pos c]
    have := h1 j
    omega
  · rw [if_neg c]
    obtain ⟨g, hg, hj⟩ := pln_at (cmb (t.getD i 0) (r.getD i 0) r t)
    have a := (hj j).2
    rw [cmb_at _ _ h] at a
    have b := nmul (h1 j) (h2 i)
    have d := nmul (h2 j) (h1 i)
    omega
def Sgd (s : Nat → Int) (r : List Int) : Prop := ∃ g : Int, (g = 1 ∨ g = -1) ∧ ∀ j, 0 ≤ g * (s j * r.getD j 0)
theorem upd_bd1 (i : Nat) {t r : List Int} (h : r.length = t.length) (B : Nat) (h1 : ∀ j, (r.getD j 0).natAbs ≤ B) (h2 : ∀ j, (t.getD j 0).natAbs ≤ B) (hB : 1 ≤ B) (s : Nat → Int) (hs : ∀ j, s j = 1 ∨ s j = -1) (hr : Sgd s r) (ht : Sgd s t) : ∀ j, ((upd i t r).getD j 0).natAbs ≤ B * B := by
  intro j
  unfold upd
  have hb : B ≤ B * B := Nat.le_mul_of_pos_left _ hB
  by_cases c : r.getD i 0 = 0
  · rw [if_pos c]
    have := h1 j
    omega
  · rw [if_neg c]
    obtain ⟨g, hg, hj⟩ := pln_at (cmb (t.getD i 0) (r.getD i 0) r t)
    have a := (hj j).2
    rw [cmb_at _ _ h] at a
    have b := nmul (h1 j) (h2 i)
    have d := nmul (h2 j) (h1 i)
    obtain ⟨x, hx, hr⟩ := hr
    obtain ⟨y, hy, ht⟩ := ht
    have e := Int.mul_nonneg (hr j) (ht i)
    have f := Int.mul_nonneg (ht j) (hr i)
    have mm : ∀ p q a b c d : Int, p * (a * b) * (q * (c * d)) = p * q * (a * c) * (b * d) := by intros; grind
    rw [mm] at e f
    rw [Int.mul_comm y x] at f
    generalize r.getD j 0 * t.getD i 0 = X at *
    generalize t.getD j 0 * r.getD i 0 = Y at *
    have : x * y * (s j * s i) = 1 ∨ x * y * (s j * s i) = -1 := by rcases hs j with a | a <;> rcases hs i with b | b <;> rcases hx with c | c <;> rcases hy with d | d <;> rw [a, b, c, d] <;> decide
    rcases this with x | x <;> rw [x] at e f <;> omega
theorem dvd_gc : ∀ (m : List Int) (d : Nat) (c : Int), c ∣ (d : Int) → (∀ x ∈ m, c ∣ x) → c ∣ ((m.foldl (fun d n => Int.gcd d n) d : Nat) : Int)
  | [], _, _, h, _ => h
  | y :: m, d, c, h, hm => by
    rw [List.foldl_cons]
    exact dvd_gc m _ c (Int.dvd_coe_gcd h (hm y (List.mem_cons_self ..))) (fun x hx => hm x (List.mem_cons_of_mem _ hx))
theorem gc_pln (m : List Int) : gc (pln m) ≤ 1 := by
  unfold pln
  by_cases h : 1 < gc m
  · rw [if_pos h]
    have h1 : ((gc (m.map (·.tdiv (gc m))) : Nat) : Int) * (gc m : Int) ∣ (gc m : Int) := dvd_gc m 0 _ (by simp) (fun x hx => by
      have hd : (gc m : Int) ∣ x := (gc_dvd m 0).2 x hx
      have h2 := (gc_dvd (m.map (·.tdiv (gc m))) 0).2 (x.tdiv (gc m)) (List.mem_map.2 ⟨x, hx, rfl⟩)
      have h3 := Int.mul_dvd_mul_right (gc m : Int) h2
      rw [Int.tdiv_mul_cancel hd] at h3
      exact h3)
    rw [← Int.natCast_mul, Int.natCast_dvd_natCast] at h1
    have := Nat.le_of_dvd (by omega) h1
    by_cases c : gc (m.map (·.tdiv (gc m))) ≤ 1
    · exact c
    · have h4 : 2 * gc m ≤ gc (m.map (·.tdiv (gc m))) * gc m := Nat.mul_le_mul_right _ (by omega)
      omega
  · rw [if_neg h]
    omega
theorem lineAt_set (M : List (List Int)) (j : Nat) (r : List Int) (k : Nat) (hj : j < M.length) : lineAt (M.set j r) k = if k = j then r else lineAt M k := by
  unfold lineAt
  rw [List.getD_eq_getElem?_getD, List.getElem?_set, List.getD_eq_getElem?_getD]
  by_cases h : j = k
  · subst h
    rw [if_pos rfl, if_pos rfl, if_pos hj]
    rfl
  · rw [if_neg h, if_neg (fun e => h e.symm)]
theorem lineAt_none (M : List (List Int)) (k : Nat) (h : M.length ≤ k) : lineAt M k = [] := by
  unfold lineAt
  rw [List.getD_eq_getElem?_getD, List.getElem?_eq_none h]
  rfl
theorem elims_spec (i top : Nat) : ∀ (d j : Nat) (M : List (List Int)), j + d ≤ M.length → (∀ k, j ≤ k → k < j + d → k ≠ top → (lineAt M k).getD i 0 ≠ 0 → Okc ((lineAt M top).getD i 0) ((lineAt M k).getD i 0) (lineAt M k) (lineAt M top)) →
    ∃ M', elims i top d j M = some M' ∧ M'.length = M.length ∧ ∀ k, lineAt M' k = if j ≤ k ∧ k < j + d ∧ k ≠ top then upd i (lineAt M top) (lineAt M k) else lineAt M k
  | 0, j, M, _, _ => ⟨M, rfl, rfl, fun k => by rw [if_neg (by omega)]⟩
  | d + 1, j, M, hl, hok => by
    have h1 : elim i top j M = some (M.set j (if j = top then lineAt M j else upd i (lineAt M top) (lineAt M j))) := by
      have hself : M.set j (lineAt M j) = M := by
        rw [lineAt_eq M j (by omega)]
        exact List.set_getElem_self _
      unfold elim
      by_cases c : j = top
      · rw [if_pos (.inl c), if_pos c, hself]
      · rw [if_neg c]
        unfold upd
        by_cases c2 : (lineAt M j).getD i 0 = 0
        · rw [if_pos (.inr c2), if_pos c2, hself]
        · rw [if_neg (by rintro (h | h); exact c h; exact c2 h), if_neg c2, if_pos (hok j (Nat.le_refl _) (by omega) c c2)]
    have hst : ∀ k, lineAt (M.set j (if j = top then lineAt M j else upd i (lineAt M top) (lineAt M j))) k = if k = j ∧ k ≠ top then upd i (lineAt M top) (lineAt M k) else lineAt M k := fun k => by
      rw [lineAt_set M j _ k (by omega)]
      by_cases c : k = j
      · subst c
        rw [if_pos rfl]
        by_cases c2 : k = top
        · rw [if_pos c2, if_neg (fun h => h.2 c2)]
        · rw [if_neg c2, if_pos ⟨rfl, c2⟩]
      · rw [if_neg c, if_neg (fun h => c h.1)]
    obtain ⟨M', e, l, hk⟩ := elims_spec i top d (j + 1) (M.set j (if j = top then lineAt M j else upd i (lineAt M top) (lineAt M j))) (by rw [List.length_set]; omega) (fun k h2 h3 h4 h5 => by
      rw [hst top, if_neg (fun h => h.2 rfl), hst k, if_neg (by omega)]
      rw [hst k, if_neg (by omega)] at h5
      exact hok k (by omega) (by omega) h4 h5)
    refine ⟨M', by rw [elims, h1]; exact e, by rw [l, List.length_set], fun k => ?_⟩
    have htop : lineAt (M.set j (if j = top then lineAt M j else upd i (lineAt M top) (lineAt M j))) top = lineAt M top := by rw [hst top, if_neg (fun h => h.2 rfl)]
    rw [hk k, htop, hst k]
    by_cases c : j + 1 ≤ k ∧ k < j + 1 + d ∧ k ≠ top
    · rw [if_pos c, if_neg (by omega), if_pos (by omega)]
    · rw [if_neg c]
      by_cases c2 : k = j ∧ k ≠ top
      · rw [if_pos c2, if_pos (by omega)]
      · rw [if_neg c2, if_neg (by omega)]
theorem fst_neg (i : Nat) : ∀ (rows : List (List Int)), fst i rows < 0 → ∀ k, (lineAt rows k).getD i 0 = 0
  | [], _, k => by rw [lineAt_none _ _ (by simp)]; rfl
  | r :: l, h, k => by
    rw [fst] at h
    by_cases c : r.getD i 0 = 0
    · rw [if_neg (fun hh => hh c)] at h
      cases k with
      | zero => exact c
      | succ k =>
        refine fst_neg i l ?_ k
        by_cases c2 : fst i l < 0
        · exact c2
        · rw [if_neg c2] at h
          omega
    · rw [if_pos c] at h
      omega
theorem fst_pos (i : Nat) : ∀ (rows : List (List Int)), ¬ fst i rows < 0 → (lineAt rows (fst i rows).toNat).getD i 0 ≠ 0
  | [], h => absurd (show fst i [] < 0 by simp [fst]) h
  | r :: l, h => by
    rw [fst] at h ⊢
    by_cases c : r.getD i 0 = 0
    · rw [if_neg (fun hh => hh c)] at h ⊢
      by_cases c2 : fst i l < 0
      · rw [if_pos c2] at h
        omega
      · rw [if_neg c2]
        have := fst_pos i l c2
        rw [show (fst i l + 1).toNat = (fst i l).toNat + 1 by omega]
        exact this
    · rw [if_pos c]
      exact c
end Go.Proofs.Ytdneelgnmnpanaa.P
end
section
namespace Go.Proofs.Ytdneelgnmnpanaa.P
open Go.RowKit Go.Proofs.YtdneelgnmnpanaaW.PrintWords Go.Proofs.Det
set_option linter.unusedVariables false
set_option linter.unusedSimpArgs false
def Bn : Nat → Nat
  | 0 => 9
  | 1 => 81
  | n + 2 => 2 * (Bn (n + 1) * Bn (n + 1))
theorem bn_ok : ∀ p, p ≤ 3 → Bn p * Bn p ≤ 2305843009213693952 := by decide +kernel
theorem bn_pos : ∀ p, p ≤ 3 → 1 ≤ Bn p := by decide +kernel
def fn (r : List Int) : Nat → Int := fun j => r.getD j 0
def Sp (M : List (List Int)) (v : Nat → Int) : Prop := ∃ b, v = fn (lineAt M b)
structure Inv (s : Nat → Int) (M0 : List (List Int)) (n : Nat) (M : List (List Int)) (Q : List Nat) : Prop where
  len : M.length = M0.length
  six : Six M
  ql : Q.length ≤ M.length
  inc : Q.Pairwise (· < ·)
  lt : ∀ q ∈ Q, q < n
  piv : ∀ a c : Nat, Q[a]? = some c → (lineAt M a).getD c 0 ≠ 0
  zer : ∀ a c : Nat, Q[a]? = some c → ∀ b, b ≠ a → (lineAt M b).getD c 0 = 0
  low : ∀ b, Q.length ≤ b → ∀ c, c < n → (lineAt M b).getD c 0 = 0
  bd : ∀ b j, ((lineAt M b).getD j 0).natAbs ≤ Bn Q.length
  sg : Q.length = 0 → ∀ b, Sgd s (lineAt M b)
  pr : ∀ b, (∀ j, ((lineAt M b).getD j 0).natAbs ≤ 9) ∨ gc (lineAt M b) ≤ 1
  g1 : ∀ b, Gen (Sp M0) (fn (lineAt M b))
  g2 : ∀ b, Gen (Sp M) (fn (lineAt M0 b))
theorem lineAt_drop (M : List (List Int)) (p k : Nat) : lineAt (M.drop p) k = lineAt M (p + k) := by
  unfold lineAt
  rw [List.getD_eq_getElem?_getD, List.getElem?_drop, List.getD_eq_getElem?_getD]
theorem app_at (Q : List Nat) (n a c : Nat) (h : (Q ++ [n])[a]? = some c) : (a < Q.length ∧ Q[a]? = some c) ∨ (a = Q.length ∧ c = n) := by
  by_cases ha : a < Q.length
  · rw [List.getElem?_append_left ha] at h
    exact .inl ⟨ha, h⟩
  · rw [List.getElem?_append_right (by omega)] at h
    by_cases h0 : a - Q.length = 0
    · rw [h0] at h
      exact .inr ⟨by omega, by simpa using h.symm⟩
    · rw [List.getElem?_eq_none (by simp; omega)] at h
      cases h
theorem bd_mem {r : List Int} {B : Nat} (h : ∀ j, (r.getD j 0).natAbs ≤ B) : ∀ a ∈ r, a.natAbs ≤ B := fun a ha => by
  obtain ⟨i, hi, rfl⟩ := List.mem_iff_getElem.1 ha
  have := h i
  rw [getD_some hi] at this
  exact this
theorem line6 {M : List (List Int)} (h : Six M) (k : Nat) (hk : k < M.length) : (lineAt M k).length = 6 := by
  rw [lineAt_eq M k hk]
  exact h _ (List.getElem_mem hk)
theorem gen_upd {S : (Nat → Int) → Prop} {r t u : List Int} {g p q : Int} (hg : g ≠ 0) (hj : ∀ j, p * r.getD j 0 + (-q) * t.getD j 0 = g * u.getD j 0) (hr : Gen S (fn r)) (ht : Gen S (fn t)) : Gen S (fn u) :=
  .quot g hg (.comb p (-q) hr ht) (fun j => hj j)
theorem gen_dn {S : (Nat → Int) → Prop} {r t u : List Int} {g p q : Int} (hp : p ≠ 0) (hj : ∀ j, p * r.getD j 0 + (-q) * t.getD j 0 = g * u.getD j 0) (hu : Gen S (fn u)) (ht : Gen S (fn t)) : Gen S (fn r) :=
  .quot p hp (.comb g q hu ht) (fun j => by
    have := hj j
    rw [Int.neg_mul] at this
    show g * u.getD j 0 + q * t.getD j 0 = p * r.getD j 0
    omega)
def Four (M0 : List (List Int)) : Prop := M0.length ≤ 4 ∨ ∀ b j, 4 ≤ j → (lineAt M0 b).getD j 0 = 0
theorem Inv.col {s : Nat → Int} {M0 : List (List Int)} {n : Nat} {M : List (List Int)} {Q : List Nat} (h : Inv s M0 n M Q) {j : Nat} (hj : ∀ b, (lineAt M0 b).getD j 0 = 0) (b : Nat) : (lineAt M b).getD j 0 = 0 :=
  gen_orth (fun v => v j) (fun a u b v => rfl) (fun v hv => by obtain ⟨b, rfl⟩ := hv; exact hj b) (h.g1 b)
theorem Inv.len_le {s : Nat → Int} {M0 : List (List Int)} {n : Nat} {M : List (List Int)} {Q : List Nat} (h : Inv s M0 n M Q) : Q.length ≤ n := nodup_le n Q (h.inc.imp (fun h => by omega)) h.lt
theorem step_inv {s : Nat → Int} (hs : ∀ j, s j = 1 ∨ s j = -1) {M0 : List (List Int)} (h4 : Four M0) {n : Nat} {M : List (List Int)} {Q : List Nat} (h : Inv s M0 n M Q) :
    ∃ M' Q', stepc n M (Q.map (fun x : Nat => (x : Int))) = some (M', Q'.map (fun x : Nat => (x : Int))) ∧ Inv s M0 (n + 1) M' Q' := by
  unfold stepc
  rw [List.length_map]
  by_cases c : fst n (M.drop Q.length) < 0
  · rw [if_pos c]
    refine ⟨M, Q, rfl, ⟨h.len, h.six, h.ql, h.inc, fun q hq => Nat.lt_succ_of_lt (h.lt q hq), h.piv, h.zer, fun b hb x hx => ?_, h.bd, h.sg, h.pr, h.g1, h.g2⟩⟩
    by_cases hx2 : x < n
    · exact h.low b hb x hx2
    · have := fst_neg n _ c (b - Q.length)
      rw [lineAt_drop, show Q.length + (b - Q.length) = b by omega] at this
      rw [show x = n by omega]
      exact this
  · rw [if_neg c]
    have hq := fst_pos n _ c
    have hlt := fst_lt n (M.drop Q.length)
    rw [List.length_drop] at hlt
    rw [lineAt_drop] at hq
    generalize (fst n (M.drop Q.length)).toNat = q at *
    have hpq : Q.length + q < M.length := by
      by_cases hh : Q.length + q < M.length
      · exact hh
      · rw [lineAt_none M _ (by omega)] at hq
        exact absurd (getD_none (by simp)) hq
    clear hlt c
    have hm := h.len
    have hk1 : ∀ k, lineAt (swp M Q.length (Q.length + q)) k = if k = Q.length + q then lineAt M Q.length else if k = Q.length then lineAt M (Q.length + q) else lineAt M k := fun k => by
      unfold swp
      rw [lineAt_set _ _ _ k (by rw [List.length_set]; exact hpq), lineAt_set _ _ _ k (by omega)]
    have htop : lineAt (swp M Q.length (Q.length + q)) Q.length = lineAt M (Q.length + q) := by
      rw [hk1]
      by_cases h0 : Q.length = Q.length + q
      · rw [if_pos h0, ← h0]
      · rw [if_neg h0, if_pos rfl]
    have hrow : ∀ k, k < M.length → k ≠ Q.length → ∃ k', k' < M.length ∧ lineAt (swp M Q.length (Q.length + q)) k = lineAt M k' ∧ (k < Q.length → k' = k) ∧ (Q.length ≤ k → Q.length ≤ k') ∧ (∀ a, a < Q.length → k ≠ a → k' ≠ a) := fun k hk hkp => by
      rw [hk1]
      by_cases h0 : k = Q.length + q
      · rw [if_pos h0]
        exact ⟨Q.length, by omega, rfl, by omega, by omega, by omega⟩
      · rw [if_neg h0, if_neg hkp]
        exact ⟨k, hk, rfl, fun _ => rfl, fun x => x, fun a _ x => x⟩
    have hQ3 : Q.length ≤ 3 := by
      rcases h4 with h4 | h4
      · omega
      · by_cases c : 4 ≤ n
        · exact absurd (h.col (fun b => h4 b n c) _) hq
        · have := h.len_le
          omega
    have hB := bn_ok Q.length (by omega)
    have hB1 := bn_pos Q.length (by omega)
    have ht6 := line6 h.six _ hpq
    obtain ⟨M', e, l, hk⟩ := elims_spec n Q.length M.length 0 (swp M Q.length (Q.length + q)) (by rw [swp_length]; omega) (fun k _ h2 h3 _ => by
      obtain ⟨k', _, hk', _⟩ := hrow k (by omega) h3
      rw [htop, hk']
      constructor
      · intro a ha
        have := nmul (bd_mem (h.bd k') a ha) (h.bd (Q.length + q) n)
        omega
      · intro a ha
        have := nmul (bd_mem (h.bd (Q.length + q)) a ha) (h.bd k' n)
        omega)
    rw [swp_length] at l
    have hp' : lineAt M' Q.length = lineAt M (Q.length + q) := by rw [hk, if_neg (by omega), htop]
    have hn' : ∀ k, M.length ≤ k → lineAt M' k = [] := fun k hk' => lineAt_none _ _ (by omega)
    have hu' : ∀ k, k < M.length → k ≠ Q.length → lineAt M' k = upd n (lineAt M (Q.length + q)) (lineAt (swp M Q.length (Q.length + q)) k) := fun k h1 h2 => by rw [hk, if_pos (by omega), htop]
    refine ⟨M', Q ++ [n], by rw [e, List.map_append]; rfl, ?_⟩
    have tz : ∀ a x : Nat, Q[a]? = some x → (lineAt M (Q.length + q)).getD x 0 = 0 := fun a x hx => by
      obtain ⟨ha, -⟩ := List.getElem?_eq_some_iff.1 hx
      exact h.zer a x hx _ (by omega)
    -- of each other line: what it comes of
    have key : ∀ k, k < M.length → k ≠ Q.length → ∃ k', k' < M.length ∧ (k < Q.length → k' = k) ∧ (Q.length ≤ k → Q.length ≤ k') ∧ (∀ a, a < Q.length → k ≠ a → k' ≠ a) ∧ lineAt (swp M Q.length (Q.length + q)) k = lineAt M k' ∧ lineAt M' k = upd n (lineAt M (Q.length + q)) (lineAt M k') ∧ ∃ g p r : Int, g ≠ 0 ∧ p ≠ 0 ∧ (∀ j, p * (lineAt M k').getD j 0 + (-r) * (lineAt M (Q.length + q)).getD j 0 = g * (lineAt M' k).getD j 0) ∧ (lineAt M' k).getD n 0 = 0 := fun k h1 h2 => by
      obtain ⟨k', a1, a2, a3, a4, a5⟩ := hrow k h1 h2
      have hu := hu' k h1 h2
      rw [a2] at hu
      obtain ⟨g, p, r, b1, b2, b3, b4⟩ := upd_spec n (t := lineAt M (Q.length + q)) (r := lineAt M k') (by rw [ht6, line6 h.six _ a1]) hq
      rw [← hu] at b3 b4
      exact ⟨k', a1, a3, a4, a5, a2, hu, g, p, r, b1, b2, b3, b4⟩
    have hz0 : ∀ {g y : Int}, g ≠ 0 → 0 = g * y → y = 0 := fun hg hy => by
      rcases Int.mul_eq_zero.1 hy.symm with h2 | h2
      · exact absurd h2 hg
      · exact h2
    have lenQ : (Q ++ [n]).length = Q.length + 1 := by simp
    refine ⟨by omega, ?_, by rw [lenQ]; omega, ?_, ?_, ?_, ?_, ?_, ?_, by rw [lenQ]; omega, ?_, ?_, ?_⟩
    · intro r hr
      obtain ⟨k, hkl, rfl⟩ := List.mem_iff_getElem.1 hr
      rw [← lineAt_eq M' k hkl]
      by_cases hkp : k = Q.length
      · rw [hkp, hp', ht6]
      · obtain ⟨k', a1, -, -, -, -, a6, -⟩ := key k (by omega) hkp
        rw [a6, upd_length _ (by rw [ht6, line6 h.six _ a1]), line6 h.six _ a1]
    · rw [List.pairwise_append]
      exact ⟨h.inc, by simp, fun a ha b hb => by rw [List.mem_singleton.1 hb]; exact h.lt a ha⟩
    · intro x hx
      rcases List.mem_append.1 hx with hx | hx
      · exact Nat.lt_succ_of_lt (h.lt x hx)
      · rw [List.mem_singleton.1 hx]
        omega
    · intro a x hx
      rcases app_at _ _ _ _ hx with ⟨ha, hx⟩ | ⟨rfl, rfl⟩
      · obtain ⟨k', a1, a3, a4, a5, a2, a6, g, p, r, b1, b2, b3, b4⟩ := key a (by omega) (by omega)
        intro h0
        have := b3 x
        rw [tz a x hx, h0, Int.mul_zero, Int.mul_zero, Int.add_zero, a3 ha] at this
        exact h.piv a x hx (hz0 b2 this.symm)
      · rw [hp']
        exact hq
    · intro a x hx b hb
      by_cases hbl : b < M.length
      · rcases app_at _ _ _ _ hx with ⟨ha, hx⟩ | ⟨rfl, rfl⟩
        · by_cases hbp : b = Q.length
          · rw [hbp, hp']
            exact tz a x hx
          · obtain ⟨k', a1, a3, a4, a5, a2, a6, g, p, r, b1, b2, b3, b4⟩ := key b hbl hbp
            have := b3 x
            rw [tz a x hx, h.zer a x hx k' (a5 a ha hb), Int.mul_zero, Int.mul_zero, Int.add_zero] at this
            exact hz0 b1 this
        · obtain ⟨k', a1, a3, a4, a5, a2, a6, g, p, r, b1, b2, b3, b4⟩ := key b hbl hb
          exact b4
      · rw [hn' b (by omega)]
        exact getD_none (by simp)
    · intro b hb x hx
      rw [lenQ] at hb
      by_cases hbl : b < M.length
      · obtain ⟨k', a1, a3, a4, a5, a2, a6, g, p, r, b1, b2, b3, b4⟩ := key b hbl (by omega)
        by_cases hxn : x < n
        · have := b3 x
          rw [h.low k' (a4 (by omega)) x hxn, h.low _ (by omega) x hxn, Int.mul_zero, Int.mul_zero, Int.add_zero] at this
          exact hz0 b1 this
        · rw [show x = n by omega]
          exact b4
      · rw [hn' b (by omega)]
        exact getD_none (by simp)
    · intro b j
      rw [lenQ]
      have hmono : Bn Q.length ≤ Bn (Q.length + 1) := by
        cases hQ : Q.length with
        | zero => decide
        | succ p =>
          have hb0 := bn_pos (p + 1) (by omega)
          have : Bn (p + 1) ≤ Bn (p + 1) * Bn (p + 1) := Nat.le_mul_of_pos_left _ hb0
          show Bn (p + 1) ≤ 2 * (Bn (p + 1) * Bn (p + 1))
          omega
      by_cases hbl : b < M.length
      · by_cases hbp : b = Q.length
        · rw [hbp, hp']
          exact Nat.le_trans (h.bd _ _) hmono
        · obtain ⟨k', a1, a3, a4, a5, a2, a6, -⟩ := key b hbl hbp
          rw [a6]
          have hl : (lineAt M k').length = (lineAt M (Q.length + q)).length := by rw [ht6, line6 h.six _ a1]
          cases hQ : Q.length with
          | zero =>
            have h1 := h.bd k'
            have h2 := h.bd (Q.length + q)
            have hb9 : Bn Q.length = 9 := by rw [hQ]; rfl
            rw [hb9] at h1 h2
            have := upd_bd1 n hl 9 h1 h2 (by omega) s hs (h.sg hQ k') (h.sg hQ _) j
            rw [hQ] at this
            exact this
          | succ p =>
            have h1 := h.bd k'
            have h2 := h.bd (Q.length + q)
            have := upd_bd n hl (Bn Q.length) h1 h2 hB1 j
            rw [hQ] at this
            exact this
      · rw [hn' b (by omega)]
        simp
    · intro b
      by_cases hbl : b < M.length
      · by_cases hbp : b = Q.length
        · rw [hbp, hp']
          exact h.pr _
        · obtain ⟨k', a1, a3, a4, a5, a2, a6, -⟩ := key b hbl hbp
          rw [a6]
          unfold upd
          split
          · exact h.pr _
          · exact .inr (gc_pln _)
      · rw [hn' b (by omega)]
        exact .inl (by simp)
    · intro b
      by_cases hbl : b < M.length
      · by_cases hbp : b = Q.length
        · rw [hbp, hp']
          exact h.g1 _
        · obtain ⟨k', a1, a3, a4, a5, a2, a6, g, p, r, b1, b2, b3, b4⟩ := key b hbl hbp
          exact gen_upd b1 b3 (h.g1 k') (h.g1 _)
      · rw [hn' b (by omega)]
        exact .zero
    · intro b
      refine gen_trans (fun v hv => ?_) (h.g2 b)
      obtain ⟨k, rfl⟩ := hv
      have ht : Gen (Sp M') (fn (lineAt M (Q.length + q))) := .base ⟨Q.length, by rw [hp']⟩
      have hk2 : ∀ k, k < M.length → k ≠ Q.length → Gen (Sp M') (fn (lineAt (swp M Q.length (Q.length + q)) k)) := fun k hkl hkp => by
        obtain ⟨k', a1, a3, a4, a5, a2, a6, g, p, r, b1, b2, b3, b4⟩ := key k hkl hkp
        rw [a2]
        exact gen_dn b2 b3 (.base ⟨k, rfl⟩) ht
      by_cases hkl : k < M.length
      · by_cases e1 : k = Q.length + q
        · rw [e1]
          exact ht
        · by_cases e2 : k = Q.length
          · have := hk2 (Q.length + q) hpq (by omega)
            rw [hk1, if_pos rfl] at this
            rw [e2]
            exact this
          · have := hk2 k hkl e2
            rw [hk1, if_neg e1, if_neg e2] at this
            exact this
      · rw [lineAt_none M k (by omega)]
        exact .zero
theorem redc_inv {s : Nat → Int} (hs : ∀ j, s j = 1 ∨ s j = -1) {M0 : List (List Int)} (h4 : Four M0) : ∀ (d n : Nat) (M : List (List Int)) (Q : List Nat), Inv s M0 n M Q →
    ∃ M' Q', redc d n M (Q.map (fun x : Nat => (x : Int))) = some (M', Q'.map (fun x : Nat => (x : Int))) ∧ Inv s M0 (n + d) M' Q'
  | 0, n, M, Q, h => ⟨M, Q, rfl, h⟩
  | d + 1, n, M, Q, h => by
    obtain ⟨M1, Q1, e1, h1⟩ := step_inv hs h4 h
    obtain ⟨M2, Q2, e2, h2⟩ := redc_inv hs h4 d (n + 1) M1 Q1 h1
    refine ⟨M2, Q2, ?_, by rw [show n + (d + 1) = n + 1 + d by omega]; exact h2⟩
    rw [redc, e1]
    exact e2
theorem red_inv {s : Nat → Int} (hs : ∀ j, s j = 1 ∨ s j = -1) {M0 : List (List Int)} (h4 : Four M0) (h6 : Six M0) (hb : ∀ b j, ((lineAt M0 b).getD j 0).natAbs ≤ 9) (hg : ∀ b, Sgd s (lineAt M0 b)) :
    ∃ M Q, red M0 = some (M, Q.map (fun x : Nat => (x : Int))) ∧ Inv s M0 6 M Q := by
  have := redc_inv hs h4 6 0 M0 [] ⟨rfl, h6, by simp, by simp, by simp, by simp, by simp, by simp, hb, fun _ => hg, fun b => .inl (hb b), fun b => .base ⟨b, rfl⟩, fun b => .base ⟨b, rfl⟩⟩
  exact this
end Go.Proofs.Ytdneelgnmnpanaa.P
end
section
namespace Go.Proofs.Ytdneelgnmnpanaa.P
open Go.RowKit Go.Proofs.YtdneelgnmnpanaaW.PrintWords Go.Proofs.Det
set_option linter.unusedVariables false
set_option linter.unusedSimpArgs false
variable {K : Type}
theorem van_more {r : Nat} {S : (K → Int) → Prop} (h : Van r S) : ∀ d, Van (r + d) S
  | 0 => h
  | d + 1 => van_up (van_more h d)
theorem perm_zero {n : Nat} {f : List (K → Int) → Int} (hl : Lin n f) (ha : Alt n f) {l1 l2 : List (K → Int)} (hp : l1.Perm l2) : ∀ p, p.length + l1.length = n → (f (p ++ l1) = 0 ↔ f (p ++ l2) = 0) := by
  induction hp with
  | nil => exact fun p _ => Iff.rfl
  | cons x hp ih =>
    intro p e
    have := ih (p ++ [x]) (by simp at e ⊢; omega)
    simpa using this
  | swap x y l =>
    intro p e
    rw [swap hl ha p l y x (by simpa [Nat.add_assoc] using e)]
    omega
  | trans h1 h2 i1 i2 =>
    intro p e
    rw [i1 p e, i2 p (by rw [← h1.length_eq]; exact e)]
theorem sp_list (M : List (List Int)) : ∀ (I : List (Nat → Int)), (∀ v ∈ I, Sp M v) → ∃ l : List Nat, I = l.map fun b => fn (lineAt M b)
  | [], _ => ⟨[], rfl⟩
  | v :: I, h => by
    obtain ⟨b, rfl⟩ := h v (List.mem_cons_self ..)
    obtain ⟨l, rfl⟩ := sp_list M I (fun u hu => h u (List.mem_cons_of_mem _ hu))
    exact ⟨b :: l, rfl⟩
theorem lt_of_sorted : ∀ (l : List Nat), l.Pairwise (· ≤ ·) → l.Nodup → l.Pairwise (· < ·)
  | [], _, _ => .nil
  | a :: l, h, hn => by
    rw [List.pairwise_cons] at h ⊢
    rw [List.nodup_cons] at hn
    exact ⟨fun b hb => Nat.lt_of_le_of_ne (h.1 b hb) (fun e => hn.1 (e ▸ hb)), lt_of_sorted l h.2 hn.2⟩
theorem sorted_minor {J : List Nat} {M : List (List Int)} {I : List (Nat → Int)} (hI : I.length = J.length) (hS : ∀ v ∈ I, Sp M v) (hd : det J I ≠ 0) :
    ∃ l : List Nat, l.Pairwise (· < ·) ∧ (∀ b ∈ l, b < M.length) ∧ l.length = J.length ∧ det J (l.map fun b => fn (lineAt M b)) ≠ 0 := by
  obtain ⟨l, rfl⟩ := sp_list M I hS
  have hlen : l.length = J.length := by simpa using hI
  have hb : ∀ b ∈ l, b < M.length := fun b hb => by
    by_cases c : b < M.length
    · exact c
    · exfalso
      obtain ⟨p, q, rfl⟩ := List.append_of_mem hb
      apply hd
      rw [List.map_append, List.map_cons, lineAt_none M b (by omega)]
      refine zero_row (det_lin J) _ _ ?_
      simp at hlen ⊢
      omega
  have hn : l.Nodup := by
    by_cases c : l.Nodup
    · exact c
    · exfalso
      obtain ⟨p, a, q, s, rfl⟩ := split_of_not_nodup l c
      apply hd
      rw [List.map_append, List.map_cons, List.map_append, List.map_cons]
      refine equal_rows (det_lin J) (det_alt J) _ _ _ _ ?_
      simp at hlen ⊢
      omega
  have hp : (l.mergeSort (fun a b => decide (a ≤ b))).Perm l := List.mergeSort_perm l _
  have hso : (l.mergeSort (fun a b => decide (a ≤ b))).Pairwise (· ≤ ·) := by
    have := List.pairwise_mergeSort (le := fun a b : Nat => decide (a ≤ b)) (fun a b c h1 h2 => by simp at h1 h2 ⊢; omega) (fun a b => by simp; omega) l
    exact this.imp (fun h => by simpa using h)
  refine ⟨_, lt_of_sorted _ hso (hp.nodup_iff.2 hn), fun b hbm => hb b (hp.mem_iff.1 hbm), by rw [hp.length_eq, hlen], fun h0 => hd ?_⟩
  have := perm_zero (det_lin J) (det_alt J) (hp.map (fun b => fn (lineAt M b))) [] (by simp [hlen])
  exact this.1 h0
theorem drop_cons_of {Q : List Nat} {a c : Nat} (h : Q[a]? = some c) : Q.drop a = c :: Q.drop (a + 1) := by
  obtain ⟨ha, rfl⟩ := List.getElem?_eq_some_iff.1 h
  exact List.drop_eq_getElem_cons ha
theorem inv_steps {s : Nat → Int} {M0 M : List (List Int)} {n : Nat} {Q : List Nat} (h : Inv s M0 n M Q) : ∀ (d a : Nat), a + d = Q.length → Det.Steps (Q.drop a) ((List.range' a d).map fun k => fn (lineAt M k))
  | 0, a, e => by
    rw [List.drop_eq_nil_of_le (by omega)]
    exact True.intro
  | d + 1, a, e => by
    have hq : Q[a]? = some Q[a] := List.getElem?_eq_getElem (by omega)
    rw [drop_cons_of hq, List.range'_succ, List.map_cons]
    refine ⟨h.piv a _ hq, fun u hu => ?_, inv_steps h d (a + 1) (by omega)⟩
    obtain ⟨k, hk, rfl⟩ := List.mem_map.1 hu
    exact h.zer a _ hq k (by rw [List.mem_range'_1] at hk; omega)
theorem inv_minor {s : Nat → Int} {M0 M : List (List Int)} {n : Nat} {Q : List Nat} (h : Inv s M0 n M Q) :
    ∃ l : List Nat, l.Pairwise (· < ·) ∧ (∀ b ∈ l, b < M0.length) ∧ l.length = Q.length ∧ det Q (l.map fun b => fn (lineAt M0 b)) ≠ 0 := by
  have h1 : det Q ((List.range' 0 Q.length).map fun k => fn (lineAt M k)) ≠ 0 := steps_det _ _ (by
    have := inv_steps h Q.length 0 (by omega)
    rwa [List.drop_zero] at this)
  by_cases hex : ∃ I : List (Nat → Int), I.length = Q.length ∧ (∀ v ∈ I, Sp M0 v) ∧ det Q I ≠ 0
  · obtain ⟨I, a, b, c⟩ := hex
    exact sorted_minor a b c
  · exfalso
    have hz : ∀ I : List (Nat → Int), I.length = Q.length → (∀ v ∈ I, Sp M0 v) → det Q I = 0 := fun I a b => by
      by_cases c : det Q I = 0
      · exact c
      · exact absurd ⟨I, a, b, c⟩ hex
    have := gen_vanish (det_lin Q) hz ((List.range' 0 Q.length).map fun k => fn (lineAt M k)) [] (by simp) (fun v hv => by
      obtain ⟨k, -, rfl⟩ := List.mem_map.1 hv
      exact h.g1 k) (by simp)
    rw [List.append_nil] at this
    exact h1 this
theorem inv_van {s : Nat → Int} {M0 M : List (List Int)} {Q : List Nat} (h : Inv s M0 6 M Q) (d : Nat) : Van (Q.length + 1 + d) (Sp M0) := by
  refine van_more ?_ d
  have hR := van_short ((List.range Q.length).map fun k => fn (lineAt M k))
  rw [List.length_map, List.length_range] at hR
  refine van_gen hR (fun v hv => ?_)
  obtain ⟨b, rfl⟩ := hv
  refine gen_trans (fun u hu => ?_) (h.g2 b)
  obtain ⟨k, rfl⟩ := hu
  by_cases hk : k < Q.length
  · exact .base (List.mem_map.2 ⟨k, List.mem_range.2 hk, rfl⟩)
  · have hz : fn (lineAt M k) = fun _ => 0 := by
      funext j
      by_cases hj : j < 6
      · exact h.low k (by omega) j hj
      · by_cases hkl : k < M.length
        · exact getD_none (by rw [line6 h.six k hkl]; omega)
        · rw [lineAt_none M k (by omega)]
          exact getD_none (by simp)
    rw [hz]
    exact .zero
end Go.Proofs.Ytdneelgnmnpanaa.P
end
section
namespace Go.Proofs.Ytdneelgnmnpanaa.P
open Go.RowKit Go.Proofs.YtdneelgnmnpanaaW.PrintWords Go.Proofs.YtdneelgnmnpanaaW.PrintLast Go.Proofs.YtdneelgnmnpanaaW.PrintMore
attribute [local go_sem] max2_int min2_int max_two min_two max_three min_three max_four min_four   -- for this text's walks alone
set_option linter.unusedVariables false
set_option linter.unusedSimpArgs false
mutual
def verditerref04_determinant.l0 : Nat → List (List Int) → List Int → Int → Int → Int → Option (Int)
 | 0, _, _, _, _, _ => none
 | k + 1, x0, x1, x5, x6, x7 => if x7 < (x1.length : Int) then ((some (([] : List Int) : List Int)).bind fun y101 => (if 0 ≤ x7 then (if x7 ≤ (x1.length : Int) then (if y101.length + (x1.take (x7 : Int).toNat).length < 17592186044416 then ((some (y101 ++ (x1.take (x7 : Int).toNat) : List Int)).bind fun y105 => (if 0 ≤ (wrap64 (x7 + 1)) then (if (wrap64 (x7 + 1)) ≤ (x1.length : Int) then (if y105.length + (x1.drop ((wrap64 (x7 + 1)) : Int).toNat).length < 17592186044416 then (if 0 < (x0.length : Int) then (if 0 ≤ (rd x1 x7) then (if (rd x1 x7) < ((rd_L1 x0 0).length : Int) then (if 1 ≤ (x0.length : Int) then ((verditerref04_determinant.f k (x0.drop 1) (y105 ++ (x1.drop ((wrap64 (x7 + 1)) : Int).toNat))).bind fun t119 => (verditerref04_determinant.l0 k x0 x1 (wrap64 (x5 + (wrap64 ((wrap64 (x6 * (rd (rd_L1 x0 0) (rd x1 x7)))) * t119)))) (wrap64 (-x6)) (wrap64 (x7 + 1)))) else (none)) else (none)) else (none)) else (none)) else (none)) else (none)) else (none))) else (none)) else (none)) else (none))) else (some x5)
def verditerref04_determinant.f : Nat → List (List Int) → List Int → Option (Int)
 | 0, _, _ => none
 | k + 1, l0, l1 => if (l1.length : Int) = 0 then (some 1) else (verditerref04_determinant.l0 k l0 l1 0 1 0)
end
def verditerref04_determinant.T7 : Bool × List (List Nat × List Nat) := (true, [([], []), ([], []), ([], []), ([1, 2], [1, 2]), ([0, 3], [0, 3]), ([], []), ([], []), ([6], [6]), ([5, 7], [5, 7]), ([4, 8, 4], [4, 8]), ([9, 9, 0, 1, 2, 3, 4, 5, 6, 7, 8, 9], [9])])
def verditerref04_determinant.B7 : List Nat := [0, 0, 0, 6, 15, 0, 0, 64, 224, 511, 1023]
theorem verditerref04_determinant.tab7 : rtab .any (opsOf Try.f124 7) = verditerref04_determinant.T7 := by kernel_rfl
theorem verditerref04_determinant.bits7 : waitsOk verditerref04_determinant.T7.2 verditerref04_determinant.B7 = true := by kernel_rfl
def verditerref04_determinant.T8 : Bool × List (List Nat × List Nat) := (true, [([], []), ([], []), ([], []), ([2], [2]), ([3], [3]), ([], []), ([], []), ([5, 6], [5, 6]), ([7], [7]), ([4, 8], [4, 8]), ([9], [9]), ([1, 10], [1, 10]), ([], []), ([12], [12]), ([], []), ([13, 14], [13, 14]), ([11, 15], [11, 15]), ([0, 16], [0, 16]), ([17, 15, 0, 1, 2, 3, 4, 5, 6, 7, 8, 9, 10, 11, 12, 13, 14, 15, 16, 17], [0, 17])])
def verditerref04_determinant.B8 : List Nat := [0, 0, 0, 4, 12, 0, 0, 96, 224, 508, 1020, 2046, 0, 4096, 0, 28672, 65534, 131071, 262143]
theorem verditerref04_determinant.tab8 : rtab .any (opsOf Try.f124 8) = verditerref04_determinant.T8 := by kernel_rfl
theorem verditerref04_determinant.bits8 : waitsOk verditerref04_determinant.T8.2 verditerref04_determinant.B8 = true := by kernel_rfl
set_option maxHeartbeats 8000000 in
set_option maxRecDepth 100000 in
theorem verditerref04_determinant.calls (k : Nat) : ∀ (A0 : Option Addr) (c0 : Nat) (l0 : List (List Int)) (A1 : Option Addr) (c1 : Nat) (l1 : List Int) (r : Int) (w : World) (hr0 : Kd.C (Kd.slice 3 (Kd.int .i64)) w A0 l0.length l0) (hc0 : l0.length ≤ c0) (hr1 : Kd.C (Kd.int .i64) w A1 l1.length l1) (hc1 : l1.length ≤ c1) (h : verditerref04_determinant.f k l0 l1 = some r),
  Calls Try.prog 124 #[.slice A0 l0.length c0, .slice A1 l1.length c1] w fun e w' => e = .returned (.int .i64 r) ∧ Below w.heap.size w w' := by
 induction k using Nat.strongRecOn with
 | _ k ih =>
 intro A0 c0 l0 A1 c1 l1 r w hr0 hc0 hr1 hc1 h
 cases k with
 | zero => exact absurd h (by simp [verditerref04_determinant.f])
 | succ k =>
 simp only [verditerref04_determinant.f] at h
 have HR0 := Aside0.mk hr0
 have HC0 := Aside0.mk hc0
 clear hr0 hc0
 have HR1 := Aside0.mk hr1
 have HC1 := Aside0.mk hc1
 clear hr1 hc1
 have HB := Aside0.mk (Below.refl w.heap.size w)
 have H : (if (l1.length : Int) = 0 then (some 1) else (verditerref04_determinant.l0 k l0 l1 0 1 0)) = some r := h
 clear h
 by_cases c3 : (l1.length : Int) = 0
 ·
  rw [if_pos c3] at H
  have c3b0 : ((l1.length : Int) == 0) = true := beq_iff_eq.mpr c3
  have c3b1 : ((l1.length : Int) != 0) = false := bne_eq_false_iff_eq.mpr c3
  clear c3
  obtain rfl := Option.some.inj H
  go_enter Try.func124, Try.ntmps124
  go_wp2
  go_ret
  exact ⟨by first | rfl | (simp [errW_none, errW_some] <;> rfl) | (simp [*, errW_none, errW_some] <;> rfl), bB⟩
 ·
  rw [if_neg c3] at H
  have c3b0 : ((l1.length : Int) == 0) = false := beq_eq_false_iff_ne.mpr c3
  have c3b1 : ((l1.length : Int) != 0) = true := bne_iff_ne.mpr c3
  have c3b2 : ¬ (l1 = []) := fun h_ => c3 (by rw [h_]; rfl)
  have H' := Aside0.mk H
  clear H
  go_enter Try.func124, Try.ntmps124
  go_wp2
  go_loopg [5, 6, 7] k (fun kq v5 v6 v7 w' => ∃ (x5_1 : Int) (x6_1 : Int) (x7_1 : Int), v5 = .int .i64 x5_1 ∧ v6 = .int .i64 x6_1 ∧ v7 = .int .i64 x7_1 ∧ Aside0 (verditerref04_determinant.l0 kq l0 l1 x5_1 x6_1 x7_1 = some r) ∧ Aside0 (kq ≤ k) ∧ Aside0 (Below w.heap.size w w'))
  case atStart => exact ⟨(0), (1), (0), (by first | rfl | (simp; done) | (simp [*]; done)), (by first | rfl | (simp; done) | (simp [*]; done)), (by first | rfl | (simp; done) | (simp [*]; done)), H', ⟨Nat.le_refl _⟩, ⟨bB⟩⟩
  case round =>
   clear H'
   try clear c1
   try clear p2
   try clear c3
   try clear c3b0
   try clear c3b1
   try clear c3b2
   obtain ⟨x5_1, x6_1, x7_1, rfl, rfl, rfl, HA, HK1, HB⟩ := hrel
   cases gk with
   | zero => exact absurd HA.out (by simp [verditerref04_determinant.l0])
   | succ k1 =>
    have H := HA.out
    clear HA
    simp only [verditerref04_determinant.l0] at H
    by_cases c4 : x7_1 < (l1.length : Int)
    ·
     rw [if_pos c4] at H
     have c4b0 : decide (x7_1 < (l1.length : Int)) = true := decide_eq_true c4
     clear c4
     obtain ⟨y101, hy101⟩ : ∃ y_ : List Int, y_ = (([] : List Int)) := ⟨_, rfl⟩
     replace H : (if 0 ≤ x7_1 then (if x7_1 ≤ (l1.length : Int) then (if y101.length + (l1.take (x7_1 : Int).toNat).length < 17592186044416 then ((some (y101 ++ (l1.take (x7_1 : Int).toNat) : List Int)).bind fun y105 => (if 0 ≤ (wrap64 (x7_1 + 1)) then (if (wrap64 (x7_1 + 1)) ≤ (l1.length : Int) then (if y105.length + (l1.drop ((wrap64 (x7_1 + 1)) : Int).toNat).length < 17592186044416 then (if 0 < (l0.length : Int) then (if 0 ≤ (rd l1 x7_1) then (if (rd l1 x7_1) < ((rd_L1 l0 0).length : Int) then (if 1 ≤ (l0.length : Int) then ((verditerref04_determinant.f k1 (l0.drop 1) (y105 ++ (l1.drop ((wrap64 (x7_1 + 1)) : Int).toNat))).bind fun t119 => (verditerref04_determinant.l0 k1 l0 l1 (wrap64 (x5_1 + (wrap64 ((wrap64 (x6_1 * (rd (rd_L1 l0 0) (rd l1 x7_1)))) * t119)))) (wrap64 (-x6_1)) (wrap64 (x7_1 + 1)))) else (none)) else (none)) else (none)) else (none)) else (none)) else (none)) else (none))) else (none)) else (none)) else (none)) = some r := by first | (rw [hy101]; with_reducible exact H) | (have H2_ := (Option.bind_some _ _).symm.trans H; rw [hy101]; with_reducible exact H2_) | (have H2_ := (Option.bind_some _ _).symm.trans H; with_reducible exact H2_) | with_reducible exact H | (rw [hy101]; exact H) | exact H
     have Ny101 := Aside0.mk hy101
     clear hy101
     by_cases c5 : 0 ≤ x7_1
     ·
      rw [if_pos c5] at H
      have c5b0 := eq_true c5
      have c5b1 : decide (0 ≤ x7_1) = true := decide_eq_true c5
      clear c5
      by_cases c6 : x7_1 ≤ (l1.length : Int)
      ·
       rw [if_pos c6] at H
       have c6b0 := eq_true c6
       have c6b1 : decide (x7_1 ≤ (l1.length : Int)) = true := decide_eq_true c6
       clear c6
       by_cases c7 : y101.length + (l1.take (x7_1 : Int).toNat).length < 17592186044416
       ·
        rw [if_pos c7] at H
        have LMc7 := Aside0.mk c7
        clear c7
        obtain ⟨y105, hy105⟩ : ∃ y_ : List Int, y_ = (y101 ++ (l1.take (x7_1 : Int).toNat)) := ⟨_, rfl⟩
        replace H : (if 0 ≤ (wrap64 (x7_1 + 1)) then (if (wrap64 (x7_1 + 1)) ≤ (l1.length : Int) then (if y105.length + (l1.drop ((wrap64 (x7_1 + 1)) : Int).toNat).length < 17592186044416 then (if 0 < (l0.length : Int) then (if 0 ≤ (rd l1 x7_1) then (if (rd l1 x7_1) < ((rd_L1 l0 0).length : Int) then (if 1 ≤ (l0.length : Int) then ((verditerref04_determinant.f k1 (l0.drop 1) (y105 ++ (l1.drop ((wrap64 (x7_1 + 1)) : Int).toNat))).bind fun t119 => (verditerref04_determinant.l0 k1 l0 l1 (wrap64 (x5_1 + (wrap64 ((wrap64 (x6_1 * (rd (rd_L1 l0 0) (rd l1 x7_1)))) * t119)))) (wrap64 (-x6_1)) (wrap64 (x7_1 + 1)))) else (none)) else (none)) else (none)) else (none)) else (none)) else (none)) else (none)) = some r := by first | (rw [hy105]; with_reducible exact H) | (have H2_ := (Option.bind_some _ _).symm.trans H; rw [hy105]; with_reducible exact H2_) | (have H2_ := (Option.bind_some _ _).symm.trans H; with_reducible exact H2_) | with_reducible exact H | (rw [hy105]; exact H) | exact H
        have Ny105 := Aside0.mk hy105
        clear hy105
        obtain ⟨ji8, hji8⟩ : ∃ j_ : Int, (wrap64 (x7_1 + 1)) = j_ := ⟨_, rfl⟩
        replace H : (if 0 ≤ (ji8) then (if (ji8) ≤ (l1.length : Int) then (if y105.length + (l1.drop ((ji8) : Int).toNat).length < 17592186044416 then (if 0 < (l0.length : Int) then (if 0 ≤ (rd l1 x7_1) then (if (rd l1 x7_1) < ((rd_L1 l0 0).length : Int) then (if 1 ≤ (l0.length : Int) then ((verditerref04_determinant.f k1 (l0.drop 1) (y105 ++ (l1.drop ((ji8) : Int).toNat))).bind fun t119 => (verditerref04_determinant.l0 k1 l0 l1 (wrap64 (x5_1 + (wrap64 ((wrap64 (x6_1 * (rd (rd_L1 l0 0) (rd l1 x7_1)))) * t119)))) (wrap64 (-x6_1)) ji8)) else (none)) else (none)) else (none)) else (none)) else (none)) else (none)) else (none)) = some r := by first | (rw [hji8] at H; exact H) | (simp only [hji8] at H ⊢; exact H)
        have hji8w : (IntKind.i64.wrap (x7_1 + 1)) = ji8 := (i64_w _).trans hji8
        by_cases c9 : 0 ≤ (ji8)
        ·
         rw [if_pos c9] at H
         have c9b0 := eq_true c9
         have c9b1 : decide (0 ≤ (ji8)) = true := decide_eq_true c9
         clear c9
         by_cases c10 : (ji8) ≤ (l1.length : Int)
         ·
          rw [if_pos c10] at H
          have c10b0 := eq_true c10
          have c10b1 : decide ((ji8) ≤ (l1.length : Int)) = true := decide_eq_true c10
          clear c10
          by_cases c11 : y105.length + (l1.drop ((ji8) : Int).toNat).length < 17592186044416
          ·
           rw [if_pos c11] at H
           have LMc11 := Aside0.mk c11
           clear c11
           obtain ⟨y109, hy109⟩ : ∃ y_ : List Int, y_ = (y105 ++ (l1.drop ((ji8) : Int).toNat)) := ⟨_, rfl⟩
           replace H : (if 0 < (l0.length : Int) then (if 0 ≤ (rd l1 x7_1) then (if (rd l1 x7_1) < ((rd_L1 l0 0).length : Int) then (if 1 ≤ (l0.length : Int) then ((verditerref04_determinant.f k1 (l0.drop 1) y109).bind fun t119 => (verditerref04_determinant.l0 k1 l0 l1 (wrap64 (x5_1 + (wrap64 ((wrap64 (x6_1 * (rd (rd_L1 l0 0) (rd l1 x7_1)))) * t119)))) (wrap64 (-x6_1)) ji8)) else (none)) else (none)) else (none)) else (none)) = some r := by first | (rw [hy109]; with_reducible exact H) | (have H2_ := (Option.bind_some _ _).symm.trans H; rw [hy109]; with_reducible exact H2_) | (have H2_ := (Option.bind_some _ _).symm.trans H; with_reducible exact H2_) | with_reducible exact H | (rw [hy109]; exact H) | exact H
           have Ny109 := Aside0.mk hy109
           clear hy109
           by_cases c12 : 0 < (l0.length : Int)
           ·
            rw [if_pos c12] at H
            have c12b0 : decide (0 < (l0.length : Int)) = true := decide_eq_true c12
            have c12b1 : decide (0 < l0.length) = true := decide_eq_true (by omega)
            clear c12
            by_cases c13 : 0 ≤ (rd l1 x7_1)
            ·
             rw [if_pos c13] at H
             have c13b0 : decide (0 ≤ (rd l1 x7_1)) = true := decide_eq_true c13
             clear c13
             by_cases c14 : (rd l1 x7_1) < ((rd_L1 l0 0).length : Int)
             ·
              rw [if_pos c14] at H
              have c14b0 : decide ((rd l1 x7_1) < ((rd_L1 l0 0).length : Int)) = true := decide_eq_true c14
              clear c14
              by_cases c15 : 1 ≤ (l0.length : Int)
              ·
               rw [if_pos c15] at H
               have c15b0 := eq_true c15
               have c15b1 : decide (1 ≤ (l0.length : Int)) = true := decide_eq_true c15
               clear c15
               obtain ⟨y115, hy115⟩ : ∃ y_ : List (List Int), y_ = (l0.drop 1) := ⟨_, rfl⟩
               replace H : ((verditerref04_determinant.f k1 y115 y109).bind fun t119 => (verditerref04_determinant.l0 k1 l0 l1 (wrap64 (x5_1 + (wrap64 ((wrap64 (x6_1 * (rd (rd_L1 l0 0) (rd l1 x7_1)))) * t119)))) (wrap64 (-x6_1)) ji8)) = some r := by first | (rw [hy115]; with_reducible exact H) | (have H2_ := (Option.bind_some _ _).symm.trans H; rw [hy115]; with_reducible exact H2_) | (have H2_ := (Option.bind_some _ _).symm.trans H; with_reducible exact H2_) | with_reducible exact H | (rw [hy115]; exact H) | exact H
               have Ny115 := Aside0.mk hy115
               clear hy115
               replace H := Option.bind_eq_some_iff.mp H
               obtain ⟨t119, A160, H⟩ := H
               replace H : (verditerref04_determinant.l0 k1 l0 l1 (wrap64 (x5_1 + (wrap64 ((wrap64 (x6_1 * (rd (rd_L1 l0 0) (rd l1 x7_1)))) * t119)))) (wrap64 (-x6_1)) ji8) = some r := H
               have A16 := Aside0.mk A160
               clear A160
               have H' := Aside0.mk H
               clear H
               try go_wp2
               have n0_ := Aside0.mk (below_drew1 HB.out)
               clear HB
               have HB := n0_
               clear n0_
               obtain ⟨i018, hi018, _, hsz18, _⟩ := info_parts info3
               obtain ⟨hcut18, hA18, hC18⟩ := print_take_of (P := Try.prog) (Value.int .i64) 0 28 3 .i64 Try.underlying28 hi018 hsz18 A1 c1 l1 x7_1 (of_decide_eq_true (by assumption)) (of_decide_eq_true (by assumption)) HC1.out
               have HR104 := Aside0.mk (Kd.C_of_reads (h1 := fun _ => rfl) (hA18 _ (Kd.reads_of_C HR1.out)))
               have HC104 := Aside0.mk hC18
               clear hA18 hC18 hi018 hsz18
               obtain ⟨i019, hi019, _, hsz19, _⟩ := info_parts info3
               obtain ⟨A19, hcut19, hA19, hC19⟩ := print_drop_of (P := Try.prog) (Value.int .i64) 0 28 3 .i64 Try.underlying28 hi019 hsz19 A1 c1 l1 (ji8) (of_decide_eq_true (by assumption)) (of_decide_eq_true (by assumption)) HC1.out
               have HR108 := Aside0.mk (Kd.C_of_reads (h1 := fun _ => rfl) (hA19 _ (Kd.reads_of_C HR1.out)))
               have HC108 := Aside0.mk hC19
               clear hA19 hC19 hi019 hsz19
               refine start_ (n := 11) (S := fun w' => True) (ds := []) #[false, false, false, false, false, false, false, false, false, false, false] (by kernel_rfl) rfl rfl trivial (fun hHeld => ?_); refine with_tabW verditerref04_determinant.tab7 verditerref04_determinant.bits7 (fun HT_ HW_ => ?_)
               generalize wr.drew = w17 at HB HR104 HR108 hHeld ⊢
               refine pure_ (i := 1) (N := some 19) (v := ?_) (a' := ?_) #[false, true, false, false, false, false, false, false, false, false, false] rfl rfl (any_of HT_.out (by kernel_rfl)) (fun _ _ _ h => h) (Or.inl ⟨by rfl, ?_⟩) ?_ ?_
               rotate_left
               ·
                intro w'
                go_simp
                with_reducible rfl
               rotate_left
               ·
                simp only [Act.put, List.setIfInBounds_toArray, List.set_cons_zero, List.set_cons_succ, i64_w, i32_w]
                rfl
               refine pure_ (i := 2) (N := some 20) (v := ?_) (a' := ?_) #[false, true, true, false, false, false, false, false, false, false, false] rfl rfl (any_of HT_.out (by kernel_rfl)) (fun _ _ _ h => h) (Or.inl ⟨by rfl, ?_⟩) ?_ ?_
               rotate_left
               ·
                intro w'
                go_simp
                with_reducible rfl
               rotate_left
               ·
                simp only [Act.put, List.setIfInBounds_toArray, List.set_cons_zero, List.set_cons_succ, i64_w, i32_w]
                rfl
               refine pure_ (i := 3) (N := some 21) (v := ?_) (a' := ?_) #[false, true, true, true, false, false, false, false, false, false, false] rfl rfl (any_of HT_.out (by kernel_rfl)) (fun _ _ _ h => h) (Or.inl ⟨by rfl, ?_⟩) ?_ ?_
               rotate_left
               ·
                intro w'
                go_simp
                with_reducible rfl
               rotate_left
               ·
                simp only [Act.put, List.setIfInBounds_toArray, List.set_cons_zero, List.set_cons_succ, i64_w, i32_w]
                rfl
               refine pure_ (i := 5) (N := some 23) (v := ?_) (a' := ?_) #[false, true, true, true, false, true, false, false, false, false, false] rfl rfl (any_of HT_.out (by kernel_rfl)) (fun _ _ _ h => h) (Or.inl ⟨by rfl, ?_⟩) ?_ ?_
               rotate_left
               ·
                intro w'
                go_simp
                with_reducible rfl
               rotate_left
               ·
                simp only [Act.put, List.setIfInBounds_toArray, List.set_cons_zero, List.set_cons_succ, i64_w, i32_w]
                rfl
               refine pure_ (i := 6) (N := some 24) (v := ?_) (a' := ?_) #[false, true, true, true, false, true, true, false, false, false, false] rfl rfl (any_of HT_.out (by kernel_rfl)) (fun _ _ _ h => h) (Or.inl ⟨by rfl, ?_⟩) ?_ ?_
               rotate_left
               ·
                intro w'
                go_simp
                with_reducible rfl
               rotate_left
               ·
                simp only [Act.put, List.setIfInBounds_toArray, List.set_cons_zero, List.set_cons_succ, i64_w, i32_w]
                rfl
               refine pure_ (i := 7) (N := some 25) (v := ?_) (a' := ?_) #[false, true, true, true, false, true, true, true, false, false, false] rfl rfl (any_of HT_.out (by kernel_rfl)) (fun _ _ _ h => h) (Or.inl ⟨by rfl, ?_⟩) ?_ ?_
               rotate_left
               ·
                intro w'
                go_simp
                with_reducible rfl
               rotate_left
               ·
                simp only [Act.put, List.setIfInBounds_toArray, List.set_cons_zero, List.set_cons_succ, i64_w, i32_w]
                rfl
               refine pure_ (i := 8) (N := some 26) (v := ?_) (a' := ?_) #[false, true, true, true, false, true, true, true, true, false, false] rfl rfl (any_of HT_.out (by kernel_rfl)) (fun _ _ _ h => h) (Or.inl ⟨by rfl, ?_⟩) ?_ ?_
               rotate_left
               ·
                intro w'
                go_simp
                with_reducible rfl
               rotate_left
               ·
                simp only [Act.put, List.setIfInBounds_toArray, List.set_cons_zero, List.set_cons_succ, i64_w, i32_w]
                rfl
               refine one_ (i := 0) (N := some 18) #[true, true, true, true, false, true, true, true, true, false, false] rfl rfl (one_of HT_.out (by kernel_rfl)) (by decide) (fun K hK => ?_)
               refine Kd.R_lit_step (Kd.int .i64) _ 3 ?hg (N := 18) ?hd (xs := ([] : List Int)) (inner := []) (ok := fun _ => True) (okp := fun _ => True) ?hr ?hp (fun _ hk => hk) trivial (Below.refl _ _) (Nat.le_refl _) (by simp) ?_; (case hd => rfl); (case hg => rfl); (case hr => first | (go_simp; done) | (go_simp; rfl)); (case hp => exact (Reps.none _ _))
               intro v102 w20 ho21 hb hg_ hnew_
               clear hg_ hnew_
               (first | rw [← Ny101.out] at ho21 | (simp only [Int.reduceToNat] at ho21; rw [← Ny101.out] at ho21))
               have n0_ := Aside0.mk (Kd.R_lower ho21 (below_size bB))
               have n1_ := Aside0.mk (below_step bB hb)
               clear HB
               have HO103 := n0_
               have HB := n1_
               clear n0_ n1_
               clear hb ho21
               refine hK.out _ _ trivial (fun hHeld => ?_)
               clear hK K
               refine norm_ (a' := ?_) ?_ ?_
               rotate_left
               ·
                show Act.put _ (some 18) _ = _
                simp only [Act.put, List.setIfInBounds_toArray, List.set_cons_zero, List.set_cons_succ, i64_w, i32_w]
                rfl
               refine one_ (i := 4) (N := some 22) #[true, true, true, true, true, true, true, true, true, false, false] rfl rfl (one_of HT_.out (by kernel_rfl)) (by decide) (fun K hK => ?_)
               refine Kd.R_append_rows_step (Kd.int .i64) (w0 := w) w.heap.size (by rfl) (.tmp 18) (.tmp 21) 28 3 (.int .i64 0) 8 rfl Try.underlying28 info3 rfl (by decide) (by omega) v102 y101 (l1.take (x7_1 : Int).toNat) _ _ _ (fun _ => True) (fun _ => False) rfl rfl ?aO ?aR (fun _ _ h => h) (fun _ h => h.elim) ?aF ?aB ?aS ?aL ?_
               (case aR => first | (have e_ := show (l1.take (x7_1 : Int).toNat).length = x7_1.toNat from (by rw [List.length_take]; have h_ : (x7_1 : Int) ≤ (l1.length : Int) := of_decide_eq_true (by assumption); omega); have h_ := Kd.C_below HR104.out HB.out; rw [e_] at h_; exact h_) | (exact (Kd.C_below HR104.out HB.out)) | (exact (Kd.C_below HR104.out HB.out)))
               (case aB => exact bB)
               (case aF => exact (fun _ _ => trivial))
               (case aO => exact HO103.out)
               (case aS => exact (below_size bB))
               (case aL => have := LMc7.out; have hlx_ := (show (l1.take (x7_1 : Int).toNat).length = x7_1.toNat from (by rw [List.length_take]; have h_ : (x7_1 : Int) ≤ (l1.length : Int) := of_decide_eq_true (by assumption); omega)); omega)
               intro v106 w22 ho hb hg hat
               rw [← Ny105.out] at ho
               have n0_ := Aside0.mk (hb)
               have n1_ := Aside0.mk (ho)
               clear HB
               clear HO103
               have HB := n0_
               have HO107 := n1_
               clear n0_ n1_
               clear ho hb hg hat
               refine hK.out _ _ trivial (fun hHeld => ?_)
               clear hK K
               refine norm_ (a' := ?_) ?_ ?_
               rotate_left
               ·
                show Act.put _ (some 22) _ = _
                simp only [Act.put, List.setIfInBounds_toArray, List.set_cons_zero, List.set_cons_succ, i64_w, i32_w]
                rfl
               refine one_ (i := 9) (N := some 27) #[true, true, true, true, true, true, true, true, true, true, false] rfl rfl (one_of HT_.out (by kernel_rfl)) (by decide) (fun K hK => ?_)
               refine Kd.R_append_rows_step (Kd.int .i64) (w0 := w) w.heap.size (by rfl) (.tmp 22) (.tmp 26) 28 3 (.int .i64 0) 8 rfl Try.underlying28 info3 rfl (by decide) (by omega) v106 y105 (l1.drop ((ji8) : Int).toNat) _ _ _ (fun _ => True) (fun _ => False) rfl rfl ?aO ?aR (fun _ _ h => h) (fun _ h => h.elim) ?aF ?aB ?aS ?aL ?_
               (case aR => first | (rw [← show (l1.drop ((ji8) : Int).toNat).length = (l1.length - (ji8).toNat) from List.length_drop]; exact (Kd.C_below HR108.out HB.out)) | (exact (Kd.C_below HR108.out HB.out)))
               (case aB => exact bB)
               (case aF => exact (fun _ _ => trivial))
               (case aO => exact HO107.out)
               (case aS => exact (below_size bB))
               (case aL => have := LMc11.out; have hlx_ := (show (l1.drop ((ji8) : Int).toNat).length = (l1.length - (ji8).toNat) from List.length_drop); omega)
               intro v110 w23 ho hb hg hat
               rw [← Ny109.out] at ho
               have n0_ := Aside0.mk (hb)
               have n1_ := Aside0.mk (ho)
               clear HB
               clear HO107
               have HB := n0_
               have HO111 := n1_
               clear n0_ n1_
               clear ho hb hg hat
               refine hK.out _ _ trivial (fun hHeld => ?_)
               clear hK K
               refine norm_ (a' := ?_) ?_ ?_
               rotate_left
               ·
                show Act.put _ (some 27) _ = _
                simp only [Act.put, List.setIfInBounds_toArray, List.set_cons_zero, List.set_cons_succ, i64_w, i32_w]
                rfl
               refine pure_ (i := 10) (N := some 8) (v := ?_) (a' := ?_) #[true, true, true, true, true, true, true, true, true, true, true] rfl rfl (any_of HT_.out (by kernel_rfl)) (fun _ _ _ h => h) (Or.inl ⟨by rfl, ?_⟩) ?_ ?_
               rotate_left
               ·
                intro w'
                go_simp
                with_reducible rfl
               rotate_left
               ·
                simp only [Act.put, List.setIfInBounds_toArray, List.set_cons_zero, List.set_cons_succ, i64_w, i32_w]
                rfl
               refine done_ (done_of HT_.out (by kernel_rfl)) ?_
               try go_wp2
               have n0_ := Aside0.mk (Kd.R_drew HO111.out)
               have n1_ := Aside0.mk (below_drew1 HB.out)
               clear HO111
               clear HB
               have HO111 := n0_
               have HB := n1_
               clear n0_ n1_
               have p112 : 0 ≤ (0 : Int) := (by omega)
               have q112 : 0 < (l0.length : Int) := of_decide_eq_true (by assumption)
               obtain ⟨ad112, A112_0, c112_0, e112, hx112_0, hl112_0, hi112_0⟩ := at_L1 HR0.out 0 p112 q112
               have hw112_0 := hx112_0
               (try rw [show ((0 : Int)).toNat = 0 from rfl] at hw112_0)
               (try rw [show 0 * 1 = 0 from rfl] at hw112_0)
               (try rw [Addr.add_zero'] at hw112_0)
               cases e112
               have qi112 : (0 < l0.length) = True := eq_true (by omega)
               (try rw [show ((0 : Int)).toNat = 0 from rfl] at hx112_0)
               (try rw [Addr.add_zero'] at hx112_0)
               replace hx112_0 := (HB.out.cell (World.block_lt_of_cell? w _ hx112_0)).trans hx112_0
               have HR112_0 := Aside0.mk hi112_0
               have HC112_0 := Aside0.mk hl112_0
               clear hi112_0 hl112_0
               replace p112 := eq_true p112
               replace q112 := eq_true q112
               have p113 : 0 ≤ (x7_1 : Int) := of_decide_eq_true (by assumption)
               have q113 : x7_1 < (l1.length : Int) := of_decide_eq_true (by assumption)
               obtain ⟨ad113, e113, hx113_0⟩ := Kd.at_int HR1.out x7_1 p113 q113
               have hw113_0 := hx113_0
               cases e113
               replace hx113_0 := (HB.out.cell (World.block_lt_of_cell? w _ hx113_0)).trans hx113_0
               replace p113 := eq_true p113
               replace q113 := eq_true q113
               have p114 : 0 ≤ ((rd l1 x7_1) : Int) := of_decide_eq_true (by assumption)
               have q114 : (rd l1 x7_1) < ((rd_L1 l0 0).length : Int) := of_decide_eq_true (by assumption)
               obtain ⟨ad114, e114, hx114_0⟩ := Kd.at_int HR112_0.out (rd l1 x7_1) p114 q114
               have hw114_0 := hx114_0
               cases e114
               replace hx114_0 := (HB.out.cell (World.block_lt_of_cell? w _ hx114_0)).trans hx114_0
               replace p114 := eq_true p114
               replace q114 := eq_true q114
               have q25 : (1 : Int) ≤ ((l0.length : Int) : Int) := of_decide_eq_true (by assumption)
               obtain ⟨i025, hi025, _, hsz25, _⟩ := info_parts info28
               have hroom25 : l0.length ≤ c0 := HC0.out
               have hC25 : Kd.C (Kd.slice 3 (Kd.int .i64)) _ (some ad112) l0.length l0 := HR0.out
               have hcut25 := cut_from (P := Try.prog) 22 28 .i64 Try.underlying22 hi025 1 hsz25 (some ad112) l0.length c0 1 (by omega) q25
               have hr25 := Kd.C_drop (m := (1 : Int).toNat) (c := c0) hC25 (by omega) hroom25
               obtain ⟨A25, hA25⟩ : ∃ A1, A1 = (if c0 = (1 : Int).toNat then (some ad112) else ((some ad112) : Option Addr).map (·.add ((1 : Int).toNat * 1))) := ⟨_, rfl⟩
               obtain ⟨c25, hc25⟩ : ∃ c1, c1 = c0 - (1 : Int).toNat := ⟨_, rfl⟩
               have hy25 : y115.length = l0.length - (1 : Int).toNat := (by rw [Ny115.out, List.length_drop] <;> omega)
               rw [show (l0).drop (1 : Int).toNat = y115 from Ny115.out.symm] at hr25
               replace hr25 : Kd.C (Kd.slice 3 (Kd.int .i64)) _ A25 y115.length y115 := (by rw [hA25]; exact hr25)
               rw [← hy25, ← hA25, ← hc25] at hcut25
               have HR118 := Aside0.mk hr25
               have HC118 := Aside0.mk (show y115.length ≤ c25 from by rw [hy25, hc25]; exact Nat.sub_le_sub_right hroom25 _)
               clear hr25 hC25 hroom25 hi025 hsz25 hc25
               have KY25 := Aside0.mk hy25
               have KA25 := Aside0.mk hA25
               clear hy25 hA25
               replace q25 := eq_true q25
               obtain ⟨Ao26, co26, eo26⟩ := Kd.R_slice HO111.out
               (first | subst eo26 | (injection eo26 with f1_ f2_ f3_; have f4_ := f1_.symm; have f5_ := f3_.symm; clear f1_ f2_ f3_; subst f4_; subst f5_))
               refine start_ (n := 19) (S := fun w' => w'.cell? ad112 = some (.slice (some ad114) (rd_L1 l0 0).length c112_0) ∧ w'.cell? (ad113.add (x7_1).toNat) = some (.int .i64 (rd l1 x7_1)) ∧ w'.cell? (ad114.add ((rd l1 x7_1)).toNat) = some (.int .i64 (rd (rd_L1 l0 0) (rd l1 x7_1)))) (ds := []) #[false, false, false, false, false, false, false, false, false, false, false, false, false, false, false, false, false, false, false] (by kernel_rfl) rfl rfl ⟨((HB.out.cell (World.block_lt_of_cell? w _ hw112_0)).trans hw112_0), ((HB.out.cell (World.block_lt_of_cell? w _ hw113_0)).trans hw113_0), ((HB.out.cell (World.block_lt_of_cell? w _ hw114_0)).trans hw114_0)⟩ (fun hHeld => ?_); refine with_tabW verditerref04_determinant.tab8 verditerref04_determinant.bits8 (fun HT_ HW_ => ?_)
               generalize w23.drew = w24 at HO111 HB HR112_0 HR118 hx112_0 hx113_0 hx114_0 hHeld ⊢
               refine pure_ (i := 0) (N := some 28) (v := ?_) (a' := ?_) #[true, false, false, false, false, false, false, false, false, false, false, false, false, false, false, false, false, false, false] rfl rfl (any_of HT_.out (by kernel_rfl)) (fun _ _ _ h => h) (Or.inl ⟨by rfl, ?_⟩) ?_ ?_
               rotate_left
               ·
                intro w'
                go_simp
                with_reducible rfl
               rotate_left
               ·
                simp only [Act.put, List.setIfInBounds_toArray, List.set_cons_zero, List.set_cons_succ, i64_w, i32_w]
                rfl
               refine pure_ (i := 1) (N := some 29) (v := ?_) (a' := ?_) #[true, true, false, false, false, false, false, false, false, false, false, false, false, false, false, false, false, false, false] rfl rfl (any_of HT_.out (by kernel_rfl)) (fun _ _ _ h => h) (Or.inl ⟨by rfl, ?_⟩) ?_ ?_
               rotate_left
               ·
                intro w'
                go_simp
                with_reducible rfl
               rotate_left
               ·
                simp only [Act.put, List.setIfInBounds_toArray, List.set_cons_zero, List.set_cons_succ, i64_w, i32_w]
                rfl
               refine pure_ (i := 2) (N := some 30) (v := ?_) (a' := ?_) #[true, true, true, false, false, false, false, false, false, false, false, false, false, false, false, false, false, false, false] rfl rfl (any_of HT_.out (by kernel_rfl)) (fun _ _ _ h => h) (Or.inl ⟨by rfl, ?_⟩) ?_ ?_
               rotate_left
               ·
                intro w'
                go_simp
                with_reducible rfl
               rotate_left
               ·
                simp only [Act.put, List.setIfInBounds_toArray, List.set_cons_zero, List.set_cons_succ, i64_w, i32_w]
                rfl
               refine pure_ (i := 3) (N := some 31) (v := ?_) (a' := ?_) #[true, true, true, true, false, false, false, false, false, false, false, false, false, false, false, false, false, false, false] rfl rfl (any_of HT_.out (by kernel_rfl)) (fun _ _ _ h => h) (Or.inl ⟨by rfl, ?_⟩) ?_ ?_
               rotate_left
               ·
                intro w'
                go_simp
                with_reducible rfl
               rotate_left
               ·
                simp only [Act.put, List.setIfInBounds_toArray, List.set_cons_zero, List.set_cons_succ, i64_w, i32_w]
                rfl
               refine pure_ (i := 5) (N := some 33) (v := ?_) (a' := ?_) #[true, true, true, true, false, true, false, false, false, false, false, false, false, false, false, false, false, false, false] rfl rfl (any_of HT_.out (by kernel_rfl)) (fun _ _ _ h => h) (Or.inl ⟨by rfl, ?_⟩) ?_ ?_
               rotate_left
               ·
                intro w'
                go_simp
                with_reducible rfl
               rotate_left
               ·
                simp only [Act.put, List.setIfInBounds_toArray, List.set_cons_zero, List.set_cons_succ, i64_w, i32_w]
                rfl
               refine pure_ (i := 6) (N := some 34) (v := ?_) (a' := ?_) #[true, true, true, true, false, true, true, false, false, false, false, false, false, false, false, false, false, false, false] rfl rfl (any_of HT_.out (by kernel_rfl)) (fun _ _ _ h => h) (Or.inl ⟨by rfl, ?_⟩) ?_ ?_
               rotate_left
               ·
                intro w'
                go_simp
                with_reducible rfl
               rotate_left
               ·
                simp only [Act.put, List.setIfInBounds_toArray, List.set_cons_zero, List.set_cons_succ, i64_w, i32_w]
                rfl
               refine pure_ (i := 7) (N := some 35) (v := ?_) (a' := ?_) #[true, true, true, true, false, true, true, true, false, false, false, false, false, false, false, false, false, false, false] rfl rfl (any_of HT_.out (by kernel_rfl)) (fun _ _ _ h => h) (Or.inl ⟨by rfl, ?_⟩) ?_ ?_
               rotate_left
               ·
                intro w'
                go_simp
                with_reducible rfl
               rotate_left
               ·
                simp only [Act.put, List.setIfInBounds_toArray, List.set_cons_zero, List.set_cons_succ, i64_w, i32_w]
                rfl
               refine pure_ (i := 12) (N := some 40) (v := ?_) (a' := ?_) #[true, true, true, true, false, true, true, true, false, false, false, false, true, false, false, false, false, false, false] rfl rfl (any_of HT_.out (by kernel_rfl)) (fun _ _ _ h => h) (Or.inl ⟨by rfl, ?_⟩) ?_ ?_
               rotate_left
               ·
                intro w'
                go_simp
                with_reducible rfl
               rotate_left
               ·
                simp only [Act.put, List.setIfInBounds_toArray, List.set_cons_zero, List.set_cons_succ, i64_w, i32_w]
                rfl
               refine pure_ (i := 13) (N := some 41) (v := ?_) (a' := ?_) #[true, true, true, true, false, true, true, true, false, false, false, false, true, true, false, false, false, false, false] rfl rfl (any_of HT_.out (by kernel_rfl)) (fun _ _ _ h => h) (Or.inl ⟨by rfl, ?_⟩) ?_ ?_
               rotate_left
               ·
                intro w'
                go_simp
                with_reducible rfl
               rotate_left
               ·
                simp only [Act.put, List.setIfInBounds_toArray, List.set_cons_zero, List.set_cons_succ, i64_w, i32_w]
                rfl
               refine pure_ (i := 14) (N := some 42) (v := ?_) (a' := ?_) #[true, true, true, true, false, true, true, true, false, false, false, false, true, true, true, false, false, false, false] rfl rfl (any_of HT_.out (by kernel_rfl)) (fun _ _ _ h => h) (Or.inl ⟨by rfl, ?_⟩) ?_ ?_
               rotate_left
               ·
                intro w'
                go_simp
                with_reducible rfl
               rotate_left
               ·
                simp only [Act.put, List.setIfInBounds_toArray, List.set_cons_zero, List.set_cons_succ, i64_w, i32_w]
                rfl
               refine take_ (i := 4) (N := some 32) (v := ?_) (a' := ?_) #[true, true, true, true, true, true, true, true, false, false, false, false, true, true, true, false, false, false, false] rfl rfl (take_ofW HT_.out HW_.out (by kernel_rfl)) (fun _ _ _ h => h) (Or.inl ⟨by rfl, ?_⟩) hHeld ?_ ?_
               rotate_left
               ·
                rintro w' ⟨s0, s1, s2⟩
                go_simp
                with_reducible rfl
               rotate_left
               ·
                simp only [Act.put, List.setIfInBounds_toArray, List.set_cons_zero, List.set_cons_succ, i64_w, i32_w]
                rfl
               refine take_ (i := 8) (N := some 36) (v := ?_) (a' := ?_) #[true, true, true, true, true, true, true, true, true, false, false, false, true, true, true, false, false, false, false] rfl rfl (take_ofW HT_.out HW_.out (by kernel_rfl)) (fun _ _ _ h => h) (Or.inl ⟨by rfl, ?_⟩) hHeld ?_ ?_
               rotate_left
               ·
                rintro w' ⟨s0, s1, s2⟩
                go_simp
                with_reducible rfl
               rotate_left
               ·
                simp only [Act.put, List.setIfInBounds_toArray, List.set_cons_zero, List.set_cons_succ, i64_w, i32_w]
                rfl
               refine pure_ (i := 9) (N := some 37) (v := ?_) (a' := ?_) #[true, true, true, true, true, true, true, true, true, true, false, false, true, true, true, false, false, false, false] rfl rfl (any_of HT_.out (by kernel_rfl)) (fun _ _ _ h => h) (Or.inl ⟨by rfl, ?_⟩) ?_ ?_
               rotate_left
               ·
                intro w'
                go_simp
                with_reducible rfl
               rotate_left
               ·
                simp only [Act.put, List.setIfInBounds_toArray, List.set_cons_zero, List.set_cons_succ, i64_w, i32_w]
                rfl
               refine take_ (i := 10) (N := some 38) (v := ?_) (a' := ?_) #[true, true, true, true, true, true, true, true, true, true, true, false, true, true, true, false, false, false, false] rfl rfl (take_ofW HT_.out HW_.out (by kernel_rfl)) (fun _ _ _ h => h) (Or.inl ⟨by rfl, ?_⟩) hHeld ?_ ?_
               rotate_left
               ·
                rintro w' ⟨s0, s1, s2⟩
                go_simp
                with_reducible rfl
               rotate_left
               ·
                simp only [Act.put, List.setIfInBounds_toArray, List.set_cons_zero, List.set_cons_succ, i64_w, i32_w]
                rfl
               refine pure_ (i := 11) (N := some 39) (v := ?_) (a' := ?_) #[true, true, true, true, true, true, true, true, true, true, true, true, true, true, true, false, false, false, false] rfl rfl (any_of HT_.out (by kernel_rfl)) (fun _ _ _ h => h) (Or.inl ⟨by rfl, ?_⟩) ?_ ?_
               rotate_left
               ·
                intro w'
                go_simp
                with_reducible rfl
               rotate_left
               ·
                simp only [Act.put, List.setIfInBounds_toArray, List.set_cons_zero, List.set_cons_succ, i64_w, i32_w]
                rfl
               refine one_ (i := 15) (N := some 43) #[true, true, true, true, true, true, true, true, true, true, true, true, true, true, true, true, false, false, false] rfl rfl (one_of HT_.out (by kernel_rfl)) (by decide) (fun K hK => ?_)
               refine goes_ Try.func124 (by kernel_rfl) rfl #[.slice A25 y115.length c25, .slice Ao26 y109.length co26] (by rfl) rfl rfl hA ?_
               with_reducible refine (ih k1 (by have := HK1.out; omega) _ _ y115 _ _ y109 t119 _ ?side1 ?side2 ?side3 ?side4 A16.out).mono ?_
               (case side1 => exact (Kd.C_below HR118.out HB.out))
               (case side2 => exact HC118.out)
               (case side3 => exact (Kd.R_reads' HO111.out).2.2)
               (case side4 => exact (Kd.R_reads' HO111.out).2.1)
               rintro e w27 ⟨rfl, hb⟩
               refine ⟨_, rfl, ?_⟩
               have n0_ := Aside0.mk (Kd.R_below HO111.out hb)
               have n1_ := Aside0.mk (below_step bB hb)
               clear HO111
               clear HB
               have HO111 := n0_
               have HB := n1_
               clear n0_ n1_
               (try clear hb)
               (try clear hb2)
               (try clear hk)
               (try clear hi)
               refine hK.out _ _ ⟨((HB.out.cell (World.block_lt_of_cell? w _ hw112_0)).trans hw112_0), ((HB.out.cell (World.block_lt_of_cell? w _ hw113_0)).trans hw113_0), ((HB.out.cell (World.block_lt_of_cell? w _ hw114_0)).trans hw114_0)⟩ (fun hHeld => ?_)
               clear hK K
               refine norm_ (a' := ?_) ?_ ?_
               rotate_left
               ·
                show Act.put _ (some 43) _ = _
                simp only [Act.put, List.setIfInBounds_toArray, List.set_cons_zero, List.set_cons_succ, i64_w, i32_w]
                rfl
               refine pure_ (i := 16) (N := some 44) (v := ?_) (a' := ?_) #[true, true, true, true, true, true, true, true, true, true, true, true, true, true, true, true, true, false, false] rfl rfl (any_of HT_.out (by kernel_rfl)) (fun _ _ _ h => h) (Or.inl ⟨by rfl, ?_⟩) ?_ ?_
               rotate_left
               ·
                intro w'
                go_simp
                with_reducible rfl
               rotate_left
               ·
                simp only [Act.put, List.setIfInBounds_toArray, List.set_cons_zero, List.set_cons_succ, i64_w, i32_w]
                rfl
               refine pure_ (i := 17) (N := some 45) (v := ?_) (a' := ?_) #[true, true, true, true, true, true, true, true, true, true, true, true, true, true, true, true, true, true, false] rfl rfl (any_of HT_.out (by kernel_rfl)) (fun _ _ _ h => h) (Or.inl ⟨by rfl, ?_⟩) ?_ ?_
               rotate_left
               ·
                intro w'
                go_simp
                with_reducible rfl
               rotate_left
               ·
                simp only [Act.put, List.setIfInBounds_toArray, List.set_cons_zero, List.set_cons_succ, i64_w, i32_w]
                rfl
               refine pure_ (i := 18) (N := some 5) (v := ?_) (a' := ?_) #[true, true, true, true, true, true, true, true, true, true, true, true, true, true, true, true, true, true, true] rfl rfl (any_of HT_.out (by kernel_rfl)) (fun _ _ _ h => h) (Or.inl ⟨by rfl, ?_⟩) ?_ ?_
               rotate_left
               ·
                intro w'
                go_simp
                with_reducible rfl
               rotate_left
               ·
                simp only [Act.put, List.setIfInBounds_toArray, List.set_cons_zero, List.set_cons_succ, i64_w, i32_w]
                rfl
               refine done_ (done_of HT_.out (by kernel_rfl)) ?_
               try go_wp2
               go_roundg k1
               case measure => have := HK1.out; omega
               case rel => exact ⟨(wrap64 (x5_1 + (wrap64 ((wrap64 (x6_1 * (rd (rd_L1 l0 0) (rd l1 x7_1)))) * t119)))), (wrap64 (-x6_1)), (ji8), (by first | rfl | (simp; done) | (simp [*]; done)), (by first | rfl | (simp; done) | (simp [*]; done)), (by first | rfl | (simp; done) | (simp only [← hji8] <;> (first | rfl | simp)) | (simp [*]; done)), H', ⟨by have := HK1.out; omega⟩, ⟨bB⟩⟩
              ·
               rw [if_neg c15] at H
               exact absurd H (by simp)
             ·
              rw [if_neg c14] at H
              exact absurd H (by simp)
            ·
             rw [if_neg c13] at H
             exact absurd H (by simp)
           ·
            rw [if_neg c12] at H
            exact absurd H (by simp)
          ·
           rw [if_neg c11] at H
           exact absurd H (by simp)
         ·
          rw [if_neg c10] at H
          exact absurd H (by simp)
        ·
         rw [if_neg c9] at H
         exact absurd H (by simp)
       ·
        rw [if_neg c7] at H
        exact absurd H (by simp)
      ·
       rw [if_neg c6] at H
       exact absurd H (by simp)
     ·
      rw [if_neg c5] at H
      exact absurd H (by simp)
    ·
     rw [if_neg c4] at H
     have c4b0 : decide (x7_1 < (l1.length : Int)) = false := decide_eq_false c4
     clear c4
     obtain rfl := Option.some.inj H
     go_wp2
     go_ret
     exact ⟨by first | rfl | (simp [errW_none, errW_some] <;> rfl) | (simp [*, errW_none, errW_some] <;> rfl), bB⟩
end Go.Proofs.Ytdneelgnmnpanaa.P
end
section
namespace Go.Proofs.Ytdneelgnmnpanaa.P
open Go.RowKit Go.Proofs.YtdneelgnmnpanaaW.PrintWords Go.Proofs.Det
set_option linter.unusedVariables false
set_option linter.unusedSimpArgs false
def el (e : Nat) : List Int → Int := fun c => c.getD e 0
def Dn : Nat → Nat
  | 0 => 1
  | n + 1 => (n + 1) * (9 * Dn n)
def Small (X : List (List Int)) (js : List Nat) : Prop := ∀ c ∈ X, ∀ e ∈ js, e < c.length ∧ (c.getD e 0).natAbs ≤ 9
theorem det_bd : ∀ (X : List (List Int)) (js : List Nat), js.length = X.length → Small X js → (det X (js.map el)).natAbs ≤ Dn X.length
  | [], js, _, _ => by rw [det]; exact Nat.le_refl _
  | c :: X, js, hl, hs => by
    have hX : Small X js := fun d hd => hs d (List.mem_cons_of_mem _ hd)
    have key : ∀ (post pre : List Nat), pre ++ post = js → (sgn (det X) c (pre.map el) (post.map el)).natAbs ≤ post.length * (9 * Dn X.length) := by
      intro post
      induction post with
      | nil => intro pre _; rw [List.map_nil, sgn]; simp
      | cons e post ih =>
        intro pre hp
        have h1 := ih (pre ++ [e]) (by simpa using hp)
        have h2 := det_bd X (pre ++ post) (by rw [← hp] at hl; simp at hl ⊢; omega) (fun d hd x hx => hX d hd x (by rw [← hp]; rcases List.mem_append.1 hx with h | h <;> simp [h]))
        have h3 := (hs c (List.mem_cons_self ..) e (by rw [← hp]; simp)).2
        rw [List.map_cons, sgn, List.length_cons, ← List.map_append]
        rw [List.map_append] at h1
        have h4 := nmul (x := el e c) h3 h2
        rw [Nat.add_mul, Nat.one_mul]
        have h5 : (sgn (det X) c (pre.map el ++ [el e]) (post.map el)).natAbs ≤ post.length * (9 * Dn X.length) := h1
        omega
    have := key js [] rfl
    rw [det, List.length_cons, Dn]
    rw [hl, List.length_cons] at this
    exact this
theorem dn_ok : ∀ n, n ≤ 3 → Dn n ≤ 4374 := by decide +kernel
theorem obs {α β : Type} (a : α) (f : α → Option β) : (some a).bind f = f a := by simp
theorem wstep {sum sg v D : Int} {p : Nat} (hsg : sg = 1 ∨ sg = -1) (hv : v.natAbs ≤ 9) (hD : D.natAbs ≤ 4374) (hs : sum.natAbs ≤ 40000 * p) (hp : p ≤ 4) : wrap64 (sum + wrap64 (wrap64 (sg * v) * D)) = sum + sg * v * D ∧ (sum + sg * v * D).natAbs ≤ 40000 * (p + 1) ∧ wrap64 (-sg) = -sg ∧ (-sg = 1 ∨ -sg = -1) := by
  have h1 : (sg * v).natAbs ≤ 9 := by rcases hsg with rfl | rfl <;> omega
  have h2 := nmul h1 hD
  generalize sg * v = y at *
  rw [wrp (x := y) (by omega) (by omega)]
  generalize y * D = z at *
  rw [wrp (x := z) (by omega) (by omega), wrp (x := sum + z) (by omega) (by omega)]
  exact ⟨rfl, by omega, wrp (by omega) (by omega), by omega⟩
theorem eestep (sum sg v D S : Int) : sum + sg * (v * D - S) = sum + sg * v * D + -sg * S := by
  rw [Int.mul_sub, Int.neg_mul, Int.mul_assoc]
  omega
theorem det_ev : ∀ (X : List (List Int)) (js : List Nat), js.length = X.length → X.length ≤ 4 → Small X js →
    Ev (fun k => verditerref04_determinant.f k X (js.map fun e : Nat => (e : Int))) (det X (js.map el))
  | [], js, hl, _, _ => by
    have : js = [] := List.eq_nil_of_length_eq_zero (by simpa using hl)
    subst this
    refine Ev.step (fun k => by rw [verditerref04_determinant.f]) ?_
    simp only [List.map_nil, List.length_nil, show ((0 : Nat) : Int) = 0 from rfl, if_true]
    exact Ev.now _
  | c :: X, js, hl, h4, hs => by
    rw [List.length_cons] at hl h4
    have hX : Small X js := fun d hd => hs d (List.mem_cons_of_mem _ hd)
    have hjl : js.length ≤ 4 := by omega
    have hdn := dn_ok X.length (by omega)
    have key : ∀ (post pre : List Nat) (sum sg : Int), pre ++ post = js → (sg = 1 ∨ sg = -1) → sum.natAbs ≤ 40000 * pre.length →
        Ev (fun k => verditerref04_determinant.l0 k (c :: X) (js.map fun e : Nat => (e : Int)) sum sg (pre.length : Int)) (sum + sg * sgn (det X) c (pre.map el) (post.map el)) := by
      intro post
      induction post with
      | nil =>
        intro pre sum sg hp hsg hsum
        rw [List.append_nil] at hp
        subst hp
        refine Ev.step (fun k => by rw [verditerref04_determinant.l0]) ?_
        rw [List.map_nil, sgn, Int.mul_zero, Int.add_zero]
        simp only [List.length_map, show ¬ ((pre.length : Int) < (pre.length : Int)) by omega, if_false]
        exact Ev.now _
      | cons e post ih =>
        intro pre sum sg hp hsg hsum
        have hlen : pre.length + post.length + 1 = js.length := by rw [← hp]; simp; omega
        have hpp : Small X (pre ++ post) := fun d hd x hx => hX d hd x (by rw [← hp]; rcases List.mem_append.1 hx with h | h <;> simp [h])
        have hd := det_ev X (pre ++ post) (by simp; omega) (by omega) hpp
        have hb : (det X ((pre ++ post).map el)).natAbs ≤ 4374 := Nat.le_trans (det_bd X (pre ++ post) (by simp; omega) hpp) hdn
        obtain ⟨he, h9⟩ := hs c (List.mem_cons_self ..) e (by rw [← hp]; simp)
        have f1 : ((pre.length : Int) < (js.length : Int)) := by omega
        have f2 : ((pre.length : Int) ≤ (js.length : Int)) := by omega
        have f3 : (((pre.length + 1 : Nat) : Int) ≤ (js.length : Int)) := by omega
        have f4 : 0 + pre.length < 17592186044416 := by omega
        have f5 : pre.length + post.length < 17592186044416 := by omega
        have f6 : ((e : Int) < (c.length : Int)) := by omega
        have f7 : (0 : Int) < ((X.length + 1 : Nat) : Int) := by omega
        have f9 : pre.length ≤ 4 := by omega
        have f8 : (1 : Int) ≤ ((X.length + 1 : Nat) : Int) := by omega
        have htake : (js.map fun e : Nat => (e : Int)).take pre.length = pre.map fun e : Nat => (e : Int) := by
          rw [← hp, List.map_append, List.take_left' (by simp)]
        have hdrop : (js.map fun e : Nat => (e : Int)).drop (pre.length + 1) = post.map fun e : Nat => (e : Int) := by
          rw [← hp, List.map_append, List.map_cons, ← List.singleton_append, ← List.append_assoc, List.drop_left' (by simp)]
        have hat : (js.map fun e : Nat => (e : Int)).getD pre.length 0 = (e : Int) := by
          rw [← hp, List.map_append, List.map_cons, List.getD_eq_getElem?_getD, List.getElem?_append_right (by simp)]
          simp
        have hw : wrap64 ((pre.length : Int) + 1) = ((pre.length + 1 : Nat) : Int) := by rw [wrp (by omega) (by omega)]; omega
        refine Ev.step (fun k => by rw [verditerref04_determinant.l0]) ?_
        simp only [List.length_map, f1, if_true]
        simp only [obs]
        simp only [List.nil_append, List.length_nil, hw]
        simp only [Int.toNat_natCast, htake, hdrop, List.length_map]
        simp only [Int.natCast_nonneg, f2, f3, f4, f5, if_true, rdn, hat, rdL0, List.length_cons, f6, f7, f8, List.getD_cons_zero, List.drop_succ_cons, List.drop_zero]
        rw [List.map_append] at hd
        refine Ev.bind hd ?_
        have hce : c.getD e 0 = el e c := rfl
        rw [hce] at h9 ⊢
        obtain ⟨w1, w2, w3, w4⟩ := wstep hsg h9 hb hsum f9
        rw [w1, w3, List.map_cons, sgn, ← List.map_append, eestep]
        have := ih (pre ++ [e]) _ (-sg) (by simpa using hp) w4 (by rw [List.length_append, List.length_singleton]; exact w2)
        have e1 : (pre ++ [e]).map el = pre.map el ++ [el e] := by simp
        rw [List.length_append, List.length_singleton, e1] at this
        exact this
    refine Ev.step (fun k => by rw [verditerref04_determinant.f]) ?_
    have h0 : ¬ ((js.length : Int) = 0) := by omega
    simp only [List.length_map, h0, if_false]
    have := key js [] 0 1 rfl (.inl rfl) (by simp)
    rw [List.length_nil, Int.zero_add, Int.one_mul, List.map_nil] at this
    rw [det]
    exact this
end Go.Proofs.Ytdneelgnmnpanaa.P
end
section
namespace Go.Proofs.Ytdneelgnmnpanaa.P
open Go.RowKit Go.Proofs.YtdneelgnmnpanaaW.PrintWords Go.Proofs.YtdneelgnmnpanaaW.PrintLast Go.Proofs.YtdneelgnmnpanaaW.PrintMore
attribute [local go_sem] max2_int min2_int max_two min_two max_three min_three max_four min_four   -- for this text's walks alone
set_option linter.unusedVariables false
set_option linter.unusedSimpArgs false
def verditerref04_list.l0 : Nat → Int → List Int → Int → Option (List Int)
 | 0, _, _, _ => none
 | k + 1, x0, x3, x4 => if 0 ≤ (IntKind.u64.wrap (x4)) then (if (shr .i64 x0 (IntKind.u64.wrap (x4))) > 0 then (if (Go.bits .and .i64 (shr .i64 x0 (IntKind.u64.wrap (x4))) 1) = 1 then (if x3.length < 17592186044416 then (verditerref04_list.l0 k x0 (x3 ++ [x4]) (wrap64 (x4 + 1))) else (none)) else (verditerref04_list.l0 k x0 x3 (wrap64 (x4 + 1)))) else (some x3)) else (none)
def verditerref04_list.f (k : Nat) (a0 : Int) : Option (List Int) := verditerref04_list.l0 k a0 ([] : List Int) 0
theorem verditerref04_list.mono_l : ∀ k, (∀ y0 y1 y2, LeO (verditerref04_list.l0 k y0 y1 y2) (verditerref04_list.l0 (k + 1) y0 y1 y2))
 | 0 => fun _ _ _ r h => by simp [verditerref04_list.l0] at h
 | k + 1 => by
  have ih0 := verditerref04_list.mono_l k
  ·
   intro y0 y1 y2
   unfold verditerref04_list.l0
   repeat' first
   | (with_reducible exact ih0 _ _ _)
   | (with_reducible exact LeO.refl _)
   | (with_reducible exact LeO.none _)
   | (with_reducible refine LeO.ite ?_ ?_)
   | (with_reducible refine LeO.bind ?_ (fun _ => ?_))
   | exact ih0 _ _ _
   | exact LeO.none _
   | refine LeO.ite ?_ ?_
   | refine LeO.bind ?_ (fun _ => ?_)
theorem verditerref04_list.mono : ∀ a0 k, LeO (verditerref04_list.f k a0) (verditerref04_list.f (k + 1) a0) := by
 intro a0 k
 have ih0 := verditerref04_list.mono_l k
 unfold verditerref04_list.f
 repeat' first
   | (with_reducible exact ih0 _ _ _)
   | (with_reducible exact LeO.refl _)
   | (with_reducible exact LeO.none _)
   | (with_reducible refine LeO.ite ?_ ?_)
   | (with_reducible refine LeO.bind ?_ (fun _ => ?_))
   | exact ih0 _ _ _
   | exact LeO.none _
   | refine LeO.ite ?_ ?_
   | refine LeO.bind ?_ (fun _ => ?_)
set_option maxHeartbeats 8000000 in
set_option maxRecDepth 100000 in
theorem verditerref04_list.calls (k : Nat) (a0 : Int) (r : List Int) (w : World) (h : verditerref04_list.f k a0 = some r) :
  Calls Try.prog 103 #[.int .i64 a0] w fun e w' => ∃ v0_ : Value, e = .returned (v0_) ∧ Kd.R (Kd.int .i64) 3 w' w.heap.size (fun _ => True) v0_ r ∧ Below w.heap.size w w' := by
 have HB := Aside0.mk (Below.refl w.heap.size w)
 have H : (verditerref04_list.l0 k a0 ([] : List Int) 0) = some r := h
 clear h
 have H' := Aside0.mk H
 clear H
 go_enter Try.func103, Try.ntmps103
 go_wp2
 go_loopg [3, 4] k (fun kq v3 v4 w' => ∃ (x3_1 : List Int) (x4_1 : Int), v4 = .int .i64 x4_1 ∧ Aside0 (verditerref04_list.l0 kq a0 x3_1 x4_1 = some r) ∧ Aside0 (kq ≤ k) ∧ Aside0 (Kd.R (Kd.int .i64) 3 w' w.heap.size (fun _ => True) v3 x3_1) ∧ Aside0 (Below w.heap.size w w'))
 case atStart => exact ⟨(([] : List Int)), (0), (by first | rfl | (simp; done) | (simp [*]; done)), H', ⟨Nat.le_refl _⟩, ⟨by first | exact Kd.R_nil _ _ _ _ _ | exact Kd.N_nil _ _ _ _ _ | exact Kd.V_nil _ _ _ _ _ | exact Kd.Q_nil _ _ _ _ _ | exact Kd.S_nil _ _ _ _ _⟩, ⟨bB⟩⟩
 case round =>
  clear H'
  try clear c1
  obtain ⟨x3_1, x4_1, rfl, HA, HK1, HO_3, HB⟩ := hrel
  cases gk with
  | zero => exact absurd HA.out (by simp [verditerref04_list.l0])
  | succ k1 =>
   have H := HA.out
   clear HA
   simp only [verditerref04_list.l0] at H
   obtain ⟨ji2, hji2⟩ : ∃ j_ : Int, (IntKind.u64.wrap (x4_1)) = j_ := ⟨_, rfl⟩
   replace H : (if 0 ≤ (ji2) then (if (shr .i64 a0 (ji2)) > 0 then (if (Go.bits .and .i64 (shr .i64 a0 (ji2)) 1) = 1 then (if x3_1.length < 17592186044416 then (verditerref04_list.l0 k1 a0 (x3_1 ++ [x4_1]) (wrap64 (x4_1 + 1))) else (none)) else (verditerref04_list.l0 k1 a0 x3_1 (wrap64 (x4_1 + 1)))) else (some x3_1)) else (none)) = some r := by first | (rw [hji2] at H; exact H) | (simp only [hji2] at H ⊢; exact H)
   by_cases c3 : 0 ≤ (ji2)
   ·
    rw [if_pos c3] at H
    have c3b0 := eq_true c3
    have c3b1 : decide (0 ≤ (ji2)) = true := decide_eq_true c3
    clear c3
    obtain ⟨ji4, hji4⟩ : ∃ j_ : Int, (shr .i64 a0 (ji2)) = j_ := ⟨_, rfl⟩
    replace H : (if (ji4) > 0 then (if (Go.bits .and .i64 (ji4) 1) = 1 then (if x3_1.length < 17592186044416 then (verditerref04_list.l0 k1 a0 (x3_1 ++ [x4_1]) (wrap64 (x4_1 + 1))) else (none)) else (verditerref04_list.l0 k1 a0 x3_1 (wrap64 (x4_1 + 1)))) else (some x3_1)) = some r := by first | (rw [hji4] at H; exact H) | (simp only [hji4] at H ⊢; exact H)
    have hji4_ : (a0 / 2 ^ min (ji2).toNat 64) = ji4 := hji4
    have hji4z : (ji2) ≤ 64 → (a0 / 2 ^ (ji2).toNat) = ji4 := shr_small hji4
    by_cases c5 : (ji4) > 0
    ·
     rw [if_pos c5] at H
     have c5b0 : decide (0 < (ji4)) = true := decide_eq_true c5
     clear c5
     have c6b0 := eq_true (of_decide_eq_true (by assumption) : 0 ≤ (ji2))
     by_cases c8 : (Go.bits .and .i64 (ji4) 1) = 1
     ·
      rw [if_pos c8] at H
      have c8b0 : ((Go.bits .and .i64 (ji4) 1) == 1) = true := beq_iff_eq.mpr c8
      have c8b1 : ((Go.bits .and .i64 (ji4) 1) != 1) = false := bne_eq_false_iff_eq.mpr c8
      clear c8
      by_cases c9 : x3_1.length < 17592186044416
      ·
       rw [if_pos c9] at H
       have LMc9 := Aside0.mk c9
       clear c9
       obtain ⟨y101, hy101⟩ : ∃ y_ : List Int, y_ = (x3_1 ++ [x4_1]) := ⟨_, rfl⟩
       replace H : (verditerref04_list.l0 k1 a0 y101 (wrap64 (x4_1 + 1))) = some r := by first | (rw [hy101]; with_reducible exact H) | (have H2_ := (Option.bind_some _ _).symm.trans H; rw [hy101]; with_reducible exact H2_) | (have H2_ := (Option.bind_some _ _).symm.trans H; with_reducible exact H2_) | with_reducible exact H | (rw [hy101]; exact H) | exact H
       have Ny101 := Aside0.mk hy101
       clear hy101
       have H' := Aside0.mk H
       clear H
       go_wp2_with (first | ((with_reducible refine gate_builtin (b := .append) (xs := #[.tmp 18, .tmp 20]) rfl ?_); at_builtin; refine Kd.R_append (Kd.int .i64) (w0 := w) w.heap.size rfl (.tmp 18) (.tmp 20) 28 3 (.int .i64 0) 8 rfl Try.underlying28 info3 rfl (by decide) (by omega) u3 x3_1 x4_1 [.int .i64 x4_1] (fun _ => True) (fun _ => False) rfl rfl ?aP (fun _ hk => hk.elim) ?aF ?aO ?aB ?aS ?aL ?_; (case aP => exact rfl); (case aB => exact bB); (case aF => exact (fun _ _ => trivial)); (case aO => exact HO_3.out); (case aS => exact (below_size bB)); (case aL => have := LMc9.out; omega); intro v102 w10 ho hb hg hat; rw [← Ny101.out] at ho; have n0_ := Aside0.mk (hb); have n1_ := Aside0.mk (ho); clear HB; clear HO_3; have HB := n0_; have HO103 := n1_; clear n0_ n1_; clear ho hb hg hat))
       go_roundg k1
       case measure => have := HK1.out; omega
       case rel => exact ⟨(y101), (wrap64 (x4_1 + 1)), (by first | rfl | (simp; done) | (simp [*]; done)), H', ⟨by have := HK1.out; omega⟩, ⟨by (with_reducible repeat (first | apply Kd.R_alloc | apply Kd.R_drewN | apply Kd.R_drew)); exact HO103.out⟩, ⟨bB⟩⟩
      ·
       rw [if_neg c9] at H
       exact absurd H (by simp)
     ·
      rw [if_neg c8] at H
      have c8b0 : ((Go.bits .and .i64 (ji4) 1) == 1) = false := beq_eq_false_iff_ne.mpr c8
      have c8b1 : ((Go.bits .and .i64 (ji4) 1) != 1) = true := bne_iff_ne.mpr c8
      have H' := Aside0.mk H
      clear H
      go_wp2
      go_roundg k1
      case measure => have := HK1.out; omega
      case rel => exact ⟨(x3_1), (wrap64 (x4_1 + 1)), (by first | rfl | (simp; done) | (simp [*]; done)), H', ⟨by have := HK1.out; omega⟩, ⟨by (with_reducible repeat (first | apply Kd.R_alloc | apply Kd.R_drewN | apply Kd.R_drew)); exact HO_3.out⟩, ⟨bB⟩⟩
    ·
     rw [if_neg c5] at H
     have c5b0 : decide (0 < (ji4)) = false := decide_eq_false c5
     clear c5
     obtain rfl := Option.some.inj H
     go_wp2
     go_ret
     exact ⟨_, by first | rfl | (simp [errW_none, errW_some] <;> rfl) | (simp only [← hji2, ← hji4]; first | rfl | (simp [errW_none, errW_some] <;> rfl)) | (simp [*, errW_none, errW_some] <;> rfl), by (with_reducible repeat (first | apply Kd.R_alloc | apply Kd.R_drewN | apply Kd.R_drew)); exact HO_3.out, bB⟩
   ·
    rw [if_neg c3] at H
    exact absurd H (by simp)
end Go.Proofs.Ytdneelgnmnpanaa.P
end
