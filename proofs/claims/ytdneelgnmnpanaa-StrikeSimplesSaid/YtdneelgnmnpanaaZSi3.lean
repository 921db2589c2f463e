/- What the claim's last text wants, part 3: functions of the translation as Lean functions with their contracts, and plain theorems; no conditions beyond those that each theorem names. -/
import Derived.Test.YtdneelgnmnpanaaZSi2
import Derived.Great.BuildSlice
import Derived.Lib.AppendZeros
import Derived.WalkSpells
import Derived.Deep.MidRow
import Derived.Deep.WholeRow
import Derived.RegionTactic
import Derived.Deep.QuietTactic
import Derived.BigQuiet
import Derived.ChangeAlike
import Derived.Laws.Rows
import Derived.ChangeKeysEq
import Derived.Deep.Slices
import Derived.Deep.Fields
import Derived.ChangeSame
import Derived.ChangeSlices
import Derived.SizedLaws
import Derived.Lib.SmallJoins
set_option linter.unusedVariables false
set_option linter.unusedSimpArgs false
section
namespace Go.Proofs.Ytdneelgnmnpanaa.P
open Go.RowKit Go.Proofs.YtdneelgnmnpanaaW.PrintWords Go.Proofs.YtdneelgnmnpanaaW.PrintLast Go.Proofs.YtdneelgnmnpanaaW.PrintMore
attribute [local go_sem] max2_int min2_int max_two min_two max_three min_three max_four min_four
mutual
def Qh.l0 : Nat → List (List Int) → Int → List Int → Int → Option (List Int × Bool)
 | 0, _, _, _, _ => none
 | k + 1, x0, x4, x5, x6 => if x6 < (x5.length : Int) then (Qh.l1 k x0 x4 x5 x6 ([] : List Int) 0 0) else (some (([] : List Int), false))
def Qh.l1 : Nat → List (List Int) → Int → List Int → Int → List Int → Int → Int → Option (List Int × Bool)
 | 0, _, _, _, _, _, _, _ => none
 | k + 1, x0, x4, x5, x6, x7, x8, x9 => if x9 < x4 then ((some (([] : List (List Int)) : List (List Int))).bind fun cL => (if 0 ≤ x9 then (if x9 ≤ (x0.length : Int) then ((some (x0.take (x9 : Int).toNat : List (List Int))).bind fun dn => (if cL.length + dn.length < 5864062014805 then ((some (cL ++ dn : List (List Int))).bind fun dX => (if 0 ≤ (wrap64 (x9 + 1)) then (if (wrap64 (x9 + 1)) ≤ (x0.length : Int) then ((some (x0.drop ((wrap64 (x9 + 1)) : Int).toNat : List (List Int))).bind fun cK => (if dX.length + cK.length < 5864062014805 then (if 0 ≤ x6 then (if x6 < (x5.length : Int) then ((Qt.f k (rd x5 x6)).bind fun t125 => ((Qf.f k (dX ++ cK) t125).bind fun bm => (if (Int.tmod x9 2) = 1 then (if x7.length < 17592186044416 then ((QM.f k x8 (wrap64 (-bm))).bind fun eF => (Qh.l1 k x0 x4 x5 x6 (x7 ++ [wrap64 (-bm)]) eF (wrap64 (x9 + 1)))) else (none)) else (if x7.length < 17592186044416 then ((QM.f k x8 bm).bind fun eE => (Qh.l1 k x0 x4 x5 x6 (x7 ++ [bm]) eE (wrap64 (x9 + 1)))) else (none))))) else (none)) else (none)) else (none))) else (none)) else (none))) else (none))) else (none)) else (none))) else (if x8 = 0 then (Qh.l0 k x0 x4 x5 (wrap64 (x6 + 1))) else (if 0 < (x7.length : Int) then (if (rd x7 0) < 0 then (Qh.j2 k x4 x7 (wrap64 (-x8))) else (Qh.j2 k x4 x7 x8)) else (none)))
def Qh.j2 : Nat → Int → List Int → Int → Option (List Int × Bool)
 | 0, _, _, _ => none
 | k + 1, x4, x7, x8 => Qh.l2 k x4 x7 x8 0
def Qh.l2 : Nat → Int → List Int → Int → Int → Option (List Int × Bool)
 | 0, _, _, _, _ => none
 | k + 1, x4, x7, x8, x12 => if x12 < x4 then (if 0 ≤ x12 then (if x12 < (x7.length : Int) then (if x8 = 0 then (none) else ((some (x7.set (x12 : Int).toNat (wrap64 (Int.tdiv (rd x7 x12) x8)) : List Int)).bind fun iG => (if (rd iG x12) ≤ 0 then (some (([] : List Int), false)) else (Qh.l2 k x4 iG x8 (wrap64 (x12 + 1)))))) else (none)) else (none)) else (some (x7, true))
end
def Qh.f (k : Nat) (l0 : List (List Int)) : Option (List Int × Bool) := if 0 < (l0.length : Int) then ((Qw.f k ((Qu l0 0).length : Int) (wrap64 ((l0.length : Int) - 1))).bind fun t102 => (Qh.l0 k l0 (l0.length : Int) t102 0)) else (none)
def Qh.T11 : Bool × List (List Nat × List Nat) := (true, [([], []), ([], []), ([], []), ([1, 2], [1, 2]), ([0, 3], [0, 3]), ([], []), ([], []), ([6], [6]), ([5, 7], [5, 7]), ([4, 8, 4], [4, 8]), ([9, 9, 0, 1, 2, 3, 4, 5, 6, 7, 8, 9], [9])])
def Qh.B11 : List Nat := [0, 0, 0, 6, 15, 0, 0, 64, 224, 511, 1023]
theorem Qh.tab11 : rtab .any (opsOf Try.f104 11) = Qh.T11 := by kernel_rfl
theorem Qh.bits11 : waitsOk Qh.T11.2 Qh.B11 = true := by kernel_rfl
set_option maxHeartbeats 8000000 in
set_option maxRecDepth 100000 in
theorem Qh.calls (k : Nat) (P0_ : Nat → Prop) (A0 : Option Addr) (c0 : Nat) (l0 : List (List Int)) (r1 : List Int) (r2 : Bool) (w : World) (hs0 : Kd.V (Kd.slice 3 (Kd.int .i64)) 28 w w.heap.size (fun k_ => P0_ k_) (.slice A0 l0.length c0) l0) (h : Qh.f k l0 = some (r1, r2)) :
  Calls Try.prog 104 #[.slice A0 l0.length c0] w fun e w' => ∃ v0_ : Value, e = .returned (.tuple #[v0_, .bool r2]) ∧ Kd.R (Kd.int .i64) 3 w' w.heap.size (fun k_ => (w.heap.size ≤ k_)) v0_ r1 ∧ Below w.heap.size w w' := by
 have HO0 := aa.mk (show Kd.V (Kd.slice 3 (Kd.int .i64)) 28 w w.heap.size (fun k_ => (P0_ k_ ∨ w.heap.size ≤ k_)) (.slice A0 l0.length c0) l0 from Kd.Z6 hs0 (fun k_ hk => .inl hk)); have HB := aa.mk (Below.refl w.heap.size w); have H : (if 0 < (l0.length : Int) then ((Qw.f k ((Qu l0 0).length : Int) (wrap64 ((l0.length : Int) - 1))).bind fun t102 => (Qh.l0 k l0 (l0.length : Int) t102 0)) else (none)) = some (r1, r2) := h; clear h; by_cases c2 : 0 < (l0.length : Int)
 ·rw [if_pos c2] at H; have pc : decide (0 < (l0.length : Int)) = true := decide_eq_true c2; have tw : decide (0 < l0.length) = true := decide_eq_true (by omega); clear c2; replace H := Option.bind_eq_some_iff.mp H; obtain ⟨t102, A30, H⟩ := H; replace H : (Qh.l0 k l0 (l0.length : Int) t102 0) = some (r1, r2) := H; have A3 := aa.mk A30; clear A30; have H' := aa.mk H; clear H; have bw : 0 ≤ (0 : Int) := (by omega); have bu : 0 < (l0.length : Int) := of_decide_eq_true (by assumption); obtain ⟨cb, iY, iW, dJ, aK, cj, cl⟩ := ZO (Kd.Z9 HO0.out).2.2 0 bw bu; cases dJ; obtain ⟨zX, sP, sW, oL⟩ := Kd.V_get HO0.out [] 0 bw (by first | exact bu | exact of_decide_eq_true (by assumption) | (have e_ := (Kd.Z9 HO0.out).1; omega)); obtain ⟨wB, wv, rfl, kF, k8⟩ := Kd.Zs sW; have jz := oL 0 _ rfl; rw [Nat.add_zero, show ((Kd.slice 3 (Kd.int .i64))).sz = 1 from rfl, Nat.mul_one] at jz; replace jz := Option.some.inj (jz.symm.trans aK); injection jz with hva_ hvn_ hvc_
  rw [hva_] at k8; rw [hvc_] at kF; have nV := aa.mk (show Kd.V (Kd.int .i64) 3 _ w.heap.size _ _ (Qu l0 0) from Kd.V_mk kF k8); clear hva_ hvn_ hvc_ k8 kF; clear oL sP; have rh : (0 < l0.length) = True := eq_true (by omega); (try rw [show ((0 : Int)).toNat = 0 from rfl] at aK)
  (try rw [Addr.add_zero'] at aK)
  have cC := aa.mk cl; have dm := aa.mk cj; clear cl cj; replace bw := eq_true bw; replace bu := eq_true bu; go_enter Try.func104, Try.ntmps104; go_wp2_with (first | ((with_reducible refine Qg (f := 123) rfl ?_); refine QG (some 21) rfl rfl Try.func123 (by kernel_rfl) rfl #[.int .i64 ((Qu l0 0).length : Int), .int .i64 (wrap64 ((l0.length : Int) - 1))] rfl hA ?_; (with_reducible refine (Qw.calls k ((Qu l0 0).length : Int) (wrap64 ((l0.length : Int) - 1)) t102 _ A3.out).mono ?_); rintro e w4 ⟨iI, rfl, ho0, hb⟩; refine ⟨_, rfl, ?_⟩; replace HO0 := aa.mk (Kd.ZX HO0.out (Kd.QS ho0) hb); replace nV := aa.mk (Kd.ZX nV.out (Kd.QS ho0) hb); have a8 := aa.mk (Kd.Zg (Kd.V7 (M := fun k_ => (w.heap.size ≤ k_)) ho0 (Qc bB) (fun k_ h_ => h_)) (Qc bB)); replace cC := aa.mk (Kd.Qo (by repeat (first | (with_reducible exact cC.out) | (with_reducible refine Kd.C_alloc ?_ _) | (with_reducible refine Kd.ZM ?_ _) | (with_reducible refine Kd.C_drew ?_) | exact cC.out)) hb); replace HB := aa.mk (Qa bB hb); (try clear hb); (try clear hb2); (try clear hk); (try clear hi); (try clear ho0)))
  go_loopg [6] k (fun kq v6 w' => ∃ (ao : List Int) (ax : Int), v6 = .int .i64 ax ∧ aa (Qh.l0 kq l0 (l0.length : Int) ao ax = some (r1, r2)) ∧ aa (kq ≤ k) ∧ aa (Kd.V (Kd.slice 3 (Kd.int .i64)) 28 w' w.heap.size (fun k_ => (P0_ k_ ∨ w.heap.size ≤ k_) ∧ some k_ ≠ (iI : Value).ownBlock) (.slice (some cb) l0.length c0) l0) ∧ aa (Kd.R (Kd.int .i64) 3 w' w.heap.size (fun k_ => (w.heap.size ≤ k_)) iI ao) ∧ aa (Below w.heap.size w w'))
  case atStart => exact ⟨(t102), (0), (by first | rfl | (simp; done) | (simp [*]; done)), H', ⟨Nat.le_refl _⟩, ⟨by (with_reducible repeat (first | apply Kd.V_alloc | apply Kd.ZL | apply Kd.ZI)); exact HO0.out⟩, ⟨by (with_reducible repeat (first | apply Kd.R_alloc | apply Kd.QI | apply Kd.QN)); exact Kd.Q8 a8.out (fun _ hk => hk.1)⟩, ⟨bB⟩⟩
  case round =>
   clear H'; try clear c1
   try clear p1
   try clear q1
   try clear hx1
   try clear qi1
   try clear c2
   try clear pc
   try clear tw
   try clear p2
   try clear aK
   try clear bw
   try clear bu
   obtain ⟨ao, ax, rfl, HA, HK1, bQ, bj, HB⟩ := hrel; cases gk with
   | zero => exact absurd HA.out (by simp [Qh.l0])
   | succ k1 =>
    have H := HA.out; clear HA; simp only [Qh.l0] at H; by_cases c5 : ax < (ao.length : Int)
    ·rw [if_pos c5] at H; have dq : decide (ax < (ao.length : Int)) = true := decide_eq_true c5; clear c5; have H' := aa.mk H; clear H; obtain ⟨Ao6, co6, eo6⟩ := Kd.Zc bj.out; subst eo6; go_wp2; go_loopg [7, 8, 9] k1 (fun kq v7 v8 v9 w' => ∃ (aE : List Int) (bs : Int) (bT : Int), v8 = .int .i64 bs ∧ v9 = .int .i64 bT ∧ aa (Qh.l1 kq l0 (l0.length : Int) ao ax aE bs bT = some (r1, r2)) ∧ aa (kq ≤ k1) ∧ aa (Kd.V (Kd.slice 3 (Kd.int .i64)) 28 w' w.heap.size (fun k_ => (P0_ k_ ∨ w.heap.size ≤ k_) ∧ some k_ ≠ ((.slice Ao6 ao.length co6) : Value).ownBlock ∧ some k_ ≠ (v7 : Value).ownBlock) (.slice (some cb) l0.length c0) l0) ∧ aa (Kd.R (Kd.int .i64) 3 w' w.heap.size (fun k_ => (w.heap.size ≤ k_) ∧ some k_ ≠ (v7 : Value).ownBlock) (.slice Ao6 ao.length co6) ao) ∧ aa (Kd.R (Kd.int .i64) 3 w' w.heap.size (fun k_ => (w.heap.size ≤ k_) ∧ some k_ ≠ ((.slice Ao6 ao.length co6) : Value).ownBlock) v7 aE) ∧ aa (Below w.heap.size w w'))
     case atStart => exact ⟨(([] : List Int)), (0), (0), (by first | rfl | (simp; done) | (simp [*]; done)), (by first | rfl | (simp; done) | (simp [*]; done)), H', ⟨Nat.le_refl _⟩, ⟨by (with_reducible repeat (first | apply Kd.V_alloc | apply Kd.ZL | apply Kd.ZI)); exact Kd.Z6 bQ.out (fun _ hk => ⟨hk.1, ⟨hk.2, (by simp [Value.ownBlock])⟩⟩)⟩, ⟨by (with_reducible repeat (first | apply Kd.R_alloc | apply Kd.QI | apply Kd.QN)); exact Kd.Q8 bj.out (fun _ hk => ⟨hk, (by simp [Value.ownBlock])⟩)⟩, ⟨by first | exact Kd.Yg _ _ _ _ _ | exact Kd.Yp _ _ _ _ _ | exact Kd.V_nil _ _ _ _ _ | exact Kd.Q_nil _ _ _ _ _ | exact Kd.Ys _ _ _ _ _⟩, ⟨bB⟩⟩
     case round =>
      clear H'; try clear c1
      try clear p1
      try clear q1
      try clear hx1
      try clear qi1
      try clear c2
      try clear pc
      try clear tw
      try clear p2
      try clear c5
      try clear dq
      try clear p6
      try clear aK
      try clear p1
      try clear bw
      try clear p2
      try clear q1
      try clear bu
      obtain ⟨aE, bs, bT, rfl, rfl, HA, HK2, bQ, bj, aC, HB⟩ := hrel; cases gk with
      | zero => exact absurd HA.out (by simp [Qh.l1])
      | succ k2 =>
       have H := HA.out; clear HA; simp only [Qh.l1] at H; by_cases c7 : bT < (l0.length : Int)
       ·rw [if_pos c7] at H; have jm : decide (bT < (l0.length : Int)) = true := decide_eq_true c7; clear c7; obtain ⟨cL, cM⟩ : ∃ y_ : List (List Int), y_ = (([] : List (List Int))) := ⟨_, rfl⟩; replace H : (if 0 ≤ bT then (if bT ≤ (l0.length : Int) then ((some (l0.take (bT : Int).toNat : List (List Int))).bind fun dn => (if cL.length + dn.length < 5864062014805 then ((some (cL ++ dn : List (List Int))).bind fun dX => (if 0 ≤ (wrap64 (bT + 1)) then (if (wrap64 (bT + 1)) ≤ (l0.length : Int) then ((some (l0.drop ((wrap64 (bT + 1)) : Int).toNat : List (List Int))).bind fun cK => (if dX.length + cK.length < 5864062014805 then (if 0 ≤ ax then (if ax < (ao.length : Int) then ((Qt.f k2 (rd ao ax)).bind fun t125 => ((Qf.f k2 (dX ++ cK) t125).bind fun bm => (if (Int.tmod bT 2) = 1 then (if aE.length < 17592186044416 then ((QM.f k2 bs (wrap64 (-bm))).bind fun eF => (Qh.l1 k2 l0 (l0.length : Int) ao ax (aE ++ [wrap64 (-bm)]) eF (wrap64 (bT + 1)))) else (none)) else (if aE.length < 17592186044416 then ((QM.f k2 bs bm).bind fun eE => (Qh.l1 k2 l0 (l0.length : Int) ao ax (aE ++ [bm]) eE (wrap64 (bT + 1)))) else (none))))) else (none)) else (none)) else (none))) else (none)) else (none))) else (none))) else (none)) else (none)) = some (r1, r2) := by first | (rw [cM]; with_reducible exact H) | (have H2_ := (Option.bind_some _ _).symm.trans H; rw [cM]; with_reducible exact H2_) | (have H2_ := (Option.bind_some _ _).symm.trans H; with_reducible exact H2_) | with_reducible exact H | (rw [cM]; exact H) | exact H
        have gN := aa.mk cM; clear cM; by_cases c8 : 0 ≤ bT
        ·rw [if_pos c8] at H; have dQ := eq_true c8; have iU : decide (0 ≤ bT) = true := decide_eq_true c8; clear c8; by_cases c9 : bT ≤ (l0.length : Int)
         ·rw [if_pos c9] at H; have eU := eq_true c9; have zi : decide (bT ≤ (l0.length : Int)) = true := decide_eq_true c9; clear c9; obtain ⟨dn, eb⟩ : ∃ y_ : List (List Int), y_ = (l0.take (bT : Int).toNat) := ⟨_, rfl⟩; replace H : (if cL.length + dn.length < 5864062014805 then ((some (cL ++ dn : List (List Int))).bind fun dX => (if 0 ≤ (wrap64 (bT + 1)) then (if (wrap64 (bT + 1)) ≤ (l0.length : Int) then ((some (l0.drop ((wrap64 (bT + 1)) : Int).toNat : List (List Int))).bind fun cK => (if dX.length + cK.length < 5864062014805 then (if 0 ≤ ax then (if ax < (ao.length : Int) then ((Qt.f k2 (rd ao ax)).bind fun t125 => ((Qf.f k2 (dX ++ cK) t125).bind fun bm => (if (Int.tmod bT 2) = 1 then (if aE.length < 17592186044416 then ((QM.f k2 bs (wrap64 (-bm))).bind fun eF => (Qh.l1 k2 l0 (l0.length : Int) ao ax (aE ++ [wrap64 (-bm)]) eF (wrap64 (bT + 1)))) else (none)) else (if aE.length < 17592186044416 then ((QM.f k2 bs bm).bind fun eE => (Qh.l1 k2 l0 (l0.length : Int) ao ax (aE ++ [bm]) eE (wrap64 (bT + 1)))) else (none))))) else (none)) else (none)) else (none))) else (none)) else (none))) else (none)) = some (r1, r2) := by first | (rw [eb]; with_reducible exact H) | (have H2_ := (Option.bind_some _ _).symm.trans H; rw [eb]; with_reducible exact H2_) | (have H2_ := (Option.bind_some _ _).symm.trans H; with_reducible exact H2_) | with_reducible exact H | (rw [eb]; exact H) | exact H
          have iA := aa.mk eb; clear eb; by_cases c10 : cL.length + dn.length < 5864062014805
          ·rw [if_pos c10] at H; have r7 := aa.mk c10; clear c10; obtain ⟨dX, dY⟩ : ∃ y_ : List (List Int), y_ = (cL ++ dn) := ⟨_, rfl⟩; replace H : (if 0 ≤ (wrap64 (bT + 1)) then (if (wrap64 (bT + 1)) ≤ (l0.length : Int) then ((some (l0.drop ((wrap64 (bT + 1)) : Int).toNat : List (List Int))).bind fun cK => (if dX.length + cK.length < 5864062014805 then (if 0 ≤ ax then (if ax < (ao.length : Int) then ((Qt.f k2 (rd ao ax)).bind fun t125 => ((Qf.f k2 (dX ++ cK) t125).bind fun bm => (if (Int.tmod bT 2) = 1 then (if aE.length < 17592186044416 then ((QM.f k2 bs (wrap64 (-bm))).bind fun eF => (Qh.l1 k2 l0 (l0.length : Int) ao ax (aE ++ [wrap64 (-bm)]) eF (wrap64 (bT + 1)))) else (none)) else (if aE.length < 17592186044416 then ((QM.f k2 bs bm).bind fun eE => (Qh.l1 k2 l0 (l0.length : Int) ao ax (aE ++ [bm]) eE (wrap64 (bT + 1)))) else (none))))) else (none)) else (none)) else (none))) else (none)) else (none)) = some (r1, r2) := by first | (rw [dY]; with_reducible exact H) | (have H2_ := (Option.bind_some _ _).symm.trans H; rw [dY]; with_reducible exact H2_) | (have H2_ := (Option.bind_some _ _).symm.trans H; with_reducible exact H2_) | with_reducible exact H | (rw [dY]; exact H) | exact H
           have kv := aa.mk dY; clear dY; obtain ⟨bU, gB⟩ : ∃ j_ : Int, (wrap64 (bT + 1)) = j_ := ⟨_, rfl⟩; replace H : (if 0 ≤ (bU) then (if (bU) ≤ (l0.length : Int) then ((some (l0.drop ((bU) : Int).toNat : List (List Int))).bind fun cK => (if dX.length + cK.length < 5864062014805 then (if 0 ≤ ax then (if ax < (ao.length : Int) then ((Qt.f k2 (rd ao ax)).bind fun t125 => ((Qf.f k2 (dX ++ cK) t125).bind fun bm => (if (Int.tmod bT 2) = 1 then (if aE.length < 17592186044416 then ((QM.f k2 bs (wrap64 (-bm))).bind fun eF => (Qh.l1 k2 l0 (l0.length : Int) ao ax (aE ++ [wrap64 (-bm)]) eF bU)) else (none)) else (if aE.length < 17592186044416 then ((QM.f k2 bs bm).bind fun eE => (Qh.l1 k2 l0 (l0.length : Int) ao ax (aE ++ [bm]) eE bU)) else (none))))) else (none)) else (none)) else (none))) else (none)) else (none)) = some (r1, r2) := by first | (rw [gB] at H; exact H) | (simp only [gB] at H ⊢; exact H)
           have yl : (IntKind.i64.wrap (bT + 1)) = bU := (Qy _).trans gB; by_cases c12 : 0 ≤ (bU)
           ·rw [if_pos c12] at H; have eO := eq_true c12; have kt : decide (0 ≤ (bU)) = true := decide_eq_true c12; clear c12; by_cases c13 : (bU) ≤ (l0.length : Int)
            ·rw [if_pos c13] at H; have ks := eq_true c13; have rR : decide ((bU) ≤ (l0.length : Int)) = true := decide_eq_true c13; clear c13; obtain ⟨cK, lK⟩ : ∃ y_ : List (List Int), y_ = (l0.drop ((bU) : Int).toNat) := ⟨_, rfl⟩; replace H : (if dX.length + cK.length < 5864062014805 then (if 0 ≤ ax then (if ax < (ao.length : Int) then ((Qt.f k2 (rd ao ax)).bind fun t125 => ((Qf.f k2 (dX ++ cK) t125).bind fun bm => (if (Int.tmod bT 2) = 1 then (if aE.length < 17592186044416 then ((QM.f k2 bs (wrap64 (-bm))).bind fun eF => (Qh.l1 k2 l0 (l0.length : Int) ao ax (aE ++ [wrap64 (-bm)]) eF bU)) else (none)) else (if aE.length < 17592186044416 then ((QM.f k2 bs bm).bind fun eE => (Qh.l1 k2 l0 (l0.length : Int) ao ax (aE ++ [bm]) eE bU)) else (none))))) else (none)) else (none)) else (none)) = some (r1, r2) := by first | (rw [lK]; with_reducible exact H) | (have H2_ := (Option.bind_some _ _).symm.trans H; rw [lK]; with_reducible exact H2_) | (have H2_ := (Option.bind_some _ _).symm.trans H; with_reducible exact H2_) | with_reducible exact H | (rw [lK]; exact H) | exact H
             have nK := aa.mk lK; clear lK; by_cases c14 : dX.length + cK.length < 5864062014805
             ·rw [if_pos c14] at H; have nO := aa.mk c14; clear c14; obtain ⟨dW, gm⟩ : ∃ y_ : List (List Int), y_ = (dX ++ cK) := ⟨_, rfl⟩; replace H : (if 0 ≤ ax then (if ax < (ao.length : Int) then ((Qt.f k2 (rd ao ax)).bind fun t125 => ((Qf.f k2 dW t125).bind fun bm => (if (Int.tmod bT 2) = 1 then (if aE.length < 17592186044416 then ((QM.f k2 bs (wrap64 (-bm))).bind fun eF => (Qh.l1 k2 l0 (l0.length : Int) ao ax (aE ++ [wrap64 (-bm)]) eF bU)) else (none)) else (if aE.length < 17592186044416 then ((QM.f k2 bs bm).bind fun eE => (Qh.l1 k2 l0 (l0.length : Int) ao ax (aE ++ [bm]) eE bU)) else (none))))) else (none)) else (none)) = some (r1, r2) := by first | (rw [gm]; with_reducible exact H) | (have H2_ := (Option.bind_some _ _).symm.trans H; rw [gm]; with_reducible exact H2_) | (have H2_ := (Option.bind_some _ _).symm.trans H; with_reducible exact H2_) | with_reducible exact H | (rw [gm]; exact H) | exact H
              have l8 := aa.mk gm; clear gm; by_cases c15 : 0 ≤ ax
              ·rw [if_pos c15] at H; have gI : decide (0 ≤ ax) = true := decide_eq_true c15; clear c15; by_cases c16 : ax < (ao.length : Int)
               ·rw [if_pos c16] at H; have gH : decide (ax < (ao.length : Int)) = true := decide_eq_true c16; clear c16; replace H := Option.bind_eq_some_iff.mp H; obtain ⟨t125, wg, H⟩ := H; replace H : ((Qf.f k2 dW t125).bind fun bm => (if (Int.tmod bT 2) = 1 then (if aE.length < 17592186044416 then ((QM.f k2 bs (wrap64 (-bm))).bind fun eF => (Qh.l1 k2 l0 (l0.length : Int) ao ax (aE ++ [wrap64 (-bm)]) eF bU)) else (none)) else (if aE.length < 17592186044416 then ((QM.f k2 bs bm).bind fun eE => (Qh.l1 k2 l0 (l0.length : Int) ao ax (aE ++ [bm]) eE bU)) else (none)))) = some (r1, r2) := H; have A17 := aa.mk wg; clear wg; replace H := Option.bind_eq_some_iff.mp H; obtain ⟨bm, we, H⟩ := H; replace H : (if (Int.tmod bT 2) = 1 then (if aE.length < 17592186044416 then ((QM.f k2 bs (wrap64 (-bm))).bind fun eF => (Qh.l1 k2 l0 (l0.length : Int) ao ax (aE ++ [wrap64 (-bm)]) eF bU)) else (none)) else (if aE.length < 17592186044416 then ((QM.f k2 bs bm).bind fun eE => (Qh.l1 k2 l0 (l0.length : Int) ao ax (aE ++ [bm]) eE bU)) else (none))) = some (r1, r2) := H; have A18 := aa.mk we; clear we; by_cases c19 : (Int.tmod bT 2) = 1
                ·rw [if_pos c19] at H; have cN : ((Int.tmod bT 2) == 1) = true := beq_iff_eq.mpr c19; have g8 : ((Int.tmod bT 2) != 1) = false := bne_eq_false_iff_eq.mpr c19; clear c19; by_cases c20 : aE.length < 17592186044416
                 ·rw [if_pos c20] at H; have ma := aa.mk c20; clear c20; obtain ⟨kj, gl⟩ : ∃ y_ : List Int, y_ = (aE ++ [wrap64 (-bm)]) := ⟨_, rfl⟩; replace H : ((QM.f k2 bs (wrap64 (-bm))).bind fun eF => (Qh.l1 k2 l0 (l0.length : Int) ao ax kj eF bU)) = some (r1, r2) := by first | (rw [gl]; with_reducible exact H) | (have H2_ := (Option.bind_some _ _).symm.trans H; rw [gl]; with_reducible exact H2_) | (have H2_ := (Option.bind_some _ _).symm.trans H; with_reducible exact H2_) | with_reducible exact H | (rw [gl]; exact H) | exact H
                  have nH := aa.mk gl; clear gl; replace H := Option.bind_eq_some_iff.mp H; obtain ⟨eF, pF, H⟩ := H; replace H : (Qh.l1 k2 l0 (l0.length : Int) ao ax kj eF bU) = some (r1, r2) := H; have A21 := aa.mk pF; clear pF; have H' := aa.mk H; clear H; try go_wp2
                  replace bQ := aa.mk (Kd.ZI bQ.out); replace bj := aa.mk (Kd.QN bj.out); replace aC := aa.mk (Kd.QN aC.out); replace HB := aa.mk (QP HB.out); have q23 : (bT : Int) ≤ ((l0.length : Int) : Int) := of_decide_eq_true (by assumption); obtain ⟨AK, rB, _, ui, _⟩ := info_parts info28; have ng : l0.length ≤ c0 := (Kd.Z9 bQ.out).2.1; have uH : Kd.F (Kd.slice 3 (Kd.int .i64)) _ _ (some cb) l0.length l0 := (Kd.V_at (base := w.heap.size) bQ.out).2.2; have sK := cut_to (P := Try.prog) 22 28 .i64 Try.underlying22 rB (some cb) l0.length c0 bT (of_decide_eq_true (by assumption)) q23 ng; have sx := Kd.F_take (m := (bT : Int).toNat) uH (by omega); have sn : dn.length = (bT : Int).toNat := (by rw [iA.out, List.length_take]; omega); rw [← iA.out] at sx; rw [← sn] at sK; have bF := aa.mk (show Kd.V (Kd.slice 3 (Kd.int .i64)) 28 _ w.heap.size _ (.slice (some cb) dn.length c0) dn from Kd.V_mk (by omega) sx); have vN := aa.mk (show dn.length ≤ c0 from by omega); clear sx uH ng rB ui; have Bq := aa.mk sn; clear sn; replace q23 := eq_true q23; have q24 : ((bU) : Int) ≤ ((l0.length : Int) : Int) := of_decide_eq_true (by assumption); obtain ⟨AJ, rA, _, rm, _⟩ := info_parts info28; have jB : l0.length ≤ c0 := (Kd.Z9 bQ.out).2.1; have uG : Kd.F (Kd.slice 3 (Kd.int .i64)) _ _ (some cb) l0.length l0 := (Kd.V_at (base := w.heap.size) bQ.out).2.2; have sh : (0 : Int) ≤ ((bU) : Int) := of_decide_eq_true (by assumption); have sJ := US (P := Try.prog) 22 28 .i64 Try.underlying22 rA 1 rm (some cb) l0.length c0 (bU) sh q24; have oy := Kd.F_cut (m := ((bU) : Int).toNat) (c := c0) uG (by omega) jB; obtain ⟨A24, qF⟩ : ∃ A1, A1 = (if c0 = ((bU) : Int).toNat then (some cb) else ((some cb) : Option Addr).map (·.add (((bU) : Int).toNat * 1))) := ⟨_, rfl⟩; obtain ⟨c24, qC⟩ : ∃ c1, c1 = c0 - ((bU) : Int).toNat := ⟨_, rfl⟩; have ou : cK.length = l0.length - ((bU) : Int).toNat := (by rw [nK.out, List.length_drop] <;> omega); rw [show (l0).drop ((bU) : Int).toNat = cK from nK.out.symm] at oy; replace oy : Kd.F (Kd.slice 3 (Kd.int .i64)) _ _ A24 cK.length cK := (by rw [qF]; exact oy); rw [← ou, ← qF, ← qC] at sJ; have aU := aa.mk (show Kd.V (Kd.slice 3 (Kd.int .i64)) 28 _ w.heap.size _ (.slice A24 cK.length c24) cK from Kd.V_mk (by rw [ou, qC]; exact Nat.sub_le_sub_right jB _) oy); have vK := aa.mk (show cK.length ≤ c24 from by rw [ou, qC]; exact Nat.sub_le_sub_right jB _); clear oy uG jB rA rm qC; have Bp := aa.mk ou; have Bt := aa.mk qF; clear ou qF; replace q24 := eq_true q24; refine Yt (n := 11) (S := fun w' => True) (ds := []) #[false, false, false, false, false, false, false, false, false, false, false] (by kernel_rfl) rfl rfl trivial (fun hHeld => ?_); refine ZV Qh.tab11 Qh.bits11 (fun HT_ HW_ => ?_); generalize wr.drew = w22 at bQ bj aC HB bF aU hHeld ⊢; refine QX (i := 1) (N := some 34) (v := ?_) (a' := ?_) #[false, true, false, false, false, false, false, false, false, false, false] rfl rfl (QK HT_.out (by kernel_rfl)) (fun _ _ _ h => h) (Or.inl ⟨by rfl, ?_⟩) ?_ ?_; rotate_left
                  ·intro w'; go_simp; with_reducible rfl
                  rotate_left
                  ·simp only [Act.put, zA, zB, zC, Qy, QB]; rfl
                  refine QX (i := 2) (N := some 35) (v := ?_) (a' := ?_) #[false, true, true, false, false, false, false, false, false, false, false] rfl rfl (QK HT_.out (by kernel_rfl)) (fun _ _ _ h => h) (Or.inl ⟨by rfl, ?_⟩) ?_ ?_; rotate_left
                  ·intro w'; go_simp; with_reducible rfl
                  rotate_left
                  ·simp only [Act.put, zA, zB, zC, Qy, QB]; rfl
                  refine QX (i := 3) (N := some 36) (v := ?_) (a' := ?_) #[false, true, true, true, false, false, false, false, false, false, false] rfl rfl (QK HT_.out (by kernel_rfl)) (fun _ _ _ h => h) (Or.inl ⟨by rfl, ?_⟩) ?_ ?_; rotate_left
                  ·intro w'; go_simp; with_reducible rfl
                  rotate_left
                  ·simp only [Act.put, zA, zB, zC, Qy, QB]; rfl
                  refine QX (i := 5) (N := some 38) (v := ?_) (a' := ?_) #[false, true, true, true, false, true, false, false, false, false, false] rfl rfl (QK HT_.out (by kernel_rfl)) (fun _ _ _ h => h) (Or.inl ⟨by rfl, ?_⟩) ?_ ?_; rotate_left
                  ·intro w'; go_simp; with_reducible rfl
                  rotate_left
                  ·simp only [Act.put, zA, zB, zC, Qy, QB]; rfl
                  refine QX (i := 6) (N := some 39) (v := ?_) (a' := ?_) #[false, true, true, true, false, true, true, false, false, false, false] rfl rfl (QK HT_.out (by kernel_rfl)) (fun _ _ _ h => h) (Or.inl ⟨by rfl, ?_⟩) ?_ ?_; rotate_left
                  ·intro w'; go_simp; with_reducible rfl
                  rotate_left
                  ·simp only [Act.put, zA, zB, zC, Qy, QB]; rfl
                  refine QX (i := 7) (N := some 40) (v := ?_) (a' := ?_) #[false, true, true, true, false, true, true, true, false, false, false] rfl rfl (QK HT_.out (by kernel_rfl)) (fun _ _ _ h => h) (Or.inl ⟨by rfl, ?_⟩) ?_ ?_; rotate_left
                  ·intro w'; go_simp; with_reducible rfl
                  rotate_left
                  ·simp only [Act.put, zA, zB, zC, Qy, QB]; rfl
                  refine QX (i := 8) (N := some 41) (v := ?_) (a' := ?_) #[false, true, true, true, false, true, true, true, true, false, false] rfl rfl (QK HT_.out (by kernel_rfl)) (fun _ _ _ h => h) (Or.inl ⟨by rfl, ?_⟩) ?_ ?_; rotate_left
                  ·intro w'; go_simp; with_reducible rfl
                  rotate_left
                  ·simp only [Act.put, zA, zB, zC, Qy, QB]; rfl
                  refine one_ (i := 0) (N := some 33) #[true, true, true, true, false, true, true, true, true, false, false] rfl rfl (ZT HT_.out (by kernel_rfl)) (by decide) (fun K hK => ?_); refine Kd.VH (Kd.slice 3 (Kd.int .i64)) _ 28 ?hg (N' := 33) ?hd (xs := ([] : List (List Int))) (inner := []) (ok := (fun k_ => (P0_ k_ ∨ w.heap.size ≤ k_) ∧ some k_ ≠ (.slice Ao6 ao.length co6 : Value).ownBlock ∧ some k_ ≠ (u7 : Value).ownBlock)) (okp := (fun k_ => (P0_ k_ ∨ w.heap.size ≤ k_) ∧ some k_ ≠ (.slice Ao6 ao.length co6 : Value).ownBlock ∧ some k_ ≠ (u7 : Value).ownBlock)) ?hr ?hp (fun _ hk => hk) ((show ∀ k_, w22.heap.size ≤ k_ → (fun k_ => (P0_ k_ ∨ w.heap.size ≤ k_) ∧ some k_ ≠ (.slice Ao6 ao.length co6 : Value).ownBlock ∧ some k_ ≠ (u7 : Value).ownBlock) k_ from fun k_ hk => ⟨(.inr (Nat.le_trans (Qc bB) hk)), Kd.fresh' (Kd.R_lt bj.out) k_ hk, Kd.fresh' (Kd.R_lt aC.out) k_ hk⟩) _ (Nat.le_refl _)) (Below.refl _ _) (Nat.le_refl _) (by simp) ?_; (case hd => rfl); (case hg => rfl); (case hr => first | (go_simp; done) | (go_simp; rfl)); (case hp => exact (Reps.none _ _)); intro hH w25 lQ hb hg_ hnew_; clear hg_ hnew_; (first | rw [← gN.out] at lQ | (simp only [Int.reduceToNat] at lQ; rw [← gN.out] at lQ))
                  replace bQ := aa.mk (Kd.ZX bQ.out (Kd.Z8 lQ) hb); replace bj := aa.mk (Kd.QR bj.out hb); replace aC := aa.mk (Kd.QR aC.out hb); replace bF := aa.mk (Kd.ZX bF.out (Kd.Z8 lQ) hb); replace aU := aa.mk (Kd.ZX aU.out (Kd.Z8 lQ) hb); have bS := aa.mk (Kd.Yj lQ (Qc bB)); replace HB := aa.mk (Qa bB hb); clear hb lQ; refine hK.out _ _ trivial (fun hHeld => ?_); clear hK K; refine Yc (a' := ?_) ?_ ?_; rotate_left
                  ·show Act.put _ (some 33) _ = _
                   simp only [Act.put, zA, zB, zC, Qy, QB]; rfl
                  refine one_ (i := 4) (N := some 37) #[true, true, true, true, true, true, true, true, true, false, false] rfl rfl (ZT HT_.out (by kernel_rfl)) (by decide) (fun K hK => ?_); refine Kd.ZZ (Kd.slice 3 (Kd.int .i64)) (w0 := w) w.heap.size (by rfl) (.tmp 33) (.tmp 36) 22 28 (.slice none 0 0) 24 rfl Try.underlying22 info28 rfl (by decide) (by omega) hH cL dn _ _ _ (fun k_ => (P0_ k_ ∨ w.heap.size ≤ k_) ∧ some k_ ≠ (.slice Ao6 ao.length co6 : Value).ownBlock ∧ some k_ ≠ (u7 : Value).ownBlock) (fun k_ => ((fun k_ => (P0_ k_ ∨ w.heap.size ≤ k_) ∧ some k_ ≠ (.slice Ao6 ao.length co6 : Value).ownBlock ∧ some k_ ≠ (u7 : Value).ownBlock)) k_ ∧ some k_ ≠ (hH : Value).ownBlock) rfl rfl ?aO ?aR (fun _ hk => hk) ?aF ?aB ?aS ?aL ?_; (case aR => exact (by skip; exact Kd.V_F (Kd.Z6 (ok' := (fun k_ => ((fun k_ => (P0_ k_ ∨ w.heap.size ≤ k_) ∧ some k_ ≠ (.slice Ao6 ao.length co6 : Value).ownBlock ∧ some k_ ≠ (u7 : Value).ownBlock)) k_ ∧ some k_ ≠ (hH : Value).ownBlock)) (bF.out) (fun k_ hk => ⟨⟨hk.1.1, ⟨hk.1.2.1, hk.1.2.2⟩⟩, hk.2⟩))))
                  (case aB => exact bB)
                  (case aF => exact (fun k_ hk => ⟨(.inr (Nat.le_trans (Qc bB) hk)), Kd.fresh' (Kd.R_lt bj.out) k_ hk, Kd.fresh' (Kd.R_lt aC.out) k_ hk⟩))
                  (case aO => exact bS.out)
                  (case aS => exact (Qc bB))
                  (case aL => have := r7.out; omega)
                  intro lu w27 ho hb hg hat; rw [← kv.out] at ho; replace bQ := aa.mk (Kd.ZF (ok := (fun k_ => (P0_ k_ ∨ w.heap.size ≤ k_) ∧ some k_ ≠ (.slice Ao6 ao.length co6 : Value).ownBlock ∧ some k_ ≠ (u7 : Value).ownBlock)) bQ.out hg hat); replace bj := aa.mk (Kd.YZ bj.out (Kd.ZG bS.out) (by decide) hg); replace aC := aa.mk (Kd.YZ aC.out (Kd.ZG bS.out) (by decide) hg); replace bF := aa.mk (Kd.ZF (ok := (fun k_ => (P0_ k_ ∨ w.heap.size ≤ k_) ∧ some k_ ≠ (.slice Ao6 ao.length co6 : Value).ownBlock ∧ some k_ ≠ (u7 : Value).ownBlock)) bF.out hg hat); replace aU := aa.mk (Kd.ZF (ok := (fun k_ => (P0_ k_ ∨ w.heap.size ≤ k_) ∧ some k_ ≠ (.slice Ao6 ao.length co6 : Value).ownBlock ∧ some k_ ≠ (u7 : Value).ownBlock)) aU.out hg hat); replace HB := aa.mk (hb); have gP := aa.mk (ho); clear bS; clear ho hb hg hat; refine hK.out _ _ trivial (fun hHeld => ?_); clear hK K; refine Yc (a' := ?_) ?_ ?_; rotate_left
                  ·show Act.put _ (some 37) _ = _
                   simp only [Act.put, zA, zB, zC, Qy, QB]; rfl
                  refine one_ (i := 9) (N := some 42) #[true, true, true, true, true, true, true, true, true, true, false] rfl rfl (ZT HT_.out (by kernel_rfl)) (by decide) (fun K hK => ?_); refine Kd.ZZ (Kd.slice 3 (Kd.int .i64)) (w0 := w) w.heap.size (by rfl) (.tmp 37) (.tmp 41) 22 28 (.slice none 0 0) 24 rfl Try.underlying22 info28 rfl (by decide) (by omega) lu dX cK _ _ _ (fun k_ => (P0_ k_ ∨ w.heap.size ≤ k_) ∧ some k_ ≠ (.slice Ao6 ao.length co6 : Value).ownBlock ∧ some k_ ≠ (u7 : Value).ownBlock) (fun k_ => ((fun k_ => (P0_ k_ ∨ w.heap.size ≤ k_) ∧ some k_ ≠ (.slice Ao6 ao.length co6 : Value).ownBlock ∧ some k_ ≠ (u7 : Value).ownBlock)) k_ ∧ some k_ ≠ (lu : Value).ownBlock) rfl rfl ?aO ?aR (fun _ hk => hk) ?aF ?aB ?aS ?aL ?_; (case aR => exact (by skip; exact Kd.V_F (Kd.Z6 (ok' := (fun k_ => ((fun k_ => (P0_ k_ ∨ w.heap.size ≤ k_) ∧ some k_ ≠ (.slice Ao6 ao.length co6 : Value).ownBlock ∧ some k_ ≠ (u7 : Value).ownBlock)) k_ ∧ some k_ ≠ (lu : Value).ownBlock)) (aU.out) (fun k_ hk => ⟨⟨hk.1.1, ⟨hk.1.2.1, hk.1.2.2⟩⟩, hk.2⟩))))
                  (case aB => exact bB)
                  (case aF => exact (fun k_ hk => ⟨(.inr (Nat.le_trans (Qc bB) hk)), Kd.fresh' (Kd.R_lt bj.out) k_ hk, Kd.fresh' (Kd.R_lt aC.out) k_ hk⟩))
                  (case aO => exact gP.out)
                  (case aS => exact (Qc bB))
                  (case aL => have := nO.out; omega)
                  intro tX w28 ho hb hg hat; rw [← l8.out] at ho; replace bQ := aa.mk (Kd.ZF (ok := (fun k_ => (P0_ k_ ∨ w.heap.size ≤ k_) ∧ some k_ ≠ (.slice Ao6 ao.length co6 : Value).ownBlock ∧ some k_ ≠ (u7 : Value).ownBlock)) bQ.out hg hat); replace bj := aa.mk (Kd.YZ bj.out (Kd.ZG gP.out) (by decide) hg); replace aC := aa.mk (Kd.YZ aC.out (Kd.ZG gP.out) (by decide) hg); replace bF := aa.mk (Kd.ZF (ok := (fun k_ => (P0_ k_ ∨ w.heap.size ≤ k_) ∧ some k_ ≠ (.slice Ao6 ao.length co6 : Value).ownBlock ∧ some k_ ≠ (u7 : Value).ownBlock)) bF.out hg hat); replace aU := aa.mk (Kd.ZF (ok := (fun k_ => (P0_ k_ ∨ w.heap.size ≤ k_) ∧ some k_ ≠ (.slice Ao6 ao.length co6 : Value).ownBlock ∧ some k_ ≠ (u7 : Value).ownBlock)) aU.out hg hat); replace HB := aa.mk (hb); have bk := aa.mk (ho); clear gP; clear ho hb hg hat; refine hK.out _ _ trivial (fun hHeld => ?_); clear hK K; refine Yc (a' := ?_) ?_ ?_; rotate_left
                  ·show Act.put _ (some 42) _ = _
                   simp only [Act.put, zA, zB, zC, Qy, QB]; rfl
                  refine QX (i := 10) (N := some 10) (v := ?_) (a' := ?_) #[true, true, true, true, true, true, true, true, true, true, true] rfl rfl (QK HT_.out (by kernel_rfl)) (fun _ _ _ h => h) (Or.inl ⟨by rfl, ?_⟩) ?_ ?_; rotate_left
                  ·intro w'; go_simp; with_reducible rfl
                  rotate_left
                  ·simp only [Act.put, zA, zB, zC, Qy, QB]; rfl
                  refine YM (Yi HT_.out (by kernel_rfl)) ?_; have kJ : 0 ≤ (ax : Int) := of_decide_eq_true (by assumption); have kI : ax < (ao.length : Int) := of_decide_eq_true (by assumption); obtain ⟨fu, ti, kL⟩ := Kd.Zh (Kd.QA bj.out).2.2 ax kJ kI; cases ti; replace kJ := eq_true kJ; replace kI := eq_true kI; try go_wp2_with (first | ((with_reducible refine Qg (f := 103) rfl ?_); refine QG (some 48) rfl rfl Try.func103 (by kernel_rfl) rfl #[.int .i64 (rd ao ax)] rfl hA ?_; (with_reducible refine (Qt.calls k2 (rd ao ax) t125 _ A17.out).mono ?_); rintro e w29 ⟨ji, rfl, ho0, hb⟩; refine ⟨_, rfl, ?_⟩; replace bQ := aa.mk (Kd.ZX bQ.out (Kd.QS ho0) hb); replace bF := aa.mk (Kd.ZX bF.out (Kd.QS ho0) hb); replace aU := aa.mk (Kd.ZX aU.out (Kd.QS ho0) hb); replace bk := aa.mk (Kd.Zf bk.out (Kd.QS ho0) hb); have bA := aa.mk (Kd.Zg (Kd.Zt (Kd.Zt (Kd.V7 (M := fun k_ => (w.heap.size ≤ k_)) ho0 (Qc bB) (fun k_ h_ => h_)) (Kd.R_lt bj.out)) (Kd.R_lt aC.out)) (Qc bB)); replace bj := aa.mk (Kd.Zd bj.out (Kd.QS ho0) hb); replace aC := aa.mk (Kd.Zd aC.out (Kd.QS ho0) hb); replace HB := aa.mk (Qa bB hb); (try clear hb); (try clear hb2); (try clear hk); (try clear hi); (try clear ho0); obtain ⟨rb, qN, yR⟩ := Kd.Yb bk.out; subst yR; obtain ⟨jq, jj, oS⟩ := Kd.Zc bA.out; subst oS) | ((with_reducible refine Qg (f := 124) rfl ?_); refine QG (some 49) rfl rfl Try.func124 (by kernel_rfl) rfl #[.slice rb dW.length qN, .slice jq t125.length jj] rfl hA ?_; (with_reducible refine (Qf.calls k2 _ _ dW _ _ t125 bm _ ?ah ?ai ?aq ?ar A18.out).mono ?_); (case ah => exact (Kd.Zi bk.out).2.2); (case ai => exact (Kd.Zi bk.out).2.1); (case aq => exact (Kd.QA bA.out).2.2); (case ar => exact (Kd.QA bA.out).2.1); rintro e w32 ⟨rfl, hb⟩; refine ⟨_, rfl, ?_⟩; replace bQ := aa.mk (Kd.Z7 bQ.out hb); replace bj := aa.mk (Kd.QR bj.out hb); replace aC := aa.mk (Kd.QR aC.out hb); replace bF := aa.mk (Kd.Z7 bF.out hb); replace aU := aa.mk (Kd.Z7 aU.out hb); replace bk := aa.mk (Kd.Z0 bk.out hb); replace bA := aa.mk (Kd.QR bA.out hb); replace HB := aa.mk (Qa bB hb); (try clear hb); (try clear hb2); (try clear hk); (try clear hi)) | ((with_reducible refine Zr (b := .append) (xs := #[.tmp 55, .tmp 57]) rfl ?_); at_builtin; refine Kd.Ym (Kd.int .i64) (w0 := w) w.heap.size rfl (.tmp 55) (.tmp 57) 28 3 (.int .i64 0) 8 rfl Try.underlying28 info3 rfl (by decide) (by omega) u7 aE (wrap64 (-bm)) [.int .i64 (wrap64 (-bm))] (fun k_ => (w.heap.size ≤ k_) ∧ some k_ ≠ (.slice (some fu) ao.length co6 : Value).ownBlock ∧ some k_ ≠ (.slice jq t125.length jj : Value).ownBlock) (fun _ => False) rfl rfl ?aP (fun _ hk => hk.elim) ?aF ?aO ?aB ?aS ?aL ?_; (case aP => exact rfl); (case aB => exact bB); (case aF => exact (fun k_ hk => ⟨(Nat.le_trans (Qc bB) hk), Kd.fresh' (Kd.R_lt bj.out) k_ hk, Kd.fresh' (Kd.R_lt bA.out) k_ hk⟩)); (case aO => exact (by (with_reducible repeat (first | apply Kd.R_alloc | apply Kd.QI | apply Kd.QN)); exact Kd.Q8 aC.out (fun _ hk => ⟨hk.1.1, ⟨hk.1.2, hk.2⟩⟩))); (case aS => exact (Qc bB)); (case aL => have := ma.out; omega); intro xS w33 ho hb hg hat; rw [← nH.out] at ho; replace bQ := aa.mk (Kd.ZF (ok := (fun k_ => (P0_ k_ ∨ w.heap.size ≤ k_) ∧ some k_ ≠ (.slice (some fu) ao.length co6 : Value).ownBlock ∧ some k_ ≠ (.slice rb dW.length qN : Value).ownBlock ∧ some k_ ≠ (.slice jq t125.length jj : Value).ownBlock)) (by (with_reducible repeat (first | apply Kd.V_alloc | apply Kd.ZL | apply Kd.ZI)); exact Kd.Z6 bQ.out (fun _ hk => ⟨⟨hk.1.1.1, ⟨hk.1.1.2.1, ⟨hk.1.2, hk.2⟩⟩⟩, hk.1.1.2.2⟩)) hg hat); replace bj := aa.mk (Kd.Yy (ok := (fun k_ => (w.heap.size ≤ k_) ∧ some k_ ≠ (.slice jq t125.length jj : Value).ownBlock)) (by (with_reducible repeat (first | apply Kd.R_alloc | apply Kd.QI | apply Kd.QN)); exact Kd.Q8 bj.out (fun _ hk => ⟨⟨hk.1.1, hk.2⟩, hk.1.2⟩)) hg hat); replace bF := aa.mk (Kd.ZF (ok := (fun k_ => (P0_ k_ ∨ w.heap.size ≤ k_) ∧ some k_ ≠ (.slice (some fu) ao.length co6 : Value).ownBlock ∧ some k_ ≠ (.slice rb dW.length qN : Value).ownBlock ∧ some k_ ≠ (.slice jq t125.length jj : Value).ownBlock)) (by (with_reducible repeat (first | apply Kd.V_alloc | apply Kd.ZL | apply Kd.ZI)); exact Kd.Z6 bF.out (fun _ hk => ⟨⟨hk.1.1.1, ⟨hk.1.1.2.1, ⟨hk.1.2, hk.2⟩⟩⟩, hk.1.1.2.2⟩)) hg hat); replace aU := aa.mk (Kd.ZF (ok := (fun k_ => (P0_ k_ ∨ w.heap.size ≤ k_) ∧ some k_ ≠ (.slice (some fu) ao.length co6 : Value).ownBlock ∧ some k_ ≠ (.slice rb dW.length qN : Value).ownBlock ∧ some k_ ≠ (.slice jq t125.length jj : Value).ownBlock)) (by (with_reducible repeat (first | apply Kd.V_alloc | apply Kd.ZL | apply Kd.ZI)); exact Kd.Z6 aU.out (fun _ hk => ⟨⟨hk.1.1.1, ⟨hk.1.1.2.1, ⟨hk.1.2, hk.2⟩⟩⟩, hk.1.1.2.2⟩)) hg hat); replace bk := aa.mk (Kd.UX (ok := (fun k_ => (P0_ k_ ∨ w.heap.size ≤ k_) ∧ some k_ ≠ (.slice (some fu) ao.length co6 : Value).ownBlock ∧ some k_ ≠ (.slice jq t125.length jj : Value).ownBlock)) (by (with_reducible repeat (first | apply Kd.N_alloc | apply Kd.Ye | apply Kd.Yn)); exact Kd.Ya bk.out (fun _ hk => ⟨⟨hk.1.1, ⟨hk.1.2.1, hk.2⟩⟩, hk.1.2.2⟩)) hg hat); replace bA := aa.mk (Kd.Yy (ok := (fun k_ => (w.heap.size ≤ k_) ∧ some k_ ≠ (.slice (some fu) ao.length co6 : Value).ownBlock)) (by (with_reducible repeat (first | apply Kd.R_alloc | apply Kd.QI | apply Kd.QN)); exact Kd.Q8 bA.out (fun _ hk => ⟨⟨hk.1.1.1, hk.1.2⟩, hk.2⟩)) hg hat); replace HB := aa.mk (hb); have jf := aa.mk (ho); clear aC; clear ho hb hg hat) | ((with_reducible refine Qg (f := 125) rfl ?_); refine QG (some 61) rfl rfl Try.func125 (by kernel_rfl) rfl #[.int .i64 bs, .int .i64 (wrap64 (-bm))] rfl hA ?_; (with_reducible refine (QM.calls k2 bs (wrap64 (-bm)) eF _ A21.out).mono ?_); rintro e w34 ⟨rfl, hb⟩; refine ⟨_, rfl, ?_⟩; replace bQ := aa.mk (Kd.Z7 bQ.out hb); replace bj := aa.mk (Kd.QR bj.out hb); replace bF := aa.mk (Kd.Z7 bF.out hb); replace aU := aa.mk (Kd.Z7 aU.out hb); replace bk := aa.mk (Kd.Z0 bk.out hb); replace bA := aa.mk (Kd.QR bA.out hb); replace jf := aa.mk (Kd.QR jf.out hb); replace HB := aa.mk (Qa bB hb); (try clear hb); (try clear hb2); (try clear hk); (try clear hi)))
                  go_roundg k2
                  case measure => have := HK1.out; have := HK2.out; omega
                  case rel => exact ⟨(kj), (eF), (bU), (by first | rfl | (simp; done) | (simp [*]; done)), (by first | rfl | (simp; done) | (simp only [← gB] <;> (first | rfl | simp)) | (simp [*]; done)), H', ⟨by have := HK1.out; have := HK2.out; omega⟩, ⟨by (with_reducible repeat (first | apply Kd.V_alloc | apply Kd.ZL | apply Kd.ZI)); exact Kd.Z6 bQ.out (fun _ hk => ⟨hk.1.1, ⟨hk.1.2.1, hk.2⟩⟩)⟩, ⟨by (with_reducible repeat (first | apply Kd.R_alloc | apply Kd.QI | apply Kd.QN)); exact Kd.Q8 bj.out (fun _ hk => ⟨hk.1.1, hk.2⟩)⟩, ⟨by (with_reducible repeat (first | apply Kd.R_alloc | apply Kd.QI | apply Kd.QN)); exact Kd.Q8 jf.out (fun _ hk => ⟨hk.1, hk.2.1⟩)⟩, ⟨bB⟩⟩
                 ·rw [if_neg c20] at H; exact absurd H (by simp)
                ·rw [if_neg c19] at H; have cN : ((Int.tmod bT 2) == 1) = false := beq_eq_false_iff_ne.mpr c19; have g8 : ((Int.tmod bT 2) != 1) = true := bne_iff_ne.mpr c19; by_cases c35 : aE.length < 17592186044416
                 ·rw [if_pos c35] at H; have vv := aa.mk c35; clear c35; obtain ⟨sa, lH⟩ : ∃ y_ : List Int, y_ = (aE ++ [bm]) := ⟨_, rfl⟩; replace H : ((QM.f k2 bs bm).bind fun eE => (Qh.l1 k2 l0 (l0.length : Int) ao ax sa eE bU)) = some (r1, r2) := by first | (rw [lH]; with_reducible exact H) | (have H2_ := (Option.bind_some _ _).symm.trans H; rw [lH]; with_reducible exact H2_) | (have H2_ := (Option.bind_some _ _).symm.trans H; with_reducible exact H2_) | with_reducible exact H | (rw [lH]; exact H) | exact H
                  have vr := aa.mk lH; clear lH; replace H := Option.bind_eq_some_iff.mp H; obtain ⟨eE, vW, H⟩ := H; replace H : (Qh.l1 k2 l0 (l0.length : Int) ao ax sa eE bU) = some (r1, r2) := H; have A36 := aa.mk vW; clear vW; have H' := aa.mk H; clear H; try go_wp2
                  replace bQ := aa.mk (Kd.ZI bQ.out); replace bj := aa.mk (Kd.QN bj.out); replace aC := aa.mk (Kd.QN aC.out); replace HB := aa.mk (QP HB.out); have q38 : (bT : Int) ≤ ((l0.length : Int) : Int) := of_decide_eq_true (by assumption); obtain ⟨AH, ry, _, uh, _⟩ := info_parts info28; have nf : l0.length ≤ c0 := (Kd.Z9 bQ.out).2.1; have uE : Kd.F (Kd.slice 3 (Kd.int .i64)) _ _ (some cb) l0.length l0 := (Kd.V_at (base := w.heap.size) bQ.out).2.2; have sH := cut_to (P := Try.prog) 22 28 .i64 Try.underlying22 ry (some cb) l0.length c0 bT (of_decide_eq_true (by assumption)) q38 nf; have sw := Kd.F_take (m := (bT : Int).toNat) uE (by omega); have sk : dn.length = (bT : Int).toNat := (by rw [iA.out, List.length_take]; omega); rw [← iA.out] at sw; rw [← sk] at sH; have bF := aa.mk (show Kd.V (Kd.slice 3 (Kd.int .i64)) 28 _ w.heap.size _ (.slice (some cb) dn.length c0) dn from Kd.V_mk (by omega) sw); have vN := aa.mk (show dn.length ≤ c0 from by omega); clear sw uE nf ry uh; have Bm := aa.mk sk; clear sk; replace q38 := eq_true q38; have q39 : ((bU) : Int) ≤ ((l0.length : Int) : Int) := of_decide_eq_true (by assumption); obtain ⟨AG, rv, _, rk, _⟩ := info_parts info28; have jA : l0.length ≤ c0 := (Kd.Z9 bQ.out).2.1; have uD : Kd.F (Kd.slice 3 (Kd.int .i64)) _ _ (some cb) l0.length l0 := (Kd.V_at (base := w.heap.size) bQ.out).2.2; have sf : (0 : Int) ≤ ((bU) : Int) := of_decide_eq_true (by assumption); have sG := US (P := Try.prog) 22 28 .i64 Try.underlying22 rv 1 rk (some cb) l0.length c0 (bU) sf q39; have ow := Kd.F_cut (m := ((bU) : Int).toNat) (c := c0) uD (by omega) jA; obtain ⟨A39, qD⟩ : ∃ A1, A1 = (if c0 = ((bU) : Int).toNat then (some cb) else ((some cb) : Option Addr).map (·.add (((bU) : Int).toNat * 1))) := ⟨_, rfl⟩; obtain ⟨c39, qB⟩ : ∃ c1, c1 = c0 - ((bU) : Int).toNat := ⟨_, rfl⟩; have ot : cK.length = l0.length - ((bU) : Int).toNat := (by rw [nK.out, List.length_drop] <;> omega); rw [show (l0).drop ((bU) : Int).toNat = cK from nK.out.symm] at ow; replace ow : Kd.F (Kd.slice 3 (Kd.int .i64)) _ _ A39 cK.length cK := (by rw [qD]; exact ow); rw [← ot, ← qD, ← qB] at sG; have aU := aa.mk (show Kd.V (Kd.slice 3 (Kd.int .i64)) 28 _ w.heap.size _ (.slice A39 cK.length c39) cK from Kd.V_mk (by rw [ot, qB]; exact Nat.sub_le_sub_right jA _) ow); have vK := aa.mk (show cK.length ≤ c39 from by rw [ot, qB]; exact Nat.sub_le_sub_right jA _); clear ow uD jA rv rk qB; have Bk := aa.mk ot; have Br := aa.mk qD; clear ot qD; replace q39 := eq_true q39; refine Yt (n := 11) (S := fun w' => True) (ds := []) #[false, false, false, false, false, false, false, false, false, false, false] (by kernel_rfl) rfl rfl trivial (fun hHeld => ?_); refine ZV Qh.tab11 Qh.bits11 (fun HT_ HW_ => ?_); generalize wr.drew = w37 at bQ bj aC HB bF aU hHeld ⊢; refine QX (i := 1) (N := some 34) (v := ?_) (a' := ?_) #[false, true, false, false, false, false, false, false, false, false, false] rfl rfl (QK HT_.out (by kernel_rfl)) (fun _ _ _ h => h) (Or.inl ⟨by rfl, ?_⟩) ?_ ?_; rotate_left
                  ·intro w'; go_simp; with_reducible rfl
                  rotate_left
                  ·simp only [Act.put, zA, zB, zC, Qy, QB]; rfl
                  refine QX (i := 2) (N := some 35) (v := ?_) (a' := ?_) #[false, true, true, false, false, false, false, false, false, false, false] rfl rfl (QK HT_.out (by kernel_rfl)) (fun _ _ _ h => h) (Or.inl ⟨by rfl, ?_⟩) ?_ ?_; rotate_left
                  ·intro w'; go_simp; with_reducible rfl
                  rotate_left
                  ·simp only [Act.put, zA, zB, zC, Qy, QB]; rfl
                  refine QX (i := 3) (N := some 36) (v := ?_) (a' := ?_) #[false, true, true, true, false, false, false, false, false, false, false] rfl rfl (QK HT_.out (by kernel_rfl)) (fun _ _ _ h => h) (Or.inl ⟨by rfl, ?_⟩) ?_ ?_; rotate_left
                  ·intro w'; go_simp; with_reducible rfl
                  rotate_left
                  ·simp only [Act.put, zA, zB, zC, Qy, QB]; rfl
                  refine QX (i := 5) (N := some 38) (v := ?_) (a' := ?_) #[false, true, true, true, false, true, false, false, false, false, false] rfl rfl (QK HT_.out (by kernel_rfl)) (fun _ _ _ h => h) (Or.inl ⟨by rfl, ?_⟩) ?_ ?_; rotate_left
                  ·intro w'; go_simp; with_reducible rfl
                  rotate_left
                  ·simp only [Act.put, zA, zB, zC, Qy, QB]; rfl
                  refine QX (i := 6) (N := some 39) (v := ?_) (a' := ?_) #[false, true, true, true, false, true, true, false, false, false, false] rfl rfl (QK HT_.out (by kernel_rfl)) (fun _ _ _ h => h) (Or.inl ⟨by rfl, ?_⟩) ?_ ?_; rotate_left
                  ·intro w'; go_simp; with_reducible rfl
                  rotate_left
                  ·simp only [Act.put, zA, zB, zC, Qy, QB]; rfl
                  refine QX (i := 7) (N := some 40) (v := ?_) (a' := ?_) #[false, true, true, true, false, true, true, true, false, false, false] rfl rfl (QK HT_.out (by kernel_rfl)) (fun _ _ _ h => h) (Or.inl ⟨by rfl, ?_⟩) ?_ ?_; rotate_left
                  ·intro w'; go_simp; with_reducible rfl
                  rotate_left
                  ·simp only [Act.put, zA, zB, zC, Qy, QB]; rfl
                  refine QX (i := 8) (N := some 41) (v := ?_) (a' := ?_) #[false, true, true, true, false, true, true, true, true, false, false] rfl rfl (QK HT_.out (by kernel_rfl)) (fun _ _ _ h => h) (Or.inl ⟨by rfl, ?_⟩) ?_ ?_; rotate_left
                  ·intro w'; go_simp; with_reducible rfl
                  rotate_left
                  ·simp only [Act.put, zA, zB, zC, Qy, QB]; rfl
                  refine one_ (i := 0) (N := some 33) #[true, true, true, true, false, true, true, true, true, false, false] rfl rfl (ZT HT_.out (by kernel_rfl)) (by decide) (fun K hK => ?_); refine Kd.VH (Kd.slice 3 (Kd.int .i64)) _ 28 ?hg (N' := 33) ?hd (xs := ([] : List (List Int))) (inner := []) (ok := (fun k_ => (P0_ k_ ∨ w.heap.size ≤ k_) ∧ some k_ ≠ (.slice Ao6 ao.length co6 : Value).ownBlock ∧ some k_ ≠ (u7 : Value).ownBlock)) (okp := (fun k_ => (P0_ k_ ∨ w.heap.size ≤ k_) ∧ some k_ ≠ (.slice Ao6 ao.length co6 : Value).ownBlock ∧ some k_ ≠ (u7 : Value).ownBlock)) ?hr ?hp (fun _ hk => hk) ((show ∀ k_, w37.heap.size ≤ k_ → (fun k_ => (P0_ k_ ∨ w.heap.size ≤ k_) ∧ some k_ ≠ (.slice Ao6 ao.length co6 : Value).ownBlock ∧ some k_ ≠ (u7 : Value).ownBlock) k_ from fun k_ hk => ⟨(.inr (Nat.le_trans (Qc bB) hk)), Kd.fresh' (Kd.R_lt bj.out) k_ hk, Kd.fresh' (Kd.R_lt aC.out) k_ hk⟩) _ (Nat.le_refl _)) (Below.refl _ _) (Nat.le_refl _) (by simp) ?_; (case hd => rfl); (case hg => rfl); (case hr => first | (go_simp; done) | (go_simp; rfl)); (case hp => exact (Reps.none _ _)); intro hH w40 lP hb hg_ hnew_; clear hg_ hnew_; (first | rw [← gN.out] at lP | (simp only [Int.reduceToNat] at lP; rw [← gN.out] at lP))
                  replace bQ := aa.mk (Kd.ZX bQ.out (Kd.Z8 lP) hb); replace bj := aa.mk (Kd.QR bj.out hb); replace aC := aa.mk (Kd.QR aC.out hb); replace bF := aa.mk (Kd.ZX bF.out (Kd.Z8 lP) hb); replace aU := aa.mk (Kd.ZX aU.out (Kd.Z8 lP) hb); have bS := aa.mk (Kd.Yj lP (Qc bB)); replace HB := aa.mk (Qa bB hb); clear hb lP; refine hK.out _ _ trivial (fun hHeld => ?_); clear hK K; refine Yc (a' := ?_) ?_ ?_; rotate_left
                  ·show Act.put _ (some 33) _ = _
                   simp only [Act.put, zA, zB, zC, Qy, QB]; rfl
                  refine one_ (i := 4) (N := some 37) #[true, true, true, true, true, true, true, true, true, false, false] rfl rfl (ZT HT_.out (by kernel_rfl)) (by decide) (fun K hK => ?_); refine Kd.ZZ (Kd.slice 3 (Kd.int .i64)) (w0 := w) w.heap.size (by rfl) (.tmp 33) (.tmp 36) 22 28 (.slice none 0 0) 24 rfl Try.underlying22 info28 rfl (by decide) (by omega) hH cL dn _ _ _ (fun k_ => (P0_ k_ ∨ w.heap.size ≤ k_) ∧ some k_ ≠ (.slice Ao6 ao.length co6 : Value).ownBlock ∧ some k_ ≠ (u7 : Value).ownBlock) (fun k_ => ((fun k_ => (P0_ k_ ∨ w.heap.size ≤ k_) ∧ some k_ ≠ (.slice Ao6 ao.length co6 : Value).ownBlock ∧ some k_ ≠ (u7 : Value).ownBlock)) k_ ∧ some k_ ≠ (hH : Value).ownBlock) rfl rfl ?aO ?aR (fun _ hk => hk) ?aF ?aB ?aS ?aL ?_; (case aR => exact (by skip; exact Kd.V_F (Kd.Z6 (ok' := (fun k_ => ((fun k_ => (P0_ k_ ∨ w.heap.size ≤ k_) ∧ some k_ ≠ (.slice Ao6 ao.length co6 : Value).ownBlock ∧ some k_ ≠ (u7 : Value).ownBlock)) k_ ∧ some k_ ≠ (hH : Value).ownBlock)) (bF.out) (fun k_ hk => ⟨⟨hk.1.1, ⟨hk.1.2.1, hk.1.2.2⟩⟩, hk.2⟩))))
                  (case aB => exact bB)
                  (case aF => exact (fun k_ hk => ⟨(.inr (Nat.le_trans (Qc bB) hk)), Kd.fresh' (Kd.R_lt bj.out) k_ hk, Kd.fresh' (Kd.R_lt aC.out) k_ hk⟩))
                  (case aO => exact bS.out)
                  (case aS => exact (Qc bB))
                  (case aL => have := r7.out; omega)
                  intro lu w42 ho hb hg hat; rw [← kv.out] at ho; replace bQ := aa.mk (Kd.ZF (ok := (fun k_ => (P0_ k_ ∨ w.heap.size ≤ k_) ∧ some k_ ≠ (.slice Ao6 ao.length co6 : Value).ownBlock ∧ some k_ ≠ (u7 : Value).ownBlock)) bQ.out hg hat); replace bj := aa.mk (Kd.YZ bj.out (Kd.ZG bS.out) (by decide) hg); replace aC := aa.mk (Kd.YZ aC.out (Kd.ZG bS.out) (by decide) hg); replace bF := aa.mk (Kd.ZF (ok := (fun k_ => (P0_ k_ ∨ w.heap.size ≤ k_) ∧ some k_ ≠ (.slice Ao6 ao.length co6 : Value).ownBlock ∧ some k_ ≠ (u7 : Value).ownBlock)) bF.out hg hat); replace aU := aa.mk (Kd.ZF (ok := (fun k_ => (P0_ k_ ∨ w.heap.size ≤ k_) ∧ some k_ ≠ (.slice Ao6 ao.length co6 : Value).ownBlock ∧ some k_ ≠ (u7 : Value).ownBlock)) aU.out hg hat); replace HB := aa.mk (hb); have gP := aa.mk (ho); clear bS; clear ho hb hg hat; refine hK.out _ _ trivial (fun hHeld => ?_); clear hK K; refine Yc (a' := ?_) ?_ ?_; rotate_left
                  ·show Act.put _ (some 37) _ = _
                   simp only [Act.put, zA, zB, zC, Qy, QB]; rfl
                  refine one_ (i := 9) (N := some 42) #[true, true, true, true, true, true, true, true, true, true, false] rfl rfl (ZT HT_.out (by kernel_rfl)) (by decide) (fun K hK => ?_); refine Kd.ZZ (Kd.slice 3 (Kd.int .i64)) (w0 := w) w.heap.size (by rfl) (.tmp 37) (.tmp 41) 22 28 (.slice none 0 0) 24 rfl Try.underlying22 info28 rfl (by decide) (by omega) lu dX cK _ _ _ (fun k_ => (P0_ k_ ∨ w.heap.size ≤ k_) ∧ some k_ ≠ (.slice Ao6 ao.length co6 : Value).ownBlock ∧ some k_ ≠ (u7 : Value).ownBlock) (fun k_ => ((fun k_ => (P0_ k_ ∨ w.heap.size ≤ k_) ∧ some k_ ≠ (.slice Ao6 ao.length co6 : Value).ownBlock ∧ some k_ ≠ (u7 : Value).ownBlock)) k_ ∧ some k_ ≠ (lu : Value).ownBlock) rfl rfl ?aO ?aR (fun _ hk => hk) ?aF ?aB ?aS ?aL ?_; (case aR => exact (by skip; exact Kd.V_F (Kd.Z6 (ok' := (fun k_ => ((fun k_ => (P0_ k_ ∨ w.heap.size ≤ k_) ∧ some k_ ≠ (.slice Ao6 ao.length co6 : Value).ownBlock ∧ some k_ ≠ (u7 : Value).ownBlock)) k_ ∧ some k_ ≠ (lu : Value).ownBlock)) (aU.out) (fun k_ hk => ⟨⟨hk.1.1, ⟨hk.1.2.1, hk.1.2.2⟩⟩, hk.2⟩))))
                  (case aB => exact bB)
                  (case aF => exact (fun k_ hk => ⟨(.inr (Nat.le_trans (Qc bB) hk)), Kd.fresh' (Kd.R_lt bj.out) k_ hk, Kd.fresh' (Kd.R_lt aC.out) k_ hk⟩))
                  (case aO => exact gP.out)
                  (case aS => exact (Qc bB))
                  (case aL => have := nO.out; omega)
                  intro tX w43 ho hb hg hat; rw [← l8.out] at ho; replace bQ := aa.mk (Kd.ZF (ok := (fun k_ => (P0_ k_ ∨ w.heap.size ≤ k_) ∧ some k_ ≠ (.slice Ao6 ao.length co6 : Value).ownBlock ∧ some k_ ≠ (u7 : Value).ownBlock)) bQ.out hg hat); replace bj := aa.mk (Kd.YZ bj.out (Kd.ZG gP.out) (by decide) hg); replace aC := aa.mk (Kd.YZ aC.out (Kd.ZG gP.out) (by decide) hg); replace bF := aa.mk (Kd.ZF (ok := (fun k_ => (P0_ k_ ∨ w.heap.size ≤ k_) ∧ some k_ ≠ (.slice Ao6 ao.length co6 : Value).ownBlock ∧ some k_ ≠ (u7 : Value).ownBlock)) bF.out hg hat); replace aU := aa.mk (Kd.ZF (ok := (fun k_ => (P0_ k_ ∨ w.heap.size ≤ k_) ∧ some k_ ≠ (.slice Ao6 ao.length co6 : Value).ownBlock ∧ some k_ ≠ (u7 : Value).ownBlock)) aU.out hg hat); replace HB := aa.mk (hb); have bk := aa.mk (ho); clear gP; clear ho hb hg hat; refine hK.out _ _ trivial (fun hHeld => ?_); clear hK K; refine Yc (a' := ?_) ?_ ?_; rotate_left
                  ·show Act.put _ (some 42) _ = _
                   simp only [Act.put, zA, zB, zC, Qy, QB]; rfl
                  refine QX (i := 10) (N := some 10) (v := ?_) (a' := ?_) #[true, true, true, true, true, true, true, true, true, true, true] rfl rfl (QK HT_.out (by kernel_rfl)) (fun _ _ _ h => h) (Or.inl ⟨by rfl, ?_⟩) ?_ ?_; rotate_left
                  ·intro w'; go_simp; with_reducible rfl
                  rotate_left
                  ·simp only [Act.put, zA, zB, zC, Qy, QB]; rfl
                  refine YM (Yi HT_.out (by kernel_rfl)) ?_; have kJ : 0 ≤ (ax : Int) := of_decide_eq_true (by assumption); have kI : ax < (ao.length : Int) := of_decide_eq_true (by assumption); obtain ⟨fu, ti, kL⟩ := Kd.Zh (Kd.QA bj.out).2.2 ax kJ kI; cases ti; replace kJ := eq_true kJ; replace kI := eq_true kI; try go_wp2_with (first | ((with_reducible refine Qg (f := 103) rfl ?_); refine QG (some 48) rfl rfl Try.func103 (by kernel_rfl) rfl #[.int .i64 (rd ao ax)] rfl hA ?_; (with_reducible refine (Qt.calls k2 (rd ao ax) t125 _ A17.out).mono ?_); rintro e w44 ⟨ji, rfl, ho0, hb⟩; refine ⟨_, rfl, ?_⟩; replace bQ := aa.mk (Kd.ZX bQ.out (Kd.QS ho0) hb); replace bF := aa.mk (Kd.ZX bF.out (Kd.QS ho0) hb); replace aU := aa.mk (Kd.ZX aU.out (Kd.QS ho0) hb); replace bk := aa.mk (Kd.Zf bk.out (Kd.QS ho0) hb); have bA := aa.mk (Kd.Zg (Kd.Zt (Kd.Zt (Kd.V7 (M := fun k_ => (w.heap.size ≤ k_)) ho0 (Qc bB) (fun k_ h_ => h_)) (Kd.R_lt bj.out)) (Kd.R_lt aC.out)) (Qc bB)); replace bj := aa.mk (Kd.Zd bj.out (Kd.QS ho0) hb); replace aC := aa.mk (Kd.Zd aC.out (Kd.QS ho0) hb); replace HB := aa.mk (Qa bB hb); (try clear hb); (try clear hb2); (try clear hk); (try clear hi); (try clear ho0); obtain ⟨mZ, mR, oQ⟩ := Kd.Yb bk.out; subst oQ; obtain ⟨mY, mQ, yL⟩ := Kd.Zc bA.out; subst yL) | ((with_reducible refine Qg (f := 124) rfl ?_); refine QG (some 49) rfl rfl Try.func124 (by kernel_rfl) rfl #[.slice mZ dW.length mR, .slice mY t125.length mQ] rfl hA ?_; (with_reducible refine (Qf.calls k2 _ _ dW _ _ t125 bm _ ?ah ?ai ?aq ?ar A18.out).mono ?_); (case ah => exact (Kd.Zi bk.out).2.2); (case ai => exact (Kd.Zi bk.out).2.1); (case aq => exact (Kd.QA bA.out).2.2); (case ar => exact (Kd.QA bA.out).2.1); rintro e w47 ⟨rfl, hb⟩; refine ⟨_, rfl, ?_⟩; replace bQ := aa.mk (Kd.Z7 bQ.out hb); replace bj := aa.mk (Kd.QR bj.out hb); replace aC := aa.mk (Kd.QR aC.out hb); replace bF := aa.mk (Kd.Z7 bF.out hb); replace aU := aa.mk (Kd.Z7 aU.out hb); replace bk := aa.mk (Kd.Z0 bk.out hb); replace bA := aa.mk (Kd.QR bA.out hb); replace HB := aa.mk (Qa bB hb); (try clear hb); (try clear hb2); (try clear hk); (try clear hi)) | ((with_reducible refine Zr (b := .append) (xs := #[.tmp 55, .tmp 57]) rfl ?_); at_builtin; refine Kd.Ym (Kd.int .i64) (w0 := w) w.heap.size rfl (.tmp 55) (.tmp 57) 28 3 (.int .i64 0) 8 rfl Try.underlying28 info3 rfl (by decide) (by omega) u7 aE bm [.int .i64 bm] (fun k_ => (w.heap.size ≤ k_) ∧ some k_ ≠ (.slice (some fu) ao.length co6 : Value).ownBlock ∧ some k_ ≠ (.slice mY t125.length mQ : Value).ownBlock) (fun _ => False) rfl rfl ?aP (fun _ hk => hk.elim) ?aF ?aO ?aB ?aS ?aL ?_; (case aP => exact rfl); (case aB => exact bB); (case aF => exact (fun k_ hk => ⟨(Nat.le_trans (Qc bB) hk), Kd.fresh' (Kd.R_lt bj.out) k_ hk, Kd.fresh' (Kd.R_lt bA.out) k_ hk⟩)); (case aO => exact (by (with_reducible repeat (first | apply Kd.R_alloc | apply Kd.QI | apply Kd.QN)); exact Kd.Q8 aC.out (fun _ hk => ⟨hk.1.1, ⟨hk.1.2, hk.2⟩⟩))); (case aS => exact (Qc bB)); (case aL => have := vv.out; omega); intro AB w48 ho hb hg hat; rw [← vr.out] at ho; replace bQ := aa.mk (Kd.ZF (ok := (fun k_ => (P0_ k_ ∨ w.heap.size ≤ k_) ∧ some k_ ≠ (.slice (some fu) ao.length co6 : Value).ownBlock ∧ some k_ ≠ (.slice mZ dW.length mR : Value).ownBlock ∧ some k_ ≠ (.slice mY t125.length mQ : Value).ownBlock)) (by (with_reducible repeat (first | apply Kd.V_alloc | apply Kd.ZL | apply Kd.ZI)); exact Kd.Z6 bQ.out (fun _ hk => ⟨⟨hk.1.1.1, ⟨hk.1.1.2.1, ⟨hk.1.2, hk.2⟩⟩⟩, hk.1.1.2.2⟩)) hg hat); replace bj := aa.mk (Kd.Yy (ok := (fun k_ => (w.heap.size ≤ k_) ∧ some k_ ≠ (.slice mY t125.length mQ : Value).ownBlock)) (by (with_reducible repeat (first | apply Kd.R_alloc | apply Kd.QI | apply Kd.QN)); exact Kd.Q8 bj.out (fun _ hk => ⟨⟨hk.1.1, hk.2⟩, hk.1.2⟩)) hg hat); replace bF := aa.mk (Kd.ZF (ok := (fun k_ => (P0_ k_ ∨ w.heap.size ≤ k_) ∧ some k_ ≠ (.slice (some fu) ao.length co6 : Value).ownBlock ∧ some k_ ≠ (.slice mZ dW.length mR : Value).ownBlock ∧ some k_ ≠ (.slice mY t125.length mQ : Value).ownBlock)) (by (with_reducible repeat (first | apply Kd.V_alloc | apply Kd.ZL | apply Kd.ZI)); exact Kd.Z6 bF.out (fun _ hk => ⟨⟨hk.1.1.1, ⟨hk.1.1.2.1, ⟨hk.1.2, hk.2⟩⟩⟩, hk.1.1.2.2⟩)) hg hat); replace aU := aa.mk (Kd.ZF (ok := (fun k_ => (P0_ k_ ∨ w.heap.size ≤ k_) ∧ some k_ ≠ (.slice (some fu) ao.length co6 : Value).ownBlock ∧ some k_ ≠ (.slice mZ dW.length mR : Value).ownBlock ∧ some k_ ≠ (.slice mY t125.length mQ : Value).ownBlock)) (by (with_reducible repeat (first | apply Kd.V_alloc | apply Kd.ZL | apply Kd.ZI)); exact Kd.Z6 aU.out (fun _ hk => ⟨⟨hk.1.1.1, ⟨hk.1.1.2.1, ⟨hk.1.2, hk.2⟩⟩⟩, hk.1.1.2.2⟩)) hg hat); replace bk := aa.mk (Kd.UX (ok := (fun k_ => (P0_ k_ ∨ w.heap.size ≤ k_) ∧ some k_ ≠ (.slice (some fu) ao.length co6 : Value).ownBlock ∧ some k_ ≠ (.slice mY t125.length mQ : Value).ownBlock)) (by (with_reducible repeat (first | apply Kd.N_alloc | apply Kd.Ye | apply Kd.Yn)); exact Kd.Ya bk.out (fun _ hk => ⟨⟨hk.1.1, ⟨hk.1.2.1, hk.2⟩⟩, hk.1.2.2⟩)) hg hat); replace bA := aa.mk (Kd.Yy (ok := (fun k_ => (w.heap.size ≤ k_) ∧ some k_ ≠ (.slice (some fu) ao.length co6 : Value).ownBlock)) (by (with_reducible repeat (first | apply Kd.R_alloc | apply Kd.QI | apply Kd.QN)); exact Kd.Q8 bA.out (fun _ hk => ⟨⟨hk.1.1.1, hk.1.2⟩, hk.2⟩)) hg hat); replace HB := aa.mk (hb); have pw := aa.mk (ho); clear aC; clear ho hb hg hat) | ((with_reducible refine Qg (f := 125) rfl ?_); refine QG (some 61) rfl rfl Try.func125 (by kernel_rfl) rfl #[.int .i64 bs, .int .i64 bm] rfl hA ?_; (with_reducible refine (QM.calls k2 bs bm eE _ A36.out).mono ?_); rintro e w49 ⟨rfl, hb⟩; refine ⟨_, rfl, ?_⟩; replace bQ := aa.mk (Kd.Z7 bQ.out hb); replace bj := aa.mk (Kd.QR bj.out hb); replace bF := aa.mk (Kd.Z7 bF.out hb); replace aU := aa.mk (Kd.Z7 aU.out hb); replace bk := aa.mk (Kd.Z0 bk.out hb); replace bA := aa.mk (Kd.QR bA.out hb); replace pw := aa.mk (Kd.QR pw.out hb); replace HB := aa.mk (Qa bB hb); (try clear hb); (try clear hb2); (try clear hk); (try clear hi)))
                  go_roundg k2
                  case measure => have := HK1.out; have := HK2.out; omega
                  case rel => exact ⟨(sa), (eE), (bU), (by first | rfl | (simp; done) | (simp [*]; done)), (by first | rfl | (simp; done) | (simp only [← gB] <;> (first | rfl | simp)) | (simp [*]; done)), H', ⟨by have := HK1.out; have := HK2.out; omega⟩, ⟨by (with_reducible repeat (first | apply Kd.V_alloc | apply Kd.ZL | apply Kd.ZI)); exact Kd.Z6 bQ.out (fun _ hk => ⟨hk.1.1, ⟨hk.1.2.1, hk.2⟩⟩)⟩, ⟨by (with_reducible repeat (first | apply Kd.R_alloc | apply Kd.QI | apply Kd.QN)); exact Kd.Q8 bj.out (fun _ hk => ⟨hk.1.1, hk.2⟩)⟩, ⟨by (with_reducible repeat (first | apply Kd.R_alloc | apply Kd.QI | apply Kd.QN)); exact Kd.Q8 pw.out (fun _ hk => ⟨hk.1, hk.2.1⟩)⟩, ⟨bB⟩⟩
                 ·rw [if_neg c35] at H; exact absurd H (by simp)
               ·rw [if_neg c16] at H; exact absurd H (by simp)
              ·rw [if_neg c15] at H; exact absurd H (by simp)
             ·rw [if_neg c14] at H; exact absurd H (by simp)
            ·rw [if_neg c13] at H; exact absurd H (by simp)
           ·rw [if_neg c12] at H; exact absurd H (by simp)
          ·rw [if_neg c10] at H; exact absurd H (by simp)
         ·rw [if_neg c9] at H; exact absurd H (by simp)
        ·rw [if_neg c8] at H; exact absurd H (by simp)
       ·rw [if_neg c7] at H; have jm : decide (bT < (l0.length : Int)) = false := decide_eq_false c7; clear c7; by_cases c50 : bs = 0
        ·rw [if_pos c50] at H; have nC : (bs == 0) = true := beq_iff_eq.mpr c50; have pb : (bs != 0) = false := bne_eq_false_iff_eq.mpr c50; clear c50; have H' := aa.mk H; clear H; go_wp2; go_roundg k2
         case measure => have := HK1.out; have := HK2.out; omega
         case rel => exact ⟨(ao), (wrap64 (ax + 1)), (by first | rfl | (simp; done) | (simp [*]; done)), H', ⟨by have := HK1.out; have := HK2.out; omega⟩, ⟨by (with_reducible repeat (first | apply Kd.V_alloc | apply Kd.ZL | apply Kd.ZI)); exact Kd.Z6 bQ.out (fun _ hk => ⟨hk.1, hk.2.1⟩)⟩, ⟨by (with_reducible repeat (first | apply Kd.R_alloc | apply Kd.QI | apply Kd.QN)); exact Kd.Q8 bj.out (fun _ hk => hk.1)⟩, ⟨bB⟩⟩
        ·rw [if_neg c50] at H; have nC : (bs == 0) = false := beq_eq_false_iff_ne.mpr c50; have pb : (bs != 0) = true := bne_iff_ne.mpr c50; by_cases c51 : 0 < (aE.length : Int)
         ·rw [if_pos c51] at H; have rI : decide (0 < (aE.length : Int)) = true := decide_eq_true c51; have rH : decide (0 < aE.length) = true := decide_eq_true (by omega); clear c51; have tN := aa.mk H; clear H; obtain ⟨By, qI, yI⟩ := Kd.Zc aC.out; subst yI; have oq : 0 ≤ (0 : Int) := (by omega); have oo : 0 < (aE.length : Int) := of_decide_eq_true (by assumption); obtain ⟨nE, yX, ik⟩ := Kd.Zh (Kd.QA aC.out).2.2 0 oq oo; cases yX; have zM : (0 < aE.length) = True := eq_true (by omega); (try rw [show ((0 : Int)).toNat = 0 from rfl] at ik)
          (try rw [Addr.add_zero'] at ik)
          replace oq := eq_true oq; replace oo := eq_true oo; go_upto_if 67 with (fail)
          go_cut [8] (fun v8 wc => ∃ (kq : Nat) (fl : Int), v8 = .int .i64 fl ∧ aa (Qh.j2 kq (l0.length : Int) aE fl = some (r1, r2)) ∧ aa (kq ≤ k2) ∧ aa (Kd.R (Kd.int .i64) 3 wc w.heap.size (fun k_ => (w.heap.size ≤ k_)) (.slice (some nE) aE.length qI) aE) ∧ aa (Below w.heap.size w wc))
          case first =>
           have H := tN.out; clear tN; by_cases c54 : (rd aE 0) < 0
           ·rw [if_pos c54] at H; have j5 : decide ((rd aE 0) < 0) = true := decide_eq_true c54; clear c54; (first | rw [j5] | (simp only [Qy, QB]; rw [j5]) | skip)
            have H' := aa.mk H; clear H; go_wp2; go_meet
            case rel => exact ⟨_, (wrap64 (-bs)), (by first | rfl | (simp; done) | (simp [*]; done)), H', ⟨by have := HK1.out; have := HK2.out; first | omega | exact Nat.le_refl _⟩, ⟨by (with_reducible repeat (first | apply Kd.R_alloc | apply Kd.QI | apply Kd.QN)); exact Kd.Q8 aC.out (fun _ hk => hk.1)⟩, ⟨bB⟩⟩
           ·rw [if_neg c54] at H; have j5 : decide ((rd aE 0) < 0) = false := decide_eq_false c54; clear c54; (first | rw [j5] | (simp only [Qy, QB]; rw [j5]) | skip)
            have H' := aa.mk H; clear H; go_wp2; go_meet
            case rel => exact ⟨_, (bs), (by first | rfl | (simp; done) | (simp [*]; done)), H', ⟨by have := HK1.out; have := HK2.out; first | omega | exact Nat.le_refl _⟩, ⟨by (with_reducible repeat (first | apply Kd.R_alloc | apply Kd.QI | apply Kd.QN)); exact Kd.Q8 aC.out (fun _ hk => hk.1)⟩, ⟨bB⟩⟩
          case rest =>
           clear tN; try clear c1
           try clear p1
           try clear q1
           try clear hx1
           try clear qi1
           try clear c2
           try clear p2
           try clear q2
           try clear c3
           try clear q3
           try clear c5
           try clear p6
           try clear c7
           try clear jm
           try clear c8
           try clear c9
           try clear c10
           try clear c12
           try clear p12
           try clear q12
           try clear yd
           try clear c13
           try clear p13
           try clear q13
           try clear yc
           try clear xW
           try clear c14
           try clear c15
           try clear c16
           try clear c19
           try clear cN
           try clear g8
           try clear c20
           try clear q23
           try clear c24
           try clear q24
           try clear c35
           try clear q38
           try clear c39
           try clear q39
           try clear c50
           try clear nC
           try clear pb
           try clear c51
           try clear rI
           try clear rH
           try clear c54
           try clear j5
           try clear kL
           try clear ik
           try clear kJ
           try clear oq
           try clear sh
           try clear sf
           try clear kI
           try clear oo
           try clear q23
           try clear q24
           try clear q38
           try clear q39
           obtain ⟨kq, fl, rfl, HA, vD, aC, HB⟩ := hcut; cases kq with
           | zero => exact absurd HA.out (by simp [Qh.j2])
           | succ ud =>
            have H := HA.out; clear HA; simp only [Qh.j2] at H; have H' := aa.mk H; clear H; go_wp2; go_loopg [12] ud (fun kq v12 w' => ∃ (fe : List Int) (bp : Int), v12 = .int .i64 bp ∧ aa (Qh.l2 kq (l0.length : Int) fe fl bp = some (r1, r2)) ∧ aa (kq ≤ ud) ∧ aa (Kd.R (Kd.int .i64) 3 w' w.heap.size (fun k_ => (w.heap.size ≤ k_)) (.slice (some nE) aE.length qI) fe) ∧ aa (Below w.heap.size w w'))
            case atStart => exact ⟨(aE), (0), (by first | rfl | (simp; done) | (simp [*]; done)), H', ⟨Nat.le_refl _⟩, ⟨by (with_reducible repeat (first | apply Kd.R_alloc | apply Kd.QI | apply Kd.QN)); exact aC.out⟩, ⟨bB⟩⟩
            case round =>
             clear H'; try clear c1
             try clear p1
             try clear q1
             try clear hx1
             try clear qi1
             try clear c2
             try clear p2
             try clear q2
             try clear c3
             try clear q3
             try clear c5
             try clear p6
             try clear c7
             try clear jm
             try clear c8
             try clear c9
             try clear c10
             try clear c12
             try clear p12
             try clear q12
             try clear yd
             try clear c13
             try clear p13
             try clear q13
             try clear yc
             try clear xW
             try clear c14
             try clear c15
             try clear c16
             try clear c19
             try clear cN
             try clear g8
             try clear c20
             try clear q23
             try clear c24
             try clear q24
             try clear c35
             try clear q38
             try clear c39
             try clear q39
             try clear c50
             try clear nC
             try clear pb
             try clear c51
             try clear rI
             try clear rH
             try clear c54
             try clear j5
             try clear kL
             try clear ik
             try clear p1
             try clear p12
             try clear kJ
             try clear p13
             try clear oq
             try clear p2
             try clear p6
             try clear sh
             try clear sf
             try clear q1
             try clear q12
             try clear kI
             try clear q13
             try clear oo
             try clear q2
             try clear q23
             try clear q24
             try clear q3
             try clear q38
             try clear q39
             obtain ⟨fe, bp, rfl, HA, HK4, aC, HB⟩ := hrel; have nh := (Kd.QA aC.out).1; rw [nh] at aC; (try simp only [nh])
             cases gk with
             | zero => exact absurd HA.out (by simp [Qh.l2])
             | succ k4 =>
              have H := HA.out; clear HA; simp only [Qh.l2] at H; by_cases c55 : bp < (l0.length : Int)
              ·rw [if_pos c55] at H; have u0 : decide (bp < (l0.length : Int)) = true := decide_eq_true c55; clear c55; by_cases c56 : 0 ≤ bp
               ·rw [if_pos c56] at H; have z5 : decide (0 ≤ bp) = true := decide_eq_true c56; clear c56; by_cases c57 : bp < (fe.length : Int)
                ·rw [if_pos c57] at H; have z4 : decide (bp < (fe.length : Int)) = true := decide_eq_true c57; clear c57; by_cases c58 : fl = 0
                 ·rw [if_pos c58] at H; exact absurd H (by simp)
                 ·rw [if_neg c58] at H; have zZ : (fl == 0) = false := beq_eq_false_iff_ne.mpr c58; have zY : (fl != 0) = true := bne_iff_ne.mpr c58; obtain ⟨iG, lE⟩ : ∃ y_ : List Int, y_ = (fe.set (bp : Int).toNat (wrap64 (Int.tdiv (rd fe bp) fl))) := ⟨_, rfl⟩; replace H : (if (rd iG bp) ≤ 0 then (some (([] : List Int), false)) else (Qh.l2 k4 (l0.length : Int) iG fl (wrap64 (bp + 1)))) = some (r1, r2) := by first | (rw [lE]; with_reducible exact H) | (have H2_ := (Option.bind_some _ _).symm.trans H; rw [lE]; with_reducible exact H2_) | (have H2_ := (Option.bind_some _ _).symm.trans H; with_reducible exact H2_) | with_reducible exact H | (rw [lE]; exact H) | exact H
                  have nG := aa.mk lE; clear lE; by_cases c60 : (rd iG bp) ≤ 0
                  ·rw [if_pos c60] at H; have uZ : decide ((rd iG bp) ≤ 0) = true := decide_eq_true c60; clear c60; simp only [Option.some.injEq, Prod.mk.injEq] at H; obtain ⟨rfl, rfl⟩ := H; have mu : 0 ≤ (bp : Int) := of_decide_eq_true (by assumption); have mi : bp < (fe.length : Int) := of_decide_eq_true (by assumption); obtain ⟨pg, th, kK⟩ := Kd.Zh (Kd.QA aC.out).2.2 bp mu mi; obtain rfl : nE = pg := (by injection th); replace mu := eq_true mu; replace mi := eq_true mi; have p59 : 0 ≤ (bp : Int) := of_decide_eq_true (by assumption); have q59 : (bp : Int) < ((fe.length : Int) : Int) := of_decide_eq_true (by assumption); obtain ⟨kY, za, oP, oO, sZ, zh, px⟩ := Kd.VG aC.out (by omega); (first | cases oP | (injection oP with ea_ en_ ec_; (first | subst ea_ | (injection ea_ with ea_; subst ea_)); subst ec_; clear en_))
                   have tQ := aa.mk oO; have zt := aa.mk px; clear oO sZ px; (first | simp only [Z4] at ik | skip)
                   (first | simp only [Z4] at kK | skip)
                   obtain ⟨so, sD⟩ := Kd.Vr 0 aC.out (bp : Int) p59 q59; replace p59 := eq_true p59; replace q59 := eq_true q59; have tH := Kd.JU aC.out (bp : Int) (wrap64 (Int.tdiv (rd fe bp) fl)); go_wp2_with (first | ((with_reducible refine Y6 (t := 3) (p := 83) rfl ?_); refine YT (t := 3) (p := 83) (v := ?xP) (w1 := (wr.setCell ⟨kY, (bp : Int).toNat, none⟩ (.int .i64 (wrap64 (Int.tdiv (rd fe bp) fl))))) ?hg ?ho ?hn ?hr ?_; (case ho => rfl); (case hg => rfl); (case hn => rfl); (case hr => first | (go_simp; done) | (go_simp; rfl)); intro w62 hw; have hg : wr.grownBy w62 (some kY) := (by rw [hw]; exact tH.2); have hp_ : Kd.R (Kd.int .i64) 3 w62 w.heap.size (fun k_ => (w.heap.size ≤ k_)) (.slice (some ⟨kY, 0, none⟩) fe.length qI) iG := (by rw [hw, nG.out]; exact tH.1); clear tH; replace aC := aa.mk (hp_); replace HB := aa.mk ((by rw [hw]; exact Zl (HB.out) tQ.out : Below w.heap.size w w62)); clear hg hw hp_; have mr : 0 ≤ (bp : Int) := of_decide_eq_true (by assumption); have mh : bp < (iG.length : Int) := (by have h_ : (bp : Int) < ((fe.length : Int) : Int) := of_decide_eq_true (by assumption); first | (have e_ := (Kd.QA aC.out).1; omega) | simpa only [nG.out, List.length_set] using h_); have tZ : ((bp : Int) < ((fe.length : Int) : Int)) = True := eq_true (of_decide_eq_true (by assumption)); obtain ⟨pe, tg, fA⟩ := Kd.Zh (Kd.QA aC.out).2.2 bp mr mh; obtain rfl : (⟨kY, 0, none⟩ : Addr) = pe := (by injection tg); (first | simp only [Z4] at fA | simp only [add_at] at fA | simp only [Addr.add, Nat.zero_add] at fA | skip); replace mr := eq_true mr; replace mh := eq_true mh))
                   go_ret2; exact ⟨_, by first | rfl | (simp [Qj, Qi] <;> rfl) | (simp [*, Qj, Qi] <;> rfl), by first | exact Kd.Yg _ _ _ _ _ | exact Kd.Yp _ _ _ _ _ | exact Kd.V_nil _ _ _ _ _ | exact Kd.Q_nil _ _ _ _ _ | exact Kd.Ys _ _ _ _ _, bB⟩
                  ·rw [if_neg c60] at H; have uZ : decide ((rd iG bp) ≤ 0) = false := decide_eq_false c60; clear c60; have H' := aa.mk H; clear H; have mu : 0 ≤ (bp : Int) := of_decide_eq_true (by assumption); have mi : bp < (fe.length : Int) := of_decide_eq_true (by assumption); obtain ⟨pg, th, kK⟩ := Kd.Zh (Kd.QA aC.out).2.2 bp mu mi; obtain rfl : nE = pg := (by injection th); replace mu := eq_true mu; replace mi := eq_true mi; have p59 : 0 ≤ (bp : Int) := of_decide_eq_true (by assumption); have q59 : (bp : Int) < ((fe.length : Int) : Int) := of_decide_eq_true (by assumption); obtain ⟨kY, za, oP, oO, sZ, zh, px⟩ := Kd.VG aC.out (by omega); (first | cases oP | (injection oP with ea_ en_ ec_; (first | subst ea_ | (injection ea_ with ea_; subst ea_)); subst ec_; clear en_))
                   have tQ := aa.mk oO; have zt := aa.mk px; clear oO sZ px; (first | simp only [Z4] at kK | skip)
                   obtain ⟨so, sD⟩ := Kd.Vr 0 aC.out (bp : Int) p59 q59; replace p59 := eq_true p59; replace q59 := eq_true q59; have tG := Kd.JU aC.out (bp : Int) (wrap64 (Int.tdiv (rd fe bp) fl)); go_wp2_with (first | ((with_reducible refine Y6 (t := 3) (p := 83) rfl ?_); refine YT (t := 3) (p := 83) (v := ?xO) (w1 := (wr.setCell ⟨kY, (bp : Int).toNat, none⟩ (.int .i64 (wrap64 (Int.tdiv (rd fe bp) fl))))) ?hg ?ho ?hn ?hr ?_; (case ho => rfl); (case hg => rfl); (case hn => rfl); (case hr => first | (go_simp; done) | (go_simp; rfl)); intro w64 hw; have hg : wr.grownBy w64 (some kY) := (by rw [hw]; exact tG.2); have hp_ : Kd.R (Kd.int .i64) 3 w64 w.heap.size (fun k_ => (w.heap.size ≤ k_)) (.slice (some ⟨kY, 0, none⟩) fe.length qI) iG := (by rw [hw, nG.out]; exact tG.1); clear tG; replace aC := aa.mk (hp_); replace HB := aa.mk ((by rw [hw]; exact Zl (HB.out) tQ.out : Below w.heap.size w w64)); clear hg hw hp_; have mr : 0 ≤ (bp : Int) := of_decide_eq_true (by assumption); have mh : bp < (iG.length : Int) := (by have h_ : (bp : Int) < ((fe.length : Int) : Int) := of_decide_eq_true (by assumption); first | (have e_ := (Kd.QA aC.out).1; omega) | simpa only [nG.out, List.length_set] using h_); have tZ : ((bp : Int) < ((fe.length : Int) : Int)) = True := eq_true (of_decide_eq_true (by assumption)); obtain ⟨pe, tg, fA⟩ := Kd.Zh (Kd.QA aC.out).2.2 bp mr mh; obtain rfl : (⟨kY, 0, none⟩ : Addr) = pe := (by injection tg); (first | simp only [Z4] at fA | simp only [add_at] at fA | simp only [Addr.add, Nat.zero_add] at fA | skip); replace mr := eq_true mr; replace mh := eq_true mh))
                   (try simp only [← nh])
                   go_roundg k4
                   case measure => have := HK1.out; have := HK2.out; have := vD.out; have := HK4.out; omega
                   case rel => exact ⟨(iG), (wrap64 (bp + 1)), (by first | rfl | (simp; done) | (simp [*]; done)), H', ⟨by have := HK1.out; have := HK2.out; have := vD.out; have := HK4.out; omega⟩, ⟨by (try simp only [nh]); (with_reducible repeat (first | apply Kd.R_alloc | apply Kd.QI | apply Kd.QN)); exact aC.out⟩, ⟨bB⟩⟩
                ·rw [if_neg c57] at H; exact absurd H (by simp)
               ·rw [if_neg c56] at H; exact absurd H (by simp)
              ·rw [if_neg c55] at H; have u0 : decide (bp < (l0.length : Int)) = false := decide_eq_false c55; clear c55; simp only [Option.some.injEq, Prod.mk.injEq] at H; obtain ⟨rfl, rfl⟩ := H; go_wp2; go_ret2; exact ⟨_, by first | rfl | (simp [Qj, Qi] <;> rfl) | (simp [*, Qj, Qi] <;> rfl), by (with_reducible repeat (first | apply Kd.R_alloc | apply Kd.QI | apply Kd.QN)); exact aC.out, bB⟩
         ·rw [if_neg c51] at H; exact absurd H (by simp)
    ·rw [if_neg c5] at H; have dq : decide (ax < (ao.length : Int)) = false := decide_eq_false c5; clear c5; simp only [Option.some.injEq, Prod.mk.injEq] at H; obtain ⟨rfl, rfl⟩ := H; obtain ⟨Bx, AY, yG⟩ := Kd.Zc bj.out; subst yG; go_wp2; go_ret2; exact ⟨_, by first | rfl | (simp [Qj, Qi] <;> rfl) | (simp [*, Qj, Qi] <;> rfl), by first | exact Kd.Yg _ _ _ _ _ | exact Kd.Yp _ _ _ _ _ | exact Kd.V_nil _ _ _ _ _ | exact Kd.Q_nil _ _ _ _ _ | exact Kd.Ys _ _ _ _ _, bB⟩
 ·rw [if_neg c2] at H; exact absurd H (by simp)
def ZA.f (k : Nat) (ae : List (List Int)) (af : List (List Int)) : Option (Int × Int) := (Qe.f k ae af).bind fun t102 => (if t102 = 0 then ((Qr.f k ae af).bind fun t103 => ((Q9.f k t103).bind fun t106 => ((Qp.f k t103 t106).bind fun t109 => (some (wrap64 ((t103.length : Int) - t109), 0))))) else (some (0, t102)))
set_option maxHeartbeats 8000000 in
set_option maxRecDepth 100000 in
theorem ZA.calls (k : Nat) (ak : Option Addr) (an : Nat) (ae : List (List Int)) (aj : Option Addr) (al : Nat) (af : List (List Int)) (r1 : Int) (r2 : Int) (w : World) (aN : Kd.C (Kd.slice 3 (Kd.int .i64)) w ak ae.length ae) (aT : ae.length ≤ an) (aM : Kd.C (Kd.slice 3 (Kd.int .i64)) w aj af.length af) (aQ : af.length ≤ al) (h : ZA.f k ae af = some (r1, r2)) :
  Calls Try.prog 54 #[.agg #[.slice ak ae.length an, .slice aj af.length al]] w fun e w' => e = .returned (.tuple #[.int .i64 r1, .int .i64 r2]) ∧ Below w.heap.size w w' := by
 have en := Try.underlying24; have aw := aa.mk aN; have az := aa.mk aT; clear aN aT; have ay := aa.mk aM; have aA := aa.mk aQ; clear aM aQ; have HB := aa.mk (Below.refl w.heap.size w); have H : ((Qe.f k ae af).bind fun t102 => (if t102 = 0 then ((Qr.f k ae af).bind fun t103 => ((Q9.f k t103).bind fun t106 => ((Qp.f k t103 t106).bind fun t109 => (some (wrap64 ((t103.length : Int) - t109), 0))))) else (some (0, t102)))) = some (r1, r2) := h; clear h; replace H := Option.bind_eq_some_iff.mp H; obtain ⟨t102, A20, H⟩ := H; replace H : (if t102 = 0 then ((Qr.f k ae af).bind fun t103 => ((Q9.f k t103).bind fun t106 => ((Qp.f k t103 t106).bind fun t109 => (some (wrap64 ((t103.length : Int) - t109), 0))))) else (some (0, t102))) = some (r1, r2) := H; have A2 := aa.mk A20; clear A20; by_cases c3 : t102 = 0
 ·rw [if_pos c3] at H; have bH : (t102 == 0) = true := beq_iff_eq.mpr c3; have cx : (t102 != 0) = false := bne_eq_false_iff_eq.mpr c3; clear c3; replace H := Option.bind_eq_some_iff.mp H; obtain ⟨t103, A40, H⟩ := H; replace H : ((Q9.f k t103).bind fun t106 => ((Qp.f k t103 t106).bind fun t109 => (some (wrap64 ((t103.length : Int) - t109), 0)))) = some (r1, r2) := H; have A4 := aa.mk A40; clear A40; replace H := Option.bind_eq_some_iff.mp H; obtain ⟨t106, A50, H⟩ := H; replace H : ((Qp.f k t103 t106).bind fun t109 => (some (wrap64 ((t103.length : Int) - t109), 0))) = some (r1, r2) := H; have A5 := aa.mk A50; clear A50; replace H := Option.bind_eq_some_iff.mp H; obtain ⟨t109, A60, H⟩ := H; replace H : (some (wrap64 ((t103.length : Int) - t109), 0)) = some (r1, r2) := H; have A6 := aa.mk A60; clear A60; simp only [Option.some.injEq, Prod.mk.injEq] at H; obtain ⟨rfl, rfl⟩ := H; go_enter Try.func54, Try.ntmps54; go_wp2_with (first | ((with_reducible refine QO (N := 1) rfl ?_); refine Q4 ?hg (N := 1) ?hd (cs := #[.slice ak ae.length an, .slice aj af.length al]) (t := 24) ?hr ?_; (case hd => rfl); (case hg => rfl); (case hr => first | (go_simp; done) | (go_simp; rfl)); intro ag hg w7 hbox hb; have ab := aa.mk (hbox); have bo := aa.mk ((by rw [hg]; exact (Qc bB) : w.heap.size ≤ ag)); have aV := aa.mk ((by rw [hg]; exact (Qc bB) : w.heap.size ≤ ag)); replace HB := aa.mk (Qa bB hb); clear hb hbox hg; have mF : w7.cell? ⟨ag, 0, none⟩ = some (.slice ak ae.length an) := (Qd ab.out 0).trans rfl; have mE : w7.cell? ⟨ag, 1, none⟩ = some (.slice aj af.length al) := (Qd ab.out 1).trans rfl; have mD := Qb ab.out 0; have mC := Qb ab.out 1) | ((with_reducible refine Qg (f := 55) rfl ?_); refine QG (some 7) rfl rfl Try.func55 (by kernel_rfl) rfl #[.agg #[.slice ak ae.length an, .slice aj af.length al]] rfl hA ?_; (with_reducible refine (Qe.calls k (fun k_ => k_ < w.heap.size) _ _ ae (fun k_ => k_ < w.heap.size) _ _ af t102 _ ?ah ?ai A2.out).mono ?_); (case ah => exact Kd.V_mk az.out (Kd.Yr (Kd.C_F (Kd.Yf 3 (Kd.Yv .i64)) aw.out) bB)); (case ai => exact Kd.V_mk aA.out (Kd.Yr (Kd.C_F (Kd.Yf 3 (Kd.Yv .i64)) ay.out) bB)); rintro e w9 ⟨rfl, hb⟩; refine ⟨_, rfl, ?_⟩; replace ab := aa.mk (Qq ab.out hb); replace HB := aa.mk (Qa bB hb); (try clear hb); (try clear hb2); (try clear hk); (try clear hi); have da : w9.cell? ⟨ag, 0, none⟩ = some (.slice ak ae.length an) := (Qd ab.out 0).trans rfl; have cZ : w9.cell? ⟨ag, 1, none⟩ = some (.slice aj af.length al) := (Qd ab.out 1).trans rfl; have cW := Qb ab.out 0; have cV := Qb ab.out 1) | ((with_reducible refine Qg (f := 96) rfl ?_); refine QG (some 12) rfl rfl Try.func96 (by kernel_rfl) rfl #[.agg #[.slice ak ae.length an, .slice aj af.length al]] rfl hA ?_; (with_reducible refine (Qr.calls k _ _ ae _ _ af t103 _ ?ah ?ai ?aq ?ar A4.out).mono ?_); (case ah => exact (Kd.Qo aw.out HB.out)); (case ai => exact az.out); (case aq => exact (Kd.Qo ay.out HB.out)); (case ar => exact aA.out); rintro e w11 ⟨ff, rfl, ho0, hb⟩; refine ⟨_, rfl, ?_⟩; have bf := aa.mk (Kd.YY ho0 (Qc bB)); replace ab := aa.mk (Qq ab.out hb); replace HB := aa.mk (Qa bB hb); (try clear hb); (try clear hb2); (try clear hk); (try clear hi); (try clear ho0); obtain ⟨m2, mS, oV⟩ := Kd.VT bf.out; subst oV) | ((with_reducible refine Qg (f := 98) rfl ?_); refine QG (some 17) rfl rfl Try.func98 (by kernel_rfl) rfl #[.slice m2 t103.length mS] rfl hA ?_; (with_reducible refine (Q9.calls k _ _ t103 t106 _ ?ah ?ai A5.out).mono ?_); (case ah => exact (Kd.Yw bf.out).2.2); (case ai => exact (Kd.Yw bf.out).2.1); rintro e w13 ⟨n4, rfl, ho0, hb⟩; refine ⟨_, rfl, ?_⟩; replace bf := aa.mk (Kd.YR bf.out (Kd.QS ho0) hb); have eh := aa.mk (Kd.Zg ho0 (Qc bB)); replace ab := aa.mk (Qq ab.out hb); replace HB := aa.mk (Qa bB hb); (try clear hb); (try clear hb2); (try clear hk); (try clear hi); (try clear ho0); obtain ⟨gQ, ee, mO⟩ := Kd.Zc eh.out; subst mO) | ((with_reducible refine Qg (f := 97) rfl ?_); refine QG (some 18) rfl rfl Try.func97 (by kernel_rfl) rfl #[.slice m2 t103.length mS, .slice gQ t106.length ee] rfl hA ?_; (with_reducible refine (Qp.calls k _ _ t103 _ _ t106 t109 _ ?ah ?ai ?aq ?ar A6.out).mono ?_); (case ah => exact (Kd.Yw bf.out).2.2); (case ai => exact (Kd.Yw bf.out).2.1); (case aq => exact (Kd.QA eh.out).2.2); (case ar => exact (Kd.QA eh.out).2.1); rintro e w15 ⟨rfl, hb⟩; refine ⟨_, rfl, ?_⟩; replace bf := aa.mk (Kd.Vc bf.out hb); replace eh := aa.mk (Kd.QR eh.out hb); replace ab := aa.mk (Qq ab.out hb); replace HB := aa.mk (Qa bB hb); (try clear hb); (try clear hb2); (try clear hk); (try clear hi)))
  go_ret2; exact ⟨by first | rfl | (simp [Qj, Qi] <;> rfl) | (simp [*, Qj, Qi] <;> rfl), bB⟩
 ·rw [if_neg c3] at H; have bH : (t102 == 0) = false := beq_eq_false_iff_ne.mpr c3; have cx : (t102 != 0) = true := bne_iff_ne.mpr c3; simp only [Option.some.injEq, Prod.mk.injEq] at H; obtain ⟨rfl, rfl⟩ := H; go_enter Try.func54, Try.ntmps54; go_wp2_with (first | ((with_reducible refine QO (N := 1) rfl ?_); refine Q4 ?hg (N := 1) ?hd (cs := #[.slice ak ae.length an, .slice aj af.length al]) (t := 24) ?hr ?_; (case hd => rfl); (case hg => rfl); (case hr => first | (go_simp; done) | (go_simp; rfl)); intro ag hg w16 hbox hb; have ab := aa.mk (hbox); have bo := aa.mk ((by rw [hg]; exact (Qc bB) : w.heap.size ≤ ag)); have aV := aa.mk ((by rw [hg]; exact (Qc bB) : w.heap.size ≤ ag)); replace HB := aa.mk (Qa bB hb); clear hb hbox hg; have fJ : w16.cell? ⟨ag, 0, none⟩ = some (.slice ak ae.length an) := (Qd ab.out 0).trans rfl; have fI : w16.cell? ⟨ag, 1, none⟩ = some (.slice aj af.length al) := (Qd ab.out 1).trans rfl; have fF := Qb ab.out 0; have fE := Qb ab.out 1) | ((with_reducible refine Qg (f := 55) rfl ?_); refine QG (some 7) rfl rfl Try.func55 (by kernel_rfl) rfl #[.agg #[.slice ak ae.length an, .slice aj af.length al]] rfl hA ?_; (with_reducible refine (Qe.calls k (fun k_ => k_ < w.heap.size) _ _ ae (fun k_ => k_ < w.heap.size) _ _ af t102 _ ?ah ?ai A2.out).mono ?_); (case ah => exact Kd.V_mk az.out (Kd.Yr (Kd.C_F (Kd.Yf 3 (Kd.Yv .i64)) aw.out) bB)); (case ai => exact Kd.V_mk aA.out (Kd.Yr (Kd.C_F (Kd.Yf 3 (Kd.Yv .i64)) ay.out) bB)); rintro e w18 ⟨rfl, hb⟩; refine ⟨_, rfl, ?_⟩; replace ab := aa.mk (Qq ab.out hb); replace HB := aa.mk (Qa bB hb); (try clear hb); (try clear hb2); (try clear hk); (try clear hi)))
  go_ret2; exact ⟨by first | rfl | (simp [Qj, Qi] <;> rfl) | (simp [*, Qj, Qi] <;> rfl), bB⟩
def Zx.f (k : Nat) (ae : List (List Int)) (af : List (List Int)) : Option (List Int × Bool × Int) := (ZA.f k ae af).bind fun ft => (if ft.2 = 0 then (if ft.1 = 1 then ((Qr.f k ae af).bind fun t104 => ((Qh.f k t104).bind fun br => (some (br.1, br.2, 0)))) else (some (([] : List Int), false, 0))) else (some (([] : List Int), false, ft.2)))
set_option maxHeartbeats 8000000 in
set_option maxRecDepth 100000 in
theorem Zx.calls (k : Nat) (ak : Option Addr) (an : Nat) (ae : List (List Int)) (aj : Option Addr) (al : Nat) (af : List (List Int)) (r1 : List Int) (r2 : Bool) (r3 : Int) (w : World) (aN : Kd.C (Kd.slice 3 (Kd.int .i64)) w ak ae.length ae) (aT : ae.length ≤ an) (aM : Kd.C (Kd.slice 3 (Kd.int .i64)) w aj af.length af) (aQ : af.length ≤ al) (h : Zx.f k ae af = some (r1, r2, r3)) :
  Calls Try.prog 66 #[.agg #[.slice ak ae.length an, .slice aj af.length al]] w fun e w' => ∃ v0_ : Value, e = .returned (.tuple #[v0_, .bool r2, .int .i64 r3]) ∧ Kd.R (Kd.int .i64) 3 w' w.heap.size (fun _ => True) v0_ r1 ∧ Below w.heap.size w w' := by
 have en := Try.underlying24; have aw := aa.mk aN; have az := aa.mk aT; clear aN aT; have ay := aa.mk aM; have aA := aa.mk aQ; clear aM aQ; have HB := aa.mk (Below.refl w.heap.size w); have H : ((ZA.f k ae af).bind fun ft => (if ft.2 = 0 then (if ft.1 = 1 then ((Qr.f k ae af).bind fun t104 => ((Qh.f k t104).bind fun br => (some (br.1, br.2, 0)))) else (some (([] : List Int), false, 0))) else (some (([] : List Int), false, ft.2)))) = some (r1, r2, r3) := h; clear h; replace H := Option.bind_eq_some_iff.mp H; obtain ⟨⟨t102, t103⟩, A20, H⟩ := H; replace H : (if t103 = 0 then (if t102 = 1 then ((Qr.f k ae af).bind fun t104 => ((Qh.f k t104).bind fun br => (some (br.1, br.2, 0)))) else (some (([] : List Int), false, 0))) else (some (([] : List Int), false, t103))) = some (r1, r2, r3) := H; have A2 := aa.mk A20; clear A20; by_cases c3 : t103 = 0
 ·rw [if_pos c3] at H; have bH : (t103 == 0) = true := beq_iff_eq.mpr c3; have cx : (t103 != 0) = false := bne_eq_false_iff_eq.mpr c3; clear c3; by_cases c4 : t102 = 1
  ·rw [if_pos c4] at H; have bE : (t102 == 1) = true := beq_iff_eq.mpr c4; have dO : (t102 != 1) = false := bne_eq_false_iff_eq.mpr c4; clear c4; replace H := Option.bind_eq_some_iff.mp H; obtain ⟨t104, A50, H⟩ := H; replace H : ((Qh.f k t104).bind fun br => (some (br.1, br.2, 0))) = some (r1, r2, r3) := H; have A5 := aa.mk A50; clear A50; replace H := Option.bind_eq_some_iff.mp H; obtain ⟨⟨t107, t110⟩, A60, H⟩ := H; replace H : (some (t107, t110, 0)) = some (r1, r2, r3) := H; have A6 := aa.mk A60; clear A60; simp only [Option.some.injEq, Prod.mk.injEq] at H; obtain ⟨rfl, rfl, rfl⟩ := H; go_enter Try.func66, Try.ntmps66; go_wp2_with (first | ((with_reducible refine QO (N := 1) rfl ?_); refine Q4 ?hg (N := 1) ?hd (cs := #[.slice ak ae.length an, .slice aj af.length al]) (t := 24) ?hr ?_; (case hd => rfl); (case hg => rfl); (case hr => first | (go_simp; done) | (go_simp; rfl)); intro ag hg w7 hbox hb; have ab := aa.mk (hbox); have bo := aa.mk ((by rw [hg]; exact (Qc bB) : w.heap.size ≤ ag)); have aV := aa.mk ((by rw [hg]; exact (Qc bB) : w.heap.size ≤ ag)); replace HB := aa.mk (Qa bB hb); clear hb hbox hg; have mF : w7.cell? ⟨ag, 0, none⟩ = some (.slice ak ae.length an) := (Qd ab.out 0).trans rfl; have mE : w7.cell? ⟨ag, 1, none⟩ = some (.slice aj af.length al) := (Qd ab.out 1).trans rfl; have mD := Qb ab.out 0; have mC := Qb ab.out 1) | ((with_reducible refine Qg (f := 54) rfl ?_); refine QG (some 11) rfl rfl Try.func54 (by kernel_rfl) rfl #[.agg #[.slice ak ae.length an, .slice aj af.length al]] rfl hA ?_; (with_reducible refine (ZA.calls k _ _ ae _ _ af t102 t103 _ ?ah ?ai ?aq ?ar A2.out).mono ?_); (case ah => exact (Kd.Qo aw.out HB.out)); (case ai => exact az.out); (case aq => exact (Kd.Qo ay.out HB.out)); (case ar => exact aA.out); rintro e w9 ⟨rfl, hb⟩; refine ⟨_, rfl, ?_⟩; replace ab := aa.mk (Qq ab.out hb); replace HB := aa.mk (Qa bB hb); (try clear hb); (try clear hb2); (try clear hk); (try clear hi); have da : w9.cell? ⟨ag, 0, none⟩ = some (.slice ak ae.length an) := (Qd ab.out 0).trans rfl; have cZ : w9.cell? ⟨ag, 1, none⟩ = some (.slice aj af.length al) := (Qd ab.out 1).trans rfl; have cW := Qb ab.out 0; have cV := Qb ab.out 1) | ((with_reducible refine Qg (f := 96) rfl ?_); refine QG (some 21) rfl rfl Try.func96 (by kernel_rfl) rfl #[.agg #[.slice ak ae.length an, .slice aj af.length al]] rfl hA ?_; (with_reducible refine (Qr.calls k _ _ ae _ _ af t104 _ ?ah ?ai ?aq ?ar A5.out).mono ?_); (case ah => exact (Kd.Qo aw.out HB.out)); (case ai => exact az.out); (case aq => exact (Kd.Qo ay.out HB.out)); (case ar => exact aA.out); rintro e w11 ⟨ie, rfl, ho0, hb⟩; refine ⟨_, rfl, ?_⟩; have aY := aa.mk (Kd.YY ho0 (Qc bB)); replace ab := aa.mk (Qq ab.out hb); replace HB := aa.mk (Qa bB hb); (try clear hb); (try clear hb2); (try clear hk); (try clear hi); (try clear ho0); obtain ⟨m2, mS, oV⟩ := Kd.VT aY.out; subst oV) | ((with_reducible refine Qg (f := 104) rfl ?_); refine QG (some 22) rfl rfl Try.func104 (by kernel_rfl) rfl #[.slice m2 t104.length mS] rfl hA ?_; (with_reducible refine (Qh.calls k (fun k_ => (True ∧ k_ ≠ ag)) _ _ t104 t107 t110 _ ?ah A6.out).mono ?_); (case ah => exact Kd.S_V (Kd.S_types (aY.out) ab.out (by decide))); rintro e w13 ⟨de, rfl, ho0, hb⟩; refine ⟨_, rfl, ?_⟩; replace aY := aa.mk (Kd.YR aY.out (Kd.QS ho0) hb); have aW := aa.mk (Kd.Zg (Kd.Q8 (ok' := fun k_ => True) ho0 (fun _ hk_ => trivial)) (Qc bB)); replace ab := aa.mk (Qq ab.out hb); replace HB := aa.mk (Qa bB hb); (try clear hb); (try clear hb2); (try clear hk); (try clear hi); (try clear ho0)))
   go_ret3
   exact ⟨_, by first | rfl | (simp [Qj, Qi] <;> rfl) | (simp [*, Qj, Qi] <;> rfl), by (with_reducible repeat (first | apply Kd.R_alloc | apply Kd.QI | apply Kd.QN)); exact aW.out, bB⟩
  ·rw [if_neg c4] at H; have bE : (t102 == 1) = false := beq_eq_false_iff_ne.mpr c4; have dO : (t102 != 1) = true := bne_iff_ne.mpr c4; simp only [Option.some.injEq, Prod.mk.injEq] at H; obtain ⟨rfl, rfl, rfl⟩ := H; go_enter Try.func66, Try.ntmps66; go_wp2_with (first | ((with_reducible refine QO (N := 1) rfl ?_); refine Q4 ?hg (N := 1) ?hd (cs := #[.slice ak ae.length an, .slice aj af.length al]) (t := 24) ?hr ?_; (case hd => rfl); (case hg => rfl); (case hr => first | (go_simp; done) | (go_simp; rfl)); intro ag hg w14 hbox hb; have ab := aa.mk (hbox); have bo := aa.mk ((by rw [hg]; exact (Qc bB) : w.heap.size ≤ ag)); have aV := aa.mk ((by rw [hg]; exact (Qc bB) : w.heap.size ≤ ag)); replace HB := aa.mk (Qa bB hb); clear hb hbox hg; have fL : w14.cell? ⟨ag, 0, none⟩ = some (.slice ak ae.length an) := (Qd ab.out 0).trans rfl; have fK : w14.cell? ⟨ag, 1, none⟩ = some (.slice aj af.length al) := (Qd ab.out 1).trans rfl; have fH := Qb ab.out 0; have fG := Qb ab.out 1) | ((with_reducible refine Qg (f := 54) rfl ?_); refine QG (some 11) rfl rfl Try.func54 (by kernel_rfl) rfl #[.agg #[.slice ak ae.length an, .slice aj af.length al]] rfl hA ?_; (with_reducible refine (ZA.calls k _ _ ae _ _ af t102 t103 _ ?ah ?ai ?aq ?ar A2.out).mono ?_); (case ah => exact (Kd.Qo aw.out HB.out)); (case ai => exact az.out); (case aq => exact (Kd.Qo ay.out HB.out)); (case ar => exact aA.out); rintro e w16 ⟨rfl, hb⟩; refine ⟨_, rfl, ?_⟩; replace ab := aa.mk (Qq ab.out hb); replace HB := aa.mk (Qa bB hb); (try clear hb); (try clear hb2); (try clear hk); (try clear hi)))
   go_ret3
   exact ⟨_, by first | rfl | (simp [Qj, Qi] <;> rfl) | (simp [*, Qj, Qi] <;> rfl), by first | exact Kd.Yg _ _ _ _ _ | exact Kd.Yp _ _ _ _ _ | exact Kd.V_nil _ _ _ _ _ | exact Kd.Q_nil _ _ _ _ _ | exact Kd.Ys _ _ _ _ _, bB⟩
 ·rw [if_neg c3] at H; have bH : (t103 == 0) = false := beq_eq_false_iff_ne.mpr c3; have cx : (t103 != 0) = true := bne_iff_ne.mpr c3; simp only [Option.some.injEq, Prod.mk.injEq] at H; obtain ⟨rfl, rfl, rfl⟩ := H; go_enter Try.func66, Try.ntmps66; go_wp2_with (first | ((with_reducible refine QO (N := 1) rfl ?_); refine Q4 ?hg (N := 1) ?hd (cs := #[.slice ak ae.length an, .slice aj af.length al]) (t := 24) ?hr ?_; (case hd => rfl); (case hg => rfl); (case hr => first | (go_simp; done) | (go_simp; rfl)); intro ag hg w17 hbox hb; have ab := aa.mk (hbox); have bo := aa.mk ((by rw [hg]; exact (Qc bB) : w.heap.size ≤ ag)); have aV := aa.mk ((by rw [hg]; exact (Qc bB) : w.heap.size ≤ ag)); replace HB := aa.mk (Qa bB hb); clear hb hbox hg; have kX : w17.cell? ⟨ag, 0, none⟩ = some (.slice ak ae.length an) := (Qd ab.out 0).trans rfl; have kW : w17.cell? ⟨ag, 1, none⟩ = some (.slice aj af.length al) := (Qd ab.out 1).trans rfl; have kT := Qb ab.out 0; have kS := Qb ab.out 1) | ((with_reducible refine Qg (f := 54) rfl ?_); refine QG (some 11) rfl rfl Try.func54 (by kernel_rfl) rfl #[.agg #[.slice ak ae.length an, .slice aj af.length al]] rfl hA ?_; (with_reducible refine (ZA.calls k _ _ ae _ _ af t102 t103 _ ?ah ?ai ?aq ?ar A2.out).mono ?_); (case ah => exact (Kd.Qo aw.out HB.out)); (case ai => exact az.out); (case aq => exact (Kd.Qo ay.out HB.out)); (case ar => exact aA.out); rintro e w19 ⟨rfl, hb⟩; refine ⟨_, rfl, ?_⟩; replace ab := aa.mk (Qq ab.out hb); replace HB := aa.mk (Qa bB hb); (try clear hb); (try clear hb2); (try clear hk); (try clear hi)))
  go_ret3
  exact ⟨_, by first | rfl | (simp [Qj, Qi] <;> rfl) | (simp [*, Qj, Qi] <;> rfl), by first | exact Kd.Yg _ _ _ _ _ | exact Kd.Yp _ _ _ _ _ | exact Kd.V_nil _ _ _ _ _ | exact Kd.Q_nil _ _ _ _ _ | exact Kd.Ys _ _ _ _ _, bB⟩
end Go.Proofs.Ytdneelgnmnpanaa.P
end
section
namespace Go.Proofs.Ytdneelgnmnpanaa.P
open Go.RowKit Go.Proofs.YtdneelgnmnpanaaW.PrintWords Go.Proofs.YtdneelgnmnpanaaW.PrintLast Go.Proofs.YtdneelgnmnpanaaW.PrintMore
def Full.kd : Kd (List Int) where
  sz := 1
  E := []
  K := fun w xs cs => ∃ A n, cs = [.slice A n xs.length] ∧ n ≤ xs.length ∧ Kd.C (Kd.int .i64) w A xs.length xs
  M := fun _ _ _ _ _ => False
  K_len := by
    rintro w x cs ⟨A, c, rfl, _⟩; rfl
  K_one := by
    rintro w x cs ⟨A, c, rfl, _⟩ u hu; rw [List.mem_singleton.1 hu]; rfl
  K_below := by
    rintro w w1 x cs hb ⟨A, c, rfl, hl, hr⟩; exact ⟨A, c, rfl, hl, Kd.Qo hr hb⟩
  K_of_M := fun h => h.elim
  M_mono := fun _ h => h
  M_bound := fun h => h
  M_move := fun _ h => h
  M_lower := fun _ h => h
theorem Full.at_ {w : World} {A : Option Addr} {n : Nat} {xs : List (List Int)} (h : Kd.C Full.kd w A n xs) (i : Int) (h0 : 0 ≤ i) (h1 : i < n) : ∃ ad A0 c0, A = some ad ∧ w.cell? (ad.add i.toNat) = some (.slice A0 c0 (Qu xs i).length) ∧ c0 ≤ (Qu xs i).length ∧ Kd.C (Kd.int .i64) w A0 (Qu xs i).length (Qu xs i) := by
  obtain ⟨ad, c, e, _, hK, hc0⟩ := Kd.C_get h ([] : List Int) i h0 h1; obtain ⟨A0, c0, rfl, hl, hr⟩ := hK; have hc : ∀ j u, [Value.slice A0 c0 (Qu xs i).length][j]? = some u → w.cell? (ad.add (i.toNat * 1 + j)) = some u := hc0; exact ⟨ad, A0, c0, e, by have hq := hc 0 _ rfl; rwa [Nat.mul_one, Nat.add_zero] at hq, hl, hr⟩
section
variable {P : Program} {ops : Array Oper} {Q : Exit → Act → World → Prop}
theorem VY {rest : List Oper} {oi : Oper} {a : Act} {w : World} (N : Option Tmp) (hd : oi.dst = N) (hg : oi.guard = none) (k : Tmp) {f : FuncId} (cap : Array Value) {fn : Func} {xs : Array Operand} {ts : Array TypeId} (hop : oi.op = .call { callee := .value (.tmp k), args := xs, argTypes := ts })
    (hf : P.funcs[f]? = some fn) (hname : (fn.name == "runtime.NumGoroutine") = false) (hb : fn.body.isSome = true) (hk : a.eval (.tmp k) = .func (.func f) #[] cap) (args : Array Value) (hargs : xs.map a.eval ++ cap = args)
    (h : Calls P f args w fun e w' => ∃ v, e = .returned v ∧ wpList P ops Q rest (a.put N v) w') : wpList P ops Q (oi :: rest) a w := by
  refine wpList_plain hg fun K hK => ?_
  have he := JF hf hname hb args w; have hrun : (execOp a.eval oi).run P w = .ok (.enter f args) w := by
    unfold execOp; simp [hop, resolve, Deferred.ofValue, invoke, hk, hargs, he]
  unfold Oper.wp; rw [hrun, Oper.upon_enter]; refine h.mono fun e w'' hh => ?_
  obtain ⟨v, rfl, hk⟩ := hh; subst hd; exact hK _ _ hk
end
def bad (lo hi n : Int) : Bool := !decide (lo ≤ n ∧ n ≤ hi)
theorem within (n lo hi : Int) : Zk.f n lo hi = some (decide (lo ≤ n ∧ n ≤ hi)) := by
  unfold Zk.f; by_cases h : n ≥ lo
  · simp [h]
  · simp [h]
set_option maxHeartbeats 1000000 in
set_option maxRecDepth 100000 in
theorem all1_calls (t lo hi : Int) (g g2 : Nat) (w : World) (hbx : w.cell? ⟨g, 0, none⟩ = some (.int .i64 lo)) (hby : w.cell? ⟨g2, 0, none⟩ = some (.int .i64 hi)) :
    Calls Try.prog 115 #[.int .i64 t, .pointer (some ⟨g, 0, none⟩), .pointer (some ⟨g2, 0, none⟩)] w fun e w' => e = .returned (.bool (bad lo hi t)) ∧ Below w.heap.size w w' := by
  have A1 := aa.mk (within t lo hi); have hbad : (!decide (lo ≤ t ∧ t ≤ hi)) = bad lo hi t := rfl; generalize bad lo hi t = b at *; generalize decide (lo ≤ t ∧ t ≤ hi) = c at *; subst hbad; have HB := aa.mk (Below.refl w.heap.size w); go_enter Try.func115, Try.ntmps115; go_wp2_with (first
    | ((with_reducible refine Qg (f := 75) rfl ?_); refine QG (some 8) rfl rfl Try.func75 (by kernel_rfl) rfl #[.int .i64 t, .int .i64 lo, .int .i64 hi] rfl (by (try simp only [List.map_toArray, List.map_cons, List.map_nil]); first | done | rfl) ?_; (with_reducible refine (Zk.calls t lo hi c _ A1.out).mono ?_); rintro e w' ⟨rfl, ⟨nd, rfl⟩⟩; refine ⟨_, rfl, ?_⟩))
  go_ret; exact ⟨rfl, by repeat (first | (with_reducible first | exact HB.out | apply Q0 | apply QF | apply QP) | exact HB.out)⟩
set_option maxHeartbeats 2000000 in
set_option maxRecDepth 100000 in
theorem index_calls (A0 : Option Addr) (c0 : Nat) (l0 : List Int) (lo hi : Int) (g g2 : Nat) (w : World) (hr0 : Kd.C (Kd.int .i64) w A0 l0.length l0) (hc0 : l0.length ≤ c0) (hl : l0.length ≤ 1000) (hbx : w.cell? ⟨g, 0, none⟩ = some (.int .i64 lo)) (hby : w.cell? ⟨g2, 0, none⟩ = some (.int .i64 hi)) :
    Calls Try.prog 119 #[.slice A0 l0.length c0, .func (.func 115) #[] #[.pointer (some ⟨g, 0, none⟩), .pointer (some ⟨g2, 0, none⟩)]] w fun e w' => ∃ r : Int, e = .returned (.int .i64 r) ∧ decide (0 ≤ r) = l0.any (bad lo hi) ∧ Below w.heap.size w w' := by
  have HR0 := aa.mk hr0; have HC0 := aa.mk hc0; have HBX := aa.mk hbx; have HBY := aa.mk hby; have HL := aa.mk hl; clear hr0 hc0 hbx hby; have HB := aa.mk (Below.refl w.heap.size w); go_enter Try.func119, Try.ntmps119; go_wp2_with fail
  go_loopw [8] (fun i w' => ∃ n : Nat, n ≤ l0.length ∧ i = .int .i64 n ∧ aa (l0.any (bad lo hi) = (l0.drop n).any (bad lo hi)) ∧ aa (Below w.heap.size w w')) (fun i _ => l0.length - (intOf i).toNat)
  case atStart => exact ⟨0, by omega, rfl, ⟨rfl⟩, by first | exact HB | exact ⟨HB.out.drew⟩⟩
  case round =>
    clear HB; obtain ⟨n, hn, rfl, HA, HB⟩ := hrel; by_cases hlt : n < l0.length
    · have p1 : 0 ≤ (n : Int) := by omega
      have q1 : (n : Int) < (l0.length : Int) := by omega
      obtain ⟨ad1, e1, hx0⟩ := Kd.Zh HR0.out (n : Int) p1 q1; cases e1; replace hx0 := (HB.out.cell (World.block_lt_of_cell? w _ hx0)).trans hx0; have hbx := (HB.out.cell (World.block_lt_of_cell? w _ HBX.out)).trans HBX.out; have hby := (HB.out.cell (World.block_lt_of_cell? w _ HBY.out)).trans HBY.out; generalize hxx : rd l0 (n : Int) = x at *; simp only [Int.toNat_natCast] at hx0; have hxe : l0[n] = x := by rw [← hxx]; simp [rd, hlt]
      have ha := HA.out; rw [List.drop_eq_getElem_cons hlt, List.any_cons, hxe] at ha; have HA2 := aa.mk ha; clear HA ha hxe hxx; have HY := aa.mk (all1_calls x lo hi g g2 _ hbx hby); generalize bad lo hi x = b at *; cases b with
      | true =>
        go_wp2_with (first
          | ((with_reducible refine QO (N := 16) rfl ?_); refine VY (some 16) rfl rfl 11 #[.pointer (some ⟨g, 0, none⟩), .pointer (some ⟨g2, 0, none⟩)] rfl Try.func115 (by kernel_rfl) rfl rfl #[.int .i64 x, .pointer (some ⟨g, 0, none⟩), .pointer (some ⟨g2, 0, none⟩)] (by (try simp only [List.map_toArray, List.map_cons, List.map_nil]); first | done | rfl) ?_; (with_reducible refine HY.out.mono ?_); rintro e w9 ⟨rfl, hb⟩; refine ⟨_, rfl, ?_⟩; replace HB := aa.mk (Qa (by repeat (first | (with_reducible first | exact HB.out | apply Q0 | apply QF | apply QP) | exact HB.out)) hb); (try clear hb)))
        go_ret; exact ⟨(n : Int), rfl, by rw [HA2.out, Bool.true_or]; simp, HB.out⟩
      | false =>
        go_wp2_with (first
          | ((with_reducible refine QO (N := 16) rfl ?_); refine VY (some 16) rfl rfl 11 #[.pointer (some ⟨g, 0, none⟩), .pointer (some ⟨g2, 0, none⟩)] rfl Try.func115 (by kernel_rfl) rfl rfl #[.int .i64 x, .pointer (some ⟨g, 0, none⟩), .pointer (some ⟨g2, 0, none⟩)] (by (try simp only [List.map_toArray, List.map_cons, List.map_nil]); first | done | rfl) ?_; (with_reducible refine HY.out.mono ?_); rintro e w9 ⟨rfl, hb⟩; refine ⟨_, rfl, ?_⟩; replace HB := aa.mk (Qa (by repeat (first | (with_reducible first | exact HB.out | apply Q0 | apply QF | apply QP) | exact HB.out)) hb); (try clear hb)))
        go_roundw
        case rel => exact ⟨n + 1, by omega, by go_num, ⟨by rw [HA2.out, Bool.false_or]⟩, ⟨by first | exact HB.out.drew | exact HB.out⟩⟩
        case measure => simp [intOf]; omega
    · have hq : n = l0.length := by omega
      subst hq; go_wp2_with fail
      go_ret; exact ⟨-1, rfl, by rw [HA.out, List.drop_length]; rfl, HB.out⟩
set_option maxHeartbeats 1000000 in
set_option maxRecDepth 100000 in
theorem any_calls (A0 : Option Addr) (c0 : Nat) (l0 : List Int) (lo hi : Int) (g g2 : Nat) (w : World) (hr0 : Kd.C (Kd.int .i64) w A0 l0.length l0) (hc0 : l0.length ≤ c0) (hl : l0.length ≤ 1000) (hbx : w.cell? ⟨g, 0, none⟩ = some (.int .i64 lo)) (hby : w.cell? ⟨g2, 0, none⟩ = some (.int .i64 hi)) :
    Calls Try.prog 114 #[.slice A0 l0.length c0, .func (.func 115) #[] #[.pointer (some ⟨g, 0, none⟩), .pointer (some ⟨g2, 0, none⟩)]] w fun e w' => e = .returned (.bool (l0.any (bad lo hi))) ∧ Below w.heap.size w w' := by
  have HY := aa.mk (index_calls A0 c0 l0 lo hi g g2 w hr0 hc0 hl hbx hby); clear hr0 hc0 hl hbx hby; have HB := aa.mk (Below.refl w.heap.size w); generalize l0.any (bad lo hi) = b at *; go_enter Try.func114, Try.ntmps114; go_wp2_with (first
    | ((with_reducible refine Qg (f := 119) rfl ?_); refine QG (some 7) rfl rfl Try.func119 (by kernel_rfl) rfl #[.slice A0 l0.length c0, .func (.func 115) #[] #[.pointer (some ⟨g, 0, none⟩), .pointer (some ⟨g2, 0, none⟩)]] rfl (by (try simp only [List.map_toArray, List.map_cons, List.map_nil]); first | done | rfl) ?_; (with_reducible refine HY.out.mono ?_); rintro e w9 ⟨r, rfl, hb0, hb⟩; refine ⟨_, rfl, ?_⟩))
  subst hb0; go_ret; exact ⟨rfl, hb⟩
def Zo.f (l : List Int) (count lo hi : Int) : Option Bool := if l.length ≤ 1000 then some (decide ((l.length : Int) = count) && !l.any (bad lo hi)) else none
set_option maxHeartbeats 2000000 in
set_option maxRecDepth 100000 in
theorem Zo.calls (A0 : Option Addr) (c0 : Nat) (l0 : List Int) (a1 a2 a3 : Int) (r : Bool) (w : World) (hr0 : Kd.C (Kd.int .i64) w A0 l0.length l0) (hc0 : l0.length ≤ c0) (h : Zo.f l0 a1 a2 a3 = some r) :
    Calls Try.prog 77 #[.slice A0 l0.length c0, .int .i64 a1, .int .i64 a2, .int .i64 a3] w fun e w' => e = .returned (.bool r) ∧ Below w.heap.size w w' := by
  obtain ⟨hl, hr⟩ : l0.length ≤ 1000 ∧ (decide ((l0.length : Int) = a1) && !l0.any (bad a2 a3)) = r := by
    unfold Zo.f at h; split at h
    · rename_i h1
      exact ⟨h1, Option.some.inj h⟩
    · cases h
  have HR0 := aa.mk hr0; have HC0 := aa.mk hc0; have HL := aa.mk hl; clear hr0 hc0 h hl; have HB := aa.mk (Below.refl w.heap.size w); by_cases c : (l0.length : Int) = a1
  · subst c; simp only [decide_true, Bool.true_and] at hr; go_enter Try.func77, Try.ntmps77; go_wp2_with (first
      | ((with_reducible refine QO (N := 6) rfl ?_); refine Q4 ?hg (N := 6) ?hd (cs := #[.int .i64 a2]) (t := 3) ?hr ?_; (case hd => rfl); (case hg => rfl); (case hr => first | (go_simp; done) | (go_simp; rfl)); intro g hg w1 hbox hbe; have BK1 := aa.mk hbox; replace HB := aa.mk (Qa HB.out hbe); clear hg hbox hbe)
      | ((with_reducible refine QO (N := 7) rfl ?_); refine Q4 ?hg (N := 7) ?hd (cs := #[.int .i64 a3]) (t := 3) ?hr ?_; (case hd => rfl); (case hg => rfl); (case hr => first | (go_simp; done) | (go_simp; rfl)); intro g2 hg w2 hbox hbe; have BK2 := aa.mk hbox; have n1_ := aa.mk (Qq BK1.out hbe); have n0_ := aa.mk (Qa HB.out hbe); clear HB BK1; have HB := n0_; have BK1 := n1_; clear n0_ n1_; clear hg hbox hbe)
      | ((with_reducible refine Qg (f := 114) rfl ?_); (try (refine Z5 (by rfl) ?_)); refine QG (some 16) rfl rfl Try.func114 (by kernel_rfl) rfl #[.slice A0 l0.length c0, .func (.func 115) #[] #[.pointer (some ⟨g, 0, none⟩), .pointer (some ⟨g2, 0, none⟩)]] rfl (by (try simp only [List.map_toArray, List.map_cons, List.map_nil]); first | done | rfl) ?_; (with_reducible refine (any_calls A0 c0 l0 a2 a3 g g2 _ (Kd.Qo HR0.out HB.out) HC0.out HL.out (by have := BK1.out; simp [World.cell?, this]) (by have := BK2.out; simp [World.cell?, this])).mono ?_); rintro e w9 ⟨rfl, hb⟩; refine ⟨_, rfl, ?_⟩; replace HB := aa.mk (Qa HB.out hb); (try clear hb)))
    go_ret; exact ⟨rfl, HB.out⟩
  · simp only [c, decide_false, Bool.false_and] at hr; have c2 : ((l0.length : Int) == a1) = false := beq_eq_false_iff_ne.mpr c; clear c; subst hr; go_enter Try.func77, Try.ntmps77; go_wp2_with (first
      | ((with_reducible refine QO (N := 6) rfl ?_); refine Q4 ?hg (N := 6) ?hd (cs := #[.int .i64 a2]) (t := 3) ?hr ?_; (case hd => rfl); (case hg => rfl); (case hr => first | (go_simp; done) | (go_simp; rfl)); intro g hg w1 hbox hbe; replace HB := aa.mk (Qa HB.out hbe); clear hg hbox hbe)
      | ((with_reducible refine QO (N := 7) rfl ?_); refine Q4 ?hg (N := 7) ?hd (cs := #[.int .i64 a3]) (t := 3) ?hr ?_; (case hd => rfl); (case hg => rfl); (case hr => first | (go_simp; done) | (go_simp; rfl)); intro g2 hg w2 hbox hbe; replace HB := aa.mk (Qa HB.out hbe); clear hg hbox hbe))
    go_ret; exact ⟨rfl, HB.out⟩
theorem Two.build {P : Program} {ops : Array Oper} {rest : List Oper} {o : Oper} {a : Act} {W : World} {Q : Exit → Act → World → Prop} (hgd : o.guard = none) {N : Tmp} (_hd : o.dst = some N) {v0 v1 : Value}
    (hrun : (execOp a.eval o).run P W = .ok (.value (.slice (some ⟨W.heap.size, 0, none⟩) 2 2)) (W.alloc (.cells #[v0, v1] 22)))
    (h : ∀ g, g = W.heap.size → ∀ w1, w1.heap[g]? = some (.cells #[v0, v1] 22 (0, 0)) → Below W.heap.size W w1 → wpList P ops Q rest (a.put o.dst (.slice (some ⟨g, 0, none⟩) 2 2)) w1) : wpList P ops Q (o :: rest) a W :=
  Kd.VZ hgd hrun (h _ rfl _ (YN W _) (Q0 (Below.refl _ _) _))
def Zm.f (l0 l1 : List (List Int)) : Option (List (List Int)) := if l0.length + l1.length ≤ 1000 then some (l0 ++ l1) else none
set_option maxHeartbeats 1000000 in
set_option maxRecDepth 100000 in
theorem grow_calls (n : Nat) (hn : n ≤ 1000) (w : World) :
    Calls Try.prog 113 #[.slice none 0 0, .int .i64 n] w fun e w' => ∃ v, e = .returned v ∧ Kd.N (Kd.slice 3 (Kd.int .i64)) 28 w' w.heap.size (fun k => w.heap.size ≤ k) v [] ∧ Below w.heap.size w w' := by
  have su := Try.underlying22; have hu3 := Try.underlying3; by_cases h0 : n = 0
  · subst h0; go_enter Try.func113, Try.ntmps113; go_wp2_with fail
    go_ret; exact ⟨_, rfl, Kd.Yp _ _ _ _ _, Below.refl _ _⟩
  · have hp : 0 < n := by omega
    obtain ⟨i28, yo, xY, AO, yB⟩ : ∃ i, Try.prog.info? 28 = some i ∧ i.zero = some (.slice none 0 0) ∧ i.size = 1 ∧ i.bytes = 24 := by
      have h := info28; cases hq : Try.prog.info? 28 with
      | none => rw [hq] at h; cases h
      | some i =>
        rw [hq] at h; simp only [Option.map_some, Option.some.injEq, Prod.mk.injEq] at h; exact ⟨i, rfl, h.1, h.2.1, h.2.2⟩
    have c1 : decide ((n : Int) < 0) = false := decide_eq_false (by omega); have c2 : decide (0 < (n : Int)) = true := decide_eq_true (by omega); have happ : ∀ W : World, (Builtin.append_ #[22, 3] 22 #[.slice none 0 0, .int .i64 (n : Int)]).run Try.prog W = .ok (.slice (some ⟨W.heap.size, 0, none⟩) n (grownCap W n 0 28)) (W.drew.alloc (.cells (Builtin.zeroCells (Value.slice none 0 0).cells n ++ Builtin.zeroCells (Value.slice none 0 0).cells (grownCap W n 0 28 - n)) 28)) :=
      fun W => Lib.run_append_nil_zeros W 22 3 22 28 i28 _ .i64 .i64 su hu3 yo xY n hp (by omega) (by omega) (by rw [yB]; omega)
    go_enter Try.func113, Try.ntmps113; go_wp2_with (at_builtin; refine Lib.wpList_append_run _ rfl _ _ _ _ rfl _ _ rfl rfl _ _ (happ _) ?_)
    go_ret; refine ⟨_, rfl, Kd.R_N ⟨fun k hk => ?_, [], ⟨rfl, .inr ⟨w.heap.size, grownCap w n 0 28, _, rfl, Nat.le_refl _, heap_alloc_new w _, Nat.zero_le _, grownCap_le_maxLen w n 0 28 (by simp [maxLen]; omega), ?_, rfl⟩⟩, Reps.none _ _⟩, (((Below.refl _ _).alloc (Nat.le_refl _) _).drew)⟩
    · simp [Value.ownBlock] at hk; omega
    · have := grownCap_ge w n 0 28; simp [Builtin.zeroCells, Kd.slice]; omega
set_option maxHeartbeats 2000000 in
set_option maxRecDepth 100000 in
theorem Zm.calls (P0_ : Nat → Prop) (A0 : Option Addr) (c0 : Nat) (l0 : List (List Int)) (P1_ : Nat → Prop) (A1 : Option Addr) (c1 : Nat) (l1 : List (List Int)) (r : List (List Int)) (w : World) (g : Nat) (hg : w.heap[g]? = some (.cells #[.slice A0 l0.length c0, .slice A1 l1.length c1] 22 (0, 0)))
    (hs0 : Kd.V (Kd.slice 3 (Kd.int .i64)) 28 w w.heap.size (fun k_ => P0_ k_) (.slice A0 l0.length c0) l0) (hs1 : Kd.V (Kd.slice 3 (Kd.int .i64)) 28 w w.heap.size (fun k_ => P1_ k_) (.slice A1 l1.length c1) l1) (h : Zm.f l0 l1 = some r) :
    Calls Try.prog 76 #[.slice (some ⟨g, 0, none⟩) 2 2] w fun e w' => ∃ v0_ : Value, e = .returned (v0_) ∧ Kd.N (Kd.slice 3 (Kd.int .i64)) 28 w' w.heap.size (fun k_ => ((P0_ k_ ∨ P1_ k_) ∨ w.heap.size ≤ k_)) v0_ r ∧ Below w.heap.size w w' := by
  unfold Zm.f at h; by_cases hl : l0.length + l1.length ≤ 1000
  case neg => rw [if_neg hl] at h; cases h
  rw [if_pos hl] at h; obtain rfl := Option.some.inj h; clear h; have su := Try.underlying22; have hu3 := Try.underlying3; have AN := Try.underlying91; have HB := aa.mk (Below.refl w.heap.size w); have HV0 := aa.mk hs0; have HV1 := aa.mk hs1; have HG := aa.mk hg; have HL := aa.mk hl; clear hs0 hs1 hg hl; go_enter Try.func76, Try.ntmps76; go_wp2_with fail
  go_loopw [3, 11] (fun s i w' => ∃ n : Nat, n ≤ 2 ∧ i = .int .i64 n ∧ (s = .int .i64 (if n = 0 then 0 else if n = 1 then (l0.length : Int) else ((l0.length + l1.length : Nat) : Int))) ∧ aa (Below w.heap.size w w')) (fun _ i _ => 2 - (intOf i).toNat)
  case atStart => exact ⟨0, by omega, rfl, rfl, by first | exact HB | exact ⟨HB.out.drew⟩⟩
  case round =>
    clear HB; obtain ⟨n, hn, rfl, rfl, HB⟩ := hrel; have hg := Qq HG.out HB.out; have hx0 : wr.cell? ⟨g, 0, none⟩ = some (.slice A0 l0.length c0) := (Qd hg 0).trans rfl; have hx1 : wr.cell? ⟨g, 1, none⟩ = some (.slice A1 l1.length c1) := (Qd hg 1).trans rfl; have hl := HL.out; clear hg; obtain rfl | rfl | rfl : n = 0 ∨ n = 1 ∨ n = 2 := by omega
    · have k1 : decide ((l0.length : Int) < 0) = false := decide_eq_false (by omega); go_wp2_with fail
      go_roundw
      case rel => exact ⟨1, by omega, by go_num, by simp, HB⟩
      case measure => simp [intOf]
    · have k2 : decide ((l0.length : Int) + (l1.length : Int) < 0) = false := decide_eq_false (by omega); go_wp2_with fail
      go_roundw
      case rel => exact ⟨2, by omega, by go_num, by simp, HB⟩
      case measure => simp [intOf]
    · have HW := aa.mk (grow_calls (l0.length + l1.length) hl); clear hx0 hx1; go_wp2_with (first
        | ((with_reducible refine Qg (f := 113) rfl ?_); refine QG (some 24) rfl rfl Try.func113 (by kernel_rfl) rfl #[.slice none 0 0, .int .i64 ((l0.length + l1.length : Nat) : Int)] rfl (by (try simp only [List.map_toArray, List.map_cons, List.map_nil]); first | done | rfl) ?_; (with_reducible refine (HW.out _).mono ?_); rintro e w9 ⟨v9, rfl, ho0, hb⟩; refine ⟨_, rfl, ?_⟩; have n0_ := aa.mk (Kd.Yj ho0 (Qc HB.out)); have n1_ := aa.mk (Kd.Ya (ok' := fun k_ => ((P0_ k_ ∨ P1_ k_) ∨ w.heap.size ≤ k_)) n0_.out (fun k_ hk_ => .inr (Nat.le_trans (Qc HB.out) hk_))); have n2_ := aa.mk (Qa HB.out hb); clear HB n0_; have HO := n1_; have HB := n2_; clear n1_ n2_; clear hb ho0; obtain ⟨Ao, co, eo⟩ := Kd.Yb HO.out; subst eo))
      have HO2 := aa.mk (show Kd.N (Kd.slice 3 (Kd.int .i64)) 28 _ w.heap.size (fun k_ => ((P0_ k_ ∨ P1_ k_) ∨ w.heap.size ≤ k_)) (.slice Ao ([] : List (List Int)).length co) (if 0 = 0 then [] else if 0 = 1 then l0 else l0 ++ l1) from HO.out); clear HO HW; go_loopw [6, 27] (fun v i w' => ∃ n : Nat, n ≤ 2 ∧ i = .int .i64 n ∧ aa (Kd.N (Kd.slice 3 (Kd.int .i64)) 28 w' w.heap.size (fun k_ => ((P0_ k_ ∨ P1_ k_) ∨ w.heap.size ≤ k_)) v (if n = 0 then [] else if n = 1 then l0 else l0 ++ l1)) ∧ aa (Below w.heap.size w w')) (fun _ i _ => 2 - (intOf i).toNat)
      case atStart => exact ⟨0, by omega, rfl, HO2, by first | exact HB | exact ⟨HB.out.drew⟩⟩
      case round =>
        clear HB HO2; obtain ⟨n, hn, rfl, HO, HB⟩ := hrel; have hg := Qq HG.out HB.out; have hx0 : wr.cell? ⟨g, 0, none⟩ = some (.slice A0 l0.length c0) := (Qd hg 0).trans rfl; have hx1 : wr.cell? ⟨g, 1, none⟩ = some (.slice A1 l1.length c1) := (Qd hg 1).trans rfl; have hl := HL.out; clear hg; obtain rfl | rfl | rfl : n = 0 ∨ n = 1 ∨ n = 2 := by omega
        · replace HO := aa.mk (show Kd.N (Kd.slice 3 (Kd.int .i64)) 28 wr w.heap.size (fun k_ => ((P0_ k_ ∨ P1_ k_) ∨ w.heap.size ≤ k_)) u6 [] from HO.out); go_wp2_with (first | ((with_reducible refine Zr (b := .append) (xs := #[.tmp 31, .tmp 32]) rfl ?_); at_builtin; refine Kd.Vv (Kd.slice 3 (Kd.int .i64)) (w0 := w) w.heap.size rfl (.tmp 31) (.tmp 32) 22 28 (.slice none 0 0) 24 rfl Try.underlying22 info28 rfl (by decide) (by omega) u6 [] l0 _ _ _ (fun k_ => ((P0_ k_ ∨ P1_ k_) ∨ w.heap.size ≤ k_)) (fun k_ => P0_ k_ ∧ some k_ ≠ (u6 : Value).ownBlock) rfl rfl HO.out (Kd.V_F (Kd.ZX HV0.out (Kd.Z8 HO.out) HB.out)) (fun k_ hk_ => ⟨.inl (.inl hk_.1), hk_.2⟩) (fun k_ hk_ => .inr (Nat.le_trans (Qc HB.out) hk_)) HB.out (Qc HB.out) (by have := HL.out; simp; omega) ?_; intro v15 w15 ho hb hg hat; replace HB := aa.mk hb; replace HO := aa.mk ho; clear ho hb hg hat))
          go_roundw
          case rel => exact ⟨1, by omega, by go_num, HO, HB⟩
          case measure => simp [intOf]
        · replace HO := aa.mk (show Kd.N (Kd.slice 3 (Kd.int .i64)) 28 wr w.heap.size (fun k_ => ((P0_ k_ ∨ P1_ k_) ∨ w.heap.size ≤ k_)) u6 l0 from HO.out); go_wp2_with (first | ((with_reducible refine Zr (b := .append) (xs := #[.tmp 31, .tmp 32]) rfl ?_); at_builtin; refine Kd.Vv (Kd.slice 3 (Kd.int .i64)) (w0 := w) w.heap.size rfl (.tmp 31) (.tmp 32) 22 28 (.slice none 0 0) 24 rfl Try.underlying22 info28 rfl (by decide) (by omega) u6 l0 l1 _ _ _ (fun k_ => ((P0_ k_ ∨ P1_ k_) ∨ w.heap.size ≤ k_)) (fun k_ => P1_ k_ ∧ some k_ ≠ (u6 : Value).ownBlock) rfl rfl HO.out (Kd.V_F (Kd.ZX HV1.out (Kd.Z8 HO.out) HB.out)) (fun k_ hk_ => ⟨.inl (.inr hk_.1), hk_.2⟩) (fun k_ hk_ => .inr (Nat.le_trans (Qc HB.out) hk_)) HB.out (Qc HB.out) (by have := HL.out; simp; omega) ?_; intro v15 w15 ho hb hg hat; replace HB := aa.mk hb; replace HO := aa.mk ho; clear ho hb hg hat))
          go_roundw
          case rel => exact ⟨2, by omega, by go_num, HO, HB⟩
          case measure => simp [intOf]
        · have n1_ := aa.mk (show Kd.N (Kd.slice 3 (Kd.int .i64)) 28 wr w.heap.size (fun k_ => ((P0_ k_ ∨ P1_ k_) ∨ w.heap.size ≤ k_)) u6 (l0 ++ l1) from HO.out); go_wp2_with fail
          go_ret; exact ⟨_, rfl, n1_.out, HB.out⟩
def arr (m : List Int) : Array Value := ⟨m.map (Value.int .i64)⟩
theorem ZS (m : List Int) : (arr m).size = m.length := by simp [arr]
theorem Us (m : List Int) (i : Nat) (h : i < m.length) : (arr m)[i]? = some (.int .i64 (m.getD i 0)) := by simp [arr, h]
theorem JR (m : List Int) (i : Nat) (v : Int) : (arr m).setIfInBounds i (.int .i64 v) = arr (m.set i v) := by
  apply Array.ext'; simp [arr, List.map_set]
theorem YX (m : List Int) : (arr m).all (·.oneCell') = true := by
  simp [arr, Value.oneCell']
theorem YG {w : World} {g : Nat} {m : List Int} {t : TypeId} (h : w.heap[g]? = some (.cells (arr m) t (0, 0))) (i : Nat) (hi : i < m.length) : w.cell? ⟨g, i, none⟩ = some (.int .i64 (m.getD i 0)) := by
  rw [cell_of_row w g i (arr m) t (0, 0) h]; exact Us m i hi
theorem VD {w : World} {g : Nat} {m : List Int} {t : TypeId} (h : w.heap[g]? = some (.cells (arr m) t (0, 0))) (i : Nat) : w.frozen? ⟨g, i, none⟩ = false := frozen_of_row w g i _ _ h
theorem V4 {w : World} {g : Nat} {m : List Int} {t : TypeId} (h : w.heap[g]? = some (.cells (arr m) t (0, 0))) (i : Nat) (v : Int) : (w.setCell ⟨g, i, none⟩ (.int .i64 v)).heap[g]? = some (.cells (arr (m.set i v)) t (0, 0)) := by
  rw [heap_setCell_same _ g i (arr m) t _ h, JR]
def row (m : List Int) (o : Nat) : List Int := (m.drop o).take 6
theorem size76 : (Try.prog.info? 76).map (·.size) = some 6 := by kernel_rfl
set_option maxHeartbeats 1000000 in
set_option maxRecDepth 100000 in
theorem nz_calls (m : List Int) (i g : Nat) (w : World) (hm : m.length = 6) (hi : i < 6) (hbx : w.cell? ⟨g, 0, none⟩ = some (.int .i64 (i : Int))) :
    Calls Try.prog 127 #[.agg (arr m), .pointer (some ⟨g, 0, none⟩)] w fun e w' => e = .returned (.bool (m.getD i 0 != 0)) ∧ Below w.heap.size w w' := by
  have lN := Try.underlying76; have HB := aa.mk (Below.refl w.heap.size w); have HM := aa.mk hm; obtain ⟨v, hv⟩ : ∃ v, v = m.getD i 0 := ⟨_, rfl⟩; rw [← hv]; have HV := aa.mk hv; clear hm hv; go_enter Try.func127, Try.ntmps127; go_wp2_with (first
      | ((with_reducible refine QO (N := 2) rfl ?_); refine Q4 ?hg (N := 2) ?hd (cs := arr m) (t := 76) ?hr ?_; (case hd => rfl); (case hg => rfl); (case hr => first | (go_simp; done) | (go_simp; rfl)); intro g2 hg2 w1 hbox hbe; have hc1 := YG hbox i (by rw [HM.out]; exact hi); rw [← HV.out] at hc1; have hb1 := (hbe.cell (World.block_lt_of_cell? w _ hbx)).trans hbx; replace HB := aa.mk (Qa HB.out hbe); clear hbox hbe hg2))
  go_ret; exact ⟨rfl, HB.out⟩
def fst (i : Nat) : List (List Int) → Int
  | [] => -1
  | r :: l => if r.getD i 0 ≠ 0 then 0 else if fst i l < 0 then -1 else fst i l + 1
theorem rowD (rows : List (List Int)) (q : Nat) (hq : q < rows.length) : rows.getD q [] = rows[q] := by
  rw [List.getD_eq_getElem?_getD, List.getElem?_eq_getElem hq, Option.getD_some]
theorem zero_of {r s : List Int} {i : Nat} (e : r = s) (h : false = (s.getD i 0 != 0)) : r.getD i 0 = 0 := by
  subst e; have := h.symm; simpa [-List.getD_eq_getElem?_getD] using this
def Rd (w : World) (A : Option Addr) (rows : List (List Int)) : Prop := rows ≠ [] → ∃ b o, A = some ⟨b, o, none⟩ ∧ ∀ k r, rows[k]? = some r → r.length = 6 ∧ w.rangeAt b (o + k * 6) (r.map (Value.int .i64))
theorem Vh {w w' : World} {b o : Nat} {cs : List Value} (h : w.rangeAt b o cs) (hb : Below w.heap.size w w') : w'.rangeAt b o cs := fun j v hj => (hb.cell (World.block_lt_of_cell? w _ (h j v hj))).trans (h j v hj)
theorem fst_drop (i : Nat) (rows : List (List Int)) (n : Nat) (hn : n < rows.length) (h : ∀ k, k < n → (rows.getD k []).getD i 0 = 0) : fst i rows = if rows[n].getD i 0 ≠ 0 then (n : Int) else if fst i (rows.drop (n + 1)) < 0 then -1 else fst i (rows.drop (n + 1)) + n + 1 := by
  induction n generalizing rows with
  | zero =>
    cases rows with
    | nil => simp at hn
    | cons r l => rw [fst]; simp
  | succ n ih =>
    cases rows with
    | nil => simp at hn
    | cons r l =>
      have h0 := h 0 (by omega); simp only [List.getD_cons_zero] at h0; have hn' : n < l.length := by simpa using hn
      have e := ih l hn' (fun k hk => by have := h (k + 1) (by omega); simpa using this); rw [fst, if_neg (fun hh => hh h0), e]; simp only [List.getElem_cons_succ, List.drop_succ_cons]; split
      · rw [if_neg (by omega)]; omega
      · split
        · rfl
        · rw [if_neg (by omega)]; omega
theorem fst_none (i : Nat) : ∀ (rows : List (List Int)), (∀ r ∈ rows, r.getD i 0 = 0) → fst i rows = -1
  | [], _ => rfl
  | r :: l, h => by
    rw [fst, if_neg (fun hh => hh (h r (List.mem_cons_self ..))), fst_none i l (fun x hx => h x (List.mem_cons_of_mem _ hx))]; rfl
set_option maxHeartbeats 2000000 in
set_option maxRecDepth 100000 in
theorem UJ (A : Option Addr) (c : Nat) (rows : List (List Int)) (i g : Nat) (w : World) (hA : Rd w A rows) (hl : rows.length ≤ 1000) (hc : rows.length ≤ c) (hi : i < 6) (hbx : w.cell? ⟨g, 0, none⟩ = some (.int .i64 (i : Int))) :
    Calls Try.prog 126 #[.slice A rows.length c, .func (.func 127) #[] #[.pointer (some ⟨g, 0, none⟩)]] w fun e w' => e = .returned (.int .i64 (fst i rows)) ∧ Below w.heap.size w w' := by
  have lN := Try.underlying76; have ov := Try.underlying65; have lO := size76; have HR := aa.mk hA; have HBX := aa.mk hbx; have HL := aa.mk hl; have HC := aa.mk hc; clear hA hbx hc; have HB := aa.mk (Below.refl w.heap.size w); go_enter Try.func126, Try.ntmps126; go_wp2_with fail
  go_loopw [8] (fun i_ w' => ∃ n : Nat, n ≤ rows.length ∧ i_ = .int .i64 n ∧ aa (∀ q, q < n → (rows.getD q []).getD i 0 = 0) ∧ aa (Below w.heap.size w w')) (fun i_ _ => rows.length - (intOf i_).toNat)
  case atStart => exact ⟨0, by omega, rfl, ⟨fun q hq => absurd hq (by omega)⟩, by first | exact HB | exact ⟨HB.out.drew⟩⟩
  case round =>
    clear HB; obtain ⟨n, hn, rfl, HA, HB⟩ := hrel; by_cases hlt : n < rows.length
    · have p1 : 0 ≤ (n : Int) := by omega
      have q1 : (n : Int) < (rows.length : Int) := by omega
      obtain ⟨b, o, rfl, hr⟩ := HR.out (by intro e; rw [e] at hlt; simp at hlt); obtain ⟨hr6, hrange⟩ := hr n rows[n] (List.getElem?_eq_getElem hlt); have hbx := (HB.out.cell (World.block_lt_of_cell? w _ HBX.out)).trans HBX.out; have HRG := aa.mk (Vh hrange HB.out); have HY := aa.mk (nz_calls rows[n] i g _ hr6 hi hbx); have HI := aa.mk (show (Try.prog.info? 76).map (·.size) = some (rows[n].map (Value.int .i64)).length by rw [List.length_map, hr6]; exact lO); clear hrange hr; obtain ⟨bb, hbb⟩ : ∃ bb, bb = (rows[n].getD i 0 != 0) := ⟨_, rfl⟩; rw [← hbb] at HY; have HBB := aa.mk hbb; have HF := aa.mk (fst_drop i rows n hlt HA.out); clear hbb hr6 hbx; cases bb with
      | true =>
        go_wp2_with (first
          | (refine wpList_load_mid rfl 76 _ rfl b (o + n * 6) rfl _ _ HRG.out Try.underlying76 rfl HI.out ?_)
          | ((with_reducible refine QO (N := 16) rfl ?_); refine VY (some 16) rfl rfl 11 #[.pointer (some ⟨g, 0, none⟩)] rfl Try.func127 (by kernel_rfl) rfl rfl #[.agg (arr rows[n]), .pointer (some ⟨g, 0, none⟩)] (by (try simp only [List.map_toArray, List.map_cons, List.map_nil]); first | done | rfl) ?_; (with_reducible refine HY.out.mono ?_); rintro e w9 ⟨rfl, hb⟩; refine ⟨_, rfl, ?_⟩; replace HB := aa.mk (Qa (by repeat (first | (with_reducible first | exact HB.out | apply Q0 | apply QF | apply QP) | exact HB.out)) hb); (try clear hb)))
        go_ret; refine ⟨?_, HB.out⟩; have h1 := HBB.out; rw [HF.out, if_pos (by intro e; rw [e] at h1; simp at h1)]; rfl
      | false =>
        go_wp2_with (first
          | (refine wpList_load_mid rfl 76 _ rfl b (o + n * 6) rfl _ _ HRG.out Try.underlying76 rfl HI.out ?_)
          | ((with_reducible refine QO (N := 16) rfl ?_); refine VY (some 16) rfl rfl 11 #[.pointer (some ⟨g, 0, none⟩)] rfl Try.func127 (by kernel_rfl) rfl rfl #[.agg (arr rows[n]), .pointer (some ⟨g, 0, none⟩)] (by (try simp only [List.map_toArray, List.map_cons, List.map_nil]); first | done | rfl) ?_; (with_reducible refine HY.out.mono ?_); rintro e w9 ⟨rfl, hb⟩; refine ⟨_, rfl, ?_⟩; replace HB := aa.mk (Qa (by repeat (first | (with_reducible first | exact HB.out | apply Q0 | apply QF | apply QP) | exact HB.out)) hb); (try clear hb)))
        go_roundw
        case rel =>
          refine ⟨n + 1, by omega, by go_num, ⟨fun q hq => ?_⟩, HB⟩; by_cases hqn : q < n
          · exact HA.out q hqn
          · obtain rfl : q = n := by omega
            exact zero_of (rowD rows q hlt) HBB.out
        case measure => simp [intOf]; omega
    · go_wp2_with fail
      go_ret; refine ⟨?_, HB.out⟩; rw [fst_none i rows (fun r hr => by
        obtain ⟨q, hq, e⟩ := List.mem_iff_getElem.1 hr; have h3 := HA.out q (by omega); have h4 : rows.getD q [] = r := (rowD rows q hq).trans e; exact h4 ▸ h3)]
      rfl
def Six (M : List (List Int)) : Prop := ∀ r ∈ M, r.length = 6
theorem Vl : ∀ {M : List (List Int)}, Six M → M.flatten.length = M.length * 6
  | [], _ => rfl
  | r :: M, h => by
    rw [List.flatten_cons, List.length_append, h r (List.mem_cons_self ..), Vl (fun x hx => h x (List.mem_cons_of_mem _ hx)), List.length_cons]; omega
theorem UO : ∀ {M : List (List Int)}, Six M → ∀ (k i : Nat) (hk : k < M.length), i < 6 → M.flatten[k * 6 + i]? = M[k][i]?
  | [], _, k, i, hk, _ => by simp at hk
  | r :: M, h, 0, i, hk, hi => by
    have h6 := h r (List.mem_cons_self ..); rw [List.flatten_cons, List.getElem?_append_left (by omega)]; simp
  | r :: M, h, k + 1, i, hk, hi => by
    have h6 := h r (List.mem_cons_self ..); rw [List.flatten_cons, List.getElem?_append_right (by omega), h6, show (k + 1) * 6 + i - 6 = k * 6 + i by omega, UO (fun x hx => h x (List.mem_cons_of_mem _ hx)) k i (by simpa using hk) hi]; simp
theorem flat_set : ∀ {M : List (List Int)}, Six M → ∀ (k i : Nat) (v : Int) (hk : k < M.length), i < 6 → M.flatten.set (k * 6 + i) v = (M.set k (M[k].set i v)).flatten
  | [], _, k, i, v, hk, _ => by simp at hk
  | r :: M, h, 0, i, v, hk, hi => by
    have h6 := h r (List.mem_cons_self ..); rw [List.flatten_cons, List.set_append_left _ _ (by omega)]; simp
  | r :: M, h, k + 1, i, v, hk, hi => by
    have h6 := h r (List.mem_cons_self ..); rw [List.flatten_cons, List.set_append_right _ _ (by omega), h6, show (k + 1) * 6 + i - 6 = k * 6 + i by omega, flat_set (fun x hx => h x (List.mem_cons_of_mem _ hx)) k i v (by simpa using hk) hi]; simp
theorem Six.set {M : List (List Int)} (h : Six M) (k : Nat) {r : List Int} (hr : r.length = 6) : Six (M.set k r) := by
  intro x hx; rcases List.mem_or_eq_of_mem_set hx with h1 | rfl
  · exact h x h1
  · exact hr
theorem Six.at {M : List (List Int)} (h : Six M) {k : Nat} (hk : k < M.length) : M[k].length = 6 := h _ (List.getElem_mem hk)
def Bl (w : World) (g : Nat) (M : List (List Int)) (c : Nat) : Prop := Six M ∧ ∃ rest : List Value, w.heap[g]? = some (.cells ⟨M.flatten.map (Value.int .i64) ++ rest⟩ 76 (0, 0)) ∧ M.length * 6 + rest.length = c * 6
section
variable {w w1 : World} {g c : Nat} {M : List (List Int)}
theorem Bl.move (h : Bl w g M c) (e : w1.heap[g]? = w.heap[g]?) : Bl w1 g M c := by
  obtain ⟨h6, rest, hh, hl⟩ := h; exact ⟨h6, rest, e.trans hh, hl⟩
theorem Bl.lt (h : Bl w g M c) : g < w.heap.size := by
  obtain ⟨h6, rest, hh, hl⟩ := h; exact VC hh
theorem Bl.below (h : Bl w g M c) (hb : Below w.heap.size w w1) : Bl w1 g M c := h.move (hb.block g h.lt)
theorem Bl.alloc (h : Bl w g M c) (o : Obj) : Bl (w.alloc o) g M c := h.move (Below.heap_alloc w o g h.lt)
theorem Bl.drew (h : Bl w g M c) : Bl w.drew g M c := h
theorem Bl.cell (h : Bl w g M c) {k i : Nat} (hk : k < M.length) (hi : i < 6) : w.cell? ⟨g, k * 6 + i, none⟩ = some (.int .i64 (M[k].getD i 0)) := by
  obtain ⟨h6, rest, hh, hl⟩ := h; rw [Qd hh]; have hf := Vl h6; have h66 := h6.at hk; have hg := UO h6 k i hk hi; rw [List.getElem?_eq_getElem (show i < M[k].length by omega)] at hg; simp only [List.getElem?_toArray]; rw [List.getElem?_append_left (by rw [List.length_map, hf]; omega), List.getElem?_map, hg, List.getD_eq_getElem?_getD, List.getElem?_eq_getElem (show i < M[k].length by omega)]; rfl
theorem Bl.frozen (h : Bl w g M c) (i : Nat) : w.frozen? ⟨g, i, none⟩ = false := by
  obtain ⟨h6, rest, hh, hl⟩ := h; exact Qb hh i
theorem Bl.store (h : Bl w g M c) {k i : Nat} (hk : k < M.length) (hi : i < 6) (v : Int) : Bl (w.setCell ⟨g, k * 6 + i, none⟩ (.int .i64 v)) g (M.set k (M[k].set i v)) c := by
  obtain ⟨h6, rest, hh, hl⟩ := h; refine ⟨h6.set k (by rw [List.length_set]; exact h6.at hk), rest, ?_, by simpa using hl⟩; have hf := Vl h6; rw [heap_setCell_same _ g _ _ 76 _ hh, ← flat_set h6 k i v hk hi]; congr 2; apply Array.ext'; simp only [Array.toList_setIfInBounds]; rw [List.set_append_left _ _ (by rw [List.length_map, hf]; omega), List.map_set]
theorem Bl.range (h : Bl w g M c) {k : Nat} (hk : k < M.length) : w.rangeAt g (k * 6) (M[k].map (Value.int .i64)) := by
  intro j v hj; have h6 := h.1.at hk; have hj6 : j < 6 := by
    have := (List.getElem?_eq_some_iff.1 hj).1; simp at this; omega
  rw [h.cell hk hj6, ← hj, List.getElem?_map, List.getElem?_eq_getElem (show j < M[k].length by omega), List.getD_eq_getElem?_getD, List.getElem?_eq_getElem (show j < M[k].length by omega)]; rfl
theorem Bl.there (h : Bl w g M c) {k : Nat} (hk : k < M.length) : w.there g (k * 6) 6 := fun j hj => ⟨by rw [h.cell hk hj]; rfl, h.frozen _⟩
theorem Bl.puts : ∀ (r : List Int) (i : Nat) {w : World} {M : List (List Int)} (h : Bl w g M c) {k : Nat} (hk : k < M.length), i + r.length ≤ 6 → ∃ s : List Int, s.length = 6 ∧ s.take i = M[k].take i ∧ (s.drop i).take r.length = r ∧ s.drop (i + r.length) = M[k].drop (i + r.length) ∧ Bl (w.setCells g (k * 6 + i) (r.map (Value.int .i64))) g (M.set k s) c
  | [], i, w, M, h, k, hk, _ => ⟨M[k], h.1.at hk, rfl, by simp, rfl, by
      have : M.set k M[k] = M := List.set_getElem_self hk; rw [this]; exact h⟩
  | v :: r, i, w, M, h, k, hk, hl => by
    have hi : i < 6 := by simp at hl; omega
    have h6 := h.1.at hk; have hs := h.store hk hi v; have hk' : k < (M.set k (M[k].set i v)).length := by simpa using hk
    obtain ⟨s, s1, s2, s3, s4, s5⟩ := Bl.puts r (i + 1) hs hk' (by simp at hl; omega); have e1 : (M.set k (M[k].set i v))[k] = M[k].set i v := by simp
    rw [e1] at s2 s4; refine ⟨s, s1, ?_, ?_, ?_, ?_⟩
    · have := congrArg (List.take i) s2; rw [List.take_take, List.take_take, Nat.min_eq_left (by omega)] at this; rw [this]; rw [List.take_set_of_le (by omega)]
    · have hv : s[i]? = some v := by
        have := congrArg (·[i]?) s2; simp only [List.getElem?_take] at this; rw [if_pos (by omega), if_pos (by omega)] at this; rw [this]; simp [show i < M[k].length by omega]
      have hd : s.drop i = v :: s.drop (i + 1) := by
        rw [List.drop_eq_getElem_cons (by omega)]; congr 1; rw [List.getElem?_eq_getElem (by omega)] at hv; exact Option.some.inj hv
      rw [hd, List.length_cons, List.take_succ_cons, s3]
    · rw [List.length_cons, show i + (r.length + 1) = i + 1 + r.length by omega, s4, List.drop_set_of_lt (by omega)]
    · rw [List.map_cons, World.setCells]; rw [List.set_set] at s5; exact s5
theorem Bl.stores (h : Bl w g M c) {k : Nat} (hk : k < M.length) {r : List Int} (hr : r.length = 6) : Bl (w.setCells g (k * 6) (r.map (Value.int .i64))) g (M.set k r) c := by
  obtain ⟨s, s1, s2, s3, s4, s5⟩ := Bl.puts r 0 h hk (by omega); simp only [List.drop_zero, Nat.add_zero] at s3 s5; have : s = r := by rw [← s3, List.take_of_length_le (by omega)]
  rw [this] at s5; exact s5
end
def L6 (x : S76) : List Int := [x.f0, x.f1, x.f2, x.f3, x.f4, x.f5]
def mk6 (m : List Int) : S76 := ⟨m.getD 0 0, m.getD 1 0, m.getD 2 0, m.getD 3 0, m.getD 4 0, m.getD 5 0⟩
theorem L6_mk6 {m : List Int} (h : m.length = 6) : L6 (mk6 m) = m := by
  match m, h with
  | [a, b, c, d, e, f], _ => rfl
theorem six_L6 (xs : List S76) : Six (xs.map L6) := by
  intro r hr; obtain ⟨x, _, rfl⟩ := List.mem_map.1 hr; rfl
theorem map_L6 : ∀ {M : List (List Int)}, Six M → (M.map mk6).map L6 = M
  | [], _ => rfl
  | r :: M, h => by rw [List.map_cons, List.map_cons, L6_mk6 (h r (List.mem_cons_self ..)), map_L6 (fun x hx => h x (List.mem_cons_of_mem _ hx))]
theorem Rd.of_C {w : World} {A : Option Addr} {n : Nat} {xs : List S76} (h : Kd.C k76 w A n xs) (hA : ∀ ad, A = some ad → ad.spot = none) : Rd w A (xs.map L6) := by
  intro hne; have hn : 0 < n := by
    have := h.1; cases xs with
    | nil => simp at hne
    | cons x r => simp at this; omega
  obtain ⟨ad, e, hc⟩ := h.2.2 hn; obtain ⟨b, o, sp⟩ := ad; have := hA _ e; cases this; refine ⟨b, o, e, fun k r hk => ?_⟩; rw [List.getElem?_map] at hk; obtain ⟨x, hx, rfl⟩ := Option.map_eq_some_iff.1 hk; obtain ⟨cs, _, hK, hcell⟩ := hc k x hx; obtain rfl := UI hK; refine ⟨rfl, fun j v hj => ?_⟩; have h1 := hcell j v hj; rw [Addr.add_mid] at h1; rw [Nat.add_assoc]; exact h1
theorem reps76 {W : World} {base : Nat} {ok : Nat → Prop} : ∀ {xs : List S76} {inner : List Value}, Reps (k76.M W base ok) 6 xs inner → inner = (xs.map L6).flatten.map (Value.int .i64)
  | [], inner, h => List.eq_nil_of_length_eq_zero (by simpa using h.1)
  | x :: r, inner, h => by
    have hl := h.1; have h2 := k76_openM (h.2 0 x rfl); simp only [Nat.zero_mul, List.drop_zero] at h2; have h3 := reps76 (xs := r) (inner := inner.drop 6) ⟨by simp at hl ⊢; omega, fun j p hj => by
      have := h.2 (j + 1) p (by simpa using hj); rw [List.drop_drop, show 6 + j * 6 = (j + 1) * 6 by omega]; exact this⟩
    rw [← List.take_append_drop 6 inner, h2, h3]; rfl
theorem Bl.of_R {w : World} {base : Nat} {ok : Nat → Prop} {v : Value} {xs : List S76} (h : Kd.R k76 76 w base ok v xs) : (v = .slice none 0 0 ∧ xs = []) ∨ ∃ g c, v = .slice (some ⟨g, 0, none⟩) xs.length c ∧ base ≤ g ∧ ok g ∧ Bl w g (xs.map L6) c ∧ xs.length ≤ c ∧ c ≤ maxLen := by
  obtain ⟨h0, inner, ⟨hl, ho⟩, hr⟩ := h; rcases ho with ⟨rfl, hn⟩ | ⟨g, cap, cur, rfl, hg, hh, hc, hm, hs, ht⟩
  · exact .inl ⟨rfl, List.eq_nil_of_length_eq_zero hn⟩
  · refine .inr ⟨g, cap, rfl, hg, h0 g rfl, ⟨six_L6 xs, cur.toList.drop (xs.length * 6), ?_, ?_⟩, hc, hm⟩
    · have hin : inner = (xs.map L6).flatten.map (Value.int .i64) := reps76 hr; rw [hh, ← hin, ← ht, show k76.sz = 6 from rfl, List.take_append_drop]
    · have : cur.toList.length = cap * 6 := by rw [Array.length_toList]; exact hs
      simp [this]; omega
theorem Bl.R {w : World} {g c base n : Nat} {ok : Nat → Prop} {M : List (List Int)} (h : Bl w g M c) (hb : base ≤ g) (hok : ok g) (hn : n ≤ M.length) (hc : c ≤ maxLen) : Kd.R k76 76 w base ok (.slice (some ⟨g, 0, none⟩) n c) ((M.take n).map mk6) := by
  obtain ⟨h6, rest, hh, hl⟩ := h; have h6t : Six (M.take n) := fun r hr => h6 r (List.mem_of_mem_take hr)
  have hlen : ((M.take n).map mk6).length = n := by simp; omega
  have hfl : (M.take n).flatten.length = n * 6 := by rw [Vl h6t]; simp; omega
  refine ⟨fun k hk => ?_, (M.take n).flatten.map (Value.int .i64), ⟨?_, .inr ⟨g, c, _, ?_, hb, hh, ?_, hc, ?_, ?_⟩⟩, ?_, ?_⟩
  · simp [Value.ownBlock] at hk; subst hk; exact hok
  · rw [List.length_map, hfl, hlen]; rfl
  · rw [hlen]
  · rw [hlen]; omega
  · show (M.flatten.map (Value.int .i64) ++ rest).length = c * 6
    rw [List.length_append, List.length_map, Vl h6]; exact hl
  · rw [hlen, show k76.sz = 6 from rfl]; have : M.flatten = (M.take n).flatten ++ (M.drop n).flatten := by rw [← List.flatten_append, List.take_append_drop]
    show List.take (n * 6) (M.flatten.map (Value.int .i64) ++ rest) = _
    rw [this, List.map_append, List.append_assoc, List.take_append_of_le_length (by rw [List.length_map, hfl]; omega), List.take_of_length_le (by rw [List.length_map, hfl]; omega)]
  · rw [List.length_map, hfl, hlen]; rfl
  · intro j p hj; rw [List.getElem?_map] at hj; obtain ⟨r, hr, rfl⟩ := Option.map_eq_some_iff.1 hj; obtain ⟨hjl, hje⟩ := List.getElem?_eq_some_iff.1 hr; have hr6 : r.length = 6 := h6t r (hje ▸ List.getElem_mem hjl); have he : (((M.take n).flatten.map (Value.int .i64)).drop (j * 6)).take 6 = (L6 (mk6 r)).map (Value.int .i64) := by
      rw [L6_mk6 hr6]; apply List.ext_getElem?; intro i; rw [List.getElem?_take]; split
      · rename_i hi
        rw [List.getElem?_drop, List.getElem?_map, List.getElem?_map, UO h6t j i hjl hi, hje]
      · rw [List.getElem?_eq_none (by simp; omega)]
    show k76.M _ _ _ _ _
    rw [show k76.sz = 6 from rfl, he]; exact Uo _ _ _ _
def pad (l : List Int) : List Int := l ++ List.replicate (6 - l.length) 0
theorem UD {l : List Int} (h : l.length ≤ 6) : (pad l).length = 6 := by simp [pad]; omega
theorem Jy {l : List Int} (v : Int) (h : l.length < 6) : (pad l).set l.length v = pad (l ++ [v]) := by
 unfold pad; rw [List.set_append_right _ _ (Nat.le_refl _), Nat.sub_self, show 6 - l.length = (6 - (l ++ [v]).length) + 1 by simp; omega, List.replicate_succ, List.set_cons_zero, List.append_assoc]; rfl
def lineOf (l0 l1 : List (List Int)) (k : Nat) : List Int := pad (l0.map (·.getD k 0) ++ l1.map (fun c => wrap64 (-(c.getD k 0))))
def ZK.f (l0 l1 : List (List Int)) : Option (List S76) :=
 if 0 < l0.length ∧ l0.length + l1.length ≤ 6 ∧ (0 < (Qu l0 0).length ∧ (Qu l0 0).length ≤ 4) ∧ ∀ r ∈ l0 ++ l1, (Qu l0 0).length ≤ r.length then some ((List.range (Qu l0 0).length).map fun k => mk6 (lineOf l0 l1 k)) else none
def Made (f : Nat → List Int) (n k : Nat) (row : List Int) (M : List (List Int)) : Prop := M.length = n ∧ ∀ q, q < n → M[q]? = some (if q < k then f q else if q = k then row else pad [])
theorem Made.at {f : Nat → List Int} {n k : Nat} {row : List Int} {M : List (List Int)} (h : Made f n k row M) (hk : k < n) : ∃ hk' : k < M.length, M[k] = row := by
 have hk' : k < M.length := by rw [h.1]; exact hk
 have := h.2 k hk; rw [List.getElem?_eq_getElem hk', if_neg (by omega), if_pos rfl] at this; exact ⟨hk', Option.some.inj this⟩
theorem Made.set {f : Nat → List Int} {n k : Nat} {row : List Int} {M : List (List Int)} (h : Made f n k row M) (row' : List Int) : Made f n k row' (M.set k row') := by
 refine ⟨by simpa using h.1, fun q hq => ?_⟩; have := h.2 q hq; have hq' : q < M.length := by rw [h.1]; exact hq
 by_cases e : k = q
 ·subst e; simp [hq']
 ·rw [List.getElem?_set_ne e, this]; rw [if_neg (show ¬ q = k by omega), if_neg (show ¬ q = k by omega)]
theorem Made.next {f : Nat → List Int} {n k : Nat} {M : List (List Int)} (h : Made f n k (f k) M) : Made f n (k + 1) (pad []) M := by
 refine ⟨h.1, fun q hq => ?_⟩; rw [h.2 q hq]; by_cases e : q < k
 ·rw [if_pos e, if_pos (by omega)]
 ·by_cases e2 : q = k
  ·subst e2; rw [if_neg e, if_pos rfl, if_pos (by omega)]
  ·rw [if_neg e, if_neg e2, if_neg (by omega)]; split <;> rfl
theorem Made.all {f : Nat → List Int} {n : Nat} {row : List Int} {M : List (List Int)} (h : Made f n n row M) : M = (List.range n).map f := by
 apply List.ext_getElem?; intro q; by_cases hq : q < n
 ·rw [h.2 q hq, if_pos hq]; simp [hq]
 ·rw [List.getElem?_eq_none (by rw [h.1]; omega), List.getElem?_eq_none (by simp; omega)]
theorem addr_zero (ad : Addr) : ad.add 0 = ad := by
 cases ad; unfold Addr.add; split <;> simp_all
set_option maxHeartbeats 4000000 in
set_option maxRecDepth 100000 in
theorem ZK.calls (A0 : Option Addr) (c0 : Nat) (l0 : List (List Int)) (A1 : Option Addr) (c1 : Nat) (l1 : List (List Int)) (r : List S76) (w : World) (hr0 : Kd.C (Kd.slice 3 (Kd.int .i64)) w A0 l0.length l0) (hc0 : l0.length ≤ c0) (hr1 : Kd.C (Kd.slice 3 (Kd.int .i64)) w A1 l1.length l1) (hc1 : l1.length ≤ c1) (h : ZK.f l0 l1 = some r) :
  Calls Try.prog 73 #[.agg #[.slice A0 l0.length c0, .slice A1 l1.length c1]] w fun e w' => ∃ v0_ : Value, e = .returned (v0_) ∧ Kd.R k76 76 w' w.heap.size (fun _ => True) v0_ r ∧ Below w.heap.size w w' := by
 unfold ZK.f at h; split at h
 case isFalse => cases h
 rename_i hcond
 obtain ⟨z0, z1, z2, z3⟩ := hcond; obtain rfl := Option.some.inj h; clear h; have en := Try.underlying24; have lN := Try.underlying76; have ov := Try.underlying65; have ss := Try.underlying28; have su := Try.underlying22; have HR0 := aa.mk hr0; have HC0 := aa.mk hc0; have HR1 := aa.mk hr1; have HC1 := aa.mk hc1; have HZ3 := aa.mk z3; obtain ⟨ad, Aq, cq, eq, hxq, hlq, hiq⟩ := ZO hr0 0 (by omega) (by omega); cases eq; rw [show (0 : Int).toNat = 0 from rfl, addr_zero] at hxq; obtain ⟨n, hn⟩ : ∃ n, n = (Qu l0 0).length := ⟨_, rfl⟩; rw [← hn] at hxq hlq z2 HZ3; have HN := aa.mk hn; have HXQ := aa.mk hxq; clear hr0 hc0 hr1 hc1 z3 hiq; have HB := aa.mk (Below.refl w.heap.size w); rw [← hn]; clear hn hxq; have q0 : (0 : Int) < (l0.length : Int) := by omega
 go_enter Try.func73, Try.ntmps73; go_wp2_with (first
  | ((with_reducible refine QO (N := 1) rfl ?_); refine Q4 ?hg (N := 1) ?hd (cs := #[.slice (some ad) l0.length c0, .slice A1 l1.length c1]) (t := 24) ?hr ?_; (case hd => rfl); (case hg => rfl); (case hr => first | (go_simp; done) | (go_simp; rfl)); intro gb hgb w7 hbox hb; have HGB := aa.mk hgb; have BK := aa.mk hbox; have HBOX := aa.mk hbox; have oG : w7.cell? ⟨gb, 0, none⟩ = some (.slice (some ad) l0.length c0) := (Qd BK.out 0).trans rfl; have qA : w7.cell? ⟨gb, 1, none⟩ = some (.slice A1 l1.length c1) := (Qd BK.out 1).trans rfl; have hxq := (hb.cell (World.block_lt_of_cell? w _ HXQ.out)).trans HXQ.out; have n0_ := aa.mk (Qa HB.out hb); have HB7 := aa.mk hb; clear HB; have HB := n0_; clear n0_ hgb hbox hb)
  | ((with_reducible refine QO (N := 14) rfl ?_); refine Kd.JV k76 _ 76 rfl (N := 14) rfl 65 _ _ rfl (n : Int) rfl rfl Try.underlying65 (.agg #[(.int .i64 0), (.int .i64 0), (.int .i64 0), (.int .i64 0), (.int .i64 0), (.int .i64 0)]) 48 info76 rfl (by decide) (by omega) z76 (ok := fun _ => True) (okp := fun _ => True) (Uo _ _ _ z76) (fun _ hk => hk) trivial (by omega) (by simp only [Int.toNat_natCast]; omega) (Below.refl _ _) (Nat.le_refl _) ?_; intro v14 w14 ho hb hgr hat; obtain ⟨g, c, hv, hgw, -, hbl, hlc, hcm⟩ := (Bl.of_R ho).resolve_left (fun hh => absurd (congrArg List.length hh.2) (by rw [List.length_replicate, List.length_nil, Int.toNat_natCast]; omega)); rw [List.length_replicate, Int.toNat_natCast] at hv hlc; subst hv; have HBL := aa.mk hbl; have HCM := aa.mk hcm; have HGW := aa.mk hgw; have vR := aa.mk (Qq BK.out hb); have n0_ := aa.mk (Qa HB.out hb); clear HB BK hbl hcm hgw; have HB := n0_; have BK := vR; clear n0_ vR ho hb hgr hat))
 have HB0 := aa.mk (show w.heap.size ≤ w7.heap.size from HB7.out.size); have HGG := aa.mk (show gb ≠ g by
  have h1 := HGW.out; have h2 := (Array.getElem?_eq_some_iff.1 HBOX.out).1; omega)
 have HM := aa.mk (show Made (lineOf l0 l1) n 0 (pad []) ((List.replicate (n : Int).toNat z76).map L6) from ⟨by simp, fun q hq => by
  rw [List.map_replicate, Int.toNat_natCast, List.getElem?_replicate, if_pos hq, if_neg (by omega)]; split <;> rfl⟩)
 generalize (List.replicate (n : Int).toNat z76).map L6 = M at HM HBL; go_loopw [17] (fun k_ w' => ∃ (k : Nat) (M : List (List Int)), k ≤ n ∧ k_ = .int .i64 k ∧ aa (Made (lineOf l0 l1) n k (pad []) M) ∧ aa (Bl w' g M c) ∧ aa (w'.heap[gb]? = some (.cells #[.slice (some ad) l0.length c0, .slice A1 l1.length c1] 24 (0, 0))) ∧ aa (Below w.heap.size w w')) (fun k_ _ => n - (intOf k_).toNat)
 case atStart => exact ⟨0, M, Nat.zero_le _, rfl, HM, HBL, BK, HB⟩
 case round =>
  clear HM HBL BK HB M; obtain ⟨k, M, hk, rfl, HM, HBL, BK, HB⟩ := hrel; have oG : wr.cell? ⟨gb, 0, none⟩ = some (.slice (some ad) l0.length c0) := (Qd BK.out 0).trans rfl; have qA : wr.cell? ⟨gb, 1, none⟩ = some (.slice A1 l1.length c1) := (Qd BK.out 1).trans rfl; by_cases hkn : k < n
  ·go_wp2_with fail
   clear oG qA; have HM1 := aa.mk (show Made (lineOf l0 l1) n k (pad ((l0.take 0).map (·.getD k 0))) M from HM.out); clear HM; go_loopw [23] (fun i_ w' => ∃ (i : Nat) (M : List (List Int)), i ≤ l0.length ∧ i_ = .int .i64 i ∧ aa (Made (lineOf l0 l1) n k (pad ((l0.take i).map (·.getD k 0))) M) ∧ aa (Bl w' g M c) ∧ aa (w'.heap[gb]? = some (.cells #[.slice (some ad) l0.length c0, .slice A1 l1.length c1] 24 (0, 0))) ∧ aa (Below w.heap.size w w')) (fun i_ _ => l0.length - (intOf i_).toNat)
   case atStart => exact ⟨0, M, Nat.zero_le _, rfl, HM1, HBL, BK, HB⟩
   case round =>
    clear HM1 HBL BK HB M; obtain ⟨i, M, hi, rfl, HM, HBL, BK, HB⟩ := hrel; by_cases hil : i < l0.length
    ·obtain ⟨ad1, A2, c2, e1, hx1, hl1, hi1⟩ := ZO HR0.out (i : Int) (by omega) (by omega); cases e1; replace hx1 := (HB.out.cell (World.block_lt_of_cell? w _ hx1)).trans hx1; have hge := HZ3.out (Qu l0 (i : Int)) (List.mem_append_left _ (by simp only [Qu, Int.toNat_natCast]; rw [rowD _ _ hil]; exact List.getElem_mem hil)); obtain ⟨ad2, e2, hx2⟩ := Kd.Zh hi1 (k : Int) (by omega) (by omega); subst e2; replace hx2 := (HB.out.cell (World.block_lt_of_cell? w _ hx2)).trans hx2; simp only [Int.toNat_natCast] at hx1 hx2; obtain ⟨hkM, hrow⟩ := HM.out.at hkn; have hi6 : i < 6 := by omega
     have hf := HBL.out.frozen (k * 6 + i); have hc := HBL.out.cell hkM hi6; have hlt : (k : Int) < ((Qu l0 (i : Int)).length : Int) := by omega
     clear hl1 hi1; generalize M[k].getD i 0 = old at hc; obtain ⟨x, hxe⟩ : ∃ x, x = rd (Qu l0 (i : Int)) (k : Int) := ⟨_, rfl⟩; rw [← hxe] at hx2; have hx3 : x = (l0[i]).getD k 0 := by rw [hxe]; simp only [rd, Qu, Int.toNat_natCast]; rw [rowD _ _ hil]
     have HROW := aa.mk (show pad ((l0.take (i + 1)).map (·.getD k 0)) = M[k].set i x by
      rw [hrow, List.take_succ_eq_append_getElem hil, List.map_append, hx3]; have := Jy (l := (l0.take i).map (·.getD k 0)) ((l0[i]).getD k 0) (by simp; omega); rw [show ((l0.take i).map (·.getD k 0)).length = i by simp; omega] at this; exact this.symm)
     have HKM := aa.mk hkM; clear hxe hx3 hrow hge; go_wp2_with fail
     go_region; go_wp2_with fail
     go_roundw
     case rel => exact ⟨i + 1, M.set k (M[k].set i x), by omega, by go_num, ⟨by rw [HROW.out]; exact HM.out.set _⟩, ⟨HBL.out.store HKM.out hi6 x⟩, ⟨(heap_setCell_other _ _ _ _ HGG.out).trans BK.out⟩, ⟨(HB.out.setCell (Nat.le_trans HB0.out HGW.out) _).drew⟩⟩
     case measure => simp [intOf]; omega
    ·obtain rfl : i = l0.length := by omega
     have HM2 := aa.mk (show Made (lineOf l0 l1) n k (pad (l0.map (·.getD k 0) ++ (l1.take 0).map (fun c => wrap64 (-(c.getD k 0))))) M by
      have := HM.out; rw [List.take_length] at this; simpa using this)
     have oG : wr.cell? ⟨gb, 0, none⟩ = some (.slice (some ad) l0.length c0) := (Qd BK.out 0).trans rfl; have qA : wr.cell? ⟨gb, 1, none⟩ = some (.slice A1 l1.length c1) := (Qd BK.out 1).trans rfl; clear HM; go_wp2_with fail
     clear oG qA; go_loopw [41] (fun i_ w' => ∃ (i : Nat) (M : List (List Int)), i ≤ l1.length ∧ i_ = .int .i64 i ∧ aa (Made (lineOf l0 l1) n k (pad (l0.map (·.getD k 0) ++ (l1.take i).map (fun c => wrap64 (-(c.getD k 0))))) M) ∧ aa (Bl w' g M c) ∧ aa (w'.heap[gb]? = some (.cells #[.slice (some ad) l0.length c0, .slice A1 l1.length c1] 24 (0, 0))) ∧ aa (Below w.heap.size w w')) (fun i_ _ => l1.length - (intOf i_).toNat)
     case atStart => exact ⟨0, M, Nat.zero_le _, rfl, HM2, HBL, BK, HB⟩
     case round =>
      clear HM2 HBL BK HB M; obtain ⟨i, M, hi, rfl, HM, HBL, BK, HB⟩ := hrel; have oG : wr.cell? ⟨gb, 0, none⟩ = some (.slice (some ad) l0.length c0) := (Qd BK.out 0).trans rfl; by_cases hil : i < l1.length
      ·obtain ⟨ad1, A2, c2, e1, hx1, hl1, hi1⟩ := ZO HR1.out (i : Int) (by omega) (by omega); subst e1; replace hx1 := (HB.out.cell (World.block_lt_of_cell? w _ hx1)).trans hx1; have hge := HZ3.out (Qu l1 (i : Int)) (List.mem_append_right _ (by simp only [Qu, Int.toNat_natCast]; rw [rowD _ _ hil]; exact List.getElem_mem hil)); obtain ⟨ad2, e2, hx2⟩ := Kd.Zh hi1 (k : Int) (by omega) (by omega); subst e2; replace hx2 := (HB.out.cell (World.block_lt_of_cell? w _ hx2)).trans hx2; simp only [Int.toNat_natCast] at hx1 hx2; obtain ⟨hkM, hrow⟩ := HM.out.at hkn; have hi6 : l0.length + i < 6 := by omega
       have hf := HBL.out.frozen (k * 6 + (l0.length + i)); have hc := HBL.out.cell hkM hi6; have hlt : (k : Int) < ((Qu l1 (i : Int)).length : Int) := by omega
       clear hl1 hi1; generalize M[k].getD (l0.length + i) 0 = old at hc; obtain ⟨x, hxe⟩ : ∃ x, x = rd (Qu l1 (i : Int)) (k : Int) := ⟨_, rfl⟩; rw [← hxe] at hx2; have hx3 : x = (l1[i]).getD k 0 := by rw [hxe]; simp only [rd, Qu, Int.toNat_natCast]; rw [rowD _ _ hil]
       have HROW := aa.mk (show pad (l0.map (·.getD k 0) ++ (l1.take (i + 1)).map (fun c => wrap64 (-(c.getD k 0)))) = M[k].set (l0.length + i) (wrap64 (-x)) by
        rw [hrow, List.take_succ_eq_append_getElem hil, List.map_append, hx3]; have := Jy (l := l0.map (·.getD k 0) ++ (l1.take i).map (fun c => wrap64 (-(c.getD k 0)))) (wrap64 (-((l1[i]).getD k 0))) (by simp; omega); rw [show (l0.map (·.getD k 0) ++ (l1.take i).map (fun c => wrap64 (-(c.getD k 0)))).length = l0.length + i by simp; omega] at this; rw [this, List.append_assoc]; rfl)
       have HKM := aa.mk hkM; clear hxe hx3 hrow hge; go_wp2_with fail
       go_region; go_wp2_with fail
       go_roundw
       case rel => exact ⟨i + 1, M.set k (M[k].set (l0.length + i) (wrap64 (-x))), by omega, by go_num, ⟨by rw [HROW.out]; exact HM.out.set _⟩, ⟨HBL.out.store HKM.out hi6 _⟩, ⟨(heap_setCell_other _ _ _ _ HGG.out).trans BK.out⟩, ⟨(HB.out.setCell (Nat.le_trans HB0.out HGW.out) _).drew⟩⟩
       case measure => simp [intOf]; omega
      ·obtain rfl : i = l1.length := by omega
       have HM3 := aa.mk (show Made (lineOf l0 l1) n (k + 1) (pad []) M from (by
        have := HM.out; rw [List.take_length] at this; exact this.next))
       go_wp2_with fail
       go_roundw
       case rel => exact ⟨k + 1, M, by omega, by go_num, HM3, HBL, BK, HB⟩
       case measure => simp [intOf]; omega
  ·obtain rfl : k = n := by omega
   have hall := HM.out.all; go_wp2_with fail
   go_ret; refine ⟨_, rfl, ?_, HB.out⟩; have hR := HBL.out.R (base := w.heap.size) (ok := fun _ => True) (n := k) (Nat.le_trans HB0.out HGW.out) trivial (by rw [HM.out.1]; exact Nat.le_refl _) HCM.out; rw [List.take_of_length_le (by rw [HM.out.1]; exact Nat.le_refl _), hall, List.map_map] at hR; exact hR
theorem wrp {x : Int} (h0 : -9223372036854775808 ≤ x) (h1 : x ≤ 9223372036854775807) : wrap64 x = x := by
  unfold wrap64; omega
def Lim (x : Int) : Prop := x.natAbs ≤ 4611686018427387904
theorem Ui : ∀ (n : Nat) (a b : Int), b.natAbs < n → Lim a → Lim b → ∃ k, Zu.f k a b = some (Int.gcd a b : Int)
  | 0, _, _, h, _, _ => by omega
  | n + 1, a, b, h, ha, hb => by
    unfold Lim at ha hb; by_cases h0 : b = 0
    · subst h0; refine ⟨1, ?_⟩; unfold Zu.f Zu.l0; rw [if_pos rfl, wrp (by omega) (by omega)]; have : (Int.gcd a 0 : Int) = a.natAbs := by simp
      rw [this]; unfold mx; congr 1; split <;> omega
    · have h1 : (Int.tmod a b).natAbs = a.natAbs % b.natAbs := Int.natAbs_tmod a b; have h2 : a.natAbs % b.natAbs < b.natAbs := Nat.mod_lt _ (by omega); obtain ⟨k, hk⟩ := Ui n b (Int.tmod a b) (by omega) (by unfold Lim; omega) (by unfold Lim; omega); refine ⟨k + 1, ?_⟩; unfold Zu.f Zu.l0; rw [if_neg h0]; refine Eq.trans hk ?_; congr 2; show Nat.gcd b.natAbs (Int.tmod a b).natAbs = Nat.gcd a.natAbs b.natAbs
      rw [h1, Nat.gcd_comm a.natAbs, Nat.gcd_comm b.natAbs, ← Nat.gcd_rec]
theorem Vu (a b : Int) (ha : Lim a) (hb : Lim b) (w : World) : Calls Try.prog 117 #[.int .i64 a, .int .i64 b] w fun e w' => e = .returned (.int .i64 (Int.gcd a b : Int)) ∧ Below w.heap.size w w' := by
  obtain ⟨k, hk⟩ := Ui (b.natAbs + 1) a b (by omega) ha hb; exact Zu.calls k a b _ w hk
def gc (m : List Int) : Nat := m.foldl (fun d n => Int.gcd d n) 0
def pln (m : List Int) : List Int := if 1 < gc m then m.map (·.tdiv (gc m)) else m
theorem gcd_lim {d x : Int} (hd : Lim d) (hx : Lim x) : Lim (Int.gcd d x : Int) := by
  unfold Lim at *; by_cases h : x = 0
  · subst h; simp; omega
  · have := Nat.gcd_le_right d.natAbs (show 0 < x.natAbs by omega); show ((Nat.gcd d.natAbs x.natAbs : Nat) : Int).natAbs ≤ _
    omega
theorem JE : ∀ (m : List Int) (d : Nat), Lim d → (∀ x ∈ m, Lim x) → Lim (m.foldl (fun d n => Int.gcd d n) d : Nat)
  | [], d, hd, _ => hd
  | x :: m, d, hd, h => JE m _ (gcd_lim hd (h x (List.mem_cons_self ..))) (fun y hy => h y (List.mem_cons_of_mem _ hy))
theorem lim0 : Lim (0 : Nat) := by unfold Lim; decide
theorem gc_take (m : List Int) (i : Nat) (hi : i < m.length) : gc (m.take (i + 1)) = Int.gcd (gc (m.take i)) m[i] := by
  rw [List.take_succ_eq_append_getElem hi]; unfold gc; rw [List.foldl_append]; rfl
theorem U1 (t e : TypeId) (m : List Int) (i : Nat) (h : Try.prog.underlying t = some (.array m.length e)) (he : Try.prog.plainKey e = true) (hs : (Try.prog.info? e).map (·.size) = some 1) (hi : i < m.length) (w : World) :
    (Instr.index t (.agg (arr m)) (.int .i64 (i : Int))).run Try.prog w = .ok (.int .i64 (m.getD i 0)) w := by
  have hsz : (sizeOf e).run Try.prog w = .ok 1 w := by
    cases hq : Try.prog.info? e with
    | none => simp [hq] at hs
    | some j =>
      have : j.size = 1 := by simpa [hq] using hs
      simp [sizeOf, typeInfo, hq, this]
  have hp := run_part_plain (P := Try.prog) w he (xs := arr m) (off := i) (Us m i hi); simp only [Instr.index, run_underlying h, asIntOf, hi, hsz, Sem.run_bind, Sem.run_pure, Result.andThen, Int.natCast_nonneg, Int.ofNat_lt, and_self, if_true, Int.toNat_natCast, Nat.mul_one]; exact hp
def zeros6 : List Int := List.replicate 6 0
theorem info76z : (Try.prog.info? 76).map (fun i => (i.zero, i.size)) = some (some (.agg (arr zeros6)), 6) := by kernel_rfl
theorem Yq {B : Nat} {w0 w : World} (h : Below B w0 w) {g : Nat} (hg : B ≤ g) (cs : Array Value) : Below B w0 (w.setRow g cs) :=
  ⟨h.os, h.tape, h.output, by simpa using h.size, fun i hi => (setRow_other w g i cs (by omega)).trans (h.block i hi)⟩
set_option maxHeartbeats 2000000 in
set_option maxRecDepth 100000 in
theorem Ue (m : List Int) (w : World) (hm : m.length = 6) (hl : ∀ x ∈ m, Lim x) :
    Calls Try.prog 118 #[.agg (arr m)] w fun e w' => e = .returned (.agg (arr (pln m))) ∧ Below w.heap.size w w' := by
  have lN := Try.underlying76; obtain ⟨xX, lO⟩ := zero_of_info info76z; have HI0 := aa.mk (show (Try.prog.info? 76).map (·.size) = some (arr m).size by rw [ZS, hm]; exact lO); have HML := aa.mk hm; have HL := aa.mk hl; have HIX := aa.mk (fun (n : Nat) (hn : n < 6) (W : World) => U1 76 3 m n (by rw [hm]; exact Try.underlying76) (by kernel_rfl) (by kernel_rfl) (by omega) W); clear hm hl; have HB := aa.mk (Below.refl w.heap.size w); go_enter Try.func118, Try.ntmps118; go_wp2_with (first
    | ((with_reducible refine QO (N := 1) rfl ?_); refine Q4 ?hg (N := 1) ?hd (cs := arr m) (t := 76) ?hr ?_; (case hd => rfl); (case hg => rfl); (case hr => first | (go_simp; done) | (go_simp; rfl)); intro gb hgb w7 hbox hb; have HGB := aa.mk (show w.heap.size ≤ gb by omega); have BK := aa.mk hbox; have n0_ := aa.mk (Qa HB.out hb); have HB7 := aa.mk hb; clear HB; have HB := n0_; clear n0_ hgb hbox hb)
    | (refine wpList_load_row rfl 76 _ rfl gb rfl 76 (arr m) (0, 0) _ (Qz BK.out _) Try.underlying76 rfl HI0.out ?_))
  have HG2 := aa.mk (heap_alloc_last w7 (.cells (arr zeros6) 76)); have BK2 := aa.mk (Qz BK.out (.cells (arr zeros6) 76)); have HNE := aa.mk (show gb ≠ w7.heap.size from fun e => by have := VC BK.out; omega); have HB2 := aa.mk (show Below w.heap.size w (w7.alloc (.cells (arr zeros6) 76)) from HB.out.alloc HB7.out.size _); have vG := aa.mk (show w.heap.size ≤ w7.heap.size from HB7.out.size); clear HB BK; generalize w7.heap.size = g2 at *; go_loopw [3, 8] (fun d_ i_ w' => ∃ i : Nat, i ≤ 6 ∧ i_ = .int .i64 i ∧ d_ = .int .i64 (gc (m.take i) : Int) ∧ aa (w'.heap[gb]? = some (.cells (arr m) 76 (0, 0))) ∧ aa (w'.heap[g2]? = some (.cells (arr zeros6) 76 (0, 0))) ∧ aa (Below w.heap.size w w')) (fun _ i_ _ => 6 - (intOf i_).toNat)
  case atStart => exact ⟨0, by omega, rfl, rfl, BK2, HG2, HB2⟩
  case round =>
    clear BK2 HG2 HB2; obtain ⟨i, hi, rfl, rfl, BK, HG2, HB⟩ := hrel; by_cases hlt : i < 6
    · have hix := HIX.out i hlt; have him : i < m.length := by rw [HML.out]; exact hlt
      have hgd : m.getD i 0 = m[i] := by rw [List.getD_eq_getElem?_getD, List.getElem?_eq_getElem him]; rfl
      rw [hgd] at hix; have HGT := aa.mk (gc_take m i him); have HDV := aa.mk (fun W => Vu (gc (m.take i) : Int) m[i] (JE (m.take i) 0 lim0 (fun x hx => HL.out x (List.mem_of_mem_take hx))) (HL.out _ (List.getElem_mem him)) W); clear hgd; generalize m[i] = x at *; go_wp2_with (first
        | ((with_reducible refine Qg (f := 117) rfl ?_); refine QG (some 13) rfl rfl Try.func117 (by kernel_rfl) rfl #[.int .i64 (gc (m.take i) : Int), .int .i64 x] rfl (by (try simp only [List.map_toArray, List.map_cons, List.map_nil]); first | done | rfl) ?_; (with_reducible refine (HDV.out _).mono ?_); rintro e w9 ⟨rfl, hb⟩; refine ⟨_, rfl, ?_⟩; have n0_ := aa.mk (Qa (by repeat (first | (with_reducible first | exact HB.out | apply Q0 | apply QF | apply QP) | exact HB.out)) hb); have n1_ := aa.mk (Qq BK.out hb); have n2_ := aa.mk (Qq HG2.out hb); clear HB BK HG2; have HB := n0_; have BK := n1_; have HG2 := n2_; clear n0_ n1_ n2_ hb))
      go_roundw
      case rel => exact ⟨i + 1, by omega, by go_num, by rw [HGT.out], BK, HG2, HB⟩
      case measure => simp [intOf]; omega
    · obtain rfl : i = 6 := by omega
      have he : gc (m.take 6) = gc m := by rw [List.take_of_length_le (by rw [HML.out]; exact Nat.le_refl _)]
      rw [he]; have hgl := JE m 0 lim0 HL.out; obtain ⟨d, hd⟩ : ∃ d, d = gc m := ⟨_, rfl⟩; have HD := aa.mk hd; have AR : d ≤ 4611686018427387904 := by rw [hd]; exact hgl
      rw [← hd]; clear he hgl hd HIX; by_cases h1 : 1 < d
      · have c1 : decide ((1 : Int) < (d : Int)) = true := decide_eq_true (by omega); go_wp2_with fail
        go_loopw [17] (fun i_ w' => ∃ (i : Nat) (q : List Int), i ≤ 6 ∧ i_ = .int .i64 i ∧ aa (q = (m.take i).map (·.tdiv d) ++ m.drop i) ∧ aa (w'.heap[gb]? = some (.cells (arr q) 76 (0, 0))) ∧ aa (w'.heap[g2]? = some (.cells (arr zeros6) 76 (0, 0))) ∧ aa (Below w.heap.size w w')) (fun i_ _ => 6 - (intOf i_).toNat)
        case atStart => exact ⟨0, m, by omega, rfl, ⟨by simp⟩, BK, HG2, HB⟩
        case round =>
          clear BK HG2 HB; obtain ⟨i, q, hi, rfl, HQ, BK, HG2, HB⟩ := hrel; have hql : q.length = 6 := by rw [HQ.out]; simp [HML.out]; omega
          by_cases hlt : i < 6
          · have him : i < m.length := by rw [HML.out]; exact hlt
            have hqi : q.getD i 0 = m[i] := by
              rw [HQ.out, List.getD_eq_getElem?_getD, List.getElem?_append_right (by simp; omega), List.length_map, List.length_take, Nat.min_eq_left (by omega), Nat.sub_self, List.getElem?_drop, Nat.add_zero, List.getElem?_eq_getElem him]; rfl
            have hset : q.set i (m[i].tdiv d) = (m.take (i + 1)).map (·.tdiv d) ++ m.drop (i + 1) := by
              rw [HQ.out, List.set_append_right _ _ (by simp; omega), List.length_map, List.length_take, Nat.min_eq_left (by omega), Nat.sub_self, List.drop_eq_getElem_cons him, List.set_cons_zero, List.take_succ_eq_append_getElem him, List.map_append, List.append_assoc]; rfl
            have HSET := aa.mk hset; have hc := YG BK.out i (by omega); rw [hqi] at hc; have hf := VD BK.out i; have hx := HL.out _ (List.getElem_mem him); generalize m[i] = x at *; unfold Lim at hx; have hdv : (Int.tdiv x d).natAbs ≤ x.natAbs := by rw [Int.natAbs_tdiv]; exact Nat.div_le_self _ _
            have hwr : wrap64 (Int.tdiv x d) = Int.tdiv x d := wrp (by omega) (by omega); have hd0 : ((d : Int) == 0) = false := beq_eq_false_iff_ne.mpr (by omega); have hd1 : ¬ (d : Int) = 0 := by omega
            have HWR := aa.mk hwr; clear hqi hset hdv; go_wp2_with fail
            go_roundw
            case rel => exact ⟨i + 1, q.set i (Int.tdiv x d), by omega, by go_num, HSET, ⟨V4 BK.out i _⟩, ⟨(heap_setCell_other _ _ _ _ (fun e => HNE.out e.symm)).trans HG2.out⟩, ⟨HB.out.setCell HGB.out _⟩⟩
            case measure => simp [intOf]; omega
          · obtain rfl : i = 6 := by omega
            have hq : q = pln m := by
              rw [HQ.out, List.take_of_length_le (by rw [HML.out]; exact Nat.le_refl _), List.drop_eq_nil_of_le (by rw [HML.out]; exact Nat.le_refl _), List.append_nil]; unfold pln; rw [← HD.out, if_pos h1]
            have HQL := aa.mk hql; have HQP := aa.mk hq; have HIQ := aa.mk (show (Try.prog.info? 76).map (·.size) = some (arr q).size by rw [ZS, hql]; exact lO); clear hq hql; go_wp2_with (first
              | (refine wpList_load_row rfl 76 _ rfl gb rfl 76 (arr q) (0, 0) _ BK.out Try.underlying76 rfl HIQ.out ?_)
              | (refine wpList_store_row rfl 76 _ _ rfl g2 (arr q) rfl rfl 76 (arr zeros6) HG2.out HIQ.out (by rw [ZS, ZS, HQL.out]; rfl) (YX q) ?_))
            refine bodyPost_ret (results_cell_row rfl _ _ g2 76 (arr q) (0, 0) _ rfl (setRow_heap _ _ _ _ _ _ HG2.out) Try.underlying76 rfl HIQ.out) rfl ?_; exact ⟨by rw [HQP.out], Yq HB.out vG.out _⟩
      · have c1 : decide ((1 : Int) < (d : Int)) = false := decide_eq_false (by omega); have HQP := aa.mk (show m = pln m by unfold pln; rw [← HD.out, if_neg h1]); go_wp2_with (first
          | (refine wpList_load_row rfl 76 _ rfl gb rfl 76 (arr m) (0, 0) _ BK.out Try.underlying76 rfl HI0.out ?_)
          | (refine wpList_store_row rfl 76 _ _ rfl g2 (arr m) rfl rfl 76 (arr zeros6) HG2.out HI0.out (by rw [ZS, ZS, HML.out]; rfl) (YX m) ?_))
        refine bodyPost_ret (results_cell_row rfl _ _ g2 76 (arr m) (0, 0) _ rfl (setRow_heap _ _ _ _ _ _ HG2.out) Try.underlying76 rfl HI0.out) rfl ?_; exact ⟨by rw [← HQP.out], Yq HB.out vG.out _⟩
theorem Jj {op : Oper} {a : Act} {w : World} (x : Operand) (ho : op.op = .load 76 x) (b o : Nat) (hx : a.eval x = .pointer (some ⟨b, o, none⟩)) {r : List Int} (hr : r.length = 6) (hc : w.rangeAt b o (r.map (Value.int .i64))) : (execOp a.eval op).run Try.prog w = .ok (.value (.agg (arr r))) w := by
 unfold execOp; simp only [ho, hx, Instr.loadAt, Instr.sureAddr, Sem.run_bind, Sem.run_pure, Result.andThen_ok, run_loadVar_mid w b o 76 _ _ hc Try.underlying76 rfl (by rw [List.length_map, hr]; exact size76)]; rfl
theorem Uy {op : Oper} {a : Act} {w : World} (x y : Operand) (ho : op.op = .store 76 x y) (b o : Nat) (hx : a.eval x = .pointer (some ⟨b, o, none⟩)) {r : List Int} (hy : a.eval y = .agg (arr r)) (hr : r.length = 6) (ht : w.there b o 6) : (execOp a.eval op).run Try.prog w = .ok .skip (w.setCells b o (r.map (Value.int .i64))) := by
 unfold execOp; simp only [ho, hx, hy, Instr.storeAt, Instr.sureAddr, Sem.run_bind, Sem.run_pure, Result.andThen_ok, run_storeVar_mid w b o 76 (arr r) (by rw [ZS, hr]; exact ht) (by rw [ZS, hr]; exact size76) (YX r)]; rfl
def exch.T0 : Bool × List (List Nat × List Nat) := (true, [([], []), ([], []), ([], []), ([], []), ([], []), ([], []), ([4, 5], [4, 5]), ([6], [6]), ([], []), ([], []), ([8, 9], [8, 9]), ([10], [10]), ([0, 1, 0, 1, 4, 5, 6, 7, 11], [0, 1]), ([12, 7, 0, 1, 4, 5, 6, 7, 11], [7, 12]), ([2, 3, 0, 1, 2, 3, 4, 5, 6, 7, 8, 9, 10, 11, 12, 13], [2, 3]), ([14, 11, 13, 0, 1, 2, 3, 4, 5, 6, 7, 8, 9, 10, 11, 12, 13], [11, 14])])
def exch.B0 : List Nat := [0, 0, 0, 0, 0, 0, 48, 112, 0, 0, 768, 1792, 4083, 8179, 16383, 32767]
theorem exch.tab0 : rtab .any (opsOf Try.f128 0) = exch.T0 := by kernel_rfl
theorem exch.bits0 : waitsOk exch.T0.2 exch.B0 = true := by kernel_rfl
set_option maxHeartbeats 2000000 in
set_option maxRecDepth 100000 in
theorem exch_calls (g n c a b : Nat) (M : List (List Int)) (w : World) (hM : Bl w g M c) (hn : n = M.length) (ha : a < M.length) (hb : b < M.length) (hc : n ≤ c) :
  Calls Try.prog 128 #[.slice (some ⟨g, 0, none⟩) n c, .int .i64 (a : Int), .int .i64 (b : Int)] w fun e w' => e = .returned (.tuple #[]) ∧ w' = (w.drew.setCells g (a * 6) (M[b].map (Value.int .i64))).setCells g (b * 6) (M[a].map (Value.int .i64)) := by
 have lN := Try.underlying76; have ov := Try.underlying65; have lO := size76; have HM := aa.mk hM.drew; have HA6 := aa.mk (hM.1.at ha); have HB6 := aa.mk (hM.1.at hb); have HM1 := aa.mk (hM.drew.stores ha (hM.1.at hb)); have hb1 : b < (M.set a M[b]).length := by simpa using hb
 have q1 : (a : Int) < (n : Int) := by omega
 have q2 : (b : Int) < (n : Int) := by omega
 clear hM hn; go_enter Try.func128, Try.ntmps128; go_wp2_with fail
 refine Yt (n := 16) (S := fun w' => w'.rangeAt g (b * 6) (M[b].map (Value.int .i64)) ∧ w'.rangeAt g (a * 6) (M[a].map (Value.int .i64))) (ds := [13, 15]) #[false, false, false, false, false, false, false, false, false, false, false, false, false, false, false, false] (by kernel_rfl) rfl rfl ⟨(HM.out.range hb), (HM.out.range ha)⟩ (fun hHeld => ?_); refine ZV exch.tab0 exch.bits0 (fun HT_ HW_ => ?_); refine QX (i := 0) (N := some 6) (v := ?_) (a' := ?_) #[true, false, false, false, false, false, false, false, false, false, false, false, false, false, false, false] rfl rfl (QK HT_.out (by kernel_rfl)) (fun _ _ _ h => h) (Or.inl ⟨by rfl, ?_⟩) ?_ ?_; rotate_left
 ·intro w'; go_simp; with_reducible rfl
 rotate_left
 ·simp only [Act.put, zA, zB, zC, Qy, QB]; rfl
 refine QX (i := 1) (N := some 7) (v := ?_) (a' := ?_) #[true, true, false, false, false, false, false, false, false, false, false, false, false, false, false, false] rfl rfl (QK HT_.out (by kernel_rfl)) (fun _ _ _ h => h) (Or.inl ⟨by rfl, ?_⟩) ?_ ?_; rotate_left
 ·intro w'; go_simp; with_reducible rfl
 rotate_left
 ·simp only [Act.put, zA, zB, zC, Qy, QB]; rfl
 refine QX (i := 2) (N := some 8) (v := ?_) (a' := ?_) #[true, true, true, false, false, false, false, false, false, false, false, false, false, false, false, false] rfl rfl (QK HT_.out (by kernel_rfl)) (fun _ _ _ h => h) (Or.inl ⟨by rfl, ?_⟩) ?_ ?_; rotate_left
 ·intro w'; go_simp; with_reducible rfl
 rotate_left
 ·simp only [Act.put, zA, zB, zC, Qy, QB]; rfl
 refine QX (i := 3) (N := some 9) (v := ?_) (a' := ?_) #[true, true, true, true, false, false, false, false, false, false, false, false, false, false, false, false] rfl rfl (QK HT_.out (by kernel_rfl)) (fun _ _ _ h => h) (Or.inl ⟨by rfl, ?_⟩) ?_ ?_; rotate_left
 ·intro w'; go_simp; with_reducible rfl
 rotate_left
 ·simp only [Act.put, zA, zB, zC, Qy, QB]; rfl
 refine QX (i := 4) (N := some 10) (v := ?_) (a' := ?_) #[true, true, true, true, true, false, false, false, false, false, false, false, false, false, false, false] rfl rfl (QK HT_.out (by kernel_rfl)) (fun _ _ _ h => h) (Or.inl ⟨by rfl, ?_⟩) ?_ ?_; rotate_left
 ·intro w'; go_simp; with_reducible rfl
 rotate_left
 ·simp only [Act.put, zA, zB, zC, Qy, QB]; rfl
 refine QX (i := 5) (N := some 11) (v := ?_) (a' := ?_) #[true, true, true, true, true, true, false, false, false, false, false, false, false, false, false, false] rfl rfl (QK HT_.out (by kernel_rfl)) (fun _ _ _ h => h) (Or.inl ⟨by rfl, ?_⟩) ?_ ?_; rotate_left
 ·intro w'; go_simp; with_reducible rfl
 rotate_left
 ·simp only [Act.put, zA, zB, zC, Qy, QB]; rfl
 refine QX (i := 6) (N := some 12) (v := ?_) (a' := ?_) #[true, true, true, true, true, true, true, false, false, false, false, false, false, false, false, false] rfl rfl (QK HT_.out (by kernel_rfl)) (fun _ _ _ h => h) (Or.inl ⟨by rfl, ?_⟩) ?_ ?_; rotate_left
 ·intro w'; go_simp; with_reducible rfl
 rotate_left
 ·simp only [Act.put, zA, zB, zC, Qy, QB]; rfl
 refine QX (i := 8) (N := some 14) (v := ?_) (a' := ?_) #[true, true, true, true, true, true, true, false, true, false, false, false, false, false, false, false] rfl rfl (QK HT_.out (by kernel_rfl)) (fun _ _ _ h => h) (Or.inl ⟨by rfl, ?_⟩) ?_ ?_; rotate_left
 ·intro w'; go_simp; with_reducible rfl
 rotate_left
 ·simp only [Act.put, zA, zB, zC, Qy, QB]; rfl
 refine QX (i := 9) (N := some 15) (v := ?_) (a' := ?_) #[true, true, true, true, true, true, true, false, true, true, false, false, false, false, false, false] rfl rfl (QK HT_.out (by kernel_rfl)) (fun _ _ _ h => h) (Or.inl ⟨by rfl, ?_⟩) ?_ ?_; rotate_left
 ·intro w'; go_simp; with_reducible rfl
 rotate_left
 ·simp only [Act.put, zA, zB, zC, Qy, QB]; rfl
 refine QX (i := 10) (N := some 16) (v := ?_) (a' := ?_) #[true, true, true, true, true, true, true, false, true, true, true, false, false, false, false, false] rfl rfl (QK HT_.out (by kernel_rfl)) (fun _ _ _ h => h) (Or.inl ⟨by rfl, ?_⟩) ?_ ?_; rotate_left
 ·intro w'; go_simp; with_reducible rfl
 rotate_left
 ·simp only [Act.put, zA, zB, zC, Qy, QB]; rfl
 refine ZU (i := 7) (N := some 13) (v := ?_) (a' := ?_) #[true, true, true, true, true, true, true, true, true, true, true, false, false, false, false, false] rfl rfl (Zp HT_.out HW_.out (by kernel_rfl)) (fun _ _ _ h => h) (Or.inl ⟨by rfl, ?_⟩) hHeld ?_ ?_; rotate_left
 ·rintro w' ⟨s0, s1⟩; refine Eq.trans (Jj (.tmp 12) (by rfl) g (b * 6) (by rfl) HB6.out s0) ?_; with_reducible rfl
 rotate_left
 ·simp only [Act.put, zA, zB, zC, Qy, QB]; rfl
 refine ZU (i := 11) (N := some 17) (v := ?_) (a' := ?_) #[true, true, true, true, true, true, true, true, true, true, true, true, false, false, false, false] rfl rfl (Zp HT_.out HW_.out (by kernel_rfl)) (fun _ _ _ h => h) (Or.inl ⟨by rfl, ?_⟩) hHeld ?_ ?_; rotate_left
 ·rintro w' ⟨s0, s1⟩; refine Eq.trans (Jj (.tmp 16) (by rfl) g (a * 6) (by rfl) HA6.out s1) ?_; with_reducible rfl
 rotate_left
 ·simp only [Act.put, zA, zB, zC, Qy, QB]; rfl
 refine QX (i := 12) (N := some 18) (v := ?_) (a' := ?_) #[true, true, true, true, true, true, true, true, true, true, true, true, true, false, false, false] rfl rfl (QK HT_.out (by kernel_rfl)) (fun _ _ _ h => h) (Or.inl ⟨by rfl, ?_⟩) ?_ ?_; rotate_left
 ·intro w'; go_simp; with_reducible rfl
 rotate_left
 ·simp only [Act.put, zA, zB, zC, Qy, QB]; rfl
 refine last_ (i := 13) (N := none) #[true, true, true, true, true, true, true, true, true, true, true, true, true, true, false, false] rfl rfl (ZT HT_.out (by kernel_rfl)) (by decide) (fun K hK => ?_); refine skip_ (w1 := ?_) (by rfl) rfl ?_ ?_; rotate_left
 ·refine Eq.trans (Uy (.tmp 18) (.tmp 13) (by rfl) g (a * 6) (by rfl) (by rfl) HB6.out (HM.out.there ha)) ?_; with_reducible rfl
 refine hK.out _ _ ?_; clear hK K; refine QX (i := 14) (N := some 19) (v := ?_) (a' := ?_) #[true, true, true, true, true, true, true, true, true, true, true, true, true, true, true, false] rfl rfl (QK HT_.out (by kernel_rfl)) (fun _ _ _ h => h) (Or.inl ⟨by rfl, ?_⟩) ?_ ?_; rotate_left
 ·intro w'; go_simp; with_reducible rfl
 rotate_left
 ·simp only [Act.put, zA, zB, zC, Qy, QB]; rfl
 refine last_ (i := 15) (N := none) #[true, true, true, true, true, true, true, true, true, true, true, true, true, true, true, true] rfl rfl (ZT HT_.out (by kernel_rfl)) (by decide) (fun K hK => ?_); refine skip_ (w1 := ?_) (by rfl) rfl ?_ ?_; rotate_left
 ·refine Eq.trans (Uy (.tmp 19) (.tmp 17) (by rfl) g (b * 6) (by rfl) (by rfl) HA6.out (HM1.out.there hb1)) ?_; with_reducible rfl
 refine hK.out _ _ ?_; clear hK K; refine YM (Yi HT_.out (by kernel_rfl)) ?_; first | go_end0 | ((try simp only [Exit.inBlock, Exit.then]); refine bodyPost_ret (results_none rfl _ _ _) rfl ?_)
 exact ⟨rfl, rfl⟩
def Yd.f (l0 : List S76) : Option (List S76) := if l0.length < 1000 then some l0 else none
set_option maxHeartbeats 1000000 in
set_option maxRecDepth 100000 in
theorem Yd.calls (A0 : Option Addr) (c0 : Nat) (l0 : List S76) (r : List S76) (w : World) (hr0 : Kd.C k76 w A0 l0.length l0) (hc0 : l0.length ≤ c0) (h : Yd.f l0 = some r) :
    Calls Try.prog 108 #[.slice A0 l0.length c0] w fun e w' => ∃ v0_ : Value, e = .returned (v0_) ∧ Kd.R k76 76 w' w.heap.size (fun _ => True) v0_ r ∧ Below w.heap.size w w' := by
  unfold Yd.f at h; by_cases hl : l0.length < 1000
  case neg => rw [if_neg hl] at h; cases h
  rw [if_pos hl] at h; obtain rfl := Option.some.inj h; clear h; have HB := aa.mk (Below.refl w.heap.size w); have lN := Try.underlying76; cases A0 with
  | none =>
    obtain rfl : l0 = [] := by
      cases l0 with
      | nil => rfl
      | cons x r => obtain ⟨ad, e, _⟩ := hr0.2.2 (by simp); cases e
    have hnil : ∀ W, (binOp .eql 65 (.slice none 0 c0) (.slice none 0 0)).run Try.prog W = .ok (.bool true) W := fun W => Lib.run_eql_slice_nil W _ _ none 0 c0 0 0 Try.underlying65
    clear hr0 hc0; go_enter Try.func108, Try.ntmps108; go_wp2_with fail
    go_ret; exact ⟨_, rfl, Kd.Yg _ _ _ _ _, HB.out⟩
  | some ad =>
    have hnil : ∀ W, (binOp .eql 65 (.slice (some ad) l0.length c0) (.slice none 0 0)).run Try.prog W = .ok (.bool false) W := fun W => Lib.run_eql_slice_nil W _ _ (some ad) _ c0 0 0 Try.underlying65
    have HR0 := aa.mk hr0; have ef := aa.mk (show ([] : List S76) = ([] : List S76) from rfl); obtain ⟨dp, cw⟩ : ∃ y_ : List S76, y_ = (([] : List S76)) := ⟨_, rfl⟩; obtain ⟨jS, cF⟩ : ∃ y_ : List S76, y_ = (dp ++ l0) := ⟨_, rfl⟩; have HY := aa.mk (show jS = l0 by rw [cF, cw]; rfl); have po := aa.mk (show dp.length + l0.length < 1000 by rw [cw]; simpa using hl); clear ef; have ef := aa.mk cw; have iB := aa.mk cF; clear hr0 hc0 hl cw cF; go_enter Try.func108, Try.ntmps108; go_wp2_with (first | ((with_reducible refine QO (N := 5) rfl ?_); refine Kd.YS k76 _ 76 ?hg (N := 5) ?hd (xs := ([] : List S76)) (inner := []) (ok := fun _ => True) (okp := fun _ => True) ?hr ?hp (fun _ hk => hk) trivial (Below.refl _ _) (Nat.le_refl _) (by simp) ?_; (case hd => rfl); (case hg => rfl); (case hr => first | (go_simp; done) | (go_simp; rfl)); (case hp => exact (Reps.none _ _)); intro hP w3 ho4 hb hg_ hnew_; clear hg_ hnew_; (first | rw [← ef.out] at ho4 | (simp only [Int.reduceToNat] at ho4; rw [← ef.out] at ho4)); have aX := aa.mk (Kd.Zg ho4 (Qc (by repeat (first | (with_reducible first | exact HB.out | apply Q0 | apply QF | apply QP) | exact HB.out)))); replace HB := aa.mk (Qa (by repeat (first | (with_reducible first | exact HB.out | apply Q0 | apply QF | apply QP) | exact HB.out)) hb); clear hb ho4) | ((with_reducible refine Zr (b := .append) (xs := #[.tmp 5, .tmp 6]) rfl ?_); at_builtin; refine Kd.Yx k76 (Rr := k76.K w) (w0 := w) w.heap.size rfl (.tmp 5) (.tmp 6) 65 76 (.agg #[(.int .i64 0), (.int .i64 0), (.int .i64 0), (.int .i64 0), (.int .i64 0), (.int .i64 0)]) 48 rfl Try.underlying65 info76 rfl (by decide) (by omega) hP dp l0 _ _ _ (fun _ => True) (fun _ => False) rfl rfl ?aO ?aR (fun x cs hK => by rw [UI hK]; exact Uo _ _ _ x) (fun _ h => h.elim) ?aF ?aB ?aS ?aL ?_; (case aR => exact ReadsRow.imp_ HR0.out HB.out (fun _ _ hp => hp)); (case aB => exact (by repeat (first | (with_reducible first | exact HB.out | apply Q0 | apply QF | apply QP) | exact HB.out))); (case aF => exact (fun _ _ => trivial)); (case aO => exact (by (with_reducible repeat (first | apply Kd.R_alloc | apply Kd.QI | apply Kd.QN)); exact aX.out)); (case aS => exact (Qc (by repeat (first | (with_reducible first | exact HB.out | apply Q0 | apply QF | apply QP) | exact HB.out)))); (case aL => have := po.out; omega); intro ie w5 ho hb hg hat; rw [← iB.out] at ho; replace HB := aa.mk (hb); have aY := aa.mk (ho); clear aX; clear ho hb hg hat))
    go_ret; exact ⟨_, rfl, by rw [← HY.out]; exact aY.out, HB.out⟩
def nzi : List Int → Int
  | [] => -1
  | x :: l => if x ≠ 0 then 0 else if nzi l < 0 then -1 else nzi l + 1
theorem nzi_at : ∀ (l : List Int) (n : Nat) (hn : n < l.length), (∀ k, k < n → l.getD k 0 = 0) → l[n] ≠ 0 → nzi l = n
  | [], n, hn, _, _ => by simp at hn
  | x :: l, 0, hn, _, h0 => by rw [nzi, if_pos (by simpa using h0)]; rfl
  | x :: l, n + 1, hn, h, h0 => by
    have hx := h 0 (by omega); simp only [List.getD_cons_zero] at hx; rw [nzi, if_neg (fun hh => hh hx), nzi_at l n (by simpa using hn) (fun k hk => by have := h (k + 1) (by omega); simpa using this) (by simpa using h0), if_neg (by omega)]; omega
theorem nzi_none : ∀ (l : List Int), (∀ k, k < l.length → l.getD k 0 = 0) → nzi l = -1
  | [], _ => rfl
  | x :: l, h => by
    have hx := h 0 (by simp); simp only [List.getD_cons_zero] at hx; rw [nzi, if_neg (fun hh => hh hx), nzi_none l (fun k hk => by have := h (k + 1) (by simpa using hk); simpa using this)]; rfl
theorem nzi_lt : ∀ (l : List Int), nzi l < l.length
  | [] => by simp [nzi]
  | x :: l => by
    have := nzi_lt l; rw [nzi]; split
    · rw [List.length_cons]; omega
    · split <;> rw [List.length_cons] <;> omega
theorem UB (l : List Int) (n : Nat) (h : n < l.length) : rd l (n : Int) = l[n] := by simp [rd, h]
theorem index_find (l : List Int) (a : Int) (hl : l.length ≤ 1000) : ∀ (d n : Nat), n + d = l.length → ∃ k r, Za.l0 k l a (l.length : Int) (n : Int) = some r ∧ decide (r ≥ 0) = decide (a ∈ l.drop n) := by
  intro d; induction d with
  | zero =>
    intro n hn; refine ⟨1, -1, ?_, ?_⟩
    · rw [Za.l0, if_neg (by omega)]
    · rw [List.drop_eq_nil_of_le (by omega)]; simp
  | succ d ih =>
    intro n hn; have hlt : n < l.length := by omega
    by_cases h : a = l[n]
    · refine ⟨1, (n : Int), ?_, ?_⟩
      · rw [Za.l0, if_pos (by omega), if_pos (by omega), if_pos (by omega), UB l n hlt, if_pos h]
      · have : a ∈ l.drop n := by rw [List.drop_eq_getElem_cons hlt, ← h]; exact List.mem_cons_self ..
        rw [decide_eq_true this, decide_eq_true (by omega)]
    · obtain ⟨k, r, h1, h2⟩ := ih (n + 1) (by omega); refine ⟨k + 1, r, ?_, ?_⟩
      · rw [Za.l0, if_pos (by omega), if_pos (by omega), if_pos (by omega), UB l n hlt, if_neg h, wrp (by omega) (by omega)]; exact h1
      · rw [h2, List.drop_eq_getElem_cons hlt]; have : a ∈ l[n] :: l.drop (n + 1) ↔ a ∈ l.drop (n + 1) := ⟨fun hh => by rcases List.mem_cons.1 hh with e | e; exact absurd e h; exact e, fun hh => List.mem_cons_of_mem _ hh⟩; exact (decide_eq_decide.2 this).symm
theorem UT (A0 : Option Addr) (c0 : Nat) (l0 : List Int) (a : Int) (w : World) (hr0 : Kd.C (Kd.int .i64) w A0 l0.length l0) (hc0 : l0.length ≤ c0) (hl : l0.length ≤ 1000) :
    Calls Try.prog 116 #[.slice A0 l0.length c0, .int .i64 a] w fun e w' => e = .returned (.bool (decide (a ∈ l0))) ∧ Below w.heap.size w w' := by
  obtain ⟨k, r, h1, h2⟩ := index_find l0 a hl l0.length 0 (by omega); have h : ZQ.f k l0 a = some (decide (a ∈ l0)) := by
    unfold ZQ.f Za.f; rw [show Za.l0 k l0 a (l0.length : Int) 0 = some r from h1, Option.bind_some, h2, List.drop_zero]
  exact (ZQ.calls k A0 c0 l0 a _ w hr0 hc0 h).mono fun e w' hh => ⟨hh.1, hh.2.below⟩
set_option maxHeartbeats 1000000 in
set_option maxRecDepth 100000 in
theorem isnz_calls (t : Int) (w : World) : Calls Try.prog 120 #[.int .i64 t] w fun e w' => e = .returned (.bool (t != 0)) ∧ Below w.heap.size w w' := by
  obtain ⟨b, hb⟩ : ∃ b, b = (t != 0) := ⟨_, rfl⟩; go_enter Try.func120, Try.ntmps120; go_wp2_with fail
  go_ret; exact ⟨rfl, Below.refl _ _⟩
set_option maxHeartbeats 2000000 in
set_option maxRecDepth 100000 in
theorem nzi_calls (A0 : Option Addr) (c0 : Nat) (l0 : List Int) (w : World) (hr0 : Kd.C (Kd.int .i64) w A0 l0.length l0) (hc0 : l0.length ≤ c0) (hl : l0.length ≤ 1000) :
    Calls Try.prog 119 #[.slice A0 l0.length c0, .func (.func 120) #[] #[]] w fun e w' => e = .returned (.int .i64 (nzi l0)) ∧ Below w.heap.size w w' := by
  have HR0 := aa.mk hr0; have HC0 := aa.mk hc0; have HL := aa.mk hl; clear hr0 hc0; have HB := aa.mk (Below.refl w.heap.size w); go_enter Try.func119, Try.ntmps119; go_wp2_with fail
  go_loopw [8] (fun i w' => ∃ n : Nat, n ≤ l0.length ∧ i = .int .i64 n ∧ aa (∀ k, k < n → l0.getD k 0 = 0) ∧ aa (Below w.heap.size w w')) (fun i _ => l0.length - (intOf i).toNat)
  case atStart => exact ⟨0, by omega, rfl, ⟨fun q hq => absurd hq (by omega)⟩, by first | exact HB | exact ⟨HB.out.drew⟩⟩
  case round =>
    clear HB; obtain ⟨n, hn, rfl, HA, HB⟩ := hrel; by_cases hlt : n < l0.length
    · have p1 : 0 ≤ (n : Int) := by omega
      have q1 : (n : Int) < (l0.length : Int) := by omega
      obtain ⟨ad1, e1, hx0⟩ := Kd.Zh HR0.out (n : Int) p1 q1; cases e1; replace hx0 := (HB.out.cell (World.block_lt_of_cell? w _ hx0)).trans hx0; rw [UB l0 n hlt] at hx0; simp only [Int.toNat_natCast] at hx0; obtain ⟨x, hx⟩ : ∃ x, x = l0[n] := ⟨_, rfl⟩; rw [← hx] at hx0; have HX := aa.mk hx; have HY := aa.mk (fun W => isnz_calls x W); obtain ⟨b, hb⟩ : ∃ b, b = (x != 0) := ⟨_, rfl⟩; rw [← hb] at HY; have HBB := aa.mk hb; clear hx hb; cases b with
      | true =>
        go_wp2_with (first
          | ((with_reducible refine QO (N := 16) rfl ?_); refine VY (some 16) rfl rfl 11 #[] rfl Try.func120 (by kernel_rfl) rfl rfl #[.int .i64 x] (by (try simp only [List.map_toArray, List.map_cons, List.map_nil]); first | done | rfl) ?_; (with_reducible refine (HY.out _).mono ?_); rintro e w9 ⟨rfl, hb⟩; refine ⟨_, rfl, ?_⟩; replace HB := aa.mk (Qa (by repeat (first | (with_reducible first | exact HB.out | apply Q0 | apply QF | apply QP) | exact HB.out)) hb); (try clear hb)))
        go_ret; refine ⟨?_, HB.out⟩; have h1 := HBB.out.symm; rw [nzi_at l0 n hlt HA.out (by rw [← HX.out]; simpa using h1)]; rfl
      | false =>
        go_wp2_with (first
          | ((with_reducible refine QO (N := 16) rfl ?_); refine VY (some 16) rfl rfl 11 #[] rfl Try.func120 (by kernel_rfl) rfl rfl #[.int .i64 x] (by (try simp only [List.map_toArray, List.map_cons, List.map_nil]); first | done | rfl) ?_; (with_reducible refine (HY.out _).mono ?_); rintro e w9 ⟨rfl, hb⟩; refine ⟨_, rfl, ?_⟩; replace HB := aa.mk (Qa (by repeat (first | (with_reducible first | exact HB.out | apply Q0 | apply QF | apply QP) | exact HB.out)) hb); (try clear hb)))
        go_roundw
        case rel =>
          refine ⟨n + 1, by omega, by go_num, ⟨fun k hk => ?_⟩, HB⟩; by_cases hk2 : k < n
          · exact HA.out k hk2
          · obtain rfl : k = n := by omega
            have h1 := HBB.out.symm; have h2 : x = 0 := by simpa using h1
            have h3 : l0.getD k 0 = l0[k] := by rw [List.getD_eq_getElem?_getD, List.getElem?_eq_getElem hlt]; rfl
            exact h3.trans (HX.out.symm.trans h2)
        case measure => simp [intOf]; omega
    · obtain rfl : n = l0.length := by omega
      go_wp2_with fail
      go_ret; exact ⟨by rw [nzi_none l0 HA.out]; rfl, HB.out⟩
def Z3.f (l0 : List Int) : Option (List Int) := if l0.length < 17592186044416 then some l0 else none
set_option maxHeartbeats 1000000 in
set_option maxRecDepth 100000 in
theorem Z3.calls (A0 : Option Addr) (c0 : Nat) (l0 : List Int) (r : List Int) (w : World) (hr0 : Kd.C (Kd.int .i64) w A0 l0.length l0) (hc0 : l0.length ≤ c0) (h : Z3.f l0 = some r) :
    Calls Try.prog 79 #[.slice A0 l0.length c0] w fun e w' => ∃ v0_ : Value, e = .returned (v0_) ∧ Kd.R (Kd.int .i64) 3 w' w.heap.size (fun _ => True) v0_ r ∧ Below w.heap.size w w' := by
  unfold Z3.f at h; by_cases hl : l0.length < 17592186044416
  case neg => rw [if_neg hl] at h; cases h
  rw [if_pos hl] at h; obtain rfl := Option.some.inj h; clear h; have HB := aa.mk (Below.refl w.heap.size w); have hu3 := Try.underlying3; cases A0 with
  | none =>
    obtain rfl : l0 = [] := by
      cases l0 with
      | nil => rfl
      | cons x r => obtain ⟨ad, e, _⟩ := hr0.2.2 (by simp); cases e
    have hnil : ∀ W, (binOp .eql 28 (.slice none 0 c0) (.slice none 0 0)).run Try.prog W = .ok (.bool true) W := fun W => Lib.run_eql_slice_nil W _ _ none 0 c0 0 0 Try.underlying28
    clear hr0 hc0; go_enter Try.func79, Try.ntmps79; go_wp2_with fail
    go_ret; exact ⟨_, rfl, Kd.Yg _ _ _ _ _, HB.out⟩
  | some ad =>
    have hnil : ∀ W, (binOp .eql 28 (.slice (some ad) l0.length c0) (.slice none 0 0)).run Try.prog W = .ok (.bool false) W := fun W => Lib.run_eql_slice_nil W _ _ (some ad) _ c0 0 0 Try.underlying28
    have HR0 := aa.mk hr0; have ef := aa.mk (show ([] : List Int) = ([] : List Int) from rfl); obtain ⟨dp, cw⟩ : ∃ y_ : List Int, y_ = (([] : List Int)) := ⟨_, rfl⟩; obtain ⟨jS, cF⟩ : ∃ y_ : List Int, y_ = (dp ++ l0) := ⟨_, rfl⟩; have HY := aa.mk (show jS = l0 by rw [cF, cw]; rfl); have po := aa.mk (show dp.length + l0.length < 17592186044416 by rw [cw]; simpa using hl); clear ef; have ef := aa.mk cw; have iB := aa.mk cF; clear hr0 hc0 hl cw cF; go_enter Try.func79, Try.ntmps79; go_wp2_with (first | ((with_reducible refine QO (N := 5) rfl ?_); refine Kd.YS (Kd.int .i64) _ 3 ?hg (N := 5) ?hd (xs := ([] : List Int)) (inner := []) (ok := fun _ => True) (okp := fun _ => True) ?hr ?hp (fun _ hk => hk) trivial (Below.refl _ _) (Nat.le_refl _) (by simp) ?_; (case hd => rfl); (case hg => rfl); (case hr => first | (go_simp; done) | (go_simp; rfl)); (case hp => exact (Reps.none _ _)); intro hP w3 ho4 hb hg_ hnew_; clear hg_ hnew_; (first | rw [← ef.out] at ho4 | (simp only [Int.reduceToNat] at ho4; rw [← ef.out] at ho4)); have aX := aa.mk (Kd.Zg ho4 (Qc (by repeat (first | (with_reducible first | exact HB.out | apply Q0 | apply QF | apply QP) | exact HB.out)))); replace HB := aa.mk (Qa (by repeat (first | (with_reducible first | exact HB.out | apply Q0 | apply QF | apply QP) | exact HB.out)) hb); clear hb ho4) | ((with_reducible refine Zr (b := .append) (xs := #[.tmp 5, .tmp 6]) rfl ?_); at_builtin; refine Kd.Yx (Kd.int .i64) (w0 := w) w.heap.size rfl (.tmp 5) (.tmp 6) 28 3 (.int .i64 0) 8 rfl Try.underlying28 info3 rfl (by decide) (by omega) hP dp l0 _ _ _ (fun _ => True) (fun _ => False) rfl rfl ?aO ?aR (fun _ _ h => h) (fun _ h => h.elim) ?aF ?aB ?aS ?aL ?_; (case aR => repeat (first | exact (Kd.Qo HR0.out HB.out) | (with_reducible refine Kd.C_alloc ?_ _) | (with_reducible refine Kd.ZM ?_ _) | (with_reducible refine Kd.C_drew ?_))); (case aB => exact (by repeat (first | (with_reducible first | exact HB.out | apply Q0 | apply QF | apply QP) | exact HB.out))); (case aF => exact (fun _ _ => trivial)); (case aO => exact (by (with_reducible repeat (first | apply Kd.R_alloc | apply Kd.QI | apply Kd.QN)); exact aX.out)); (case aS => exact (Qc (by repeat (first | (with_reducible first | exact HB.out | apply Q0 | apply QF | apply QP) | exact HB.out)))); (case aL => have := po.out; omega); intro ie w5 ho hb hg hat; rw [← iB.out] at ho; replace HB := aa.mk (hb); have aY := aa.mk (ho); clear aX; clear ho hb hg hat))
    go_ret; exact ⟨_, rfl, by rw [← HY.out]; exact aY.out, HB.out⟩
def some6 (js : List Int) (r : List Int) : List Int := js.map fun j => r.getD j.toNat 0
def colOf (js : List Int) (x : S76) : List Int := pad (some6 js (L6 x))
def Z2.f (l0 : List S76) (l1 : List Int) : Option (List S76) :=
 if 0 < l0.length ∧ l0.length ≤ 1000 ∧ l1.length ≤ 6 ∧ ∀ j ∈ l1, 0 ≤ j ∧ j < 6 then some (l0.map fun x => mk6 (colOf l1 x)) else none
set_option maxHeartbeats 4000000 in
set_option maxRecDepth 100000 in
theorem Z2.calls (A0 : Option Addr) (c0 : Nat) (l0 : List S76) (A1 : Option Addr) (c1 : Nat) (l1 : List Int) (r : List S76) (w : World) (hr0 : Kd.C k76 w A0 l0.length l0) (hc0 : l0.length ≤ c0) (hr1 : Kd.C (Kd.int .i64) w A1 l1.length l1) (hc1 : l1.length ≤ c1) (h : Z2.f l0 l1 = some r) :
  Calls Try.prog 129 #[.slice A0 l0.length c0, .slice A1 l1.length c1] w fun e w' => ∃ v0_ : Value, e = .returned (v0_) ∧ Kd.R k76 76 w' w.heap.size (fun _ => True) v0_ r ∧ Below w.heap.size w w' := by
 unfold Z2.f at h; split at h
 case isFalse => cases h
 rename_i hcond
 obtain ⟨z0, z1, z2, z3⟩ := hcond; obtain rfl := Option.some.inj h; clear h; have lN := Try.underlying76; have ov := Try.underlying65; have ss := Try.underlying28; have lO := size76; obtain ⟨n, hn⟩ : ∃ n, n = l0.length := ⟨_, rfl⟩; have HR0 := aa.mk hr0; have HC0 := aa.mk hc0; have HR1 := aa.mk hr1; have HC1 := aa.mk hc1; have HZ3 := aa.mk z3; obtain ⟨ad, eL, hcL⟩ := hr0.2.2 z0; subst eL; have HL := aa.mk hcL; clear hcL hr0 hc0 hr1 hc1 z3; have HB := aa.mk (Below.refl w.heap.size w); go_enter Try.func129, Try.ntmps129; go_wp2_with (first
  | ((with_reducible refine QO (N := 11) rfl ?_); refine Kd.JV k76 _ 76 rfl (N := 11) rfl 65 _ _ rfl (l0.length : Int) rfl rfl Try.underlying65 (.agg #[(.int .i64 0), (.int .i64 0), (.int .i64 0), (.int .i64 0), (.int .i64 0), (.int .i64 0)]) 48 info76 rfl (by decide) (by omega) z76 (ok := fun _ => True) (okp := fun _ => True) (Uo _ _ _ z76) (fun _ hk => hk) trivial (by omega) (by simp only [Int.toNat_natCast]; omega) (Below.refl _ _) (Nat.le_refl _) ?_; intro v14 w14 ho hb hgr hat; obtain ⟨g, c, hv, hgw, -, hbl, hlc, hcm⟩ := (Bl.of_R ho).resolve_left (fun hh => absurd (congrArg List.length hh.2) (by rw [List.length_replicate, List.length_nil, Int.toNat_natCast]; omega)); rw [List.length_replicate, Int.toNat_natCast] at hv hlc; subst hv; have HBL := aa.mk hbl; have HCM := aa.mk hcm; have HGW := aa.mk hgw; have n0_ := aa.mk (Qa HB.out hb); clear HB hbl hcm hgw; have HB := n0_; clear n0_ ho hb hgr hat))
 have HM := aa.mk (show Made (fun k => colOf l1 (l0.getD k z76)) l0.length 0 (pad []) ((List.replicate (l0.length : Int).toNat z76).map L6) from ⟨by simp, fun q hq => by
  rw [List.map_replicate, Int.toNat_natCast, List.getElem?_replicate, if_pos hq, if_neg (by omega)]; split <;> rfl⟩)
 generalize (List.replicate (l0.length : Int).toNat z76).map L6 = M at HM HBL; go_loopw [14] (fun k_ w' => ∃ (k : Nat) (M : List (List Int)), k ≤ l0.length ∧ k_ = .int .i64 k ∧ aa (Made (fun k => colOf l1 (l0.getD k z76)) l0.length k (pad []) M) ∧ aa (Bl w' g M c) ∧ aa (Below w.heap.size w w')) (fun k_ _ => l0.length - (intOf k_).toNat)
 case atStart => exact ⟨0, M, Nat.zero_le _, rfl, HM, HBL, HB⟩
 case round =>
  clear HM HBL HB M; obtain ⟨k, M, hk, rfl, HM, HBL, HB⟩ := hrel; by_cases hkn : k < l0.length
  ·go_wp2_with fail
   have HM1 := aa.mk (show Made (fun k => colOf l1 (l0.getD k z76)) l0.length k (pad (some6 (l1.take 0) (L6 (l0.getD k z76)))) M from HM.out); clear HM; go_loopw [19] (fun i_ w' => ∃ (i : Nat) (M : List (List Int)), i ≤ l1.length ∧ i_ = .int .i64 i ∧ aa (Made (fun k => colOf l1 (l0.getD k z76)) l0.length k (pad (some6 (l1.take i) (L6 (l0.getD k z76)))) M) ∧ aa (Bl w' g M c) ∧ aa (Below w.heap.size w w')) (fun i_ _ => l1.length - (intOf i_).toNat)
   case atStart => exact ⟨0, M, Nat.zero_le _, rfl, HM1, HBL, HB⟩
   case round =>
    clear HM1 HBL HB M; obtain ⟨i, M, hi, rfl, HM, HBL, HB⟩ := hrel; by_cases hil : i < l1.length
    ·obtain ⟨ad2, e2, hx2⟩ := Kd.Zh HR1.out (i : Int) (by omega) (by omega); subst e2; replace hx2 := (HB.out.cell (World.block_lt_of_cell? w _ hx2)).trans hx2; obtain ⟨x, hxe⟩ : ∃ x, x = rd l1 (i : Int) := ⟨_, rfl⟩; have hxi : x = l1[i] := by rw [hxe]; simp [rd, hil]
     obtain ⟨hx0, hx6⟩ := HZ3.out x (by rw [hxi]; exact List.getElem_mem hil); rw [← hxe] at hx2; obtain ⟨q, rfl⟩ : ∃ q : Nat, x = (q : Int) := ⟨x.toNat, by omega⟩; obtain ⟨cs, _, hK, hcell⟩ := HL.out k l0[k] (List.getElem?_eq_getElem hkn); obtain rfl := UI hK; have hrd := hcell q (.int .i64 ((L6 l0[k]).getD q 0)) (by
      have h6 : q < 6 := by omega
      match q, h6 with
      | 0, _ => rfl
      | 1, _ => rfl
      | 2, _ => rfl
      | 3, _ => rfl
      | 4, _ => rfl
      | 5, _ => rfl)
     replace hrd := (HB.out.cell (World.block_lt_of_cell? w _ hrd)).trans hrd; obtain ⟨hkM, hrow⟩ := HM.out.at hkn; have hi6 : i < 6 := by omega
     have hf := HBL.out.frozen (k * 6 + i); have hc := HBL.out.cell hkM hi6; generalize M[k].getD i 0 = old at hc; rw [show k76.sz = 6 from rfl, ← Addr.add_add] at hrd; simp only [Int.toNat_natCast] at hx2; generalize hy : (L6 l0[k]).getD q 0 = y at hrd; have hq6 : q < 6 := by omega
     have HXI := aa.mk hxi; have HQ6 := aa.mk hq6; have HKM := aa.mk hkM; have HROW := aa.mk hrow; have HY := aa.mk hy; have AP : (q : Int) < 6 := by omega
     clear hK hcell hxe hxi hrow hq6 hx0 hx6 hy; go_wp2_with fail
     go_region; go_wp2_with fail
     have HNX := aa.mk (show pad (some6 (l1.take (i + 1)) (L6 (l0.getD k z76))) = M[k].set i y by
      have e1 : l0.getD k z76 = l0[k] := by rw [List.getD_eq_getElem?_getD, List.getElem?_eq_getElem hkn]; rfl
      have hl : (some6 (l1.take i) (L6 l0[k])).length = i := by simp [some6]; omega
      have := Jy (l := some6 (l1.take i) (L6 l0[k])) y (by rw [hl]; exact hi6); rw [hl] at this; rw [HROW.out, e1, this]; unfold some6; rw [List.take_succ_eq_append_getElem hil, List.map_append, List.map_singleton, ← HXI.out, Int.toNat_natCast, HY.out])
     go_roundw
     case rel => exact ⟨i + 1, M.set k (M[k].set i y), by omega, by go_num, ⟨by rw [HNX.out]; exact HM.out.set _⟩, ⟨HBL.out.store HKM.out hi6 y⟩, ⟨(HB.out.setCell HGW.out _).drew⟩⟩
     case measure => simp [intOf]; omega
    ·obtain rfl : i = l1.length := by omega
     have HM3 := aa.mk (show Made (fun k => colOf l1 (l0.getD k z76)) l0.length (k + 1) (pad []) M from (by
      have := HM.out; rw [List.take_length] at this; exact this.next))
     go_wp2_with fail
     go_roundw
     case rel => exact ⟨k + 1, M, by omega, by go_num, HM3, HBL, HB⟩
     case measure => simp [intOf]; omega
  ·obtain rfl : k = l0.length := by omega
   have hall := HM.out.all; go_wp2_with fail
   go_ret; refine ⟨_, rfl, ?_, HB.out⟩; have hR := HBL.out.R (base := w.heap.size) (ok := fun _ => True) (n := l0.length) HGW.out trivial (by rw [HM.out.1]; exact Nat.le_refl _) HCM.out; have he : (List.range l0.length).map (fun k => colOf l1 (l0.getD k z76)) = l0.map (colOf l1) := by
    apply List.ext_getElem?; intro q; by_cases hq : q < l0.length
    ·simp [hq]
    ·rw [List.getElem?_eq_none (by simp; omega), List.getElem?_eq_none (by simp; omega)]
   rw [List.take_of_length_le (by rw [HM.out.1]; exact Nat.le_refl _), hall, he, List.map_map] at hR; exact hR
end Go.Proofs.Ytdneelgnmnpanaa.P
end
section
namespace Go.Proofs.Ytdneelgnmnpanaa.P
open Go.RowKit Go.Proofs.YtdneelgnmnpanaaW.PrintWords
open Go.ChangeShapes Go.WideShapes Go.Deep
theorem addr_zero' (ad : Addr) : ad.add 0 = ad := by
  cases ad; unfold Addr.add; split <;> simp_all
section
variable {H : Type} {enc : TypeId × Value → H} {w : World} {base : Nat} {held : Bool}
theorem C_take {α : Type} {K : Kd α} {a : Option Addr} {L : List α} (n : Nat) (h : Kd.C K w a L.length L) : Kd.C K w a (L.take n).length (L.take n) := by
  refine ⟨rfl, ?_, fun hn => ?_⟩
  · have := h.2.1; simp; omega
  · obtain ⟨ad, e, hc⟩ := h.2.2 (by simp at hn; omega); refine ⟨ad, e, fun j p hj => ?_⟩; rw [List.getElem?_take] at hj; split at hj
    · exact hc j p hj
    · cases hj
theorem open_row {fuel : Nat} {v : Value} {x : DataW H × List MemPlace} (h : DataW.trod enc Try.prog w base (fun _ => true) held fuel 28 [v] = some x) (hw : ∀ n ∈ x.1.weights Try.prog 28, n ≤ reachBytes) :
    ∃ a n q, v = .slice a n (q : List Int).length ∧ n ≤ q.length ∧ Kd.C (Kd.int .i64) w a q.length q ∧ q.length * 8 ≤ reachBytes := by
  rcases open_ints Try.underlying28 Try.underlying3 (by kernel_rfl) h with ⟨hcs, _⟩ | ⟨x0, l, c, zs, hcs, _, hl, hm, hz, hx, hcell, hwf⟩
  · simp at hcs; subst hcs; exact ⟨none, 0, [], rfl, Nat.le_refl _, ⟨rfl, by simp, fun h => absurd h (by simp)⟩, Nat.zero_le _⟩
  · simp at hcs; subst hcs; simp only [if_true] at hz; refine ⟨some x0, l, zs, by rw [hz], by omega, Kd.Ve (d := (0 : Int)) (h1 := fun _ => rfl) ⟨rfl, by unfold maxLen at hm; omega, fun _ => ⟨x0, rfl, fun j hj => hcell j (by omega)⟩⟩, ?_⟩; subst hx; have hu : Try.prog.underlying 28 = some (.slice 3) := Try.underlying28; have hB : Try.prog.bytesOf 3 = 8 := by kernel_rfl
    have := hw (zs.length * 8) (by
      simp only [DataW.weights, hu, hB]; refine List.mem_cons.2 (.inl ?_); simp [lits]; omega)
    exact this
theorem YQ {P : Program} {e : TypeId} {n : Nat} : ∀ {ds : List (DataW H)} {d : DataW H}, d ∈ ds → n ∈ d.weights P e → n ∈ DataW.weightsAll P e ds
  | d0 :: ds, d, hd, hn => by
    rw [DataW.weightsAll]; rcases List.mem_cons.1 hd with rfl | hd
    · exact List.mem_append_left _ hn
    · exact List.mem_append_right _ (YQ hd hn)
theorem open_tab {fuel : Nat} {v : Value} {x : DataW H × List MemPlace} (h : DataW.trod enc Try.prog w base (fun _ => true) held fuel 22 [v] = some x) (hw : ∀ n ∈ x.1.weights Try.prog 22, n ≤ reachBytes) :
    ∃ (a : Option Addr) (L Q : List (List Int)), v = .slice a L.length Q.length ∧ Kd.C (Kd.slice 3 (Kd.int .i64)) w a L.length L ∧ L.length ≤ Q.length ∧ Kd.C Full.kd w a Q.length Q ∧ Q.length * 24 ≤ reachBytes ∧ ∀ q ∈ Q, q.length * 8 ≤ reachBytes := by
  have hu : Try.prog.underlying 22 = some (.slice 28) := Try.underlying22; rcases open_slice hu h with ⟨hcs, _⟩ | ⟨x0, l, c, m, n, D, Pl, hcs, _, hl, hm, hmm, hx, hi⟩
  · simp at hcs; subst hcs; exact ⟨none, [], [], rfl, ⟨rfl, by simp, fun h => absurd h (by simp)⟩, Nat.le_refl _, ⟨rfl, by simp, fun h => absurd h (by simp)⟩, Nat.zero_le _, by simp⟩
  · simp at hcs; subst hcs; simp only [if_true] at hmm; subst hmm; have hB : Try.prog.bytesOf 28 = 24 := by kernel_rfl
    have hC : Try.prog.cellsOf 28 = 1 := by kernel_rfl
    have hD : ∀ i, i < m → ∀ k ∈ (D i).weights Try.prog 28, k ≤ reachBytes := by
      intro i him k hk; refine hw k ?_; rw [hx]; simp only [DataW.weights, hu]; refine List.mem_cons_of_mem _ ?_; by_cases hil : i < l
      · exact List.mem_append_left _ (YQ (d := D i) (List.mem_map.2 ⟨i, List.mem_range.2 hil, rfl⟩) hk)
      · exact List.mem_append_right _ (YQ (d := D i) (List.mem_map.2 ⟨i - l, List.mem_range.2 (by omega), by rw [show l + (i - l) = i by omega]⟩) hk)
    have hrow : ∀ i, i < m → ∃ (y : Option Addr × Nat × List Int), w.cell? (x0.add i) = some (.slice y.1 y.2.1 y.2.2.length) ∧ y.2.1 ≤ y.2.2.length ∧ Kd.C (Kd.int .i64) w y.1 y.2.2.length y.2.2 ∧ y.2.2.length * 8 ≤ reachBytes := by
      intro i him; obtain ⟨cs', hc, ht'⟩ := hi i him; rw [hC] at hc; obtain ⟨_, hcl, hat⟩ := World.cells?_some hc; match cs', hcl with
      | [u], _ =>
        obtain ⟨a, n1, q, rfl, h1, h2, h3⟩ := open_row ht' (hD i him); have := hat 0 (by omega); rw [Nat.mul_one, addr_zero'] at this; exact ⟨(a, n1, q), this, h1, h2, h3⟩
    obtain ⟨f, hf⟩ : ∃ f : Nat → Option Addr × Nat × List Int, ∀ i, i < m → w.cell? (x0.add i) = some (.slice (f i).1 (f i).2.1 (f i).2.2.length) ∧ (f i).2.1 ≤ (f i).2.2.length ∧ Kd.C (Kd.int .i64) w (f i).1 (f i).2.2.length (f i).2.2 ∧ (f i).2.2.length * 8 ≤ reachBytes := by
      refine ⟨fun i => if h : i < m then (hrow i h).choose else (none, 0, []), fun i hi => ?_⟩; simp only [hi, dif_pos]; exact (hrow i hi).choose_spec
    refine ⟨some x0, (List.range l).map fun i => (f i).2.2.take (f i).2.1, (List.range m).map fun i => (f i).2.2, by simp, ⟨rfl, by simp; unfold maxLen at hm; omega, fun _ => ⟨x0, rfl, fun j p hj => ?_⟩⟩, by simpa using hl, ⟨rfl, by simp; unfold maxLen at hm; omega, fun _ => ⟨x0, rfl, fun j p hj => ?_⟩⟩, ?_, fun q hq => ?_⟩
    · obtain ⟨hjm, hp⟩ := List.getElem?_eq_some_iff.1 hj; simp at hjm hp; obtain ⟨h1, h2, h3, _⟩ := hf j (by omega); subst hp; have hlen : ((f j).2.2.take (f j).2.1).length = (f j).2.1 := by simp; omega
      refine ⟨[.slice (f j).1 (f j).2.1 (f j).2.2.length], rfl, ⟨(f j).1, (f j).2.2.length, by rw [hlen], by rw [hlen]; exact h2, C_take _ h3⟩, fun i u hu => ?_⟩; have hi0 : i = 0 := by
        have := (List.getElem?_eq_some_iff.1 hu).1; simp at this; omega
      subst hi0; show w.cell? (x0.add (j * 1 + 0)) = some u
      rw [Nat.mul_one, Nat.add_zero, h1]; exact hu
    · obtain ⟨hjm, hp⟩ := List.getElem?_eq_some_iff.1 hj; simp at hjm hp; obtain ⟨h1, h2, h3, _⟩ := hf j hjm; subst hp; refine ⟨[.slice (f j).1 (f j).2.1 (f j).2.2.length], rfl, ⟨(f j).1, (f j).2.1, rfl, h2, h3⟩, fun i u hu => ?_⟩; have hi0 : i = 0 := by
        have := (List.getElem?_eq_some_iff.1 hu).1; simp at this; omega
      subst hi0; show w.cell? (x0.add (j * 1 + 0)) = some u
      rw [Nat.mul_one, Nat.add_zero, h1]; exact hu
    · have := hw (m * 24) (by
        rw [hx]; simp only [DataW.weights, hu, hB]; refine List.mem_cons.2 (.inl ?_); simp; omega)
      simpa using this
    · obtain ⟨i, hi2, rfl⟩ := List.mem_map.1 hq; exact (hf i (List.mem_range.1 hi2)).2.2.2
theorem w24 {y0 y1 : DataW H} {n : Nat} (h : n ∈ y0.weights Try.prog 22 ∨ n ∈ y1.weights Try.prog 22) : n ∈ (DataW.agg [y0, y1]).weights Try.prog 24 := by
  have hu := Try.underlying24; simp only [DataW.weights, hu, List.map_cons, List.map_nil, DataW.weightsEach, List.append_nil, List.mem_append]; exact h
theorem w30 {y0 y1 y2 : DataW H} {n : Nat} (h : n ∈ y0.weights Try.prog 28 ∨ n ∈ y1.weights Try.prog 28) : n ∈ (DataW.agg [y0, y1, y2]).weights Try.prog 30 := by
  have hu := Try.underlying30; simp only [DataW.weights, hu, List.map_cons, List.map_nil, DataW.weightsEach, List.append_nil, List.mem_append]; rcases h with h | h
  · exact .inl h
  · exact .inr (.inl h)
theorem sized_at {ts : List TypeId} {ds : List (DataW H)} {j : Nat} {t : TypeId} {d : DataW H} (hsz : (DataW.weightsEach Try.prog ts ds).all (· ≤ reachBytes) = true) (ht : ts[j]? = some t) (hd : ds[j]? = some d) : ∀ n ∈ d.weights Try.prog t, n ≤ reachBytes := fun n hn => by
  have := List.all_eq_true.1 hsz n (DataW.weights_mem_each ht hd n hn); simpa using this
end
end Go.Proofs.Ytdneelgnmnpanaa.P
end
