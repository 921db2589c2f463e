/- What the claim's last text wants, part 4: functions of the translation as Lean functions with their contracts, and plain theorems; no conditions beyond those that each theorem names. -/
import Derived.Test.YtdneelgnmnpanaaZJo3
set_option linter.unusedVariables false
set_option linter.unusedSimpArgs false
section
namespace Go.Proofs.Ytdneelgnmnpanaa.P
open Go.RowKit Go.Proofs.YtdneelgnmnpanaaW.PrintWords Go.Proofs.YtdneelgnmnpanaaW.PrintLast Go.Proofs.YtdneelgnmnpanaaW.PrintMore
attribute [local go_sem] max2_int min2_int max_two min_two max_three min_three max_four min_four
mutual
def Qu.l0 : Nat → List Int → List Int → List Int → List (List Int) → Int → Int → List (List Int) → List (List Int) → Option (List Int × List Int)
  | 0, _, _, _, _, _, _, _, _ => none
  | k + 1, x1, x6, x7, x29, x30, x31, aE, aG => if x31 < x30 then (if 0 ≤ x31 then (if x31 < (x29.length : Int) then (Qu.l1 k x1 x6 x7 x31 x29 x30 x31 (Qt x29 x31) ((Qt x29 x31).length : Int) 0 aE aG) else (none)) else (none)) else (Qu.l2 k x1 x6 x7 aG (aG.length : Int) 0 aE aG)
def Qu.l1 : Nat → List Int → List Int → List Int → Int → List (List Int) → Int → Int → List Int → Int → Int → List (List Int) → List (List Int) → Option (List Int × List Int)
  | 0, _, _, _, _, _, _, _, _, _, _, _, _ => none
  | k + 1, x1, x6, x7, x8, x29, x30, x31, x36, x37, x38, aE, aG => if x38 < x37 then (if 0 ≤ x38 then (if x38 < (x36.length : Int) then (if x38 < (x6.length : Int) then (if 0 ≤ x8 then (if x8 < (x1.length : Int) then (Qu.l1 k x1 (x6.set (x38 : Int).toNat (wrap64 ((rd x6 x38) + (wrap64 ((rd x1 x8) * (rd x36 x38)))))) x7 x8 x29 x30 x31 x36 x37 (wrap64 (x38 + 1)) aE aG) else (none)) else (none)) else (none)) else (none)) else (none)) else (Qu.l0 k x1 x6 x7 x29 x30 (wrap64 (x31 + 1)) aE aG)
def Qu.l2 : Nat → List Int → List Int → List Int → List (List Int) → Int → Int → List (List Int) → List (List Int) → Option (List Int × List Int)
  | 0, _, _, _, _, _, _, _, _ => none
  | k + 1, x1, x6, x7, x58, x59, x60, aE, aG => if x60 < x59 then (if 0 ≤ x60 then (if x60 < (x58.length : Int) then (Qu.l3 k x1 x6 x7 x60 x58 x59 x60 (Qt x58 x60) ((Qt x58 x60).length : Int) 0 aE aG) else (none)) else (none)) else (some (x6, x7))
def Qu.l3 : Nat → List Int → List Int → List Int → Int → List (List Int) → Int → Int → List Int → Int → Int → List (List Int) → List (List Int) → Option (List Int × List Int)
  | 0, _, _, _, _, _, _, _, _, _, _, _, _ => none
  | k + 1, x1, x6, x7, x12, x58, x59, x60, x65, x66, x67, aE, aG => if x67 < x66 then (if 0 ≤ x67 then (if x67 < (x65.length : Int) then (if x67 < (x7.length : Int) then (if 0 ≤ (wrap64 ((aE.length : Int) + x12)) then (if (wrap64 ((aE.length : Int) + x12)) < (x1.length : Int) then (Qu.l3 k x1 x6 (x7.set (x67 : Int).toNat (wrap64 ((rd x7 x67) + (wrap64 ((rd x1 (wrap64 ((aE.length : Int) + x12))) * (rd x65 x67)))))) x12 x58 x59 x60 x65 x66 (wrap64 (x67 + 1)) aE aG) else (none)) else (none)) else (none)) else (none)) else (none)) else (Qu.l2 k x1 x6 x7 x58 x59 (wrap64 (x60 + 1)) aE aG)
end
def Qu.f (k : Nat) (ae : List (List Int)) (ag : List (List Int)) (l1 : List Int) : Option (List Int × List Int) := if 0 < (ae.length : Int) then (if 0 ≤ ((Qt ae 0).length : Int) then (if (((Qt ae 0).length : Int) : Int).toNat ≤ 35184372088832 then (Qu.l0 k l1 (List.replicate (((Qt ae 0).length : Int) : Int).toNat 0) (List.replicate (((Qt ae 0).length : Int) : Int).toNat 0) ae (ae.length : Int) 0 ae ag) else (none)) else (none)) else (none)
theorem Qu.Z8 : ∀ k, (∀ y0 y1 y2 y3 y4 y5 y6 y7, LeO (Qu.l0 k y0 y1 y2 y3 y4 y5 y6 y7) (Qu.l0 (k + 1) y0 y1 y2 y3 y4 y5 y6 y7)) ∧ (∀ y0 y1 y2 y3 y4 y5 y6 y7 y8 y9 y10 y11, LeO (Qu.l1 k y0 y1 y2 y3 y4 y5 y6 y7 y8 y9 y10 y11) (Qu.l1 (k + 1) y0 y1 y2 y3 y4 y5 y6 y7 y8 y9 y10 y11)) ∧ (∀ y0 y1 y2 y3 y4 y5 y6 y7, LeO (Qu.l2 k y0 y1 y2 y3 y4 y5 y6 y7) (Qu.l2 (k + 1) y0 y1 y2 y3 y4 y5 y6 y7)) ∧ (∀ y0 y1 y2 y3 y4 y5 y6 y7 y8 y9 y10 y11, LeO (Qu.l3 k y0 y1 y2 y3 y4 y5 y6 y7 y8 y9 y10 y11) (Qu.l3 (k + 1) y0 y1 y2 y3 y4 y5 y6 y7 y8 y9 y10 y11))
  | 0 => ⟨fun _ _ _ _ _ _ _ _ r h => by simp [Qu.l0] at h, fun _ _ _ _ _ _ _ _ _ _ _ _ r h => by simp [Qu.l1] at h, fun _ _ _ _ _ _ _ _ r h => by simp [Qu.l2] at h, fun _ _ _ _ _ _ _ _ _ _ _ _ r h => by simp [Qu.l3] at h⟩
  | k + 1 => by
    obtain ⟨ih0, ih1, ih2, ih3⟩ := Qu.Z8 k; refine ⟨?_, ?_, ?_, ?_⟩ <;> intros <;> (first | unfold Qu.l0 | unfold Qu.l1 | unfold Qu.l2 | unfold Qu.l3) <;> repeat' first | (with_reducible exact ih0 _ _ _ _ _ _ _ _) | (with_reducible exact ih1 _ _ _ _ _ _ _ _ _ _ _ _) | (with_reducible exact ih2 _ _ _ _ _ _ _ _) | (with_reducible exact ih3 _ _ _ _ _ _ _ _ _ _ _ _) | (with_reducible exact LeO.refl _) | (with_reducible exact LeO.none _) | (with_reducible refine LeO.ite ?_ ?_) | (with_reducible refine LeO.bind ?_ (fun _ => ?_)) | exact ih0 _ _ _ _ _ _ _ _ | exact ih1 _ _ _ _ _ _ _ _ _ _ _ _ | exact ih2 _ _ _ _ _ _ _ _ | exact ih3 _ _ _ _ _ _ _ _ _ _ _ _ | exact LeO.none _ | refine LeO.ite ?_ ?_ | refine LeO.bind ?_ (fun _ => ?_)
theorem Qu.mono : ∀ a0 a1 a2 k, LeO (Qu.f k a0 a1 a2) (Qu.f (k + 1) a0 a1 a2) := by
  intro a0 a1 a2 k; obtain ⟨ih0, ih1, ih2, ih3⟩ := Qu.Z8 k; unfold Qu.f; repeat' first | (with_reducible exact ih0 _ _ _ _ _ _ _ _) | (with_reducible exact ih1 _ _ _ _ _ _ _ _ _ _ _ _) | (with_reducible exact ih2 _ _ _ _ _ _ _ _) | (with_reducible exact ih3 _ _ _ _ _ _ _ _ _ _ _ _) | (with_reducible exact LeO.refl _) | (with_reducible exact LeO.none _) | (with_reducible refine LeO.ite ?_ ?_) | (with_reducible refine LeO.bind ?_ (fun _ => ?_)) | exact ih0 _ _ _ _ _ _ _ _ | exact ih1 _ _ _ _ _ _ _ _ _ _ _ _ | exact ih2 _ _ _ _ _ _ _ _ | exact ih3 _ _ _ _ _ _ _ _ _ _ _ _ | exact LeO.none _ | refine LeO.ite ?_ ?_ | refine LeO.bind ?_ (fun _ => ?_)
def Qu.T1 : Bool × List (List Nat × List Nat) := (true, [([], []), ([0], [0]), ([1], [1]), ([2], [2]), ([3], [3]), ([4, 4], [4]), ([], []), ([6], [6]), ([7], [7]), ([8], [8]), ([9], [9]), ([10, 10], [10]), ([5, 0, 1, 2, 3, 4, 5], [5]), ([11, 12, 0, 1, 2, 3, 4, 5, 6, 7, 8, 9, 10, 11, 12], [11])])
def Qu.B1 : List Nat := [0, 1, 3, 7, 15, 31, 0, 64, 192, 448, 960, 1984, 63, 8191]
theorem Qu.tab1 : rtab .any (opsOf Try.f88 1) = Qu.T1 := by kernel_rfl
theorem Qu.bits1 : waitsOk Qu.T1.2 Qu.B1 = true := by kernel_rfl
def Qu.T8 : Bool × List (List Nat × List Nat) := (true, [([], []), ([], []), ([0, 1], [0, 1]), ([2], [2]), ([], []), ([], []), ([4, 5], [4, 5]), ([6], [6]), ([], []), ([7, 8], [7, 8]), ([3, 9], [3, 9]), ([0, 1, 0, 1, 2, 3, 4, 5, 6, 7, 8, 9, 10], [0, 1]), ([11, 10, 0, 1, 2, 3, 4, 5, 6, 7, 8, 9, 10], [10, 11])])
def Qu.B8 : List Nat := [0, 0, 3, 7, 0, 0, 48, 112, 0, 496, 1023, 2047, 4095]
theorem Qu.tab8 : rtab .any (opsOf Try.f88 8) = Qu.T8 := by kernel_rfl
theorem Qu.bits8 : waitsOk Qu.T8.2 Qu.B8 = true := by kernel_rfl
def Qu.T17 : Bool × List (List Nat × List Nat) := (true, [([], []), ([], []), ([0, 1], [0, 1]), ([2], [2]), ([], []), ([], []), ([5], [5]), ([6], [6]), ([], []), ([7, 8], [7, 8]), ([4, 9], [4, 9]), ([10], [10]), ([], []), ([11, 12], [11, 12]), ([3, 13], [3, 13]), ([0, 1, 0, 1, 2, 3, 4, 5, 6, 7, 8, 9, 10, 11, 12, 13, 14], [0, 1]), ([15, 14, 0, 1, 2, 3, 4, 5, 6, 7, 8, 9, 10, 11, 12, 13, 14], [14, 15])])
def Qu.B17 : List Nat := [0, 0, 3, 7, 0, 0, 32, 96, 0, 480, 1008, 2032, 0, 8176, 16383, 32767, 65535]
theorem Qu.tab17 : rtab .any (opsOf Try.f88 17) = Qu.T17 := by kernel_rfl
theorem Qu.bits17 : waitsOk Qu.T17.2 Qu.B17 = true := by kernel_rfl
set_option maxHeartbeats 8000000 in
set_option maxRecDepth 100000 in
theorem Qu.calls (k : Nat) (aq : Option Addr) (an : Nat) (ae : List (List Int)) (ak : Option Addr) (ao : Nat) (ag : List (List Int)) (A1 : Option Addr) (c1 : Nat) (l1 : List Int) (r1 : List Int) (r2 : List Int) (w : World) (bp : Kd.C (Kd.slice 3 (Kd.int .i64)) w aq ae.length ae) (br : ae.length ≤ an) (bo : Kd.C (Kd.slice 3 (Kd.int .i64)) w ak ag.length ag) (bq : ag.length ≤ ao) (hr1 : Kd.C (Kd.int .i64) w A1 l1.length l1) (hc1 : l1.length ≤ c1) (h : Qu.f k ae ag l1 = some (r1, r2)) :
    Calls Try.prog 88 #[.agg #[.slice aq ae.length an, .slice ak ag.length ao], .slice A1 l1.length c1] w fun e w' => ∃ v0_ v1_ : Value, e = .returned (.tuple #[v0_, v1_]) ∧ Kd.R (Kd.int .i64) 3 w' w.heap.size (fun k_ => some k_ ≠ (v1_ : Value).ownBlock) v0_ r1 ∧ Kd.R (Kd.int .i64) 3 w' w.heap.size (fun k_ => some k_ ≠ (v0_ : Value).ownBlock) v1_ r2 ∧ Below w.heap.size w w' := by
  have fa := Try.underlying24; have aI := aa.mk bp; have aQ := aa.mk br; clear bp br; have aW := aa.mk bo; have aT := aa.mk bq; clear bo bq; have HR1 := aa.mk hr1; have HC1 := aa.mk hc1; clear hr1 hc1; have HB := aa.mk (Below.refl w.heap.size w); have H : (if 0 < (ae.length : Int) then (if 0 ≤ ((Qt ae 0).length : Int) then (if (((Qt ae 0).length : Int) : Int).toNat ≤ 35184372088832 then (Qu.l0 k l1 (List.replicate (((Qt ae 0).length : Int) : Int).toNat 0) (List.replicate (((Qt ae 0).length : Int) : Int).toNat 0) ae (ae.length : Int) 0 ae ag) else (none)) else (none)) else (none)) = some (r1, r2) := h; clear h; by_cases c3 : 0 < (ae.length : Int)
  · rw [if_pos c3] at H; have cK : decide (0 < (ae.length : Int)) = true := decide_eq_true c3; have dD : decide (0 < ae.length) = true := decide_eq_true (by omega); clear c3; by_cases c4 : 0 ≤ ((Qt ae 0).length : Int)
    · rw [if_pos c4] at H; have cn := eq_true c4; have eC : decide (0 ≤ ((Qt ae 0).length : Int)) = true := decide_eq_true c4; clear c4; by_cases c5 : (((Qt ae 0).length : Int) : Int).toNat ≤ 35184372088832
      · rw [if_pos c5] at H; have fl := eq_true c5; have kJ : decide ((((Qt ae 0).length : Int) : Int).toNat ≤ 35184372088832) = true := decide_eq_true c5; clear c5; obtain ⟨eI, gN⟩ : ∃ y_ : List Int, y_ = (List.replicate (((Qt ae 0).length : Int) : Int).toNat 0) := ⟨_, rfl⟩; replace H : (Qu.l0 k l1 eI (List.replicate (((Qt ae 0).length : Int) : Int).toNat 0) ae (ae.length : Int) 0 ae ag) = some (r1, r2) := by first | (rw [gN]; with_reducible exact H) | (have H2_ := (Option.bind_some _ _).symm.trans H; rw [gN]; with_reducible exact H2_) | (have H2_ := (Option.bind_some _ _).symm.trans H; with_reducible exact H2_) | with_reducible exact H | (rw [gN]; exact H) | exact H
        have kP := aa.mk gN; clear gN; obtain ⟨jO, gL⟩ : ∃ y_ : List Int, y_ = (List.replicate (((Qt ae 0).length : Int) : Int).toNat 0) := ⟨_, rfl⟩; replace H : (Qu.l0 k l1 eI jO ae (ae.length : Int) 0 ae ag) = some (r1, r2) := by first | (rw [gL]; with_reducible exact H) | (have H2_ := (Option.bind_some _ _).symm.trans H; rw [gL]; with_reducible exact H2_) | (have H2_ := (Option.bind_some _ _).symm.trans H; with_reducible exact H2_) | with_reducible exact H | (rw [gL]; exact H) | exact H
        have lq := aa.mk gL; clear gL; have H' := aa.mk H; clear H; go_enter Try.func88, Try.ntmps88; try go_wp2_with (first | ((with_reducible refine QD (N := 2) rfl ?_); refine QJ ?hg (N := 2) ?hd (cs := #[.slice aq ae.length an, .slice ak ag.length ao]) (t := 24) ?hr ?_; (case hd => rfl); (case hg => rfl); (case hr => first | (go_simp; done) | (go_simp; rfl)); intro af hg w6 hbox hb; have ab := aa.mk (hbox); have bA := aa.mk ((by rw [hg]; exact (Qe (by repeat (first | (with_reducible first | exact HB.out | apply QU | apply QF | apply QL) | exact HB.out))) : w.heap.size ≤ af)); have bk := aa.mk ((by rw [hg]; exact (Qe (by repeat (first | (with_reducible first | exact HB.out | apply QU | apply QF | apply QL) | exact HB.out))) : w.heap.size ≤ af)); replace HB := aa.mk (Qd (by repeat (first | (with_reducible first | exact HB.out | apply QU | apply QF | apply QL) | exact HB.out)) hb); clear hb hbox hg))
        replace ab := aa.mk (Qh ab.out); replace HB := aa.mk (QL HB.out); have bS : 0 ≤ (0 : Int) := (by omega); have bR : 0 < (ae.length : Int) := of_decide_eq_true (by first | (with_reducible assumption) | assumption); obtain ⟨bX, eW, eV, eB, bh, cA, cB⟩ := ZH aI.out 0 bS bR; have dJ := bh; (try rw [show ((0 : Int)).toNat = 0 from rfl] at dJ)
        (try rw [show 0 * 1 = 0 from rfl] at dJ)
        (try rw [Addr.add_zero'] at dJ)
        cases eB; have rS : (0 < ae.length) = True := eq_true (by omega); (try rw [show ((0 : Int)).toNat = 0 from rfl] at bh)
        (try rw [Addr.add_zero'] at bh)
        replace bh := (HB.out.cell (World.block_lt_of_cell? w _ bh)).trans bh; have cL := aa.mk cB; have cR := aa.mk cA; clear cB cA; replace bS := eq_true bS; replace bR := eq_true bR; have cI : 0 ≤ (0 : Int) := (by omega); have cH : 0 < (ae.length : Int) := of_decide_eq_true (by first | (with_reducible assumption) | assumption); obtain ⟨bM, hH, g8, fW, aJ, dz, dA⟩ := ZH aI.out 0 cI cH; have bn := aJ; (try rw [show ((0 : Int)).toNat = 0 from rfl] at bn)
        (try rw [show 0 * 1 = 0 from rfl] at bn)
        (try rw [Addr.add_zero'] at bn)
        obtain rfl : bX = bM := (by injection fW); have nI : (0 < ae.length) = True := eq_true (by omega); (try rw [show ((0 : Int)).toNat = 0 from rfl] at aJ)
        (try rw [Addr.add_zero'] at aJ)
        replace aJ := (HB.out.cell (World.block_lt_of_cell? w _ aJ)).trans aJ; have fg := aa.mk dA; have ko := aa.mk dz; clear dA dz; replace cI := eq_true cI; replace cH := eq_true cH; have ea_ := Option.some.inj (bh.symm.trans aJ); injection ea_ with ea_ en_ ec_
        subst ea_; subst ec_; clear en_; refine Ym (n := 14) (S := fun w' => w'.cell? ⟨af, 0, none⟩ = some (.slice (some bX) ae.length an) ∧ w'.cell? ⟨af, 1, none⟩ = some (.slice ak ag.length ao) ∧ w'.cell? bX = some (.slice eW (Qt ae 0).length eV) ∧ w'.cell? bX = some (.slice eW (Qt ae 0).length eV)) (ds := []) #[false, false, false, false, false, false, false, false, false, false, false, false, false, false] (by kernel_rfl) rfl rfl ⟨(Qa ab.out 0).trans rfl, (Qa ab.out 1).trans rfl, ((HB.out.cell (World.block_lt_of_cell? w _ dJ)).trans dJ), ((HB.out.cell (World.block_lt_of_cell? w _ bn)).trans bn)⟩ (fun hHeld => ?_); refine ZT Qu.tab1 Qu.bits1 (fun HT_ HW_ => ?_); generalize w6.drew = w7 at ab HB cL fg bh aJ hHeld ⊢; refine QS (i := 0) (N := some 16) (v := ?_) (a' := ?_) #[true, false, false, false, false, false, false, false, false, false, false, false, false, false] rfl rfl (QI HT_.out (by kernel_rfl)) (fun _ _ _ h => h) (Or.inl ⟨by rfl, ?_⟩) ?_ ?_; rotate_left
        · intro w'; go_simp; with_reducible rfl
        rotate_left
        · simp only [Act.put, zA, zB, zC, Qw, Qx]; rfl
        refine QS (i := 6) (N := some 22) (v := ?_) (a' := ?_) #[true, false, false, false, false, false, true, false, false, false, false, false, false, false] rfl rfl (QI HT_.out (by kernel_rfl)) (fun _ _ _ h => h) (Or.inl ⟨by rfl, ?_⟩) ?_ ?_; rotate_left
        · intro w'; go_simp; with_reducible rfl
        rotate_left
        · simp only [Act.put, zA, zB, zC, Qw, Qx]; rfl
        refine Zy (i := 1) (N := some 17) (v := ?_) (a' := ?_) #[true, true, false, false, false, false, true, false, false, false, false, false, false, false] rfl rfl (Q4 HT_.out HW_.out (by kernel_rfl)) (fun _ _ _ h => h) (Or.inl ⟨by rfl, ?_⟩) hHeld ?_ ?_; rotate_left
        · rintro w' ⟨s0, s1, s2, s3⟩; go_simp; with_reducible rfl
        rotate_left
        · simp only [Act.put, zA, zB, zC, Qw, Qx]; rfl
        refine QS (i := 2) (N := some 18) (v := ?_) (a' := ?_) #[true, true, true, false, false, false, true, false, false, false, false, false, false, false] rfl rfl (QI HT_.out (by kernel_rfl)) (fun _ _ _ h => h) (Or.inl ⟨by rfl, ?_⟩) ?_ ?_; rotate_left
        · intro w'; go_simp; with_reducible rfl
        rotate_left
        · simp only [Act.put, zA, zB, zC, Qw, Qx]; rfl
        refine Zy (i := 3) (N := some 19) (v := ?_) (a' := ?_) #[true, true, true, true, false, false, true, false, false, false, false, false, false, false] rfl rfl (Q4 HT_.out HW_.out (by kernel_rfl)) (fun _ _ _ h => h) (Or.inl ⟨by rfl, ?_⟩) hHeld ?_ ?_; rotate_left
        · rintro w' ⟨s0, s1, s2, s3⟩; go_simp; with_reducible rfl
        rotate_left
        · simp only [Act.put, zA, zB, zC, Qw, Qx]; rfl
        refine QS (i := 4) (N := some 20) (v := ?_) (a' := ?_) #[true, true, true, true, true, false, true, false, false, false, false, false, false, false] rfl rfl (QI HT_.out (by kernel_rfl)) (fun _ _ _ h => h) (Or.inl ⟨by rfl, ?_⟩) ?_ ?_; rotate_left
        · intro w'; go_simp; with_reducible rfl
        rotate_left
        · simp only [Act.put, zA, zB, zC, Qw, Qx]; rfl
        refine Zy (i := 7) (N := some 23) (v := ?_) (a' := ?_) #[true, true, true, true, true, false, true, true, false, false, false, false, false, false] rfl rfl (Q4 HT_.out HW_.out (by kernel_rfl)) (fun _ _ _ h => h) (Or.inl ⟨by rfl, ?_⟩) hHeld ?_ ?_; rotate_left
        · rintro w' ⟨s0, s1, s2, s3⟩; go_simp; with_reducible rfl
        rotate_left
        · simp only [Act.put, zA, zB, zC, Qw, Qx]; rfl
        refine QS (i := 8) (N := some 24) (v := ?_) (a' := ?_) #[true, true, true, true, true, false, true, true, true, false, false, false, false, false] rfl rfl (QI HT_.out (by kernel_rfl)) (fun _ _ _ h => h) (Or.inl ⟨by rfl, ?_⟩) ?_ ?_; rotate_left
        · intro w'; go_simp; with_reducible rfl
        rotate_left
        · simp only [Act.put, zA, zB, zC, Qw, Qx]; rfl
        refine Zy (i := 9) (N := some 25) (v := ?_) (a' := ?_) #[true, true, true, true, true, false, true, true, true, true, false, false, false, false] rfl rfl (Q4 HT_.out HW_.out (by kernel_rfl)) (fun _ _ _ h => h) (Or.inl ⟨by rfl, ?_⟩) hHeld ?_ ?_; rotate_left
        · rintro w' ⟨s0, s1, s2, s3⟩; go_simp; with_reducible rfl
        rotate_left
        · simp only [Act.put, zA, zB, zC, Qw, Qx]; rfl
        refine QS (i := 10) (N := some 26) (v := ?_) (a' := ?_) #[true, true, true, true, true, false, true, true, true, true, true, false, false, false] rfl rfl (QI HT_.out (by kernel_rfl)) (fun _ _ _ h => h) (Or.inl ⟨by rfl, ?_⟩) ?_ ?_; rotate_left
        · intro w'; go_simp; with_reducible rfl
        rotate_left
        · simp only [Act.put, zA, zB, zC, Qw, Qx]; rfl
        refine join_ (σ := Value × Value) 1 #[true, true, true, true, true, true, true, true, true, true, true, true, true, false] (fun s_ => [(21, s_.1), (27, s_.2), (6, s_.1)]) (fun s_ w' => (w'.cell? ⟨af, 0, none⟩ = some (.slice (some bX) ae.length an) ∧ w'.cell? ⟨af, 1, none⟩ = some (.slice ak ag.length ao) ∧ w'.cell? bX = some (.slice eW (Qt ae 0).length eV) ∧ w'.cell? bX = some (.slice eW (Qt ae 0).length eV)) ∧ (Kd.R (Kd.int .i64) 3 w' w.heap.size (fun k_ => some k_ ≠ (s_.2 : Value).ownBlock) s_.1 eI) ∧ (Kd.R (Kd.int .i64) 3 w' w.heap.size (fun k_ => some k_ ≠ (s_.1 : Value).ownBlock) s_.2 jO) ∧ (w'.heap[af]? = some (.cells #[.slice (some bX) ae.length an, .slice ak ag.length ao] 24 (0, 0))) ∧ (Below w.heap.size w w')) ?_ ?_; rotate_left
        · intro hCont; refine two_ (i := 5) (j := 11) (Ni := some 21) (Nj := some 27) #[true, true, true, true, true, true, true, true, true, true, true, false, false, false] #[true, true, true, true, true, false, true, true, true, true, true, true, false, false] rfl rfl rfl rfl (two_of HT_.out (by kernel_rfl)) (by decide) (by decide) (fun K hK => ?_) (fun K hK => ?_)
          · skip
            refine Kd.YV (Kd.int .i64) _ 3 (by rfl) (N := 21) rfl 28 _ _ rfl ((Qt ae 0).length : Int) rfl rfl Try.underlying28 (.int .i64 0) 8 info3 rfl (by decide) (by omega) 0 (ok := fun _ => True) (okp := fun _ => True) rfl (fun _ hk => hk) trivial (of_decide_eq_true (by first | (with_reducible assumption) | assumption)) (Nat.le_trans (Nat.mul_le_mul_right _ (of_decide_eq_true (by first | (with_reducible assumption) | assumption) : ((Qt ae 0).length : Int).toNat ≤ 35184372088832)) (by omega)) (Below.refl _ _) (Nat.le_refl _) ?_; intro e6 w8 ho9 hb hg_ hnew_; clear hg_ hnew_; (first | rw [← kP.out] at ho9 | (simp only [Int.reduceToNat] at ho9; rw [← kP.out] at ho9))
            have aH := aa.mk (Kd.Zk ho9 (Qe (by repeat (first | (with_reducible first | exact HB.out | apply QU | apply QF | apply QL | refine Zl ?_ bk.out) | exact HB.out)))); replace ab := aa.mk (Qc (g := af) (o := .cells #[.slice (some bX) ae.length an, .slice ak ag.length ao] 24 (0, 0)) (by (with_reducible repeat (first | refine Qg ?_ _ | refine Qh ?_ | refine Qf ?_ _)); exact ab.out) hb); replace HB := aa.mk (Qd (by repeat (first | (with_reducible first | exact HB.out | apply QU | apply QF | apply QL | refine Zl ?_ bk.out) | exact HB.out)) hb); clear hb ho9; refine hK.out _ _ ⟨(Qa ab.out 0).trans rfl, (Qa ab.out 1).trans rfl, ((HB.out.cell (World.block_lt_of_cell? w _ dJ)).trans dJ), ((HB.out.cell (World.block_lt_of_cell? w _ bn)).trans bn)⟩ (fun hHeld => ?_); clear hK K; refine Ye (a' := ?_) ?_ ?_; rotate_left
            · show Act.put _ (some 21) _ = _
              simp only [Act.put, zA, zB, zC, Qw, Qx]; rfl
            refine QS (i := 12) (N := some 6) (v := ?_) (a' := ?_) #[true, true, true, true, true, true, true, true, true, true, true, false, true, false] rfl rfl (QI HT_.out (by kernel_rfl)) (fun _ _ _ h => h) (Or.inl ⟨by rfl, ?_⟩) ?_ ?_; rotate_left
            · intro w'; go_simp; with_reducible rfl
            rotate_left
            · simp only [Act.put, zA, zB, zC, Qw, Qx]; rfl
            refine one_ (i := 11) (N := some 27) #[true, true, true, true, true, true, true, true, true, true, true, true, true, false] rfl rfl (ZL HT_.out (by kernel_rfl)) (by decide) (fun K hK => ?_); refine Kd.YV (Kd.int .i64) _ 3 (by rfl) (N := 27) rfl 28 _ _ rfl ((Qt ae 0).length : Int) rfl rfl Try.underlying28 (.int .i64 0) 8 info3 rfl (by decide) (by omega) 0 (ok := fun _ => True) (okp := fun _ => True) rfl (fun _ hk => hk) trivial (of_decide_eq_true (by first | (with_reducible assumption) | assumption)) (Nat.le_trans (Nat.mul_le_mul_right _ (of_decide_eq_true (by first | (with_reducible assumption) | assumption) : ((Qt ae 0).length : Int).toNat ≤ 35184372088832)) (by omega)) (Below.refl _ _) (Nat.le_refl _) ?_; intro ec w10 fZ hb hg_ hnew_; clear hg_ hnew_; (first | rw [← lq.out] at fZ | (simp only [Int.reduceToNat] at fZ; rw [← lq.out] at fZ))
            have bs := aa.mk (Kd.Zk (Kd.ZQ fZ (Kd.R_lt (by (with_reducible repeat (first | apply Kd.R_alloc | apply Kd.R_drewN | apply Kd.Zb)); exact aH.out))) (Qe (by repeat (first | (with_reducible first | exact HB.out | apply QU | apply QF | apply QL | refine Zl ?_ bk.out) | exact HB.out)))); replace aH := aa.mk (Kd.Zp (by (with_reducible repeat (first | apply Kd.R_alloc | apply Kd.R_drewN | apply Kd.Zb)); exact aH.out) (Kd.Q9 fZ) hb); replace ab := aa.mk (Qc (g := af) (o := .cells #[.slice (some bX) ae.length an, .slice ak ag.length ao] 24 (0, 0)) (by (with_reducible repeat (first | refine Qg ?_ _ | refine Qh ?_ | refine Qf ?_ _)); exact ab.out) hb); replace HB := aa.mk (Qd (by repeat (first | (with_reducible first | exact HB.out | apply QU | apply QF | apply QL | refine Zl ?_ bk.out) | exact HB.out)) hb); clear hb fZ; refine hK.out _ _ ⟨(Qa ab.out 0).trans rfl, (Qa ab.out 1).trans rfl, ((HB.out.cell (World.block_lt_of_cell? w _ dJ)).trans dJ), ((HB.out.cell (World.block_lt_of_cell? w _ bn)).trans bn)⟩ (fun hHeld => ?_); clear hK K; refine Ye (a' := ?_) ?_ ?_; rotate_left
            · show Act.put _ (some 27) _ = _
              simp only [Act.put, zA, zB, zC, Qw, Qx]; rfl
            exact Ye (by simp only [putAll, Act.put, zA, zB, zC]) (hCont (e6, ec) _ ⟨hHeld, (by (with_reducible repeat (first | apply Kd.R_alloc | apply Kd.R_drewN | apply Kd.Zb)); exact Kd.Zm aH.out (fun _ hk => hk.2)), (by (with_reducible repeat (first | apply Kd.R_alloc | apply Kd.R_drewN | apply Kd.Zb)); exact Kd.Zm bs.out (fun _ hk => hk.2)), (by (with_reducible repeat (first | refine Qg ?_ _ | refine Qh ?_ | refine Qf ?_ _)); exact ab.out), (by repeat (first | (with_reducible first | exact HB.out | apply QU | apply QF | apply QL | refine Zl ?_ bk.out) | exact HB.out))⟩)
          · skip
            refine Kd.YV (Kd.int .i64) _ 3 (by rfl) (N := 27) rfl 28 _ _ rfl ((Qt ae 0).length : Int) rfl rfl Try.underlying28 (.int .i64 0) 8 info3 rfl (by decide) (by omega) 0 (ok := fun _ => True) (okp := fun _ => True) rfl (fun _ hk => hk) trivial (of_decide_eq_true (by first | (with_reducible assumption) | assumption)) (Nat.le_trans (Nat.mul_le_mul_right _ (of_decide_eq_true (by first | (with_reducible assumption) | assumption) : ((Qt ae 0).length : Int).toNat ≤ 35184372088832)) (by omega)) (Below.refl _ _) (Nat.le_refl _) ?_; intro ec w8 ho9 hb hg_ hnew_; clear hg_ hnew_; (first | rw [← lq.out] at ho9 | (simp only [Int.reduceToNat] at ho9; rw [← lq.out] at ho9))
            have bs := aa.mk (Kd.Zk ho9 (Qe (by repeat (first | (with_reducible first | exact HB.out | apply QU | apply QF | apply QL | refine Zl ?_ bk.out) | exact HB.out)))); replace ab := aa.mk (Qc (g := af) (o := .cells #[.slice (some bX) ae.length an, .slice ak ag.length ao] 24 (0, 0)) (by (with_reducible repeat (first | refine Qg ?_ _ | refine Qh ?_ | refine Qf ?_ _)); exact ab.out) hb); replace HB := aa.mk (Qd (by repeat (first | (with_reducible first | exact HB.out | apply QU | apply QF | apply QL | refine Zl ?_ bk.out) | exact HB.out)) hb); clear hb ho9; refine hK.out _ _ ⟨(Qa ab.out 0).trans rfl, (Qa ab.out 1).trans rfl, ((HB.out.cell (World.block_lt_of_cell? w _ dJ)).trans dJ), ((HB.out.cell (World.block_lt_of_cell? w _ bn)).trans bn)⟩ (fun hHeld => ?_); clear hK K; refine Ye (a' := ?_) ?_ ?_; rotate_left
            · show Act.put _ (some 27) _ = _
              simp only [Act.put, zA, zB, zC, Qw, Qx]; rfl
            refine one_ (i := 5) (N := some 21) #[true, true, true, true, true, true, true, true, true, true, true, true, false, false] rfl rfl (ZL HT_.out (by kernel_rfl)) (by decide) (fun K hK => ?_); refine Kd.YV (Kd.int .i64) _ 3 (by rfl) (N := 21) rfl 28 _ _ rfl ((Qt ae 0).length : Int) rfl rfl Try.underlying28 (.int .i64 0) 8 info3 rfl (by decide) (by omega) 0 (ok := fun _ => True) (okp := fun _ => True) rfl (fun _ hk => hk) trivial (of_decide_eq_true (by first | (with_reducible assumption) | assumption)) (Nat.le_trans (Nat.mul_le_mul_right _ (of_decide_eq_true (by first | (with_reducible assumption) | assumption) : ((Qt ae 0).length : Int).toNat ≤ 35184372088832)) (by omega)) (Below.refl _ _) (Nat.le_refl _) ?_; intro e6 w10 fZ hb hg_ hnew_; clear hg_ hnew_; (first | rw [← kP.out] at fZ | (simp only [Int.reduceToNat] at fZ; rw [← kP.out] at fZ))
            have aH := aa.mk (Kd.Zk (Kd.ZQ fZ (Kd.R_lt (by (with_reducible repeat (first | apply Kd.R_alloc | apply Kd.R_drewN | apply Kd.Zb)); exact bs.out))) (Qe (by repeat (first | (with_reducible first | exact HB.out | apply QU | apply QF | apply QL | refine Zl ?_ bk.out) | exact HB.out)))); replace bs := aa.mk (Kd.Zp (by (with_reducible repeat (first | apply Kd.R_alloc | apply Kd.R_drewN | apply Kd.Zb)); exact bs.out) (Kd.Q9 fZ) hb); replace ab := aa.mk (Qc (g := af) (o := .cells #[.slice (some bX) ae.length an, .slice ak ag.length ao] 24 (0, 0)) (by (with_reducible repeat (first | refine Qg ?_ _ | refine Qh ?_ | refine Qf ?_ _)); exact ab.out) hb); replace HB := aa.mk (Qd (by repeat (first | (with_reducible first | exact HB.out | apply QU | apply QF | apply QL | refine Zl ?_ bk.out) | exact HB.out)) hb); clear hb fZ; refine hK.out _ _ ⟨(Qa ab.out 0).trans rfl, (Qa ab.out 1).trans rfl, ((HB.out.cell (World.block_lt_of_cell? w _ dJ)).trans dJ), ((HB.out.cell (World.block_lt_of_cell? w _ bn)).trans bn)⟩ (fun hHeld => ?_); clear hK K; refine Ye (a' := ?_) ?_ ?_; rotate_left
            · show Act.put _ (some 21) _ = _
              simp only [Act.put, zA, zB, zC, Qw, Qx]; rfl
            refine QS (i := 12) (N := some 6) (v := ?_) (a' := ?_) #[true, true, true, true, true, true, true, true, true, true, true, true, true, false] rfl rfl (QI HT_.out (by kernel_rfl)) (fun _ _ _ h => h) (Or.inl ⟨by rfl, ?_⟩) ?_ ?_; rotate_left
            · intro w'; go_simp; with_reducible rfl
            rotate_left
            · simp only [Act.put, zA, zB, zC, Qw, Qx]; rfl
            exact Ye (by simp only [putAll, Act.put, zA, zB, zC]) (hCont (e6, ec) _ ⟨hHeld, (by (with_reducible repeat (first | apply Kd.R_alloc | apply Kd.R_drewN | apply Kd.Zb)); exact Kd.Zm aH.out (fun _ hk => hk.2)), (by (with_reducible repeat (first | apply Kd.R_alloc | apply Kd.R_drewN | apply Kd.Zb)); exact Kd.Zm bs.out (fun _ hk => hk.2)), (by (with_reducible repeat (first | refine Qg ?_ _ | refine Qh ?_ | refine Qf ?_ _)); exact ab.out), (by repeat (first | (with_reducible first | exact HB.out | apply QU | apply QF | apply QL | refine Zl ?_ bk.out) | exact HB.out))⟩)
        rintro ⟨e6, ec⟩ w12 ⟨hS_, h0_, h1_, h2_, h3_⟩; have n0_ : aa (Kd.R (Kd.int .i64) 3 w12 w.heap.size (fun k_ => some k_ ≠ (ec : Value).ownBlock) e6 eI) := ⟨h0_⟩; have n1_ : aa (Kd.R (Kd.int .i64) 3 w12 w.heap.size (fun k_ => some k_ ≠ (e6 : Value).ownBlock) ec jO) := ⟨h1_⟩; have n2_ : aa (w12.heap[af]? = some (.cells #[.slice (some bX) ae.length an, .slice ak ag.length ao] 24 (0, 0))) := ⟨h2_⟩; have n3_ : aa (Below w.heap.size w w12) := ⟨h3_⟩; clear ab; clear HB; clear h0_ h1_ h2_ h3_; have aH := n0_; have bs := n1_; have ab := n2_; have HB := n3_; clear n0_ n1_ n2_ n3_; have hHeld : w12.cell? ⟨af, 0, none⟩ = some (.slice (some bX) ae.length an) ∧ w12.cell? ⟨af, 1, none⟩ = some (.slice ak ag.length ao) ∧ w12.cell? bX = some (.slice eW (Qt ae 0).length eV) ∧ w12.cell? bX = some (.slice eW (Qt ae 0).length eV) := hS_; refine Ye (a' := ?_) ?_ ?_; rotate_left
        · simp only [putAll, Act.put, zA, zB, zC]; rfl
        refine QS (i := 13) (N := some 7) (v := ?_) (a' := ?_) #[true, true, true, true, true, true, true, true, true, true, true, true, true, true] rfl rfl (QI HT_.out (by kernel_rfl)) (fun _ _ _ h => h) (Or.inl ⟨by rfl, ?_⟩) ?_ ?_; rotate_left
        · intro w'; go_simp; with_reducible rfl
        rotate_left
        · simp only [Act.put, zA, zB, zC, Qw, Qx]; rfl
        refine YA (Yf HT_.out (by kernel_rfl)) ?_; have dZ : w12.cell? ⟨af, 0, none⟩ = some (.slice (some bX) ae.length an) := (Qa ab.out 0).trans rfl; have dY : w12.cell? ⟨af, 1, none⟩ = some (.slice ak ag.length ao) := (Qa ab.out 1).trans rfl; have dX := Qb ab.out 0; have dW := Qb ab.out 1; try go_wp2
        go_loopg [31] k (fun kq v31 w' => ∃ (k6 : List Int) (bU : Int), v31 = .int .i64 bU ∧ aa (Qu.l0 kq l1 k6 jO ae (ae.length : Int) bU ae ag = some (r1, r2)) ∧ aa (kq ≤ k) ∧ aa (Kd.R (Kd.int .i64) 3 w' w.heap.size (fun k_ => some k_ ≠ (ec : Value).ownBlock) e6 k6) ∧ aa (Kd.R (Kd.int .i64) 3 w' w.heap.size (fun k_ => some k_ ≠ (e6 : Value).ownBlock) ec jO) ∧ aa (w'.heap[af]? = some (.cells #[(.slice (some bX) ae.length an), (.slice ak ag.length ao)] 24 (0, 0))) ∧ aa (Below w.heap.size w w'))
        case atStart => exact ⟨(eI), (0), (by first | rfl | (simp; done) | (simp [*]; done)), H', ⟨Nat.le_refl _⟩, ⟨by (with_reducible repeat (first | apply Kd.R_alloc | apply Kd.R_drewN | apply Kd.Zb)); exact aH.out⟩, ⟨by (with_reducible repeat (first | apply Kd.R_alloc | apply Kd.R_drewN | apply Kd.Zb)); exact bs.out⟩, ⟨by (with_reducible repeat (first | refine Qg ?_ _ | refine Qh ?_ | refine Qf ?_ _)); exact ab.out⟩, ⟨by repeat (first | (with_reducible first | exact HB.out | apply QU | apply QF | apply QL | refine Zl ?_ bk.out) | exact HB.out)⟩⟩
        case round =>
          clear H'; try clear c1
          try clear p1
          try clear q1
          try clear hx1
          try clear qi1
          try clear p2
          try clear c3
          try clear cK
          try clear dD
          try clear c4
          try clear cn
          try clear eC
          try clear c5
          try clear fl
          try clear kJ
          try clear c8
          try clear c10
          try clear p10
          try clear q10
          try clear iO
          try clear lf
          try clear dZ
          try clear dY
          try clear dX
          try clear dW
          try clear bh
          try clear aJ
          try clear bS
          try clear cI
          try clear bR
          try clear cH
          obtain ⟨k6, bU, rfl, HA, HK1, fu, cQ, ab, HB⟩ := hrel; cases gk with
          | zero => exact absurd HA.out (by simp [Qu.l0])
          | succ k1 =>
            have H := HA.out; clear HA; simp only [Qu.l0] at H; by_cases c14 : bU < (ae.length : Int)
            · rw [if_pos c14] at H; have ij : decide (bU < (ae.length : Int)) = true := decide_eq_true c14; clear c14; by_cases c15 : 0 ≤ bU
              · rw [if_pos c15] at H; have ln : decide (0 ≤ bU) = true := decide_eq_true c15; clear c15; by_cases c16 : bU < (ae.length : Int)
                · rw [if_pos c16] at H; have ig : decide (bU < (ae.length : Int)) = true := decide_eq_true c16; clear c16; have H' := aa.mk H; clear H; have gG : 0 ≤ (bU : Int) := of_decide_eq_true (by first | (with_reducible assumption) | assumption); have gF : bU < (ae.length : Int) := of_decide_eq_true (by first | (with_reducible assumption) | assumption); obtain ⟨oF, ny, nt, nm, bW, ek, ev⟩ := ZH aI.out bU gG gF; obtain rfl : bX = oF := (by injection nm); replace bW := (HB.out.cell (World.block_lt_of_cell? w _ bW)).trans bW; have km := aa.mk ev; have mb := aa.mk ek; clear ev ek; replace gG := eq_true gG; replace gF := eq_true gF; go_wp2; go_loopg [38] k1 (fun kq v38 w' => ∃ (jt : List Int) (cx : Int), v38 = .int .i64 cx ∧ aa (Qu.l1 kq l1 jt jO bU ae (ae.length : Int) bU (Qt ae bU) ((Qt ae bU).length : Int) cx ae ag = some (r1, r2)) ∧ aa (kq ≤ k1) ∧ aa (Kd.R (Kd.int .i64) 3 w' w.heap.size (fun k_ => some k_ ≠ (ec : Value).ownBlock) e6 jt) ∧ aa (Kd.R (Kd.int .i64) 3 w' w.heap.size (fun k_ => some k_ ≠ (e6 : Value).ownBlock) ec jO) ∧ aa (w'.heap[af]? = some (.cells #[(.slice (some bX) ae.length an), (.slice ak ag.length ao)] 24 (0, 0))) ∧ aa (Below w.heap.size w w'))
                  case atStart => exact ⟨(k6), (0), (by first | rfl | (simp; done) | (simp [*]; done)), H', ⟨Nat.le_refl _⟩, ⟨by (with_reducible repeat (first | apply Kd.R_alloc | apply Kd.R_drewN | apply Kd.Zb)); exact fu.out⟩, ⟨by (with_reducible repeat (first | apply Kd.R_alloc | apply Kd.R_drewN | apply Kd.Zb)); exact cQ.out⟩, ⟨by (with_reducible repeat (first | refine Qg ?_ _ | refine Qh ?_ | refine Qf ?_ _)); exact ab.out⟩, ⟨by repeat (first | (with_reducible first | exact HB.out | apply QU | apply QF | apply QL | refine Zl ?_ bk.out) | exact HB.out)⟩⟩
                  case round =>
                    clear H'; try clear c1
                    try clear p1
                    try clear q1
                    try clear hx1
                    try clear qi1
                    try clear p2
                    try clear c3
                    try clear cK
                    try clear dD
                    try clear c4
                    try clear cn
                    try clear eC
                    try clear c5
                    try clear fl
                    try clear kJ
                    try clear c8
                    try clear c10
                    try clear p10
                    try clear q10
                    try clear iO
                    try clear lf
                    try clear c11
                    try clear p11
                    try clear q11
                    try clear sY
                    try clear c14
                    try clear ij
                    try clear c15
                    try clear ln
                    try clear c16
                    try clear ig
                    try clear dZ
                    try clear dY
                    try clear dX
                    try clear dW
                    try clear bh
                    try clear aJ
                    try clear bW
                    try clear p1
                    try clear p10
                    try clear bS
                    try clear cI
                    try clear gG
                    try clear p2
                    try clear q1
                    try clear q10
                    try clear bR
                    try clear cH
                    try clear gF
                    obtain ⟨jt, cx, rfl, HA, HK2, fu, cQ, ab, HB⟩ := hrel; cases gk with
                    | zero => exact absurd HA.out (by simp [Qu.l1])
                    | succ k2 =>
                      have H := HA.out; clear HA; simp only [Qu.l1] at H; by_cases c17 : cx < ((Qt ae bU).length : Int)
                      · rw [if_pos c17] at H; have ji : decide (cx < ((Qt ae bU).length : Int)) = true := decide_eq_true c17; clear c17; by_cases c18 : 0 ≤ cx
                        · rw [if_pos c18] at H; have mN : decide (0 ≤ cx) = true := decide_eq_true c18; clear c18; by_cases c19 : cx < ((Qt ae bU).length : Int)
                          · rw [if_pos c19] at H; have jh : decide (cx < ((Qt ae bU).length : Int)) = true := decide_eq_true c19; clear c19; by_cases c20 : cx < (jt.length : Int)
                            · rw [if_pos c20] at H; have mM : decide (cx < (jt.length : Int)) = true := decide_eq_true c20; clear c20; by_cases c21 : 0 ≤ bU
                              · rw [if_pos c21] at H; have kK : decide (0 ≤ bU) = true := decide_eq_true c21; clear c21; by_cases c22 : bU < (l1.length : Int)
                                · rw [if_pos c22] at H; have eD : decide (bU < (l1.length : Int)) = true := decide_eq_true c22; clear c22; obtain ⟨eT, dE⟩ : ∃ y_ : List Int, y_ = (jt.set (cx : Int).toNat (wrap64 ((rd jt cx) + (wrap64 ((rd l1 bU) * (rd (Qt ae bU) cx)))))) := ⟨_, rfl⟩; replace H : (Qu.l1 k2 l1 eT jO bU ae (ae.length : Int) bU (Qt ae bU) ((Qt ae bU).length : Int) (wrap64 (cx + 1)) ae ag) = some (r1, r2) := by first | (rw [dE]; with_reducible exact H) | (have H2_ := (Option.bind_some _ _).symm.trans H; rw [dE]; with_reducible exact H2_) | (have H2_ := (Option.bind_some _ _).symm.trans H; with_reducible exact H2_) | with_reducible exact H | (rw [dE]; exact H) | exact H
                                  have jI := aa.mk dE; clear dE; have H' := aa.mk H; clear H; have lI : 0 ≤ (cx : Int) := of_decide_eq_true (by first | (with_reducible assumption) | assumption); have lG : cx < ((Qt ae bU).length : Int) := of_decide_eq_true (by first | (with_reducible assumption) | assumption); obtain ⟨sA, tF, hP⟩ := Kd.Zi km.out cx lI lG; cases tF; replace hP := (HB.out.cell (World.block_lt_of_cell? w _ hP)).trans hP; replace lI := eq_true lI; replace lG := eq_true lG; try go_wp2
                                  replace fu := aa.mk (Kd.Zb fu.out); replace cQ := aa.mk (Kd.Zb cQ.out); replace ab := aa.mk (Qh ab.out); replace HB := aa.mk (QL HB.out); obtain ⟨DI, rG, rB⟩ := Kd.Zs fu.out; (first | subst rB | (injection rB with f1_ f2_ f3_; have f4_ := f1_.symm; have f5_ := f3_.symm; clear f1_ f2_ f3_; subst f4_; subst f5_))
                                  have lH : 0 ≤ (cx : Int) := of_decide_eq_true (by first | (with_reducible assumption) | assumption); have lF : cx < (jt.length : Int) := of_decide_eq_true (by first | (with_reducible assumption) | assumption); obtain ⟨xH, tE, gl⟩ := Kd.Zi (Kd.QW fu.out).2.2 cx lH lF; cases tE; replace lH := eq_true lH; replace lF := eq_true lF; have o9 : 0 ≤ (bU : Int) := of_decide_eq_true (by first | (with_reducible assumption) | assumption); have o8 : bU < (l1.length : Int) := of_decide_eq_true (by first | (with_reducible assumption) | assumption); obtain ⟨xG, Dk, gj⟩ := Kd.Zi HR1.out bU o9 o8; have nL := gj; cases Dk; replace gj := (HB.out.cell (World.block_lt_of_cell? w _ gj)).trans gj; replace o9 := eq_true o9; replace o8 := eq_true o8; have p23 : 0 ≤ (cx : Int) := of_decide_eq_true (by first | (with_reducible assumption) | assumption); have q23 : (cx : Int) < ((jt.length : Int) : Int) := of_decide_eq_true (by first | (with_reducible assumption) | assumption); obtain ⟨tt, jS, rD, wZ, CZ, FR, xU⟩ := Kd.UI fu.out (by omega); (first | cases rD | (injection rD with ea_ en_ ec_; (first | subst ea_ | (injection ea_ with ea_; subst ea_)); subst ec_; clear en_))
                                  have DE := aa.mk wZ; have DA := aa.mk xU; clear wZ CZ xU; (first | simp only [Yr] at gl | skip)
                                  obtain ⟨m7, tg⟩ := Kd.Uc 0 fu.out (cx : Int) p23 q23; replace p23 := eq_true p23; replace q23 := eq_true q23; have tN := Kd.R_putn fu.out (cx : Int) (wrap64 ((rd jt cx) + (wrap64 ((rd l1 bU) * (rd (Qt ae bU) cx))))); rw [← jI.out] at tN; have xO := aa.mk tN; clear tN; refine Ym (n := 13) (S := fun w' => w'.cell? ⟨tt, (cx).toNat, none⟩ = some (.int .i64 (rd jt cx)) ∧ w'.cell? (xG.add (bU).toNat) = some (.int .i64 (rd l1 bU))) (ds := [12]) #[false, false, false, false, false, false, false, false, false, false, false, false, false] (by kernel_rfl) rfl rfl ⟨gl, ((HB.out.cell (World.block_lt_of_cell? w _ nL)).trans nL)⟩ (fun hHeld => ?_); refine ZT Qu.tab8 Qu.bits8 (fun HT_ HW_ => ?_); generalize wr.drew = w24 at fu cQ ab HB DA xO tg gl gj m7 hHeld ⊢; refine QS (i := 0) (N := some 43) (v := ?_) (a' := ?_) #[true, false, false, false, false, false, false, false, false, false, false, false, false] rfl rfl (QI HT_.out (by kernel_rfl)) (fun _ _ _ h => h) (Or.inl ⟨by rfl, ?_⟩) ?_ ?_; rotate_left
                                  · intro w'; go_simp; with_reducible rfl
                                  rotate_left
                                  · simp only [Act.put, zA, zB, zC, Qw, Qx]; rfl
                                  refine QS (i := 1) (N := some 44) (v := ?_) (a' := ?_) #[true, true, false, false, false, false, false, false, false, false, false, false, false] rfl rfl (QI HT_.out (by kernel_rfl)) (fun _ _ _ h => h) (Or.inl ⟨by rfl, ?_⟩) ?_ ?_; rotate_left
                                  · intro w'; go_simp; with_reducible rfl
                                  rotate_left
                                  · simp only [Act.put, zA, zB, zC, Qw, Qx]; rfl
                                  refine QS (i := 2) (N := some 45) (v := ?_) (a' := ?_) #[true, true, true, false, false, false, false, false, false, false, false, false, false] rfl rfl (QI HT_.out (by kernel_rfl)) (fun _ _ _ h => h) (Or.inl ⟨by rfl, ?_⟩) ?_ ?_; rotate_left
                                  · intro w'; go_simp; with_reducible rfl
                                  rotate_left
                                  · simp only [Act.put, zA, zB, zC, Qw, Qx]; rfl
                                  refine QS (i := 4) (N := some 47) (v := ?_) (a' := ?_) #[true, true, true, false, true, false, false, false, false, false, false, false, false] rfl rfl (QI HT_.out (by kernel_rfl)) (fun _ _ _ h => h) (Or.inl ⟨by rfl, ?_⟩) ?_ ?_; rotate_left
                                  · intro w'; go_simp; with_reducible rfl
                                  rotate_left
                                  · simp only [Act.put, zA, zB, zC, Qw, Qx]; rfl
                                  refine QS (i := 5) (N := some 48) (v := ?_) (a' := ?_) #[true, true, true, false, true, true, false, false, false, false, false, false, false] rfl rfl (QI HT_.out (by kernel_rfl)) (fun _ _ _ h => h) (Or.inl ⟨by rfl, ?_⟩) ?_ ?_; rotate_left
                                  · intro w'; go_simp; with_reducible rfl
                                  rotate_left
                                  · simp only [Act.put, zA, zB, zC, Qw, Qx]; rfl
                                  refine QS (i := 6) (N := some 49) (v := ?_) (a' := ?_) #[true, true, true, false, true, true, true, false, false, false, false, false, false] rfl rfl (QI HT_.out (by kernel_rfl)) (fun _ _ _ h => h) (Or.inl ⟨by rfl, ?_⟩) ?_ ?_; rotate_left
                                  · intro w'; go_simp; with_reducible rfl
                                  rotate_left
                                  · simp only [Act.put, zA, zB, zC, Qw, Qx]; rfl
                                  refine QS (i := 8) (N := some 51) (v := ?_) (a' := ?_) #[true, true, true, false, true, true, true, false, true, false, false, false, false] rfl rfl (QI HT_.out (by kernel_rfl)) (fun _ _ _ h => h) (Or.inl ⟨by rfl, ?_⟩) ?_ ?_; rotate_left
                                  · intro w'; go_simp; with_reducible rfl
                                  rotate_left
                                  · simp only [Act.put, zA, zB, zC, Qw, Qx]; rfl
                                  refine Zy (i := 3) (N := some 46) (v := ?_) (a' := ?_) #[true, true, true, true, true, true, true, false, true, false, false, false, false] rfl rfl (Q4 HT_.out HW_.out (by kernel_rfl)) (fun _ _ _ h => h) (Or.inl ⟨by rfl, ?_⟩) hHeld ?_ ?_; rotate_left
                                  · rintro w' ⟨s0, s1⟩; go_simp; with_reducible rfl
                                  rotate_left
                                  · simp only [Act.put, zA, zB, zC, Qw, Qx]; rfl
                                  refine Zy (i := 7) (N := some 50) (v := ?_) (a' := ?_) #[true, true, true, true, true, true, true, true, true, false, false, false, false] rfl rfl (Q4 HT_.out HW_.out (by kernel_rfl)) (fun _ _ _ h => h) (Or.inl ⟨by rfl, ?_⟩) hHeld ?_ ?_; rotate_left
                                  · rintro w' ⟨s0, s1⟩; go_simp; with_reducible rfl
                                  rotate_left
                                  · simp only [Act.put, zA, zB, zC, Qw, Qx]; rfl
                                  refine QS (i := 9) (N := some 52) (v := ?_) (a' := ?_) #[true, true, true, true, true, true, true, true, true, true, false, false, false] rfl rfl (QI HT_.out (by kernel_rfl)) (fun _ _ _ h => h) (Or.inl ⟨by rfl, ?_⟩) ?_ ?_; rotate_left
                                  · intro w'; go_simp; with_reducible rfl
                                  rotate_left
                                  · simp only [Act.put, zA, zB, zC, Qw, Qx]; rfl
                                  refine QS (i := 10) (N := some 53) (v := ?_) (a' := ?_) #[true, true, true, true, true, true, true, true, true, true, true, false, false] rfl rfl (QI HT_.out (by kernel_rfl)) (fun _ _ _ h => h) (Or.inl ⟨by rfl, ?_⟩) ?_ ?_; rotate_left
                                  · intro w'; go_simp; with_reducible rfl
                                  rotate_left
                                  · simp only [Act.put, zA, zB, zC, Qw, Qx]; rfl
                                  refine QS (i := 11) (N := some 54) (v := ?_) (a' := ?_) #[true, true, true, true, true, true, true, true, true, true, true, true, false] rfl rfl (QI HT_.out (by kernel_rfl)) (fun _ _ _ h => h) (Or.inl ⟨by rfl, ?_⟩) ?_ ?_; rotate_left
                                  · intro w'; go_simp; with_reducible rfl
                                  rotate_left
                                  · simp only [Act.put, zA, zB, zC, Qw, Qx]; rfl
                                  refine last_ (i := 12) (N := none) #[true, true, true, true, true, true, true, true, true, true, true, true, true] rfl rfl (ZL HT_.out (by kernel_rfl)) (by decide) (fun K hK => ?_); refine Uk (w1 := ?_) (by rfl) rfl ?_ ?_; rotate_left
                                  · go_simp; rfl
                                  refine hK.out _ _ ?_; clear hK K; refine YA (Yf HT_.out (by kernel_rfl)) ?_; try go_wp2
                                  go_roundg k2
                                  case measure => have := HK1.out; have := HK2.out; omega
                                  case rel => exact ⟨(eT), (wrap64 (cx + 1)), (by first | rfl | (simp; done) | (simp [*]; done)), H', ⟨by have := HK1.out; have := HK2.out; omega⟩, ⟨by (with_reducible repeat (first | apply Kd.R_alloc | apply Kd.R_drewN | apply Kd.Zb)); exact xO.out⟩, ⟨by (with_reducible repeat (first | apply Kd.R_alloc | apply Kd.R_drewN | apply Kd.Zb)); exact Kd.Zm (Kd.R_far (p := ⟨tt, (cx : Int).toNat, none⟩) (Kd.Zm cQ.out (fun k_ hk => (⟨hk, fun e_ => hk (by rw [e_]; rfl)⟩ : _ ∧ k_ ≠ tt))) (fun _ hk => hk.2) (.int .i64 (wrap64 ((rd jt cx) + (wrap64 ((rd l1 bU) * (rd (Qt ae bU) cx))))))) (fun _ hk => hk.1)⟩, ⟨by (with_reducible repeat (first | refine Qg ?_ _ | refine Qh ?_ | refine Qf ?_ _)); refine ZR ?_ (by have h_ := Kd.R_ne fu.out ab.out (by decide); intro e_; exact h_ (by rw [e_]; rfl)) _; (with_reducible repeat (first | refine Qg ?_ _ | refine Qh ?_ | refine Qf ?_ _)); exact ab.out⟩, ⟨by repeat (first | (with_reducible first | exact HB.out | apply QU | apply QF | apply QL | refine Zl ?_ DE.out | refine Zl ?_ bk.out) | exact HB.out)⟩⟩
                                · rw [if_neg c22] at H; exact absurd H (by simp)
                              · rw [if_neg c21] at H; exact absurd H (by simp)
                            · rw [if_neg c20] at H; exact absurd H (by simp)
                          · rw [if_neg c19] at H; exact absurd H (by simp)
                        · rw [if_neg c18] at H; exact absurd H (by simp)
                      · rw [if_neg c17] at H; have ji : decide (cx < ((Qt ae bU).length : Int)) = false := decide_eq_false c17; clear c17; have H' := aa.mk H; clear H; go_wp2; go_roundg k2
                        case measure => have := HK1.out; have := HK2.out; omega
                        case rel => exact ⟨(jt), (wrap64 (bU + 1)), (by first | rfl | (simp; done) | (simp [*]; done)), H', ⟨by have := HK1.out; have := HK2.out; omega⟩, ⟨by (with_reducible repeat (first | apply Kd.R_alloc | apply Kd.R_drewN | apply Kd.Zb)); exact fu.out⟩, ⟨by (with_reducible repeat (first | apply Kd.R_alloc | apply Kd.R_drewN | apply Kd.Zb)); exact cQ.out⟩, ⟨by (with_reducible repeat (first | refine Qg ?_ _ | refine Qh ?_ | refine Qf ?_ _)); exact ab.out⟩, ⟨by repeat (first | (with_reducible first | exact HB.out | apply QU | apply QF | apply QL | refine Zl ?_ bk.out) | exact HB.out)⟩⟩
                · rw [if_neg c16] at H; exact absurd H (by simp)
              · rw [if_neg c15] at H; exact absurd H (by simp)
            · rw [if_neg c14] at H; have ij : decide (bU < (ae.length : Int)) = false := decide_eq_false c14; clear c14; have H' := aa.mk H; clear H; have ff : wr.cell? ⟨af, 0, none⟩ = some (.slice (some bX) ae.length an) := (Qa ab.out 0).trans rfl; have fe : wr.cell? ⟨af, 1, none⟩ = some (.slice ak ag.length ao) := (Qa ab.out 1).trans rfl; have fc := Qb ab.out 0; have fb := Qb ab.out 1; go_wp2; go_loopg [60] k1 (fun kq v60 w' => ∃ (bO : List Int) (cf : Int), v60 = .int .i64 cf ∧ aa (Qu.l2 kq l1 k6 bO ag (ag.length : Int) cf ae ag = some (r1, r2)) ∧ aa (kq ≤ k1) ∧ aa (Kd.R (Kd.int .i64) 3 w' w.heap.size (fun k_ => some k_ ≠ (ec : Value).ownBlock) e6 k6) ∧ aa (Kd.R (Kd.int .i64) 3 w' w.heap.size (fun k_ => some k_ ≠ (e6 : Value).ownBlock) ec bO) ∧ aa (w'.heap[af]? = some (.cells #[(.slice (some bX) ae.length an), (.slice ak ag.length ao)] 24 (0, 0))) ∧ aa (Below w.heap.size w w'))
              case atStart => exact ⟨(jO), (0), (by first | rfl | (simp; done) | (simp [*]; done)), H', ⟨Nat.le_refl _⟩, ⟨by (with_reducible repeat (first | apply Kd.R_alloc | apply Kd.R_drewN | apply Kd.Zb)); exact fu.out⟩, ⟨by (with_reducible repeat (first | apply Kd.R_alloc | apply Kd.R_drewN | apply Kd.Zb)); exact cQ.out⟩, ⟨by (with_reducible repeat (first | refine Qg ?_ _ | refine Qh ?_ | refine Qf ?_ _)); exact ab.out⟩, ⟨by repeat (first | (with_reducible first | exact HB.out | apply QU | apply QF | apply QL | refine Zl ?_ bk.out) | exact HB.out)⟩⟩
              case round =>
                clear H'; try clear c1
                try clear p1
                try clear q1
                try clear hx1
                try clear qi1
                try clear c2
                try clear p2
                try clear q2
                try clear hx2
                try clear hf2
                try clear c3
                try clear cK
                try clear dD
                try clear c4
                try clear cn
                try clear eC
                try clear c5
                try clear fl
                try clear kJ
                try clear p6
                try clear c8
                try clear c10
                try clear p10
                try clear q10
                try clear iO
                try clear lf
                try clear c11
                try clear p11
                try clear q11
                try clear sY
                try clear c14
                try clear ij
                try clear c15
                try clear ln
                try clear c16
                try clear ig
                try clear c17
                try clear ji
                try clear c18
                try clear mN
                try clear c19
                try clear jh
                try clear c20
                try clear mM
                try clear c21
                try clear kK
                try clear c22
                try clear eD
                try clear p23
                try clear q23
                try clear Bm
                try clear CQ
                try clear dZ
                try clear dY
                try clear ff
                try clear fe
                try clear dX
                try clear dW
                try clear fc
                try clear fb
                try clear bh
                try clear aJ
                try clear bW
                try clear hP
                try clear gl
                try clear gj
                try clear m7
                try clear p1
                try clear p10
                try clear bS
                try clear cI
                try clear p11
                try clear gG
                try clear lI
                try clear lH
                try clear o9
                try clear p2
                try clear p23
                try clear q1
                try clear q10
                try clear bR
                try clear cH
                try clear q11
                try clear gF
                try clear lG
                try clear lF
                try clear o8
                try clear q23
                obtain ⟨bO, cf, rfl, HA, HK2, fu, cQ, ab, HB⟩ := hrel; cases gk with
                | zero => exact absurd HA.out (by simp [Qu.l2])
                | succ k2 =>
                  have H := HA.out; clear HA; simp only [Qu.l2] at H; by_cases c28 : cf < (ag.length : Int)
                  · rw [if_pos c28] at H; have pG : decide (cf < (ag.length : Int)) = true := decide_eq_true c28; clear c28; by_cases c29 : 0 ≤ cf
                    · rw [if_pos c29] at H; have pF : decide (0 ≤ cf) = true := decide_eq_true c29; clear c29; by_cases c30 : cf < (ag.length : Int)
                      · rw [if_pos c30] at H; have sr : decide (cf < (ag.length : Int)) = true := decide_eq_true c30; clear c30; have H' := aa.mk H; clear H; have iu : 0 ≤ (cf : Int) := of_decide_eq_true (by first | (with_reducible assumption) | assumption); have ir : cf < (ag.length : Int) := of_decide_eq_true (by first | (with_reducible assumption) | assumption); obtain ⟨eY, kZ, lY, py, dI, fy, fB⟩ := ZH aW.out cf iu ir; cases py; replace dI := (HB.out.cell (World.block_lt_of_cell? w _ dI)).trans dI; have eO := aa.mk fB; have oL := aa.mk fy; clear fB fy; replace iu := eq_true iu; replace ir := eq_true ir; go_wp2; go_loopg [67] k2 (fun kq v67 w' => ∃ (im : List Int) (cd : Int), v67 = .int .i64 cd ∧ aa (Qu.l3 kq l1 k6 im cf ag (ag.length : Int) cf (Qt ag cf) ((Qt ag cf).length : Int) cd ae ag = some (r1, r2)) ∧ aa (kq ≤ k2) ∧ aa (Kd.R (Kd.int .i64) 3 w' w.heap.size (fun k_ => some k_ ≠ (ec : Value).ownBlock) e6 k6) ∧ aa (Kd.R (Kd.int .i64) 3 w' w.heap.size (fun k_ => some k_ ≠ (e6 : Value).ownBlock) ec im) ∧ aa (w'.heap[af]? = some (.cells #[(.slice (some bX) ae.length an), (.slice (some eY) ag.length ao)] 24 (0, 0))) ∧ aa (Below w.heap.size w w'))
                        case atStart => exact ⟨(bO), (0), (by first | rfl | (simp; done) | (simp [*]; done)), H', ⟨Nat.le_refl _⟩, ⟨by (with_reducible repeat (first | apply Kd.R_alloc | apply Kd.R_drewN | apply Kd.Zb)); exact fu.out⟩, ⟨by (with_reducible repeat (first | apply Kd.R_alloc | apply Kd.R_drewN | apply Kd.Zb)); exact cQ.out⟩, ⟨by (with_reducible repeat (first | refine Qg ?_ _ | refine Qh ?_ | refine Qf ?_ _)); exact ab.out⟩, ⟨by repeat (first | (with_reducible first | exact HB.out | apply QU | apply QF | apply QL | refine Zl ?_ bk.out) | exact HB.out)⟩⟩
                        case round =>
                          clear H'; try clear c1
                          try clear p1
                          try clear q1
                          try clear hx1
                          try clear qi1
                          try clear c2
                          try clear p2
                          try clear q2
                          try clear hx2
                          try clear hf2
                          try clear c3
                          try clear cK
                          try clear dD
                          try clear c4
                          try clear cn
                          try clear eC
                          try clear c5
                          try clear fl
                          try clear kJ
                          try clear p6
                          try clear c8
                          try clear c10
                          try clear p10
                          try clear q10
                          try clear iO
                          try clear lf
                          try clear c11
                          try clear p11
                          try clear q11
                          try clear sY
                          try clear c14
                          try clear ij
                          try clear c15
                          try clear ln
                          try clear c16
                          try clear ig
                          try clear c17
                          try clear ji
                          try clear c18
                          try clear mN
                          try clear c19
                          try clear jh
                          try clear c20
                          try clear mM
                          try clear c21
                          try clear kK
                          try clear c22
                          try clear eD
                          try clear p23
                          try clear q23
                          try clear Bm
                          try clear CQ
                          try clear c28
                          try clear pG
                          try clear c29
                          try clear pF
                          try clear c30
                          try clear sr
                          try clear dZ
                          try clear dY
                          try clear ff
                          try clear fe
                          try clear dX
                          try clear dW
                          try clear fc
                          try clear fb
                          try clear bh
                          try clear aJ
                          try clear bW
                          try clear hP
                          try clear gl
                          try clear gj
                          try clear dI
                          try clear m7
                          try clear p1
                          try clear p10
                          try clear bS
                          try clear cI
                          try clear p11
                          try clear gG
                          try clear lI
                          try clear lH
                          try clear o9
                          try clear iu
                          try clear p2
                          try clear p23
                          try clear p6
                          try clear q1
                          try clear q10
                          try clear bR
                          try clear cH
                          try clear q11
                          try clear gF
                          try clear lG
                          try clear lF
                          try clear o8
                          try clear ir
                          try clear q2
                          try clear q23
                          obtain ⟨im, cd, rfl, HA, HK3, fu, cQ, ab, HB⟩ := hrel; cases gk with
                          | zero => exact absurd HA.out (by simp [Qu.l3])
                          | succ k3 =>
                            have H := HA.out; clear HA; simp only [Qu.l3] at H; by_cases c31 : cd < ((Qt ag cf).length : Int)
                            · rw [if_pos c31] at H; have xy : decide (cd < ((Qt ag cf).length : Int)) = true := decide_eq_true c31; clear c31; by_cases c32 : 0 ≤ cd
                              · rw [if_pos c32] at H; have EW : decide (0 ≤ cd) = true := decide_eq_true c32; clear c32; by_cases c33 : cd < ((Qt ag cf).length : Int)
                                · rw [if_pos c33] at H; have sq : decide (cd < ((Qt ag cf).length : Int)) = true := decide_eq_true c33; clear c33; by_cases c34 : cd < (im.length : Int)
                                  · rw [if_pos c34] at H; have EV : decide (cd < (im.length : Int)) = true := decide_eq_true c34; clear c34; obtain ⟨ic, pb⟩ : ∃ j_ : Int, (wrap64 ((ae.length : Int) + cf)) = j_ := ⟨_, rfl⟩; replace H : (if 0 ≤ (ic) then (if (ic) < (l1.length : Int) then (Qu.l3 k3 l1 k6 (im.set (cd : Int).toNat (wrap64 ((rd im cd) + (wrap64 ((rd l1 (ic)) * (rd (Qt ag cf) cd)))))) cf ag (ag.length : Int) cf (Qt ag cf) ((Qt ag cf).length : Int) (wrap64 (cd + 1)) ae ag) else (none)) else (none)) = some (r1, r2) := by first | (rw [pb] at H; exact H) | (simp only [pb] at H ⊢; exact H)
                                    have CF : (IntKind.i64.wrap ((ae.length : Int) + cf)) = ic := (Qw _).trans pb; by_cases c36 : 0 ≤ (ic)
                                    · rw [if_pos c36] at H; have EU : decide (0 ≤ (ic)) = true := decide_eq_true c36; clear c36; by_cases c37 : (ic) < (l1.length : Int)
                                      · rw [if_pos c37] at H; have ET : decide ((ic) < (l1.length : Int)) = true := decide_eq_true c37; clear c37; obtain ⟨oY, gK⟩ : ∃ y_ : List Int, y_ = (im.set (cd : Int).toNat (wrap64 ((rd im cd) + (wrap64 ((rd l1 (ic)) * (rd (Qt ag cf) cd)))))) := ⟨_, rfl⟩; replace H : (Qu.l3 k3 l1 k6 oY cf ag (ag.length : Int) cf (Qt ag cf) ((Qt ag cf).length : Int) (wrap64 (cd + 1)) ae ag) = some (r1, r2) := by first | (rw [gK]; with_reducible exact H) | (have H2_ := (Option.bind_some _ _).symm.trans H; rw [gK]; with_reducible exact H2_) | (have H2_ := (Option.bind_some _ _).symm.trans H; with_reducible exact H2_) | with_reducible exact H | (rw [gK]; exact H) | exact H
                                        have oG := aa.mk gK; clear gK; have H' := aa.mk H; clear H; have iL : 0 ≤ (cd : Int) := of_decide_eq_true (by first | (with_reducible assumption) | assumption); have iJ : cd < ((Qt ag cf).length : Int) := of_decide_eq_true (by first | (with_reducible assumption) | assumption); obtain ⟨jG, px, da⟩ := Kd.Zi eO.out cd iL iJ; cases px; replace da := (HB.out.cell (World.block_lt_of_cell? w _ da)).trans da; replace iL := eq_true iL; replace iJ := eq_true iJ; try go_wp2
                                        replace fu := aa.mk (Kd.Zb fu.out); replace cQ := aa.mk (Kd.Zb cQ.out); replace ab := aa.mk (Qh ab.out); replace HB := aa.mk (QL HB.out); obtain ⟨yc, xc, rA⟩ := Kd.Zs cQ.out; (first | subst rA | (injection rA with f1_ f2_ f3_; have f4_ := f1_.symm; have f5_ := f3_.symm; clear f1_ f2_ f3_; subst f4_; subst f5_))
                                        have fj : 0 ≤ (cd : Int) := of_decide_eq_true (by first | (with_reducible assumption) | assumption); have fi : cd < (im.length : Int) := of_decide_eq_true (by first | (with_reducible assumption) | assumption); obtain ⟨jF, lU, dx⟩ := Kd.Zi (Kd.QW cQ.out).2.2 cd fj fi; cases lU; replace fj := eq_true fj; replace fi := eq_true fi; have jv : 0 ≤ ((ic) : Int) := of_decide_eq_true (by first | (with_reducible assumption) | assumption); have ju : (ic) < (l1.length : Int) := of_decide_eq_true (by first | (with_reducible assumption) | assumption); obtain ⟨mS, pw, ei⟩ := Kd.Zi HR1.out (ic) jv ju; have nK := ei; cases pw; replace ei := (HB.out.cell (World.block_lt_of_cell? w _ ei)).trans ei; replace jv := eq_true jv; replace ju := eq_true ju; have p38 : 0 ≤ (cd : Int) := of_decide_eq_true (by first | (with_reducible assumption) | assumption); have q38 : (cd : Int) < ((im.length : Int) : Int) := of_decide_eq_true (by first | (with_reducible assumption) | assumption); obtain ⟨tr, FM, xa, wX, CX, FP, xR⟩ := Kd.UI cQ.out (by omega); (first | cases xa | (injection xa with ea_ en_ ec_; (first | subst ea_ | (injection ea_ with ea_; subst ea_)); subst ec_; clear en_))
                                        have DC := aa.mk wX; have Dz := aa.mk xR; clear wX CX xR; (first | simp only [Yr] at dx | skip)
                                        obtain ⟨sX, tf⟩ := Kd.Uc 0 cQ.out (cd : Int) p38 q38; replace p38 := eq_true p38; replace q38 := eq_true q38; have tM := Kd.R_putn cQ.out (cd : Int) (wrap64 ((rd im cd) + (wrap64 ((rd l1 (ic)) * (rd (Qt ag cf) cd))))); rw [← oG.out] at tM; have xN := aa.mk tM; clear tM; refine Ym (n := 17) (S := fun w' => w'.cell? ⟨af, 0, none⟩ = some (.slice (some bX) ae.length an) ∧ w'.cell? ⟨af, 1, none⟩ = some (.slice (some eY) ag.length ao) ∧ w'.cell? ⟨tr, (cd).toNat, none⟩ = some (.int .i64 (rd im cd)) ∧ w'.cell? (mS.add ((ic)).toNat) = some (.int .i64 (rd l1 (ic)))) (ds := [16]) #[false, false, false, false, false, false, false, false, false, false, false, false, false, false, false, false, false] (by kernel_rfl) rfl rfl ⟨(Qa ab.out 0).trans rfl, (Qa ab.out 1).trans rfl, dx, ((HB.out.cell (World.block_lt_of_cell? w _ nK)).trans nK)⟩ (fun hHeld => ?_); refine ZT Qu.tab17 Qu.bits17 (fun HT_ HW_ => ?_); generalize wr.drew = w39 at fu cQ ab HB Dz xN tf dx ei sX hHeld ⊢; refine QS (i := 0) (N := some 72) (v := ?_) (a' := ?_) #[true, false, false, false, false, false, false, false, false, false, false, false, false, false, false, false, false] rfl rfl (QI HT_.out (by kernel_rfl)) (fun _ _ _ h => h) (Or.inl ⟨by rfl, ?_⟩) ?_ ?_; rotate_left
                                        · intro w'; go_simp; with_reducible rfl
                                        rotate_left
                                        · simp only [Act.put, zA, zB, zC, Qw, Qx]; rfl
                                        refine QS (i := 1) (N := some 73) (v := ?_) (a' := ?_) #[true, true, false, false, false, false, false, false, false, false, false, false, false, false, false, false, false] rfl rfl (QI HT_.out (by kernel_rfl)) (fun _ _ _ h => h) (Or.inl ⟨by rfl, ?_⟩) ?_ ?_; rotate_left
                                        · intro w'; go_simp; with_reducible rfl
                                        rotate_left
                                        · simp only [Act.put, zA, zB, zC, Qw, Qx]; rfl
                                        refine QS (i := 2) (N := some 74) (v := ?_) (a' := ?_) #[true, true, true, false, false, false, false, false, false, false, false, false, false, false, false, false, false] rfl rfl (QI HT_.out (by kernel_rfl)) (fun _ _ _ h => h) (Or.inl ⟨by rfl, ?_⟩) ?_ ?_; rotate_left
                                        · intro w'; go_simp; with_reducible rfl
                                        rotate_left
                                        · simp only [Act.put, zA, zB, zC, Qw, Qx]; rfl
                                        refine QS (i := 4) (N := some 76) (v := ?_) (a' := ?_) #[true, true, true, false, true, false, false, false, false, false, false, false, false, false, false, false, false] rfl rfl (QI HT_.out (by kernel_rfl)) (fun _ _ _ h => h) (Or.inl ⟨by rfl, ?_⟩) ?_ ?_; rotate_left
                                        · intro w'; go_simp; with_reducible rfl
                                        rotate_left
                                        · simp only [Act.put, zA, zB, zC, Qw, Qx]; rfl
                                        refine QS (i := 5) (N := some 77) (v := ?_) (a' := ?_) #[true, true, true, false, true, true, false, false, false, false, false, false, false, false, false, false, false] rfl rfl (QI HT_.out (by kernel_rfl)) (fun _ _ _ h => h) (Or.inl ⟨by rfl, ?_⟩) ?_ ?_; rotate_left
                                        · intro w'; go_simp; with_reducible rfl
                                        rotate_left
                                        · simp only [Act.put, zA, zB, zC, Qw, Qx]; rfl
                                        refine QS (i := 8) (N := some 80) (v := ?_) (a' := ?_) #[true, true, true, false, true, true, false, false, true, false, false, false, false, false, false, false, false] rfl rfl (QI HT_.out (by kernel_rfl)) (fun _ _ _ h => h) (Or.inl ⟨by rfl, ?_⟩) ?_ ?_; rotate_left
                                        · intro w'; go_simp; with_reducible rfl
                                        rotate_left
                                        · simp only [Act.put, zA, zB, zC, Qw, Qx]; rfl
                                        refine QS (i := 12) (N := some 84) (v := ?_) (a' := ?_) #[true, true, true, false, true, true, false, false, true, false, false, false, true, false, false, false, false] rfl rfl (QI HT_.out (by kernel_rfl)) (fun _ _ _ h => h) (Or.inl ⟨by rfl, ?_⟩) ?_ ?_; rotate_left
                                        · intro w'; go_simp; with_reducible rfl
                                        rotate_left
                                        · simp only [Act.put, zA, zB, zC, Qw, Qx]; rfl
                                        refine Zy (i := 3) (N := some 75) (v := ?_) (a' := ?_) #[true, true, true, true, true, true, false, false, true, false, false, false, true, false, false, false, false] rfl rfl (Q4 HT_.out HW_.out (by kernel_rfl)) (fun _ _ _ h => h) (Or.inl ⟨by rfl, ?_⟩) hHeld ?_ ?_; rotate_left
                                        · rintro w' ⟨s0, s1, s2, s3⟩; go_simp; with_reducible rfl
                                        rotate_left
                                        · simp only [Act.put, zA, zB, zC, Qw, Qx]; rfl
                                        refine Zy (i := 6) (N := some 78) (v := ?_) (a' := ?_) #[true, true, true, true, true, true, true, false, true, false, false, false, true, false, false, false, false] rfl rfl (Q4 HT_.out HW_.out (by kernel_rfl)) (fun _ _ _ h => h) (Or.inl ⟨by rfl, ?_⟩) hHeld ?_ ?_; rotate_left
                                        · rintro w' ⟨s0, s1, s2, s3⟩; go_simp; with_reducible rfl
                                        rotate_left
                                        · simp only [Act.put, zA, zB, zC, Qw, Qx]; rfl
                                        refine QS (i := 7) (N := some 79) (v := ?_) (a' := ?_) #[true, true, true, true, true, true, true, true, true, false, false, false, true, false, false, false, false] rfl rfl (QI HT_.out (by kernel_rfl)) (fun _ _ _ h => h) (Or.inl ⟨by rfl, ?_⟩) ?_ ?_; rotate_left
                                        · intro w'; go_simp; with_reducible rfl
                                        rotate_left
                                        · simp only [Act.put, zA, zB, zC, Qw, Qx]; rfl
                                        refine QS (i := 9) (N := some 81) (v := ?_) (a' := ?_) #[true, true, true, true, true, true, true, true, true, true, false, false, true, false, false, false, false] rfl rfl (QI HT_.out (by kernel_rfl)) (fun _ _ _ h => h) (Or.inl ⟨by rfl, ?_⟩) ?_ ?_; rotate_left
                                        · intro w'; go_simp; with_reducible rfl
                                        rotate_left
                                        · simp only [Act.put, zA, zB, zC, Qw, Qx]; rfl
                                        refine QS (i := 10) (N := some 82) (v := ?_) (a' := ?_) #[true, true, true, true, true, true, true, true, true, true, true, false, true, false, false, false, false] rfl rfl (QI HT_.out (by kernel_rfl)) (fun _ _ _ h => h) (Or.inl ⟨by rfl, ?_⟩) ?_ ?_; rotate_left
                                        · intro w'; go_simp; with_reducible rfl
                                        rotate_left
                                        · simp only [Act.put, zA, zB, zC, Qw, Qx]; rfl
                                        refine Zy (i := 11) (N := some 83) (v := ?_) (a' := ?_) #[true, true, true, true, true, true, true, true, true, true, true, true, true, false, false, false, false] rfl rfl (Q4 HT_.out HW_.out (by kernel_rfl)) (fun _ _ _ h => h) (Or.inl ⟨by rfl, ?_⟩) hHeld ?_ ?_; rotate_left
                                        · rintro w' ⟨s0, s1, s2, s3⟩; go_simp; with_reducible rfl
                                        rotate_left
                                        · simp only [Act.put, zA, zB, zC, Qw, Qx]; rfl
                                        refine QS (i := 13) (N := some 85) (v := ?_) (a' := ?_) #[true, true, true, true, true, true, true, true, true, true, true, true, true, true, false, false, false] rfl rfl (QI HT_.out (by kernel_rfl)) (fun _ _ _ h => h) (Or.inl ⟨by rfl, ?_⟩) ?_ ?_; rotate_left
                                        · intro w'; go_simp; with_reducible rfl
                                        rotate_left
                                        · simp only [Act.put, zA, zB, zC, Qw, Qx]; rfl
                                        refine QS (i := 14) (N := some 86) (v := ?_) (a' := ?_) #[true, true, true, true, true, true, true, true, true, true, true, true, true, true, true, false, false] rfl rfl (QI HT_.out (by kernel_rfl)) (fun _ _ _ h => h) (Or.inl ⟨by rfl, ?_⟩) ?_ ?_; rotate_left
                                        · intro w'; go_simp; with_reducible rfl
                                        rotate_left
                                        · simp only [Act.put, zA, zB, zC, Qw, Qx]; rfl
                                        refine QS (i := 15) (N := some 87) (v := ?_) (a' := ?_) #[true, true, true, true, true, true, true, true, true, true, true, true, true, true, true, true, false] rfl rfl (QI HT_.out (by kernel_rfl)) (fun _ _ _ h => h) (Or.inl ⟨by rfl, ?_⟩) ?_ ?_; rotate_left
                                        · intro w'; go_simp; with_reducible rfl
                                        rotate_left
                                        · simp only [Act.put, zA, zB, zC, Qw, Qx]; rfl
                                        refine last_ (i := 16) (N := none) #[true, true, true, true, true, true, true, true, true, true, true, true, true, true, true, true, true] rfl rfl (ZL HT_.out (by kernel_rfl)) (by decide) (fun K hK => ?_); refine Uk (w1 := ?_) (by rfl) rfl ?_ ?_; rotate_left
                                        · go_simp; rfl
                                        refine hK.out _ _ ?_; clear hK K; refine YA (Yf HT_.out (by kernel_rfl)) ?_; try go_wp2
                                        go_roundg k3
                                        case measure => have := HK1.out; have := HK2.out; have := HK3.out; omega
                                        case rel => exact ⟨(oY), (wrap64 (cd + 1)), (by first | rfl | (simp; done) | (simp [*]; done)), H', ⟨by have := HK1.out; have := HK2.out; have := HK3.out; omega⟩, ⟨by (with_reducible repeat (first | apply Kd.R_alloc | apply Kd.R_drewN | apply Kd.Zb)); exact Kd.Zm (Kd.R_far (p := ⟨tr, (cd : Int).toNat, none⟩) (Kd.Zm fu.out (fun k_ hk => (⟨hk, fun e_ => hk (by rw [e_]; rfl)⟩ : _ ∧ k_ ≠ tr))) (fun _ hk => hk.2) (.int .i64 (wrap64 ((rd im cd) + (wrap64 ((rd l1 (ic)) * (rd (Qt ag cf) cd))))))) (fun _ hk => hk.1)⟩, ⟨by (with_reducible repeat (first | apply Kd.R_alloc | apply Kd.R_drewN | apply Kd.Zb)); exact xN.out⟩, ⟨by (with_reducible repeat (first | refine Qg ?_ _ | refine Qh ?_ | refine Qf ?_ _)); refine ZR ?_ (by have h_ := Kd.R_ne cQ.out ab.out (by decide); intro e_; exact h_ (by rw [e_]; rfl)) _; (with_reducible repeat (first | refine Qg ?_ _ | refine Qh ?_ | refine Qf ?_ _)); exact ab.out⟩, ⟨by repeat (first | (with_reducible first | exact HB.out | apply QU | apply QF | apply QL | refine Zl ?_ DC.out | refine Zl ?_ bk.out) | exact HB.out)⟩⟩
                                      · rw [if_neg c37] at H; exact absurd H (by simp)
                                    · rw [if_neg c36] at H; exact absurd H (by simp)
                                  · rw [if_neg c34] at H; exact absurd H (by simp)
                                · rw [if_neg c33] at H; exact absurd H (by simp)
                              · rw [if_neg c32] at H; exact absurd H (by simp)
                            · rw [if_neg c31] at H; have xy : decide (cd < ((Qt ag cf).length : Int)) = false := decide_eq_false c31; clear c31; have H' := aa.mk H; clear H; go_wp2; go_roundg k3
                              case measure => have := HK1.out; have := HK2.out; have := HK3.out; omega
                              case rel => exact ⟨(im), (wrap64 (cf + 1)), (by first | rfl | (simp; done) | (simp [*]; done)), H', ⟨by have := HK1.out; have := HK2.out; have := HK3.out; omega⟩, ⟨by (with_reducible repeat (first | apply Kd.R_alloc | apply Kd.R_drewN | apply Kd.Zb)); exact fu.out⟩, ⟨by (with_reducible repeat (first | apply Kd.R_alloc | apply Kd.R_drewN | apply Kd.Zb)); exact cQ.out⟩, ⟨by (with_reducible repeat (first | refine Qg ?_ _ | refine Qh ?_ | refine Qf ?_ _)); exact ab.out⟩, ⟨by repeat (first | (with_reducible first | exact HB.out | apply QU | apply QF | apply QL | refine Zl ?_ bk.out) | exact HB.out)⟩⟩
                      · rw [if_neg c30] at H; exact absurd H (by simp)
                    · rw [if_neg c29] at H; exact absurd H (by simp)
                  · rw [if_neg c28] at H; have pG : decide (cf < (ag.length : Int)) = false := decide_eq_false c28; clear c28; simp only [Option.some.injEq, Prod.mk.injEq] at H; obtain ⟨rfl, rfl⟩ := H; go_wp2; go_ret2; exact ⟨_, _, by first | rfl | (simp [Qo, Qn] <;> rfl) | (simp [*, Qo, Qn] <;> rfl), by (with_reducible repeat (first | apply Kd.R_alloc | apply Kd.R_drewN | apply Kd.Zb)); exact fu.out, by (with_reducible repeat (first | apply Kd.R_alloc | apply Kd.R_drewN | apply Kd.Zb)); exact cQ.out, by repeat (first | (with_reducible first | exact HB.out | apply QU | apply QF | apply QL | refine Zl ?_ bk.out) | exact HB.out)⟩
      · rw [if_neg c5] at H; exact absurd H (by simp)
    · rw [if_neg c4] at H; exact absurd H (by simp)
  · rw [if_neg c3] at H; exact absurd H (by simp)
def Zj.f (k : Nat) (ae : List (List Int)) (ag : List (List Int)) (l1 : List Int) : Option (Bool) := (Qu.f k ae ag l1).bind fun mQ => ((QM.f k mQ.1 mQ.2).bind fun t108 => (some t108))
theorem Zj.mono : ∀ a0 a1 a2 k, LeO (Zj.f k a0 a1 a2) (Zj.f (k + 1) a0 a1 a2) := by
 intro a0 a1 a2 k; unfold Zj.f; repeat' first | (with_reducible exact QM.mono _ _ _) | (with_reducible exact Qu.mono _ _ _ _) | (with_reducible exact LeO.refl _) | (with_reducible exact LeO.none _) | (with_reducible refine LeO.ite ?_ ?_) | (with_reducible refine LeO.bind ?_ (fun _ => ?_)) | exact QM.mono _ _ _ | exact Qu.mono _ _ _ _ | exact LeO.none _ | refine LeO.ite ?_ ?_ | refine LeO.bind ?_ (fun _ => ?_)
set_option maxHeartbeats 8000000 in
set_option maxRecDepth 100000 in
theorem Zj.calls (k : Nat) (aq : Option Addr) (an : Nat) (ae : List (List Int)) (ak : Option Addr) (ao : Nat) (ag : List (List Int)) (A1 : Option Addr) (c1 : Nat) (l1 : List Int) (r : Bool) (w : World) (bp : Kd.C (Kd.slice 3 (Kd.int .i64)) w aq ae.length ae) (br : ae.length ≤ an) (bo : Kd.C (Kd.slice 3 (Kd.int .i64)) w ak ag.length ag) (bq : ag.length ≤ ao) (hr1 : Kd.C (Kd.int .i64) w A1 l1.length l1) (hc1 : l1.length ≤ c1) (h : Zj.f k ae ag l1 = some r) :
  Calls Try.prog 95 #[.agg #[.slice aq ae.length an, .slice ak ag.length ao], .slice A1 l1.length c1] w fun e w' => e = .returned (.bool r) ∧ Below w.heap.size w w' := by
 have fa := Try.underlying24; have aI := aa.mk bp; have aQ := aa.mk br; clear bp br; have aW := aa.mk bo; have aT := aa.mk bq; clear bo bq; have HR1 := aa.mk hr1; have HC1 := aa.mk hc1; clear hr1 hc1; have HB := aa.mk (Below.refl w.heap.size w); have H : ((Qu.f k ae ag l1).bind fun mQ => ((QM.f k mQ.1 mQ.2).bind fun t108 => (some t108))) = some r := h; clear h; replace H := Option.bind_eq_some_iff.mp H; obtain ⟨⟨t102, t105⟩, A30, H⟩ := H; replace H : ((QM.f k t102 t105).bind fun t108 => (some t108)) = some r := H; have A3 := aa.mk A30; clear A30; replace H := Option.bind_eq_some_iff.mp H; obtain ⟨t108, A40, H⟩ := H; replace H : (some t108) = some r := H; have A4 := aa.mk A40; clear A40; obtain rfl := Option.some.inj H; go_enter Try.func95, Try.ntmps95; go_wp2_with (first | ((with_reducible refine QD (N := 2) rfl ?_); refine QJ ?hg (N := 2) ?hd (cs := #[.slice aq ae.length an, .slice ak ag.length ao]) (t := 24) ?hr ?_; (case hd => rfl); (case hg => rfl); (case hr => first | (go_simp; done) | (go_simp; rfl)); intro af hg w5 hbox hb; have ab := aa.mk (hbox); have bA := aa.mk ((by rw [hg]; exact (Qe bB) : w.heap.size ≤ af)); have bk := aa.mk ((by rw [hg]; exact (Qe bB) : w.heap.size ≤ af)); replace HB := aa.mk (Qd bB hb); clear hb hbox hg; have gU : w5.cell? ⟨af, 0, none⟩ = some (.slice aq ae.length an) := (Qa ab.out 0).trans rfl; have gT : w5.cell? ⟨af, 1, none⟩ = some (.slice ak ag.length ao) := (Qa ab.out 1).trans rfl; have gQ := Qb ab.out 0; have gP := Qb ab.out 1) | ((with_reducible refine Qk (f := 88) rfl ?_); refine QE (some 10) rfl rfl Try.func88 (by kernel_rfl) rfl #[.agg #[.slice aq ae.length an, .slice ak ag.length ao], .slice A1 l1.length c1] rfl hA ?_; (with_reducible refine (Qu.calls k _ _ ae _ _ ag _ _ l1 t102 t105 _ ?aj ?ai ?au ?ar ?bD ?bC A3.out).mono ?_); (case aj => exact (Kd.Ql aI.out HB.out)); (case ai => exact aQ.out); (case au => exact (Kd.Ql aW.out HB.out)); (case ar => exact aT.out); (case bD => exact (Kd.Ql HR1.out HB.out)); (case bC => exact HC1.out); rintro e w7 ⟨o0, p9, rfl, ho0, ho1, hb⟩; refine ⟨_, rfl, ?_⟩; have de := aa.mk (Kd.Zk ho0 (Qe bB)); have eS := aa.mk (Kd.Zk ho1 (Qe bB)); replace ab := aa.mk (Qc ab.out hb); replace HB := aa.mk (Qd bB hb); (try clear hb); (try clear hb2); (try clear hk); (try clear hi); (try clear ho0); (try clear ho1); obtain ⟨Ao8, co8, eo8⟩ := Kd.Zs de.out; subst eo8; obtain ⟨Ao9, co9, eo9⟩ := Kd.Zs eS.out; subst eo9) | ((with_reducible refine Qk (f := 122) rfl ?_); refine QE (some 15) rfl rfl Try.func122 (by kernel_rfl) rfl #[.slice Ao8 t102.length co8, .slice Ao9 t105.length co9] rfl hA ?_; (with_reducible refine (QM.calls k _ _ t102 _ _ t105 t108 _ ?aj ?ai ?au ?ar A4.out).mono ?_); (case aj => exact (Kd.QW de.out).2.2); (case ai => exact (Kd.QW de.out).2.1); (case au => exact (Kd.QW eS.out).2.2); (case ar => exact (Kd.QW eS.out).2.1); rintro e w' ⟨rfl, ⟨nd, rfl⟩⟩; refine ⟨_, rfl, ?_⟩))
 go_ret; exact ⟨by first | rfl | (simp [Qo, Qn] <;> rfl) | (simp [*, Qo, Qn] <;> rfl), bB⟩
def Zw.f (k : Nat) (ae : List (List Int)) (ag : List (List Int)) (l1 : List Int) (l2 : List Int) : Option (Int) := (ZF.f k ae ag l1).bind fun t102 => (if t102 = 0 then ((Zh.f l2 (ae.length : Int) 0 1000).bind fun t103 => (if t103 = true then ((Qr.f k l1).bind fun t104 => (if t104 ≤ 0 then (some 8) else ((Zj.f k ae ag l1).bind fun t105 => (if t105 = true then (some 0) else (some 8))))) else (some 1))) else (some t102))
theorem Zw.mono : ∀ a0 a1 a2 a3 k, LeO (Zw.f k a0 a1 a2 a3) (Zw.f (k + 1) a0 a1 a2 a3) := by
 intro a0 a1 a2 a3 k; unfold Zw.f; repeat' first | (with_reducible exact Qr.mono _ _) | (with_reducible exact Zj.mono _ _ _ _) | (with_reducible exact ZF.mono _ _ _ _) | (with_reducible exact LeO.refl _) | (with_reducible exact LeO.none _) | (with_reducible refine LeO.ite ?_ ?_) | (with_reducible refine LeO.bind ?_ (fun _ => ?_)) | exact Qr.mono _ _ | exact Zj.mono _ _ _ _ | exact ZF.mono _ _ _ _ | exact LeO.none _ | refine LeO.ite ?_ ?_ | refine LeO.bind ?_ (fun _ => ?_)
set_option maxHeartbeats 8000000 in
set_option maxRecDepth 100000 in
theorem Zw.calls (k : Nat) (aq : Option Addr) (an : Nat) (ae : List (List Int)) (ak : Option Addr) (ao : Nat) (ag : List (List Int)) (A1 : Option Addr) (c1 : Nat) (l1 : List Int) (A2 : Option Addr) (c2 : Nat) (l2 : List Int) (r : Int) (w : World) (bp : Kd.C (Kd.slice 3 (Kd.int .i64)) w aq ae.length ae) (br : ae.length ≤ an) (bo : Kd.C (Kd.slice 3 (Kd.int .i64)) w ak ag.length ag) (bq : ag.length ≤ ao) (hr1 : Kd.C (Kd.int .i64) w A1 l1.length l1) (hc1 : l1.length ≤ c1) (hr2 : Kd.C (Kd.int .i64) w A2 l2.length l2) (hc2 : l2.length ≤ c2) (h : Zw.f k ae ag l1 l2 = some r) :
  Calls Try.prog 89 #[.agg #[.slice aq ae.length an, .slice ak ag.length ao], .slice A1 l1.length c1, .slice A2 l2.length c2] w fun e w' => e = .returned (.int .i64 r) ∧ Below w.heap.size w w' := by
 have fa := Try.underlying24; have aI := aa.mk bp; have aQ := aa.mk br; clear bp br; have aW := aa.mk bo; have aT := aa.mk bq; clear bo bq; have HR1 := aa.mk hr1; have HC1 := aa.mk hc1; clear hr1 hc1; have HR2 := aa.mk hr2; have HC2 := aa.mk hc2; clear hr2 hc2; have HB := aa.mk (Below.refl w.heap.size w); have H : ((ZF.f k ae ag l1).bind fun t102 => (if t102 = 0 then ((Zh.f l2 (ae.length : Int) 0 1000).bind fun t103 => (if t103 = true then ((Qr.f k l1).bind fun t104 => (if t104 ≤ 0 then (some 8) else ((Zj.f k ae ag l1).bind fun t105 => (if t105 = true then (some 0) else (some 8))))) else (some 1))) else (some t102))) = some r := h; clear h; replace H := Option.bind_eq_some_iff.mp H; obtain ⟨t102, A40, H⟩ := H; replace H : (if t102 = 0 then ((Zh.f l2 (ae.length : Int) 0 1000).bind fun t103 => (if t103 = true then ((Qr.f k l1).bind fun t104 => (if t104 ≤ 0 then (some 8) else ((Zj.f k ae ag l1).bind fun t105 => (if t105 = true then (some 0) else (some 8))))) else (some 1))) else (some t102)) = some r := H; have A4 := aa.mk A40; clear A40; by_cases c5 : t102 = 0
 ·rw [if_pos c5] at H; have fl : (t102 == 0) = true := beq_iff_eq.mpr c5; have kJ : (t102 != 0) = false := bne_eq_false_iff_eq.mpr c5; clear c5; replace H := Option.bind_eq_some_iff.mp H; obtain ⟨t103, A60, H⟩ := H; replace H : (if t103 = true then ((Qr.f k l1).bind fun t104 => (if t104 ≤ 0 then (some 8) else ((Zj.f k ae ag l1).bind fun t105 => (if t105 = true then (some 0) else (some 8))))) else (some 1)) = some r := H; have A6 := aa.mk A60; clear A60; by_cases c7 : t103 = true
  ·subst c7; have H1 : ((Qr.f k l1).bind fun t104 => (if t104 ≤ 0 then (some 8) else ((Zj.f k ae ag l1).bind fun t105 => (if t105 = true then (some 0) else (some 8))))) = some r := by rw [if_pos rfl] at H; exact H
   clear H; have H := H1; clear H1; replace H := Option.bind_eq_some_iff.mp H; obtain ⟨t104, A80, H⟩ := H; replace H : (if t104 ≤ 0 then (some 8) else ((Zj.f k ae ag l1).bind fun t105 => (if t105 = true then (some 0) else (some 8)))) = some r := H; have A8 := aa.mk A80; clear A80; by_cases c9 : t104 ≤ 0
   ·rw [if_pos c9] at H; have ft : decide (t104 ≤ 0) = true := decide_eq_true c9; clear c9; obtain rfl := Option.some.inj H; go_enter Try.func89, Try.ntmps89; go_wp2_with (first | ((with_reducible refine QD (N := 3) rfl ?_); refine QJ ?hg (N := 3) ?hd (cs := #[.slice aq ae.length an, .slice ak ag.length ao]) (t := 24) ?hr ?_; (case hd => rfl); (case hg => rfl); (case hr => first | (go_simp; done) | (go_simp; rfl)); intro af hg w10 hbox hb; have ab := aa.mk (hbox); have bA := aa.mk ((by rw [hg]; exact (Qe bB) : w.heap.size ≤ af)); have bk := aa.mk ((by rw [hg]; exact (Qe bB) : w.heap.size ≤ af)); replace HB := aa.mk (Qd bB hb); clear hb hbox hg; have dN : w10.cell? ⟨af, 0, none⟩ = some (.slice aq ae.length an) := (Qa ab.out 0).trans rfl; have dM : w10.cell? ⟨af, 1, none⟩ = some (.slice ak ag.length ao) := (Qa ab.out 1).trans rfl; have dL := Qb ab.out 0; have dK := Qb ab.out 1) | ((with_reducible refine Qk (f := 87) rfl ?_); refine QE (some 10) rfl rfl Try.func87 (by kernel_rfl) rfl #[.agg #[.slice aq ae.length an, .slice ak ag.length ao], .slice A1 l1.length c1] rfl hA ?_; (with_reducible refine (ZF.calls k _ _ ae _ _ ag _ _ l1 t102 _ ?aj ?ai ?au ?ar ?bD ?bC A4.out).mono ?_); (case aj => exact (Kd.Ql aI.out HB.out)); (case ai => exact aQ.out); (case au => exact (Kd.Ql aW.out HB.out)); (case ar => exact aT.out); (case bD => exact (Kd.Ql HR1.out HB.out)); (case bC => exact HC1.out); rintro e w12 ⟨rfl, hb⟩; refine ⟨_, rfl, ?_⟩; replace ab := aa.mk (Qc ab.out hb); replace HB := aa.mk (Qd bB hb); (try clear hb); (try clear hb2); (try clear hk); (try clear hi); have dZ : w12.cell? ⟨af, 0, none⟩ = some (.slice aq ae.length an) := (Qa ab.out 0).trans rfl; have dY : w12.cell? ⟨af, 1, none⟩ = some (.slice ak ag.length ao) := (Qa ab.out 1).trans rfl; have dX := Qb ab.out 0; have dW := Qb ab.out 1) | ((with_reducible refine Qk (f := 77) rfl ?_); refine QE (some 18) rfl rfl Try.func77 (by kernel_rfl) rfl #[.slice A2 l2.length c2, .int .i64 (ae.length : Int), .int .i64 0, .int .i64 1000] rfl hA ?_; (with_reducible refine (Zh.calls _ _ l2 (ae.length : Int) 0 1000 true _ ?aj ?ai A6.out).mono ?_); (case aj => exact (Kd.Ql HR2.out HB.out)); (case ai => exact HC2.out); rintro e w14 ⟨rfl, hb⟩; refine ⟨_, rfl, ?_⟩; replace ab := aa.mk (Qc ab.out hb); replace HB := aa.mk (Qd bB hb); (try clear hb); (try clear hb2); (try clear hk); (try clear hi)) | ((with_reducible refine Qk (f := 84) rfl ?_); refine QE (some 21) rfl rfl Try.func84 (by kernel_rfl) rfl #[.slice A1 l1.length c1] rfl hA ?_; (with_reducible refine (Qr.calls k _ _ l1 t104 _ ?aj ?ai A8.out).mono ?_); (case aj => exact (Kd.Ql HR1.out HB.out)); (case ai => exact HC1.out); rintro e w15 ⟨rfl, hb⟩; refine ⟨_, rfl, ?_⟩; replace ab := aa.mk (Qc ab.out hb); replace HB := aa.mk (Qd bB hb); (try clear hb); (try clear hb2); (try clear hk); (try clear hi)))
    go_ret; exact ⟨by first | rfl | (simp [Qo, Qn] <;> rfl) | (simp [*, Qo, Qn] <;> rfl), bB⟩
   ·rw [if_neg c9] at H; have ft : decide (t104 ≤ 0) = false := decide_eq_false c9; clear c9; replace H := Option.bind_eq_some_iff.mp H; obtain ⟨t105, yu, H⟩ := H; replace H : (if t105 = true then (some 0) else (some 8)) = some r := H; have A16 := aa.mk yu; clear yu; by_cases c17 : t105 = true
    ·subst c17; have H1 : (some 0) = some r := by rw [if_pos rfl] at H; exact H
     clear H; have H := H1; clear H1; obtain rfl := Option.some.inj H; go_enter Try.func89, Try.ntmps89; go_wp2_with (first | ((with_reducible refine QD (N := 3) rfl ?_); refine QJ ?hg (N := 3) ?hd (cs := #[.slice aq ae.length an, .slice ak ag.length ao]) (t := 24) ?hr ?_; (case hd => rfl); (case hg => rfl); (case hr => first | (go_simp; done) | (go_simp; rfl)); intro af hg w18 hbox hb; have ab := aa.mk (hbox); have bA := aa.mk ((by rw [hg]; exact (Qe bB) : w.heap.size ≤ af)); have bk := aa.mk ((by rw [hg]; exact (Qe bB) : w.heap.size ≤ af)); replace HB := aa.mk (Qd bB hb); clear hb hbox hg; have gu : w18.cell? ⟨af, 0, none⟩ = some (.slice aq ae.length an) := (Qa ab.out 0).trans rfl; have gr : w18.cell? ⟨af, 1, none⟩ = some (.slice ak ag.length ao) := (Qa ab.out 1).trans rfl; have gp := Qb ab.out 0; have gm := Qb ab.out 1) | ((with_reducible refine Qk (f := 87) rfl ?_); refine QE (some 10) rfl rfl Try.func87 (by kernel_rfl) rfl #[.agg #[.slice aq ae.length an, .slice ak ag.length ao], .slice A1 l1.length c1] rfl hA ?_; (with_reducible refine (ZF.calls k _ _ ae _ _ ag _ _ l1 t102 _ ?aj ?ai ?au ?ar ?bD ?bC A4.out).mono ?_); (case aj => exact (Kd.Ql aI.out HB.out)); (case ai => exact aQ.out); (case au => exact (Kd.Ql aW.out HB.out)); (case ar => exact aT.out); (case bD => exact (Kd.Ql HR1.out HB.out)); (case bC => exact HC1.out); rintro e w20 ⟨rfl, hb⟩; refine ⟨_, rfl, ?_⟩; replace ab := aa.mk (Qc ab.out hb); replace HB := aa.mk (Qd bB hb); (try clear hb); (try clear hb2); (try clear hk); (try clear hi); have kh : w20.cell? ⟨af, 0, none⟩ = some (.slice aq ae.length an) := (Qa ab.out 0).trans rfl; have kg : w20.cell? ⟨af, 1, none⟩ = some (.slice ak ag.length ao) := (Qa ab.out 1).trans rfl; have j8 := Qb ab.out 0; have j7 := Qb ab.out 1) | ((with_reducible refine Qk (f := 77) rfl ?_); refine QE (some 18) rfl rfl Try.func77 (by kernel_rfl) rfl #[.slice A2 l2.length c2, .int .i64 (ae.length : Int), .int .i64 0, .int .i64 1000] rfl hA ?_; (with_reducible refine (Zh.calls _ _ l2 (ae.length : Int) 0 1000 true _ ?aj ?ai A6.out).mono ?_); (case aj => exact (Kd.Ql HR2.out HB.out)); (case ai => exact HC2.out); rintro e w22 ⟨rfl, hb⟩; refine ⟨_, rfl, ?_⟩; replace ab := aa.mk (Qc ab.out hb); replace HB := aa.mk (Qd bB hb); (try clear hb); (try clear hb2); (try clear hk); (try clear hi)) | ((with_reducible refine Qk (f := 84) rfl ?_); refine QE (some 21) rfl rfl Try.func84 (by kernel_rfl) rfl #[.slice A1 l1.length c1] rfl hA ?_; (with_reducible refine (Qr.calls k _ _ l1 t104 _ ?aj ?ai A8.out).mono ?_); (case aj => exact (Kd.Ql HR1.out HB.out)); (case ai => exact HC1.out); rintro e w23 ⟨rfl, hb⟩; refine ⟨_, rfl, ?_⟩; replace ab := aa.mk (Qc ab.out hb); replace HB := aa.mk (Qd bB hb); (try clear hb); (try clear hb2); (try clear hk); (try clear hi); have oA : w23.cell? ⟨af, 0, none⟩ = some (.slice aq ae.length an) := (Qa ab.out 0).trans rfl; have oy : w23.cell? ⟨af, 1, none⟩ = some (.slice ak ag.length ao) := (Qa ab.out 1).trans rfl; have n8 := Qb ab.out 0; have n7 := Qb ab.out 1) | (go_at_call 95; (with_reducible refine (Zj.calls k _ _ ae _ _ ag _ _ l1 true _ ?aj ?ai ?au ?ar ?bD ?bC A16.out).mono ?_); (case aj => exact (Kd.Ql aI.out HB.out)); (case ai => exact aQ.out); (case au => exact (Kd.Ql aW.out HB.out)); (case ar => exact aT.out); (case bD => exact (Kd.Ql HR1.out HB.out)); (case bC => exact HC1.out); rintro e w25 ⟨rfl, hb⟩; replace ab := aa.mk (Qc ab.out hb); replace HB := aa.mk (Qd bB hb); (try clear hb); (try clear hb2); (try clear hk); (try clear hi)))
     go_ret; exact ⟨by first | rfl | (simp [Qo, Qn] <;> rfl) | (simp [*, Qo, Qn] <;> rfl), bB⟩
    ·replace c17 := Bool.eq_false_iff.mpr c17; subst c17; have H1 : (some 8) = some r := by rw [if_neg (show ¬ (false = true) by decide)] at H; exact H
     clear H; have H := H1; clear H1; obtain rfl := Option.some.inj H; go_enter Try.func89, Try.ntmps89; go_wp2_with (first | ((with_reducible refine QD (N := 3) rfl ?_); refine QJ ?hg (N := 3) ?hd (cs := #[.slice aq ae.length an, .slice ak ag.length ao]) (t := 24) ?hr ?_; (case hd => rfl); (case hg => rfl); (case hr => first | (go_simp; done) | (go_simp; rfl)); intro af hg w26 hbox hb; have ab := aa.mk (hbox); have bA := aa.mk ((by rw [hg]; exact (Qe bB) : w.heap.size ≤ af)); have bk := aa.mk ((by rw [hg]; exact (Qe bB) : w.heap.size ≤ af)); replace HB := aa.mk (Qd bB hb); clear hb hbox hg; have ff : w26.cell? ⟨af, 0, none⟩ = some (.slice aq ae.length an) := (Qa ab.out 0).trans rfl; have fe : w26.cell? ⟨af, 1, none⟩ = some (.slice ak ag.length ao) := (Qa ab.out 1).trans rfl; have fc := Qb ab.out 0; have fb := Qb ab.out 1) | ((with_reducible refine Qk (f := 87) rfl ?_); refine QE (some 10) rfl rfl Try.func87 (by kernel_rfl) rfl #[.agg #[.slice aq ae.length an, .slice ak ag.length ao], .slice A1 l1.length c1] rfl hA ?_; (with_reducible refine (ZF.calls k _ _ ae _ _ ag _ _ l1 t102 _ ?aj ?ai ?au ?ar ?bD ?bC A4.out).mono ?_); (case aj => exact (Kd.Ql aI.out HB.out)); (case ai => exact aQ.out); (case au => exact (Kd.Ql aW.out HB.out)); (case ar => exact aT.out); (case bD => exact (Kd.Ql HR1.out HB.out)); (case bC => exact HC1.out); rintro e w28 ⟨rfl, hb⟩; refine ⟨_, rfl, ?_⟩; replace ab := aa.mk (Qc ab.out hb); replace HB := aa.mk (Qd bB hb); (try clear hb); (try clear hb2); (try clear hk); (try clear hi); have ru : w28.cell? ⟨af, 0, none⟩ = some (.slice aq ae.length an) := (Qa ab.out 0).trans rfl; have rr : w28.cell? ⟨af, 1, none⟩ = some (.slice ak ag.length ao) := (Qa ab.out 1).trans rfl; have qT := Qb ab.out 0; have qS := Qb ab.out 1) | ((with_reducible refine Qk (f := 77) rfl ?_); refine QE (some 18) rfl rfl Try.func77 (by kernel_rfl) rfl #[.slice A2 l2.length c2, .int .i64 (ae.length : Int), .int .i64 0, .int .i64 1000] rfl hA ?_; (with_reducible refine (Zh.calls _ _ l2 (ae.length : Int) 0 1000 true _ ?aj ?ai A6.out).mono ?_); (case aj => exact (Kd.Ql HR2.out HB.out)); (case ai => exact HC2.out); rintro e w30 ⟨rfl, hb⟩; refine ⟨_, rfl, ?_⟩; replace ab := aa.mk (Qc ab.out hb); replace HB := aa.mk (Qd bB hb); (try clear hb); (try clear hb2); (try clear hk); (try clear hi)) | ((with_reducible refine Qk (f := 84) rfl ?_); refine QE (some 21) rfl rfl Try.func84 (by kernel_rfl) rfl #[.slice A1 l1.length c1] rfl hA ?_; (with_reducible refine (Qr.calls k _ _ l1 t104 _ ?aj ?ai A8.out).mono ?_); (case aj => exact (Kd.Ql HR1.out HB.out)); (case ai => exact HC1.out); rintro e w31 ⟨rfl, hb⟩; refine ⟨_, rfl, ?_⟩; replace ab := aa.mk (Qc ab.out hb); replace HB := aa.mk (Qd bB hb); (try clear hb); (try clear hb2); (try clear hk); (try clear hi); have jb : w31.cell? ⟨af, 0, none⟩ = some (.slice aq ae.length an) := (Qa ab.out 0).trans rfl; have ja : w31.cell? ⟨af, 1, none⟩ = some (.slice ak ag.length ao) := (Qa ab.out 1).trans rfl; have iV := Qb ab.out 0; have iU := Qb ab.out 1) | (go_at_call 95; (with_reducible refine (Zj.calls k _ _ ae _ _ ag _ _ l1 false _ ?aj ?ai ?au ?ar ?bD ?bC A16.out).mono ?_); (case aj => exact (Kd.Ql aI.out HB.out)); (case ai => exact aQ.out); (case au => exact (Kd.Ql aW.out HB.out)); (case ar => exact aT.out); (case bD => exact (Kd.Ql HR1.out HB.out)); (case bC => exact HC1.out); rintro e w33 ⟨rfl, hb⟩; replace ab := aa.mk (Qc ab.out hb); replace HB := aa.mk (Qd bB hb); (try clear hb); (try clear hb2); (try clear hk); (try clear hi)))
     go_ret; exact ⟨by first | rfl | (simp [Qo, Qn] <;> rfl) | (simp [*, Qo, Qn] <;> rfl), bB⟩
  ·replace c7 := Bool.eq_false_iff.mpr c7; subst c7; have H1 : (some 1) = some r := by rw [if_neg (show ¬ (false = true) by decide)] at H; exact H
   clear H; have H := H1; clear H1; obtain rfl := Option.some.inj H; go_enter Try.func89, Try.ntmps89; go_wp2_with (first | ((with_reducible refine QD (N := 3) rfl ?_); refine QJ ?hg (N := 3) ?hd (cs := #[.slice aq ae.length an, .slice ak ag.length ao]) (t := 24) ?hr ?_; (case hd => rfl); (case hg => rfl); (case hr => first | (go_simp; done) | (go_simp; rfl)); intro af hg w34 hbox hb; have ab := aa.mk (hbox); have bA := aa.mk ((by rw [hg]; exact (Qe bB) : w.heap.size ≤ af)); have bk := aa.mk ((by rw [hg]; exact (Qe bB) : w.heap.size ≤ af)); replace HB := aa.mk (Qd bB hb); clear hb hbox hg; have AS : w34.cell? ⟨af, 0, none⟩ = some (.slice aq ae.length an) := (Qa ab.out 0).trans rfl; have AR : w34.cell? ⟨af, 1, none⟩ = some (.slice ak ag.length ao) := (Qa ab.out 1).trans rfl; have zL := Qb ab.out 0; have zK := Qb ab.out 1) | ((with_reducible refine Qk (f := 87) rfl ?_); refine QE (some 10) rfl rfl Try.func87 (by kernel_rfl) rfl #[.agg #[.slice aq ae.length an, .slice ak ag.length ao], .slice A1 l1.length c1] rfl hA ?_; (with_reducible refine (ZF.calls k _ _ ae _ _ ag _ _ l1 t102 _ ?aj ?ai ?au ?ar ?bD ?bC A4.out).mono ?_); (case aj => exact (Kd.Ql aI.out HB.out)); (case ai => exact aQ.out); (case au => exact (Kd.Ql aW.out HB.out)); (case ar => exact aT.out); (case bD => exact (Kd.Ql HR1.out HB.out)); (case bC => exact HC1.out); rintro e w36 ⟨rfl, hb⟩; refine ⟨_, rfl, ?_⟩; replace ab := aa.mk (Qc ab.out hb); replace HB := aa.mk (Qd bB hb); (try clear hb); (try clear hb2); (try clear hk); (try clear hi); have AQ : w36.cell? ⟨af, 0, none⟩ = some (.slice aq ae.length an) := (Qa ab.out 0).trans rfl; have AP : w36.cell? ⟨af, 1, none⟩ = some (.slice ak ag.length ao) := (Qa ab.out 1).trans rfl; have zJ := Qb ab.out 0; have zI := Qb ab.out 1) | ((with_reducible refine Qk (f := 77) rfl ?_); refine QE (some 18) rfl rfl Try.func77 (by kernel_rfl) rfl #[.slice A2 l2.length c2, .int .i64 (ae.length : Int), .int .i64 0, .int .i64 1000] rfl hA ?_; (with_reducible refine (Zh.calls _ _ l2 (ae.length : Int) 0 1000 false _ ?aj ?ai A6.out).mono ?_); (case aj => exact (Kd.Ql HR2.out HB.out)); (case ai => exact HC2.out); rintro e w38 ⟨rfl, hb⟩; refine ⟨_, rfl, ?_⟩; replace ab := aa.mk (Qc ab.out hb); replace HB := aa.mk (Qd bB hb); (try clear hb); (try clear hb2); (try clear hk); (try clear hi)))
   go_ret; exact ⟨by first | rfl | (simp [Qo, Qn] <;> rfl) | (simp [*, Qo, Qn] <;> rfl), bB⟩
 ·rw [if_neg c5] at H; have fl : (t102 == 0) = false := beq_eq_false_iff_ne.mpr c5; have kJ : (t102 != 0) = true := bne_iff_ne.mpr c5; obtain rfl := Option.some.inj H; go_enter Try.func89, Try.ntmps89; go_wp2_with (first | ((with_reducible refine QD (N := 3) rfl ?_); refine QJ ?hg (N := 3) ?hd (cs := #[.slice aq ae.length an, .slice ak ag.length ao]) (t := 24) ?hr ?_; (case hd => rfl); (case hg => rfl); (case hr => first | (go_simp; done) | (go_simp; rfl)); intro af hg w39 hbox hb; have ab := aa.mk (hbox); have bA := aa.mk ((by rw [hg]; exact (Qe bB) : w.heap.size ≤ af)); have bk := aa.mk ((by rw [hg]; exact (Qe bB) : w.heap.size ≤ af)); replace HB := aa.mk (Qd bB hb); clear hb hbox hg; have AO : w39.cell? ⟨af, 0, none⟩ = some (.slice aq ae.length an) := (Qa ab.out 0).trans rfl; have AN : w39.cell? ⟨af, 1, none⟩ = some (.slice ak ag.length ao) := (Qa ab.out 1).trans rfl; have zH := Qb ab.out 0; have zG := Qb ab.out 1) | ((with_reducible refine Qk (f := 87) rfl ?_); refine QE (some 10) rfl rfl Try.func87 (by kernel_rfl) rfl #[.agg #[.slice aq ae.length an, .slice ak ag.length ao], .slice A1 l1.length c1] rfl hA ?_; (with_reducible refine (ZF.calls k _ _ ae _ _ ag _ _ l1 t102 _ ?aj ?ai ?au ?ar ?bD ?bC A4.out).mono ?_); (case aj => exact (Kd.Ql aI.out HB.out)); (case ai => exact aQ.out); (case au => exact (Kd.Ql aW.out HB.out)); (case ar => exact aT.out); (case bD => exact (Kd.Ql HR1.out HB.out)); (case bC => exact HC1.out); rintro e w41 ⟨rfl, hb⟩; refine ⟨_, rfl, ?_⟩; replace ab := aa.mk (Qc ab.out hb); replace HB := aa.mk (Qd bB hb); (try clear hb); (try clear hb2); (try clear hk); (try clear hi)))
  go_ret; exact ⟨by first | rfl | (simp [Qo, Qn] <;> rfl) | (simp [*, Qo, Qn] <;> rfl), bB⟩
mutual
def QP.l0 : Nat → List Int → List Int → Int → List Int → Int → Int → Option (Int × List Int × Int)
 | 0, _, _, _, _, _, _ => none
 | k + 1, x1, x2, x10, x23, x24, x25 => if x25 < x24 then (if 0 ≤ x25 then (if x25 < (x23.length : Int) then (if x25 < (x1.length : Int) then (if (rd x1 x25) = 0 then (none) else (QP.l0 k x1 x2 (mn x10 (wrap64 (Int.tdiv (rd x23 x25) (rd x1 x25)))) x23 x24 (wrap64 (x25 + 1)))) else (none)) else (none)) else (none)) else (QP.l1 k x1 x10 ([] : List Int) x2 (x2.length : Int) 0)
def QP.l1 : Nat → List Int → Int → List Int → List Int → Int → Int → Option (Int × List Int × Int)
 | 0, _, _, _, _, _, _ => none
 | k + 1, x1, x10, x13, x39, x40, x41 => if x41 < x40 then (if 0 ≤ x41 then (if x41 < (x39.length : Int) then (if x41 < (x1.length : Int) then (if (rd x39 x41) < (wrap64 ((wrap64 (x10 + 1)) * (rd x1 x41))) then (if x13.length < 17592186044416 then (QP.l1 k x1 x10 (x13 ++ [x41]) x39 x40 (wrap64 (x41 + 1))) else (none)) else (QP.l1 k x1 x10 x13 x39 x40 (wrap64 (x41 + 1)))) else (none)) else (none)) else (none)) else (some (x10, x13, 0))
end
def QP.f (k : Nat) (ae : List (List Int)) (ag : List (List Int)) (l1 : List Int) (l2 : List Int) : Option (Int × List Int × Int) := (Zw.f k ae ag l1 l2).bind fun t102 => (if t102 = 0 then (QP.l0 k l1 l2 1000 l2 (l2.length : Int) 0) else (some (0, ([] : List Int), t102)))
theorem QP.Z8 : ∀ k, (∀ y0 y1 y2 y3 y4 y5, LeO (QP.l0 k y0 y1 y2 y3 y4 y5) (QP.l0 (k + 1) y0 y1 y2 y3 y4 y5)) ∧ (∀ y0 y1 y2 y3 y4 y5, LeO (QP.l1 k y0 y1 y2 y3 y4 y5) (QP.l1 (k + 1) y0 y1 y2 y3 y4 y5))
 | 0 => ⟨fun _ _ _ _ _ _ r h => by simp [QP.l0] at h, fun _ _ _ _ _ _ r h => by simp [QP.l1] at h⟩
 | k + 1 => by
  obtain ⟨ih0, ih1⟩ := QP.Z8 k; refine ⟨?_, ?_⟩ <;> intros <;> (first | unfold QP.l0 | unfold QP.l1) <;> repeat' first | (with_reducible exact ih0 _ _ _ _ _ _) | (with_reducible exact ih1 _ _ _ _ _ _) | (with_reducible exact Zw.mono _ _ _ _ _) | (with_reducible exact LeO.refl _) | (with_reducible exact LeO.none _) | (with_reducible refine LeO.ite ?_ ?_) | (with_reducible refine LeO.bind ?_ (fun _ => ?_)) | exact ih0 _ _ _ _ _ _ | exact ih1 _ _ _ _ _ _ | exact Zw.mono _ _ _ _ _ | exact LeO.none _ | refine LeO.ite ?_ ?_ | refine LeO.bind ?_ (fun _ => ?_)
theorem QP.mono : ∀ a0 a1 a2 a3 k, LeO (QP.f k a0 a1 a2 a3) (QP.f (k + 1) a0 a1 a2 a3) := by
 intro a0 a1 a2 a3 k; obtain ⟨ih0, ih1⟩ := QP.Z8 k; unfold QP.f; repeat' first | (with_reducible exact ih0 _ _ _ _ _ _) | (with_reducible exact ih1 _ _ _ _ _ _) | (with_reducible exact Zw.mono _ _ _ _ _) | (with_reducible exact LeO.refl _) | (with_reducible exact LeO.none _) | (with_reducible refine LeO.ite ?_ ?_) | (with_reducible refine LeO.bind ?_ (fun _ => ?_)) | exact ih0 _ _ _ _ _ _ | exact ih1 _ _ _ _ _ _ | exact Zw.mono _ _ _ _ _ | exact LeO.none _ | refine LeO.ite ?_ ?_ | refine LeO.bind ?_ (fun _ => ?_)
set_option maxHeartbeats 8000000 in
set_option maxRecDepth 100000 in
theorem QP.calls (k : Nat) (aq : Option Addr) (an : Nat) (ae : List (List Int)) (ak : Option Addr) (ao : Nat) (ag : List (List Int)) (A1 : Option Addr) (c1 : Nat) (l1 : List Int) (A2 : Option Addr) (c2 : Nat) (l2 : List Int) (r1 : Int) (r2 : List Int) (r3 : Int) (w : World) (bp : Kd.C (Kd.slice 3 (Kd.int .i64)) w aq ae.length ae) (br : ae.length ≤ an) (bo : Kd.C (Kd.slice 3 (Kd.int .i64)) w ak ag.length ag) (bq : ag.length ≤ ao) (hr1 : Kd.C (Kd.int .i64) w A1 l1.length l1) (hc1 : l1.length ≤ c1) (hr2 : Kd.C (Kd.int .i64) w A2 l2.length l2) (hc2 : l2.length ≤ c2) (h : QP.f k ae ag l1 l2 = some (r1, r2, r3)) :
  Calls Try.prog 46 #[.agg #[.slice aq ae.length an, .slice ak ag.length ao], .slice A1 l1.length c1, .slice A2 l2.length c2] w fun e w' => ∃ v1_ : Value, e = .returned (.tuple #[.int .i64 r1, v1_, .int .i64 r3]) ∧ Kd.R (Kd.int .i64) 3 w' w.heap.size (fun _ => True) v1_ r2 ∧ Below w.heap.size w w' := by
 have fa := Try.underlying24; have aI := aa.mk bp; have aQ := aa.mk br; clear bp br; have aW := aa.mk bo; have aT := aa.mk bq; clear bo bq; have HR1 := aa.mk hr1; have HC1 := aa.mk hc1; clear hr1 hc1; have HR2 := aa.mk hr2; have HC2 := aa.mk hc2; clear hr2 hc2; have HB := aa.mk (Below.refl w.heap.size w); have H : ((Zw.f k ae ag l1 l2).bind fun t102 => (if t102 = 0 then (QP.l0 k l1 l2 1000 l2 (l2.length : Int) 0) else (some (0, ([] : List Int), t102)))) = some (r1, r2, r3) := h; clear h; replace H := Option.bind_eq_some_iff.mp H; obtain ⟨t102, A40, H⟩ := H; replace H : (if t102 = 0 then (QP.l0 k l1 l2 1000 l2 (l2.length : Int) 0) else (some (0, ([] : List Int), t102))) = some (r1, r2, r3) := H; have A4 := aa.mk A40; clear A40; by_cases c5 : t102 = 0
 ·rw [if_pos c5] at H; have fl : (t102 == 0) = true := beq_iff_eq.mpr c5; have kJ : (t102 != 0) = false := bne_eq_false_iff_eq.mpr c5; clear c5; have H' := aa.mk H; clear H; go_enter Try.func46, Try.ntmps46; go_wp2_with (first | ((with_reducible refine QD (N := 3) rfl ?_); refine QJ ?hg (N := 3) ?hd (cs := #[.slice aq ae.length an, .slice ak ag.length ao]) (t := 24) ?hr ?_; (case hd => rfl); (case hg => rfl); (case hr => first | (go_simp; done) | (go_simp; rfl)); intro af hg w6 hbox hb; have ab := aa.mk (hbox); have bA := aa.mk ((by rw [hg]; exact (Qe bB) : w.heap.size ≤ af)); have bk := aa.mk ((by rw [hg]; exact (Qe bB) : w.heap.size ≤ af)); replace HB := aa.mk (Qd bB hb); clear hb hbox hg; have iz : w6.cell? ⟨af, 0, none⟩ = some (.slice aq ae.length an) := (Qa ab.out 0).trans rfl; have iy : w6.cell? ⟨af, 1, none⟩ = some (.slice ak ag.length ao) := (Qa ab.out 1).trans rfl; have ix := Qb ab.out 0; have iw := Qb ab.out 1) | ((with_reducible refine Qk (f := 89) rfl ?_); refine QE (some 19) rfl rfl Try.func89 (by kernel_rfl) rfl #[.agg #[.slice aq ae.length an, .slice ak ag.length ao], .slice A1 l1.length c1, .slice A2 l2.length c2] rfl hA ?_; (with_reducible refine (Zw.calls k _ _ ae _ _ ag _ _ l1 _ _ l2 t102 _ ?aj ?ai ?au ?ar ?bD ?bC ?dT ?dS A4.out).mono ?_); (case aj => exact (Kd.Ql aI.out HB.out)); (case ai => exact aQ.out); (case au => exact (Kd.Ql aW.out HB.out)); (case ar => exact aT.out); (case bD => exact (Kd.Ql HR1.out HB.out)); (case bC => exact HC1.out); (case dT => exact (Kd.Ql HR2.out HB.out)); (case dS => exact HC2.out); rintro e w8 ⟨rfl, hb⟩; refine ⟨_, rfl, ?_⟩; replace ab := aa.mk (Qc ab.out hb); replace HB := aa.mk (Qd bB hb); (try clear hb); (try clear hb2); (try clear hk); (try clear hi)))
  go_loopg [10, 25] k (fun kq v10 v25 w' => ∃ (gI : Int) (cy : Int), v10 = .int .i64 gI ∧ v25 = .int .i64 cy ∧ aa (QP.l0 kq l1 l2 gI l2 (l2.length : Int) cy = some (r1, r2, r3)) ∧ aa (kq ≤ k) ∧ aa (w'.heap[af]? = some (.cells #[(.slice aq ae.length an), (.slice ak ag.length ao)] 24 (0, 0))) ∧ aa (Below w.heap.size w w'))
  case atStart => exact ⟨(1000), (0), (by first | rfl | (simp; done) | (simp [*]; done)), (by first | rfl | (simp; done) | (simp [*]; done)), H', ⟨Nat.le_refl _⟩, ⟨by (with_reducible repeat (first | refine Qg ?_ _ | refine Qh ?_ | refine Qf ?_ _)); exact ab.out⟩, ⟨bB⟩⟩
  case round =>
   clear H'; try clear c1
   try clear c2
   try clear p2
   try clear c4
   try clear c5
   try clear fl
   try clear kJ
   try clear c8
   try clear iz
   try clear iy
   try clear ix
   try clear iw
   obtain ⟨gI, cy, rfl, rfl, HA, HK1, ab, HB⟩ := hrel; cases gk with
   | zero => exact absurd HA.out (by simp [QP.l0])
   | succ k1 =>
    have H := HA.out; clear HA; simp only [QP.l0] at H; by_cases c9 : cy < (l2.length : Int)
    ·rw [if_pos c9] at H; have ft : decide (cy < (l2.length : Int)) = true := decide_eq_true c9; clear c9; by_cases c10 : 0 ≤ cy
     ·rw [if_pos c10] at H; have gC : decide (0 ≤ cy) = true := decide_eq_true c10; clear c10; by_cases c11 : cy < (l2.length : Int)
      ·rw [if_pos c11] at H; have ik : decide (cy < (l2.length : Int)) = true := decide_eq_true c11; clear c11; by_cases c12 : cy < (l1.length : Int)
       ·rw [if_pos c12] at H; have g7 : decide (cy < (l1.length : Int)) = true := decide_eq_true c12; clear c12; by_cases c13 : (rd l1 cy) = 0
        ·rw [if_pos c13] at H; exact absurd H (by simp)
        ·rw [if_neg c13] at H; have oD : ((rd l1 cy) == 0) = false := beq_eq_false_iff_ne.mpr c13; have xD : ((rd l1 cy) != 0) = true := bne_iff_ne.mpr c13; obtain ⟨sW, nP⟩ : ∃ j_ : Int, (mn gI (wrap64 (Int.tdiv (rd l2 cy) (rd l1 cy)))) = j_ := ⟨_, rfl⟩; replace H : (QP.l0 k1 l1 l2 sW l2 (l2.length : Int) (wrap64 (cy + 1))) = some (r1, r2, r3) := by first | (rw [nP] at H; exact H) | (simp only [nP] at H ⊢; exact H)
         have CI : (if (wrap64 (Int.tdiv (rd l2 cy) (rd l1 cy))) < gI then (wrap64 (Int.tdiv (rd l2 cy) (rd l1 cy))) else gI) = sW := nP; have H' := aa.mk H; clear H; have eH : 0 ≤ (cy : Int) := of_decide_eq_true (by assumption); have eG : cy < (l2.length : Int) := of_decide_eq_true (by assumption); obtain ⟨jH, jx, bx⟩ := Kd.Zi HR2.out cy eH eG; cases jx; replace bx := (HB.out.cell (World.block_lt_of_cell? w _ bx)).trans bx; replace eH := eq_true eH; replace eG := eq_true eG; have fq : 0 ≤ (cy : Int) := of_decide_eq_true (by assumption); have fp : cy < (l1.length : Int) := of_decide_eq_true (by assumption); obtain ⟨pK, nn, b0⟩ := Kd.Zi HR1.out cy fq fp; cases nn; replace b0 := (HB.out.cell (World.block_lt_of_cell? w _ b0)).trans b0; replace fq := eq_true fq; replace fp := eq_true fp; go_wp2; go_roundg k1
         case measure => have := HK1.out; omega
         case rel => exact ⟨(sW), (wrap64 (cy + 1)), (by first | rfl | (simp; done) | (simp only [← nP] <;> (first | rfl | simp)) | (simp [*]; done)), (by first | rfl | (simp; done) | (simp [*]; done)), H', ⟨by have := HK1.out; omega⟩, ⟨by (with_reducible repeat (first | refine Qg ?_ _ | refine Qh ?_ | refine Qf ?_ _)); exact ab.out⟩, ⟨bB⟩⟩
       ·rw [if_neg c12] at H; exact absurd H (by simp)
      ·rw [if_neg c11] at H; exact absurd H (by simp)
     ·rw [if_neg c10] at H; exact absurd H (by simp)
    ·rw [if_neg c9] at H; have ft : decide (cy < (l2.length : Int)) = false := decide_eq_false c9; clear c9; have H' := aa.mk H; clear H; go_wp2; go_loopg [13, 41] k1 (fun kq v13 v41 w' => ∃ (ks : List Int) (ct : Int), v41 = .int .i64 ct ∧ aa (QP.l1 kq l1 gI ks l2 (l2.length : Int) ct = some (r1, r2, r3)) ∧ aa (kq ≤ k1) ∧ aa (Kd.R (Kd.int .i64) 3 w' w.heap.size (fun _ => True) v13 ks) ∧ aa (w'.heap[af]? = some (.cells #[(.slice aq ae.length an), (.slice ak ag.length ao)] 24 (0, 0))) ∧ aa (Below w.heap.size w w'))
     case atStart => exact ⟨(([] : List Int)), (0), (by first | rfl | (simp; done) | (simp [*]; done)), H', ⟨Nat.le_refl _⟩, ⟨by first | exact Kd.Yb _ _ _ _ _ | exact Kd.Yh _ _ _ _ _ | exact Kd.V_nil _ _ _ _ _ | exact Kd.Q_nil _ _ _ _ _ | exact Kd.Yj _ _ _ _ _⟩, ⟨by (with_reducible repeat (first | refine Qg ?_ _ | refine Qh ?_ | refine Qf ?_ _)); exact ab.out⟩, ⟨bB⟩⟩
     case round =>
      clear H'; try clear c1
      try clear p1
      try clear q1
      try clear hx1
      try clear c2
      try clear p2
      try clear c4
      try clear c5
      try clear fl
      try clear kJ
      try clear p6
      try clear c8
      try clear c9
      try clear ft
      try clear c10
      try clear gC
      try clear p10
      try clear q10
      try clear iO
      try clear c11
      try clear ik
      try clear c12
      try clear g7
      try clear c13
      try clear oD
      try clear xD
      try clear iz
      try clear iy
      try clear ix
      try clear iw
      try clear bx
      try clear b0
      try clear eH
      try clear fq
      try clear p2
      try clear eG
      try clear fp
      obtain ⟨ks, ct, rfl, HA, HK2, mT, ab, HB⟩ := hrel; cases gk with
      | zero => exact absurd HA.out (by simp [QP.l1])
      | succ k2 =>
       have H := HA.out; clear HA; simp only [QP.l1] at H; by_cases c15 : ct < (l2.length : Int)
       ·rw [if_pos c15] at H; have ln : decide (ct < (l2.length : Int)) = true := decide_eq_true c15; clear c15; by_cases c16 : 0 ≤ ct
        ·rw [if_pos c16] at H; have ig : decide (0 ≤ ct) = true := decide_eq_true c16; clear c16; by_cases c17 : ct < (l2.length : Int)
         ·rw [if_pos c17] at H; have ji : decide (ct < (l2.length : Int)) = true := decide_eq_true c17; clear c17; by_cases c18 : ct < (l1.length : Int)
          ·rw [if_pos c18] at H; have mN : decide (ct < (l1.length : Int)) = true := decide_eq_true c18; clear c18; by_cases c19 : (rd l2 ct) < (wrap64 ((wrap64 (gI + 1)) * (rd l1 ct)))
           ·rw [if_pos c19] at H; have jh : decide ((rd l2 ct) < (wrap64 ((wrap64 (gI + 1)) * (rd l1 ct)))) = true := decide_eq_true c19; clear c19; by_cases c20 : ks.length < 17592186044416
            ·rw [if_pos c20] at H; have pO := aa.mk c20; clear c20; obtain ⟨jO, gL⟩ : ∃ y_ : List Int, y_ = (ks ++ [ct]) := ⟨_, rfl⟩; replace H : (QP.l1 k2 l1 gI jO l2 (l2.length : Int) (wrap64 (ct + 1))) = some (r1, r2, r3) := by first | (rw [gL]; with_reducible exact H) | (have H2_ := (Option.bind_some _ _).symm.trans H; rw [gL]; with_reducible exact H2_) | (have H2_ := (Option.bind_some _ _).symm.trans H; with_reducible exact H2_) | with_reducible exact H | (rw [gL]; exact H) | exact H
             have lq := aa.mk gL; clear gL; have H' := aa.mk H; clear H; have dv : 0 ≤ (ct : Int) := of_decide_eq_true (by assumption); have du : ct < (l2.length : Int) := of_decide_eq_true (by assumption); obtain ⟨jj, gY, db⟩ := Kd.Zi HR2.out ct dv du; cases gY; replace db := (HB.out.cell (World.block_lt_of_cell? w _ db)).trans db; replace dv := eq_true dv; replace du := eq_true du; have cI : 0 ≤ (ct : Int) := of_decide_eq_true (by assumption); have cH : ct < (l1.length : Int) := of_decide_eq_true (by assumption); obtain ⟨bM, fW, aJ⟩ := Kd.Zi HR1.out ct cI cH; cases fW; replace aJ := (HB.out.cell (World.block_lt_of_cell? w _ aJ)).trans aJ; replace cI := eq_true cI; replace cH := eq_true cH; go_wp2_with (first | ((with_reducible refine ZM (b := .append) (xs := #[.tmp 55, .tmp 57]) rfl ?_); at_builtin; refine Kd.Vc (Kd.int .i64) (w0 := w) w.heap.size rfl (.tmp 55) (.tmp 57) 28 3 (.int .i64 0) 8 rfl Try.underlying28 info3 rfl (by decide) (by omega) u13 ks ct [.int .i64 ct] (fun _ => True) (fun _ => False) rfl rfl ?aP (fun _ hk => hk.elim) ?aF ?aO ?aB ?aS ?aL ?_; (case aP => exact rfl); (case aB => exact bB); (case aF => exact (fun _ _ => trivial)); (case aO => exact mT.out); (case aS => exact (Qe bB)); (case aL => have := pO.out; omega); intro ec w21 ho hb hg hat; rw [← lq.out] at ho; replace ab := aa.mk (ZN (g := af) (o := .cells #[.slice aq ae.length an, .slice ak ag.length ao] 24 (0, 0)) (by (with_reducible repeat (first | refine Qg ?_ _ | refine Qh ?_ | refine Qf ?_ _)); exact ab.out) hg (Kd.R_ne mT.out ab.out (by decide))); replace HB := aa.mk (hb); have bs := aa.mk (ho); clear mT; clear ho hb hg hat))
             go_roundg k2
             case measure => have := HK1.out; have := HK2.out; omega
             case rel => exact ⟨(jO), (wrap64 (ct + 1)), (by first | rfl | (simp; done) | (simp [*]; done)), H', ⟨by have := HK1.out; have := HK2.out; omega⟩, ⟨by (with_reducible repeat (first | apply Kd.R_alloc | apply Kd.R_drewN | apply Kd.Zb)); exact bs.out⟩, ⟨by (with_reducible repeat (first | refine Qg ?_ _ | refine Qh ?_ | refine Qf ?_ _)); exact ab.out⟩, ⟨bB⟩⟩
            ·rw [if_neg c20] at H; exact absurd H (by simp)
           ·rw [if_neg c19] at H; have jh : decide ((rd l2 ct) < (wrap64 ((wrap64 (gI + 1)) * (rd l1 ct)))) = false := decide_eq_false c19; clear c19; have H' := aa.mk H; clear H; have dv : 0 ≤ (ct : Int) := of_decide_eq_true (by assumption); have du : ct < (l2.length : Int) := of_decide_eq_true (by assumption); obtain ⟨jj, gY, db⟩ := Kd.Zi HR2.out ct dv du; cases gY; replace db := (HB.out.cell (World.block_lt_of_cell? w _ db)).trans db; replace dv := eq_true dv; replace du := eq_true du; have cI : 0 ≤ (ct : Int) := of_decide_eq_true (by assumption); have cH : ct < (l1.length : Int) := of_decide_eq_true (by assumption); obtain ⟨bM, fW, aJ⟩ := Kd.Zi HR1.out ct cI cH; cases fW; replace aJ := (HB.out.cell (World.block_lt_of_cell? w _ aJ)).trans aJ; replace cI := eq_true cI; replace cH := eq_true cH; go_wp2; go_roundg k2
            case measure => have := HK1.out; have := HK2.out; omega
            case rel => exact ⟨(ks), (wrap64 (ct + 1)), (by first | rfl | (simp; done) | (simp [*]; done)), H', ⟨by have := HK1.out; have := HK2.out; omega⟩, ⟨by (with_reducible repeat (first | apply Kd.R_alloc | apply Kd.R_drewN | apply Kd.Zb)); exact mT.out⟩, ⟨by (with_reducible repeat (first | refine Qg ?_ _ | refine Qh ?_ | refine Qf ?_ _)); exact ab.out⟩, ⟨bB⟩⟩
          ·rw [if_neg c18] at H; exact absurd H (by simp)
         ·rw [if_neg c17] at H; exact absurd H (by simp)
        ·rw [if_neg c16] at H; exact absurd H (by simp)
       ·rw [if_neg c15] at H; have ln : decide (ct < (l2.length : Int)) = false := decide_eq_false c15; clear c15; simp only [Option.some.injEq, Prod.mk.injEq] at H; obtain ⟨rfl, rfl, rfl⟩ := H; go_wp2; go_ret3
        exact ⟨_, by first | rfl | (simp [Qo, Qn] <;> rfl) | (simp [*, Qo, Qn] <;> rfl), by (with_reducible repeat (first | apply Kd.R_alloc | apply Kd.R_drewN | apply Kd.Zb)); exact mT.out, bB⟩
 ·rw [if_neg c5] at H; have fl : (t102 == 0) = false := beq_eq_false_iff_ne.mpr c5; have kJ : (t102 != 0) = true := bne_iff_ne.mpr c5; simp only [Option.some.injEq, Prod.mk.injEq] at H; obtain ⟨rfl, rfl, rfl⟩ := H; go_enter Try.func46, Try.ntmps46; go_wp2_with (first | ((with_reducible refine QD (N := 3) rfl ?_); refine QJ ?hg (N := 3) ?hd (cs := #[.slice aq ae.length an, .slice ak ag.length ao]) (t := 24) ?hr ?_; (case hd => rfl); (case hg => rfl); (case hr => first | (go_simp; done) | (go_simp; rfl)); intro af hg w22 hbox hb; have ab := aa.mk (hbox); have bA := aa.mk ((by rw [hg]; exact (Qe bB) : w.heap.size ≤ af)); have bk := aa.mk ((by rw [hg]; exact (Qe bB) : w.heap.size ≤ af)); replace HB := aa.mk (Qd bB hb); clear hb hbox hg; have ry : w22.cell? ⟨af, 0, none⟩ = some (.slice aq ae.length an) := (Qa ab.out 0).trans rfl; have rv : w22.cell? ⟨af, 1, none⟩ = some (.slice ak ag.length ao) := (Qa ab.out 1).trans rfl; have qV := Qb ab.out 0; have qU := Qb ab.out 1) | ((with_reducible refine Qk (f := 89) rfl ?_); refine QE (some 19) rfl rfl Try.func89 (by kernel_rfl) rfl #[.agg #[.slice aq ae.length an, .slice ak ag.length ao], .slice A1 l1.length c1, .slice A2 l2.length c2] rfl hA ?_; (with_reducible refine (Zw.calls k _ _ ae _ _ ag _ _ l1 _ _ l2 t102 _ ?aj ?ai ?au ?ar ?bD ?bC ?dT ?dS A4.out).mono ?_); (case aj => exact (Kd.Ql aI.out HB.out)); (case ai => exact aQ.out); (case au => exact (Kd.Ql aW.out HB.out)); (case ar => exact aT.out); (case bD => exact (Kd.Ql HR1.out HB.out)); (case bC => exact HC1.out); (case dT => exact (Kd.Ql HR2.out HB.out)); (case dS => exact HC2.out); rintro e w24 ⟨rfl, hb⟩; refine ⟨_, rfl, ?_⟩; replace ab := aa.mk (Qc ab.out hb); replace HB := aa.mk (Qd bB hb); (try clear hb); (try clear hb2); (try clear hk); (try clear hi)))
  go_ret3
  exact ⟨_, by first | rfl | (simp [Qo, Qn] <;> rfl) | (simp [*, Qo, Qn] <;> rfl), by first | exact Kd.Yb _ _ _ _ _ | exact Kd.Yh _ _ _ _ _ | exact Kd.V_nil _ _ _ _ _ | exact Kd.Q_nil _ _ _ _ _ | exact Kd.Yj _ _ _ _ _, bB⟩
def Zt.f  : Option ((List (List Int)) × (List (List Int))) := some ((([(([2, 0] : List Int)), (([0, 2] : List Int))] : List (List Int))), (([(([2, 1] : List Int))] : List (List Int))))
set_option maxHeartbeats 8000000 in
set_option maxRecDepth 100000 in
theorem Zt.calls  (r1 : List (List Int)) (r2 : List (List Int)) (w : World) (h : Zt.f  = some (r1, r2)) :
  Calls Try.prog 91 #[] w fun e w' => ∃ v0_ v1_ : Value, e = .returned (.agg #[v0_, v1_]) ∧ Kd.N (Kd.slice 3 (Kd.int .i64)) 28 w' w.heap.size (fun k_ => (w.heap.size ≤ k_) ∧ some k_ ≠ (v1_ : Value).ownBlock) v0_ r1 ∧ Kd.N (Kd.slice 3 (Kd.int .i64)) 28 w' w.heap.size (fun k_ => (w.heap.size ≤ k_) ∧ some k_ ≠ (v0_ : Value).ownBlock) v1_ r2 ∧ Below w.heap.size w w' := by
 have fa := Try.underlying24; have HB := aa.mk (Below.refl w.heap.size w); have H : (some ((([(([2, 0] : List Int)), (([0, 2] : List Int))] : List (List Int))), (([(([2, 1] : List Int))] : List (List Int))))) = some (r1, r2) := h; clear h; obtain ⟨mX, mH⟩ : ∃ y_ : List Int, y_ = (([2, 0] : List Int)) := ⟨_, rfl⟩; replace H : (some ((([mX, (([0, 2] : List Int))] : List (List Int))), (([(([2, 1] : List Int))] : List (List Int))))) = some (r1, r2) := by first | (rw [mH]; with_reducible exact H) | (have H2_ := (Option.bind_some _ _).symm.trans H; rw [mH]; with_reducible exact H2_) | (have H2_ := (Option.bind_some _ _).symm.trans H; with_reducible exact H2_) | with_reducible exact H | (rw [mH]; exact H) | exact H
 have sM := aa.mk mH; clear mH; obtain ⟨gD, dF⟩ : ∃ y_ : List Int, y_ = (([0, 2] : List Int)) := ⟨_, rfl⟩; replace H : (some ((([mX, gD] : List (List Int))), (([(([2, 1] : List Int))] : List (List Int))))) = some (r1, r2) := by first | (rw [dF]; with_reducible exact H) | (have H2_ := (Option.bind_some _ _).symm.trans H; rw [dF]; with_reducible exact H2_) | (have H2_ := (Option.bind_some _ _).symm.trans H; with_reducible exact H2_) | with_reducible exact H | (rw [dF]; exact H) | exact H
 have jJ := aa.mk dF; clear dF; obtain ⟨jr, eP⟩ : ∃ y_ : List (List Int), y_ = (([mX, gD] : List (List Int))) := ⟨_, rfl⟩; replace H : (some (jr, (([(([2, 1] : List Int))] : List (List Int))))) = some (r1, r2) := by first | (rw [eP]; with_reducible exact H) | (have H2_ := (Option.bind_some _ _).symm.trans H; rw [eP]; with_reducible exact H2_) | (have H2_ := (Option.bind_some _ _).symm.trans H; with_reducible exact H2_) | with_reducible exact H | (rw [eP]; exact H) | exact H
 have lp := aa.mk eP; clear eP; obtain ⟨oQ, mE⟩ : ∃ y_ : List Int, y_ = (([2, 1] : List Int)) := ⟨_, rfl⟩; replace H : (some (jr, (([oQ] : List (List Int))))) = some (r1, r2) := by first | (rw [mE]; with_reducible exact H) | (have H2_ := (Option.bind_some _ _).symm.trans H; rw [mE]; with_reducible exact H2_) | (have H2_ := (Option.bind_some _ _).symm.trans H; with_reducible exact H2_) | with_reducible exact H | (rw [mE]; exact H) | exact H
 have sK := aa.mk mE; clear mE; obtain ⟨eT, dE⟩ : ∃ y_ : List (List Int), y_ = (([oQ] : List (List Int))) := ⟨_, rfl⟩; replace H : (some (jr, eT)) = some (r1, r2) := by first | (rw [dE]; with_reducible exact H) | (have H2_ := (Option.bind_some _ _).symm.trans H; rw [dE]; with_reducible exact H2_) | (have H2_ := (Option.bind_some _ _).symm.trans H; with_reducible exact H2_) | with_reducible exact H | (rw [dE]; exact H) | exact H
 have jI := aa.mk dE; clear dE; simp only [Option.some.injEq, Prod.mk.injEq] at H; obtain ⟨rfl, rfl⟩ := H; go_enter Try.func91, Try.ntmps91; go_wp2_with (first | ((with_reducible refine QD (N := 0) rfl ?_); refine QJ ?hg (N := 0) ?hd (cs := #[.slice none 0 0, .slice none 0 0]) (t := 24) ?hr ?_; (case hd => rfl); (case hg => rfl); (case hr => first | (go_simp; done) | (go_simp; rfl)); intro af hg w1 hbox hb; have ab := aa.mk (hbox); have bA := aa.mk ((by rw [hg]; exact (Qe bB) : w.heap.size ≤ af)); have bk := aa.mk ((by rw [hg]; exact (Qe bB) : w.heap.size ≤ af)); replace HB := aa.mk (Qd bB hb); clear hb hbox hg) | ((with_reducible refine QD (N := 1) rfl ?_); refine Kd.YP (Kd.int .i64) _ 3 ?hg (N := 1) ?hd (xs := ([2, 0] : List Int)) (inner := [.int .i64 2, .int .i64 0]) (ok := fun _ => True) (okp := fun _ => True) ?hr ?hp (fun _ hk => hk) trivial (Below.refl _ _) (Nat.le_refl _) (by simp) ?_; (case hd => rfl); (case hg => rfl); (case hr => first | (go_simp; done) | (go_simp; rfl)); (case hp => exact (Reps.one (show Kd.M (Kd.int .i64) _ _ _ 2 [.int .i64 2] from rfl) (Reps.one (show Kd.M (Kd.int .i64) _ _ _ 0 [.int .i64 0] from rfl) (Reps.none _ _)))); intro o0 w2 ho3 hb hg_ hnew_; clear hg_ hnew_; (first | rw [← sM.out] at ho3 | (simp only [Int.reduceToNat] at ho3; rw [← sM.out] at ho3)); have de := aa.mk (Kd.Zk (Kd.R_newM (M := fun k_ => (w.heap.size ≤ k_)) ho3 (Qe bB) (fun k_ h_ => h_)) (Qe bB)); replace ab := aa.mk (Qc ab.out hb); replace HB := aa.mk (Qd bB hb); clear hb ho3) | ((with_reducible refine QD (N := 2) rfl ?_); refine Kd.YP (Kd.int .i64) _ 3 ?hg (N := 2) ?hd (xs := ([0, 2] : List Int)) (inner := [.int .i64 0, .int .i64 2]) (ok := fun _ => True) (okp := fun _ => True) ?hr ?hp (fun _ hk => hk) trivial (Below.refl _ _) (Nat.le_refl _) (by simp) ?_; (case hd => rfl); (case hg => rfl); (case hr => first | (go_simp; done) | (go_simp; rfl)); (case hp => exact (Reps.one (show Kd.M (Kd.int .i64) _ _ _ 0 [.int .i64 0] from rfl) (Reps.one (show Kd.M (Kd.int .i64) _ _ _ 2 [.int .i64 2] from rfl) (Reps.none _ _)))); intro p9 w4 ho5 hb hg_ hnew_; clear hg_ hnew_; (first | rw [← jJ.out] at ho5 | (simp only [Int.reduceToNat] at ho5; rw [← jJ.out] at ho5)); have eS := aa.mk (Kd.Zk (Kd.ZQ (Kd.R_newM (M := fun k_ => (w.heap.size ≤ k_)) ho5 (Qe bB) (fun k_ h_ => h_)) (Kd.R_lt de.out)) (Qe bB)); replace de := aa.mk (Kd.Zp de.out (Kd.Q9 ho5) hb); replace ab := aa.mk (Qc ab.out hb); replace HB := aa.mk (Qd bB hb); clear hb ho5; obtain ⟨Ao6, co6, eo6⟩ := Kd.Zs de.out; subst eo6; obtain ⟨Ao7, co7, eo7⟩ := Kd.Zs eS.out; subst eo7) | ((with_reducible refine QD (N := 3) rfl ?_); refine Kd.N_lit (Kd.slice 3 (Kd.int .i64)) _ 28 ?hg (N' := 3) ?hd (xs := ([mX, gD] : List (List Int))) (inner := [.slice Ao6 mX.length co6, .slice Ao7 gD.length co7]) (ok := (fun k_ => (w.heap.size ≤ k_) ∧ k_ ≠ af)) (okp := (fun k_ => (w.heap.size ≤ k_) ∧ k_ ≠ af)) ?hr ?hp (fun _ hk => hk) ((show ∀ k_, w4.heap.size ≤ k_ → (fun k_ => (w.heap.size ≤ k_) ∧ k_ ≠ af) k_ from fun k_ hk => ⟨(Nat.le_trans (Qe bB) hk), Kd.freshB (g := af) (o := .cells #[.slice none 0 0, .slice none 0 0] 24 (0, 0)) (by (with_reducible repeat (first | refine Qg ?_ _ | refine Qh ?_ | refine Qf ?_ _)); exact ab.out) k_ hk⟩) _ (Nat.le_refl _)) (Below.refl _ _) (Nat.le_refl _) (by simp) ?_; (case hd => rfl); (case hg => rfl); (case hr => first | (go_simp; done) | (go_simp; rfl)); (case hp => exact (Reps.one (show Kd.FK (Kd.slice 3 (Kd.int .i64)) _ _ mX [.slice Ao6 mX.length co6] from (Kd.YH (Kd.QW (Kd.Zm (ok' := (fun k_ => (w.heap.size ≤ k_) ∧ k_ ≠ af)) (Kd.Vm (de.out) ab.out (by decide)) (fun k_ hk => ⟨hk.1.1.1, hk.2⟩))).2.1 (Kd.R_F (Kd.Zm (ok' := (fun k_ => (w.heap.size ≤ k_) ∧ k_ ≠ af)) (Kd.Vm (de.out) ab.out (by decide)) (fun k_ hk => ⟨hk.1.1.1, hk.2⟩))))) (Reps.one (show Kd.FK (Kd.slice 3 (Kd.int .i64)) _ _ gD [.slice Ao7 gD.length co7] from (Kd.YH (Kd.QW (Kd.Zm (ok' := (fun k_ => (w.heap.size ≤ k_) ∧ k_ ≠ af)) (Kd.Vm (eS.out) ab.out (by decide)) (fun k_ hk => ⟨hk.1.1.1, hk.2⟩))).2.1 (Kd.R_F (Kd.Zm (ok' := (fun k_ => (w.heap.size ≤ k_) ∧ k_ ≠ af)) (Kd.Vm (eS.out) ab.out (by decide)) (fun k_ hk => ⟨hk.1.1.1, hk.2⟩))))) (Reps.none _ _)))); intro fY w8 ho9 hb hg_ hnew_; clear hg_ hnew_; (first | rw [← lp.out] at ho9 | (simp only [Int.reduceToNat] at ho9; rw [← lp.out] at ho9)); have bN := aa.mk (Kd.ZY ho9 (Qe bB)); replace ab := aa.mk (Qc ab.out hb); replace HB := aa.mk (Qd bB hb); clear de eS; clear hb ho9) | ((with_reducible refine QD (N := 4) rfl ?_); refine Kd.YP (Kd.int .i64) _ 3 ?hg (N := 4) ?hd (xs := ([2, 1] : List Int)) (inner := [.int .i64 2, .int .i64 1]) (ok := fun _ => True) (okp := fun _ => True) ?hr ?hp (fun _ hk => hk) trivial (Below.refl _ _) (Nat.le_refl _) (by simp) ?_; (case hd => rfl); (case hg => rfl); (case hr => first | (go_simp; done) | (go_simp; rfl)); (case hp => exact (Reps.one (show Kd.M (Kd.int .i64) _ _ _ 2 [.int .i64 2] from rfl) (Reps.one (show Kd.M (Kd.int .i64) _ _ _ 1 [.int .i64 1] from rfl) (Reps.none _ _)))); intro ug w10 fZ hb hg_ hnew_; clear hg_ hnew_; (first | rw [← sK.out] at fZ | (simp only [Int.reduceToNat] at fZ; rw [← sK.out] at fZ)); replace bN := aa.mk (Kd.Q3 bN.out (Kd.Q9 fZ) hb); have cP := aa.mk (Kd.Zk (Kd.R_newM (M := fun k_ => (w.heap.size ≤ k_)) fZ (Qe bB) (fun k_ h_ => h_)) (Qe bB)); replace ab := aa.mk (Qc ab.out hb); replace HB := aa.mk (Qd bB hb); clear hb fZ; obtain ⟨yg, xf, Dh⟩ := Kd.Zs cP.out; subst Dh) | ((with_reducible refine QD (N := 5) rfl ?_); refine Kd.N_lit (Kd.slice 3 (Kd.int .i64)) _ 28 ?hg (N' := 5) ?hd (xs := ([oQ] : List (List Int))) (inner := [.slice yg oQ.length xf]) (ok := (fun k_ => (w.heap.size ≤ k_) ∧ some k_ ≠ (fY : Value).ownBlock ∧ k_ ≠ af)) (okp := (fun k_ => (w.heap.size ≤ k_) ∧ some k_ ≠ (fY : Value).ownBlock ∧ k_ ≠ af)) ?hr ?hp (fun _ hk => hk) ((show ∀ k_, w10.heap.size ≤ k_ → (fun k_ => (w.heap.size ≤ k_) ∧ some k_ ≠ (fY : Value).ownBlock ∧ k_ ≠ af) k_ from fun k_ hk => ⟨(Nat.le_trans (Qe bB) hk), Kd.fresh' (Kd.N_lt bN.out) k_ hk, Kd.freshB (g := af) (o := .cells #[.slice none 0 0, .slice none 0 0] 24 (0, 0)) (by (with_reducible repeat (first | refine Qg ?_ _ | refine Qh ?_ | refine Qf ?_ _)); exact ab.out) k_ hk⟩) _ (Nat.le_refl _)) (Below.refl _ _) (Nat.le_refl _) (by simp) ?_; (case hd => rfl); (case hg => rfl); (case hr => first | (go_simp; done) | (go_simp; rfl)); (case hp => exact (Reps.one (show Kd.FK (Kd.slice 3 (Kd.int .i64)) _ _ oQ [.slice yg oQ.length xf] from (Kd.YH (Kd.QW (Kd.Zm (ok' := (fun k_ => (w.heap.size ≤ k_) ∧ some k_ ≠ (fY : Value).ownBlock ∧ k_ ≠ af)) (Kd.Vm (Kd.ZD (cP.out) (Kd.Yc bN.out) (by decide)) ab.out (by decide)) (fun k_ hk => ⟨hk.1.1.1, ⟨hk.1.2, hk.2⟩⟩))).2.1 (Kd.R_F (Kd.Zm (ok' := (fun k_ => (w.heap.size ≤ k_) ∧ some k_ ≠ (fY : Value).ownBlock ∧ k_ ≠ af)) (Kd.Vm (Kd.ZD (cP.out) (Kd.Yc bN.out) (by decide)) ab.out (by decide)) (fun k_ hk => ⟨hk.1.1.1, ⟨hk.1.2, hk.2⟩⟩))))) (Reps.none _ _))); intro e5 w13 oS hb hg_ hnew_; clear hg_ hnew_; (first | rw [← jI.out] at oS | (simp only [Int.reduceToNat] at oS; rw [← jI.out] at oS)); replace bN := aa.mk (Kd.Q3 bN.out (Kd.ZO oS) hb); have bP := aa.mk (Kd.ZY oS (Qe bB)); replace ab := aa.mk (Qc ab.out hb); replace HB := aa.mk (Qd bB hb); clear cP; clear hb oS; obtain ⟨tS, tH, De⟩ := Kd.ZS bP.out; subst De; obtain ⟨oX, oU, rE⟩ := Kd.ZS bN.out; subst rE; have kj : w13.cell? ⟨af, 0, none⟩ = some (.slice none 0 0) := (Qa ab.out 0).trans rfl; have ki : w13.cell? ⟨af, 1, none⟩ = some (.slice none 0 0) := (Qa ab.out 1).trans rfl; have ka := Qb ab.out 0; have j9 := Qb ab.out 1))
 refine bodyPost_ret (results_cell_row rfl _ _ af 24 #[.slice oX jr.length oU, .slice tS eT.length tH] (0, 0) _ rfl (by (with_reducible repeat (first | refine Qg ?_ _ | refine Qh ?_ | refine Qf ?_ _)); refine ZC (cs := #[.slice oX jr.length oU, .slice none 0 0]) ?_ 1 _ rfl; (with_reducible repeat (first | refine Qg ?_ _ | refine Qh ?_ | refine Qf ?_ _)); refine ZC (cs := #[.slice none 0 0, .slice none 0 0]) ?_ 0 _ rfl; (with_reducible repeat (first | refine Qg ?_ _ | refine Qh ?_ | refine Qf ?_ _)); exact ab.out) Try.underlying24 rfl (by kernel_rfl)) rfl ?_; exact ⟨_, _, by first | rfl | (simp [Qo, Qn] <;> rfl) | (simp [*, Qo, Qn] <;> rfl), by (with_reducible repeat (first | apply Kd.N_alloc | apply Kd.Ze | apply Kd.Zn)); exact Kd.QZ (Kd.ZI (p := ⟨af, 1, none⟩) (Kd.ZI (p := ⟨af, 0, none⟩) (Kd.QZ bN.out (fun k_ hk => (⟨hk, hk.1.1.2⟩ : _ ∧ k_ ≠ af))) (fun _ hk => hk.2) (.slice oX jr.length oU)) (fun _ hk => hk.2) (.slice tS eT.length tH)) (fun _ hk => ⟨hk.1.1.1.1, hk.1.2⟩), by (with_reducible repeat (first | apply Kd.N_alloc | apply Kd.Ze | apply Kd.Zn)); exact Kd.QZ (Kd.ZI (p := ⟨af, 1, none⟩) (Kd.ZI (p := ⟨af, 0, none⟩) (Kd.QZ bP.out (fun k_ hk => (⟨hk, hk.2.2⟩ : _ ∧ k_ ≠ af))) (fun _ hk => hk.2) (.slice oX jr.length oU)) (fun _ hk => hk.2) (.slice tS eT.length tH)) (fun _ hk => ⟨hk.1.1, hk.1.2.1⟩), bB⟩
def ZJ.f (l0 : List Int) : Option (List Int) := (some (([] : List Int) : List Int)).bind fun eE => (if eE.length + l0.length < 17592186044416 then (some (eE ++ l0)) else (none))
set_option maxHeartbeats 8000000 in
set_option maxRecDepth 100000 in
theorem ZJ.calls (A0 : Option Addr) (n0 : Nat) (l0 : List Int) (r : List Int) (w : World) (hr0 : Kd.C (Kd.int .i64) w A0 l0.length l0) (hc0 : n0 ≤ l0.length) (h : ZJ.f l0 = some r) :
  Calls Try.prog 20 #[.slice A0 n0 l0.length] w fun e w' => ∃ v0_ : Value, e = .returned (v0_) ∧ Kd.R (Kd.int .i64) 3 w' w.heap.size (fun _ => True) v0_ r ∧ Below w.heap.size w w' := by
 have HR0 := aa.mk hr0; have HC0 := aa.mk hc0; clear hr0 hc0; have HB := aa.mk (Below.refl w.heap.size w); have H : ((some (([] : List Int) : List Int)).bind fun eE => (if eE.length + l0.length < 17592186044416 then (some (eE ++ l0)) else (none))) = some r := h; clear h; obtain ⟨eE, dU⟩ : ∃ y_ : List Int, y_ = (([] : List Int)) := ⟨_, rfl⟩; replace H : (if eE.length + l0.length < 17592186044416 then (some (eE ++ l0)) else (none)) = some r := by first | (rw [dU]; with_reducible exact H) | (have H2_ := (Option.bind_some _ _).symm.trans H; rw [dU]; with_reducible exact H2_) | (have H2_ := (Option.bind_some _ _).symm.trans H; with_reducible exact H2_) | with_reducible exact H | (rw [dU]; exact H) | exact H
 have fm := aa.mk dU; clear dU; by_cases c2 : eE.length + l0.length < 17592186044416
 ·rw [if_pos c2] at H; have pP := aa.mk c2; clear c2; obtain ⟨mi, eh⟩ : ∃ y_ : List Int, y_ = (eE ++ l0) := ⟨_, rfl⟩; replace H : (some mi) = some r := by first | (rw [eh]; with_reducible exact H) | (have H2_ := (Option.bind_some _ _).symm.trans H; rw [eh]; with_reducible exact H2_) | (have H2_ := (Option.bind_some _ _).symm.trans H; with_reducible exact H2_) | with_reducible exact H | (rw [eh]; exact H) | exact H
  have kO := aa.mk eh; clear eh; obtain rfl := Option.some.inj H; go_enter Try.func20, Try.ntmps20; go_wp2_with (first | ((with_reducible refine QD (N := 3) rfl ?_); refine Kd.YP (Kd.int .i64) _ 3 ?hg (N := 3) ?hd (xs := ([] : List Int)) (inner := []) (ok := fun _ => True) (okp := fun _ => True) ?hr ?hp (fun _ hk => hk) trivial (Below.refl _ _) (Nat.le_refl _) (by simp) ?_; (case hd => rfl); (case hg => rfl); (case hr => first | (go_simp; done) | (go_simp; rfl)); (case hp => exact (Reps.none _ _)); intro lz w3 ho4 hb hg_ hnew_; clear hg_ hnew_; (first | rw [← fm.out] at ho4 | (simp only [Int.reduceToNat] at ho4; rw [← fm.out] at ho4)); have bJ := aa.mk (Kd.Zk ho4 (Qe bB)); replace HB := aa.mk (Qd bB hb); clear hb ho4) | ((with_reducible refine ZM (b := .append) (xs := #[.tmp 3, .tmp 7]) rfl ?_); at_builtin; refine Kd.Yt (Kd.int .i64) (w0 := w) w.heap.size rfl (.tmp 3) (.tmp 7) 28 3 (.int .i64 0) 8 rfl Try.underlying28 info3 rfl (by decide) (by omega) lz eE l0 _ _ _ (fun _ => True) (fun _ => False) rfl rfl ?aO ?aR (fun _ _ h => h) (fun _ h => h.elim) ?aF ?aB ?aS ?aL ?_; (case aR => exact (Kd.Ql HR0.out HB.out)); (case aB => exact bB); (case aF => exact (fun _ _ => trivial)); (case aO => exact bJ.out); (case aS => exact (Qe bB)); (case aL => have := pP.out; omega); intro oR w5 ho hb hg hat; rw [← kO.out] at ho; replace HB := aa.mk (hb); have bV := aa.mk (ho); clear bJ; clear ho hb hg hat))
  go_ret; exact ⟨_, by first | rfl | (simp [Qo, Qn] <;> rfl) | (simp [*, Qo, Qn] <;> rfl), by (with_reducible repeat (first | apply Kd.R_alloc | apply Kd.R_drewN | apply Kd.Zb)); exact bV.out, bB⟩
 ·rw [if_neg c2] at H; exact absurd H (by simp)
def Qq.l0 : Nat → List (List Int) → List (List Int) → Int → Option ((List (List Int)))
 | 0, _, _, _ => none
 | k + 1, x0, x3, x4 => if x4 < (x0.length : Int) then (if 0 ≤ x4 then ((ZJ.f (Qt x0 x4)).bind fun t102 => (if x3.length < 5864062014805 then (Qq.l0 k x0 (x3 ++ [t102]) (wrap64 (x4 + 1))) else (none))) else (none)) else (some x3)
def Qq.f (k : Nat) (l0 : List (List Int)) : Option ((List (List Int))) := Qq.l0 k l0 ([] : List (List Int)) 0
set_option maxHeartbeats 8000000 in
set_option maxRecDepth 100000 in
theorem Qq.calls (k : Nat) (A0 : Option Addr) (n0 : Nat) (l0 : List (List Int)) (r : List (List Int)) (w : World) (hr0 : Kd.C Full.kd w A0 l0.length l0) (hc0 : n0 ≤ l0.length) (h : Qq.f k l0 = some r) :
  Calls Try.prog 17 #[.slice A0 n0 l0.length] w fun e w' => ∃ v0_ : Value, e = .returned (v0_) ∧ Kd.S (Kd.slice 3 (Kd.int .i64)) 28 w' w.heap.size (fun _ => True) v0_ r ∧ Below w.heap.size w w' := by
 have HR0 := aa.mk hr0; have HC0 := aa.mk hc0; clear hr0 hc0; have HB := aa.mk (Below.refl w.heap.size w); have H : (Qq.l0 k l0 ([] : List (List Int)) 0) = some r := h; clear h; have H' := aa.mk H; clear H; go_enter Try.func17, Try.ntmps17; go_wp2; go_loopg [3, 4] k (fun kq v3 v4 w' => ∃ (eF : List (List Int)) (ck : Int), v4 = .int .i64 ck ∧ aa (Qq.l0 kq l0 eF ck = some r) ∧ aa (kq ≤ k) ∧ aa (Kd.S (Kd.slice 3 (Kd.int .i64)) 28 w' w.heap.size (fun _ => True) v3 eF) ∧ aa (Below w.heap.size w w'))
 case atStart => exact ⟨(([] : List (List Int))), (0), (by first | rfl | (simp; done) | (simp [*]; done)), H', ⟨Nat.le_refl _⟩, ⟨by first | exact Kd.Yj _ _ _ _ _ | exact Kd.Yh _ _ _ _ _ | exact Kd.V_nil _ _ _ _ _ | exact Kd.Q_nil _ _ _ _ _ | exact Kd.Yb _ _ _ _ _⟩, ⟨bB⟩⟩
 case round =>
  clear H'; try clear c1
  obtain ⟨eF, ck, rfl, HA, HK1, bT, HB⟩ := hrel; cases gk with
  | zero => exact absurd HA.out (by simp [Qq.l0])
  | succ k1 =>
   have H := HA.out; clear HA; simp only [Qq.l0] at H; by_cases c2 : ck < (l0.length : Int)
   ·rw [if_pos c2] at H; have pE : decide (ck < (l0.length : Int)) = true := decide_eq_true c2; clear c2; by_cases c3 : 0 ≤ ck
    ·rw [if_pos c3] at H; have cK : decide (0 ≤ ck) = true := decide_eq_true c3; clear c3; replace H := Option.bind_eq_some_iff.mp H; obtain ⟨t102, A40, H⟩ := H; replace H : (if eF.length < 5864062014805 then (Qq.l0 k1 l0 (eF ++ [t102]) (wrap64 (ck + 1))) else (none)) = some r := H; have A4 := aa.mk A40; clear A40; by_cases c5 : eF.length < 5864062014805
     ·rw [if_pos c5] at H; have tJ := aa.mk c5; clear c5; obtain ⟨gD, dF⟩ : ∃ y_ : List (List Int), y_ = (eF ++ [t102]) := ⟨_, rfl⟩; replace H : (Qq.l0 k1 l0 gD (wrap64 (ck + 1))) = some r := by first | (rw [dF]; with_reducible exact H) | (have H2_ := (Option.bind_some _ _).symm.trans H; rw [dF]; with_reducible exact H2_) | (have H2_ := (Option.bind_some _ _).symm.trans H; with_reducible exact H2_) | with_reducible exact H | (rw [dF]; exact H) | exact H
      have jJ := aa.mk dF; clear dF; have H' := aa.mk H; clear H; have bZ : 0 ≤ (ck : Int) := of_decide_eq_true (by assumption); have bY : ck < (l0.length : Int) := of_decide_eq_true (by assumption); obtain ⟨gf, iF, iD, eK, b8, cT, cU⟩ := Full.at_ HR0.out ck bZ bY; cases eK; replace b8 := (HB.out.cell (World.block_lt_of_cell? w _ b8)).trans b8; have cM := aa.mk cU; have cN := aa.mk cT; clear cU cT; replace bZ := eq_true bZ; replace bY := eq_true bY; go_wp2_with (first | ((with_reducible refine Qk (f := 20) rfl ?_); refine QE (some 20) rfl rfl Try.func20 (by kernel_rfl) rfl #[.slice iF iD (Qt l0 ck).length] rfl hA ?_; (with_reducible refine (ZJ.calls _ _ (Qt l0 ck) t102 _ ?aj ?ai A4.out).mono ?_); (case aj => exact (Kd.Ql cM.out HB.out)); (case ai => exact cN.out); rintro e w6 ⟨o0, rfl, ho0, hb⟩; refine ⟨_, rfl, ?_⟩; replace bT := aa.mk (Kd.Zo bT.out (Kd.Q9 ho0) hb); have de := aa.mk (Kd.Zk ho0 (Qe bB)); replace HB := aa.mk (Qd bB hb); (try clear hb); (try clear hb2); (try clear hk); (try clear hi); (try clear ho0); obtain ⟨Ao8, co8, eo8⟩ := Kd.Zs de.out; subst eo8) | ((with_reducible refine ZM (b := .append) (xs := #[.tmp 15, .tmp 21]) rfl ?_); at_builtin; refine Kd.UF (Kd.slice 3 (Kd.int .i64)) (w0 := w) w.heap.size rfl (.tmp 15) (.tmp 21) 22 28 (.slice none 0 0) 24 rfl Try.underlying22 info28 rfl (by decide) (by omega) u3 eF t102 [.slice Ao8 t102.length co8] (fun _ => True) (fun k_ => some k_ = (.slice Ao8 t102.length co8 : Value).ownBlock) rfl rfl ?aP (fun k_ hk_ => ((Kd.Zm (ok' := fun k_ => ((fun _ => True)) k_ ∧ some k_ ≠ (u3 : Value).ownBlock) (Kd.ZD (de.out) (Kd.Vl bT.out) (by decide)) (fun k_ hk => ⟨trivial, hk.2⟩))).1 k_ hk_.symm) ?aF ?aO ?aB ?aS ?aL ?_; (case aP => exact Kd.M_row (Kd.Zm (Kd.Ub rfl (Kd.Zm (ok' := fun k_ => ((fun _ => True)) k_ ∧ some k_ ≠ (u3 : Value).ownBlock) (Kd.ZD (de.out) (Kd.Vl bT.out) (by decide)) (fun k_ hk => ⟨trivial, hk.2⟩))) (fun _ h_ => h_))); (case aB => exact bB); (case aF => exact (fun _ _ => trivial)); (case aO => exact (by (with_reducible repeat (first | apply Kd.S_alloc | apply Kd.S_drewN | apply Kd.S_drew)); exact Kd.Jr bT.out (fun k_ hk => ⟨trivial, fun e_ => hk.2 e_⟩))); (case aS => exact (Qe bB)); (case aL => have := tJ.out; omega); intro p9 w7 ho hb hg hat; rw [← jJ.out] at ho; replace HB := aa.mk (hb); have eS := aa.mk (ho); clear de bT; clear ho hb hg hat))
      go_roundg k1
      case measure => have := HK1.out; omega
      case rel => exact ⟨(gD), (wrap64 (ck + 1)), (by first | rfl | (simp; done) | (simp [*]; done)), H', ⟨by have := HK1.out; omega⟩, ⟨by (with_reducible repeat (first | apply Kd.S_alloc | apply Kd.S_drewN | apply Kd.S_drew)); exact eS.out⟩, ⟨bB⟩⟩
     ·rw [if_neg c5] at H; exact absurd H (by simp)
    ·rw [if_neg c3] at H; exact absurd H (by simp)
   ·rw [if_neg c2] at H; have pE : decide (ck < (l0.length : Int)) = false := decide_eq_false c2; clear c2; obtain rfl := Option.some.inj H; go_wp2; go_ret; exact ⟨_, by first | rfl | (simp [Qo, Qn] <;> rfl) | (simp [*, Qo, Qn] <;> rfl), by (with_reducible repeat (first | apply Kd.S_alloc | apply Kd.S_drewN | apply Kd.S_drew)); exact bT.out, bB⟩
def QR.l0 : Nat → List Int → List Int → Int → Option (Bool)
 | 0, _, _, _ => none
 | k + 1, x0, x1, x5 => if x5 < (x1.length : Int) then (if 0 ≤ x5 then (if x5 < (x0.length : Int) then (if (rd x0 x5) = (rd x1 x5) then (QR.l0 k x0 x1 (wrap64 (x5 + 1))) else (some false)) else (none)) else (none)) else (some true)
def QR.f (k : Nat) (l0 : List Int) (l1 : List Int) : Option (Bool) := if (l0.length : Int) = (l1.length : Int) then (QR.l0 k l0 l1 0) else (some false)
set_option maxHeartbeats 8000000 in
set_option maxRecDepth 100000 in
theorem QR.calls (k : Nat) (A0 : Option Addr) (c0 : Nat) (l0 : List Int) (A1 : Option Addr) (n1 : Nat) (l1 : List Int) (r : Bool) (w : World) (hr0 : Kd.C (Kd.int .i64) w A0 l0.length l0) (hc0 : l0.length ≤ c0) (hr1 : Kd.C (Kd.int .i64) w A1 l1.length l1) (hc1 : n1 ≤ l1.length) (h : QR.f k l0 l1 = some r) :
  Calls Try.prog 22 #[.slice A0 l0.length c0, .slice A1 n1 l1.length] w fun e w' => e = .returned (.bool r) ∧ Drawn0 w w' := by
 have HR0 := aa.mk hr0; have HC0 := aa.mk hc0; clear hr0 hc0; have HR1 := aa.mk hr1; have HC1 := aa.mk hc1; clear hr1 hc1; have H : (if (l0.length : Int) = (l1.length : Int) then (QR.l0 k l0 l1 0) else (some false)) = some r := h; clear h; by_cases c3 : (l0.length : Int) = (l1.length : Int)
 ·rw [if_pos c3] at H; have cK : ((l0.length : Int) == (l1.length : Int)) = true := beq_iff_eq.mpr c3; have dD : ((l0.length : Int) != (l1.length : Int)) = false := bne_eq_false_iff_eq.mpr c3; have jg : (l0.length == l1.length) = true := by first | simpa using c3 | (simp at c3 ⊢; omega)
  clear c3; have H' := aa.mk H; clear H; go_enter Try.func22, Try.ntmps22; go_wp2; repeat (go_quiet (fail); try go_wp2)
  go_loopg [5] k (fun kq v5 w' => ∃ (aN : Int), v5 = .int .i64 aN ∧ aa (QR.l0 kq l0 l1 aN = some r) ∧ aa (kq ≤ k) ∧ Drawn0 w w')
  case atStart => exact ⟨(0), (by first | rfl | (simp; done) | (simp [*]; done)), H', ⟨Nat.le_refl _⟩, by repeat (first | exact Drawn0.refl _ | apply Drawn0.step)⟩
  case round =>
   clear H'; try clear c1
   try clear c2
   try clear p2
   try clear c3
   try clear cK
   try clear dD
   try clear jg
   obtain ⟨aN, rfl, HA, HK1, ⟨m1, rfl⟩⟩ := hrel; cases gk with
   | zero => exact absurd HA.out (by simp [QR.l0])
   | succ k1 =>
    have H := HA.out; clear HA; simp only [QR.l0] at H; by_cases c4 : aN < (l1.length : Int)
    ·rw [if_pos c4] at H; have cn : decide (aN < (l1.length : Int)) = true := decide_eq_true c4; clear c4; by_cases c5 : 0 ≤ aN
     ·rw [if_pos c5] at H; have fl : decide (0 ≤ aN) = true := decide_eq_true c5; clear c5; by_cases c6 : aN < (l0.length : Int)
      ·rw [if_pos c6] at H; have gZ : decide (aN < (l0.length : Int)) = true := decide_eq_true c6; clear c6; by_cases c7 : (rd l0 aN) = (rd l1 aN)
       ·rw [if_pos c7] at H; have jU : ((rd l0 aN) == (rd l1 aN)) = true := beq_iff_eq.mpr c7; have np : ((rd l0 aN) != (rd l1 aN)) = false := bne_eq_false_iff_eq.mpr c7; clear c7; have H' := aa.mk H; clear H; have bZ : 0 ≤ (aN : Int) := of_decide_eq_true (by assumption); have bY : aN < (l0.length : Int) := of_decide_eq_true (by assumption); obtain ⟨gf, eK, b8⟩ := Kd.Zi HR0.out aN bZ bY; cases eK; replace bZ := eq_true bZ; replace bY := eq_true bY; have bS : 0 ≤ (aN : Int) := of_decide_eq_true (by assumption); have bR : aN < (l1.length : Int) := of_decide_eq_true (by assumption); obtain ⟨bX, eB, bh⟩ := Kd.Zi HR1.out aN bS bR; cases eB; replace bS := eq_true bS; replace bR := eq_true bR; go_wp2; repeat (go_quiet (fail); try go_wp2)
        go_roundg k1
        case measure => have := HK1.out; omega
        case rel => exact ⟨(wrap64 (aN + 1)), (by first | rfl | (simp; done) | (simp [*]; done)), H', ⟨by have := HK1.out; omega⟩, by repeat (first | exact Drawn0.refl _ | apply Drawn0.step)⟩
       ·rw [if_neg c7] at H; have jU : ((rd l0 aN) == (rd l1 aN)) = false := beq_eq_false_iff_ne.mpr c7; have np : ((rd l0 aN) != (rd l1 aN)) = true := bne_iff_ne.mpr c7; obtain rfl := Option.some.inj H; have bZ : 0 ≤ (aN : Int) := of_decide_eq_true (by assumption); have bY : aN < (l0.length : Int) := of_decide_eq_true (by assumption); obtain ⟨gf, eK, b8⟩ := Kd.Zi HR0.out aN bZ bY; cases eK; replace bZ := eq_true bZ; replace bY := eq_true bY; have bS : 0 ≤ (aN : Int) := of_decide_eq_true (by assumption); have bR : aN < (l1.length : Int) := of_decide_eq_true (by assumption); obtain ⟨bX, eB, bh⟩ := Kd.Zi HR1.out aN bS bR; cases eB; replace bS := eq_true bS; replace bR := eq_true bR; go_wp2; repeat (go_quiet (fail); try go_wp2)
        go_ret; exact ⟨by first | rfl | (simp; done) | (simp [*]; done), by repeat (first | exact Drawn0.refl _ | apply Drawn0.step)⟩
      ·rw [if_neg c6] at H; exact absurd H (by simp)
     ·rw [if_neg c5] at H; exact absurd H (by simp)
    ·rw [if_neg c4] at H; have cn : decide (aN < (l1.length : Int)) = false := decide_eq_false c4; clear c4; obtain rfl := Option.some.inj H; go_wp2; repeat (go_quiet (fail); try go_wp2)
     go_ret; exact ⟨by first | rfl | (simp; done) | (simp [*]; done), by repeat (first | exact Drawn0.refl _ | apply Drawn0.step)⟩
 ·rw [if_neg c3] at H; have cK : ((l0.length : Int) == (l1.length : Int)) = false := beq_eq_false_iff_ne.mpr c3; have dD : ((l0.length : Int) != (l1.length : Int)) = true := bne_iff_ne.mpr c3; have jg : (l0.length == l1.length) = false := by first | simpa using c3 | (simp at c3 ⊢; omega)
  obtain rfl := Option.some.inj H; go_enter Try.func22, Try.ntmps22; go_wp2; repeat (go_quiet (fail); try go_wp2)
  go_ret; exact ⟨by first | rfl | (simp; done) | (simp [*]; done), by repeat (first | exact Drawn0.refl _ | apply Drawn0.step)⟩
def Qj.l0 : Nat → List (List Int) → List (List Int) → Int → Option (Bool)
 | 0, _, _, _ => none
 | k + 1, x0, x1, x5 => if x5 < (x1.length : Int) then (if 0 ≤ x5 then (if x5 < (x0.length : Int) then ((QR.f k (Qt x0 x5) (Qt x1 x5)).bind fun t103 => (if t103 = true then (Qj.l0 k x0 x1 (wrap64 (x5 + 1))) else (some false))) else (none)) else (none)) else (some true)
def Qj.f (k : Nat) (l0 : List (List Int)) (l1 : List (List Int)) : Option (Bool) := if (l0.length : Int) = (l1.length : Int) then (Qj.l0 k l0 l1 0) else (some false)
set_option maxHeartbeats 8000000 in
set_option maxRecDepth 100000 in
theorem Qj.calls (k : Nat) (A0 : Option Addr) (c0 : Nat) (l0 : List (List Int)) (A1 : Option Addr) (n1 : Nat) (l1 : List (List Int)) (r : Bool) (w : World) (hr0 : Kd.C (Kd.slice 3 (Kd.int .i64)) w A0 l0.length l0) (hc0 : l0.length ≤ c0) (hr1 : Kd.C Full.kd w A1 l1.length l1) (hc1 : n1 ≤ l1.length) (h : Qj.f k l0 l1 = some r) :
  Calls Try.prog 19 #[.slice A0 l0.length c0, .slice A1 n1 l1.length] w fun e w' => e = .returned (.bool r) ∧ Drawn0 w w' := by
 have HR0 := aa.mk hr0; have HC0 := aa.mk hc0; clear hr0 hc0; have HR1 := aa.mk hr1; have HC1 := aa.mk hc1; clear hr1 hc1; have H : (if (l0.length : Int) = (l1.length : Int) then (Qj.l0 k l0 l1 0) else (some false)) = some r := h; clear h; by_cases c3 : (l0.length : Int) = (l1.length : Int)
 ·rw [if_pos c3] at H; have cK : ((l0.length : Int) == (l1.length : Int)) = true := beq_iff_eq.mpr c3; have dD : ((l0.length : Int) != (l1.length : Int)) = false := bne_eq_false_iff_eq.mpr c3; have jg : (l0.length == l1.length) = true := by first | simpa using c3 | (simp at c3 ⊢; omega)
  clear c3; have H' := aa.mk H; clear H; go_enter Try.func19, Try.ntmps19; go_wp2; repeat (go_quiet (fail); try go_wp2)
  go_loopg [5] k (fun kq v5 w' => ∃ (aN : Int), v5 = .int .i64 aN ∧ aa (Qj.l0 kq l0 l1 aN = some r) ∧ aa (kq ≤ k) ∧ Drawn0 w w')
  case atStart => exact ⟨(0), (by first | rfl | (simp; done) | (simp [*]; done)), H', ⟨Nat.le_refl _⟩, by repeat (first | exact Drawn0.refl _ | apply Drawn0.step)⟩
  case round =>
   clear H'; try clear c1
   try clear p2
   try clear c3
   try clear cK
   try clear dD
   try clear jg
   obtain ⟨aN, rfl, HA, HK1, ⟨m1, rfl⟩⟩ := hrel; cases gk with
   | zero => exact absurd HA.out (by simp [Qj.l0])
   | succ k1 =>
    have H := HA.out; clear HA; simp only [Qj.l0] at H; by_cases c4 : aN < (l1.length : Int)
    ·rw [if_pos c4] at H; have cn : decide (aN < (l1.length : Int)) = true := decide_eq_true c4; clear c4; by_cases c5 : 0 ≤ aN
     ·rw [if_pos c5] at H; have fl : decide (0 ≤ aN) = true := decide_eq_true c5; clear c5; by_cases c6 : aN < (l0.length : Int)
      ·rw [if_pos c6] at H; have gZ : decide (aN < (l0.length : Int)) = true := decide_eq_true c6; clear c6; replace H := Option.bind_eq_some_iff.mp H; obtain ⟨t103, A70, H⟩ := H; replace H : (if t103 = true then (Qj.l0 k1 l0 l1 (wrap64 (aN + 1))) else (some false)) = some r := H; have A7 := aa.mk A70; clear A70; by_cases c8 : t103 = true
       ·subst c8; have H1 : (Qj.l0 k1 l0 l1 (wrap64 (aN + 1))) = some r := by rw [if_pos rfl] at H; exact H
        clear H; have H := H1; clear H1; have H' := aa.mk H; clear H; have bZ : 0 ≤ (aN : Int) := of_decide_eq_true (by assumption); have bY : aN < (l0.length : Int) := of_decide_eq_true (by assumption); obtain ⟨gf, iF, iD, eK, b8, cT, cU⟩ := ZH HR0.out aN bZ bY; cases eK; have cM := aa.mk cU; have cN := aa.mk cT; clear cU cT; replace bZ := eq_true bZ; replace bY := eq_true bY; have bS : 0 ≤ (aN : Int) := of_decide_eq_true (by assumption); have bR : aN < (l1.length : Int) := of_decide_eq_true (by assumption); obtain ⟨bX, eW, eV, eB, bh, cA, cB⟩ := Full.at_ HR1.out aN bS bR; cases eB; have cL := aa.mk cB; have cR := aa.mk cA; clear cB cA; replace bS := eq_true bS; replace bR := eq_true bR; go_wp2_with (first | (go_at_call 22; (with_reducible refine (QR.calls k1 _ _ (Qt l0 aN) _ _ (Qt l1 aN) true _ ?aj ?ai ?au ?ar A7.out).mono ?_); (case aj => exact cM.out); (case ai => exact cN.out); (case au => exact cL.out); (case ar => exact cR.out); rintro e w' ⟨rfl, ⟨nd, rfl⟩⟩; (try first | exact ⟨rfl, _, World.drewN_drewN _ _ _⟩ | exact ⟨rfl, _, Eq.trans (World.drewN_drewN _ _ _) (congrArg (World.drewN _) (Nat.add_assoc _ _ _))⟩)))
        repeat (go_quiet (first | (go_at_call 22; (with_reducible refine (QR.calls k1 _ _ (Qt l0 aN) _ _ (Qt l1 aN) true _ ?aj ?ai ?au ?ar A7.out).mono ?_); (case aj => exact cM.out); (case ai => exact cN.out); (case au => exact cL.out); (case ar => exact cR.out); rintro e w' ⟨rfl, ⟨nd, rfl⟩⟩; (try first | exact ⟨rfl, _, World.drewN_drewN _ _ _⟩ | exact ⟨rfl, _, Eq.trans (World.drewN_drewN _ _ _) (congrArg (World.drewN _) (Nat.add_assoc _ _ _))⟩))); try go_wp2_with (first | (go_at_call 22; (with_reducible refine (QR.calls k1 _ _ (Qt l0 aN) _ _ (Qt l1 aN) true _ ?aj ?ai ?au ?ar A7.out).mono ?_); (case aj => exact cM.out); (case ai => exact cN.out); (case au => exact cL.out); (case ar => exact cR.out); rintro e w' ⟨rfl, ⟨nd, rfl⟩⟩; (try first | exact ⟨rfl, _, World.drewN_drewN _ _ _⟩ | exact ⟨rfl, _, Eq.trans (World.drewN_drewN _ _ _) (congrArg (World.drewN _) (Nat.add_assoc _ _ _))⟩))))
        go_roundg k1
        case measure => have := HK1.out; omega
        case rel => exact ⟨(wrap64 (aN + 1)), (by first | rfl | (simp; done) | (simp [*]; done)), H', ⟨by have := HK1.out; omega⟩, by repeat (first | exact Drawn0.refl _ | apply Drawn0.step)⟩
       ·replace c8 := Bool.eq_false_iff.mpr c8; subst c8; have H1 : (some false) = some r := by rw [if_neg (show ¬ (false = true) by decide)] at H; exact H
        clear H; have H := H1; clear H1; obtain rfl := Option.some.inj H; have bZ : 0 ≤ (aN : Int) := of_decide_eq_true (by assumption); have bY : aN < (l0.length : Int) := of_decide_eq_true (by assumption); obtain ⟨gf, iF, iD, eK, b8, cT, cU⟩ := ZH HR0.out aN bZ bY; cases eK; have cM := aa.mk cU; have cN := aa.mk cT; clear cU cT; replace bZ := eq_true bZ; replace bY := eq_true bY; have bS : 0 ≤ (aN : Int) := of_decide_eq_true (by assumption); have bR : aN < (l1.length : Int) := of_decide_eq_true (by assumption); obtain ⟨bX, eW, eV, eB, bh, cA, cB⟩ := Full.at_ HR1.out aN bS bR; cases eB; have cL := aa.mk cB; have cR := aa.mk cA; clear cB cA; replace bS := eq_true bS; replace bR := eq_true bR; go_wp2_with (first | (go_at_call 22; (with_reducible refine (QR.calls k1 _ _ (Qt l0 aN) _ _ (Qt l1 aN) false _ ?aj ?ai ?au ?ar A7.out).mono ?_); (case aj => exact cM.out); (case ai => exact cN.out); (case au => exact cL.out); (case ar => exact cR.out); rintro e w' ⟨rfl, ⟨nd, rfl⟩⟩; (try first | exact ⟨rfl, _, World.drewN_drewN _ _ _⟩ | exact ⟨rfl, _, Eq.trans (World.drewN_drewN _ _ _) (congrArg (World.drewN _) (Nat.add_assoc _ _ _))⟩)))
        repeat (go_quiet (first | (go_at_call 22; (with_reducible refine (QR.calls k1 _ _ (Qt l0 aN) _ _ (Qt l1 aN) false _ ?aj ?ai ?au ?ar A7.out).mono ?_); (case aj => exact cM.out); (case ai => exact cN.out); (case au => exact cL.out); (case ar => exact cR.out); rintro e w' ⟨rfl, ⟨nd, rfl⟩⟩; (try first | exact ⟨rfl, _, World.drewN_drewN _ _ _⟩ | exact ⟨rfl, _, Eq.trans (World.drewN_drewN _ _ _) (congrArg (World.drewN _) (Nat.add_assoc _ _ _))⟩))); try go_wp2_with (first | (go_at_call 22; (with_reducible refine (QR.calls k1 _ _ (Qt l0 aN) _ _ (Qt l1 aN) false _ ?aj ?ai ?au ?ar A7.out).mono ?_); (case aj => exact cM.out); (case ai => exact cN.out); (case au => exact cL.out); (case ar => exact cR.out); rintro e w' ⟨rfl, ⟨nd, rfl⟩⟩; (try first | exact ⟨rfl, _, World.drewN_drewN _ _ _⟩ | exact ⟨rfl, _, Eq.trans (World.drewN_drewN _ _ _) (congrArg (World.drewN _) (Nat.add_assoc _ _ _))⟩))))
        go_ret; exact ⟨by first | rfl | (simp; done) | (simp [*]; done), by repeat (first | exact Drawn0.refl _ | apply Drawn0.step)⟩
      ·rw [if_neg c6] at H; exact absurd H (by simp)
     ·rw [if_neg c5] at H; exact absurd H (by simp)
    ·rw [if_neg c4] at H; have cn : decide (aN < (l1.length : Int)) = false := decide_eq_false c4; clear c4; obtain rfl := Option.some.inj H; go_wp2; repeat (go_quiet (fail); try go_wp2)
     go_ret; exact ⟨by first | rfl | (simp; done) | (simp [*]; done), by repeat (first | exact Drawn0.refl _ | apply Drawn0.step)⟩
 ·rw [if_neg c3] at H; have cK : ((l0.length : Int) == (l1.length : Int)) = false := beq_eq_false_iff_ne.mpr c3; have dD : ((l0.length : Int) != (l1.length : Int)) = true := bne_iff_ne.mpr c3; have jg : (l0.length == l1.length) = false := by first | simpa using c3 | (simp at c3 ⊢; omega)
  obtain rfl := Option.some.inj H; go_enter Try.func19, Try.ntmps19; go_wp2; repeat (go_quiet (fail); try go_wp2)
  go_ret; exact ⟨by first | rfl | (simp; done) | (simp [*]; done), by repeat (first | exact Drawn0.refl _ | apply Drawn0.step)⟩
def Q6.l0 : Nat → List (List Int) → List (List Int) → Int → Int → Option ((List (List Int)))
 | 0, _, _, _, _ => none
 | k + 1, x3, x6, x7, x8 => if x8 < x7 then (if 0 ≤ x8 then (if x8 < (x6.length : Int) then ((Zx.f (Qt x6 x8)).bind fun t102 => (if x3.length < 5864062014805 then (Q6.l0 k (x3 ++ [t102]) x6 x7 (wrap64 (x8 + 1))) else (none))) else (none)) else (none)) else (some x3)
def Q6.f (k : Nat) (l0 : List (List Int)) : Option ((List (List Int))) := Q6.l0 k ([] : List (List Int)) l0 (l0.length : Int) 0
set_option maxHeartbeats 8000000 in
set_option maxRecDepth 100000 in
theorem Q6.calls (k : Nat) (A0 : Option Addr) (c0 : Nat) (l0 : List (List Int)) (r : List (List Int)) (w : World) (hr0 : Kd.C (Kd.slice 3 (Kd.int .i64)) w A0 l0.length l0) (hc0 : l0.length ≤ c0) (h : Q6.f k l0 = some r) :
  Calls Try.prog 90 #[.slice A0 l0.length c0] w fun e w' => ∃ v0_ : Value, e = .returned (v0_) ∧ Kd.S (Kd.slice 3 (Kd.int .i64)) 28 w' w.heap.size (fun _ => True) v0_ r ∧ Below w.heap.size w w' := by
 have HR0 := aa.mk hr0; have HC0 := aa.mk hc0; clear hr0 hc0; have HB := aa.mk (Below.refl w.heap.size w); have H : (Q6.l0 k ([] : List (List Int)) l0 (l0.length : Int) 0) = some r := h; clear h; have H' := aa.mk H; clear H; go_enter Try.func90, Try.ntmps90; go_wp2; go_loopg [3, 8] k (fun kq v3 v8 w' => ∃ (eF : List (List Int)) (dc : Int), v8 = .int .i64 dc ∧ aa (Q6.l0 kq eF l0 (l0.length : Int) dc = some r) ∧ aa (kq ≤ k) ∧ aa (Kd.S (Kd.slice 3 (Kd.int .i64)) 28 w' w.heap.size (fun _ => True) v3 eF) ∧ aa (Below w.heap.size w w'))
 case atStart => exact ⟨(([] : List (List Int))), (0), (by first | rfl | (simp; done) | (simp [*]; done)), H', ⟨Nat.le_refl _⟩, ⟨by first | exact Kd.Yj _ _ _ _ _ | exact Kd.Yh _ _ _ _ _ | exact Kd.V_nil _ _ _ _ _ | exact Kd.Q_nil _ _ _ _ _ | exact Kd.Yb _ _ _ _ _⟩, ⟨bB⟩⟩
 case round =>
  clear H'; obtain ⟨eF, dc, rfl, HA, HK1, bT, HB⟩ := hrel; cases gk with
  | zero => exact absurd HA.out (by simp [Q6.l0])
  | succ k1 =>
   have H := HA.out; clear HA; simp only [Q6.l0] at H; by_cases c2 : dc < (l0.length : Int)
   ·rw [if_pos c2] at H; have pE : decide (dc < (l0.length : Int)) = true := decide_eq_true c2; clear c2; by_cases c3 : 0 ≤ dc
    ·rw [if_pos c3] at H; have cK : decide (0 ≤ dc) = true := decide_eq_true c3; clear c3; by_cases c4 : dc < (l0.length : Int)
     ·rw [if_pos c4] at H; have cn : decide (dc < (l0.length : Int)) = true := decide_eq_true c4; clear c4; replace H := Option.bind_eq_some_iff.mp H; obtain ⟨t102, A50, H⟩ := H; replace H : (if eF.length < 5864062014805 then (Q6.l0 k1 (eF ++ [t102]) l0 (l0.length : Int) (wrap64 (dc + 1))) else (none)) = some r := H; have A5 := aa.mk A50; clear A50; by_cases c6 : eF.length < 5864062014805
      ·rw [if_pos c6] at H; have Dt := aa.mk c6; clear c6; obtain ⟨gD, dF⟩ : ∃ y_ : List (List Int), y_ = (eF ++ [t102]) := ⟨_, rfl⟩; replace H : (Q6.l0 k1 gD l0 (l0.length : Int) (wrap64 (dc + 1))) = some r := by first | (rw [dF]; with_reducible exact H) | (have H2_ := (Option.bind_some _ _).symm.trans H; rw [dF]; with_reducible exact H2_) | (have H2_ := (Option.bind_some _ _).symm.trans H; with_reducible exact H2_) | with_reducible exact H | (rw [dF]; exact H) | exact H
       have jJ := aa.mk dF; clear dF; have H' := aa.mk H; clear H; have bZ : 0 ≤ (dc : Int) := of_decide_eq_true (by assumption); have bY : dc < (l0.length : Int) := of_decide_eq_true (by assumption); obtain ⟨gf, iF, iD, eK, b8, cT, cU⟩ := ZH HR0.out dc bZ bY; cases eK; replace b8 := (HB.out.cell (World.block_lt_of_cell? w _ b8)).trans b8; have cM := aa.mk cU; have cN := aa.mk cT; clear cU cT; replace bZ := eq_true bZ; replace bY := eq_true bY; go_wp2_with (first | ((with_reducible refine Qk (f := 79) rfl ?_); refine QE (some 14) rfl rfl Try.func79 (by kernel_rfl) rfl #[.slice iF (Qt l0 dc).length iD] rfl hA ?_; (with_reducible refine (Zx.calls _ _ (Qt l0 dc) t102 _ ?aj ?ai A5.out).mono ?_); (case aj => exact (Kd.Ql cM.out HB.out)); (case ai => exact cN.out); rintro e w7 ⟨o0, rfl, ho0, hb⟩; refine ⟨_, rfl, ?_⟩; replace bT := aa.mk (Kd.Zo bT.out (Kd.Q9 ho0) hb); have de := aa.mk (Kd.Zk ho0 (Qe bB)); replace HB := aa.mk (Qd bB hb); (try clear hb); (try clear hb2); (try clear hk); (try clear hi); (try clear ho0); obtain ⟨Ao9, co9, eo9⟩ := Kd.Zs de.out; subst eo9) | ((with_reducible refine ZM (b := .append) (xs := #[.tmp 12, .tmp 15]) rfl ?_); at_builtin; refine Kd.UF (Kd.slice 3 (Kd.int .i64)) (w0 := w) w.heap.size rfl (.tmp 12) (.tmp 15) 22 28 (.slice none 0 0) 24 rfl Try.underlying22 info28 rfl (by decide) (by omega) u3 eF t102 [.slice Ao9 t102.length co9] (fun _ => True) (fun k_ => some k_ = (.slice Ao9 t102.length co9 : Value).ownBlock) rfl rfl ?aP (fun k_ hk_ => ((Kd.Zm (ok' := fun k_ => ((fun _ => True)) k_ ∧ some k_ ≠ (u3 : Value).ownBlock) (Kd.ZD (de.out) (Kd.Vl bT.out) (by decide)) (fun k_ hk => ⟨trivial, hk.2⟩))).1 k_ hk_.symm) ?aF ?aO ?aB ?aS ?aL ?_; (case aP => exact Kd.M_row (Kd.Zm (Kd.Ub rfl (Kd.Zm (ok' := fun k_ => ((fun _ => True)) k_ ∧ some k_ ≠ (u3 : Value).ownBlock) (Kd.ZD (de.out) (Kd.Vl bT.out) (by decide)) (fun k_ hk => ⟨trivial, hk.2⟩))) (fun _ h_ => h_))); (case aB => exact bB); (case aF => exact (fun _ _ => trivial)); (case aO => exact (by (with_reducible repeat (first | apply Kd.S_alloc | apply Kd.S_drewN | apply Kd.S_drew)); exact Kd.Jr bT.out (fun k_ hk => ⟨trivial, fun e_ => hk.2 e_⟩))); (case aS => exact (Qe bB)); (case aL => have := Dt.out; omega); intro p9 w8 ho hb hg hat; rw [← jJ.out] at ho; replace HB := aa.mk (hb); have eS := aa.mk (ho); clear de bT; clear ho hb hg hat))
       go_roundg k1
       case measure => have := HK1.out; omega
       case rel => exact ⟨(gD), (wrap64 (dc + 1)), (by first | rfl | (simp; done) | (simp [*]; done)), H', ⟨by have := HK1.out; omega⟩, ⟨by (with_reducible repeat (first | apply Kd.S_alloc | apply Kd.S_drewN | apply Kd.S_drew)); exact eS.out⟩, ⟨bB⟩⟩
      ·rw [if_neg c6] at H; exact absurd H (by simp)
     ·rw [if_neg c4] at H; exact absurd H (by simp)
    ·rw [if_neg c3] at H; exact absurd H (by simp)
   ·rw [if_neg c2] at H; have pE : decide (dc < (l0.length : Int)) = false := decide_eq_false c2; clear c2; obtain rfl := Option.some.inj H; go_wp2; go_ret; exact ⟨_, by first | rfl | (simp [Qo, Qn] <;> rfl) | (simp [*, Qo, Qn] <;> rfl), by (with_reducible repeat (first | apply Kd.S_alloc | apply Kd.S_drewN | apply Kd.S_drew)); exact bT.out, bB⟩
end Go.Proofs.Ytdneelgnmnpanaa.P
end
