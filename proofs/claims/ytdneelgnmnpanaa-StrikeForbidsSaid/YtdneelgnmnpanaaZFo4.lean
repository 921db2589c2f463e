/- What the claim's last text wants, part 4: functions of the translation as Lean functions with their contracts, and plain theorems; no conditions beyond those that each theorem names. -/
import Derived.Test.YtdneelgnmnpanaaZFo3
set_option linter.unusedVariables false
set_option linter.unusedSimpArgs false
section
namespace Go.Proofs.Ytdneelgnmnpanaa.P
open Go.RowKit Go.Proofs.YtdneelgnmnpanaaW.PrintWords Go.Proofs.YtdneelgnmnpanaaW.PrintLast Go.Proofs.YtdneelgnmnpanaaW.PrintMore
attribute [local go_sem] max2_int min2_int max_two min_two max_three min_three max_four min_four
mutual
def Qn.l0 : Nat → List Int → List Int → List Int → List (List Int) → Int → Int → List (List Int) → List (List Int) → Option (List Int × List Int)
  | 0, _, _, _, _, _, _, _, _ => none
  | k + 1, x1, x6, x7, x29, x30, x31, ar, au => if x31 < x30 then (if 0 ≤ x31 then (if x31 < (x29.length : Int) then (Qn.l1 k x1 x6 x7 x31 x29 x30 x31 (Qt x29 x31) ((Qt x29 x31).length : Int) 0 ar au) else (none)) else (none)) else (Qn.l2 k x1 x6 x7 au (au.length : Int) 0 ar au)
def Qn.l1 : Nat → List Int → List Int → List Int → Int → List (List Int) → Int → Int → List Int → Int → Int → List (List Int) → List (List Int) → Option (List Int × List Int)
  | 0, _, _, _, _, _, _, _, _, _, _, _, _ => none
  | k + 1, x1, x6, x7, x8, x29, x30, x31, x36, x37, x38, ar, au => if x38 < x37 then (if 0 ≤ x38 then (if x38 < (x36.length : Int) then (if x38 < (x6.length : Int) then (if 0 ≤ x8 then (if x8 < (x1.length : Int) then (Qn.l1 k x1 (x6.set (x38 : Int).toNat (wrap64 ((rd x6 x38) + (wrap64 ((rd x1 x8) * (rd x36 x38)))))) x7 x8 x29 x30 x31 x36 x37 (wrap64 (x38 + 1)) ar au) else (none)) else (none)) else (none)) else (none)) else (none)) else (Qn.l0 k x1 x6 x7 x29 x30 (wrap64 (x31 + 1)) ar au)
def Qn.l2 : Nat → List Int → List Int → List Int → List (List Int) → Int → Int → List (List Int) → List (List Int) → Option (List Int × List Int)
  | 0, _, _, _, _, _, _, _, _ => none
  | k + 1, x1, x6, x7, x58, x59, x60, ar, au => if x60 < x59 then (if 0 ≤ x60 then (if x60 < (x58.length : Int) then (Qn.l3 k x1 x6 x7 x60 x58 x59 x60 (Qt x58 x60) ((Qt x58 x60).length : Int) 0 ar au) else (none)) else (none)) else (some (x6, x7))
def Qn.l3 : Nat → List Int → List Int → List Int → Int → List (List Int) → Int → Int → List Int → Int → Int → List (List Int) → List (List Int) → Option (List Int × List Int)
  | 0, _, _, _, _, _, _, _, _, _, _, _, _ => none
  | k + 1, x1, x6, x7, x12, x58, x59, x60, x65, x66, x67, ar, au => if x67 < x66 then (if 0 ≤ x67 then (if x67 < (x65.length : Int) then (if x67 < (x7.length : Int) then (if 0 ≤ (wrap64 ((ar.length : Int) + x12)) then (if (wrap64 ((ar.length : Int) + x12)) < (x1.length : Int) then (Qn.l3 k x1 x6 (x7.set (x67 : Int).toNat (wrap64 ((rd x7 x67) + (wrap64 ((rd x1 (wrap64 ((ar.length : Int) + x12))) * (rd x65 x67)))))) x12 x58 x59 x60 x65 x66 (wrap64 (x67 + 1)) ar au) else (none)) else (none)) else (none)) else (none)) else (none)) else (Qn.l2 k x1 x6 x7 x58 x59 (wrap64 (x60 + 1)) ar au)
end
def Qn.f (k : Nat) (ae : List (List Int)) (af : List (List Int)) (l1 : List Int) : Option (List Int × List Int) := if 0 < (ae.length : Int) then (if 0 ≤ ((Qt ae 0).length : Int) then (if (((Qt ae 0).length : Int) : Int).toNat ≤ 35184372088832 then (Qn.l0 k l1 (List.replicate (((Qt ae 0).length : Int) : Int).toNat 0) (List.replicate (((Qt ae 0).length : Int) : Int).toNat 0) ae (ae.length : Int) 0 ae af) else (none)) else (none)) else (none)
theorem Qn.ZM : ∀ k, (∀ y0 y1 y2 y3 y4 y5 y6 y7, LeO (Qn.l0 k y0 y1 y2 y3 y4 y5 y6 y7) (Qn.l0 (k + 1) y0 y1 y2 y3 y4 y5 y6 y7)) ∧ (∀ y0 y1 y2 y3 y4 y5 y6 y7 y8 y9 y10 y11, LeO (Qn.l1 k y0 y1 y2 y3 y4 y5 y6 y7 y8 y9 y10 y11) (Qn.l1 (k + 1) y0 y1 y2 y3 y4 y5 y6 y7 y8 y9 y10 y11)) ∧ (∀ y0 y1 y2 y3 y4 y5 y6 y7, LeO (Qn.l2 k y0 y1 y2 y3 y4 y5 y6 y7) (Qn.l2 (k + 1) y0 y1 y2 y3 y4 y5 y6 y7)) ∧ (∀ y0 y1 y2 y3 y4 y5 y6 y7 y8 y9 y10 y11, LeO (Qn.l3 k y0 y1 y2 y3 y4 y5 y6 y7 y8 y9 y10 y11) (Qn.l3 (k + 1) y0 y1 y2 y3 y4 y5 y6 y7 y8 y9 y10 y11))
  | 0 => ⟨fun _ _ _ _ _ _ _ _ r h => by simp [Qn.l0] at h, fun _ _ _ _ _ _ _ _ _ _ _ _ r h => by simp [Qn.l1] at h, fun _ _ _ _ _ _ _ _ r h => by simp [Qn.l2] at h, fun _ _ _ _ _ _ _ _ _ _ _ _ r h => by simp [Qn.l3] at h⟩
  | k + 1 => by
    obtain ⟨ih0, ih1, ih2, ih3⟩ := Qn.ZM k; refine ⟨?_, ?_, ?_, ?_⟩ <;> intros <;> (first | unfold Qn.l0 | unfold Qn.l1 | unfold Qn.l2 | unfold Qn.l3) <;> repeat' first | (with_reducible exact ih0 _ _ _ _ _ _ _ _) | (with_reducible exact ih1 _ _ _ _ _ _ _ _ _ _ _ _) | (with_reducible exact ih2 _ _ _ _ _ _ _ _) | (with_reducible exact ih3 _ _ _ _ _ _ _ _ _ _ _ _) | (with_reducible exact LeO.refl _) | (with_reducible exact LeO.none _) | (with_reducible refine LeO.ite ?_ ?_) | (with_reducible refine LeO.bind ?_ (fun _ => ?_)) | exact ih0 _ _ _ _ _ _ _ _ | exact ih1 _ _ _ _ _ _ _ _ _ _ _ _ | exact ih2 _ _ _ _ _ _ _ _ | exact ih3 _ _ _ _ _ _ _ _ _ _ _ _ | exact LeO.none _ | refine LeO.ite ?_ ?_ | refine LeO.bind ?_ (fun _ => ?_)
theorem Qn.mono : ∀ a0 a1 a2 k, LeO (Qn.f k a0 a1 a2) (Qn.f (k + 1) a0 a1 a2) := by
  intro a0 a1 a2 k; obtain ⟨ih0, ih1, ih2, ih3⟩ := Qn.ZM k; unfold Qn.f; repeat' first | (with_reducible exact ih0 _ _ _ _ _ _ _ _) | (with_reducible exact ih1 _ _ _ _ _ _ _ _ _ _ _ _) | (with_reducible exact ih2 _ _ _ _ _ _ _ _) | (with_reducible exact ih3 _ _ _ _ _ _ _ _ _ _ _ _) | (with_reducible exact LeO.refl _) | (with_reducible exact LeO.none _) | (with_reducible refine LeO.ite ?_ ?_) | (with_reducible refine LeO.bind ?_ (fun _ => ?_)) | exact ih0 _ _ _ _ _ _ _ _ | exact ih1 _ _ _ _ _ _ _ _ _ _ _ _ | exact ih2 _ _ _ _ _ _ _ _ | exact ih3 _ _ _ _ _ _ _ _ _ _ _ _ | exact LeO.none _ | refine LeO.ite ?_ ?_ | refine LeO.bind ?_ (fun _ => ?_)
def Qn.T1 : Bool × List (List Nat × List Nat) := (true, [([], []), ([0], [0]), ([1], [1]), ([2], [2]), ([3], [3]), ([4, 4], [4]), ([], []), ([6], [6]), ([7], [7]), ([8], [8]), ([9], [9]), ([10, 10], [10]), ([5, 0, 1, 2, 3, 4, 5], [5]), ([11, 12, 0, 1, 2, 3, 4, 5, 6, 7, 8, 9, 10, 11, 12], [11])])
def Qn.B1 : List Nat := [0, 1, 3, 7, 15, 31, 0, 64, 192, 448, 960, 1984, 63, 8191]
theorem Qn.tab1 : rtab .any (opsOf Try.f88 1) = Qn.T1 := by kernel_rfl
theorem Qn.bits1 : waitsOk Qn.T1.2 Qn.B1 = true := by kernel_rfl
def Qn.T8 : Bool × List (List Nat × List Nat) := (true, [([], []), ([], []), ([0, 1], [0, 1]), ([2], [2]), ([], []), ([], []), ([4, 5], [4, 5]), ([6], [6]), ([], []), ([7, 8], [7, 8]), ([3, 9], [3, 9]), ([0, 1, 0, 1, 2, 3, 4, 5, 6, 7, 8, 9, 10], [0, 1]), ([11, 10, 0, 1, 2, 3, 4, 5, 6, 7, 8, 9, 10], [10, 11])])
def Qn.B8 : List Nat := [0, 0, 3, 7, 0, 0, 48, 112, 0, 496, 1023, 2047, 4095]
theorem Qn.tab8 : rtab .any (opsOf Try.f88 8) = Qn.T8 := by kernel_rfl
theorem Qn.bits8 : waitsOk Qn.T8.2 Qn.B8 = true := by kernel_rfl
def Qn.T17 : Bool × List (List Nat × List Nat) := (true, [([], []), ([], []), ([0, 1], [0, 1]), ([2], [2]), ([], []), ([], []), ([5], [5]), ([6], [6]), ([], []), ([7, 8], [7, 8]), ([4, 9], [4, 9]), ([10], [10]), ([], []), ([11, 12], [11, 12]), ([3, 13], [3, 13]), ([0, 1, 0, 1, 2, 3, 4, 5, 6, 7, 8, 9, 10, 11, 12, 13, 14], [0, 1]), ([15, 14, 0, 1, 2, 3, 4, 5, 6, 7, 8, 9, 10, 11, 12, 13, 14], [14, 15])])
def Qn.B17 : List Nat := [0, 0, 3, 7, 0, 0, 32, 96, 0, 480, 1008, 2032, 0, 8176, 16383, 32767, 65535]
theorem Qn.tab17 : rtab .any (opsOf Try.f88 17) = Qn.T17 := by kernel_rfl
theorem Qn.bits17 : waitsOk Qn.T17.2 Qn.B17 = true := by kernel_rfl
set_option maxHeartbeats 8000000 in
set_option maxRecDepth 100000 in
theorem Qn.calls (k : Nat) (ak : Option Addr) (an : Nat) (ae : List (List Int)) (aj : Option Addr) (al : Nat) (af : List (List Int)) (A1 : Option Addr) (c1 : Nat) (l1 : List Int) (r1 : List Int) (r2 : List Int) (w : World) (aV : Kd.C (Kd.slice 3 (Kd.int .i64)) w ak ae.length ae) (aX : ae.length ≤ an) (aU : Kd.C (Kd.slice 3 (Kd.int .i64)) w aj af.length af) (aW : af.length ≤ al) (hr1 : Kd.C (Kd.int .i64) w A1 l1.length l1) (hc1 : l1.length ≤ c1) (h : Qn.f k ae af l1 = some (r1, r2)) :
    Calls Try.prog 88 #[.agg #[.slice ak ae.length an, .slice aj af.length al], .slice A1 l1.length c1] w fun e w' => ∃ v0_ v1_ : Value, e = .returned (.tuple #[v0_, v1_]) ∧ Kd.R (Kd.int .i64) 3 w' w.heap.size (fun k_ => some k_ ≠ (v1_ : Value).ownBlock) v0_ r1 ∧ Kd.R (Kd.int .i64) 3 w' w.heap.size (fun k_ => some k_ ≠ (v0_ : Value).ownBlock) v1_ r2 ∧ Below w.heap.size w w' := by
  have dD := Try.underlying24; have av := aa.mk aV; have aw := aa.mk aX; clear aV aX; have ay := aa.mk aU; have ax := aa.mk aW; clear aU aW; have HR1 := aa.mk hr1; have HC1 := aa.mk hc1; clear hr1 hc1; have HB := aa.mk (Below.refl w.heap.size w); have H : (if 0 < (ae.length : Int) then (if 0 ≤ ((Qt ae 0).length : Int) then (if (((Qt ae 0).length : Int) : Int).toNat ≤ 35184372088832 then (Qn.l0 k l1 (List.replicate (((Qt ae 0).length : Int) : Int).toNat 0) (List.replicate (((Qt ae 0).length : Int) : Int).toNat 0) ae (ae.length : Int) 0 ae af) else (none)) else (none)) else (none)) = some (r1, r2) := h; clear h; by_cases c3 : 0 < (ae.length : Int)
  · rw [if_pos c3] at H; have bU : decide (0 < (ae.length : Int)) = true := decide_eq_true c3; have cE : decide (0 < ae.length) = true := decide_eq_true (by omega); clear c3; by_cases c4 : 0 ≤ ((Qt ae 0).length : Int)
    · rw [if_pos c4] at H; have bI := eq_true c4; have cZ : decide (0 ≤ ((Qt ae 0).length : Int)) = true := decide_eq_true c4; clear c4; by_cases c5 : (((Qt ae 0).length : Int) : Int).toNat ≤ 35184372088832
      · rw [if_pos c5] at H; have dp := eq_true c5; have fN : decide ((((Qt ae 0).length : Int) : Int).toNat ≤ 35184372088832) = true := decide_eq_true c5; clear c5; obtain ⟨db, fb⟩ : ∃ y_ : List Int, y_ = (List.replicate (((Qt ae 0).length : Int) : Int).toNat 0) := ⟨_, rfl⟩; replace H : (Qn.l0 k l1 db (List.replicate (((Qt ae 0).length : Int) : Int).toNat 0) ae (ae.length : Int) 0 ae af) = some (r1, r2) := by first | (rw [fb]; with_reducible exact H) | (have H2_ := (Option.bind_some _ _).symm.trans H; rw [fb]; with_reducible exact H2_) | (have H2_ := (Option.bind_some _ _).symm.trans H; with_reducible exact H2_) | with_reducible exact H | (rw [fb]; exact H) | exact H
        have iO := aa.mk fb; clear fb; obtain ⟨g9, fa⟩ : ∃ y_ : List Int, y_ = (List.replicate (((Qt ae 0).length : Int) : Int).toNat 0) := ⟨_, rfl⟩; replace H : (Qn.l0 k l1 db g9 ae (ae.length : Int) 0 ae af) = some (r1, r2) := by first | (rw [fa]; with_reducible exact H) | (have H2_ := (Option.bind_some _ _).symm.trans H; rw [fa]; with_reducible exact H2_) | (have H2_ := (Option.bind_some _ _).symm.trans H; with_reducible exact H2_) | with_reducible exact H | (rw [fa]; exact H) | exact H
        have jg := aa.mk fa; clear fa; have H' := aa.mk H; clear H; go_enter Try.func88, Try.ntmps88; try go_wp2_with (first | ((with_reducible refine QM (N := 2) rfl ?_); refine QU ?hg (N := 2) ?hd (cs := #[.slice ak ae.length an, .slice aj af.length al]) (t := 24) ?hr ?_; (case hd => rfl); (case hg => rfl); (case hr => first | (go_simp; done) | (go_simp; rfl)); intro ag hg w6 hbox hb; have ab := aa.mk (hbox); have ba := aa.mk ((by rw [hg]; exact (Qe (by repeat (first | (with_reducible first | exact HB.out | apply QR | apply QA | apply QN) | exact HB.out))) : w.heap.size ≤ ag)); have aN := aa.mk ((by rw [hg]; exact (Qe (by repeat (first | (with_reducible first | exact HB.out | apply QR | apply QA | apply QN) | exact HB.out))) : w.heap.size ≤ ag)); replace HB := aa.mk (Qc (by repeat (first | (with_reducible first | exact HB.out | apply QR | apply QA | apply QN) | exact HB.out)) hb); clear hb hbox hg))
        replace ab := aa.mk (Qx ab.out); replace HB := aa.mk (QN HB.out); have bp : 0 ≤ (0 : Int) := (by omega); have bo : 0 < (ae.length : Int) := of_decide_eq_true (by first | (with_reducible assumption) | assumption); obtain ⟨bt, ev, eu, du, aH, cd, cg⟩ := ZH av.out 0 bp bo; have cC := aH; (try rw [show ((0 : Int)).toNat = 0 from rfl] at cC)
        (try rw [show 0 * 1 = 0 from rfl] at cC)
        (try rw [Addr.add_zero'] at cC)
        cases du; have ph : (0 < ae.length) = True := eq_true (by omega); (try rw [show ((0 : Int)).toNat = 0 from rfl] at aH)
        (try rw [Addr.add_zero'] at aH)
        replace aH := (HB.out.cell (World.block_lt_of_cell? w _ aH)).trans aH; have cX := aa.mk cg; have dj := aa.mk cd; clear cg cd; replace bp := eq_true bp; replace bo := eq_true bo; have bz : 0 ≤ (0 : Int) := (by omega); have bw : 0 < (ae.length : Int) := of_decide_eq_true (by first | (with_reducible assumption) | assumption); obtain ⟨da, vx, uY, dr, aQ, lC, lI⟩ := ZH av.out 0 bz bw; have cB := aQ; (try rw [show ((0 : Int)).toNat = 0 from rfl] at cB)
        (try rw [show 0 * 1 = 0 from rfl] at cB)
        (try rw [Addr.add_zero'] at cB)
        obtain rfl : bt = da := (by injection dr); have vy : (0 < ae.length) = True := eq_true (by omega); (try rw [show ((0 : Int)).toNat = 0 from rfl] at aQ)
        (try rw [Addr.add_zero'] at aQ)
        replace aQ := (HB.out.cell (World.block_lt_of_cell? w _ aQ)).trans aQ; have oW := aa.mk lI; have tO := aa.mk lC; clear lI lC; replace bz := eq_true bz; replace bw := eq_true bw; have ea_ := Option.some.inj (aH.symm.trans aQ); injection ea_ with ea_ en_ ec_
        subst ea_; subst ec_; clear en_; refine Yg (n := 14) (S := fun w' => w'.cell? ⟨ag, 0, none⟩ = some (.slice (some bt) ae.length an) ∧ w'.cell? ⟨ag, 1, none⟩ = some (.slice aj af.length al) ∧ w'.cell? bt = some (.slice ev (Qt ae 0).length eu) ∧ w'.cell? bt = some (.slice ev (Qt ae 0).length eu)) (ds := []) #[false, false, false, false, false, false, false, false, false, false, false, false, false, false] (by kernel_rfl) rfl rfl ⟨(Qb ab.out 0).trans rfl, (Qb ab.out 1).trans rfl, ((HB.out.cell (World.block_lt_of_cell? w _ cC)).trans cC), ((HB.out.cell (World.block_lt_of_cell? w _ cB)).trans cB)⟩ (fun hHeld => ?_); refine ZO Qn.tab1 Qn.bits1 (fun HT_ HW_ => ?_); generalize w6.drew = w7 at ab HB cX oW aH aQ hHeld ⊢; refine QV (i := 0) (N := some 16) (v := ?_) (a' := ?_) #[true, false, false, false, false, false, false, false, false, false, false, false, false, false] rfl rfl (QL HT_.out (by kernel_rfl)) (fun _ _ _ h => h) (Or.inl ⟨by rfl, ?_⟩) ?_ ?_; rotate_left
        · intro w'; go_simp; with_reducible rfl
        rotate_left
        · simp only [Act.put, zA, zB, zC, QB, QD]; rfl
        refine QV (i := 6) (N := some 22) (v := ?_) (a' := ?_) #[true, false, false, false, false, false, true, false, false, false, false, false, false, false] rfl rfl (QL HT_.out (by kernel_rfl)) (fun _ _ _ h => h) (Or.inl ⟨by rfl, ?_⟩) ?_ ?_; rotate_left
        · intro w'; go_simp; with_reducible rfl
        rotate_left
        · simp only [Act.put, zA, zB, zC, QB, QD]; rfl
        refine ZG (i := 1) (N := some 17) (v := ?_) (a' := ?_) #[true, true, false, false, false, false, true, false, false, false, false, false, false, false] rfl rfl (Zc HT_.out HW_.out (by kernel_rfl)) (fun _ _ _ h => h) (Or.inl ⟨by rfl, ?_⟩) hHeld ?_ ?_; rotate_left
        · rintro w' ⟨s0, s1, s2, s3⟩; go_simp; with_reducible rfl
        rotate_left
        · simp only [Act.put, zA, zB, zC, QB, QD]; rfl
        refine QV (i := 2) (N := some 18) (v := ?_) (a' := ?_) #[true, true, true, false, false, false, true, false, false, false, false, false, false, false] rfl rfl (QL HT_.out (by kernel_rfl)) (fun _ _ _ h => h) (Or.inl ⟨by rfl, ?_⟩) ?_ ?_; rotate_left
        · intro w'; go_simp; with_reducible rfl
        rotate_left
        · simp only [Act.put, zA, zB, zC, QB, QD]; rfl
        refine ZG (i := 3) (N := some 19) (v := ?_) (a' := ?_) #[true, true, true, true, false, false, true, false, false, false, false, false, false, false] rfl rfl (Zc HT_.out HW_.out (by kernel_rfl)) (fun _ _ _ h => h) (Or.inl ⟨by rfl, ?_⟩) hHeld ?_ ?_; rotate_left
        · rintro w' ⟨s0, s1, s2, s3⟩; go_simp; with_reducible rfl
        rotate_left
        · simp only [Act.put, zA, zB, zC, QB, QD]; rfl
        refine QV (i := 4) (N := some 20) (v := ?_) (a' := ?_) #[true, true, true, true, true, false, true, false, false, false, false, false, false, false] rfl rfl (QL HT_.out (by kernel_rfl)) (fun _ _ _ h => h) (Or.inl ⟨by rfl, ?_⟩) ?_ ?_; rotate_left
        · intro w'; go_simp; with_reducible rfl
        rotate_left
        · simp only [Act.put, zA, zB, zC, QB, QD]; rfl
        refine ZG (i := 7) (N := some 23) (v := ?_) (a' := ?_) #[true, true, true, true, true, false, true, true, false, false, false, false, false, false] rfl rfl (Zc HT_.out HW_.out (by kernel_rfl)) (fun _ _ _ h => h) (Or.inl ⟨by rfl, ?_⟩) hHeld ?_ ?_; rotate_left
        · rintro w' ⟨s0, s1, s2, s3⟩; go_simp; with_reducible rfl
        rotate_left
        · simp only [Act.put, zA, zB, zC, QB, QD]; rfl
        refine QV (i := 8) (N := some 24) (v := ?_) (a' := ?_) #[true, true, true, true, true, false, true, true, true, false, false, false, false, false] rfl rfl (QL HT_.out (by kernel_rfl)) (fun _ _ _ h => h) (Or.inl ⟨by rfl, ?_⟩) ?_ ?_; rotate_left
        · intro w'; go_simp; with_reducible rfl
        rotate_left
        · simp only [Act.put, zA, zB, zC, QB, QD]; rfl
        refine ZG (i := 9) (N := some 25) (v := ?_) (a' := ?_) #[true, true, true, true, true, false, true, true, true, true, false, false, false, false] rfl rfl (Zc HT_.out HW_.out (by kernel_rfl)) (fun _ _ _ h => h) (Or.inl ⟨by rfl, ?_⟩) hHeld ?_ ?_; rotate_left
        · rintro w' ⟨s0, s1, s2, s3⟩; go_simp; with_reducible rfl
        rotate_left
        · simp only [Act.put, zA, zB, zC, QB, QD]; rfl
        refine QV (i := 10) (N := some 26) (v := ?_) (a' := ?_) #[true, true, true, true, true, false, true, true, true, true, true, false, false, false] rfl rfl (QL HT_.out (by kernel_rfl)) (fun _ _ _ h => h) (Or.inl ⟨by rfl, ?_⟩) ?_ ?_; rotate_left
        · intro w'; go_simp; with_reducible rfl
        rotate_left
        · simp only [Act.put, zA, zB, zC, QB, QD]; rfl
        refine join_ (σ := Value × Value) 1 #[true, true, true, true, true, true, true, true, true, true, true, true, true, false] (fun s_ => [(21, s_.1), (27, s_.2), (6, s_.1)]) (fun s_ w' => (w'.cell? ⟨ag, 0, none⟩ = some (.slice (some bt) ae.length an) ∧ w'.cell? ⟨ag, 1, none⟩ = some (.slice aj af.length al) ∧ w'.cell? bt = some (.slice ev (Qt ae 0).length eu) ∧ w'.cell? bt = some (.slice ev (Qt ae 0).length eu)) ∧ (Kd.R (Kd.int .i64) 3 w' w.heap.size (fun k_ => some k_ ≠ (s_.2 : Value).ownBlock) s_.1 db) ∧ (Kd.R (Kd.int .i64) 3 w' w.heap.size (fun k_ => some k_ ≠ (s_.1 : Value).ownBlock) s_.2 g9) ∧ (w'.heap[ag]? = some (.cells #[.slice (some bt) ae.length an, .slice aj af.length al] 24 (0, 0))) ∧ (Below w.heap.size w w')) ?_ ?_; rotate_left
        · intro hCont; refine two_ (i := 5) (j := 11) (Ni := some 21) (Nj := some 27) #[true, true, true, true, true, true, true, true, true, true, true, false, false, false] #[true, true, true, true, true, false, true, true, true, true, true, true, false, false] rfl rfl rfl rfl (two_of HT_.out (by kernel_rfl)) (by decide) (by decide) (fun K hK => ?_) (fun K hK => ?_)
          · skip
            refine Kd.YG (Kd.int .i64) _ 3 (by rfl) (N := 21) rfl 28 _ _ rfl ((Qt ae 0).length : Int) rfl rfl Try.underlying28 (.int .i64 0) 8 info3 rfl (by decide) (by omega) 0 (ok := fun _ => True) (okp := fun _ => True) rfl (fun _ hk => hk) trivial (of_decide_eq_true (by first | (with_reducible assumption) | assumption)) (Nat.le_trans (Nat.mul_le_mul_right _ (of_decide_eq_true (by first | (with_reducible assumption) | assumption) : ((Qt ae 0).length : Int).toNat ≤ 35184372088832)) (by omega)) (Below.refl _ _) (Nat.le_refl _) ?_; intro et w8 ho9 hb hg_ hnew_; clear hg_ hnew_; (first | rw [← iO.out] at ho9 | (simp only [Int.reduceToNat] at ho9; rw [← iO.out] at ho9))
            have bm := aa.mk (Kd.Zb ho9 (Qe (by repeat (first | (with_reducible first | exact HB.out | apply QR | apply QA | apply QN | refine Zg ?_ aN.out) | exact HB.out)))); replace ab := aa.mk (Ql (g := ag) (o := .cells #[.slice (some bt) ae.length an, .slice aj af.length al] 24 (0, 0)) (by (with_reducible repeat (first | refine Qv ?_ _ | refine Qx ?_ | refine Qu ?_ _)); exact ab.out) hb); replace HB := aa.mk (Qc (by repeat (first | (with_reducible first | exact HB.out | apply QR | apply QA | apply QN | refine Zg ?_ aN.out) | exact HB.out)) hb); clear hb ho9; refine hK.out _ _ ⟨(Qb ab.out 0).trans rfl, (Qb ab.out 1).trans rfl, ((HB.out.cell (World.block_lt_of_cell? w _ cC)).trans cC), ((HB.out.cell (World.block_lt_of_cell? w _ cB)).trans cB)⟩ (fun hHeld => ?_); clear hK K; refine Z7 (a' := ?_) ?_ ?_; rotate_left
            · show Act.put _ (some 21) _ = _
              simp only [Act.put, zA, zB, zC, QB, QD]; rfl
            refine QV (i := 12) (N := some 6) (v := ?_) (a' := ?_) #[true, true, true, true, true, true, true, true, true, true, true, false, true, false] rfl rfl (QL HT_.out (by kernel_rfl)) (fun _ _ _ h => h) (Or.inl ⟨by rfl, ?_⟩) ?_ ?_; rotate_left
            · intro w'; go_simp; with_reducible rfl
            rotate_left
            · simp only [Act.put, zA, zB, zC, QB, QD]; rfl
            refine one_ (i := 11) (N := some 27) #[true, true, true, true, true, true, true, true, true, true, true, true, true, false] rfl rfl (ZR HT_.out (by kernel_rfl)) (by decide) (fun K hK => ?_); refine Kd.YG (Kd.int .i64) _ 3 (by rfl) (N := 27) rfl 28 _ _ rfl ((Qt ae 0).length : Int) rfl rfl Try.underlying28 (.int .i64 0) 8 info3 rfl (by decide) (by omega) 0 (ok := fun _ => True) (okp := fun _ => True) rfl (fun _ hk => hk) trivial (of_decide_eq_true (by first | (with_reducible assumption) | assumption)) (Nat.le_trans (Nat.mul_le_mul_right _ (of_decide_eq_true (by first | (with_reducible assumption) | assumption) : ((Qt ae 0).length : Int).toNat ≤ 35184372088832)) (by omega)) (Below.refl _ _) (Nat.le_refl _) ?_; intro cK w10 ey hb hg_ hnew_; clear hg_ hnew_; (first | rw [← jg.out] at ey | (simp only [Int.reduceToNat] at ey; rw [← jg.out] at ey))
            have aT := aa.mk (Kd.Zb (Kd.Zy ey (Kd.R_lt (by (with_reducible repeat (first | apply Kd.R_alloc | apply Kd.R_drewN | apply Kd.QX)); exact bm.out))) (Qe (by repeat (first | (with_reducible first | exact HB.out | apply QR | apply QA | apply QN | refine Zg ?_ aN.out) | exact HB.out)))); replace bm := aa.mk (Kd.Zj (by (with_reducible repeat (first | apply Kd.R_alloc | apply Kd.R_drewN | apply Kd.QX)); exact bm.out) (Kd.QY ey) hb); replace ab := aa.mk (Ql (g := ag) (o := .cells #[.slice (some bt) ae.length an, .slice aj af.length al] 24 (0, 0)) (by (with_reducible repeat (first | refine Qv ?_ _ | refine Qx ?_ | refine Qu ?_ _)); exact ab.out) hb); replace HB := aa.mk (Qc (by repeat (first | (with_reducible first | exact HB.out | apply QR | apply QA | apply QN | refine Zg ?_ aN.out) | exact HB.out)) hb); clear hb ey; refine hK.out _ _ ⟨(Qb ab.out 0).trans rfl, (Qb ab.out 1).trans rfl, ((HB.out.cell (World.block_lt_of_cell? w _ cC)).trans cC), ((HB.out.cell (World.block_lt_of_cell? w _ cB)).trans cB)⟩ (fun hHeld => ?_); clear hK K; refine Z7 (a' := ?_) ?_ ?_; rotate_left
            · show Act.put _ (some 27) _ = _
              simp only [Act.put, zA, zB, zC, QB, QD]; rfl
            exact Z7 (by simp only [putAll, Act.put, zA, zB, zC]) (hCont (et, cK) _ ⟨hHeld, (by (with_reducible repeat (first | apply Kd.R_alloc | apply Kd.R_drewN | apply Kd.QX)); exact Kd.Zl bm.out (fun _ hk => hk.2)), (by (with_reducible repeat (first | apply Kd.R_alloc | apply Kd.R_drewN | apply Kd.QX)); exact Kd.Zl aT.out (fun _ hk => hk.2)), (by (with_reducible repeat (first | refine Qv ?_ _ | refine Qx ?_ | refine Qu ?_ _)); exact ab.out), (by repeat (first | (with_reducible first | exact HB.out | apply QR | apply QA | apply QN | refine Zg ?_ aN.out) | exact HB.out))⟩)
          · skip
            refine Kd.YG (Kd.int .i64) _ 3 (by rfl) (N := 27) rfl 28 _ _ rfl ((Qt ae 0).length : Int) rfl rfl Try.underlying28 (.int .i64 0) 8 info3 rfl (by decide) (by omega) 0 (ok := fun _ => True) (okp := fun _ => True) rfl (fun _ hk => hk) trivial (of_decide_eq_true (by first | (with_reducible assumption) | assumption)) (Nat.le_trans (Nat.mul_le_mul_right _ (of_decide_eq_true (by first | (with_reducible assumption) | assumption) : ((Qt ae 0).length : Int).toNat ≤ 35184372088832)) (by omega)) (Below.refl _ _) (Nat.le_refl _) ?_; intro cK w8 ho9 hb hg_ hnew_; clear hg_ hnew_; (first | rw [← jg.out] at ho9 | (simp only [Int.reduceToNat] at ho9; rw [← jg.out] at ho9))
            have aT := aa.mk (Kd.Zb ho9 (Qe (by repeat (first | (with_reducible first | exact HB.out | apply QR | apply QA | apply QN | refine Zg ?_ aN.out) | exact HB.out)))); replace ab := aa.mk (Ql (g := ag) (o := .cells #[.slice (some bt) ae.length an, .slice aj af.length al] 24 (0, 0)) (by (with_reducible repeat (first | refine Qv ?_ _ | refine Qx ?_ | refine Qu ?_ _)); exact ab.out) hb); replace HB := aa.mk (Qc (by repeat (first | (with_reducible first | exact HB.out | apply QR | apply QA | apply QN | refine Zg ?_ aN.out) | exact HB.out)) hb); clear hb ho9; refine hK.out _ _ ⟨(Qb ab.out 0).trans rfl, (Qb ab.out 1).trans rfl, ((HB.out.cell (World.block_lt_of_cell? w _ cC)).trans cC), ((HB.out.cell (World.block_lt_of_cell? w _ cB)).trans cB)⟩ (fun hHeld => ?_); clear hK K; refine Z7 (a' := ?_) ?_ ?_; rotate_left
            · show Act.put _ (some 27) _ = _
              simp only [Act.put, zA, zB, zC, QB, QD]; rfl
            refine one_ (i := 5) (N := some 21) #[true, true, true, true, true, true, true, true, true, true, true, true, false, false] rfl rfl (ZR HT_.out (by kernel_rfl)) (by decide) (fun K hK => ?_); refine Kd.YG (Kd.int .i64) _ 3 (by rfl) (N := 21) rfl 28 _ _ rfl ((Qt ae 0).length : Int) rfl rfl Try.underlying28 (.int .i64 0) 8 info3 rfl (by decide) (by omega) 0 (ok := fun _ => True) (okp := fun _ => True) rfl (fun _ hk => hk) trivial (of_decide_eq_true (by first | (with_reducible assumption) | assumption)) (Nat.le_trans (Nat.mul_le_mul_right _ (of_decide_eq_true (by first | (with_reducible assumption) | assumption) : ((Qt ae 0).length : Int).toNat ≤ 35184372088832)) (by omega)) (Below.refl _ _) (Nat.le_refl _) ?_; intro et w10 ey hb hg_ hnew_; clear hg_ hnew_; (first | rw [← iO.out] at ey | (simp only [Int.reduceToNat] at ey; rw [← iO.out] at ey))
            have bm := aa.mk (Kd.Zb (Kd.Zy ey (Kd.R_lt (by (with_reducible repeat (first | apply Kd.R_alloc | apply Kd.R_drewN | apply Kd.QX)); exact aT.out))) (Qe (by repeat (first | (with_reducible first | exact HB.out | apply QR | apply QA | apply QN | refine Zg ?_ aN.out) | exact HB.out)))); replace aT := aa.mk (Kd.Zj (by (with_reducible repeat (first | apply Kd.R_alloc | apply Kd.R_drewN | apply Kd.QX)); exact aT.out) (Kd.QY ey) hb); replace ab := aa.mk (Ql (g := ag) (o := .cells #[.slice (some bt) ae.length an, .slice aj af.length al] 24 (0, 0)) (by (with_reducible repeat (first | refine Qv ?_ _ | refine Qx ?_ | refine Qu ?_ _)); exact ab.out) hb); replace HB := aa.mk (Qc (by repeat (first | (with_reducible first | exact HB.out | apply QR | apply QA | apply QN | refine Zg ?_ aN.out) | exact HB.out)) hb); clear hb ey; refine hK.out _ _ ⟨(Qb ab.out 0).trans rfl, (Qb ab.out 1).trans rfl, ((HB.out.cell (World.block_lt_of_cell? w _ cC)).trans cC), ((HB.out.cell (World.block_lt_of_cell? w _ cB)).trans cB)⟩ (fun hHeld => ?_); clear hK K; refine Z7 (a' := ?_) ?_ ?_; rotate_left
            · show Act.put _ (some 21) _ = _
              simp only [Act.put, zA, zB, zC, QB, QD]; rfl
            refine QV (i := 12) (N := some 6) (v := ?_) (a' := ?_) #[true, true, true, true, true, true, true, true, true, true, true, true, true, false] rfl rfl (QL HT_.out (by kernel_rfl)) (fun _ _ _ h => h) (Or.inl ⟨by rfl, ?_⟩) ?_ ?_; rotate_left
            · intro w'; go_simp; with_reducible rfl
            rotate_left
            · simp only [Act.put, zA, zB, zC, QB, QD]; rfl
            exact Z7 (by simp only [putAll, Act.put, zA, zB, zC]) (hCont (et, cK) _ ⟨hHeld, (by (with_reducible repeat (first | apply Kd.R_alloc | apply Kd.R_drewN | apply Kd.QX)); exact Kd.Zl bm.out (fun _ hk => hk.2)), (by (with_reducible repeat (first | apply Kd.R_alloc | apply Kd.R_drewN | apply Kd.QX)); exact Kd.Zl aT.out (fun _ hk => hk.2)), (by (with_reducible repeat (first | refine Qv ?_ _ | refine Qx ?_ | refine Qu ?_ _)); exact ab.out), (by repeat (first | (with_reducible first | exact HB.out | apply QR | apply QA | apply QN | refine Zg ?_ aN.out) | exact HB.out))⟩)
        rintro ⟨et, cK⟩ w12 ⟨hS_, h0_, h1_, h2_, h3_⟩; have n0_ : aa (Kd.R (Kd.int .i64) 3 w12 w.heap.size (fun k_ => some k_ ≠ (cK : Value).ownBlock) et db) := ⟨h0_⟩; have n1_ : aa (Kd.R (Kd.int .i64) 3 w12 w.heap.size (fun k_ => some k_ ≠ (et : Value).ownBlock) cK g9) := ⟨h1_⟩; have n2_ : aa (w12.heap[ag]? = some (.cells #[.slice (some bt) ae.length an, .slice aj af.length al] 24 (0, 0))) := ⟨h2_⟩; have n3_ : aa (Below w.heap.size w w12) := ⟨h3_⟩; clear ab; clear HB; clear h0_ h1_ h2_ h3_; have bm := n0_; have aT := n1_; have ab := n2_; have HB := n3_; clear n0_ n1_ n2_ n3_; have hHeld : w12.cell? ⟨ag, 0, none⟩ = some (.slice (some bt) ae.length an) ∧ w12.cell? ⟨ag, 1, none⟩ = some (.slice aj af.length al) ∧ w12.cell? bt = some (.slice ev (Qt ae 0).length eu) ∧ w12.cell? bt = some (.slice ev (Qt ae 0).length eu) := hS_; refine Z7 (a' := ?_) ?_ ?_; rotate_left
        · simp only [putAll, Act.put, zA, zB, zC]; rfl
        refine QV (i := 13) (N := some 7) (v := ?_) (a' := ?_) #[true, true, true, true, true, true, true, true, true, true, true, true, true, true] rfl rfl (QL HT_.out (by kernel_rfl)) (fun _ _ _ h => h) (Or.inl ⟨by rfl, ?_⟩) ?_ ?_; rotate_left
        · intro w'; go_simp; with_reducible rfl
        rotate_left
        · simp only [Act.put, zA, zB, zC, QB, QD]; rfl
        refine YC (Z5 HT_.out (by kernel_rfl)) ?_; have dh : w12.cell? ⟨ag, 0, none⟩ = some (.slice (some bt) ae.length an) := (Qb ab.out 0).trans rfl; have dg : w12.cell? ⟨ag, 1, none⟩ = some (.slice aj af.length al) := (Qb ab.out 1).trans rfl; have df := Qa ab.out 0; have de := Qa ab.out 1; try go_wp2
        go_loopg [31] k (fun kq v31 w' => ∃ (eE : List Int) (bj : Int), v31 = .int .i64 bj ∧ aa (Qn.l0 kq l1 eE g9 ae (ae.length : Int) bj ae af = some (r1, r2)) ∧ aa (kq ≤ k) ∧ aa (Kd.R (Kd.int .i64) 3 w' w.heap.size (fun k_ => some k_ ≠ (cK : Value).ownBlock) et eE) ∧ aa (Kd.R (Kd.int .i64) 3 w' w.heap.size (fun k_ => some k_ ≠ (et : Value).ownBlock) cK g9) ∧ aa (w'.heap[ag]? = some (.cells #[(.slice (some bt) ae.length an), (.slice aj af.length al)] 24 (0, 0))) ∧ aa (Below w.heap.size w w'))
        case atStart => exact ⟨(db), (0), (by first | rfl | (simp; done) | (simp [*]; done)), H', ⟨Nat.le_refl _⟩, ⟨by (with_reducible repeat (first | apply Kd.R_alloc | apply Kd.R_drewN | apply Kd.QX)); exact bm.out⟩, ⟨by (with_reducible repeat (first | apply Kd.R_alloc | apply Kd.R_drewN | apply Kd.QX)); exact aT.out⟩, ⟨by (with_reducible repeat (first | refine Qv ?_ _ | refine Qx ?_ | refine Qu ?_ _)); exact ab.out⟩, ⟨by repeat (first | (with_reducible first | exact HB.out | apply QR | apply QA | apply QN | refine Zg ?_ aN.out) | exact HB.out)⟩⟩
        case round =>
          clear H'; try clear c1
          try clear p1
          try clear q1
          try clear hx1
          try clear qi1
          try clear p2
          try clear c3
          try clear bU
          try clear cE
          try clear c4
          try clear bI
          try clear cZ
          try clear c5
          try clear dp
          try clear fN
          try clear c8
          try clear c10
          try clear p10
          try clear q10
          try clear hH
          try clear j7
          try clear dh
          try clear dg
          try clear df
          try clear de
          try clear aH
          try clear aQ
          try clear bp
          try clear bz
          try clear bo
          try clear bw
          obtain ⟨eE, bj, rfl, HA, HK1, a9, bO, ab, HB⟩ := hrel; cases gk with
          | zero => exact absurd HA.out (by simp [Qn.l0])
          | succ k1 =>
            have H := HA.out; clear HA; simp only [Qn.l0] at H; by_cases c14 : bj < (ae.length : Int)
            · rw [if_pos c14] at H; have eA : decide (bj < (ae.length : Int)) = true := decide_eq_true c14; clear c14; by_cases c15 : 0 ≤ bj
              · rw [if_pos c15] at H; have iI : decide (0 ≤ bj) = true := decide_eq_true c15; clear c15; by_cases c16 : bj < (ae.length : Int)
                · rw [if_pos c16] at H; have fu : decide (bj < (ae.length : Int)) = true := decide_eq_true c16; clear c16; have H' := aa.mk H; clear H; have cO : 0 ≤ (bj : Int) := of_decide_eq_true (by first | (with_reducible assumption) | assumption); have cN : bj < (ae.length : Int) := of_decide_eq_true (by first | (with_reducible assumption) | assumption); obtain ⟨gZ, ll, ld, gO, bc, cT, cV⟩ := ZH av.out bj cO cN; obtain rfl : bt = gZ := (by injection gO); replace bc := (HB.out.cell (World.block_lt_of_cell? w _ bc)).trans bc; have iv := aa.mk cV; have jZ := aa.mk cT; clear cV cT; replace cO := eq_true cO; replace cN := eq_true cN; go_wp2; go_loopg [38] k1 (fun kq v38 w' => ∃ (gJ : List Int) (bG : Int), v38 = .int .i64 bG ∧ aa (Qn.l1 kq l1 gJ g9 bj ae (ae.length : Int) bj (Qt ae bj) ((Qt ae bj).length : Int) bG ae af = some (r1, r2)) ∧ aa (kq ≤ k1) ∧ aa (Kd.R (Kd.int .i64) 3 w' w.heap.size (fun k_ => some k_ ≠ (cK : Value).ownBlock) et gJ) ∧ aa (Kd.R (Kd.int .i64) 3 w' w.heap.size (fun k_ => some k_ ≠ (et : Value).ownBlock) cK g9) ∧ aa (w'.heap[ag]? = some (.cells #[(.slice (some bt) ae.length an), (.slice aj af.length al)] 24 (0, 0))) ∧ aa (Below w.heap.size w w'))
                  case atStart => exact ⟨(eE), (0), (by first | rfl | (simp; done) | (simp [*]; done)), H', ⟨Nat.le_refl _⟩, ⟨by (with_reducible repeat (first | apply Kd.R_alloc | apply Kd.R_drewN | apply Kd.QX)); exact a9.out⟩, ⟨by (with_reducible repeat (first | apply Kd.R_alloc | apply Kd.R_drewN | apply Kd.QX)); exact bO.out⟩, ⟨by (with_reducible repeat (first | refine Qv ?_ _ | refine Qx ?_ | refine Qu ?_ _)); exact ab.out⟩, ⟨by repeat (first | (with_reducible first | exact HB.out | apply QR | apply QA | apply QN | refine Zg ?_ aN.out) | exact HB.out)⟩⟩
                  case round =>
                    clear H'; try clear c1
                    try clear p1
                    try clear q1
                    try clear hx1
                    try clear qi1
                    try clear p2
                    try clear c3
                    try clear bU
                    try clear cE
                    try clear c4
                    try clear bI
                    try clear cZ
                    try clear c5
                    try clear dp
                    try clear fN
                    try clear c8
                    try clear c10
                    try clear p10
                    try clear q10
                    try clear hH
                    try clear j7
                    try clear c11
                    try clear p11
                    try clear q11
                    try clear p7
                    try clear c14
                    try clear eA
                    try clear c15
                    try clear iI
                    try clear c16
                    try clear fu
                    try clear dh
                    try clear dg
                    try clear df
                    try clear de
                    try clear aH
                    try clear aQ
                    try clear bc
                    try clear p1
                    try clear p10
                    try clear bp
                    try clear bz
                    try clear cO
                    try clear p2
                    try clear q1
                    try clear q10
                    try clear bo
                    try clear bw
                    try clear cN
                    obtain ⟨gJ, bG, rfl, HA, HK2, a9, bO, ab, HB⟩ := hrel; cases gk with
                    | zero => exact absurd HA.out (by simp [Qn.l1])
                    | succ k2 =>
                      have H := HA.out; clear HA; simp only [Qn.l1] at H; by_cases c17 : bG < ((Qt ae bj).length : Int)
                      · rw [if_pos c17] at H; have ej : decide (bG < ((Qt ae bj).length : Int)) = true := decide_eq_true c17; clear c17; by_cases c18 : 0 ≤ bG
                        · rw [if_pos c18] at H; have iH : decide (0 ≤ bG) = true := decide_eq_true c18; clear c18; by_cases c19 : bG < ((Qt ae bj).length : Int)
                          · rw [if_pos c19] at H; have ft : decide (bG < ((Qt ae bj).length : Int)) = true := decide_eq_true c19; clear c19; by_cases c20 : bG < (gJ.length : Int)
                            · rw [if_pos c20] at H; have iG : decide (bG < (gJ.length : Int)) = true := decide_eq_true c20; clear c20; by_cases c21 : 0 ≤ bj
                              · rw [if_pos c21] at H; have iF : decide (0 ≤ bj) = true := decide_eq_true c21; clear c21; by_cases c22 : bj < (l1.length : Int)
                                · rw [if_pos c22] at H; have kA : decide (bj < (l1.length : Int)) = true := decide_eq_true c22; clear c22; obtain ⟨iW, dk⟩ : ∃ y_ : List Int, y_ = (gJ.set (bG : Int).toNat (wrap64 ((rd gJ bG) + (wrap64 ((rd l1 bj) * (rd (Qt ae bj) bG)))))) := ⟨_, rfl⟩; replace H : (Qn.l1 k2 l1 iW g9 bj ae (ae.length : Int) bj (Qt ae bj) ((Qt ae bj).length : Int) (wrap64 (bG + 1)) ae af) = some (r1, r2) := by first | (rw [dk]; with_reducible exact H) | (have H2_ := (Option.bind_some _ _).symm.trans H; rw [dk]; with_reducible exact H2_) | (have H2_ := (Option.bind_some _ _).symm.trans H; with_reducible exact H2_) | with_reducible exact H | (rw [dk]; exact H) | exact H
                                  have je := aa.mk dk; clear dk; have H' := aa.mk H; clear H; have e8 : 0 ≤ (bG : Int) := of_decide_eq_true (by first | (with_reducible assumption) | assumption); have e7 : bG < ((Qt ae bj).length : Int) := of_decide_eq_true (by first | (with_reducible assumption) | assumption); obtain ⟨jc, k7, cA⟩ := Kd.QZ iv.out bG e8 e7; cases k7; replace cA := (HB.out.cell (World.block_lt_of_cell? w _ cA)).trans cA; replace e8 := eq_true e8; replace e7 := eq_true e7; try go_wp2
                                  replace a9 := aa.mk (Kd.QX a9.out); replace bO := aa.mk (Kd.QX bO.out); replace ab := aa.mk (Qx ab.out); replace HB := aa.mk (QN HB.out); obtain ⟨vr, oS, oP⟩ := Kd.Q9 a9.out; (first | subst oP | (injection oP with f1_ f2_ f3_; have f4_ := f1_.symm; have f5_ := f3_.symm; clear f1_ f2_ f3_; subst f4_; subst f5_))
                                  have eX : 0 ≤ (bG : Int) := of_decide_eq_true (by first | (with_reducible assumption) | assumption); have eU : bG < (gJ.length : Int) := of_decide_eq_true (by first | (with_reducible assumption) | assumption); obtain ⟨l8, k6, cI⟩ := Kd.QZ (Kd.QH a9.out).2.2 bG eX eU; cases k6; replace eX := eq_true eX; replace eU := eq_true eU; have jv : 0 ≤ (bj : Int) := of_decide_eq_true (by first | (with_reducible assumption) | assumption); have ju : bj < (l1.length : Int) := of_decide_eq_true (by first | (with_reducible assumption) | assumption); obtain ⟨l7, qG, dd⟩ := Kd.QZ HR1.out bj jv ju; have ly := dd; cases qG; replace dd := (HB.out.cell (World.block_lt_of_cell? w _ dd)).trans dd; replace jv := eq_true jv; replace ju := eq_true ju; have p23 : 0 ≤ (bG : Int) := of_decide_eq_true (by first | (with_reducible assumption) | assumption); have q23 : (bG : Int) < ((gJ.length : Int) : Int) := of_decide_eq_true (by first | (with_reducible assumption) | assumption); obtain ⟨qw, gP, mw, rm, uA, wV, sd⟩ := Kd.Ul a9.out (by omega); (first | cases mw | (injection mw with ea_ en_ ec_; (first | subst ea_ | (injection ea_ with ea_; subst ea_)); subst ec_; clear en_))
                                  have vn := aa.mk rm; have vh := aa.mk sd; clear rm uA sd; (first | simp only [Z9] at cI | skip)
                                  obtain ⟨kQ, qh⟩ := Kd.VU 0 a9.out (bG : Int) p23 q23; replace p23 := eq_true p23; replace q23 := eq_true q23; have qO := Kd.R_putn a9.out (bG : Int) (wrap64 ((rd gJ bG) + (wrap64 ((rd l1 bj) * (rd (Qt ae bj) bG))))); rw [← je.out] at qO; have r7 := aa.mk qO; clear qO; refine Yg (n := 13) (S := fun w' => w'.cell? ⟨qw, (bG).toNat, none⟩ = some (.int .i64 (rd gJ bG)) ∧ w'.cell? (l7.add (bj).toNat) = some (.int .i64 (rd l1 bj))) (ds := [12]) #[false, false, false, false, false, false, false, false, false, false, false, false, false] (by kernel_rfl) rfl rfl ⟨cI, ((HB.out.cell (World.block_lt_of_cell? w _ ly)).trans ly)⟩ (fun hHeld => ?_); refine ZO Qn.tab8 Qn.bits8 (fun HT_ HW_ => ?_); generalize wr.drew = w24 at a9 bO ab HB vh r7 qh cI dd kQ hHeld ⊢; refine QV (i := 0) (N := some 43) (v := ?_) (a' := ?_) #[true, false, false, false, false, false, false, false, false, false, false, false, false] rfl rfl (QL HT_.out (by kernel_rfl)) (fun _ _ _ h => h) (Or.inl ⟨by rfl, ?_⟩) ?_ ?_; rotate_left
                                  · intro w'; go_simp; with_reducible rfl
                                  rotate_left
                                  · simp only [Act.put, zA, zB, zC, QB, QD]; rfl
                                  refine QV (i := 1) (N := some 44) (v := ?_) (a' := ?_) #[true, true, false, false, false, false, false, false, false, false, false, false, false] rfl rfl (QL HT_.out (by kernel_rfl)) (fun _ _ _ h => h) (Or.inl ⟨by rfl, ?_⟩) ?_ ?_; rotate_left
                                  · intro w'; go_simp; with_reducible rfl
                                  rotate_left
                                  · simp only [Act.put, zA, zB, zC, QB, QD]; rfl
                                  refine QV (i := 2) (N := some 45) (v := ?_) (a' := ?_) #[true, true, true, false, false, false, false, false, false, false, false, false, false] rfl rfl (QL HT_.out (by kernel_rfl)) (fun _ _ _ h => h) (Or.inl ⟨by rfl, ?_⟩) ?_ ?_; rotate_left
                                  · intro w'; go_simp; with_reducible rfl
                                  rotate_left
                                  · simp only [Act.put, zA, zB, zC, QB, QD]; rfl
                                  refine QV (i := 4) (N := some 47) (v := ?_) (a' := ?_) #[true, true, true, false, true, false, false, false, false, false, false, false, false] rfl rfl (QL HT_.out (by kernel_rfl)) (fun _ _ _ h => h) (Or.inl ⟨by rfl, ?_⟩) ?_ ?_; rotate_left
                                  · intro w'; go_simp; with_reducible rfl
                                  rotate_left
                                  · simp only [Act.put, zA, zB, zC, QB, QD]; rfl
                                  refine QV (i := 5) (N := some 48) (v := ?_) (a' := ?_) #[true, true, true, false, true, true, false, false, false, false, false, false, false] rfl rfl (QL HT_.out (by kernel_rfl)) (fun _ _ _ h => h) (Or.inl ⟨by rfl, ?_⟩) ?_ ?_; rotate_left
                                  · intro w'; go_simp; with_reducible rfl
                                  rotate_left
                                  · simp only [Act.put, zA, zB, zC, QB, QD]; rfl
                                  refine QV (i := 6) (N := some 49) (v := ?_) (a' := ?_) #[true, true, true, false, true, true, true, false, false, false, false, false, false] rfl rfl (QL HT_.out (by kernel_rfl)) (fun _ _ _ h => h) (Or.inl ⟨by rfl, ?_⟩) ?_ ?_; rotate_left
                                  · intro w'; go_simp; with_reducible rfl
                                  rotate_left
                                  · simp only [Act.put, zA, zB, zC, QB, QD]; rfl
                                  refine QV (i := 8) (N := some 51) (v := ?_) (a' := ?_) #[true, true, true, false, true, true, true, false, true, false, false, false, false] rfl rfl (QL HT_.out (by kernel_rfl)) (fun _ _ _ h => h) (Or.inl ⟨by rfl, ?_⟩) ?_ ?_; rotate_left
                                  · intro w'; go_simp; with_reducible rfl
                                  rotate_left
                                  · simp only [Act.put, zA, zB, zC, QB, QD]; rfl
                                  refine ZG (i := 3) (N := some 46) (v := ?_) (a' := ?_) #[true, true, true, true, true, true, true, false, true, false, false, false, false] rfl rfl (Zc HT_.out HW_.out (by kernel_rfl)) (fun _ _ _ h => h) (Or.inl ⟨by rfl, ?_⟩) hHeld ?_ ?_; rotate_left
                                  · rintro w' ⟨s0, s1⟩; go_simp; with_reducible rfl
                                  rotate_left
                                  · simp only [Act.put, zA, zB, zC, QB, QD]; rfl
                                  refine ZG (i := 7) (N := some 50) (v := ?_) (a' := ?_) #[true, true, true, true, true, true, true, true, true, false, false, false, false] rfl rfl (Zc HT_.out HW_.out (by kernel_rfl)) (fun _ _ _ h => h) (Or.inl ⟨by rfl, ?_⟩) hHeld ?_ ?_; rotate_left
                                  · rintro w' ⟨s0, s1⟩; go_simp; with_reducible rfl
                                  rotate_left
                                  · simp only [Act.put, zA, zB, zC, QB, QD]; rfl
                                  refine QV (i := 9) (N := some 52) (v := ?_) (a' := ?_) #[true, true, true, true, true, true, true, true, true, true, false, false, false] rfl rfl (QL HT_.out (by kernel_rfl)) (fun _ _ _ h => h) (Or.inl ⟨by rfl, ?_⟩) ?_ ?_; rotate_left
                                  · intro w'; go_simp; with_reducible rfl
                                  rotate_left
                                  · simp only [Act.put, zA, zB, zC, QB, QD]; rfl
                                  refine QV (i := 10) (N := some 53) (v := ?_) (a' := ?_) #[true, true, true, true, true, true, true, true, true, true, true, false, false] rfl rfl (QL HT_.out (by kernel_rfl)) (fun _ _ _ h => h) (Or.inl ⟨by rfl, ?_⟩) ?_ ?_; rotate_left
                                  · intro w'; go_simp; with_reducible rfl
                                  rotate_left
                                  · simp only [Act.put, zA, zB, zC, QB, QD]; rfl
                                  refine QV (i := 11) (N := some 54) (v := ?_) (a' := ?_) #[true, true, true, true, true, true, true, true, true, true, true, true, false] rfl rfl (QL HT_.out (by kernel_rfl)) (fun _ _ _ h => h) (Or.inl ⟨by rfl, ?_⟩) ?_ ?_; rotate_left
                                  · intro w'; go_simp; with_reducible rfl
                                  rotate_left
                                  · simp only [Act.put, zA, zB, zC, QB, QD]; rfl
                                  refine last_ (i := 12) (N := none) #[true, true, true, true, true, true, true, true, true, true, true, true, true] rfl rfl (ZR HT_.out (by kernel_rfl)) (by decide) (fun K hK => ?_); refine skip_ (w1 := ?_) (by rfl) rfl ?_ ?_; rotate_left
                                  · go_simp; rfl
                                  refine hK.out _ _ ?_; clear hK K; refine YC (Z5 HT_.out (by kernel_rfl)) ?_; try go_wp2
                                  go_roundg k2
                                  case measure => have := HK1.out; have := HK2.out; omega
                                  case rel => exact ⟨(iW), (wrap64 (bG + 1)), (by first | rfl | (simp; done) | (simp [*]; done)), H', ⟨by have := HK1.out; have := HK2.out; omega⟩, ⟨by (with_reducible repeat (first | apply Kd.R_alloc | apply Kd.R_drewN | apply Kd.QX)); exact r7.out⟩, ⟨by (with_reducible repeat (first | apply Kd.R_alloc | apply Kd.R_drewN | apply Kd.QX)); exact Kd.Zl (Kd.R_far (p := ⟨qw, (bG : Int).toNat, none⟩) (Kd.Zl bO.out (fun k_ hk => (⟨hk, fun e_ => hk (by rw [e_]; rfl)⟩ : _ ∧ k_ ≠ qw))) (fun _ hk => hk.2) (.int .i64 (wrap64 ((rd gJ bG) + (wrap64 ((rd l1 bj) * (rd (Qt ae bj) bG))))))) (fun _ hk => hk.1)⟩, ⟨by (with_reducible repeat (first | refine Qv ?_ _ | refine Qx ?_ | refine Qu ?_ _)); refine blk_far ?_ (by have h_ := Kd.R_ne a9.out ab.out (by decide); intro e_; exact h_ (by rw [e_]; rfl)) _; (with_reducible repeat (first | refine Qv ?_ _ | refine Qx ?_ | refine Qu ?_ _)); exact ab.out⟩, ⟨by repeat (first | (with_reducible first | exact HB.out | apply QR | apply QA | apply QN | refine Zg ?_ vn.out | refine Zg ?_ aN.out) | exact HB.out)⟩⟩
                                · rw [if_neg c22] at H; exact absurd H (by simp)
                              · rw [if_neg c21] at H; exact absurd H (by simp)
                            · rw [if_neg c20] at H; exact absurd H (by simp)
                          · rw [if_neg c19] at H; exact absurd H (by simp)
                        · rw [if_neg c18] at H; exact absurd H (by simp)
                      · rw [if_neg c17] at H; have ej : decide (bG < ((Qt ae bj).length : Int)) = false := decide_eq_false c17; clear c17; have H' := aa.mk H; clear H; go_wp2; go_roundg k2
                        case measure => have := HK1.out; have := HK2.out; omega
                        case rel => exact ⟨(gJ), (wrap64 (bj + 1)), (by first | rfl | (simp; done) | (simp [*]; done)), H', ⟨by have := HK1.out; have := HK2.out; omega⟩, ⟨by (with_reducible repeat (first | apply Kd.R_alloc | apply Kd.R_drewN | apply Kd.QX)); exact a9.out⟩, ⟨by (with_reducible repeat (first | apply Kd.R_alloc | apply Kd.R_drewN | apply Kd.QX)); exact bO.out⟩, ⟨by (with_reducible repeat (first | refine Qv ?_ _ | refine Qx ?_ | refine Qu ?_ _)); exact ab.out⟩, ⟨by repeat (first | (with_reducible first | exact HB.out | apply QR | apply QA | apply QN | refine Zg ?_ aN.out) | exact HB.out)⟩⟩
                · rw [if_neg c16] at H; exact absurd H (by simp)
              · rw [if_neg c15] at H; exact absurd H (by simp)
            · rw [if_neg c14] at H; have eA : decide (bj < (ae.length : Int)) = false := decide_eq_false c14; clear c14; have H' := aa.mk H; clear H; have iq : wr.cell? ⟨ag, 0, none⟩ = some (.slice (some bt) ae.length an) := (Qb ab.out 0).trans rfl; have im : wr.cell? ⟨ag, 1, none⟩ = some (.slice aj af.length al) := (Qb ab.out 1).trans rfl; have ij := Qa ab.out 0; have ig := Qa ab.out 1; go_wp2; go_loopg [60] k1 (fun kq v60 w' => ∃ (bg : List Int) (br : Int), v60 = .int .i64 br ∧ aa (Qn.l2 kq l1 eE bg af (af.length : Int) br ae af = some (r1, r2)) ∧ aa (kq ≤ k1) ∧ aa (Kd.R (Kd.int .i64) 3 w' w.heap.size (fun k_ => some k_ ≠ (cK : Value).ownBlock) et eE) ∧ aa (Kd.R (Kd.int .i64) 3 w' w.heap.size (fun k_ => some k_ ≠ (et : Value).ownBlock) cK bg) ∧ aa (w'.heap[ag]? = some (.cells #[(.slice (some bt) ae.length an), (.slice aj af.length al)] 24 (0, 0))) ∧ aa (Below w.heap.size w w'))
              case atStart => exact ⟨(g9), (0), (by first | rfl | (simp; done) | (simp [*]; done)), H', ⟨Nat.le_refl _⟩, ⟨by (with_reducible repeat (first | apply Kd.R_alloc | apply Kd.R_drewN | apply Kd.QX)); exact a9.out⟩, ⟨by (with_reducible repeat (first | apply Kd.R_alloc | apply Kd.R_drewN | apply Kd.QX)); exact bO.out⟩, ⟨by (with_reducible repeat (first | refine Qv ?_ _ | refine Qx ?_ | refine Qu ?_ _)); exact ab.out⟩, ⟨by repeat (first | (with_reducible first | exact HB.out | apply QR | apply QA | apply QN | refine Zg ?_ aN.out) | exact HB.out)⟩⟩
              case round =>
                clear H'; try clear c1
                try clear p1
                try clear q1
                try clear hx1
                try clear qi1
                try clear c2
                try clear p2
                try clear q2
                try clear hx2
                try clear hf2
                try clear c3
                try clear bU
                try clear cE
                try clear c4
                try clear bI
                try clear cZ
                try clear c5
                try clear dp
                try clear fN
                try clear p6
                try clear c8
                try clear c10
                try clear p10
                try clear q10
                try clear hH
                try clear j7
                try clear c11
                try clear p11
                try clear q11
                try clear p7
                try clear c14
                try clear eA
                try clear c15
                try clear iI
                try clear c16
                try clear fu
                try clear c17
                try clear ej
                try clear c18
                try clear iH
                try clear c19
                try clear ft
                try clear c20
                try clear iG
                try clear c21
                try clear iF
                try clear c22
                try clear kA
                try clear p23
                try clear q23
                try clear tX
                try clear uo
                try clear dh
                try clear dg
                try clear iq
                try clear im
                try clear df
                try clear de
                try clear ij
                try clear ig
                try clear aH
                try clear aQ
                try clear bc
                try clear cA
                try clear cI
                try clear dd
                try clear kQ
                try clear p1
                try clear p10
                try clear bp
                try clear bz
                try clear p11
                try clear cO
                try clear e8
                try clear eX
                try clear jv
                try clear p2
                try clear p23
                try clear q1
                try clear q10
                try clear bo
                try clear bw
                try clear q11
                try clear cN
                try clear e7
                try clear eU
                try clear ju
                try clear q23
                obtain ⟨bg, br, rfl, HA, HK2, a9, bO, ab, HB⟩ := hrel; cases gk with
                | zero => exact absurd HA.out (by simp [Qn.l2])
                | succ k2 =>
                  have H := HA.out; clear HA; simp only [Qn.l2] at H; by_cases c28 : br < (af.length : Int)
                  · rw [if_pos c28] at H; have m7 : decide (br < (af.length : Int)) = true := decide_eq_true c28; clear c28; by_cases c29 : 0 ≤ br
                    · rw [if_pos c29] at H; have m6 : decide (0 ≤ br) = true := decide_eq_true c29; clear c29; by_cases c30 : br < (af.length : Int)
                      · rw [if_pos c30] at H; have pA : decide (br < (af.length : Int)) = true := decide_eq_true c30; clear c30; have H' := aa.mk H; clear H; have fI : 0 ≤ (br : Int) := of_decide_eq_true (by first | (with_reducible assumption) | assumption); have fG : br < (af.length : Int) := of_decide_eq_true (by first | (with_reducible assumption) | assumption); obtain ⟨dx, iT, jS, mX, cy, dY, ec⟩ := ZH ay.out br fI fG; cases mX; replace cy := (HB.out.cell (World.block_lt_of_cell? w _ cy)).trans cy; have di := aa.mk ec; have mh := aa.mk dY; clear ec dY; replace fI := eq_true fI; replace fG := eq_true fG; go_wp2; go_loopg [67] k2 (fun kq v67 w' => ∃ (fE : List Int) (bq : Int), v67 = .int .i64 bq ∧ aa (Qn.l3 kq l1 eE fE br af (af.length : Int) br (Qt af br) ((Qt af br).length : Int) bq ae af = some (r1, r2)) ∧ aa (kq ≤ k2) ∧ aa (Kd.R (Kd.int .i64) 3 w' w.heap.size (fun k_ => some k_ ≠ (cK : Value).ownBlock) et eE) ∧ aa (Kd.R (Kd.int .i64) 3 w' w.heap.size (fun k_ => some k_ ≠ (et : Value).ownBlock) cK fE) ∧ aa (w'.heap[ag]? = some (.cells #[(.slice (some bt) ae.length an), (.slice (some dx) af.length al)] 24 (0, 0))) ∧ aa (Below w.heap.size w w'))
                        case atStart => exact ⟨(bg), (0), (by first | rfl | (simp; done) | (simp [*]; done)), H', ⟨Nat.le_refl _⟩, ⟨by (with_reducible repeat (first | apply Kd.R_alloc | apply Kd.R_drewN | apply Kd.QX)); exact a9.out⟩, ⟨by (with_reducible repeat (first | apply Kd.R_alloc | apply Kd.R_drewN | apply Kd.QX)); exact bO.out⟩, ⟨by (with_reducible repeat (first | refine Qv ?_ _ | refine Qx ?_ | refine Qu ?_ _)); exact ab.out⟩, ⟨by repeat (first | (with_reducible first | exact HB.out | apply QR | apply QA | apply QN | refine Zg ?_ aN.out) | exact HB.out)⟩⟩
                        case round =>
                          clear H'; try clear c1
                          try clear p1
                          try clear q1
                          try clear hx1
                          try clear qi1
                          try clear c2
                          try clear p2
                          try clear q2
                          try clear hx2
                          try clear hf2
                          try clear c3
                          try clear bU
                          try clear cE
                          try clear c4
                          try clear bI
                          try clear cZ
                          try clear c5
                          try clear dp
                          try clear fN
                          try clear p6
                          try clear c8
                          try clear c10
                          try clear p10
                          try clear q10
                          try clear hH
                          try clear j7
                          try clear c11
                          try clear p11
                          try clear q11
                          try clear p7
                          try clear c14
                          try clear eA
                          try clear c15
                          try clear iI
                          try clear c16
                          try clear fu
                          try clear c17
                          try clear ej
                          try clear c18
                          try clear iH
                          try clear c19
                          try clear ft
                          try clear c20
                          try clear iG
                          try clear c21
                          try clear iF
                          try clear c22
                          try clear kA
                          try clear p23
                          try clear q23
                          try clear tX
                          try clear uo
                          try clear c28
                          try clear m7
                          try clear c29
                          try clear m6
                          try clear c30
                          try clear pA
                          try clear dh
                          try clear dg
                          try clear iq
                          try clear im
                          try clear df
                          try clear de
                          try clear ij
                          try clear ig
                          try clear aH
                          try clear aQ
                          try clear bc
                          try clear cA
                          try clear cI
                          try clear dd
                          try clear cy
                          try clear kQ
                          try clear p1
                          try clear p10
                          try clear bp
                          try clear bz
                          try clear p11
                          try clear cO
                          try clear e8
                          try clear eX
                          try clear jv
                          try clear fI
                          try clear p2
                          try clear p23
                          try clear p6
                          try clear q1
                          try clear q10
                          try clear bo
                          try clear bw
                          try clear q11
                          try clear cN
                          try clear e7
                          try clear eU
                          try clear ju
                          try clear fG
                          try clear q2
                          try clear q23
                          obtain ⟨fE, bq, rfl, HA, HK3, a9, bO, ab, HB⟩ := hrel; cases gk with
                          | zero => exact absurd HA.out (by simp [Qn.l3])
                          | succ k3 =>
                            have H := HA.out; clear HA; simp only [Qn.l3] at H; by_cases c31 : bq < ((Qt af br).length : Int)
                            · rw [if_pos c31] at H; have m5 : decide (bq < ((Qt af br).length : Int)) = true := decide_eq_true c31; clear c31; by_cases c32 : 0 ≤ bq
                              · rw [if_pos c32] at H; have rK : decide (0 ≤ bq) = true := decide_eq_true c32; clear c32; by_cases c33 : bq < ((Qt af br).length : Int)
                                · rw [if_pos c33] at H; have l4 : decide (bq < ((Qt af br).length : Int)) = true := decide_eq_true c33; clear c33; by_cases c34 : bq < (fE.length : Int)
                                  · rw [if_pos c34] at H; have vR : decide (bq < (fE.length : Int)) = true := decide_eq_true c34; clear c34; obtain ⟨fy, mJ⟩ : ∃ j_ : Int, (wrap64 ((ae.length : Int) + br)) = j_ := ⟨_, rfl⟩; replace H : (if 0 ≤ (fy) then (if (fy) < (l1.length : Int) then (Qn.l3 k3 l1 eE (fE.set (bq : Int).toNat (wrap64 ((rd fE bq) + (wrap64 ((rd l1 (fy)) * (rd (Qt af br) bq)))))) br af (af.length : Int) br (Qt af br) ((Qt af br).length : Int) (wrap64 (bq + 1)) ae af) else (none)) else (none)) = some (r1, r2) := by first | (rw [mJ] at H; exact H) | (simp only [mJ] at H ⊢; exact H)
                                    have ub : (IntKind.i64.wrap ((ae.length : Int) + br)) = fy := (QB _).trans mJ; by_cases c36 : 0 ≤ (fy)
                                    · rw [if_pos c36] at H; have vQ : decide (0 ≤ (fy)) = true := decide_eq_true c36; clear c36; by_cases c37 : (fy) < (l1.length : Int)
                                      · rw [if_pos c37] at H; have vP : decide ((fy) < (l1.length : Int)) = true := decide_eq_true c37; clear c37; obtain ⟨mC, e9⟩ : ∃ y_ : List Int, y_ = (fE.set (bq : Int).toNat (wrap64 ((rd fE bq) + (wrap64 ((rd l1 (fy)) * (rd (Qt af br) bq)))))) := ⟨_, rfl⟩; replace H : (Qn.l3 k3 l1 eE mC br af (af.length : Int) br (Qt af br) ((Qt af br).length : Int) (wrap64 (bq + 1)) ae af) = some (r1, r2) := by first | (rw [e9]; with_reducible exact H) | (have H2_ := (Option.bind_some _ _).symm.trans H; rw [e9]; with_reducible exact H2_) | (have H2_ := (Option.bind_some _ _).symm.trans H; with_reducible exact H2_) | with_reducible exact H | (rw [e9]; exact H) | exact H
                                        have ma := aa.mk e9; clear e9; have H' := aa.mk H; clear H; have fR : 0 ≤ (bq : Int) := of_decide_eq_true (by first | (with_reducible assumption) | assumption); have fQ : bq < ((Qt af br).length : Int) := of_decide_eq_true (by first | (with_reducible assumption) | assumption); obtain ⟨gY, mW, bX⟩ := Kd.QZ di.out bq fR fQ; cases mW; replace bX := (HB.out.cell (World.block_lt_of_cell? w _ bX)).trans bX; replace fR := eq_true fR; replace fQ := eq_true fQ; try go_wp2
                                        replace a9 := aa.mk (Kd.QX a9.out); replace bO := aa.mk (Kd.QX bO.out); replace ab := aa.mk (Qx ab.out); replace HB := aa.mk (QN HB.out); obtain ⟨sn, rv, oO⟩ := Kd.Q9 bO.out; (first | subst oO | (injection oO with f1_ f2_ f3_; have f4_ := f1_.symm; have f5_ := f3_.symm; clear f1_ f2_ f3_; subst f4_; subst f5_))
                                        have dN : 0 ≤ (bq : Int) := of_decide_eq_true (by first | (with_reducible assumption) | assumption); have dM : bq < (fE.length : Int) := of_decide_eq_true (by first | (with_reducible assumption) | assumption); obtain ⟨gX, jP, ca⟩ := Kd.QZ (Kd.QH bO.out).2.2 bq dN dM; cases jP; replace dN := eq_true dN; replace dM := eq_true dM; have gL : 0 ≤ ((fy) : Int) := of_decide_eq_true (by first | (with_reducible assumption) | assumption); have gK : (fy) < (l1.length : Int) := of_decide_eq_true (by first | (with_reducible assumption) | assumption); obtain ⟨kF, mV, cR⟩ := Kd.QZ HR1.out (fy) gL gK; have lx := cR; cases mV; replace cR := (HB.out.cell (World.block_lt_of_cell? w _ cR)).trans cR; replace gL := eq_true gL; replace gK := eq_true gK; have p38 : 0 ≤ (bq : Int) := of_decide_eq_true (by first | (with_reducible assumption) | assumption); have q38 : (bq : Int) < ((fE.length : Int) : Int) := of_decide_eq_true (by first | (with_reducible assumption) | assumption); obtain ⟨qv, wP, rp, rk, uy, wT, sa⟩ := Kd.Ul bO.out (by omega); (first | cases rp | (injection rp with ea_ en_ ec_; (first | subst ea_ | (injection ea_ with ea_; subst ea_)); subst ec_; clear en_))
                                        have vk := aa.mk rk; have vf := aa.mk sa; clear rk uy sa; (first | simp only [Z9] at ca | skip)
                                        obtain ⟨p5, qg⟩ := Kd.VU 0 bO.out (bq : Int) p38 q38; replace p38 := eq_true p38; replace q38 := eq_true q38; have qN := Kd.R_putn bO.out (bq : Int) (wrap64 ((rd fE bq) + (wrap64 ((rd l1 (fy)) * (rd (Qt af br) bq))))); rw [← ma.out] at qN; have r6 := aa.mk qN; clear qN; refine Yg (n := 17) (S := fun w' => w'.cell? ⟨ag, 0, none⟩ = some (.slice (some bt) ae.length an) ∧ w'.cell? ⟨ag, 1, none⟩ = some (.slice (some dx) af.length al) ∧ w'.cell? ⟨qv, (bq).toNat, none⟩ = some (.int .i64 (rd fE bq)) ∧ w'.cell? (kF.add ((fy)).toNat) = some (.int .i64 (rd l1 (fy)))) (ds := [16]) #[false, false, false, false, false, false, false, false, false, false, false, false, false, false, false, false, false] (by kernel_rfl) rfl rfl ⟨(Qb ab.out 0).trans rfl, (Qb ab.out 1).trans rfl, ca, ((HB.out.cell (World.block_lt_of_cell? w _ lx)).trans lx)⟩ (fun hHeld => ?_); refine ZO Qn.tab17 Qn.bits17 (fun HT_ HW_ => ?_); generalize wr.drew = w39 at a9 bO ab HB vf r6 qg ca cR p5 hHeld ⊢; refine QV (i := 0) (N := some 72) (v := ?_) (a' := ?_) #[true, false, false, false, false, false, false, false, false, false, false, false, false, false, false, false, false] rfl rfl (QL HT_.out (by kernel_rfl)) (fun _ _ _ h => h) (Or.inl ⟨by rfl, ?_⟩) ?_ ?_; rotate_left
                                        · intro w'; go_simp; with_reducible rfl
                                        rotate_left
                                        · simp only [Act.put, zA, zB, zC, QB, QD]; rfl
                                        refine QV (i := 1) (N := some 73) (v := ?_) (a' := ?_) #[true, true, false, false, false, false, false, false, false, false, false, false, false, false, false, false, false] rfl rfl (QL HT_.out (by kernel_rfl)) (fun _ _ _ h => h) (Or.inl ⟨by rfl, ?_⟩) ?_ ?_; rotate_left
                                        · intro w'; go_simp; with_reducible rfl
                                        rotate_left
                                        · simp only [Act.put, zA, zB, zC, QB, QD]; rfl
                                        refine QV (i := 2) (N := some 74) (v := ?_) (a' := ?_) #[true, true, true, false, false, false, false, false, false, false, false, false, false, false, false, false, false] rfl rfl (QL HT_.out (by kernel_rfl)) (fun _ _ _ h => h) (Or.inl ⟨by rfl, ?_⟩) ?_ ?_; rotate_left
                                        · intro w'; go_simp; with_reducible rfl
                                        rotate_left
                                        · simp only [Act.put, zA, zB, zC, QB, QD]; rfl
                                        refine QV (i := 4) (N := some 76) (v := ?_) (a' := ?_) #[true, true, true, false, true, false, false, false, false, false, false, false, false, false, false, false, false] rfl rfl (QL HT_.out (by kernel_rfl)) (fun _ _ _ h => h) (Or.inl ⟨by rfl, ?_⟩) ?_ ?_; rotate_left
                                        · intro w'; go_simp; with_reducible rfl
                                        rotate_left
                                        · simp only [Act.put, zA, zB, zC, QB, QD]; rfl
                                        refine QV (i := 5) (N := some 77) (v := ?_) (a' := ?_) #[true, true, true, false, true, true, false, false, false, false, false, false, false, false, false, false, false] rfl rfl (QL HT_.out (by kernel_rfl)) (fun _ _ _ h => h) (Or.inl ⟨by rfl, ?_⟩) ?_ ?_; rotate_left
                                        · intro w'; go_simp; with_reducible rfl
                                        rotate_left
                                        · simp only [Act.put, zA, zB, zC, QB, QD]; rfl
                                        refine QV (i := 8) (N := some 80) (v := ?_) (a' := ?_) #[true, true, true, false, true, true, false, false, true, false, false, false, false, false, false, false, false] rfl rfl (QL HT_.out (by kernel_rfl)) (fun _ _ _ h => h) (Or.inl ⟨by rfl, ?_⟩) ?_ ?_; rotate_left
                                        · intro w'; go_simp; with_reducible rfl
                                        rotate_left
                                        · simp only [Act.put, zA, zB, zC, QB, QD]; rfl
                                        refine QV (i := 12) (N := some 84) (v := ?_) (a' := ?_) #[true, true, true, false, true, true, false, false, true, false, false, false, true, false, false, false, false] rfl rfl (QL HT_.out (by kernel_rfl)) (fun _ _ _ h => h) (Or.inl ⟨by rfl, ?_⟩) ?_ ?_; rotate_left
                                        · intro w'; go_simp; with_reducible rfl
                                        rotate_left
                                        · simp only [Act.put, zA, zB, zC, QB, QD]; rfl
                                        refine ZG (i := 3) (N := some 75) (v := ?_) (a' := ?_) #[true, true, true, true, true, true, false, false, true, false, false, false, true, false, false, false, false] rfl rfl (Zc HT_.out HW_.out (by kernel_rfl)) (fun _ _ _ h => h) (Or.inl ⟨by rfl, ?_⟩) hHeld ?_ ?_; rotate_left
                                        · rintro w' ⟨s0, s1, s2, s3⟩; go_simp; with_reducible rfl
                                        rotate_left
                                        · simp only [Act.put, zA, zB, zC, QB, QD]; rfl
                                        refine ZG (i := 6) (N := some 78) (v := ?_) (a' := ?_) #[true, true, true, true, true, true, true, false, true, false, false, false, true, false, false, false, false] rfl rfl (Zc HT_.out HW_.out (by kernel_rfl)) (fun _ _ _ h => h) (Or.inl ⟨by rfl, ?_⟩) hHeld ?_ ?_; rotate_left
                                        · rintro w' ⟨s0, s1, s2, s3⟩; go_simp; with_reducible rfl
                                        rotate_left
                                        · simp only [Act.put, zA, zB, zC, QB, QD]; rfl
                                        refine QV (i := 7) (N := some 79) (v := ?_) (a' := ?_) #[true, true, true, true, true, true, true, true, true, false, false, false, true, false, false, false, false] rfl rfl (QL HT_.out (by kernel_rfl)) (fun _ _ _ h => h) (Or.inl ⟨by rfl, ?_⟩) ?_ ?_; rotate_left
                                        · intro w'; go_simp; with_reducible rfl
                                        rotate_left
                                        · simp only [Act.put, zA, zB, zC, QB, QD]; rfl
                                        refine QV (i := 9) (N := some 81) (v := ?_) (a' := ?_) #[true, true, true, true, true, true, true, true, true, true, false, false, true, false, false, false, false] rfl rfl (QL HT_.out (by kernel_rfl)) (fun _ _ _ h => h) (Or.inl ⟨by rfl, ?_⟩) ?_ ?_; rotate_left
                                        · intro w'; go_simp; with_reducible rfl
                                        rotate_left
                                        · simp only [Act.put, zA, zB, zC, QB, QD]; rfl
                                        refine QV (i := 10) (N := some 82) (v := ?_) (a' := ?_) #[true, true, true, true, true, true, true, true, true, true, true, false, true, false, false, false, false] rfl rfl (QL HT_.out (by kernel_rfl)) (fun _ _ _ h => h) (Or.inl ⟨by rfl, ?_⟩) ?_ ?_; rotate_left
                                        · intro w'; go_simp; with_reducible rfl
                                        rotate_left
                                        · simp only [Act.put, zA, zB, zC, QB, QD]; rfl
                                        refine ZG (i := 11) (N := some 83) (v := ?_) (a' := ?_) #[true, true, true, true, true, true, true, true, true, true, true, true, true, false, false, false, false] rfl rfl (Zc HT_.out HW_.out (by kernel_rfl)) (fun _ _ _ h => h) (Or.inl ⟨by rfl, ?_⟩) hHeld ?_ ?_; rotate_left
                                        · rintro w' ⟨s0, s1, s2, s3⟩; go_simp; with_reducible rfl
                                        rotate_left
                                        · simp only [Act.put, zA, zB, zC, QB, QD]; rfl
                                        refine QV (i := 13) (N := some 85) (v := ?_) (a' := ?_) #[true, true, true, true, true, true, true, true, true, true, true, true, true, true, false, false, false] rfl rfl (QL HT_.out (by kernel_rfl)) (fun _ _ _ h => h) (Or.inl ⟨by rfl, ?_⟩) ?_ ?_; rotate_left
                                        · intro w'; go_simp; with_reducible rfl
                                        rotate_left
                                        · simp only [Act.put, zA, zB, zC, QB, QD]; rfl
                                        refine QV (i := 14) (N := some 86) (v := ?_) (a' := ?_) #[true, true, true, true, true, true, true, true, true, true, true, true, true, true, true, false, false] rfl rfl (QL HT_.out (by kernel_rfl)) (fun _ _ _ h => h) (Or.inl ⟨by rfl, ?_⟩) ?_ ?_; rotate_left
                                        · intro w'; go_simp; with_reducible rfl
                                        rotate_left
                                        · simp only [Act.put, zA, zB, zC, QB, QD]; rfl
                                        refine QV (i := 15) (N := some 87) (v := ?_) (a' := ?_) #[true, true, true, true, true, true, true, true, true, true, true, true, true, true, true, true, false] rfl rfl (QL HT_.out (by kernel_rfl)) (fun _ _ _ h => h) (Or.inl ⟨by rfl, ?_⟩) ?_ ?_; rotate_left
                                        · intro w'; go_simp; with_reducible rfl
                                        rotate_left
                                        · simp only [Act.put, zA, zB, zC, QB, QD]; rfl
                                        refine last_ (i := 16) (N := none) #[true, true, true, true, true, true, true, true, true, true, true, true, true, true, true, true, true] rfl rfl (ZR HT_.out (by kernel_rfl)) (by decide) (fun K hK => ?_); refine skip_ (w1 := ?_) (by rfl) rfl ?_ ?_; rotate_left
                                        · go_simp; rfl
                                        refine hK.out _ _ ?_; clear hK K; refine YC (Z5 HT_.out (by kernel_rfl)) ?_; try go_wp2
                                        go_roundg k3
                                        case measure => have := HK1.out; have := HK2.out; have := HK3.out; omega
                                        case rel => exact ⟨(mC), (wrap64 (bq + 1)), (by first | rfl | (simp; done) | (simp [*]; done)), H', ⟨by have := HK1.out; have := HK2.out; have := HK3.out; omega⟩, ⟨by (with_reducible repeat (first | apply Kd.R_alloc | apply Kd.R_drewN | apply Kd.QX)); exact Kd.Zl (Kd.R_far (p := ⟨qv, (bq : Int).toNat, none⟩) (Kd.Zl a9.out (fun k_ hk => (⟨hk, fun e_ => hk (by rw [e_]; rfl)⟩ : _ ∧ k_ ≠ qv))) (fun _ hk => hk.2) (.int .i64 (wrap64 ((rd fE bq) + (wrap64 ((rd l1 (fy)) * (rd (Qt af br) bq))))))) (fun _ hk => hk.1)⟩, ⟨by (with_reducible repeat (first | apply Kd.R_alloc | apply Kd.R_drewN | apply Kd.QX)); exact r6.out⟩, ⟨by (with_reducible repeat (first | refine Qv ?_ _ | refine Qx ?_ | refine Qu ?_ _)); refine blk_far ?_ (by have h_ := Kd.R_ne bO.out ab.out (by decide); intro e_; exact h_ (by rw [e_]; rfl)) _; (with_reducible repeat (first | refine Qv ?_ _ | refine Qx ?_ | refine Qu ?_ _)); exact ab.out⟩, ⟨by repeat (first | (with_reducible first | exact HB.out | apply QR | apply QA | apply QN | refine Zg ?_ vk.out | refine Zg ?_ aN.out) | exact HB.out)⟩⟩
                                      · rw [if_neg c37] at H; exact absurd H (by simp)
                                    · rw [if_neg c36] at H; exact absurd H (by simp)
                                  · rw [if_neg c34] at H; exact absurd H (by simp)
                                · rw [if_neg c33] at H; exact absurd H (by simp)
                              · rw [if_neg c32] at H; exact absurd H (by simp)
                            · rw [if_neg c31] at H; have m5 : decide (bq < ((Qt af br).length : Int)) = false := decide_eq_false c31; clear c31; have H' := aa.mk H; clear H; go_wp2; go_roundg k3
                              case measure => have := HK1.out; have := HK2.out; have := HK3.out; omega
                              case rel => exact ⟨(fE), (wrap64 (br + 1)), (by first | rfl | (simp; done) | (simp [*]; done)), H', ⟨by have := HK1.out; have := HK2.out; have := HK3.out; omega⟩, ⟨by (with_reducible repeat (first | apply Kd.R_alloc | apply Kd.R_drewN | apply Kd.QX)); exact a9.out⟩, ⟨by (with_reducible repeat (first | apply Kd.R_alloc | apply Kd.R_drewN | apply Kd.QX)); exact bO.out⟩, ⟨by (with_reducible repeat (first | refine Qv ?_ _ | refine Qx ?_ | refine Qu ?_ _)); exact ab.out⟩, ⟨by repeat (first | (with_reducible first | exact HB.out | apply QR | apply QA | apply QN | refine Zg ?_ aN.out) | exact HB.out)⟩⟩
                      · rw [if_neg c30] at H; exact absurd H (by simp)
                    · rw [if_neg c29] at H; exact absurd H (by simp)
                  · rw [if_neg c28] at H; have m7 : decide (br < (af.length : Int)) = false := decide_eq_false c28; clear c28; simp only [Option.some.injEq, Prod.mk.injEq] at H; obtain ⟨rfl, rfl⟩ := H; go_wp2; go_ret2; exact ⟨_, _, by first | rfl | (simp [Qk, Qj] <;> rfl) | (simp [*, Qk, Qj] <;> rfl), by (with_reducible repeat (first | apply Kd.R_alloc | apply Kd.R_drewN | apply Kd.QX)); exact a9.out, by (with_reducible repeat (first | apply Kd.R_alloc | apply Kd.R_drewN | apply Kd.QX)); exact bO.out, by repeat (first | (with_reducible first | exact HB.out | apply QR | apply QA | apply QN | refine Zg ?_ aN.out) | exact HB.out)⟩
      · rw [if_neg c5] at H; exact absurd H (by simp)
    · rw [if_neg c4] at H; exact absurd H (by simp)
  · rw [if_neg c3] at H; exact absurd H (by simp)
def Ze.f (k : Nat) (ae : List (List Int)) (af : List (List Int)) (l1 : List Int) : Option (Bool) := (Qn.f k ae af l1).bind fun kD => ((QK.f k kD.1 kD.2).bind fun t108 => (some t108))
theorem Ze.mono : ∀ a0 a1 a2 k, LeO (Ze.f k a0 a1 a2) (Ze.f (k + 1) a0 a1 a2) := by
 intro a0 a1 a2 k; unfold Ze.f; repeat' first | (with_reducible exact QK.mono _ _ _) | (with_reducible exact Qn.mono _ _ _ _) | (with_reducible exact LeO.refl _) | (with_reducible exact LeO.none _) | (with_reducible refine LeO.ite ?_ ?_) | (with_reducible refine LeO.bind ?_ (fun _ => ?_)) | exact QK.mono _ _ _ | exact Qn.mono _ _ _ _ | exact LeO.none _ | refine LeO.ite ?_ ?_ | refine LeO.bind ?_ (fun _ => ?_)
set_option maxHeartbeats 8000000 in
set_option maxRecDepth 100000 in
theorem Ze.calls (k : Nat) (ak : Option Addr) (an : Nat) (ae : List (List Int)) (aj : Option Addr) (al : Nat) (af : List (List Int)) (A1 : Option Addr) (c1 : Nat) (l1 : List Int) (r : Bool) (w : World) (aV : Kd.C (Kd.slice 3 (Kd.int .i64)) w ak ae.length ae) (aX : ae.length ≤ an) (aU : Kd.C (Kd.slice 3 (Kd.int .i64)) w aj af.length af) (aW : af.length ≤ al) (hr1 : Kd.C (Kd.int .i64) w A1 l1.length l1) (hc1 : l1.length ≤ c1) (h : Ze.f k ae af l1 = some r) :
  Calls Try.prog 95 #[.agg #[.slice ak ae.length an, .slice aj af.length al], .slice A1 l1.length c1] w fun e w' => e = .returned (.bool r) ∧ Below w.heap.size w w' := by
 have dD := Try.underlying24; have av := aa.mk aV; have aw := aa.mk aX; clear aV aX; have ay := aa.mk aU; have ax := aa.mk aW; clear aU aW; have HR1 := aa.mk hr1; have HC1 := aa.mk hc1; clear hr1 hc1; have HB := aa.mk (Below.refl w.heap.size w); have H : ((Qn.f k ae af l1).bind fun kD => ((QK.f k kD.1 kD.2).bind fun t108 => (some t108))) = some r := h; clear h; replace H := Option.bind_eq_some_iff.mp H; obtain ⟨⟨t102, t105⟩, A30, H⟩ := H; replace H : ((QK.f k t102 t105).bind fun t108 => (some t108)) = some r := H; have A3 := aa.mk A30; clear A30; replace H := Option.bind_eq_some_iff.mp H; obtain ⟨t108, A40, H⟩ := H; replace H : (some t108) = some r := H; have A4 := aa.mk A40; clear A40; obtain rfl := Option.some.inj H; go_enter Try.func95, Try.ntmps95; go_wp2_with (first | ((with_reducible refine QM (N := 2) rfl ?_); refine QU ?hg (N := 2) ?hd (cs := #[.slice ak ae.length an, .slice aj af.length al]) (t := 24) ?hr ?_; (case hd => rfl); (case hg => rfl); (case hr => first | (go_simp; done) | (go_simp; rfl)); intro ag hg w5 hbox hb; have ab := aa.mk (hbox); have ba := aa.mk ((by rw [hg]; exact (Qe bB) : w.heap.size ≤ ag)); have aN := aa.mk ((by rw [hg]; exact (Qe bB) : w.heap.size ≤ ag)); replace HB := aa.mk (Qc bB hb); clear hb hbox hg; have fk : w5.cell? ⟨ag, 0, none⟩ = some (.slice ak ae.length an) := (Qb ab.out 0).trans rfl; have fj : w5.cell? ⟨ag, 1, none⟩ = some (.slice aj af.length al) := (Qb ab.out 1).trans rfl; have fg := Qa ab.out 0; have ff := Qa ab.out 1) | ((with_reducible refine Qf (f := 88) rfl ?_); refine QE (some 10) rfl rfl Try.func88 (by kernel_rfl) rfl #[.agg #[.slice ak ae.length an, .slice aj af.length al], .slice A1 l1.length c1] rfl hA ?_; (with_reducible refine (Qn.calls k _ _ ae _ _ af _ _ l1 t102 t105 _ ?ai ?ah ?aq ?ao ?aK ?aJ A3.out).mono ?_); (case ai => exact (Kd.Qh av.out HB.out)); (case ah => exact aw.out); (case aq => exact (Kd.Qh ay.out HB.out)); (case ao => exact ax.out); (case aK => exact (Kd.Qh HR1.out HB.out)); (case aJ => exact HC1.out); rintro e w7 ⟨hG, ja, rfl, ho0, ho1, hb⟩; refine ⟨_, rfl, ?_⟩; have aM := aa.mk (Kd.Zb ho0 (Qe bB)); have bn := aa.mk (Kd.Zb ho1 (Qe bB)); replace ab := aa.mk (Ql ab.out hb); replace HB := aa.mk (Qc bB hb); (try clear hb); (try clear hb2); (try clear hk); (try clear hi); (try clear ho0); (try clear ho1); obtain ⟨Ao8, co8, eo8⟩ := Kd.Q9 aM.out; subst eo8; obtain ⟨Ao9, co9, eo9⟩ := Kd.Q9 bn.out; subst eo9) | ((with_reducible refine Qf (f := 122) rfl ?_); refine QE (some 15) rfl rfl Try.func122 (by kernel_rfl) rfl #[.slice Ao8 t102.length co8, .slice Ao9 t105.length co9] rfl hA ?_; (with_reducible refine (QK.calls k _ _ t102 _ _ t105 t108 _ ?ai ?ah ?aq ?ao A4.out).mono ?_); (case ai => exact (Kd.QH aM.out).2.2); (case ah => exact (Kd.QH aM.out).2.1); (case aq => exact (Kd.QH bn.out).2.2); (case ao => exact (Kd.QH bn.out).2.1); rintro e w' ⟨rfl, ⟨nd, rfl⟩⟩; refine ⟨_, rfl, ?_⟩))
 go_ret; exact ⟨by first | rfl | (simp [Qk, Qj] <;> rfl) | (simp [*, Qk, Qj] <;> rfl), bB⟩
def Zo.f (k : Nat) (ae : List (List Int)) (af : List (List Int)) (l1 : List Int) (l2 : List Int) : Option (Int) := (Zs.f k ae af l1).bind fun t102 => (if t102 = 0 then ((Zd.f l2 (ae.length : Int) 0 1000).bind fun t103 => (if t103 = true then ((Qi.f k l1).bind fun t104 => (if t104 ≤ 0 then (some 8) else ((Ze.f k ae af l1).bind fun t105 => (if t105 = true then (some 0) else (some 8))))) else (some 1))) else (some t102))
theorem Zo.mono : ∀ a0 a1 a2 a3 k, LeO (Zo.f k a0 a1 a2 a3) (Zo.f (k + 1) a0 a1 a2 a3) := by
 intro a0 a1 a2 a3 k; unfold Zo.f; repeat' first | (with_reducible exact Qi.mono _ _) | (with_reducible exact Ze.mono _ _ _ _) | (with_reducible exact Zs.mono _ _ _ _) | (with_reducible exact LeO.refl _) | (with_reducible exact LeO.none _) | (with_reducible refine LeO.ite ?_ ?_) | (with_reducible refine LeO.bind ?_ (fun _ => ?_)) | exact Qi.mono _ _ | exact Ze.mono _ _ _ _ | exact Zs.mono _ _ _ _ | exact LeO.none _ | refine LeO.ite ?_ ?_ | refine LeO.bind ?_ (fun _ => ?_)
set_option maxHeartbeats 8000000 in
set_option maxRecDepth 100000 in
theorem Zo.calls (k : Nat) (ak : Option Addr) (an : Nat) (ae : List (List Int)) (aj : Option Addr) (al : Nat) (af : List (List Int)) (A1 : Option Addr) (c1 : Nat) (l1 : List Int) (A2 : Option Addr) (c2 : Nat) (l2 : List Int) (r : Int) (w : World) (aV : Kd.C (Kd.slice 3 (Kd.int .i64)) w ak ae.length ae) (aX : ae.length ≤ an) (aU : Kd.C (Kd.slice 3 (Kd.int .i64)) w aj af.length af) (aW : af.length ≤ al) (hr1 : Kd.C (Kd.int .i64) w A1 l1.length l1) (hc1 : l1.length ≤ c1) (hr2 : Kd.C (Kd.int .i64) w A2 l2.length l2) (hc2 : l2.length ≤ c2) (h : Zo.f k ae af l1 l2 = some r) :
  Calls Try.prog 89 #[.agg #[.slice ak ae.length an, .slice aj af.length al], .slice A1 l1.length c1, .slice A2 l2.length c2] w fun e w' => e = .returned (.int .i64 r) ∧ Below w.heap.size w w' := by
 have dD := Try.underlying24; have av := aa.mk aV; have aw := aa.mk aX; clear aV aX; have ay := aa.mk aU; have ax := aa.mk aW; clear aU aW; have HR1 := aa.mk hr1; have HC1 := aa.mk hc1; clear hr1 hc1; have HR2 := aa.mk hr2; have HC2 := aa.mk hc2; clear hr2 hc2; have HB := aa.mk (Below.refl w.heap.size w); have H : ((Zs.f k ae af l1).bind fun t102 => (if t102 = 0 then ((Zd.f l2 (ae.length : Int) 0 1000).bind fun t103 => (if t103 = true then ((Qi.f k l1).bind fun t104 => (if t104 ≤ 0 then (some 8) else ((Ze.f k ae af l1).bind fun t105 => (if t105 = true then (some 0) else (some 8))))) else (some 1))) else (some t102))) = some r := h; clear h; replace H := Option.bind_eq_some_iff.mp H; obtain ⟨t102, A40, H⟩ := H; replace H : (if t102 = 0 then ((Zd.f l2 (ae.length : Int) 0 1000).bind fun t103 => (if t103 = true then ((Qi.f k l1).bind fun t104 => (if t104 ≤ 0 then (some 8) else ((Ze.f k ae af l1).bind fun t105 => (if t105 = true then (some 0) else (some 8))))) else (some 1))) else (some t102)) = some r := H; have A4 := aa.mk A40; clear A40; by_cases c5 : t102 = 0
 ·rw [if_pos c5] at H; have dp : (t102 == 0) = true := beq_iff_eq.mpr c5; have fN : (t102 != 0) = false := bne_eq_false_iff_eq.mpr c5; clear c5; replace H := Option.bind_eq_some_iff.mp H; obtain ⟨t103, A60, H⟩ := H; replace H : (if t103 = true then ((Qi.f k l1).bind fun t104 => (if t104 ≤ 0 then (some 8) else ((Ze.f k ae af l1).bind fun t105 => (if t105 = true then (some 0) else (some 8))))) else (some 1)) = some r := H; have A6 := aa.mk A60; clear A60; by_cases c7 : t103 = true
  ·subst c7; have H1 : ((Qi.f k l1).bind fun t104 => (if t104 ≤ 0 then (some 8) else ((Ze.f k ae af l1).bind fun t105 => (if t105 = true then (some 0) else (some 8))))) = some r := by rw [if_pos rfl] at H; exact H
   clear H; have H := H1; clear H1; replace H := Option.bind_eq_some_iff.mp H; obtain ⟨t104, A80, H⟩ := H; replace H : (if t104 ≤ 0 then (some 8) else ((Ze.f k ae af l1).bind fun t105 => (if t105 = true then (some 0) else (some 8)))) = some r := H; have A8 := aa.mk A80; clear A80; by_cases c9 : t104 ≤ 0
   ·rw [if_pos c9] at H; have fA : decide (t104 ≤ 0) = true := decide_eq_true c9; clear c9; obtain rfl := Option.some.inj H; go_enter Try.func89, Try.ntmps89; go_wp2_with (first | ((with_reducible refine QM (N := 3) rfl ?_); refine QU ?hg (N := 3) ?hd (cs := #[.slice ak ae.length an, .slice aj af.length al]) (t := 24) ?hr ?_; (case hd => rfl); (case hg => rfl); (case hr => first | (go_simp; done) | (go_simp; rfl)); intro ag hg w10 hbox hb; have ab := aa.mk (hbox); have ba := aa.mk ((by rw [hg]; exact (Qe bB) : w.heap.size ≤ ag)); have aN := aa.mk ((by rw [hg]; exact (Qe bB) : w.heap.size ≤ ag)); replace HB := aa.mk (Qc bB hb); clear hb hbox hg; have cl : w10.cell? ⟨ag, 0, none⟩ = some (.slice ak ae.length an) := (Qb ab.out 0).trans rfl; have ck : w10.cell? ⟨ag, 1, none⟩ = some (.slice aj af.length al) := (Qb ab.out 1).trans rfl; have cj := Qa ab.out 0; have ch := Qa ab.out 1) | ((with_reducible refine Qf (f := 87) rfl ?_); refine QE (some 10) rfl rfl Try.func87 (by kernel_rfl) rfl #[.agg #[.slice ak ae.length an, .slice aj af.length al], .slice A1 l1.length c1] rfl hA ?_; (with_reducible refine (Zs.calls k _ _ ae _ _ af _ _ l1 t102 _ ?ai ?ah ?aq ?ao ?aK ?aJ A4.out).mono ?_); (case ai => exact (Kd.Qh av.out HB.out)); (case ah => exact aw.out); (case aq => exact (Kd.Qh ay.out HB.out)); (case ao => exact ax.out); (case aK => exact (Kd.Qh HR1.out HB.out)); (case aJ => exact HC1.out); rintro e w12 ⟨rfl, hb⟩; refine ⟨_, rfl, ?_⟩; replace ab := aa.mk (Ql ab.out hb); replace HB := aa.mk (Qc bB hb); (try clear hb); (try clear hb2); (try clear hk); (try clear hi); have dh : w12.cell? ⟨ag, 0, none⟩ = some (.slice ak ae.length an) := (Qb ab.out 0).trans rfl; have dg : w12.cell? ⟨ag, 1, none⟩ = some (.slice aj af.length al) := (Qb ab.out 1).trans rfl; have df := Qa ab.out 0; have de := Qa ab.out 1) | ((with_reducible refine Qf (f := 77) rfl ?_); refine QE (some 18) rfl rfl Try.func77 (by kernel_rfl) rfl #[.slice A2 l2.length c2, .int .i64 (ae.length : Int), .int .i64 0, .int .i64 1000] rfl hA ?_; (with_reducible refine (Zd.calls _ _ l2 (ae.length : Int) 0 1000 true _ ?ai ?ah A6.out).mono ?_); (case ai => exact (Kd.Qh HR2.out HB.out)); (case ah => exact HC2.out); rintro e w14 ⟨rfl, hb⟩; refine ⟨_, rfl, ?_⟩; replace ab := aa.mk (Ql ab.out hb); replace HB := aa.mk (Qc bB hb); (try clear hb); (try clear hb2); (try clear hk); (try clear hi)) | ((with_reducible refine Qf (f := 84) rfl ?_); refine QE (some 21) rfl rfl Try.func84 (by kernel_rfl) rfl #[.slice A1 l1.length c1] rfl hA ?_; (with_reducible refine (Qi.calls k _ _ l1 t104 _ ?ai ?ah A8.out).mono ?_); (case ai => exact (Kd.Qh HR1.out HB.out)); (case ah => exact HC1.out); rintro e w15 ⟨rfl, hb⟩; refine ⟨_, rfl, ?_⟩; replace ab := aa.mk (Ql ab.out hb); replace HB := aa.mk (Qc bB hb); (try clear hb); (try clear hb2); (try clear hk); (try clear hi)))
    go_ret; exact ⟨by first | rfl | (simp [Qk, Qj] <;> rfl) | (simp [*, Qk, Qj] <;> rfl), bB⟩
   ·rw [if_neg c9] at H; have fA : decide (t104 ≤ 0) = false := decide_eq_false c9; clear c9; replace H := Option.bind_eq_some_iff.mp H; obtain ⟨t105, nk, H⟩ := H; replace H : (if t105 = true then (some 0) else (some 8)) = some r := H; have A16 := aa.mk nk; clear nk; by_cases c17 : t105 = true
    ·subst c17; have H1 : (some 0) = some r := by rw [if_pos rfl] at H; exact H
     clear H; have H := H1; clear H1; obtain rfl := Option.some.inj H; go_enter Try.func89, Try.ntmps89; go_wp2_with (first | ((with_reducible refine QM (N := 3) rfl ?_); refine QU ?hg (N := 3) ?hd (cs := #[.slice ak ae.length an, .slice aj af.length al]) (t := 24) ?hr ?_; (case hd => rfl); (case hg => rfl); (case hr => first | (go_simp; done) | (go_simp; rfl)); intro ag hg w18 hbox hb; have ab := aa.mk (hbox); have ba := aa.mk ((by rw [hg]; exact (Qe bB) : w.heap.size ≤ ag)); have aN := aa.mk ((by rw [hg]; exact (Qe bB) : w.heap.size ≤ ag)); replace HB := aa.mk (Qc bB hb); clear hb hbox hg; have jI : w18.cell? ⟨ag, 0, none⟩ = some (.slice ak ae.length an) := (Qb ab.out 0).trans rfl; have jH : w18.cell? ⟨ag, 1, none⟩ = some (.slice aj af.length al) := (Qb ab.out 1).trans rfl; have jC := Qa ab.out 0; have jB := Qa ab.out 1) | ((with_reducible refine Qf (f := 87) rfl ?_); refine QE (some 10) rfl rfl Try.func87 (by kernel_rfl) rfl #[.agg #[.slice ak ae.length an, .slice aj af.length al], .slice A1 l1.length c1] rfl hA ?_; (with_reducible refine (Zs.calls k _ _ ae _ _ af _ _ l1 t102 _ ?ai ?ah ?aq ?ao ?aK ?aJ A4.out).mono ?_); (case ai => exact (Kd.Qh av.out HB.out)); (case ah => exact aw.out); (case aq => exact (Kd.Qh ay.out HB.out)); (case ao => exact ax.out); (case aK => exact (Kd.Qh HR1.out HB.out)); (case aJ => exact HC1.out); rintro e w20 ⟨rfl, hb⟩; refine ⟨_, rfl, ?_⟩; replace ab := aa.mk (Ql ab.out hb); replace HB := aa.mk (Qc bB hb); (try clear hb); (try clear hb2); (try clear hk); (try clear hi); have iu : w20.cell? ⟨ag, 0, none⟩ = some (.slice ak ae.length an) := (Qb ab.out 0).trans rfl; have ir : w20.cell? ⟨ag, 1, none⟩ = some (.slice aj af.length al) := (Qb ab.out 1).trans rfl; have il := Qa ab.out 0; have ik := Qa ab.out 1) | ((with_reducible refine Qf (f := 77) rfl ?_); refine QE (some 18) rfl rfl Try.func77 (by kernel_rfl) rfl #[.slice A2 l2.length c2, .int .i64 (ae.length : Int), .int .i64 0, .int .i64 1000] rfl hA ?_; (with_reducible refine (Zd.calls _ _ l2 (ae.length : Int) 0 1000 true _ ?ai ?ah A6.out).mono ?_); (case ai => exact (Kd.Qh HR2.out HB.out)); (case ah => exact HC2.out); rintro e w22 ⟨rfl, hb⟩; refine ⟨_, rfl, ?_⟩; replace ab := aa.mk (Ql ab.out hb); replace HB := aa.mk (Qc bB hb); (try clear hb); (try clear hb2); (try clear hk); (try clear hi)) | ((with_reducible refine Qf (f := 84) rfl ?_); refine QE (some 21) rfl rfl Try.func84 (by kernel_rfl) rfl #[.slice A1 l1.length c1] rfl hA ?_; (with_reducible refine (Qi.calls k _ _ l1 t104 _ ?ai ?ah A8.out).mono ?_); (case ai => exact (Kd.Qh HR1.out HB.out)); (case ah => exact HC1.out); rintro e w23 ⟨rfl, hb⟩; refine ⟨_, rfl, ?_⟩; replace ab := aa.mk (Ql ab.out hb); replace HB := aa.mk (Qc bB hb); (try clear hb); (try clear hb2); (try clear hk); (try clear hi); have oI : w23.cell? ⟨ag, 0, none⟩ = some (.slice ak ae.length an) := (Qb ab.out 0).trans rfl; have oH : w23.cell? ⟨ag, 1, none⟩ = some (.slice aj af.length al) := (Qb ab.out 1).trans rfl; have n3 := Qa ab.out 0; have n2 := Qa ab.out 1) | (go_at_call 95; (with_reducible refine (Ze.calls k _ _ ae _ _ af _ _ l1 true _ ?ai ?ah ?aq ?ao ?aK ?aJ A16.out).mono ?_); (case ai => exact (Kd.Qh av.out HB.out)); (case ah => exact aw.out); (case aq => exact (Kd.Qh ay.out HB.out)); (case ao => exact ax.out); (case aK => exact (Kd.Qh HR1.out HB.out)); (case aJ => exact HC1.out); rintro e w25 ⟨rfl, hb⟩; replace ab := aa.mk (Ql ab.out hb); replace HB := aa.mk (Qc bB hb); (try clear hb); (try clear hb2); (try clear hk); (try clear hi)))
     go_ret; exact ⟨by first | rfl | (simp [Qk, Qj] <;> rfl) | (simp [*, Qk, Qj] <;> rfl), bB⟩
    ·replace c17 := Bool.eq_false_iff.mpr c17; subst c17; have H1 : (some 8) = some r := by rw [if_neg (show ¬ (false = true) by decide)] at H; exact H
     clear H; have H := H1; clear H1; obtain rfl := Option.some.inj H; go_enter Try.func89, Try.ntmps89; go_wp2_with (first | ((with_reducible refine QM (N := 3) rfl ?_); refine QU ?hg (N := 3) ?hd (cs := #[.slice ak ae.length an, .slice aj af.length al]) (t := 24) ?hr ?_; (case hd => rfl); (case hg => rfl); (case hr => first | (go_simp; done) | (go_simp; rfl)); intro ag hg w26 hbox hb; have ab := aa.mk (hbox); have ba := aa.mk ((by rw [hg]; exact (Qe bB) : w.heap.size ≤ ag)); have aN := aa.mk ((by rw [hg]; exact (Qe bB) : w.heap.size ≤ ag)); replace HB := aa.mk (Qc bB hb); clear hb hbox hg; have iq : w26.cell? ⟨ag, 0, none⟩ = some (.slice ak ae.length an) := (Qb ab.out 0).trans rfl; have im : w26.cell? ⟨ag, 1, none⟩ = some (.slice aj af.length al) := (Qb ab.out 1).trans rfl; have ij := Qa ab.out 0; have ig := Qa ab.out 1) | ((with_reducible refine Qf (f := 87) rfl ?_); refine QE (some 10) rfl rfl Try.func87 (by kernel_rfl) rfl #[.agg #[.slice ak ae.length an, .slice aj af.length al], .slice A1 l1.length c1] rfl hA ?_; (with_reducible refine (Zs.calls k _ _ ae _ _ af _ _ l1 t102 _ ?ai ?ah ?aq ?ao ?aK ?aJ A4.out).mono ?_); (case ai => exact (Kd.Qh av.out HB.out)); (case ah => exact aw.out); (case aq => exact (Kd.Qh ay.out HB.out)); (case ao => exact ax.out); (case aK => exact (Kd.Qh HR1.out HB.out)); (case aJ => exact HC1.out); rintro e w28 ⟨rfl, hb⟩; refine ⟨_, rfl, ?_⟩; replace ab := aa.mk (Ql ab.out hb); replace HB := aa.mk (Qc bB hb); (try clear hb); (try clear hb2); (try clear hk); (try clear hi); have lX : w28.cell? ⟨ag, 0, none⟩ = some (.slice ak ae.length an) := (Qb ab.out 0).trans rfl; have lW : w28.cell? ⟨ag, 1, none⟩ = some (.slice aj af.length al) := (Qb ab.out 1).trans rfl; have lP := Qa ab.out 0; have lO := Qa ab.out 1) | ((with_reducible refine Qf (f := 77) rfl ?_); refine QE (some 18) rfl rfl Try.func77 (by kernel_rfl) rfl #[.slice A2 l2.length c2, .int .i64 (ae.length : Int), .int .i64 0, .int .i64 1000] rfl hA ?_; (with_reducible refine (Zd.calls _ _ l2 (ae.length : Int) 0 1000 true _ ?ai ?ah A6.out).mono ?_); (case ai => exact (Kd.Qh HR2.out HB.out)); (case ah => exact HC2.out); rintro e w30 ⟨rfl, hb⟩; refine ⟨_, rfl, ?_⟩; replace ab := aa.mk (Ql ab.out hb); replace HB := aa.mk (Qc bB hb); (try clear hb); (try clear hb2); (try clear hk); (try clear hi)) | ((with_reducible refine Qf (f := 84) rfl ?_); refine QE (some 21) rfl rfl Try.func84 (by kernel_rfl) rfl #[.slice A1 l1.length c1] rfl hA ?_; (with_reducible refine (Qi.calls k _ _ l1 t104 _ ?ai ?ah A8.out).mono ?_); (case ai => exact (Kd.Qh HR1.out HB.out)); (case ah => exact HC1.out); rintro e w31 ⟨rfl, hb⟩; refine ⟨_, rfl, ?_⟩; replace ab := aa.mk (Ql ab.out hb); replace HB := aa.mk (Qc bB hb); (try clear hb); (try clear hb2); (try clear hk); (try clear hi); have oE : w31.cell? ⟨ag, 0, none⟩ = some (.slice ak ae.length an) := (Qb ab.out 0).trans rfl; have oD : w31.cell? ⟨ag, 1, none⟩ = some (.slice aj af.length al) := (Qb ab.out 1).trans rfl; have nX := Qa ab.out 0; have nW := Qa ab.out 1) | (go_at_call 95; (with_reducible refine (Ze.calls k _ _ ae _ _ af _ _ l1 false _ ?ai ?ah ?aq ?ao ?aK ?aJ A16.out).mono ?_); (case ai => exact (Kd.Qh av.out HB.out)); (case ah => exact aw.out); (case aq => exact (Kd.Qh ay.out HB.out)); (case ao => exact ax.out); (case aK => exact (Kd.Qh HR1.out HB.out)); (case aJ => exact HC1.out); rintro e w33 ⟨rfl, hb⟩; replace ab := aa.mk (Ql ab.out hb); replace HB := aa.mk (Qc bB hb); (try clear hb); (try clear hb2); (try clear hk); (try clear hi)))
     go_ret; exact ⟨by first | rfl | (simp [Qk, Qj] <;> rfl) | (simp [*, Qk, Qj] <;> rfl), bB⟩
  ·replace c7 := Bool.eq_false_iff.mpr c7; subst c7; have H1 : (some 1) = some r := by rw [if_neg (show ¬ (false = true) by decide)] at H; exact H
   clear H; have H := H1; clear H1; obtain rfl := Option.some.inj H; go_enter Try.func89, Try.ntmps89; go_wp2_with (first | ((with_reducible refine QM (N := 3) rfl ?_); refine QU ?hg (N := 3) ?hd (cs := #[.slice ak ae.length an, .slice aj af.length al]) (t := 24) ?hr ?_; (case hd => rfl); (case hg => rfl); (case hr => first | (go_simp; done) | (go_simp; rfl)); intro ag hg w34 hbox hb; have ab := aa.mk (hbox); have ba := aa.mk ((by rw [hg]; exact (Qe bB) : w.heap.size ≤ ag)); have aN := aa.mk ((by rw [hg]; exact (Qe bB) : w.heap.size ≤ ag)); replace HB := aa.mk (Qc bB hb); clear hb hbox hg; have oA : w34.cell? ⟨ag, 0, none⟩ = some (.slice ak ae.length an) := (Qb ab.out 0).trans rfl; have oy : w34.cell? ⟨ag, 1, none⟩ = some (.slice aj af.length al) := (Qb ab.out 1).trans rfl; have nT := Qa ab.out 0; have nS := Qa ab.out 1) | ((with_reducible refine Qf (f := 87) rfl ?_); refine QE (some 10) rfl rfl Try.func87 (by kernel_rfl) rfl #[.agg #[.slice ak ae.length an, .slice aj af.length al], .slice A1 l1.length c1] rfl hA ?_; (with_reducible refine (Zs.calls k _ _ ae _ _ af _ _ l1 t102 _ ?ai ?ah ?aq ?ao ?aK ?aJ A4.out).mono ?_); (case ai => exact (Kd.Qh av.out HB.out)); (case ah => exact aw.out); (case aq => exact (Kd.Qh ay.out HB.out)); (case ao => exact ax.out); (case aK => exact (Kd.Qh HR1.out HB.out)); (case aJ => exact HC1.out); rintro e w36 ⟨rfl, hb⟩; refine ⟨_, rfl, ?_⟩; replace ab := aa.mk (Ql ab.out hb); replace HB := aa.mk (Qc bB hb); (try clear hb); (try clear hb2); (try clear hk); (try clear hi); have ox : w36.cell? ⟨ag, 0, none⟩ = some (.slice ak ae.length an) := (Qb ab.out 0).trans rfl; have ow : w36.cell? ⟨ag, 1, none⟩ = some (.slice aj af.length al) := (Qb ab.out 1).trans rfl; have nR := Qa ab.out 0; have nQ := Qa ab.out 1) | ((with_reducible refine Qf (f := 77) rfl ?_); refine QE (some 18) rfl rfl Try.func77 (by kernel_rfl) rfl #[.slice A2 l2.length c2, .int .i64 (ae.length : Int), .int .i64 0, .int .i64 1000] rfl hA ?_; (with_reducible refine (Zd.calls _ _ l2 (ae.length : Int) 0 1000 false _ ?ai ?ah A6.out).mono ?_); (case ai => exact (Kd.Qh HR2.out HB.out)); (case ah => exact HC2.out); rintro e w38 ⟨rfl, hb⟩; refine ⟨_, rfl, ?_⟩; replace ab := aa.mk (Ql ab.out hb); replace HB := aa.mk (Qc bB hb); (try clear hb); (try clear hb2); (try clear hk); (try clear hi)))
   go_ret; exact ⟨by first | rfl | (simp [Qk, Qj] <;> rfl) | (simp [*, Qk, Qj] <;> rfl), bB⟩
 ·rw [if_neg c5] at H; have dp : (t102 == 0) = false := beq_eq_false_iff_ne.mpr c5; have fN : (t102 != 0) = true := bne_iff_ne.mpr c5; obtain rfl := Option.some.inj H; go_enter Try.func89, Try.ntmps89; go_wp2_with (first | ((with_reducible refine QM (N := 3) rfl ?_); refine QU ?hg (N := 3) ?hd (cs := #[.slice ak ae.length an, .slice aj af.length al]) (t := 24) ?hr ?_; (case hd => rfl); (case hg => rfl); (case hr => first | (go_simp; done) | (go_simp; rfl)); intro ag hg w39 hbox hb; have ab := aa.mk (hbox); have ba := aa.mk ((by rw [hg]; exact (Qe bB) : w.heap.size ≤ ag)); have aN := aa.mk ((by rw [hg]; exact (Qe bB) : w.heap.size ≤ ag)); replace HB := aa.mk (Qc bB hb); clear hb hbox hg; have lT : w39.cell? ⟨ag, 0, none⟩ = some (.slice ak ae.length an) := (Qb ab.out 0).trans rfl; have lS : w39.cell? ⟨ag, 1, none⟩ = some (.slice aj af.length al) := (Qb ab.out 1).trans rfl; have lL := Qa ab.out 0; have lK := Qa ab.out 1) | ((with_reducible refine Qf (f := 87) rfl ?_); refine QE (some 10) rfl rfl Try.func87 (by kernel_rfl) rfl #[.agg #[.slice ak ae.length an, .slice aj af.length al], .slice A1 l1.length c1] rfl hA ?_; (with_reducible refine (Zs.calls k _ _ ae _ _ af _ _ l1 t102 _ ?ai ?ah ?aq ?ao ?aK ?aJ A4.out).mono ?_); (case ai => exact (Kd.Qh av.out HB.out)); (case ah => exact aw.out); (case aq => exact (Kd.Qh ay.out HB.out)); (case ao => exact ax.out); (case aK => exact (Kd.Qh HR1.out HB.out)); (case aJ => exact HC1.out); rintro e w41 ⟨rfl, hb⟩; refine ⟨_, rfl, ?_⟩; replace ab := aa.mk (Ql ab.out hb); replace HB := aa.mk (Qc bB hb); (try clear hb); (try clear hb2); (try clear hk); (try clear hi)))
  go_ret; exact ⟨by first | rfl | (simp [Qk, Qj] <;> rfl) | (simp [*, Qk, Qj] <;> rfl), bB⟩
mutual
def QO.l0 : Nat → List Int → List Int → Int → List Int → Int → Int → Option (Int × List Int × Int)
 | 0, _, _, _, _, _, _ => none
 | k + 1, x1, x2, x10, x23, x24, x25 => if x25 < x24 then (if 0 ≤ x25 then (if x25 < (x23.length : Int) then (if x25 < (x1.length : Int) then (if (rd x1 x25) = 0 then (none) else (QO.l0 k x1 x2 (mn x10 (wrap64 (Int.tdiv (rd x23 x25) (rd x1 x25)))) x23 x24 (wrap64 (x25 + 1)))) else (none)) else (none)) else (none)) else (QO.l1 k x1 x10 ([] : List Int) x2 (x2.length : Int) 0)
def QO.l1 : Nat → List Int → Int → List Int → List Int → Int → Int → Option (Int × List Int × Int)
 | 0, _, _, _, _, _, _ => none
 | k + 1, x1, x10, x13, x39, x40, x41 => if x41 < x40 then (if 0 ≤ x41 then (if x41 < (x39.length : Int) then (if x41 < (x1.length : Int) then (if (rd x39 x41) < (wrap64 ((wrap64 (x10 + 1)) * (rd x1 x41))) then (if x13.length < 17592186044416 then (QO.l1 k x1 x10 (x13 ++ [x41]) x39 x40 (wrap64 (x41 + 1))) else (none)) else (QO.l1 k x1 x10 x13 x39 x40 (wrap64 (x41 + 1)))) else (none)) else (none)) else (none)) else (some (x10, x13, 0))
end
def QO.f (k : Nat) (ae : List (List Int)) (af : List (List Int)) (l1 : List Int) (l2 : List Int) : Option (Int × List Int × Int) := (Zo.f k ae af l1 l2).bind fun t102 => (if t102 = 0 then (QO.l0 k l1 l2 1000 l2 (l2.length : Int) 0) else (some (0, ([] : List Int), t102)))
theorem QO.ZM : ∀ k, (∀ y0 y1 y2 y3 y4 y5, LeO (QO.l0 k y0 y1 y2 y3 y4 y5) (QO.l0 (k + 1) y0 y1 y2 y3 y4 y5)) ∧ (∀ y0 y1 y2 y3 y4 y5, LeO (QO.l1 k y0 y1 y2 y3 y4 y5) (QO.l1 (k + 1) y0 y1 y2 y3 y4 y5))
 | 0 => ⟨fun _ _ _ _ _ _ r h => by simp [QO.l0] at h, fun _ _ _ _ _ _ r h => by simp [QO.l1] at h⟩
 | k + 1 => by
  obtain ⟨ih0, ih1⟩ := QO.ZM k; refine ⟨?_, ?_⟩ <;> intros <;> (first | unfold QO.l0 | unfold QO.l1) <;> repeat' first | (with_reducible exact ih0 _ _ _ _ _ _) | (with_reducible exact ih1 _ _ _ _ _ _) | (with_reducible exact Zo.mono _ _ _ _ _) | (with_reducible exact LeO.refl _) | (with_reducible exact LeO.none _) | (with_reducible refine LeO.ite ?_ ?_) | (with_reducible refine LeO.bind ?_ (fun _ => ?_)) | exact ih0 _ _ _ _ _ _ | exact ih1 _ _ _ _ _ _ | exact Zo.mono _ _ _ _ _ | exact LeO.none _ | refine LeO.ite ?_ ?_ | refine LeO.bind ?_ (fun _ => ?_)
theorem QO.mono : ∀ a0 a1 a2 a3 k, LeO (QO.f k a0 a1 a2 a3) (QO.f (k + 1) a0 a1 a2 a3) := by
 intro a0 a1 a2 a3 k; obtain ⟨ih0, ih1⟩ := QO.ZM k; unfold QO.f; repeat' first | (with_reducible exact ih0 _ _ _ _ _ _) | (with_reducible exact ih1 _ _ _ _ _ _) | (with_reducible exact Zo.mono _ _ _ _ _) | (with_reducible exact LeO.refl _) | (with_reducible exact LeO.none _) | (with_reducible refine LeO.ite ?_ ?_) | (with_reducible refine LeO.bind ?_ (fun _ => ?_)) | exact ih0 _ _ _ _ _ _ | exact ih1 _ _ _ _ _ _ | exact Zo.mono _ _ _ _ _ | exact LeO.none _ | refine LeO.ite ?_ ?_ | refine LeO.bind ?_ (fun _ => ?_)
set_option maxHeartbeats 8000000 in
set_option maxRecDepth 100000 in
theorem QO.calls (k : Nat) (ak : Option Addr) (an : Nat) (ae : List (List Int)) (aj : Option Addr) (al : Nat) (af : List (List Int)) (A1 : Option Addr) (c1 : Nat) (l1 : List Int) (A2 : Option Addr) (c2 : Nat) (l2 : List Int) (r1 : Int) (r2 : List Int) (r3 : Int) (w : World) (aV : Kd.C (Kd.slice 3 (Kd.int .i64)) w ak ae.length ae) (aX : ae.length ≤ an) (aU : Kd.C (Kd.slice 3 (Kd.int .i64)) w aj af.length af) (aW : af.length ≤ al) (hr1 : Kd.C (Kd.int .i64) w A1 l1.length l1) (hc1 : l1.length ≤ c1) (hr2 : Kd.C (Kd.int .i64) w A2 l2.length l2) (hc2 : l2.length ≤ c2) (h : QO.f k ae af l1 l2 = some (r1, r2, r3)) :
  Calls Try.prog 46 #[.agg #[.slice ak ae.length an, .slice aj af.length al], .slice A1 l1.length c1, .slice A2 l2.length c2] w fun e w' => ∃ v1_ : Value, e = .returned (.tuple #[.int .i64 r1, v1_, .int .i64 r3]) ∧ Kd.R (Kd.int .i64) 3 w' w.heap.size (fun _ => True) v1_ r2 ∧ Below w.heap.size w w' := by
 have dD := Try.underlying24; have av := aa.mk aV; have aw := aa.mk aX; clear aV aX; have ay := aa.mk aU; have ax := aa.mk aW; clear aU aW; have HR1 := aa.mk hr1; have HC1 := aa.mk hc1; clear hr1 hc1; have HR2 := aa.mk hr2; have HC2 := aa.mk hc2; clear hr2 hc2; have HB := aa.mk (Below.refl w.heap.size w); have H : ((Zo.f k ae af l1 l2).bind fun t102 => (if t102 = 0 then (QO.l0 k l1 l2 1000 l2 (l2.length : Int) 0) else (some (0, ([] : List Int), t102)))) = some (r1, r2, r3) := h; clear h; replace H := Option.bind_eq_some_iff.mp H; obtain ⟨t102, A40, H⟩ := H; replace H : (if t102 = 0 then (QO.l0 k l1 l2 1000 l2 (l2.length : Int) 0) else (some (0, ([] : List Int), t102))) = some (r1, r2, r3) := H; have A4 := aa.mk A40; clear A40; by_cases c5 : t102 = 0
 ·rw [if_pos c5] at H; have dp : (t102 == 0) = true := beq_iff_eq.mpr c5; have fN : (t102 != 0) = false := bne_eq_false_iff_eq.mpr c5; clear c5; have H' := aa.mk H; clear H; go_enter Try.func46, Try.ntmps46; go_wp2_with (first | ((with_reducible refine QM (N := 3) rfl ?_); refine QU ?hg (N := 3) ?hd (cs := #[.slice ak ae.length an, .slice aj af.length al]) (t := 24) ?hr ?_; (case hd => rfl); (case hg => rfl); (case hr => first | (go_simp; done) | (go_simp; rfl)); intro ag hg w6 hbox hb; have ab := aa.mk (hbox); have ba := aa.mk ((by rw [hg]; exact (Qe bB) : w.heap.size ≤ ag)); have aN := aa.mk ((by rw [hg]; exact (Qe bB) : w.heap.size ≤ ag)); replace HB := aa.mk (Qc bB hb); clear hb hbox hg; have dS : w6.cell? ⟨ag, 0, none⟩ = some (.slice ak ae.length an) := (Qb ab.out 0).trans rfl; have dR : w6.cell? ⟨ag, 1, none⟩ = some (.slice aj af.length al) := (Qb ab.out 1).trans rfl; have dQ := Qa ab.out 0; have dP := Qa ab.out 1) | ((with_reducible refine Qf (f := 89) rfl ?_); refine QE (some 19) rfl rfl Try.func89 (by kernel_rfl) rfl #[.agg #[.slice ak ae.length an, .slice aj af.length al], .slice A1 l1.length c1, .slice A2 l2.length c2] rfl hA ?_; (with_reducible refine (Zo.calls k _ _ ae _ _ af _ _ l1 _ _ l2 t102 _ ?ai ?ah ?aq ?ao ?aK ?aJ ?j6 ?j5 A4.out).mono ?_); (case ai => exact (Kd.Qh av.out HB.out)); (case ah => exact aw.out); (case aq => exact (Kd.Qh ay.out HB.out)); (case ao => exact ax.out); (case aK => exact (Kd.Qh HR1.out HB.out)); (case aJ => exact HC1.out); (case j6 => exact (Kd.Qh HR2.out HB.out)); (case j5 => exact HC2.out); rintro e w8 ⟨rfl, hb⟩; refine ⟨_, rfl, ?_⟩; replace ab := aa.mk (Ql ab.out hb); replace HB := aa.mk (Qc bB hb); (try clear hb); (try clear hb2); (try clear hk); (try clear hi)))
  go_loopg [10, 25] k (fun kq v10 v25 w' => ∃ (e5 : Int) (bH : Int), v10 = .int .i64 e5 ∧ v25 = .int .i64 bH ∧ aa (QO.l0 kq l1 l2 e5 l2 (l2.length : Int) bH = some (r1, r2, r3)) ∧ aa (kq ≤ k) ∧ aa (w'.heap[ag]? = some (.cells #[(.slice ak ae.length an), (.slice aj af.length al)] 24 (0, 0))) ∧ aa (Below w.heap.size w w'))
  case atStart => exact ⟨(1000), (0), (by first | rfl | (simp; done) | (simp [*]; done)), (by first | rfl | (simp; done) | (simp [*]; done)), H', ⟨Nat.le_refl _⟩, ⟨by (with_reducible repeat (first | refine Qv ?_ _ | refine Qx ?_ | refine Qu ?_ _)); exact ab.out⟩, ⟨bB⟩⟩
  case round =>
   clear H'; try clear c1
   try clear c2
   try clear p2
   try clear c4
   try clear c5
   try clear dp
   try clear fN
   try clear c8
   try clear dS
   try clear dR
   try clear dQ
   try clear dP
   obtain ⟨e5, bH, rfl, rfl, HA, HK1, ab, HB⟩ := hrel; cases gk with
   | zero => exact absurd HA.out (by simp [QO.l0])
   | succ k1 =>
    have H := HA.out; clear HA; simp only [QO.l0] at H; by_cases c9 : bH < (l2.length : Int)
    ·rw [if_pos c9] at H; have fA : decide (bH < (l2.length : Int)) = true := decide_eq_true c9; clear c9; by_cases c10 : 0 ≤ bH
     ·rw [if_pos c10] at H; have eQ : decide (0 ≤ bH) = true := decide_eq_true c10; clear c10; by_cases c11 : bH < (l2.length : Int)
      ·rw [if_pos c11] at H; have dV : decide (bH < (l2.length : Int)) = true := decide_eq_true c11; clear c11; by_cases c12 : bH < (l1.length : Int)
       ·rw [if_pos c12] at H; have eB : decide (bH < (l1.length : Int)) = true := decide_eq_true c12; clear c12; by_cases c13 : (rd l1 bH) = 0
        ·rw [if_pos c13] at H; exact absurd H (by simp)
        ·rw [if_neg c13] at H; have iJ : ((rd l1 bH) == 0) = false := beq_eq_false_iff_ne.mpr c13; have rQ : ((rd l1 bH) != 0) = true := bne_iff_ne.mpr c13; obtain ⟨p4, lF⟩ : ∃ j_ : Int, (mn e5 (wrap64 (Int.tdiv (rd l2 bH) (rd l1 bH)))) = j_ := ⟨_, rfl⟩; replace H : (QO.l0 k1 l1 l2 p4 l2 (l2.length : Int) (wrap64 (bH + 1))) = some (r1, r2, r3) := by first | (rw [lF] at H; exact H) | (simp only [lF] at H ⊢; exact H)
         have ue : (if (wrap64 (Int.tdiv (rd l2 bH) (rd l1 bH))) < e5 then (wrap64 (Int.tdiv (rd l2 bH) (rd l1 bH))) else e5) = p4 := lF; have H' := aa.mk H; clear H; have cn : 0 ≤ (bH : Int) := of_decide_eq_true (by assumption); have cm : bH < (l2.length : Int) := of_decide_eq_true (by assumption); obtain ⟨fB, fq, aG⟩ := Kd.QZ HR2.out bH cn cm; cases fq; replace aG := (HB.out.cell (World.block_lt_of_cell? w _ aG)).trans aG; replace cn := eq_true cn; replace cm := eq_true cm; have eZ : 0 ≤ (bH : Int) := of_decide_eq_true (by assumption); have eW : bH < (l1.length : Int) := of_decide_eq_true (by assumption); obtain ⟨pG, mY, bK⟩ := Kd.QZ HR1.out bH eZ eW; cases mY; replace bK := (HB.out.cell (World.block_lt_of_cell? w _ bK)).trans bK; replace eZ := eq_true eZ; replace eW := eq_true eW; go_wp2; go_roundg k1
         case measure => have := HK1.out; omega
         case rel => exact ⟨(p4), (wrap64 (bH + 1)), (by first | rfl | (simp; done) | (simp only [← lF] <;> (first | rfl | simp)) | (simp [*]; done)), (by first | rfl | (simp; done) | (simp [*]; done)), H', ⟨by have := HK1.out; omega⟩, ⟨by (with_reducible repeat (first | refine Qv ?_ _ | refine Qx ?_ | refine Qu ?_ _)); exact ab.out⟩, ⟨bB⟩⟩
       ·rw [if_neg c12] at H; exact absurd H (by simp)
      ·rw [if_neg c11] at H; exact absurd H (by simp)
     ·rw [if_neg c10] at H; exact absurd H (by simp)
    ·rw [if_neg c9] at H; have fA : decide (bH < (l2.length : Int)) = false := decide_eq_false c9; clear c9; have H' := aa.mk H; clear H; go_wp2; go_loopg [13, 41] k1 (fun kq v13 v41 w' => ∃ (eO : List Int) (bD : Int), v41 = .int .i64 bD ∧ aa (QO.l1 kq l1 e5 eO l2 (l2.length : Int) bD = some (r1, r2, r3)) ∧ aa (kq ≤ k1) ∧ aa (Kd.R (Kd.int .i64) 3 w' w.heap.size (fun _ => True) v13 eO) ∧ aa (w'.heap[ag]? = some (.cells #[(.slice ak ae.length an), (.slice aj af.length al)] 24 (0, 0))) ∧ aa (Below w.heap.size w w'))
     case atStart => exact ⟨(([] : List Int)), (0), (by first | rfl | (simp; done) | (simp [*]; done)), H', ⟨Nat.le_refl _⟩, ⟨by first | exact Kd.Yp _ _ _ _ _ | exact Kd.YU _ _ _ _ _ | exact Kd.V_nil _ _ _ _ _ | exact Kd.Q_nil _ _ _ _ _ | exact Kd.YZ _ _ _ _ _⟩, ⟨by (with_reducible repeat (first | refine Qv ?_ _ | refine Qx ?_ | refine Qu ?_ _)); exact ab.out⟩, ⟨bB⟩⟩
     case round =>
      clear H'; try clear c1
      try clear p1
      try clear q1
      try clear hx1
      try clear c2
      try clear p2
      try clear c4
      try clear c5
      try clear dp
      try clear fN
      try clear p6
      try clear c8
      try clear c9
      try clear fA
      try clear c10
      try clear eQ
      try clear p10
      try clear q10
      try clear hH
      try clear c11
      try clear dV
      try clear c12
      try clear eB
      try clear c13
      try clear iJ
      try clear rQ
      try clear dS
      try clear dR
      try clear dQ
      try clear dP
      try clear aG
      try clear bK
      try clear cn
      try clear eZ
      try clear p2
      try clear cm
      try clear eW
      obtain ⟨eO, bD, rfl, HA, HK2, kH, ab, HB⟩ := hrel; cases gk with
      | zero => exact absurd HA.out (by simp [QO.l1])
      | succ k2 =>
       have H := HA.out; clear HA; simp only [QO.l1] at H; by_cases c15 : bD < (l2.length : Int)
       ·rw [if_pos c15] at H; have iI : decide (bD < (l2.length : Int)) = true := decide_eq_true c15; clear c15; by_cases c16 : 0 ≤ bD
        ·rw [if_pos c16] at H; have fu : decide (0 ≤ bD) = true := decide_eq_true c16; clear c16; by_cases c17 : bD < (l2.length : Int)
         ·rw [if_pos c17] at H; have ej : decide (bD < (l2.length : Int)) = true := decide_eq_true c17; clear c17; by_cases c18 : bD < (l1.length : Int)
          ·rw [if_pos c18] at H; have iH : decide (bD < (l1.length : Int)) = true := decide_eq_true c18; clear c18; by_cases c19 : (rd l2 bD) < (wrap64 ((wrap64 (e5 + 1)) * (rd l1 bD)))
           ·rw [if_pos c19] at H; have ft : decide ((rd l2 bD) < (wrap64 ((wrap64 (e5 + 1)) * (rd l1 bD)))) = true := decide_eq_true c19; clear c19; by_cases c20 : eO.length < 17592186044416
            ·rw [if_pos c20] at H; have m9 := aa.mk c20; clear c20; obtain ⟨g9, fa⟩ : ∃ y_ : List Int, y_ = (eO ++ [bD]) := ⟨_, rfl⟩; replace H : (QO.l1 k2 l1 e5 g9 l2 (l2.length : Int) (wrap64 (bD + 1))) = some (r1, r2, r3) := by first | (rw [fa]; with_reducible exact H) | (have H2_ := (Option.bind_some _ _).symm.trans H; rw [fa]; with_reducible exact H2_) | (have H2_ := (Option.bind_some _ _).symm.trans H; with_reducible exact H2_) | with_reducible exact H | (rw [fa]; exact H) | exact H
             have jg := aa.mk fa; clear fa; have H' := aa.mk H; clear H; have b9 : 0 ≤ (bD : Int) := of_decide_eq_true (by assumption); have b8 : bD < (l2.length : Int) := of_decide_eq_true (by assumption); obtain ⟨gC, fp, bY⟩ := Kd.QZ HR2.out bD b9 b8; cases fp; replace bY := (HB.out.cell (World.block_lt_of_cell? w _ bY)).trans bY; replace b9 := eq_true b9; replace b8 := eq_true b8; have bz : 0 ≤ (bD : Int) := of_decide_eq_true (by assumption); have bw : bD < (l1.length : Int) := of_decide_eq_true (by assumption); obtain ⟨da, dr, aQ⟩ := Kd.QZ HR1.out bD bz bw; cases dr; replace aQ := (HB.out.cell (World.block_lt_of_cell? w _ aQ)).trans aQ; replace bz := eq_true bz; replace bw := eq_true bw; go_wp2_with (first | ((with_reducible refine ZF (b := .append) (xs := #[.tmp 55, .tmp 57]) rfl ?_); at_builtin; refine Kd.YO (Kd.int .i64) (w0 := w) w.heap.size rfl (.tmp 55) (.tmp 57) 28 3 (.int .i64 0) 8 rfl Try.underlying28 info3 rfl (by decide) (by omega) u13 eO bD [.int .i64 bD] (fun _ => True) (fun _ => False) rfl rfl ?aP (fun _ hk => hk.elim) ?aF ?aO ?aB ?aS ?aL ?_; (case aP => exact rfl); (case aB => exact bB); (case aF => exact (fun _ _ => trivial)); (case aO => exact kH.out); (case aS => exact (Qe bB)); (case aL => have := m9.out; omega); intro cK w21 ho hb hg hat; rw [← jg.out] at ho; replace ab := aa.mk (Z4 (g := ag) (o := .cells #[.slice ak ae.length an, .slice aj af.length al] 24 (0, 0)) (by (with_reducible repeat (first | refine Qv ?_ _ | refine Qx ?_ | refine Qu ?_ _)); exact ab.out) hg (Kd.R_ne kH.out ab.out (by decide))); replace HB := aa.mk (hb); have aT := aa.mk (ho); clear kH; clear ho hb hg hat))
             go_roundg k2
             case measure => have := HK1.out; have := HK2.out; omega
             case rel => exact ⟨(g9), (wrap64 (bD + 1)), (by first | rfl | (simp; done) | (simp [*]; done)), H', ⟨by have := HK1.out; have := HK2.out; omega⟩, ⟨by (with_reducible repeat (first | apply Kd.R_alloc | apply Kd.R_drewN | apply Kd.QX)); exact aT.out⟩, ⟨by (with_reducible repeat (first | refine Qv ?_ _ | refine Qx ?_ | refine Qu ?_ _)); exact ab.out⟩, ⟨bB⟩⟩
            ·rw [if_neg c20] at H; exact absurd H (by simp)
           ·rw [if_neg c19] at H; have ft : decide ((rd l2 bD) < (wrap64 ((wrap64 (e5 + 1)) * (rd l1 bD)))) = false := decide_eq_false c19; clear c19; have H' := aa.mk H; clear H; have b9 : 0 ≤ (bD : Int) := of_decide_eq_true (by assumption); have b8 : bD < (l2.length : Int) := of_decide_eq_true (by assumption); obtain ⟨gC, fp, bY⟩ := Kd.QZ HR2.out bD b9 b8; cases fp; replace bY := (HB.out.cell (World.block_lt_of_cell? w _ bY)).trans bY; replace b9 := eq_true b9; replace b8 := eq_true b8; have bz : 0 ≤ (bD : Int) := of_decide_eq_true (by assumption); have bw : bD < (l1.length : Int) := of_decide_eq_true (by assumption); obtain ⟨da, dr, aQ⟩ := Kd.QZ HR1.out bD bz bw; cases dr; replace aQ := (HB.out.cell (World.block_lt_of_cell? w _ aQ)).trans aQ; replace bz := eq_true bz; replace bw := eq_true bw; go_wp2; go_roundg k2
            case measure => have := HK1.out; have := HK2.out; omega
            case rel => exact ⟨(eO), (wrap64 (bD + 1)), (by first | rfl | (simp; done) | (simp [*]; done)), H', ⟨by have := HK1.out; have := HK2.out; omega⟩, ⟨by (with_reducible repeat (first | apply Kd.R_alloc | apply Kd.R_drewN | apply Kd.QX)); exact kH.out⟩, ⟨by (with_reducible repeat (first | refine Qv ?_ _ | refine Qx ?_ | refine Qu ?_ _)); exact ab.out⟩, ⟨bB⟩⟩
          ·rw [if_neg c18] at H; exact absurd H (by simp)
         ·rw [if_neg c17] at H; exact absurd H (by simp)
        ·rw [if_neg c16] at H; exact absurd H (by simp)
       ·rw [if_neg c15] at H; have iI : decide (bD < (l2.length : Int)) = false := decide_eq_false c15; clear c15; simp only [Option.some.injEq, Prod.mk.injEq] at H; obtain ⟨rfl, rfl, rfl⟩ := H; go_wp2; go_ret3
        exact ⟨_, by first | rfl | (simp [Qk, Qj] <;> rfl) | (simp [*, Qk, Qj] <;> rfl), by (with_reducible repeat (first | apply Kd.R_alloc | apply Kd.R_drewN | apply Kd.QX)); exact kH.out, bB⟩
 ·rw [if_neg c5] at H; have dp : (t102 == 0) = false := beq_eq_false_iff_ne.mpr c5; have fN : (t102 != 0) = true := bne_iff_ne.mpr c5; simp only [Option.some.injEq, Prod.mk.injEq] at H; obtain ⟨rfl, rfl, rfl⟩ := H; go_enter Try.func46, Try.ntmps46; go_wp2_with (first | ((with_reducible refine QM (N := 3) rfl ?_); refine QU ?hg (N := 3) ?hd (cs := #[.slice ak ae.length an, .slice aj af.length al]) (t := 24) ?hr ?_; (case hd => rfl); (case hg => rfl); (case hr => first | (go_simp; done) | (go_simp; rfl)); intro ag hg w22 hbox hb; have ab := aa.mk (hbox); have ba := aa.mk ((by rw [hg]; exact (Qe bB) : w.heap.size ≤ ag)); have aN := aa.mk ((by rw [hg]; exact (Qe bB) : w.heap.size ≤ ag)); replace HB := aa.mk (Qc bB hb); clear hb hbox hg; have oK : w22.cell? ⟨ag, 0, none⟩ = some (.slice ak ae.length an) := (Qb ab.out 0).trans rfl; have oJ : w22.cell? ⟨ag, 1, none⟩ = some (.slice aj af.length al) := (Qb ab.out 1).trans rfl; have n5 := Qa ab.out 0; have n4 := Qa ab.out 1) | ((with_reducible refine Qf (f := 89) rfl ?_); refine QE (some 19) rfl rfl Try.func89 (by kernel_rfl) rfl #[.agg #[.slice ak ae.length an, .slice aj af.length al], .slice A1 l1.length c1, .slice A2 l2.length c2] rfl hA ?_; (with_reducible refine (Zo.calls k _ _ ae _ _ af _ _ l1 _ _ l2 t102 _ ?ai ?ah ?aq ?ao ?aK ?aJ ?j6 ?j5 A4.out).mono ?_); (case ai => exact (Kd.Qh av.out HB.out)); (case ah => exact aw.out); (case aq => exact (Kd.Qh ay.out HB.out)); (case ao => exact ax.out); (case aK => exact (Kd.Qh HR1.out HB.out)); (case aJ => exact HC1.out); (case j6 => exact (Kd.Qh HR2.out HB.out)); (case j5 => exact HC2.out); rintro e w24 ⟨rfl, hb⟩; refine ⟨_, rfl, ?_⟩; replace ab := aa.mk (Ql ab.out hb); replace HB := aa.mk (Qc bB hb); (try clear hb); (try clear hb2); (try clear hk); (try clear hi)))
  go_ret3
  exact ⟨_, by first | rfl | (simp [Qk, Qj] <;> rfl) | (simp [*, Qk, Qj] <;> rfl), by first | exact Kd.Yp _ _ _ _ _ | exact Kd.YU _ _ _ _ _ | exact Kd.V_nil _ _ _ _ _ | exact Kd.Q_nil _ _ _ _ _ | exact Kd.YZ _ _ _ _ _, bB⟩
def Zn.f  : Option ((List (List Int)) × (List (List Int))) := some ((([(([2, 0] : List Int)), (([0, 2] : List Int))] : List (List Int))), (([(([2, 1] : List Int))] : List (List Int))))
set_option maxHeartbeats 8000000 in
set_option maxRecDepth 100000 in
theorem Zn.calls  (r1 : List (List Int)) (r2 : List (List Int)) (w : World) (h : Zn.f  = some (r1, r2)) :
  Calls Try.prog 91 #[] w fun e w' => ∃ v0_ v1_ : Value, e = .returned (.agg #[v0_, v1_]) ∧ Kd.N (Kd.slice 3 (Kd.int .i64)) 28 w' w.heap.size (fun k_ => (w.heap.size ≤ k_) ∧ some k_ ≠ (v1_ : Value).ownBlock) v0_ r1 ∧ Kd.N (Kd.slice 3 (Kd.int .i64)) 28 w' w.heap.size (fun k_ => (w.heap.size ≤ k_) ∧ some k_ ≠ (v0_ : Value).ownBlock) v1_ r2 ∧ Below w.heap.size w w' := by
 have dD := Try.underlying24; have HB := aa.mk (Below.refl w.heap.size w); have H : (some ((([(([2, 0] : List Int)), (([0, 2] : List Int))] : List (List Int))), (([(([2, 1] : List Int))] : List (List Int))))) = some (r1, r2) := h; clear h; obtain ⟨eC, fc⟩ : ∃ y_ : List Int, y_ = (([2, 0] : List Int)) := ⟨_, rfl⟩; replace H : (some ((([eC, (([0, 2] : List Int))] : List (List Int))), (([(([2, 1] : List Int))] : List (List Int))))) = some (r1, r2) := by first | (rw [fc]; with_reducible exact H) | (have H2_ := (Option.bind_some _ _).symm.trans H; rw [fc]; with_reducible exact H2_) | (have H2_ := (Option.bind_some _ _).symm.trans H; with_reducible exact H2_) | with_reducible exact H | (rw [fc]; exact H) | exact H
 have kG := aa.mk fc; clear fc; obtain ⟨dz, dn⟩ : ∃ y_ : List Int, y_ = (([0, 2] : List Int)) := ⟨_, rfl⟩; replace H : (some ((([eC, dz] : List (List Int))), (([(([2, 1] : List Int))] : List (List Int))))) = some (r1, r2) := by first | (rw [dn]; with_reducible exact H) | (have H2_ := (Option.bind_some _ _).symm.trans H; rw [dn]; with_reducible exact H2_) | (have H2_ := (Option.bind_some _ _).symm.trans H; with_reducible exact H2_) | with_reducible exact H | (rw [dn]; exact H) | exact H
 have jh := aa.mk dn; clear dn; obtain ⟨ct, dm⟩ : ∃ y_ : List (List Int), y_ = (([eC, dz] : List (List Int))) := ⟨_, rfl⟩; replace H : (some (ct, (([(([2, 1] : List Int))] : List (List Int))))) = some (r1, r2) := by first | (rw [dm]; with_reducible exact H) | (have H2_ := (Option.bind_some _ _).symm.trans H; rw [dm]; with_reducible exact H2_) | (have H2_ := (Option.bind_some _ _).symm.trans H; with_reducible exact H2_) | with_reducible exact H | (rw [dm]; exact H) | exact H
 have jf := aa.mk dm; clear dm; obtain ⟨mq, kp⟩ : ∃ y_ : List Int, y_ = (([2, 1] : List Int)) := ⟨_, rfl⟩; replace H : (some (ct, (([mq] : List (List Int))))) = some (r1, r2) := by first | (rw [kp]; with_reducible exact H) | (have H2_ := (Option.bind_some _ _).symm.trans H; rw [kp]; with_reducible exact H2_) | (have H2_ := (Option.bind_some _ _).symm.trans H; with_reducible exact H2_) | with_reducible exact H | (rw [kp]; exact H) | exact H
 have pP := aa.mk kp; clear kp; obtain ⟨iW, dk⟩ : ∃ y_ : List (List Int), y_ = (([mq] : List (List Int))) := ⟨_, rfl⟩; replace H : (some (ct, iW)) = some (r1, r2) := by first | (rw [dk]; with_reducible exact H) | (have H2_ := (Option.bind_some _ _).symm.trans H; rw [dk]; with_reducible exact H2_) | (have H2_ := (Option.bind_some _ _).symm.trans H; with_reducible exact H2_) | with_reducible exact H | (rw [dk]; exact H) | exact H
 have je := aa.mk dk; clear dk; simp only [Option.some.injEq, Prod.mk.injEq] at H; obtain ⟨rfl, rfl⟩ := H; go_enter Try.func91, Try.ntmps91; go_wp2_with (first | ((with_reducible refine QM (N := 0) rfl ?_); refine QU ?hg (N := 0) ?hd (cs := #[.slice none 0 0, .slice none 0 0]) (t := 24) ?hr ?_; (case hd => rfl); (case hg => rfl); (case hr => first | (go_simp; done) | (go_simp; rfl)); intro ag hg w1 hbox hb; have ab := aa.mk (hbox); have ba := aa.mk ((by rw [hg]; exact (Qe bB) : w.heap.size ≤ ag)); have aN := aa.mk ((by rw [hg]; exact (Qe bB) : w.heap.size ≤ ag)); replace HB := aa.mk (Qc bB hb); clear hb hbox hg) | ((with_reducible refine QM (N := 1) rfl ?_); refine Kd.YH (Kd.int .i64) _ 3 ?hg (N := 1) ?hd (xs := ([2, 0] : List Int)) (inner := [.int .i64 2, .int .i64 0]) (ok := fun _ => True) (okp := fun _ => True) ?hr ?hp (fun _ hk => hk) trivial (Below.refl _ _) (Nat.le_refl _) (by simp) ?_; (case hd => rfl); (case hg => rfl); (case hr => first | (go_simp; done) | (go_simp; rfl)); (case hp => exact (Reps.one (show Kd.M (Kd.int .i64) _ _ _ 2 [.int .i64 2] from rfl) (Reps.one (show Kd.M (Kd.int .i64) _ _ _ 0 [.int .i64 0] from rfl) (Reps.none _ _)))); intro hG w2 ho3 hb hg_ hnew_; clear hg_ hnew_; (first | rw [← kG.out] at ho3 | (simp only [Int.reduceToNat] at ho3; rw [← kG.out] at ho3)); have aM := aa.mk (Kd.Zb (Kd.R_newM (M := fun k_ => (w.heap.size ≤ k_)) ho3 (Qe bB) (fun k_ h_ => h_)) (Qe bB)); replace ab := aa.mk (Ql ab.out hb); replace HB := aa.mk (Qc bB hb); clear hb ho3) | ((with_reducible refine QM (N := 2) rfl ?_); refine Kd.YH (Kd.int .i64) _ 3 ?hg (N := 2) ?hd (xs := ([0, 2] : List Int)) (inner := [.int .i64 0, .int .i64 2]) (ok := fun _ => True) (okp := fun _ => True) ?hr ?hp (fun _ hk => hk) trivial (Below.refl _ _) (Nat.le_refl _) (by simp) ?_; (case hd => rfl); (case hg => rfl); (case hr => first | (go_simp; done) | (go_simp; rfl)); (case hp => exact (Reps.one (show Kd.M (Kd.int .i64) _ _ _ 0 [.int .i64 0] from rfl) (Reps.one (show Kd.M (Kd.int .i64) _ _ _ 2 [.int .i64 2] from rfl) (Reps.none _ _)))); intro ja w4 ho5 hb hg_ hnew_; clear hg_ hnew_; (first | rw [← jh.out] at ho5 | (simp only [Int.reduceToNat] at ho5; rw [← jh.out] at ho5)); have bn := aa.mk (Kd.Zb (Kd.Zy (Kd.R_newM (M := fun k_ => (w.heap.size ≤ k_)) ho5 (Qe bB) (fun k_ h_ => h_)) (Kd.R_lt aM.out)) (Qe bB)); replace aM := aa.mk (Kd.Zj aM.out (Kd.QY ho5) hb); replace ab := aa.mk (Ql ab.out hb); replace HB := aa.mk (Qc bB hb); clear hb ho5; obtain ⟨Ao6, co6, eo6⟩ := Kd.Q9 aM.out; subst eo6; obtain ⟨Ao7, co7, eo7⟩ := Kd.Q9 bn.out; subst eo7) | ((with_reducible refine QM (N := 3) rfl ?_); refine Kd.N_lit (Kd.slice 3 (Kd.int .i64)) _ 28 ?hg (N' := 3) ?hd (xs := ([eC, dz] : List (List Int))) (inner := [.slice Ao6 eC.length co6, .slice Ao7 dz.length co7]) (ok := (fun k_ => (w.heap.size ≤ k_) ∧ k_ ≠ ag)) (okp := (fun k_ => (w.heap.size ≤ k_) ∧ k_ ≠ ag)) ?hr ?hp (fun _ hk => hk) ((show ∀ k_, w4.heap.size ≤ k_ → (fun k_ => (w.heap.size ≤ k_) ∧ k_ ≠ ag) k_ from fun k_ hk => ⟨(Nat.le_trans (Qe bB) hk), Kd.freshB (g := ag) (o := .cells #[.slice none 0 0, .slice none 0 0] 24 (0, 0)) (by (with_reducible repeat (first | refine Qv ?_ _ | refine Qx ?_ | refine Qu ?_ _)); exact ab.out) k_ hk⟩) _ (Nat.le_refl _)) (Below.refl _ _) (Nat.le_refl _) (by simp) ?_; (case hd => rfl); (case hg => rfl); (case hr => first | (go_simp; done) | (go_simp; rfl)); (case hp => exact (Reps.one (show Kd.FK (Kd.slice 3 (Kd.int .i64)) _ _ eC [.slice Ao6 eC.length co6] from (Kd.Yq (Kd.QH (Kd.Zl (ok' := (fun k_ => (w.heap.size ≤ k_) ∧ k_ ≠ ag)) (Kd.Y5 (aM.out) ab.out (by decide)) (fun k_ hk => ⟨hk.1.1.1, hk.2⟩))).2.1 (Kd.R_F (Kd.Zl (ok' := (fun k_ => (w.heap.size ≤ k_) ∧ k_ ≠ ag)) (Kd.Y5 (aM.out) ab.out (by decide)) (fun k_ hk => ⟨hk.1.1.1, hk.2⟩))))) (Reps.one (show Kd.FK (Kd.slice 3 (Kd.int .i64)) _ _ dz [.slice Ao7 dz.length co7] from (Kd.Yq (Kd.QH (Kd.Zl (ok' := (fun k_ => (w.heap.size ≤ k_) ∧ k_ ≠ ag)) (Kd.Y5 (bn.out) ab.out (by decide)) (fun k_ hk => ⟨hk.1.1.1, hk.2⟩))).2.1 (Kd.R_F (Kd.Zl (ok' := (fun k_ => (w.heap.size ≤ k_) ∧ k_ ≠ ag)) (Kd.Y5 (bn.out) ab.out (by decide)) (fun k_ hk => ⟨hk.1.1.1, hk.2⟩))))) (Reps.none _ _)))); intro e6 w8 ho9 hb hg_ hnew_; clear hg_ hnew_; (first | rw [← jf.out] at ho9 | (simp only [Int.reduceToNat] at ho9; rw [← jf.out] at ho9)); have bl := aa.mk (Kd.Ya ho9 (Qe bB)); replace ab := aa.mk (Ql ab.out hb); replace HB := aa.mk (Qc bB hb); clear aM bn; clear hb ho9) | ((with_reducible refine QM (N := 4) rfl ?_); refine Kd.YH (Kd.int .i64) _ 3 ?hg (N := 4) ?hd (xs := ([2, 1] : List Int)) (inner := [.int .i64 2, .int .i64 1]) (ok := fun _ => True) (okp := fun _ => True) ?hr ?hp (fun _ hk => hk) trivial (Below.refl _ _) (Nat.le_refl _) (by simp) ?_; (case hd => rfl); (case hg => rfl); (case hr => first | (go_simp; done) | (go_simp; rfl)); (case hp => exact (Reps.one (show Kd.M (Kd.int .i64) _ _ _ 2 [.int .i64 2] from rfl) (Reps.one (show Kd.M (Kd.int .i64) _ _ _ 1 [.int .i64 1] from rfl) (Reps.none _ _)))); intro wv w10 ey hb hg_ hnew_; clear hg_ hnew_; (first | rw [← pP.out] at ey | (simp only [Int.reduceToNat] at ey; rw [← pP.out] at ey)); replace bl := aa.mk (Kd.Q4 bl.out (Kd.QY ey) hb); have mg := aa.mk (Kd.Zb (Kd.R_newM (M := fun k_ => (w.heap.size ≤ k_)) ey (Qe bB) (fun k_ h_ => h_)) (Qe bB)); replace ab := aa.mk (Ql ab.out hb); replace HB := aa.mk (Qc bB hb); clear hb ey; obtain ⟨kI, ky, qD⟩ := Kd.Q9 mg.out; subst qD) | ((with_reducible refine QM (N := 5) rfl ?_); refine Kd.N_lit (Kd.slice 3 (Kd.int .i64)) _ 28 ?hg (N' := 5) ?hd (xs := ([mq] : List (List Int))) (inner := [.slice kI mq.length ky]) (ok := (fun k_ => (w.heap.size ≤ k_) ∧ some k_ ≠ (e6 : Value).ownBlock ∧ k_ ≠ ag)) (okp := (fun k_ => (w.heap.size ≤ k_) ∧ some k_ ≠ (e6 : Value).ownBlock ∧ k_ ≠ ag)) ?hr ?hp (fun _ hk => hk) ((show ∀ k_, w10.heap.size ≤ k_ → (fun k_ => (w.heap.size ≤ k_) ∧ some k_ ≠ (e6 : Value).ownBlock ∧ k_ ≠ ag) k_ from fun k_ hk => ⟨(Nat.le_trans (Qe bB) hk), Kd.fresh' (Kd.N_lt bl.out) k_ hk, Kd.freshB (g := ag) (o := .cells #[.slice none 0 0, .slice none 0 0] 24 (0, 0)) (by (with_reducible repeat (first | refine Qv ?_ _ | refine Qx ?_ | refine Qu ?_ _)); exact ab.out) k_ hk⟩) _ (Nat.le_refl _)) (Below.refl _ _) (Nat.le_refl _) (by simp) ?_; (case hd => rfl); (case hg => rfl); (case hr => first | (go_simp; done) | (go_simp; rfl)); (case hp => exact (Reps.one (show Kd.FK (Kd.slice 3 (Kd.int .i64)) _ _ mq [.slice kI mq.length ky] from (Kd.Yq (Kd.QH (Kd.Zl (ok' := (fun k_ => (w.heap.size ≤ k_) ∧ some k_ ≠ (e6 : Value).ownBlock ∧ k_ ≠ ag)) (Kd.Y5 (Kd.Zx (mg.out) (Kd.ZP bl.out) (by decide)) ab.out (by decide)) (fun k_ hk => ⟨hk.1.1.1, ⟨hk.1.2, hk.2⟩⟩))).2.1 (Kd.R_F (Kd.Zl (ok' := (fun k_ => (w.heap.size ≤ k_) ∧ some k_ ≠ (e6 : Value).ownBlock ∧ k_ ≠ ag)) (Kd.Y5 (Kd.Zx (mg.out) (Kd.ZP bl.out) (by decide)) ab.out (by decide)) (fun k_ hk => ⟨hk.1.1.1, ⟨hk.1.2, hk.2⟩⟩))))) (Reps.none _ _))); intro kJ w13 mu hb hg_ hnew_; clear hg_ hnew_; (first | rw [← je.out] at mu | (simp only [Int.reduceToNat] at mu; rw [← je.out] at mu)); replace bl := aa.mk (Kd.Q4 bl.out (Kd.ZZ mu) hb); have eT := aa.mk (Kd.Ya mu (Qe bB)); replace ab := aa.mk (Ql ab.out hb); replace HB := aa.mk (Qc bB hb); clear mg; clear hb mu; obtain ⟨pe, oU, qC⟩ := Kd.ZX eT.out; subst qC; obtain ⟨mB, my, oQ⟩ := Kd.ZX bl.out; subst oQ; have gv : w13.cell? ⟨ag, 0, none⟩ = some (.slice none 0 0) := (Qb ab.out 0).trans rfl; have gu : w13.cell? ⟨ag, 1, none⟩ = some (.slice none 0 0) := (Qb ab.out 1).trans rfl; have gh := Qa ab.out 0; have gg := Qa ab.out 1))
 refine bodyPost_ret (results_cell_row rfl _ _ ag 24 #[.slice mB ct.length my, .slice pe iW.length oU] (0, 0) _ rfl (by (with_reducible repeat (first | refine Qv ?_ _ | refine Qx ?_ | refine Qu ?_ _)); refine blk_put (cs := #[.slice mB ct.length my, .slice none 0 0]) ?_ 1 _ rfl; (with_reducible repeat (first | refine Qv ?_ _ | refine Qx ?_ | refine Qu ?_ _)); refine blk_put (cs := #[.slice none 0 0, .slice none 0 0]) ?_ 0 _ rfl; (with_reducible repeat (first | refine Qv ?_ _ | refine Qx ?_ | refine Qu ?_ _)); exact ab.out) Try.underlying24 rfl (by kernel_rfl)) rfl ?_; exact ⟨_, _, by first | rfl | (simp [Qk, Qj] <;> rfl) | (simp [*, Qk, Qj] <;> rfl), by (with_reducible repeat (first | apply Kd.N_alloc | apply Kd.ZS | apply Kd.ZW)); exact Kd.ZT (Kd.N_far (p := ⟨ag, 1, none⟩) (Kd.N_far (p := ⟨ag, 0, none⟩) (Kd.ZT bl.out (fun k_ hk => (⟨hk, hk.1.1.2⟩ : _ ∧ k_ ≠ ag))) (fun _ hk => hk.2) (.slice mB ct.length my)) (fun _ hk => hk.2) (.slice pe iW.length oU)) (fun _ hk => ⟨hk.1.1.1.1, hk.1.2⟩), by (with_reducible repeat (first | apply Kd.N_alloc | apply Kd.ZS | apply Kd.ZW)); exact Kd.ZT (Kd.N_far (p := ⟨ag, 1, none⟩) (Kd.N_far (p := ⟨ag, 0, none⟩) (Kd.ZT eT.out (fun k_ hk => (⟨hk, hk.2.2⟩ : _ ∧ k_ ≠ ag))) (fun _ hk => hk.2) (.slice mB ct.length my)) (fun _ hk => hk.2) (.slice pe iW.length oU)) (fun _ hk => ⟨hk.1.1, hk.1.2.1⟩), bB⟩
def Q0.f (l0 : List Int) : Option (List Int) := (some (([] : List Int) : List Int)).bind fun eD => (if eD.length + l0.length < 17592186044416 then (some (eD ++ l0)) else (none))
set_option maxHeartbeats 8000000 in
set_option maxRecDepth 100000 in
theorem Q0.calls (A0 : Option Addr) (n0 : Nat) (l0 : List Int) (r : List Int) (w : World) (hr0 : Kd.C (Kd.int .i64) w A0 l0.length l0) (hc0 : n0 ≤ l0.length) (h : Q0.f l0 = some r) :
  Calls Try.prog 20 #[.slice A0 n0 l0.length] w fun e w' => ∃ v0_ : Value, e = .returned (v0_) ∧ Kd.R (Kd.int .i64) 3 w' w.heap.size (fun _ => True) v0_ r ∧ Below w.heap.size w w' := by
 have HR0 := aa.mk hr0; have HC0 := aa.mk hc0; clear hr0 hc0; have HB := aa.mk (Below.refl w.heap.size w); have H : ((some (([] : List Int) : List Int)).bind fun eD => (if eD.length + l0.length < 17592186044416 then (some (eD ++ l0)) else (none))) = some r := h; clear h; obtain ⟨eD, dO⟩ : ∃ y_ : List Int, y_ = (([] : List Int)) := ⟨_, rfl⟩; replace H : (if eD.length + l0.length < 17592186044416 then (some (eD ++ l0)) else (none)) = some r := by first | (rw [dO]; with_reducible exact H) | (have H2_ := (Option.bind_some _ _).symm.trans H; rw [dO]; with_reducible exact H2_) | (have H2_ := (Option.bind_some _ _).symm.trans H; with_reducible exact H2_) | with_reducible exact H | (rw [dO]; exact H) | exact H
 have eS := aa.mk dO; clear dO; by_cases c2 : eD.length + l0.length < 17592186044416
 ·rw [if_pos c2] at H; have na := aa.mk c2; clear c2; obtain ⟨j3, cQ⟩ : ∃ y_ : List Int, y_ = (eD ++ l0) := ⟨_, rfl⟩; replace H : (some j3) = some r := by first | (rw [cQ]; with_reducible exact H) | (have H2_ := (Option.bind_some _ _).symm.trans H; rw [cQ]; with_reducible exact H2_) | (have H2_ := (Option.bind_some _ _).symm.trans H; with_reducible exact H2_) | with_reducible exact H | (rw [cQ]; exact H) | exact H
  have iN := aa.mk cQ; clear cQ; obtain rfl := Option.some.inj H; go_enter Try.func20, Try.ntmps20; go_wp2_with (first | ((with_reducible refine QM (N := 3) rfl ?_); refine Kd.YH (Kd.int .i64) _ 3 ?hg (N := 3) ?hd (xs := ([] : List Int)) (inner := []) (ok := fun _ => True) (okp := fun _ => True) ?hr ?hp (fun _ hk => hk) trivial (Below.refl _ _) (Nat.le_refl _) (by simp) ?_; (case hd => rfl); (case hg => rfl); (case hr => first | (go_simp; done) | (go_simp; rfl)); (case hp => exact (Reps.none _ _)); intro kK w3 ho4 hb hg_ hnew_; clear hg_ hnew_; (first | rw [← eS.out] at ho4 | (simp only [Int.reduceToNat] at ho4; rw [← eS.out] at ho4)); have bh := aa.mk (Kd.Zb ho4 (Qe bB)); replace HB := aa.mk (Qc bB hb); clear hb ho4) | ((with_reducible refine ZF (b := .append) (xs := #[.tmp 3, .tmp 7]) rfl ?_); at_builtin; refine Kd.Yn (Kd.int .i64) (w0 := w) w.heap.size rfl (.tmp 3) (.tmp 7) 28 3 (.int .i64 0) 8 rfl Try.underlying28 info3 rfl (by decide) (by omega) kK eD l0 _ _ _ (fun _ => True) (fun _ => False) rfl rfl ?aO ?aR (fun _ _ h => h) (fun _ h => h.elim) ?aF ?aB ?aS ?aL ?_; (case aR => exact (Kd.Qh HR0.out HB.out)); (case aB => exact bB); (case aF => exact (fun _ _ => trivial)); (case aO => exact bh.out); (case aS => exact (Qe bB)); (case aL => have := na.out; omega); intro mr w5 ho hb hg hat; rw [← iN.out] at ho; replace HB := aa.mk (hb); have bk := aa.mk (ho); clear bh; clear ho hb hg hat))
  go_ret; exact ⟨_, by first | rfl | (simp [Qk, Qj] <;> rfl) | (simp [*, Qk, Qj] <;> rfl), by (with_reducible repeat (first | apply Kd.R_alloc | apply Kd.R_drewN | apply Kd.QX)); exact bk.out, bB⟩
 ·rw [if_neg c2] at H; exact absurd H (by simp)
def Qz.l0 : Nat → List (List Int) → List (List Int) → Int → Option ((List (List Int)))
 | 0, _, _, _ => none
 | k + 1, x0, x3, x4 => if x4 < (x0.length : Int) then (if 0 ≤ x4 then ((Q0.f (Qt x0 x4)).bind fun t102 => (if x3.length < 5864062014805 then (Qz.l0 k x0 (x3 ++ [t102]) (wrap64 (x4 + 1))) else (none))) else (none)) else (some x3)
def Qz.f (k : Nat) (l0 : List (List Int)) : Option ((List (List Int))) := Qz.l0 k l0 ([] : List (List Int)) 0
set_option maxHeartbeats 8000000 in
set_option maxRecDepth 100000 in
theorem Qz.calls (k : Nat) (A0 : Option Addr) (n0 : Nat) (l0 : List (List Int)) (r : List (List Int)) (w : World) (hr0 : Kd.C Full.kd w A0 l0.length l0) (hc0 : n0 ≤ l0.length) (h : Qz.f k l0 = some r) :
  Calls Try.prog 17 #[.slice A0 n0 l0.length] w fun e w' => ∃ v0_ : Value, e = .returned (v0_) ∧ Kd.S (Kd.slice 3 (Kd.int .i64)) 28 w' w.heap.size (fun _ => True) v0_ r ∧ Below w.heap.size w w' := by
 have HR0 := aa.mk hr0; have HC0 := aa.mk hc0; clear hr0 hc0; have HB := aa.mk (Below.refl w.heap.size w); have H : (Qz.l0 k l0 ([] : List (List Int)) 0) = some r := h; clear h; have H' := aa.mk H; clear H; go_enter Try.func17, Try.ntmps17; go_wp2; go_loopg [3, 4] k (fun kq v3 v4 w' => ∃ (j4 : List (List Int)) (cv : Int), v4 = .int .i64 cv ∧ aa (Qz.l0 kq l0 j4 cv = some r) ∧ aa (kq ≤ k) ∧ aa (Kd.S (Kd.slice 3 (Kd.int .i64)) 28 w' w.heap.size (fun _ => True) v3 j4) ∧ aa (Below w.heap.size w w'))
 case atStart => exact ⟨(([] : List (List Int))), (0), (by first | rfl | (simp; done) | (simp [*]; done)), H', ⟨Nat.le_refl _⟩, ⟨by first | exact Kd.YZ _ _ _ _ _ | exact Kd.YU _ _ _ _ _ | exact Kd.V_nil _ _ _ _ _ | exact Kd.Q_nil _ _ _ _ _ | exact Kd.Yp _ _ _ _ _⟩, ⟨bB⟩⟩
 case round =>
  clear H'; try clear c1
  obtain ⟨j4, cv, rfl, HA, HK1, bP, HB⟩ := hrel; cases gk with
  | zero => exact absurd HA.out (by simp [Qz.l0])
  | succ k1 =>
   have H := HA.out; clear HA; simp only [Qz.l0] at H; by_cases c2 : cv < (l0.length : Int)
   ·rw [if_pos c2] at H; have uW : decide (cv < (l0.length : Int)) = true := decide_eq_true c2; clear c2; by_cases c3 : 0 ≤ cv
    ·rw [if_pos c3] at H; have bU : decide (0 ≤ cv) = true := decide_eq_true c3; clear c3; replace H := Option.bind_eq_some_iff.mp H; obtain ⟨t102, A40, H⟩ := H; replace H : (if j4.length < 5864062014805 then (Qz.l0 k1 l0 (j4 ++ [t102]) (wrap64 (cv + 1))) else (none)) = some r := H; have A4 := aa.mk A40; clear A40; by_cases c5 : j4.length < 5864062014805
     ·rw [if_pos c5] at H; have u0 := aa.mk c5; clear c5; obtain ⟨dz, dn⟩ : ∃ y_ : List (List Int), y_ = (j4 ++ [t102]) := ⟨_, rfl⟩; replace H : (Qz.l0 k1 l0 dz (wrap64 (cv + 1))) = some r := by first | (rw [dn]; with_reducible exact H) | (have H2_ := (Option.bind_some _ _).symm.trans H; rw [dn]; with_reducible exact H2_) | (have H2_ := (Option.bind_some _ _).symm.trans H; with_reducible exact H2_) | with_reducible exact H | (rw [dn]; exact H) | exact H
      have jh := aa.mk dn; clear dn; have H' := aa.mk H; clear H; have bC : 0 ≤ (cv : Int) := of_decide_eq_true (by assumption); have bA : cv < (l0.length : Int) := of_decide_eq_true (by assumption); obtain ⟨eR, ln, lf, dv, bL, eb, ee⟩ := Full.at_ HR0.out cv bC bA; cases dv; replace bL := (HB.out.cell (World.block_lt_of_cell? w _ bL)).trans bL; have dI := aa.mk ee; have dJ := aa.mk eb; clear ee eb; replace bC := eq_true bC; replace bA := eq_true bA; go_wp2_with (first | ((with_reducible refine Qf (f := 20) rfl ?_); refine QE (some 20) rfl rfl Try.func20 (by kernel_rfl) rfl #[.slice ln lf (Qt l0 cv).length] rfl hA ?_; (with_reducible refine (Q0.calls _ _ (Qt l0 cv) t102 _ ?ai ?ah A4.out).mono ?_); (case ai => exact (Kd.Qh dI.out HB.out)); (case ah => exact dJ.out); rintro e w6 ⟨hG, rfl, ho0, hb⟩; refine ⟨_, rfl, ?_⟩; replace bP := aa.mk (Kd.ZY bP.out (Kd.QY ho0) hb); have aM := aa.mk (Kd.Zb ho0 (Qe bB)); replace HB := aa.mk (Qc bB hb); (try clear hb); (try clear hb2); (try clear hk); (try clear hi); (try clear ho0); obtain ⟨Ao8, co8, eo8⟩ := Kd.Q9 aM.out; subst eo8) | ((with_reducible refine ZF (b := .append) (xs := #[.tmp 15, .tmp 21]) rfl ?_); at_builtin; refine Kd.S_append (Kd.slice 3 (Kd.int .i64)) (w0 := w) w.heap.size rfl (.tmp 15) (.tmp 21) 22 28 (.slice none 0 0) 24 rfl Try.underlying22 info28 rfl (by decide) (by omega) u3 j4 t102 [.slice Ao8 t102.length co8] (fun _ => True) (fun k_ => some k_ = (.slice Ao8 t102.length co8 : Value).ownBlock) rfl rfl ?aP (fun k_ hk_ => ((Kd.Zl (ok' := fun k_ => ((fun _ => True)) k_ ∧ some k_ ≠ (u3 : Value).ownBlock) (Kd.Zx (aM.out) (Kd.S_typed bP.out) (by decide)) (fun k_ hk => ⟨trivial, hk.2⟩))).1 k_ hk_.symm) ?aF ?aO ?aB ?aS ?aL ?_; (case aP => exact Kd.M_row (Kd.Zl (Kd.R_tight rfl (Kd.Zl (ok' := fun k_ => ((fun _ => True)) k_ ∧ some k_ ≠ (u3 : Value).ownBlock) (Kd.Zx (aM.out) (Kd.S_typed bP.out) (by decide)) (fun k_ hk => ⟨trivial, hk.2⟩))) (fun _ h_ => h_))); (case aB => exact bB); (case aF => exact (fun _ _ => trivial)); (case aO => exact (by (with_reducible repeat (first | apply Kd.S_alloc | apply Kd.S_drewN | apply Kd.S_drew)); exact Kd.S_mono bP.out (fun k_ hk => ⟨trivial, fun e_ => hk.2 e_⟩))); (case aS => exact (Qe bB)); (case aL => have := u0.out; omega); intro ja w7 ho hb hg hat; rw [← jh.out] at ho; replace HB := aa.mk (hb); have bn := aa.mk (ho); clear aM bP; clear ho hb hg hat))
      go_roundg k1
      case measure => have := HK1.out; omega
      case rel => exact ⟨(dz), (wrap64 (cv + 1)), (by first | rfl | (simp; done) | (simp [*]; done)), H', ⟨by have := HK1.out; omega⟩, ⟨by (with_reducible repeat (first | apply Kd.S_alloc | apply Kd.S_drewN | apply Kd.S_drew)); exact bn.out⟩, ⟨bB⟩⟩
     ·rw [if_neg c5] at H; exact absurd H (by simp)
    ·rw [if_neg c3] at H; exact absurd H (by simp)
   ·rw [if_neg c2] at H; have uW : decide (cv < (l0.length : Int)) = false := decide_eq_false c2; clear c2; obtain rfl := Option.some.inj H; go_wp2; go_ret; exact ⟨_, by first | rfl | (simp [Qk, Qj] <;> rfl) | (simp [*, Qk, Qj] <;> rfl), by (with_reducible repeat (first | apply Kd.S_alloc | apply Kd.S_drewN | apply Kd.S_drew)); exact bP.out, bB⟩
def Qw.l0 : Nat → List Int → List Int → Int → Option (Bool)
 | 0, _, _, _ => none
 | k + 1, x0, x1, x5 => if x5 < (x1.length : Int) then (if 0 ≤ x5 then (if x5 < (x0.length : Int) then (if (rd x0 x5) = (rd x1 x5) then (Qw.l0 k x0 x1 (wrap64 (x5 + 1))) else (some false)) else (none)) else (none)) else (some true)
def Qw.f (k : Nat) (l0 : List Int) (l1 : List Int) : Option (Bool) := if (l0.length : Int) = (l1.length : Int) then (Qw.l0 k l0 l1 0) else (some false)
set_option maxHeartbeats 8000000 in
set_option maxRecDepth 100000 in
theorem Qw.calls (k : Nat) (A0 : Option Addr) (c0 : Nat) (l0 : List Int) (A1 : Option Addr) (n1 : Nat) (l1 : List Int) (r : Bool) (w : World) (hr0 : Kd.C (Kd.int .i64) w A0 l0.length l0) (hc0 : l0.length ≤ c0) (hr1 : Kd.C (Kd.int .i64) w A1 l1.length l1) (hc1 : n1 ≤ l1.length) (h : Qw.f k l0 l1 = some r) :
  Calls Try.prog 22 #[.slice A0 l0.length c0, .slice A1 n1 l1.length] w fun e w' => e = .returned (.bool r) ∧ Drawn0 w w' := by
 have HR0 := aa.mk hr0; have HC0 := aa.mk hc0; clear hr0 hc0; have HR1 := aa.mk hr1; have HC1 := aa.mk hc1; clear hr1 hc1; have H : (if (l0.length : Int) = (l1.length : Int) then (Qw.l0 k l0 l1 0) else (some false)) = some r := h; clear h; by_cases c3 : (l0.length : Int) = (l1.length : Int)
 ·rw [if_pos c3] at H; have bU : ((l0.length : Int) == (l1.length : Int)) = true := beq_iff_eq.mpr c3; have cE : ((l0.length : Int) != (l1.length : Int)) = false := bne_eq_false_iff_eq.mpr c3; have iE : (l0.length == l1.length) = true := by first | simpa using c3 | (simp at c3 ⊢; omega)
  clear c3; have H' := aa.mk H; clear H; go_enter Try.func22, Try.ntmps22; go_wp2; repeat (go_quiet (fail); try go_wp2)
  go_loopg [5] k (fun kq v5 w' => ∃ (aD : Int), v5 = .int .i64 aD ∧ aa (Qw.l0 kq l0 l1 aD = some r) ∧ aa (kq ≤ k) ∧ Drawn0 w w')
  case atStart => exact ⟨(0), (by first | rfl | (simp; done) | (simp [*]; done)), H', ⟨Nat.le_refl _⟩, by repeat (first | exact Drawn0.refl _ | apply Drawn0.step)⟩
  case round =>
   clear H'; try clear c1
   try clear c2
   try clear p2
   try clear c3
   try clear bU
   try clear cE
   try clear iE
   obtain ⟨aD, rfl, HA, HK1, ⟨m1, rfl⟩⟩ := hrel; cases gk with
   | zero => exact absurd HA.out (by simp [Qw.l0])
   | succ k1 =>
    have H := HA.out; clear HA; simp only [Qw.l0] at H; by_cases c4 : aD < (l1.length : Int)
    ·rw [if_pos c4] at H; have bI : decide (aD < (l1.length : Int)) = true := decide_eq_true c4; clear c4; by_cases c5 : 0 ≤ aD
     ·rw [if_pos c5] at H; have dp : decide (0 ≤ aD) = true := decide_eq_true c5; clear c5; by_cases c6 : aD < (l0.length : Int)
      ·rw [if_pos c6] at H; have hU : decide (aD < (l0.length : Int)) = true := decide_eq_true c6; clear c6; by_cases c7 : (rd l0 aD) = (rd l1 aD)
       ·rw [if_pos c7] at H; have jR : ((rd l0 aD) == (rd l1 aD)) = true := beq_iff_eq.mpr c7; have qH : ((rd l0 aD) != (rd l1 aD)) = false := bne_eq_false_iff_eq.mpr c7; clear c7; have H' := aa.mk H; clear H; have bC : 0 ≤ (aD : Int) := of_decide_eq_true (by assumption); have bA : aD < (l0.length : Int) := of_decide_eq_true (by assumption); obtain ⟨eR, dv, bL⟩ := Kd.QZ HR0.out aD bC bA; cases dv; replace bC := eq_true bC; replace bA := eq_true bA; have bp : 0 ≤ (aD : Int) := of_decide_eq_true (by assumption); have bo : aD < (l1.length : Int) := of_decide_eq_true (by assumption); obtain ⟨bt, du, aH⟩ := Kd.QZ HR1.out aD bp bo; cases du; replace bp := eq_true bp; replace bo := eq_true bo; go_wp2; repeat (go_quiet (fail); try go_wp2)
        go_roundg k1
        case measure => have := HK1.out; omega
        case rel => exact ⟨(wrap64 (aD + 1)), (by first | rfl | (simp; done) | (simp [*]; done)), H', ⟨by have := HK1.out; omega⟩, by repeat (first | exact Drawn0.refl _ | apply Drawn0.step)⟩
       ·rw [if_neg c7] at H; have jR : ((rd l0 aD) == (rd l1 aD)) = false := beq_eq_false_iff_ne.mpr c7; have qH : ((rd l0 aD) != (rd l1 aD)) = true := bne_iff_ne.mpr c7; obtain rfl := Option.some.inj H; have bC : 0 ≤ (aD : Int) := of_decide_eq_true (by assumption); have bA : aD < (l0.length : Int) := of_decide_eq_true (by assumption); obtain ⟨eR, dv, bL⟩ := Kd.QZ HR0.out aD bC bA; cases dv; replace bC := eq_true bC; replace bA := eq_true bA; have bp : 0 ≤ (aD : Int) := of_decide_eq_true (by assumption); have bo : aD < (l1.length : Int) := of_decide_eq_true (by assumption); obtain ⟨bt, du, aH⟩ := Kd.QZ HR1.out aD bp bo; cases du; replace bp := eq_true bp; replace bo := eq_true bo; go_wp2; repeat (go_quiet (fail); try go_wp2)
        go_ret; exact ⟨by first | rfl | (simp; done) | (simp [*]; done), by repeat (first | exact Drawn0.refl _ | apply Drawn0.step)⟩
      ·rw [if_neg c6] at H; exact absurd H (by simp)
     ·rw [if_neg c5] at H; exact absurd H (by simp)
    ·rw [if_neg c4] at H; have bI : decide (aD < (l1.length : Int)) = false := decide_eq_false c4; clear c4; obtain rfl := Option.some.inj H; go_wp2; repeat (go_quiet (fail); try go_wp2)
     go_ret; exact ⟨by first | rfl | (simp; done) | (simp [*]; done), by repeat (first | exact Drawn0.refl _ | apply Drawn0.step)⟩
 ·rw [if_neg c3] at H; have bU : ((l0.length : Int) == (l1.length : Int)) = false := beq_eq_false_iff_ne.mpr c3; have cE : ((l0.length : Int) != (l1.length : Int)) = true := bne_iff_ne.mpr c3; have iE : (l0.length == l1.length) = false := by first | simpa using c3 | (simp at c3 ⊢; omega)
  obtain rfl := Option.some.inj H; go_enter Try.func22, Try.ntmps22; go_wp2; repeat (go_quiet (fail); try go_wp2)
  go_ret; exact ⟨by first | rfl | (simp; done) | (simp [*]; done), by repeat (first | exact Drawn0.refl _ | apply Drawn0.step)⟩
def Qq.l0 : Nat → List (List Int) → List (List Int) → Int → Option (Bool)
 | 0, _, _, _ => none
 | k + 1, x0, x1, x5 => if x5 < (x1.length : Int) then (if 0 ≤ x5 then (if x5 < (x0.length : Int) then ((Qw.f k (Qt x0 x5) (Qt x1 x5)).bind fun t103 => (if t103 = true then (Qq.l0 k x0 x1 (wrap64 (x5 + 1))) else (some false))) else (none)) else (none)) else (some true)
def Qq.f (k : Nat) (l0 : List (List Int)) (l1 : List (List Int)) : Option (Bool) := if (l0.length : Int) = (l1.length : Int) then (Qq.l0 k l0 l1 0) else (some false)
set_option maxHeartbeats 8000000 in
set_option maxRecDepth 100000 in
theorem Qq.calls (k : Nat) (A0 : Option Addr) (c0 : Nat) (l0 : List (List Int)) (A1 : Option Addr) (n1 : Nat) (l1 : List (List Int)) (r : Bool) (w : World) (hr0 : Kd.C (Kd.slice 3 (Kd.int .i64)) w A0 l0.length l0) (hc0 : l0.length ≤ c0) (hr1 : Kd.C Full.kd w A1 l1.length l1) (hc1 : n1 ≤ l1.length) (h : Qq.f k l0 l1 = some r) :
  Calls Try.prog 19 #[.slice A0 l0.length c0, .slice A1 n1 l1.length] w fun e w' => e = .returned (.bool r) ∧ Drawn0 w w' := by
 have HR0 := aa.mk hr0; have HC0 := aa.mk hc0; clear hr0 hc0; have HR1 := aa.mk hr1; have HC1 := aa.mk hc1; clear hr1 hc1; have H : (if (l0.length : Int) = (l1.length : Int) then (Qq.l0 k l0 l1 0) else (some false)) = some r := h; clear h; by_cases c3 : (l0.length : Int) = (l1.length : Int)
 ·rw [if_pos c3] at H; have bU : ((l0.length : Int) == (l1.length : Int)) = true := beq_iff_eq.mpr c3; have cE : ((l0.length : Int) != (l1.length : Int)) = false := bne_eq_false_iff_eq.mpr c3; have iE : (l0.length == l1.length) = true := by first | simpa using c3 | (simp at c3 ⊢; omega)
  clear c3; have H' := aa.mk H; clear H; go_enter Try.func19, Try.ntmps19; go_wp2; repeat (go_quiet (fail); try go_wp2)
  go_loopg [5] k (fun kq v5 w' => ∃ (aD : Int), v5 = .int .i64 aD ∧ aa (Qq.l0 kq l0 l1 aD = some r) ∧ aa (kq ≤ k) ∧ Drawn0 w w')
  case atStart => exact ⟨(0), (by first | rfl | (simp; done) | (simp [*]; done)), H', ⟨Nat.le_refl _⟩, by repeat (first | exact Drawn0.refl _ | apply Drawn0.step)⟩
  case round =>
   clear H'; try clear c1
   try clear p2
   try clear c3
   try clear bU
   try clear cE
   try clear iE
   obtain ⟨aD, rfl, HA, HK1, ⟨m1, rfl⟩⟩ := hrel; cases gk with
   | zero => exact absurd HA.out (by simp [Qq.l0])
   | succ k1 =>
    have H := HA.out; clear HA; simp only [Qq.l0] at H; by_cases c4 : aD < (l1.length : Int)
    ·rw [if_pos c4] at H; have bI : decide (aD < (l1.length : Int)) = true := decide_eq_true c4; clear c4; by_cases c5 : 0 ≤ aD
     ·rw [if_pos c5] at H; have dp : decide (0 ≤ aD) = true := decide_eq_true c5; clear c5; by_cases c6 : aD < (l0.length : Int)
      ·rw [if_pos c6] at H; have hU : decide (aD < (l0.length : Int)) = true := decide_eq_true c6; clear c6; replace H := Option.bind_eq_some_iff.mp H; obtain ⟨t103, A70, H⟩ := H; replace H : (if t103 = true then (Qq.l0 k1 l0 l1 (wrap64 (aD + 1))) else (some false)) = some r := H; have A7 := aa.mk A70; clear A70; by_cases c8 : t103 = true
       ·subst c8; have H1 : (Qq.l0 k1 l0 l1 (wrap64 (aD + 1))) = some r := by rw [if_pos rfl] at H; exact H
        clear H; have H := H1; clear H1; have H' := aa.mk H; clear H; have bC : 0 ≤ (aD : Int) := of_decide_eq_true (by assumption); have bA : aD < (l0.length : Int) := of_decide_eq_true (by assumption); obtain ⟨eR, ln, lf, dv, bL, eb, ee⟩ := ZH HR0.out aD bC bA; cases dv; have dI := aa.mk ee; have dJ := aa.mk eb; clear ee eb; replace bC := eq_true bC; replace bA := eq_true bA; have bp : 0 ≤ (aD : Int) := of_decide_eq_true (by assumption); have bo : aD < (l1.length : Int) := of_decide_eq_true (by assumption); obtain ⟨bt, ev, eu, du, aH, cd, cg⟩ := Full.at_ HR1.out aD bp bo; cases du; have cX := aa.mk cg; have dj := aa.mk cd; clear cg cd; replace bp := eq_true bp; replace bo := eq_true bo; go_wp2_with (first | (go_at_call 22; (with_reducible refine (Qw.calls k1 _ _ (Qt l0 aD) _ _ (Qt l1 aD) true _ ?ai ?ah ?aq ?ao A7.out).mono ?_); (case ai => exact dI.out); (case ah => exact dJ.out); (case aq => exact cX.out); (case ao => exact dj.out); rintro e w' ⟨rfl, ⟨nd, rfl⟩⟩; (try first | exact ⟨rfl, _, World.drewN_drewN _ _ _⟩ | exact ⟨rfl, _, Eq.trans (World.drewN_drewN _ _ _) (congrArg (World.drewN _) (Nat.add_assoc _ _ _))⟩)))
        repeat (go_quiet (first | (go_at_call 22; (with_reducible refine (Qw.calls k1 _ _ (Qt l0 aD) _ _ (Qt l1 aD) true _ ?ai ?ah ?aq ?ao A7.out).mono ?_); (case ai => exact dI.out); (case ah => exact dJ.out); (case aq => exact cX.out); (case ao => exact dj.out); rintro e w' ⟨rfl, ⟨nd, rfl⟩⟩; (try first | exact ⟨rfl, _, World.drewN_drewN _ _ _⟩ | exact ⟨rfl, _, Eq.trans (World.drewN_drewN _ _ _) (congrArg (World.drewN _) (Nat.add_assoc _ _ _))⟩))); try go_wp2_with (first | (go_at_call 22; (with_reducible refine (Qw.calls k1 _ _ (Qt l0 aD) _ _ (Qt l1 aD) true _ ?ai ?ah ?aq ?ao A7.out).mono ?_); (case ai => exact dI.out); (case ah => exact dJ.out); (case aq => exact cX.out); (case ao => exact dj.out); rintro e w' ⟨rfl, ⟨nd, rfl⟩⟩; (try first | exact ⟨rfl, _, World.drewN_drewN _ _ _⟩ | exact ⟨rfl, _, Eq.trans (World.drewN_drewN _ _ _) (congrArg (World.drewN _) (Nat.add_assoc _ _ _))⟩))))
        go_roundg k1
        case measure => have := HK1.out; omega
        case rel => exact ⟨(wrap64 (aD + 1)), (by first | rfl | (simp; done) | (simp [*]; done)), H', ⟨by have := HK1.out; omega⟩, by repeat (first | exact Drawn0.refl _ | apply Drawn0.step)⟩
       ·replace c8 := Bool.eq_false_iff.mpr c8; subst c8; have H1 : (some false) = some r := by rw [if_neg (show ¬ (false = true) by decide)] at H; exact H
        clear H; have H := H1; clear H1; obtain rfl := Option.some.inj H; have bC : 0 ≤ (aD : Int) := of_decide_eq_true (by assumption); have bA : aD < (l0.length : Int) := of_decide_eq_true (by assumption); obtain ⟨eR, ln, lf, dv, bL, eb, ee⟩ := ZH HR0.out aD bC bA; cases dv; have dI := aa.mk ee; have dJ := aa.mk eb; clear ee eb; replace bC := eq_true bC; replace bA := eq_true bA; have bp : 0 ≤ (aD : Int) := of_decide_eq_true (by assumption); have bo : aD < (l1.length : Int) := of_decide_eq_true (by assumption); obtain ⟨bt, ev, eu, du, aH, cd, cg⟩ := Full.at_ HR1.out aD bp bo; cases du; have cX := aa.mk cg; have dj := aa.mk cd; clear cg cd; replace bp := eq_true bp; replace bo := eq_true bo; go_wp2_with (first | (go_at_call 22; (with_reducible refine (Qw.calls k1 _ _ (Qt l0 aD) _ _ (Qt l1 aD) false _ ?ai ?ah ?aq ?ao A7.out).mono ?_); (case ai => exact dI.out); (case ah => exact dJ.out); (case aq => exact cX.out); (case ao => exact dj.out); rintro e w' ⟨rfl, ⟨nd, rfl⟩⟩; (try first | exact ⟨rfl, _, World.drewN_drewN _ _ _⟩ | exact ⟨rfl, _, Eq.trans (World.drewN_drewN _ _ _) (congrArg (World.drewN _) (Nat.add_assoc _ _ _))⟩)))
        repeat (go_quiet (first | (go_at_call 22; (with_reducible refine (Qw.calls k1 _ _ (Qt l0 aD) _ _ (Qt l1 aD) false _ ?ai ?ah ?aq ?ao A7.out).mono ?_); (case ai => exact dI.out); (case ah => exact dJ.out); (case aq => exact cX.out); (case ao => exact dj.out); rintro e w' ⟨rfl, ⟨nd, rfl⟩⟩; (try first | exact ⟨rfl, _, World.drewN_drewN _ _ _⟩ | exact ⟨rfl, _, Eq.trans (World.drewN_drewN _ _ _) (congrArg (World.drewN _) (Nat.add_assoc _ _ _))⟩))); try go_wp2_with (first | (go_at_call 22; (with_reducible refine (Qw.calls k1 _ _ (Qt l0 aD) _ _ (Qt l1 aD) false _ ?ai ?ah ?aq ?ao A7.out).mono ?_); (case ai => exact dI.out); (case ah => exact dJ.out); (case aq => exact cX.out); (case ao => exact dj.out); rintro e w' ⟨rfl, ⟨nd, rfl⟩⟩; (try first | exact ⟨rfl, _, World.drewN_drewN _ _ _⟩ | exact ⟨rfl, _, Eq.trans (World.drewN_drewN _ _ _) (congrArg (World.drewN _) (Nat.add_assoc _ _ _))⟩))))
        go_ret; exact ⟨by first | rfl | (simp; done) | (simp [*]; done), by repeat (first | exact Drawn0.refl _ | apply Drawn0.step)⟩
      ·rw [if_neg c6] at H; exact absurd H (by simp)
     ·rw [if_neg c5] at H; exact absurd H (by simp)
    ·rw [if_neg c4] at H; have bI : decide (aD < (l1.length : Int)) = false := decide_eq_false c4; clear c4; obtain rfl := Option.some.inj H; go_wp2; repeat (go_quiet (fail); try go_wp2)
     go_ret; exact ⟨by first | rfl | (simp; done) | (simp [*]; done), by repeat (first | exact Drawn0.refl _ | apply Drawn0.step)⟩
 ·rw [if_neg c3] at H; have bU : ((l0.length : Int) == (l1.length : Int)) = false := beq_eq_false_iff_ne.mpr c3; have cE : ((l0.length : Int) != (l1.length : Int)) = true := bne_iff_ne.mpr c3; have iE : (l0.length == l1.length) = false := by first | simpa using c3 | (simp at c3 ⊢; omega)
  obtain rfl := Option.some.inj H; go_enter Try.func19, Try.ntmps19; go_wp2; repeat (go_quiet (fail); try go_wp2)
  go_ret; exact ⟨by first | rfl | (simp; done) | (simp [*]; done), by repeat (first | exact Drawn0.refl _ | apply Drawn0.step)⟩
end Go.Proofs.Ytdneelgnmnpanaa.P
end
section
namespace Go.Proofs.Ytdneelgnmnpanaa.P
open Go.RowKit Go.Proofs.YtdneelgnmnpanaaW.PrintWords
def lineAt (M : List (List Int)) (k : Nat) : List Int := M.getD k []
def cmb (p q : Int) (r t : List Int) : List Int := List.zipWith (fun a b => a * p - b * q) r t
def Okc (p q : Int) (r t : List Int) : Prop := (∀ a ∈ r, (a * p).natAbs ≤ 2305843009213693952) ∧ (∀ b ∈ t, (b * q).natAbs ≤ 2305843009213693952)
instance (p q : Int) (r t : List Int) : Decidable (Okc p q r t) := by unfold Okc; infer_instance
def elim (i top j : Nat) (M : List (List Int)) : Option (List (List Int)) :=
  if j = top ∨ (lineAt M j).getD i 0 = 0 then some M
  else if Okc ((lineAt M top).getD i 0) ((lineAt M j).getD i 0) (lineAt M j) (lineAt M top) then some (M.set j (pln (cmb ((lineAt M top).getD i 0) ((lineAt M j).getD i 0) (lineAt M j) (lineAt M top))))
  else none
def elims (i top : Nat) : Nat → Nat → List (List Int) → Option (List (List Int))
  | 0, _, M => some M
  | d + 1, j, M => (elim i top j M).bind (elims i top d (j + 1))
def swp (M : List (List Int)) (a b : Nat) : List (List Int) := (M.set a (lineAt M b)).set b (lineAt M a)
def stepc (i : Nat) (M : List (List Int)) (P : List Int) : Option (List (List Int) × List Int) :=
  if fst i (M.drop P.length) < 0 then some (M, P)
  else (elims i P.length M.length 0 (swp M P.length (P.length + (fst i (M.drop P.length)).toNat))).bind fun M' => some (M', P ++ [(i : Int)])
def redc : Nat → Nat → List (List Int) → List Int → Option (List (List Int) × List Int)
  | 0, _, M, P => some (M, P)
  | d + 1, i, M, P => (stepc i M P).bind fun x => redc d (i + 1) x.1 x.2
def red (M : List (List Int)) : Option (List (List Int) × List Int) := redc 6 0 M []
theorem fst_lt (i : Nat) : ∀ (rows : List (List Int)), fst i rows < rows.length
  | [] => by simp [fst]
  | r :: l => by
    have := fst_lt i l; rw [fst]; split
    · rw [List.length_cons]; omega
    · split <;> rw [List.length_cons] <;> omega
theorem YT (p q : Int) (r t : List Int) (h : r.length = t.length) : (cmb p q r t).length = r.length := by simp [cmb, h]
theorem Yx (m : List Int) : (pln m).length = m.length := by unfold pln; split <;> simp
theorem cmb_lim {p q : Int} {r t : List Int} (h : Okc p q r t) : ∀ x ∈ cmb p q r t, Lim x := by
  intro x hx; obtain ⟨i, hi, rfl⟩ := List.mem_iff_getElem.1 hx; unfold cmb at hi ⊢; rw [List.length_zipWith] at hi; rw [List.getElem_zipWith]; have h1 := h.1 _ (List.getElem_mem (show i < r.length by omega)); have h2 := h.2 _ (List.getElem_mem (show i < t.length by omega)); unfold Lim; omega
theorem ZI (M : List (List Int)) (k : Nat) (h : k < M.length) : lineAt M k = M[k] := rowD M k h
theorem YP (M : List (List Int)) (a b : Nat) : (swp M a b).length = M.length := by simp [swp]
end Go.Proofs.Ytdneelgnmnpanaa.P
end
section
namespace Go.Proofs.Ytdneelgnmnpanaa.P
open Go.RowKit Go.Proofs.YtdneelgnmnpanaaW.PrintWords Go.Proofs.YtdneelgnmnpanaaW.PrintLast Go.Proofs.YtdneelgnmnpanaaW.PrintMore
theorem Yc (g : Nat) : ∀ (vs : List Value) (o : Nat) (w : World), (∀ k, k ≠ g → (w.setCells g o vs).heap[k]? = w.heap[k]?) ∧ (w.setCells g o vs).heap.size = w.heap.size
 | [], _, _ => ⟨fun _ _ => rfl, rfl⟩
 | v :: r, o, w => by
  obtain ⟨h1, h2⟩ := Yc g r (o + 1) (w.setCell ⟨g, o, none⟩ v); rw [World.setCells]; exact ⟨fun k hk => (h1 k hk).trans (heap_setCell_other w _ k v hk), by rw [h2]; simp⟩
theorem Yi {B g : Nat} (hg : B ≤ g) {w0 : World} : ∀ (vs : List Value) (o : Nat) (w : World), Below B w0 w → Below B w0 (w.setCells g o vs)
 | [], _, _, h => h
 | v :: r, o, w, h => by
  rw [World.setCells]; exact Yi hg r (o + 1) _ (h.setCell hg v)
set_option maxHeartbeats 8000000 in
set_option maxRecDepth 100000 in
theorem Uu (A0 : Option Addr) (c0 : Nat) (l0 : List S76) (Mf : List (List Int)) (Pf : List Int) (w : World) (hr0 : Kd.C k76 w A0 l0.length l0) (hc0 : l0.length ≤ c0) (hne : 0 < l0.length) (hlen : l0.length < 1000) (h : red (l0.map L6) = some (Mf, Pf)) :
  Calls Try.prog 111 #[.slice A0 l0.length c0] w fun e w' => ∃ v0_ v1_ : Value, e = .returned (.tuple #[v0_, v1_]) ∧ Kd.R k76 76 w' w.heap.size (fun _ => True) v0_ ((Mf.take Pf.length).map mk6) ∧ Kd.R (Kd.int .i64) 3 w' w.heap.size (fun k => some k ≠ v0_.ownBlock) v1_ Pf ∧ Below w.heap.size w w' := by
 have kt := Try.underlying76; have mG := Try.underlying65; have p8 := Try.underlying28; have hu3 := Try.underlying3; have ku := size76; have HR0 := aa.mk hr0; have HC0 := aa.mk hc0; have HCL := aa.mk (show ZU.f l0 = some l0 by unfold ZU.f; rw [if_pos hlen]); have HNE := aa.mk hne; have HLEN := aa.mk hlen; have HRED := aa.mk h; obtain ⟨n, hn⟩ : ∃ n, n = l0.length := ⟨_, rfl⟩; have HN := aa.mk hn; clear hr0 hc0 h hn; have HB := aa.mk (Below.refl w.heap.size w); go_enter Try.func111, Try.ntmps111; go_wp2_with (first
  | ((with_reducible refine Qf (f := 108) rfl ?_); refine QE (some 13) rfl rfl Try.func108 (by kernel_rfl) rfl #[.slice A0 l0.length c0] rfl (by (try simp only [List.map_toArray, List.map_cons, List.map_nil]); first | done | rfl) ?_; (with_reducible refine (ZU.calls A0 c0 l0 l0 _ (Kd.Qh HR0.out HB.out) HC0.out HCL.out).mono ?_); rintro e w9 ⟨v9, rfl, ho, hb⟩; refine ⟨_, rfl, ?_⟩; obtain ⟨g, c, hv, hgw, -, hbl, hlc, hcm⟩ := (Bl.of_R ho).resolve_left (fun hh => absurd (congrArg List.length hh.2) (by have := HNE.out; simp only [List.length_nil]; omega)); subst hv; have HBL := aa.mk hbl; have HCM := aa.mk hcm; have HGW := aa.mk hgw; have HLC := aa.mk hlc; have n0_ := aa.mk (Qc HB.out hb); clear HB hbl hcm hgw hlc ho hb; have HB := n0_; clear n0_))
 rw [← HN.out] at HLC; rw [← HN.out]; have HM := aa.mk (show (l0.map L6).length = n by rw [List.length_map, HN.out]); have HRC := aa.mk (show redc (6 - 0) 0 (l0.map L6) [] = some (Mf, Pf) from HRED.out); have HO := aa.mk (show Kd.R (Kd.int .i64) 3 w9 w.heap.size (fun k => k ≠ g) (.slice none 0 0) ([] : List Int) from Kd.Yp _ _ _ _ _); have HPL := aa.mk (show ([] : List Int).length ≤ n from Nat.zero_le _); have HPI := aa.mk (show ([] : List Int).length ≤ 0 from Nat.le_refl _); generalize l0.map L6 = M at HBL HM HRC; generalize ([] : List Int) = P at HRC HO HPL HPI; clear HRED HCL HR0 HC0; go_loopw [4, 14] (fun p_ i_ w' => ∃ (i : Nat) (M : List (List Int)) (P : List Int), i ≤ 6 ∧ i_ = .int .i64 i ∧ aa (redc (6 - i) i M P = some (Mf, Pf)) ∧ aa (Bl w' g M c) ∧ aa (M.length = n) ∧ aa (P.length ≤ n) ∧ aa (P.length ≤ i) ∧ aa (Kd.R (Kd.int .i64) 3 w' w.heap.size (fun k => k ≠ g) p_ P) ∧ aa (Below w.heap.size w w')) (fun _ i_ _ => 6 - (intOf i_).toNat)
 case atStart => exact ⟨0, M, P, by omega, rfl, HRC, HBL, HM, HPL, HPI, HO, HB⟩
 case round =>
  clear HRC HBL HM HPL HPI HO HB M P; obtain ⟨i, M, P, hi, rfl, HRC, HBL, HM, HPL, HPI, HO, HB⟩ := hrel; by_cases hi6 : i < 6
  ·have ua : n < 1000 := by have := HLEN.out; have := HN.out; omega
   obtain ⟨Ap, cp, ep⟩ := Kd.Q9 HO.out; subst ep; have htn := HPL.out; have hlc := HLC.out; obtain ⟨kk, hkk⟩ : ∃ kk, kk = fst i (M.drop P.length) := ⟨_, rfl⟩; have HKK := aa.mk hkk; have hrl : (M.drop P.length).length = n - P.length := by rw [List.length_drop, HM.out]
   have hflt := fst_lt i (M.drop P.length); rw [← hkk, hrl] at hflt; have hrc := HRC.out; rw [show 6 - i = (6 - (i + 1)) + 1 by omega, redc] at hrc; have HS := aa.mk hrc; have hrd : Rd (wr.alloc (.cells #[.int .i64 (i : Int)] 3)) (some ⟨g, P.length * 6, none⟩) (M.drop P.length) := fun _ => ⟨g, P.length * 6, rfl, fun q r hq => by
    rw [List.getElem?_drop] at hq; obtain ⟨hq1, hq2⟩ := List.getElem?_eq_some_iff.1 hq; have hbl := HBL.out.alloc (.cells #[.int .i64 (i : Int)] 3); refine ⟨hq2 ▸ hbl.1.at hq1, ?_⟩; have := hbl.range hq1; rw [hq2, Nat.add_mul] at this; exact this⟩
   have hcell : (wr.alloc (.cells #[.int .i64 (i : Int)] 3)).cell? ⟨wr.heap.size, 0, none⟩ = some (.int .i64 (i : Int)) := (Qb (Yu wr _) 0).trans rfl; clear hrc HRC hkk; by_cases hct : c = P.length
   ·have hr0 : M.drop P.length = [] := List.eq_nil_of_length_eq_zero (by rw [hrl]; omega); have hy := V9 (some ⟨g, 0, none⟩) (c - P.length) (M.drop P.length) i wr.heap.size _ (fun hne => absurd hr0 hne) (by rw [hrl]; have := HLEN.out; have := HN.out; omega) (by rw [hrl]; omega) hi6 hcell; rw [hrl, ← HKK.out, show c - P.length = 0 by omega, show n - P.length = 0 by omega] at hy; have HY := aa.mk hy; have hk0 : decide (kk < 0) = true := decide_eq_true (by omega); have HS2 := aa.mk (show redc (6 - (i + 1)) (i + 1) M P = some (Mf, Pf) by
     have := HS.out; unfold stepc at this; rw [← HKK.out, if_pos (by omega)] at this; exact this)
    clear hy hrd hcell HS hr0 HKK; subst hct; go_wp2_with (first | ((with_reducible refine Qf (f := 126) rfl ?_); refine QE (some 23) rfl rfl Try.func126 (by kernel_rfl) rfl #[.slice (some ⟨g, 0, none⟩) 0 0, .func (.func 127) #[] #[.pointer (some ⟨wr.heap.size, 0, none⟩)]] rfl (by (try simp only [List.map_toArray, List.map_cons, List.map_nil]); first | done | rfl) ?_; (with_reducible refine HY.out.mono ?_); rintro e w10 ⟨rfl, hb⟩; refine ⟨_, rfl, ?_⟩; have hbx := Qc ((Below.refl wr.heap.size wr).alloc (Nat.le_refl _) (.cells #[.int .i64 (i : Int)] 3)) hb; have n0_ := aa.mk (HBL.out.below hbx); have n1_ := aa.mk (Kd.Zf HO.out hbx); have n2_ := aa.mk (Qc HB.out hbx); have HBX := aa.mk (Ql (Yu wr (.cells #[.int .i64 (i : Int)] 3)) hb); have qL := aa.mk (show wr.heap.size ≤ w10.heap.size from hbx.size); clear HBL HO HB hb hbx; have HBL := n0_; have HO := n1_; have HB := n2_; clear n0_ n1_ n2_))
    go_roundw
    case rel => exact ⟨i + 1, M, P, by omega, by go_num, HS2, HBL, HM, HPL, ⟨by have := HPI.out; omega⟩, HO, HB⟩
    case measure => simp [intOf]; omega
   ·have hy := V9 (some ⟨g, P.length * 6, none⟩) (c - P.length) (M.drop P.length) i wr.heap.size _ hrd (by rw [hrl]; have := HLEN.out; have := HN.out; omega) (by rw [hrl]; omega) hi6 hcell; rw [hrl, ← HKK.out] at hy; have HY := aa.mk hy; by_cases hk : kk < 0
    ·have hk0 : decide (kk < 0) = true := decide_eq_true hk; have HS2 := aa.mk (show redc (6 - (i + 1)) (i + 1) M P = some (Mf, Pf) by
      have := HS.out; unfold stepc at this; rw [← HKK.out, if_pos hk] at this; exact this)
     clear hy hrd hcell HS HKK; go_wp2_with (first | ((with_reducible refine Qf (f := 126) rfl ?_); refine QE (some 23) rfl rfl Try.func126 (by kernel_rfl) rfl #[.slice (some ⟨g, P.length * 6, none⟩) (n - P.length) (c - P.length), .func (.func 127) #[] #[.pointer (some ⟨wr.heap.size, 0, none⟩)]] rfl (by (try simp only [List.map_toArray, List.map_cons, List.map_nil]); first | done | rfl) ?_; (with_reducible refine HY.out.mono ?_); rintro e w10 ⟨rfl, hb⟩; refine ⟨_, rfl, ?_⟩; have hbx := Qc ((Below.refl wr.heap.size wr).alloc (Nat.le_refl _) (.cells #[.int .i64 (i : Int)] 3)) hb; have n0_ := aa.mk (HBL.out.below hbx); have n1_ := aa.mk (Kd.Zf HO.out hbx); have n2_ := aa.mk (Qc HB.out hbx); have HBX := aa.mk (Ql (Yu wr (.cells #[.int .i64 (i : Int)] 3)) hb); have qL := aa.mk (show wr.heap.size ≤ w10.heap.size from hbx.size); clear HBL HO HB hb hbx; have HBL := n0_; have HO := n1_; have HB := n2_; clear n0_ n1_ n2_))
     go_roundw
     case rel => exact ⟨i + 1, M, P, by omega, by go_num, HS2, HBL, HM, HPL, ⟨by have := HPI.out; omega⟩, HO, HB⟩
     case measure => simp [intOf]; omega
    ·obtain ⟨kn, hkn⟩ := Int.eq_ofNat_of_zero_le (show 0 ≤ kk by omega); subst hkn; have hk0 : decide ((kn : Int) < 0) = false := decide_eq_false hk; have ha : P.length < M.length := by rw [HM.out]; omega
     have hb' : P.length + kn < M.length := by rw [HM.out]; omega
     obtain ⟨M1, hM1, hs2⟩ : ∃ M1, elims i P.length M.length 0 (swp M P.length (P.length + kn)) = some M1 ∧ redc (6 - (i + 1)) (i + 1) M1 (P ++ [(i : Int)]) = some (Mf, Pf) := by
      have := HS.out; unfold stepc at this; rw [← HKK.out, if_neg hk, Int.toNat_natCast] at this; obtain ⟨x, hx1, hx2⟩ := Option.bind_eq_some_iff.1 this; obtain ⟨M1, hM1, hx⟩ := Option.bind_eq_some_iff.1 hx1; obtain rfl := Option.some.inj hx; exact ⟨M1, hM1, hx2⟩
     have HNG := aa.mk (show wr.heap.size ≠ g from by have := HBL.out.lt; omega); have HWR := aa.mk (show wrap64 ((P.length : Int) + (kn : Int)) = ((P.length + kn : Nat) : Int) by rw [wrp (by omega) (by have := HLEN.out; have := HN.out; omega)]; omega); have HA := aa.mk ha; have HBB := aa.mk hb'; have HEL := aa.mk hM1; have HS2 := aa.mk hs2; clear hy hrd hcell HS HKK hM1 hs2 ha hb'; go_wp2_with (first
      | ((with_reducible refine Qf (f := 126) rfl ?_); refine QE (some 23) rfl rfl Try.func126 (by kernel_rfl) rfl #[.slice (some ⟨g, P.length * 6, none⟩) (n - P.length) (c - P.length), .func (.func 127) #[] #[.pointer (some ⟨wr.heap.size, 0, none⟩)]] rfl (by (try simp only [List.map_toArray, List.map_cons, List.map_nil]); first | done | rfl) ?_; (with_reducible refine HY.out.mono ?_); rintro e w10 ⟨rfl, hb⟩; refine ⟨_, rfl, ?_⟩; have hbx := Qc ((Below.refl wr.heap.size wr).alloc (Nat.le_refl _) (.cells #[.int .i64 (i : Int)] 3)) hb; have n0_ := aa.mk (HBL.out.below hbx); have n1_ := aa.mk (Kd.Zf HO.out hbx); have n2_ := aa.mk (Qc HB.out hbx); have HBX := aa.mk (Ql (Yu wr (.cells #[.int .i64 (i : Int)] 3)) hb); have qL := aa.mk (show wr.heap.size ≤ w10.heap.size from hbx.size); clear HBL HO HB hb hbx; have HBL := n0_; have HO := n1_; have HB := n2_; clear n0_ n1_ n2_)
      | ((with_reducible refine Qf (f := 128) rfl ?_); refine QE (some 31) rfl rfl Try.func128 (by kernel_rfl) rfl #[.slice (some ⟨g, 0, none⟩) n c, .int .i64 (P.length : Int), .int .i64 ((P.length + kn : Nat) : Int)] rfl (by (try simp only [List.map_toArray, List.map_cons, List.map_nil]); first | done | rfl | (rw [← HWR.out]; done) | (rw [← HWR.out]; rfl)) ?_; (with_reducible refine (exch_calls g n c P.length (P.length + kn) M _ HBL.out HM.out.symm HA.out HBB.out HLC.out).mono ?_); rintro e w11 ⟨rfl, q5⟩; refine ⟨_, rfl, ?_⟩; have oV := aa.mk q5; clear q5))
     have hsix := HBL.out.1; have hb1 := (HBL.out.drew.stores HA.out (hsix.at HBB.out)).stores (by simpa using HBB.out) (hsix.at HA.out); rw [← oV.out] at hb1; have hh : ∀ k, k ≠ g → w11.heap[k]? = w10.heap[k]? := fun k hk_ => by rw [oV.out]; exact ((Yc g _ _ _).1 k hk_).trans ((Yc g _ _ _).1 k hk_)
     have pc := aa.mk hb1; have HO2 := aa.mk (Kd.Vz HO.out (fun k hk_ _ => hh k hk_)); have pb := aa.mk ((hh _ HNG.out).trans HBX.out); have HB2 := aa.mk (show Below w.heap.size w w11 by rw [oV.out]; exact Yi HGW.out _ _ _ (Yi HGW.out _ _ _ (Yl HB.out))); clear HBL HO HBX HB hb1 hh hsix oV; have HBL := pc; have HO := HO2; have HBX := pb; have HB := HB2; clear pc HO2 pb HB2; generalize hb5 : wr.heap.size = b5 at *; have HNB := aa.mk (show b5 ≠ g from HNG.out); have HM1 := aa.mk (show (swp M P.length (P.length + kn)).length = n by rw [YP, HM.out]); have sf := aa.mk (show Bl w11 g (swp M P.length (P.length + kn)) c by
      have := HBL.out; unfold swp; rw [ZI _ _ HA.out, ZI _ _ HBB.out]; exact this)
     have se := aa.mk (show elims i P.length (n - 0) 0 (swp M P.length (P.length + kn)) = some M1 by rw [← HEL.out, HM.out]; rfl); have HTN := aa.mk (show P.length < n by rw [← HM.out]; exact HA.out); have vd := aa.mk (show P.length ≤ i from HPI.out); clear HBL HEL HA HBB hb5 HWR qL hk HY HM HPI; generalize swp M P.length (P.length + kn) = N at *; go_loopw [34] (fun j_ w' => ∃ (j : Nat) (N : List (List Int)), j ≤ n ∧ j_ = .int .i64 j ∧ aa (elims i P.length (n - j) j N = some M1) ∧ aa (Bl w' g N c) ∧ aa (N.length = n) ∧ aa (w'.heap[b5]? = some (.cells #[.int .i64 (i : Int)] 3 (0, 0))) ∧ aa (Kd.R (Kd.int .i64) 3 w' w.heap.size (fun k => k ≠ g) (.slice Ap P.length cp) P) ∧ aa (Below w.heap.size w w')) (fun j_ _ => n - (intOf j_).toNat)
     case atStart => exact ⟨0, N, Nat.zero_le _, rfl, se, sf, HM1, HBX, HO, HB⟩
     case round =>
      clear se sf HM1 HBX HO HB N; obtain ⟨j, N, hj, rfl, HEL, HBL, HM, HBX, HO, HB⟩ := hrel; by_cases hjn : j < n
      ·have hbx : wr.cell? ⟨b5, 0, none⟩ = some (.int .i64 (i : Int)) := (Qb HBX.out 0).trans rfl; have hjN : j < N.length := by rw [HM.out]; exact hjn
       have htN : P.length < N.length := by rw [HM.out]; exact HTN.out
       have hel := HEL.out; rw [show n - j = (n - (j + 1)) + 1 by omega, elims] at hel; unfold elim at hel; have HE2 := aa.mk hel; clear hel HEL; by_cases hjt : j = P.length
       ·have c1 : ((j : Int) == (P.length : Int)) = true := beq_iff_eq.mpr (by omega); have HE3 := aa.mk (show elims i P.length (n - (j + 1)) (j + 1) N = some M1 by
         have := HE2.out; rw [if_pos (Or.inl hjt)] at this; exact this)
        clear HE2 hjt; go_wp2_with fail
        go_quiet (fail)
        go_wp2_with fail
        go_roundw
        case rel => exact ⟨j + 1, N, by omega, by go_num, HE3, HBL, HM, HBX, HO, ⟨QA HB.out _⟩⟩
        case measure => simp [intOf]; omega
       ·have c1 : ((j : Int) == (P.length : Int)) = false := beq_eq_false_iff_ne.mpr (by omega); have hcj := HBL.out.cell hjN hi6; by_cases hz : N[j].getD i 0 = 0
        ·have HE3 := aa.mk (show elims i P.length (n - (j + 1)) (j + 1) N = some M1 by
          have := HE2.out; rw [if_pos (Or.inr (by rw [ZI _ _ hjN]; exact hz))] at this; exact this)
         rw [hz] at hcj; clear HE2 hjt hz; go_wp2_with fail
         go_quiet (fail)
         go_wp2_with fail
         go_roundw
         case rel => exact ⟨j + 1, N, by omega, by go_num, HE3, HBL, HM, HBX, HO, ⟨QA HB.out _⟩⟩
         case measure => simp [intOf]; omega
        ·have hct' := HBL.out.cell htN hi6; obtain ⟨q, hq⟩ : ∃ q, q = N[j].getD i 0 := ⟨_, rfl⟩; obtain ⟨p, hp⟩ : ∃ p, p = N[P.length].getD i 0 := ⟨_, rfl⟩; have hj6 := HBL.out.1.at hjN; have ht6 := HBL.out.1.at htN; obtain ⟨hok, hel⟩ : Okc p q N[j] N[P.length] ∧ elims i P.length (n - (j + 1)) (j + 1) (N.set j (pln (cmb p q N[j] N[P.length]))) = some M1 := by
          have := HE2.out; rw [if_neg (by rw [ZI _ _ hjN]; rintro (h1 | h1); exact hjt h1; exact hz h1), ZI _ _ hjN, ZI _ _ htN, ← hq, ← hp] at this; split at this
          ·rename_i h1
           exact ⟨h1, this⟩
          ·cases this
         have HOK := aa.mk hok; have HEL := aa.mk hel; have HJ6 := aa.mk hj6; have HT6 := aa.mk ht6; have HJT := aa.mk hjt; have HJN := aa.mk hjN; have HTL := aa.mk htN; rw [← hq] at hcj hz; rw [← hp] at hct'; have hq0 : (q == 0) = false := beq_eq_false_iff_ne.mpr hz; clear HE2 hjt hz hok hel hj6 ht6 hq hp; go_wp2_with fail
         go_quiet (fail)
         go_wp2_with fail
         go_quiet (fail)
         go_wp2_with fail
         have sh := aa.mk (show Bl wr g (N.set j ((cmb p q N[j] N[P.length]).take 0 ++ N[j].drop 0)) c by
          rw [List.take_zero, List.nil_append, List.drop_zero, List.set_getElem_self]; exact HBL.out)
         have HCL := aa.mk (show (cmb p q N[j] N[P.length]).length = 6 by rw [YT _ _ _ _ (by rw [HJ6.out, HT6.out]), HJ6.out]); clear HBL hcj hct'; go_loopw [61] (fun m_ w' => ∃ m : Nat, m ≤ 6 ∧ m_ = .int .i64 m ∧ aa (Bl w' g (N.set j ((cmb p q N[j] N[P.length]).take m ++ N[j].drop m)) c) ∧ aa (w'.heap[b5]? = some (.cells #[.int .i64 (i : Int)] 3 (0, 0))) ∧ aa (Kd.R (Kd.int .i64) 3 w' w.heap.size (fun k => k ≠ g) (.slice Ap P.length cp) P) ∧ aa (Below w.heap.size w w')) (fun m_ _ => 6 - (intOf m_).toNat)
         case atStart => exact ⟨0, by omega, rfl, ⟨sh.out⟩, ⟨HBX.out⟩, ⟨HO.out⟩, ⟨QA (QA HB.out _) _⟩⟩
         case round =>
          clear sh HBX HO HB; obtain ⟨m, hm, rfl, HBL, HBX, HO, HB⟩ := hrel; have hjS : j < (N.set j ((cmb p q N[j] N[P.length]).take m ++ N[j].drop m)).length := by simpa using hjN
          have htS : P.length < (N.set j ((cmb p q N[j] N[P.length]).take m ++ N[j].drop m)).length := by simpa using htN
          by_cases hm6 : m < 6
          ·have hj6 := HJ6.out; have ht6 := HT6.out; have hcl := HCL.out; have hrj := HBL.out.cell hjS hm6; have hrt := HBL.out.cell htS hm6; have e1 : (N.set j ((cmb p q N[j] N[P.length]).take m ++ N[j].drop m))[j] = (cmb p q N[j] N[P.length]).take m ++ N[j].drop m := by simp
           have e2 : (N.set j ((cmb p q N[j] N[P.length]).take m ++ N[j].drop m))[P.length] = N[P.length] := by
            rw [List.getElem_set_ne]; exact HJT.out
           have e3 : ((cmb p q N[j] N[P.length]).take m ++ N[j].drop m).getD m 0 = N[j][m] := by
            rw [List.getD_eq_getElem?_getD, List.getElem?_append_right (by rw [List.length_take]; omega), List.length_take, Nat.min_eq_left (by omega), Nat.sub_self, List.getElem?_drop, Nat.add_zero, List.getElem?_eq_getElem (by omega)]; rfl
           have e4 : N[P.length].getD m 0 = N[P.length][m] := by rw [List.getD_eq_getElem?_getD, List.getElem?_eq_getElem (by omega)]; rfl
           rw [e1, e3] at hrj; rw [e2, e4] at hrt; have hst := fun v => HBL.out.store hjS hm6 v
           rw [e1] at hst; have hcm : (cmb p q N[j] N[P.length])[m] = N[j][m] * p - N[P.length][m] * q := by unfold cmb; rw [List.getElem_zipWith]
           have hnext : ((cmb p q N[j] N[P.length]).take m ++ N[j].drop m).set m (N[j][m] * p - N[P.length][m] * q) = (cmb p q N[j] N[P.length]).take (m + 1) ++ N[j].drop (m + 1) := by
            rw [List.set_append_right _ _ (by rw [List.length_take]; omega), List.length_take, Nat.min_eq_left (by omega), Nat.sub_self, List.drop_eq_getElem_cons (by omega : m < N[j].length), List.set_cons_zero, List.take_succ_eq_append_getElem (by omega), hcm, List.append_assoc]; rfl
           have hnx := hst (N[j][m] * p - N[P.length][m] * q); rw [hnext, List.set_set] at hnx; have HNX := aa.mk hnx; have hff := HBL.out.frozen (j * 6 + m); have o1 := HOK.out.1 _ (List.getElem_mem (show m < N[j].length by omega)); have o2 := HOK.out.2 _ (List.getElem_mem (show m < N[P.length].length by omega)); have hB5 := aa.mk (HBX.out); clear e1 e2 e3 e4 hst hcm hnext hnx; generalize N[j][m] = rj at *; generalize N[P.length][m] = rt at *; have w1 : wrap64 (rj * p) = rj * p := wrp (by omega) (by omega); have w2 : wrap64 (rt * q) = rt * q := wrp (by omega) (by omega); have w3 : wrap64 (rj * p - rt * q) = rj * p - rt * q := wrp (by omega) (by omega); clear o1 o2; go_wp2_with fail
           go_region; go_wp2_with fail
           go_roundw
           case rel => exact ⟨m + 1, by omega, by go_num, HNX, ⟨(heap_setCell_other _ _ _ _ HNB.out).trans HBX.out⟩, ⟨Kd.R_far HO.out (fun _ hk_ => hk_) _⟩, ⟨(HB.out.setCell HGW.out _).drew⟩⟩
           case measure => simp [intOf]; omega
          ·obtain rfl : m = 6 := by omega
           have hbl := HBL.out; rw [List.take_of_length_le (by rw [HCL.out]; exact Nat.le_refl _), List.drop_eq_nil_of_le (by rw [HJ6.out]; exact Nat.le_refl _), List.append_nil] at hbl; have qd : j < (N.set j (cmb p q N[j] N[P.length])).length := by simpa using hjN
           have hrg := hbl.range qd; rw [List.getElem_set_self] at hrg; have hth := hbl.there qd; have hnew := fun (w2 : World) (hb : Below wr.heap.size wr w2) => (hbl.below hb).stores qd (r := pln (cmb p q N[j] N[P.length])) (by rw [Yx, HCL.out])
           simp only [List.set_set] at hnew; have vc := aa.mk (fun W => VG (cmb p q N[j] N[P.length]) W HCL.out (cmb_lim HOK.out)); have HPN := aa.mk (show (pln (cmb p q N[j] N[P.length])).length = 6 by rw [Yx, HCL.out]); have HE := aa.mk (show elims i P.length (n - (j + 1)) (j + 1) (N.set j (pln (cmb p q N[j] N[P.length]))) = some M1 from HEL.out); have HMN := aa.mk (show (N.set j (pln (cmb p q N[j] N[P.length]))).length = n by rw [List.length_set, HM.out]); have HBF := aa.mk (fun (w2 : World) (hb : Below wr.heap.size wr w2) (o : Nat) => (hbl.below hb).frozen o); have HRG := aa.mk hrg; have HTH := aa.mk hth; have HNW := aa.mk hnew; have HI1 := aa.mk (show (Try.prog.info? 76).map (·.size) = some ((cmb p q N[j] N[P.length]).map (Value.int .i64)).length by rw [List.length_map, HCL.out]; exact size76); have HI2 := aa.mk (show (Try.prog.info? 76).map (·.size) = some (arr (pln (cmb p q N[j] N[P.length]))).size by rw [ZB, HPN.out]; exact size76); clear hbl hrg hth hnew HEL; generalize pln (cmb p q N[j] N[P.length]) = s at *; generalize cmb p q N[j] N[P.length] = z at *; go_wp2_with (first
            | (refine wpList_load_mid rfl 76 _ rfl g (j * 6) rfl (z.map (Value.int .i64)) _ HRG.out Try.underlying76 rfl HI1.out ?_)
            | ((with_reducible refine Qf (f := 118) rfl ?_); refine QE (some 93) rfl rfl Try.func118 (by kernel_rfl) rfl #[.agg (arr z)] rfl (by (try simp only [List.map_toArray, List.map_cons, List.map_nil]); first | done | rfl) ?_; (with_reducible refine (vc.out _).mono ?_); rintro e w12 ⟨rfl, hb⟩; refine ⟨_, rfl, ?_⟩; have ve := aa.mk (HNW.out _ hb); have vb := aa.mk (show w12.there g (j * 6) 6 from fun q hq => ⟨by obtain ⟨u, hu⟩ := Option.isSome_iff_exists.1 (HTH.out q hq).1; rw [(hb.cell (World.block_lt_of_cell? wr _ hu)).trans hu]; rfl, HBF.out _ hb _⟩); have pb := aa.mk (Ql HBX.out hb); have HO2 := aa.mk (Kd.Zf HO.out hb); have HB2 := aa.mk (Qc HB.out hb); clear HBL HO HBX HB hb HNW HTH)
            | (refine wpList_store_mid rfl 76 _ _ rfl g (j * 6) (arr s) rfl rfl (by rw [ZB, HPN.out]; exact vb.out) HI2.out (YD s) ?_))
           go_roundw
           case rel => exact ⟨j + 1, N.set j s, by omega, by go_num, HE, ve, HMN, ⟨((Yc g _ _ _).1 _ HNB.out).trans pb.out⟩, ⟨Kd.Vz HO2.out (fun k hk_ _ => (Yc g _ _ _).1 k hk_)⟩, ⟨Yi HGW.out _ _ _ HB2.out⟩⟩
           case measure => simp [intOf]; omega
      ·obtain rfl : j = n := by omega
       have hN : N = M1 := by
        have := HEL.out; rw [Nat.sub_self, elims] at this; exact Option.some.inj this
       subst hN; have hbx : wr.cell? ⟨b5, 0, none⟩ = some (.int .i64 (i : Int)) := (Qb HBX.out 0).trans rfl; have HGL := aa.mk HBL.out.lt; go_wp2_with (first
        | ((with_reducible refine ZF (b := .append) (xs := #[.tmp 96, .tmp 98]) rfl ?_); at_builtin; refine Kd.YO (Kd.int .i64) (w0 := w) w.heap.size rfl (.tmp 96) (.tmp 98) 28 3 (.int .i64 0) 8 rfl Try.underlying28 info3 rfl (by decide) (by omega) (.slice Ap P.length cp) P (i : Int) [.int .i64 (i : Int)] (fun k_ => k_ ≠ g) (fun _ => False) rfl rfl ?aP (fun _ hk => hk.elim) ?aF ?aO ?aB ?aS ?aL ?_; (case aP => exact rfl); (case aB => exact (by repeat (first | (with_reducible first | exact HB.out | apply QR | apply QA | apply QN) | exact HB.out))); (case aF => exact (fun k_ hk => by have h1 := HGL.out; have h2 : wr.heap.size ≤ k_ := Nat.le_trans (by simp) hk; show k_ ≠ g; omega)); (case aO => exact (by (with_reducible repeat (first | apply Kd.R_alloc | apply Kd.R_drewN | apply Kd.QX)); exact HO.out)); (case aS => exact (Qe (by repeat (first | (with_reducible first | exact HB.out | apply QR | apply QA | apply QN) | exact HB.out)))); (case aL => have := HTN.out; omega); intro mr w12 ho hb hg hat; have pc := aa.mk (show Bl w12 g N c from by first | exact HBL.out.move (hg.block g HGL.out (fun e_ => HO.out.1 g e_.symm rfl)) | exact (HBL.out.alloc _).move (hg.block g (Nat.lt_of_lt_of_le HGL.out (by simp)) (fun e_ => HO.out.1 g e_.symm rfl))); replace HB := aa.mk (hb); replace HO := aa.mk (ho); clear ho hb hg hat))
       go_roundw
       case rel => exact ⟨i + 1, N, P ++ [(i : Int)], by omega, by go_num, HS2, pc, HM, ⟨by have := HTN.out; simp; omega⟩, ⟨by have := vd.out; simp; omega⟩, HO, HB⟩
       case measure => simp [intOf]; omega
  ·obtain rfl : i = 6 := by omega
   have hf : M = Mf ∧ P = Pf := by
    have := HRC.out; rw [Nat.sub_self, redc] at this; have := Option.some.inj this; exact ⟨congrArg Prod.fst this, congrArg Prod.snd this⟩
   obtain ⟨rfl, rfl⟩ := hf; obtain ⟨Ap, cp, ep⟩ := Kd.Q9 HO.out; subst ep; have htn := HPL.out; have hlc := HLC.out; have hle : P.length ≤ c := by omega
   go_wp2_with fail
   go_ret2; refine ⟨_, _, rfl, HBL.out.R HGW.out trivial (by rw [HM.out]; exact htn) HCM.out, ?_, HB.out⟩; exact Kd.Zl HO.out (fun k hk => by simp [Value.ownBlock]; exact fun e => hk e)
def ZJ.f (l : List S76) : Option (List S76 × List Int) := if 0 < l.length ∧ l.length < 1000 then (red (l.map L6)).map fun x => ((x.1.take x.2.length).map mk6, x.2) else none
theorem ZJ.calls (A0 : Option Addr) (c0 : Nat) (l0 : List S76) (r1 : List S76) (r2 : List Int) (w : World) (hr0 : Kd.C k76 w A0 l0.length l0) (hc0 : l0.length ≤ c0) (h : ZJ.f l0 = some (r1, r2)) :
  Calls Try.prog 111 #[.slice A0 l0.length c0] w fun e w' => ∃ v0_ v1_ : Value, e = .returned (.tuple #[v0_, v1_]) ∧ Kd.R k76 76 w' w.heap.size (fun _ => True) v0_ r1 ∧ Kd.R (Kd.int .i64) 3 w' w.heap.size (fun k => some k ≠ v0_.ownBlock) v1_ r2 ∧ Below w.heap.size w w' := by
 unfold ZJ.f at h; split at h
 case isFalse => cases h
 rename_i hc
 obtain ⟨⟨Mf, Pf⟩, hx, e⟩ := Option.map_eq_some_iff.1 h; obtain ⟨rfl, rfl⟩ := Prod.mk.inj e; exact Uu A0 c0 l0 Mf Pf w hr0 hc0 hc.1 hc.2 hx
instance (x : Int) : Decidable (Lim x) := by unfold Lim; infer_instance
def frg : Nat → Nat → List Int → Nat
 | 0, f, _ => f
 | d + 1, f, P => if (f : Int) ∈ P then frg d (f + 1) P else f
def AllOk (r : List Int) (p a : Int) : Prop := 0 ≤ p ∧ p < 6 ∧ Lim a ∧ Lim (r.getD p.toNat 0) ∧ Int.gcd a (r.getD p.toNat 0) ≠ 0 ∧ Lim (a.tdiv (Int.gcd a (r.getD p.toNat 0)) * r.getD p.toNat 0)
instance (r : List Int) (p a : Int) : Decidable (AllOk r p a) := by unfold AllOk; infer_instance
def alls : List (List Int × Int) → Int → Option Int
 | [], a => some a
 | x :: l, a => if AllOk x.1 x.2 a then alls l (a.tdiv (Int.gcd a (x.1.getD x.2.toNat 0)) * x.1.getD x.2.toNat 0) else none
def OutOk (free : Nat) (all : Int) (r : List Int) (p : Int) : Prop := 0 ≤ p ∧ p < 6 ∧ Lim all ∧ Lim (r.getD free 0) ∧ r.getD p.toNat 0 ≠ 0 ∧ Lim (-(r.getD free 0) * all.tdiv (r.getD p.toNat 0))
instance (free : Nat) (all : Int) (r : List Int) (p : Int) : Decidable (OutOk free all r p) := by unfold OutOk; infer_instance
def outs (free : Nat) (all : Int) : List (List Int × Int) → List Int → Option (List Int)
 | [], o => some o
 | x :: l, o => if OutOk free all x.1 x.2 then outs free all l (o.set x.2.toNat (-(x.1.getD free 0) * all.tdiv (x.1.getD x.2.toNat 0))) else none
def fin (o : List Int) (count : Nat) : Option (List Int) :=
 if (∀ x ∈ o, Lim x) ∧ 0 ≤ nzi ((pln o).take count) then
  some (if (pln o).getD (nzi ((pln o).take count)).toNat 0 < 0 then ((pln o).map (fun x => -x)).take count else (pln o).take count)
 else none
def sol (R : List (List Int)) (P : List Int) (count : Nat) : Option (List Int × Bool) :=
 if (count : Int) - P.length ≠ 1 then some ([], false)
 else if ((frg 7 0 P : Int)) ∉ P ∧ frg 7 0 P < 6 ∧ R.length = P.length then
  (alls (R.zip P) 1).bind fun all => (outs (frg 7 0 P) all (R.zip P) (zeros6.set (frg 7 0 P) all)).bind fun o => (fin o count).map fun s => (s, true)
 else none
def Q7.f (l : List S76) (count : Int) : Option (List Int × Bool) :=
 if 0 ≤ count ∧ count ≤ 6 then (ZJ.f l).bind fun x => sol (x.1.map L6) x.2 count.toNat else none
theorem Vn (i top : Nat) : ∀ (d j : Nat) (M M' : List (List Int)), elims i top d j M = some M' → M'.length = M.length
 | 0, j, M, M', h => by rw [elims] at h; rw [← Option.some.inj h]
 | d + 1, j, M, M', h => by
  rw [elims] at h; obtain ⟨N, h1, h2⟩ := Option.bind_eq_some_iff.1 h; rw [Vn i top d (j + 1) N M' h2]; unfold elim at h1; split at h1
  ·rw [← Option.some.inj h1]
  ·split at h1
   ·rw [← Option.some.inj h1]; simp
   ·cases h1
theorem VE : ∀ (d i : Nat) (M : List (List Int)) (P : List Int) (Mf : List (List Int)) (Pf : List Int), redc d i M P = some (Mf, Pf) → Pf.length ≤ P.length + d ∧ Mf.length = M.length
 | 0, i, M, P, Mf, Pf, h => by
  rw [redc] at h; obtain ⟨rfl, rfl⟩ := Prod.mk.inj (Option.some.inj h); exact ⟨Nat.le_refl _, rfl⟩
 | d + 1, i, M, P, Mf, Pf, h => by
  rw [redc] at h; obtain ⟨⟨M1, P1⟩, h1, h2⟩ := Option.bind_eq_some_iff.1 h; have h3 := VE d (i + 1) M1 P1 Mf Pf h2; unfold stepc at h1; split at h1
  ·obtain ⟨rfl, rfl⟩ := Prod.mk.inj (Option.some.inj h1); exact ⟨by omega, h3.2⟩
  ·obtain ⟨M2, h4, h5⟩ := Option.bind_eq_some_iff.1 h1; obtain ⟨rfl, rfl⟩ := Prod.mk.inj (Option.some.inj h5); have h6 := Vn _ _ _ _ _ _ h4; rw [YP] at h6; simp at h3; exact ⟨by omega, by omega⟩
theorem red_places {M Mf : List (List Int)} {Pf : List Int} (h : red M = some (Mf, Pf)) : Pf.length ≤ 1000 := by
 have := (VE 6 0 M [] Mf Pf h).1; simp at this; omega
def solu.T11 : Bool × List (List Nat × List Nat) := (true, [([], []), ([], []), ([], []), ([], []), ([2, 3], [2, 3]), ([4], [4]), ([5], [5]), ([6], [6]), ([1, 7], [1, 7]), ([0, 8], [0, 8]), ([], []), ([], []), ([10, 11], [10, 11]), ([12], [12]), ([13], [13]), ([14], [14]), ([9, 15], [9, 15]), ([16, 8, 0, 1, 2, 3, 4, 5, 6, 7, 8, 9, 10, 11, 12, 13, 14, 15, 16], [0, 1, 16])])
def solu.B11 : List Nat := [0, 0, 0, 0, 12, 28, 60, 124, 254, 511, 0, 0, 3072, 7168, 15360, 31744, 65535, 131071]
theorem solu.tab11 : rtab .any (opsOf Try.f82 11) = solu.T11 := by kernel_rfl
theorem solu.bits11 : waitsOk solu.T11.2 solu.B11 = true := by kernel_rfl
def solu.T18 : Bool × List (List Nat × List Nat) := (true, [([], []), ([], []), ([0, 1], [0, 1]), ([2], [2]), ([], []), ([4], [4]), ([5], [5]), ([6], [6]), ([], []), ([], []), ([], []), ([9, 10], [9, 10]), ([11], [11]), ([12], [12]), ([13], [13]), ([8, 14], [8, 14]), ([7, 15], [7, 15]), ([3, 0, 1, 2, 3, 4, 5, 6, 7, 8, 9, 10, 11, 12, 13, 14, 15, 16], [3]), ([17, 16, 0, 1, 2, 3, 4, 5, 6, 7, 8, 9, 10, 11, 12, 13, 14, 15, 16], [16, 17])])
def solu.B18 : List Nat := [0, 0, 3, 7, 0, 16, 48, 112, 0, 0, 0, 1536, 3584, 7680, 15872, 32512, 65520, 131071, 262143]
theorem solu.tab18 : rtab .any (opsOf Try.f82 18) = solu.T18 := by kernel_rfl
theorem solu.bits18 : waitsOk solu.T18.2 solu.B18 = true := by kernel_rfl
theorem R_addr {α : Type} {d : Kd α} {e base : Nat} {ok : Nat → Prop} {w : World} {A : Option Addr} {n c : Nat} {xs : List α} (h : Kd.R d e w base ok (.slice A n c) xs) : ∀ ad, A = some ad → ad.spot = none := by
 obtain ⟨inner, ho⟩ := Kd.R_own h; intro ad hA; rcases ho.2 with ⟨hv, _⟩ | ⟨g, cap, cur, hv, _⟩
 ·cases hv; cases hA
 ·cases hv; cases hA; rfl
theorem C_arr {w : World} {b n : Nat} {m : List Int} {t : TypeId} (h : w.heap[b]? = some (.cells (arr m) t (0, 0))) (hn : n ≤ m.length) (hm : m.length ≤ 1000) : Kd.C (Kd.int .i64) w (some ⟨b, 0, none⟩) (m.take n).length (m.take n) := by
 refine Kd.Uq (d := (0 : Int)) (h1 := fun _ => rfl) ⟨rfl, by rw [List.length_take]; omega, fun _ => ⟨_, rfl, fun j hj => ?_⟩⟩; have hj' : j < n := by rw [List.length_take] at hj; omega
 rw [Z9, Yj h j (by omega)]; simp [List.getElem?_take, hj', show j < m.length by omega]
theorem pln_lim {m : List Int} (h : ∀ x ∈ m, Lim x) : ∀ x ∈ pln m, Lim x := by
 unfold pln; split
 ·intro x hx; obtain ⟨y, hy, rfl⟩ := List.mem_map.1 hx; have h1 := h y hy; unfold Lim at *; have : (y.tdiv (gc m)).natAbs ≤ y.natAbs := by rw [Int.natAbs_tdiv]; exact Nat.div_le_self _ _
  omega
 ·exact h
theorem slice76 (b n : Nat) (hn : n ≤ 6) (W : World) : (Instr.sliceAt 76 (.pointer (some ⟨b, 0, none⟩)) none (some (.int .i64 (n : Int))) none).run Try.prog W = .ok (.slice (some ⟨b, 0, none⟩) n 6) W := by
 have hl : Try.prog.arrayLen 76 = 6 := by kernel_rfl
 have he : Try.prog.elem 76 = 3 := by kernel_rfl
 have hsz : (sizeOf 3).run Try.prog W = .ok 1 W := by
  cases hq : Try.prog.info? 3 with
  | none => have := info3; rw [hq] at this; cases this
  | some j =>
   have := info3; rw [hq] at this; simp only [Option.map_some, Option.some.injEq, Prod.mk.injEq] at this; simp [sizeOf, typeInfo, hq, this.2.1]
 have h := run_sliceAt_array_h (P := Try.prog) W 76 ⟨b, 0, none⟩ (by rw [hl, he]; exact Try.underlying76) .i64 (n : Int) (by omega) (by rw [hl]; omega); rw [h, hl, he, hsz]; simp [Result.andThen, slicedAt, Z9]
theorem VV (f : Nat) : zeros6.getD f 0 = 0 := by
 unfold zeros6; rw [List.getD_eq_getElem?_getD, List.getElem?_replicate]; split <;> rfl
theorem frg_le : ∀ (d f : Nat) (P : List Int), f ≤ frg d f P
 | 0, f, P => Nat.le_refl _
 | d + 1, f, P => by
  rw [frg]; split
  ·exact Nat.le_trans (Nat.le_succ f) (frg_le d (f + 1) P)
  ·exact Nat.le_refl _
set_option maxHeartbeats 8000000 in
set_option maxRecDepth 100000 in
theorem sol_calls (A0 : Option Addr) (c0 : Nat) (l0 : List S76) (count : Nat) (R : List S76) (P : List Int) (r1 : List Int) (r2 : Bool) (w : World) (hr0 : Kd.C k76 w A0 l0.length l0) (hc0 : l0.length ≤ c0) (hcount : count ≤ 6) (hred : ZJ.f l0 = some (R, P)) (h : sol (R.map L6) P count = some (r1, r2)) :
  Calls Try.prog 82 #[.slice A0 l0.length c0, .int .i64 (count : Int)] w fun e w' => ∃ v0_ : Value, e = .returned (.tuple #[v0_, .bool r2]) ∧ Kd.R (Kd.int .i64) 3 w' w.heap.size (fun _ => True) v0_ r1 ∧ Below w.heap.size w w' := by
 have kt := Try.underlying76; have mG := Try.underlying65; have p8 := Try.underlying28; have hu3 := Try.underlying3; have ku := size76; have tT := (zero_of_info info76z).1; have HPL := aa.mk (show P.length ≤ 1000 from by
  unfold ZJ.f at hred; split at hred
  case isFalse => cases hred
  obtain ⟨⟨Mf, Pf⟩, hx, e⟩ := Option.map_eq_some_iff.1 hred; obtain ⟨_, rfl⟩ := Prod.mk.inj e; exact red_places hx)
 have HX := aa.mk (fun W (hb : Below w.heap.size w W) => ZJ.calls A0 c0 l0 R P W (Kd.Qh hr0 hb) hc0 hred); clear hr0 hc0 hred; have HB := aa.mk (Below.refl w.heap.size w); have HS := aa.mk h; have HCT := aa.mk hcount; clear h; by_cases hne : (count : Int) - (P.length : Int) = 1
 case neg =>
  have hs := HS.out; unfold sol at hs; rw [if_pos hne] at hs; obtain ⟨rfl, rfl⟩ := Prod.mk.inj (Option.some.inj hs); have c1 : ((count : Int) - (P.length : Int) != 1) = true := bne_iff_ne.mpr hne; have hpl := HPL.out; have hwr : wrap64 ((count : Int) - (P.length : Int)) = (count : Int) - (P.length : Int) := wrp (by omega) (by omega); clear hs hne; go_enter Try.func82, Try.ntmps82; go_wp2_with (first
   | ((with_reducible refine Qf (f := 111) rfl ?_); refine QE (some 19) rfl rfl Try.func111 (by kernel_rfl) rfl #[.slice A0 l0.length c0] rfl (by (try simp only [List.map_toArray, List.map_cons, List.map_nil]); first | done | rfl) ?_; (with_reducible refine (HX.out _ HB.out).mono ?_); rintro e w9 ⟨v0, v1, rfl, ho0, ho1, hb⟩; refine ⟨_, rfl, ?_⟩; obtain ⟨Ap, cp, ep⟩ := Kd.Q9 ho1; subst ep; have HB2 := aa.mk (Qc HB.out hb); clear HB ho0 ho1 hb))
  go_ret2; exact ⟨_, rfl, Kd.Yp _ _ _ _ _, HB2.out⟩
 have hs := HS.out; unfold sol at hs; rw [if_neg (fun hh => hh hne)] at hs; split at hs
 case isFalse => cases hs
 rename_i hfree
 obtain ⟨free, hfr⟩ : ∃ f, f = frg 7 0 P := ⟨_, rfl⟩; rw [← hfr] at hs hfree; obtain ⟨all, hall, hs2⟩ := Option.bind_eq_some_iff.1 hs; obtain ⟨o, hout, hs3⟩ := Option.bind_eq_some_iff.1 hs2; obtain ⟨s, hfin, hs4⟩ := Option.map_eq_some_iff.1 hs3; obtain ⟨rfl, rfl⟩ := Prod.mk.inj hs4; obtain ⟨f1, f2, f3⟩ := hfree; have HNP := aa.mk f1; have HFR := aa.mk hfr; have HALL := aa.mk hall; have HOUT := aa.mk hout; have HFIN := aa.mk hfin; have HRL := aa.mk (show R.length = P.length by rw [← f3, List.length_map]); have c1 : ((count : Int) - (P.length : Int) != 1) = false := bne_eq_false_iff_eq.mpr hne; have hpl := HPL.out; have hwr : wrap64 ((count : Int) - (P.length : Int)) = (count : Int) - (P.length : Int) := wrp (by omega) (by omega); clear hs hs2 hs3 hs4 HS hall hout hfin f1 f3 hne hfr; go_enter Try.func82, Try.ntmps82; go_wp2_with (first
  | ((with_reducible refine Qf (f := 111) rfl ?_); refine QE (some 19) rfl rfl Try.func111 (by kernel_rfl) rfl #[.slice A0 l0.length c0] rfl (by (try simp only [List.map_toArray, List.map_cons, List.map_nil]); first | done | rfl) ?_; (with_reducible refine (HX.out _ HB.out).mono ?_); rintro e w9 ⟨v0, v1, rfl, ho0, ho1, hb⟩; refine ⟨_, rfl, ?_⟩; obtain ⟨Ar, cr, er⟩ := Kd.Q9 ho0; subst er; obtain ⟨Ap, cp, ep⟩ := Kd.Q9 ho1; subst ep; have HRR := aa.mk (Rd.of_C (Kd.QH ho0).2.2 (R_addr ho0)); have HCP := aa.mk (Kd.QH ho1).2.2; have HCPc := aa.mk (Kd.QH ho1).2.1; have HCRc := aa.mk (Kd.QH ho0).2.1; have HB2 := aa.mk (Qc HB.out hb); clear HB ho0 ho1 hb))
 have HB9 := aa.mk (Below.refl w9.heap.size w9); have HW9 := aa.mk (show w.heap.size ≤ w9.heap.size from HB2.out.size); go_loopw [8] (fun f_ w' => ∃ f : Nat, f ≤ free ∧ f_ = .int .i64 f ∧ aa (frg (7 - f) f P = free) ∧ aa (Below w9.heap.size w9 w')) (fun f_ _ => 7 - (intOf f_).toNat)
 case atStart => exact ⟨0, Nat.zero_le _, rfl, ⟨HFR.out.symm⟩, HB9⟩
 case round =>
  clear HB9; obtain ⟨f, hf, rfl, HF, HB9⟩ := hrel; have HCC := aa.mk (Ug Ap cp P (f : Int) wr (Kd.Qh HCP.out HB9.out) HCPc.out HPL.out); obtain ⟨b, hb⟩ : ∃ b, b = decide ((f : Int) ∈ P) := ⟨_, rfl⟩; rw [← hb] at HCC; have HBB := aa.mk hb; clear hb; cases b with
  | true =>
   have hin : (f : Int) ∈ P := by have := HBB.out; simpa using this.symm
   have hff : frg (7 - (f + 1)) (f + 1) P = free := by
    have := HF.out; rw [show 7 - f = (7 - (f + 1)) + 1 by omega, frg, if_pos hin] at this; exact this
   have hle := frg_le (7 - (f + 1)) (f + 1) P; rw [hff] at hle; have HFF := aa.mk hff; clear hin hff; go_wp2_with (first
    | ((with_reducible refine Qf (f := 116) rfl ?_); refine QE (some 29) rfl rfl Try.func116 (by kernel_rfl) rfl #[.slice Ap P.length cp, .int .i64 (f : Int)] rfl (by (try simp only [List.map_toArray, List.map_cons, List.map_nil]); first | done | rfl) ?_; (with_reducible refine HCC.out.mono ?_); rintro e w10 ⟨rfl, hb⟩; refine ⟨_, rfl, ?_⟩; have n0_ := aa.mk (Qc HB9.out hb); clear HB9 hb; have HB9 := n0_; clear n0_))
   go_roundw
   case rel => exact ⟨f + 1, hle, by go_num, HFF, HB9⟩
   case measure => simp [intOf]; omega
  | false =>
   have hnin : (f : Int) ∉ P := by have := HBB.out; simpa using this.symm
   have hff : f = free := by
    have := HF.out; rw [show 7 - f = (6 - f) + 1 by omega, frg, if_neg hnin] at this; exact this
   subst hff; have HRZ := aa.mk (show alls (((R.map L6).zip P).drop 0) 1 = some all from HALL.out); clear hnin HF; go_wp2_with (first
    | ((with_reducible refine Qf (f := 116) rfl ?_); refine QE (some 29) rfl rfl Try.func116 (by kernel_rfl) rfl #[.slice Ap P.length cp, .int .i64 (f : Int)] rfl (by (try simp only [List.map_toArray, List.map_cons, List.map_nil]); first | done | rfl) ?_; (with_reducible refine HCC.out.mono ?_); rintro e w10 ⟨rfl, hb⟩; refine ⟨_, rfl, ?_⟩; have n0_ := aa.mk (Qc HB9.out hb); clear HB9 hb; have HB9 := n0_; clear n0_))
   go_loopw [9, 34] (fun a_ k_ w' => ∃ (k : Nat) (a : Int), k ≤ R.length ∧ k_ = .int .i64 k ∧ a_ = .int .i64 a ∧ aa (alls (((R.map L6).zip P).drop k) a = some all) ∧ aa (Below w9.heap.size w9 w')) (fun _ k_ _ => R.length - (intOf k_).toNat)
   case atStart => exact ⟨0, 1, Nat.zero_le _, rfl, rfl, HRZ, HB9⟩
   case round =>
    clear HRZ HB9 HCC HBB; obtain ⟨k, a, hk, rfl, rfl, HA, HB9⟩ := hrel; by_cases hkR : k < R.length
    ·have hkP : k < P.length := by rw [← HRL.out]; exact hkR
     have hkZ : k < ((R.map L6).zip P).length := by simp; omega
     have hze : ((R.map L6).zip P)[k] = (L6 R[k], P[k]) := by simp
     have ha := HA.out; rw [List.drop_eq_getElem_cons hkZ, hze, alls] at ha; split at ha
     case isFalse => cases ha
     rename_i hok
     obtain ⟨o1, o2, o3, o4, o5, o6⟩ : AllOk (L6 R[k]) P[k] a := hok; replace ha : alls (((R.map L6).zip P).drop (k + 1)) (a.tdiv (Int.gcd a ((L6 R[k]).getD P[k].toNat 0)) * (L6 R[k]).getD P[k].toNat 0) = some all := ha; obtain ⟨pn, hpn⟩ := Int.eq_ofNat_of_zero_le o1; obtain ⟨b, ob, hAr, hrg⟩ := HRR.out (by intro e; rw [List.map_eq_nil_iff] at e; rw [e] at hkR; simp at hkR); obtain ⟨hr6, hrange⟩ := hrg k (L6 R[k]) (by rw [List.getElem?_map, List.getElem?_eq_getElem hkR]; rfl); have HRG := aa.mk (YW hrange HB9.out); obtain ⟨adp, eadp, hxp⟩ := Kd.QZ HCP.out (k : Int) (by omega) (by omega); rw [V3 P k hkP, hpn] at hxp; simp only [Int.toNat_natCast] at hxp; replace hxp := (HB9.out.cell (World.block_lt_of_cell? w9 _ hxp)).trans hxp; subst hAr; subst eadp; simp only [hpn, Int.toNat_natCast] at o1 o2 o3 o4 o5 o6 ha; obtain ⟨r, hr⟩ : ∃ r, r = L6 R[k] := ⟨_, rfl⟩; have jw : r.length = 6 := by rw [hr]; rfl
     rw [← hr] at o4 o5 o6 ha hr6 HRG; have hcx : ∀ (W : World) (g : Nat), W.heap[g]? = some (.cells (arr r) 76 (0, 0)) → W.cell? ⟨g, pn, none⟩ = some (.int .i64 (r.getD pn 0)) := fun W g hh => Yj hh pn (by omega)
     have HCX := aa.mk hcx; generalize r.getD pn 0 = x at *; have hdv := (fun W => Y9 a x o3 o4 W); have hq : (a.tdiv (Int.gcd a x)).natAbs ≤ a.natAbs := by rw [Int.natAbs_tdiv]; exact Nat.div_le_self _ _
     have hgz : (Int.gcd a x : Int) ≠ 0 := by omega
     clear o5; generalize (Int.gcd a x : Int) = G at *; have HDV := aa.mk hdv; clear hdv; have HA2 := aa.mk ha; have HI := aa.mk (show (Try.prog.info? 76).map (·.size) = some (r.map (Value.int .i64)).length by rw [List.length_map, jw]; exact size76); have HI2 := aa.mk (show (Try.prog.info? 76).map (·.size) = some (arr r).size by rw [ZB, jw]; exact size76); have HR6 := aa.mk jw; have hg0 : (G == 0) = false := beq_eq_false_iff_ne.mpr hgz; have hg1 : ¬ G = 0 := hgz; unfold Lim at o3 o6; have w1 : IntKind.i64.wrap (a.tdiv G) = a.tdiv G := (QB _).trans (wrp (by omega) (by omega)); have w2 : IntKind.i64.wrap (a.tdiv G * x) = a.tdiv G * x := (QB _).trans (wrp (by omega) (by omega)); have tZ : (pn : Int) < 6 := o2; have hHG := aa.mk (show (wr.alloc (.cells (arr zeros6) 76)).heap[wr.heap.size]? = some (.cells (arr zeros6) 76 (0, 0)) from Yu wr _); have HXP := aa.mk hxp; clear hze ha o1 o2 o3 o4 o6 hrange hrg hr6 jw hq hr hcx hxp; go_wp2_with (first
      | (refine wpList_load_mid rfl 76 _ rfl b (ob + k * 6) rfl (r.map (Value.int .i64)) _ HRG.out Try.underlying76 rfl HI.out ?_)
      | (refine wpList_store_row rfl 76 _ _ rfl wr.heap.size (arr r) rfl rfl 76 (arr zeros6) hHG.out HI2.out (by rw [ZB, ZB, HR6.out]; rfl) (YD r) ?_))
     have hbw := Z8 ((Below.refl wr.heap.size wr).alloc (Nat.le_refl _) (.cells (arr zeros6) 76)) (Nat.le_refl _) (arr r); have HSP := aa.mk (show (((wr.alloc (.cells (arr zeros6) 76)).setRow wr.heap.size (arr r)).drew).cell? (adp.add k) = some (.int .i64 (pn : Int)) from (hbw.cell (World.block_lt_of_cell? wr _ HXP.out)).trans HXP.out); have HSX := aa.mk (show (((wr.alloc (.cells (arr zeros6) 76)).setRow wr.heap.size (arr r)).drew).cell? ⟨wr.heap.size, pn, none⟩ = some (.int .i64 x) from HCX.out _ _ (setRow_heap _ _ _ _ _ _ hHG.out)); replace HB9 := aa.mk (Yl (Qc HB9.out hbw)); clear HRG HXP hHG hbw; generalize (wr.alloc (.cells (arr zeros6) 76)).setRow wr.heap.size (arr r) = W2 at *; generalize wr.heap.size = b11 at *; refine Yg (n := 18) (S := fun w' => w'.cell? (adp.add k) = some (.int .i64 (pn : Int)) ∧ w'.cell? ⟨b11, pn, none⟩ = some (.int .i64 x)) (ds := []) #[false, false, false, false, false, false, false, false, false, false, false, false, false, false, false, false, false, false] (by kernel_rfl) rfl rfl ⟨HSP.out, HSX.out⟩ (fun hHeld => ?_); refine ZO solu.tab11 solu.bits11 (fun HT_ HW_ => ?_); refine QV (i := 0) (N := some 39) (v := ?_) (a' := ?_) #[true, false, false, false, false, false, false, false, false, false, false, false, false, false, false, false, false, false] rfl rfl (QL HT_.out (by kernel_rfl)) (fun _ _ _ h => h) (Or.inl ⟨by rfl, ?_⟩) ?_ ?_; rotate_left
     ·intro w'; go_simp; with_reducible rfl
     rotate_left
     ·simp only [Act.put, zA, zB, zC, QB, QD]; rfl
     refine QV (i := 1) (N := some 40) (v := ?_) (a' := ?_) #[true, true, false, false, false, false, false, false, false, false, false, false, false, false, false, false, false, false] rfl rfl (QL HT_.out (by kernel_rfl)) (fun _ _ _ h => h) (Or.inl ⟨by rfl, ?_⟩) ?_ ?_; rotate_left
     ·intro w'; go_simp; with_reducible rfl
     rotate_left
     ·simp only [Act.put, zA, zB, zC, QB, QD]; rfl
     refine QV (i := 2) (N := some 41) (v := ?_) (a' := ?_) #[true, true, true, false, false, false, false, false, false, false, false, false, false, false, false, false, false, false] rfl rfl (QL HT_.out (by kernel_rfl)) (fun _ _ _ h => h) (Or.inl ⟨by rfl, ?_⟩) ?_ ?_; rotate_left
     ·intro w'; go_simp; with_reducible rfl
     rotate_left
     ·simp only [Act.put, zA, zB, zC, QB, QD]; rfl
     refine QV (i := 3) (N := some 42) (v := ?_) (a' := ?_) #[true, true, true, true, false, false, false, false, false, false, false, false, false, false, false, false, false, false] rfl rfl (QL HT_.out (by kernel_rfl)) (fun _ _ _ h => h) (Or.inl ⟨by rfl, ?_⟩) ?_ ?_; rotate_left
     ·intro w'; go_simp; with_reducible rfl
     rotate_left
     ·simp only [Act.put, zA, zB, zC, QB, QD]; rfl
     refine QV (i := 4) (N := some 43) (v := ?_) (a' := ?_) #[true, true, true, true, true, false, false, false, false, false, false, false, false, false, false, false, false, false] rfl rfl (QL HT_.out (by kernel_rfl)) (fun _ _ _ h => h) (Or.inl ⟨by rfl, ?_⟩) ?_ ?_; rotate_left
     ·intro w'; go_simp; with_reducible rfl
     rotate_left
     ·simp only [Act.put, zA, zB, zC, QB, QD]; rfl
     refine QV (i := 10) (N := some 49) (v := ?_) (a' := ?_) #[true, true, true, true, true, false, false, false, false, false, true, false, false, false, false, false, false, false] rfl rfl (QL HT_.out (by kernel_rfl)) (fun _ _ _ h => h) (Or.inl ⟨by rfl, ?_⟩) ?_ ?_; rotate_left
     ·intro w'; go_simp; with_reducible rfl
     rotate_left
     ·simp only [Act.put, zA, zB, zC, QB, QD]; rfl
     refine QV (i := 11) (N := some 50) (v := ?_) (a' := ?_) #[true, true, true, true, true, false, false, false, false, false, true, true, false, false, false, false, false, false] rfl rfl (QL HT_.out (by kernel_rfl)) (fun _ _ _ h => h) (Or.inl ⟨by rfl, ?_⟩) ?_ ?_; rotate_left
     ·intro w'; go_simp; with_reducible rfl
     rotate_left
     ·simp only [Act.put, zA, zB, zC, QB, QD]; rfl
     refine QV (i := 12) (N := some 51) (v := ?_) (a' := ?_) #[true, true, true, true, true, false, false, false, false, false, true, true, true, false, false, false, false, false] rfl rfl (QL HT_.out (by kernel_rfl)) (fun _ _ _ h => h) (Or.inl ⟨by rfl, ?_⟩) ?_ ?_; rotate_left
     ·intro w'; go_simp; with_reducible rfl
     rotate_left
     ·simp only [Act.put, zA, zB, zC, QB, QD]; rfl
     refine ZG (i := 5) (N := some 44) (v := ?_) (a' := ?_) #[true, true, true, true, true, true, false, false, false, false, true, true, true, false, false, false, false, false] rfl rfl (Zc HT_.out HW_.out (by kernel_rfl)) (fun _ _ _ h => h) (Or.inl ⟨by rfl, ?_⟩) hHeld ?_ ?_; rotate_left
     ·rintro w' ⟨s0, s1⟩; go_simp; with_reducible rfl
     rotate_left
     ·simp only [Act.put, zA, zB, zC, QB, QD]; rfl
     refine QV (i := 6) (N := some 45) (v := ?_) (a' := ?_) #[true, true, true, true, true, true, true, false, false, false, true, true, true, false, false, false, false, false] rfl rfl (QL HT_.out (by kernel_rfl)) (fun _ _ _ h => h) (Or.inl ⟨by rfl, ?_⟩) ?_ ?_; rotate_left
     ·intro w'; go_simp; with_reducible rfl
     rotate_left
     ·simp only [Act.put, zA, zB, zC, QB, QD]; rfl
     refine ZG (i := 7) (N := some 46) (v := ?_) (a' := ?_) #[true, true, true, true, true, true, true, true, false, false, true, true, true, false, false, false, false, false] rfl rfl (Zc HT_.out HW_.out (by kernel_rfl)) (fun _ _ _ h => h) (Or.inl ⟨by rfl, ?_⟩) hHeld ?_ ?_; rotate_left
     ·rintro w' ⟨s0, s1⟩; go_simp; with_reducible rfl
     rotate_left
     ·simp only [Act.put, zA, zB, zC, QB, QD]; rfl
     refine ZG (i := 13) (N := some 52) (v := ?_) (a' := ?_) #[true, true, true, true, true, true, true, true, false, false, true, true, true, true, false, false, false, false] rfl rfl (Zc HT_.out HW_.out (by kernel_rfl)) (fun _ _ _ h => h) (Or.inl ⟨by rfl, ?_⟩) hHeld ?_ ?_; rotate_left
     ·rintro w' ⟨s0, s1⟩; go_simp; with_reducible rfl
     rotate_left
     ·simp only [Act.put, zA, zB, zC, QB, QD]; rfl
     refine QV (i := 14) (N := some 53) (v := ?_) (a' := ?_) #[true, true, true, true, true, true, true, true, false, false, true, true, true, true, true, false, false, false] rfl rfl (QL HT_.out (by kernel_rfl)) (fun _ _ _ h => h) (Or.inl ⟨by rfl, ?_⟩) ?_ ?_; rotate_left
     ·intro w'; go_simp; with_reducible rfl
     rotate_left
     ·simp only [Act.put, zA, zB, zC, QB, QD]; rfl
     refine ZG (i := 15) (N := some 54) (v := ?_) (a' := ?_) #[true, true, true, true, true, true, true, true, false, false, true, true, true, true, true, true, false, false] rfl rfl (Zc HT_.out HW_.out (by kernel_rfl)) (fun _ _ _ h => h) (Or.inl ⟨by rfl, ?_⟩) hHeld ?_ ?_; rotate_left
     ·rintro w' ⟨s0, s1⟩; go_simp; with_reducible rfl
     rotate_left
     ·simp only [Act.put, zA, zB, zC, QB, QD]; rfl
     refine one_ (i := 8) (N := some 47) #[true, true, true, true, true, true, true, true, true, false, true, true, true, true, true, true, false, false] rfl rfl (ZR HT_.out (by kernel_rfl)) (by decide) (fun K hK => ?_); refine Y8 Try.func117 (by kernel_rfl) rfl #[.int .i64 a, .int .i64 x] (by rfl) rfl rfl (by (try simp only [List.map_toArray, List.map_cons, List.map_nil]); first | done | rfl) ?_; with_reducible refine (HDV.out _).mono ?_
     rintro e w13 ⟨rfl, hb⟩; refine ⟨_, rfl, ?_⟩; replace HSP := aa.mk ((hb.cell (World.block_lt_of_cell? _ _ HSP.out)).trans HSP.out); replace HSX := aa.mk ((hb.cell (World.block_lt_of_cell? _ _ HSX.out)).trans HSX.out); replace HB9 := aa.mk (Qc HB9.out hb); clear hb; refine hK.out _ _ ⟨HSP.out, HSX.out⟩ (fun hHeld => ?_); clear hK K; refine Z7 (a' := ?_) ?_ ?_; rotate_left
     ·show Act.put _ (some 47) _ = _
      simp only [Act.put, zA, zB, zC, QB, QD]; rfl
     refine QV (i := 9) (N := some 48) (v := ?_) (a' := ?_) #[true, true, true, true, true, true, true, true, true, true, true, true, true, true, true, true, false, false] rfl rfl (QL HT_.out (by kernel_rfl)) (fun _ _ _ h => h) (Or.inl ⟨by rfl, ?_⟩) ?_ ?_; rotate_left
     ·intro w'; go_simp; with_reducible rfl
     rotate_left
     ·simp only [Act.put, zA, zB, zC, QB, QD]; rfl
     refine QV (i := 16) (N := some 55) (v := ?_) (a' := ?_) #[true, true, true, true, true, true, true, true, true, true, true, true, true, true, true, true, true, false] rfl rfl (QL HT_.out (by kernel_rfl)) (fun _ _ _ h => h) (Or.inl ⟨by rfl, ?_⟩) ?_ ?_; rotate_left
     ·intro w'; go_simp; with_reducible rfl
     rotate_left
     ·simp only [Act.put, zA, zB, zC, QB, QD]; rfl
     refine QV (i := 17) (N := some 9) (v := ?_) (a' := ?_) #[true, true, true, true, true, true, true, true, true, true, true, true, true, true, true, true, true, true] rfl rfl (QL HT_.out (by kernel_rfl)) (fun _ _ _ h => h) (Or.inl ⟨by rfl, ?_⟩) ?_ ?_; rotate_left
     ·intro w'; go_simp; with_reducible rfl
     rotate_left
     ·simp only [Act.put, zA, zB, zC, QB, QD]; rfl
     refine YC (Z5 HT_.out (by kernel_rfl)) ?_; go_wp2_with fail
     go_roundw
     case rel => exact ⟨k + 1, a.tdiv G * x, by omega, by go_num, rfl, HA2, HB9⟩
     case measure => simp [intOf]; omega
    ·obtain rfl : k = R.length := by omega
     have ha : a = all := by
      have := HA.out; rw [List.drop_eq_nil_of_le (by simp; omega), alls] at this; exact Option.some.inj this
     subst ha; have wE : (f : Int) < 6 := by omega
     have hz0 : (arr zeros6)[f]? = some (.int .i64 0) := by
      rw [VT _ _ (by show f < 6; omega), VV]
     have HOZ := aa.mk (show outs f a (((R.map L6).zip P).drop 0) (zeros6.set f a) = some o from HOUT.out); have HOL := aa.mk (show (zeros6.set f a).length = 6 by simp [zeros6]); have dX := aa.mk (show (wr.alloc (.cells ((arr zeros6).setIfInBounds f (.int .i64 a)) 76)).heap[wr.heap.size]? = some (.cells (arr (zeros6.set f a)) 76 (0, 0)) from by rw [U5]; exact Yu wr _); have si := aa.mk (show Below w9.heap.size w9 (wr.alloc (.cells ((arr zeros6).setIfInBounds f (.int .i64 a)) 76)) from HB9.out.alloc HB9.out.size _); have o7 := aa.mk (show w9.heap.size ≤ wr.heap.size from HB9.out.size); go_wp2_with fail
     clear hz0 HB9 HA HALL HOUT; generalize wr.alloc (.cells ((arr zeros6).setIfInBounds f (.int .i64 a)) 76) = W3 at *; generalize wr.heap.size = b12 at *; generalize zeros6.set f a = q at *; go_loopw [62] (fun k_ w' => ∃ (k : Nat) (q : List Int), k ≤ R.length ∧ k_ = .int .i64 k ∧ aa (outs f a (((R.map L6).zip P).drop k) q = some o) ∧ aa (q.length = 6) ∧ aa (w'.heap[b12]? = some (.cells (arr q) 76 (0, 0))) ∧ aa (Below w9.heap.size w9 w')) (fun k_ _ => R.length - (intOf k_).toNat)
     case atStart => exact ⟨0, q, Nat.zero_le _, rfl, HOZ, HOL, dX, si⟩
     case round =>
      clear HOZ HOL dX si q; obtain ⟨k, q, hk, rfl, HA, HQL, dX, HB9⟩ := hrel; by_cases hkR : k < R.length
      ·have hkP : k < P.length := by rw [← HRL.out]; exact hkR
       have hkZ : k < ((R.map L6).zip P).length := by simp; omega
       have hze : ((R.map L6).zip P)[k] = (L6 R[k], P[k]) := by simp
       have ha := HA.out; rw [List.drop_eq_getElem_cons hkZ, hze, outs] at ha; split at ha
       case isFalse => cases ha
       rename_i hok
       obtain ⟨o1, o2, o3, o4, o5, o6⟩ : OutOk f a (L6 R[k]) P[k] := hok; replace ha : outs f a (((R.map L6).zip P).drop (k + 1)) (q.set P[k].toNat (-((L6 R[k]).getD f 0) * a.tdiv ((L6 R[k]).getD P[k].toNat 0))) = some o := ha; obtain ⟨pn, hpn⟩ := Int.eq_ofNat_of_zero_le o1; obtain ⟨b, ob, hAr, hrg⟩ := HRR.out (by intro e; rw [List.map_eq_nil_iff] at e; rw [e] at hkR; simp at hkR); obtain ⟨hr6, hrange⟩ := hrg k (L6 R[k]) (by rw [List.getElem?_map, List.getElem?_eq_getElem hkR]; rfl); have HRG := aa.mk (YW hrange HB9.out); obtain ⟨adp, eadp, hxp⟩ := Kd.QZ HCP.out (k : Int) (by omega) (by omega); rw [V3 P k hkP, hpn] at hxp; simp only [Int.toNat_natCast] at hxp; replace hxp := (HB9.out.cell (World.block_lt_of_cell? w9 _ hxp)).trans hxp; subst hAr; subst eadp; simp only [hpn, Int.toNat_natCast] at o1 o2 o3 o4 o5 o6 ha; obtain ⟨r, hr⟩ : ∃ r, r = L6 R[k] := ⟨_, rfl⟩; have jw : r.length = 6 := by rw [hr]; rfl
       rw [← hr] at o4 o5 o6 ha hr6 HRG; have hcx : ∀ (W : World) (g : Nat), W.heap[g]? = some (.cells (arr r) 76 (0, 0)) → W.cell? ⟨g, pn, none⟩ = some (.int .i64 (r.getD pn 0)) := fun W g hh => Yj hh pn (by omega)
       have hcy : ∀ (W : World) (g : Nat), W.heap[g]? = some (.cells (arr r) 76 (0, 0)) → W.cell? ⟨g, f, none⟩ = some (.int .i64 (r.getD f 0)) := fun W g hh => Yj hh f (by omega)
       have HCX := aa.mk hcx; have HCY := aa.mk hcy; obtain ⟨x, hx⟩ : ∃ x, x = r.getD pn 0 := ⟨_, rfl⟩; obtain ⟨y, hy⟩ : ∃ y, y = r.getD f 0 := ⟨_, rfl⟩; rw [← hx] at o5 o6 ha HCX; rw [← hy] at o4 o6 ha HCY; have HA2 := aa.mk ha; have HI := aa.mk (show (Try.prog.info? 76).map (·.size) = some (r.map (Value.int .i64)).length by rw [List.length_map, jw]; exact size76); have HI2 := aa.mk (show (Try.prog.info? 76).map (·.size) = some (arr r).size by rw [ZB, jw]; exact size76); have HR6 := aa.mk jw; have hg0 : (x == 0) = false := beq_eq_false_iff_ne.mpr o5; have hg1 : ¬ x = 0 := o5; have hq : (a.tdiv x).natAbs ≤ a.natAbs := by rw [Int.natAbs_tdiv]; exact Nat.div_le_self _ _
       unfold Lim at o3 o4 o6; have w1 : IntKind.i64.wrap (a.tdiv x) = a.tdiv x := (QB _).trans (wrp (by omega) (by omega)); have w2 : IntKind.i64.wrap (-y * a.tdiv x) = -y * a.tdiv x := (QB _).trans (wrp (by omega) (by omega)); have w3 : IntKind.i64.wrap (-y) = -y := (QB _).trans (wrp (by omega) (by omega)); have tZ : (pn : Int) < 6 := o2; have hHG := aa.mk (show (wr.alloc (.cells (arr zeros6) 76)).heap[wr.heap.size]? = some (.cells (arr zeros6) 76 (0, 0)) from Yu wr _); have HXP := aa.mk hxp; clear hze ha o1 o2 o3 o4 o5 o6 hrange hrg hr6 jw hq hr hcx hcy hxp hx hy; go_wp2_with (first
        | (refine wpList_load_mid rfl 76 _ rfl b (ob + k * 6) rfl (r.map (Value.int .i64)) _ HRG.out Try.underlying76 rfl HI.out ?_)
        | (refine wpList_store_row rfl 76 _ _ rfl wr.heap.size (arr r) rfl rfl 76 (arr zeros6) hHG.out HI2.out (by rw [ZB, ZB, HR6.out]; rfl) (YD r) ?_))
       have hbw := Z8 ((Below.refl wr.heap.size wr).alloc (Nat.le_refl _) (.cells (arr zeros6) 76)) (Nat.le_refl _) (arr r); have HSP := aa.mk (show (((wr.alloc (.cells (arr zeros6) 76)).setRow wr.heap.size (arr r)).drew).cell? (adp.add k) = some (.int .i64 (pn : Int)) from (hbw.cell (World.block_lt_of_cell? wr _ HXP.out)).trans HXP.out); have HSX := aa.mk (show (((wr.alloc (.cells (arr zeros6) 76)).setRow wr.heap.size (arr r)).drew).cell? ⟨wr.heap.size, pn, none⟩ = some (.int .i64 x) from HCX.out _ _ (setRow_heap _ _ _ _ _ _ hHG.out)); have HSY := aa.mk (show (((wr.alloc (.cells (arr zeros6) 76)).setRow wr.heap.size (arr r)).drew).cell? ⟨wr.heap.size, f, none⟩ = some (.int .i64 y) from HCY.out _ _ (setRow_heap _ _ _ _ _ _ hHG.out)); have ng := aa.mk (show (((wr.alloc (.cells (arr zeros6) 76)).setRow wr.heap.size (arr r)).drew).heap[b12]? = some (.cells (arr q) 76 (0, 0)) from (hbw.block _ (Vh dX.out)).trans dX.out); have n3_ := aa.mk (Yl (Qc HB9.out hbw)); have hql := HQL.out; have uv := Yj ng.out pn (by omega); have wH := Vi ng.out pn; clear HB9 hbw hHG HXP HRG dX; have HB9 := n3_; have HST := aa.mk (Vx ng.out pn (-y * a.tdiv x)); clear n3_; generalize (wr.alloc (.cells (arr zeros6) 76)).setRow wr.heap.size (arr r) = W2 at *; generalize wr.heap.size = b14 at *; generalize q.getD pn 0 = old at uv; refine Yg (n := 19) (S := fun w' => w'.cell? (adp.add k) = some (.int .i64 (pn : Int)) ∧ w'.cell? ⟨b14, f, none⟩ = some (.int .i64 y) ∧ w'.cell? ⟨b14, pn, none⟩ = some (.int .i64 x)) (ds := [18]) #[false, false, false, false, false, false, false, false, false, false, false, false, false, false, false, false, false, false, false] (by kernel_rfl) rfl rfl ⟨HSP.out, HSY.out, HSX.out⟩ (fun hHeld => ?_); refine ZO solu.tab18 solu.bits18 (fun HT_ HW_ => ?_); refine QV (i := 0) (N := some 67) (v := ?_) (a' := ?_) #[true, false, false, false, false, false, false, false, false, false, false, false, false, false, false, false, false, false, false] rfl rfl (QL HT_.out (by kernel_rfl)) (fun _ _ _ h => h) (Or.inl ⟨by rfl, ?_⟩) ?_ ?_; rotate_left
       ·intro w'; go_simp; with_reducible rfl
       rotate_left
       ·simp only [Act.put, zA, zB, zC, QB, QD]; rfl
       refine QV (i := 1) (N := some 68) (v := ?_) (a' := ?_) #[true, true, false, false, false, false, false, false, false, false, false, false, false, false, false, false, false, false, false] rfl rfl (QL HT_.out (by kernel_rfl)) (fun _ _ _ h => h) (Or.inl ⟨by rfl, ?_⟩) ?_ ?_; rotate_left
       ·intro w'; go_simp; with_reducible rfl
       rotate_left
       ·simp only [Act.put, zA, zB, zC, QB, QD]; rfl
       refine QV (i := 2) (N := some 69) (v := ?_) (a' := ?_) #[true, true, true, false, false, false, false, false, false, false, false, false, false, false, false, false, false, false, false] rfl rfl (QL HT_.out (by kernel_rfl)) (fun _ _ _ h => h) (Or.inl ⟨by rfl, ?_⟩) ?_ ?_; rotate_left
       ·intro w'; go_simp; with_reducible rfl
       rotate_left
       ·simp only [Act.put, zA, zB, zC, QB, QD]; rfl
       refine QV (i := 4) (N := some 71) (v := ?_) (a' := ?_) #[true, true, true, false, true, false, false, false, false, false, false, false, false, false, false, false, false, false, false] rfl rfl (QL HT_.out (by kernel_rfl)) (fun _ _ _ h => h) (Or.inl ⟨by rfl, ?_⟩) ?_ ?_; rotate_left
       ·intro w'; go_simp; with_reducible rfl
       rotate_left
       ·simp only [Act.put, zA, zB, zC, QB, QD]; rfl
       refine QV (i := 5) (N := some 72) (v := ?_) (a' := ?_) #[true, true, true, false, true, true, false, false, false, false, false, false, false, false, false, false, false, false, false] rfl rfl (QL HT_.out (by kernel_rfl)) (fun _ _ _ h => h) (Or.inl ⟨by rfl, ?_⟩) ?_ ?_; rotate_left
       ·intro w'; go_simp; with_reducible rfl
       rotate_left
       ·simp only [Act.put, zA, zB, zC, QB, QD]; rfl
       refine QV (i := 8) (N := some 75) (v := ?_) (a' := ?_) #[true, true, true, false, true, true, false, false, true, false, false, false, false, false, false, false, false, false, false] rfl rfl (QL HT_.out (by kernel_rfl)) (fun _ _ _ h => h) (Or.inl ⟨by rfl, ?_⟩) ?_ ?_; rotate_left
       ·intro w'; go_simp; with_reducible rfl
       rotate_left
       ·simp only [Act.put, zA, zB, zC, QB, QD]; rfl
       refine QV (i := 9) (N := some 76) (v := ?_) (a' := ?_) #[true, true, true, false, true, true, false, false, true, true, false, false, false, false, false, false, false, false, false] rfl rfl (QL HT_.out (by kernel_rfl)) (fun _ _ _ h => h) (Or.inl ⟨by rfl, ?_⟩) ?_ ?_; rotate_left
       ·intro w'; go_simp; with_reducible rfl
       rotate_left
       ·simp only [Act.put, zA, zB, zC, QB, QD]; rfl
       refine QV (i := 10) (N := some 77) (v := ?_) (a' := ?_) #[true, true, true, false, true, true, false, false, true, true, true, false, false, false, false, false, false, false, false] rfl rfl (QL HT_.out (by kernel_rfl)) (fun _ _ _ h => h) (Or.inl ⟨by rfl, ?_⟩) ?_ ?_; rotate_left
       ·intro w'; go_simp; with_reducible rfl
       rotate_left
       ·simp only [Act.put, zA, zB, zC, QB, QD]; rfl
       refine QV (i := 11) (N := some 78) (v := ?_) (a' := ?_) #[true, true, true, false, true, true, false, false, true, true, true, true, false, false, false, false, false, false, false] rfl rfl (QL HT_.out (by kernel_rfl)) (fun _ _ _ h => h) (Or.inl ⟨by rfl, ?_⟩) ?_ ?_; rotate_left
       ·intro w'; go_simp; with_reducible rfl
       rotate_left
       ·simp only [Act.put, zA, zB, zC, QB, QD]; rfl
       refine ZG (i := 3) (N := some 70) (v := ?_) (a' := ?_) #[true, true, true, true, true, true, false, false, true, true, true, true, false, false, false, false, false, false, false] rfl rfl (Zc HT_.out HW_.out (by kernel_rfl)) (fun _ _ _ h => h) (Or.inl ⟨by rfl, ?_⟩) hHeld ?_ ?_; rotate_left
       ·rintro w' ⟨s0, s1, s2⟩; go_simp; with_reducible rfl
       rotate_left
       ·simp only [Act.put, zA, zB, zC, QB, QD]; rfl
       refine ZG (i := 6) (N := some 73) (v := ?_) (a' := ?_) #[true, true, true, true, true, true, true, false, true, true, true, true, false, false, false, false, false, false, false] rfl rfl (Zc HT_.out HW_.out (by kernel_rfl)) (fun _ _ _ h => h) (Or.inl ⟨by rfl, ?_⟩) hHeld ?_ ?_; rotate_left
       ·rintro w' ⟨s0, s1, s2⟩; go_simp; with_reducible rfl
       rotate_left
       ·simp only [Act.put, zA, zB, zC, QB, QD]; rfl
       refine QV (i := 7) (N := some 74) (v := ?_) (a' := ?_) #[true, true, true, true, true, true, true, true, true, true, true, true, false, false, false, false, false, false, false] rfl rfl (QL HT_.out (by kernel_rfl)) (fun _ _ _ h => h) (Or.inl ⟨by rfl, ?_⟩) ?_ ?_; rotate_left
       ·intro w'; go_simp; with_reducible rfl
       rotate_left
       ·simp only [Act.put, zA, zB, zC, QB, QD]; rfl
       refine ZG (i := 12) (N := some 79) (v := ?_) (a' := ?_) #[true, true, true, true, true, true, true, true, true, true, true, true, true, false, false, false, false, false, false] rfl rfl (Zc HT_.out HW_.out (by kernel_rfl)) (fun _ _ _ h => h) (Or.inl ⟨by rfl, ?_⟩) hHeld ?_ ?_; rotate_left
       ·rintro w' ⟨s0, s1, s2⟩; go_simp; with_reducible rfl
       rotate_left
       ·simp only [Act.put, zA, zB, zC, QB, QD]; rfl
       refine QV (i := 13) (N := some 80) (v := ?_) (a' := ?_) #[true, true, true, true, true, true, true, true, true, true, true, true, true, true, false, false, false, false, false] rfl rfl (QL HT_.out (by kernel_rfl)) (fun _ _ _ h => h) (Or.inl ⟨by rfl, ?_⟩) ?_ ?_; rotate_left
       ·intro w'; go_simp; with_reducible rfl
       rotate_left
       ·simp only [Act.put, zA, zB, zC, QB, QD]; rfl
       refine ZG (i := 14) (N := some 81) (v := ?_) (a' := ?_) #[true, true, true, true, true, true, true, true, true, true, true, true, true, true, true, false, false, false, false] rfl rfl (Zc HT_.out HW_.out (by kernel_rfl)) (fun _ _ _ h => h) (Or.inl ⟨by rfl, ?_⟩) hHeld ?_ ?_; rotate_left
       ·rintro w' ⟨s0, s1, s2⟩; go_simp; with_reducible rfl
       rotate_left
       ·simp only [Act.put, zA, zB, zC, QB, QD]; rfl
       refine QV (i := 15) (N := some 82) (v := ?_) (a' := ?_) #[true, true, true, true, true, true, true, true, true, true, true, true, true, true, true, true, false, false, false] rfl rfl (QL HT_.out (by kernel_rfl)) (fun _ _ _ h => h) (Or.inl ⟨by rfl, ?_⟩) ?_ ?_; rotate_left
       ·intro w'; go_simp; with_reducible rfl
       rotate_left
       ·simp only [Act.put, zA, zB, zC, QB, QD]; rfl
       refine QV (i := 16) (N := some 83) (v := ?_) (a' := ?_) #[true, true, true, true, true, true, true, true, true, true, true, true, true, true, true, true, true, false, false] rfl rfl (QL HT_.out (by kernel_rfl)) (fun _ _ _ h => h) (Or.inl ⟨by rfl, ?_⟩) ?_ ?_; rotate_left
       ·intro w'; go_simp; with_reducible rfl
       rotate_left
       ·simp only [Act.put, zA, zB, zC, QB, QD]; rfl
       refine QV (i := 17) (N := some 84) (v := ?_) (a' := ?_) #[true, true, true, true, true, true, true, true, true, true, true, true, true, true, true, true, true, true, false] rfl rfl (QL HT_.out (by kernel_rfl)) (fun _ _ _ h => h) (Or.inl ⟨by rfl, ?_⟩) ?_ ?_; rotate_left
       ·intro w'; go_simp; with_reducible rfl
       rotate_left
       ·simp only [Act.put, zA, zB, zC, QB, QD]; rfl
       refine last_ (i := 18) (N := none) #[true, true, true, true, true, true, true, true, true, true, true, true, true, true, true, true, true, true, true] rfl rfl (ZR HT_.out (by kernel_rfl)) (by decide) (fun K hK => ?_); refine skip_ (w1 := ?_) (by rfl) rfl ?_ ?_; rotate_left
       ·go_simp; rfl
       refine hK.out _ _ ?_; clear hK K; refine YC (Z5 HT_.out (by kernel_rfl)) ?_; go_wp2_with fail
       go_roundw
       case rel => exact ⟨k + 1, q.set pn (-y * a.tdiv x), by omega, by go_num, HA2, ⟨by rw [List.length_set]; exact HQL.out⟩, ⟨HST.out⟩, ⟨HB9.out.setCell o7.out _⟩⟩
       case measure => simp [intOf]; omega
      ·obtain rfl : k = R.length := by omega
       have hq : q = o := by
        have := HA.out; rw [List.drop_eq_nil_of_le (by simp; omega), outs] at this; exact Option.some.inj this
       subst hq; have hfin := HFIN.out; unfold fin at hfin; split at hfin
       case isFalse => cases hfin
       rename_i hfc
       obtain ⟨hlim, hnz⟩ := hfc; have hql := HQL.out; have hzl : (pln q).length = 6 := by rw [Yx, hql]
       have hzlim : ∀ x ∈ pln q, Lim x := pln_lim hlim; have hnl := nzi_lt ((pln q).take count); obtain ⟨fn, hfn⟩ := Int.eq_ofNat_of_zero_le hnz; rw [hfn] at hnl; have wG : fn < 6 := by rw [List.length_take] at hnl; omega
       rw [hfn] at hfin; simp only [Int.toNat_natCast] at hfin; have HFS := aa.mk (Option.some.inj hfin); have HPC := aa.mk (fun W => VG q W hql hlim); have HI2 := aa.mk (show (Try.prog.info? 76).map (·.size) = some (arr q).size by rw [ZB, hql]; exact size76); have HI3 := aa.mk (show (Try.prog.info? 76).map (·.size) = some (arr (pln q)).size by rw [ZB, hzl]; exact size76); have HZL := aa.mk hzl; have HZM := aa.mk hzlim; have HSZ := aa.mk (show (arr (pln q)).size = (arr q).size by rw [ZB, ZB, hzl, hql]); have htl : ((pln q).take count).length = count := by rw [List.length_take, hzl]; omega
       have HNZ := aa.mk (fun (W : World) (hh : W.heap[b12]? = some (.cells (arr (pln q)) 76 (0, 0))) => by
        have h1 := nzi_calls (some ⟨b12, 0, none⟩) 6 ((pln q).take count) W (C_arr hh (by omega) (by omega)) (by omega) (by omega); rw [htl, hfn] at h1; exact h1)
       have HCLN := aa.mk (fun (W : World) (u : List Int) (hu : u.length = 6) (hh : W.heap[b12]? = some (.cells (arr u) 76 (0, 0))) => by
        have h1 := ZL.calls (some ⟨b12, 0, none⟩) 6 (u.take count) (u.take count) W (C_arr hh (by omega) (by omega)) (by rw [List.length_take]; omega) (by unfold ZL.f; rw [if_pos (by rw [List.length_take]; omega)]); rw [show (u.take count).length = count by rw [List.length_take]; omega] at h1; exact h1)
       clear hfin hlim hnz hql hzl hzlim hnl hfn htl HFIN HA hkR; generalize pln q = z at *; have wF : (fn : Int) < 6 := by omega
       have wI : count ≤ 6 := HCT.out; have hsl := slice76 b12 count HCT.out; obtain ⟨zf, hzf⟩ : ∃ v, v = z.getD fn 0 := ⟨_, rfl⟩; have HCZ := aa.mk (fun (W : World) (hh : W.heap[b12]? = some (.cells (arr z) 76 (0, 0))) => (Yj hh fn (by rw [HZL.out]; omega)).trans (by rw [← hzf])); by_cases hneg : z.getD fn 0 < 0
       ·have hfs := HFS.out; rw [if_pos hneg] at hfs; rw [← hzf] at hneg; have c2 : decide (zf < 0) = true := decide_eq_true hneg; have qQ := aa.mk hfs; clear HFS hfs hzf; go_wp2_with (first
         | (refine wpList_load_row rfl 76 _ rfl b12 rfl 76 (arr q) (0, 0) _ dX.out Try.underlying76 rfl HI2.out ?_)
         | ((with_reducible refine Qf (f := 118) rfl ?_); refine QE (some 87) rfl rfl Try.func118 (by kernel_rfl) rfl #[.agg (arr q)] rfl (by (try simp only [List.map_toArray, List.map_cons, List.map_nil]); first | done | rfl) ?_; (with_reducible refine (HPC.out _).mono ?_); rintro e w18 ⟨rfl, hb⟩; refine ⟨_, rfl, ?_⟩; have n1_ := aa.mk (Ql dX.out hb); have n2_ := aa.mk (Qc HB9.out hb); have iS := aa.mk (setRow_heap w18 b12 (arr q) (arr z) 76 (0, 0) n1_.out); have HBZ := aa.mk (Z8 n2_.out o7.out (arr z)); clear dX HB9 hb; have dX := n1_; clear n1_ n2_)
         | (refine wpList_store_row rfl 76 _ _ rfl b12 (arr z) rfl rfl 76 (arr q) dX.out HI3.out HSZ.out.symm (YD z) ?_)
         | ((with_reducible refine Qf (f := 119) rfl ?_); refine QE (some 90) rfl rfl Try.func119 (by kernel_rfl) rfl #[.slice (some ⟨b12, 0, none⟩) count 6, .func (.func 120) #[] #[]] rfl (by (try simp only [List.map_toArray, List.map_cons, List.map_nil]); first | done | rfl) ?_; (with_reducible refine (HNZ.out _ iS.out).mono ?_); rintro e w19 ⟨rfl, hb⟩; refine ⟨_, rfl, ?_⟩; have jk := aa.mk (Ql iS.out hb); have HBY := aa.mk (Qc HBZ.out hb); have hcz := HCZ.out _ jk.out; clear iS HBZ hb))
        go_loopw [95] (fun i_ w' => ∃ (i : Nat) (u : List Int), i ≤ 6 ∧ i_ = .int .i64 i ∧ aa (u = (z.take i).map (fun x => -x) ++ z.drop i) ∧ aa (w'.heap[b12]? = some (.cells (arr u) 76 (0, 0))) ∧ aa (Below w9.heap.size w9 w')) (fun i_ _ => 6 - (intOf i_).toNat)
        case atStart => exact ⟨0, z, by omega, rfl, ⟨by simp⟩, jk, HBY⟩
        case round =>
         clear jk HBY hcz dX; obtain ⟨i, u, hi, rfl, HU, dX, HB9⟩ := hrel; have hul : u.length = 6 := by rw [HU.out]; simp [HZL.out]; omega
         by_cases hi6 : i < 6
         ·have hiz : i < z.length := by rw [HZL.out]; exact hi6
          have hui : u.getD i 0 = z[i] := by
           rw [HU.out, List.getD_eq_getElem?_getD, List.getElem?_append_right (by simp; omega), List.length_map, List.length_take, Nat.min_eq_left (by omega), Nat.sub_self, List.getElem?_drop, Nat.add_zero, List.getElem?_eq_getElem hiz]; rfl
          have hset : u.set i (-z[i]) = (z.take (i + 1)).map (fun x => -x) ++ z.drop (i + 1) := by
           rw [HU.out, List.set_append_right _ _ (by simp; omega), List.length_map, List.length_take, Nat.min_eq_left (by omega), Nat.sub_self, List.drop_eq_getElem_cons hiz, List.set_cons_zero, List.take_succ_eq_append_getElem hiz, List.map_append, List.append_assoc]; rfl
          have HSET := aa.mk hset; have hcu := Yj dX.out i (by omega); rw [hui] at hcu; have hfu := Vi dX.out i; have hzx := HZM.out _ (List.getElem_mem hiz); unfold Lim at hzx; generalize z[i] = x at *; have w1 : wrap64 (-x) = -x := wrp (by omega) (by omega); clear hui hset; go_wp2_with fail
          go_roundw
          case rel => exact ⟨i + 1, u.set i (-x), by omega, by go_num, HSET, ⟨Vx dX.out i _⟩, ⟨HB9.out.setCell o7.out _⟩⟩
          case measure => simp [intOf]; omega
         ·obtain rfl : i = 6 := by omega
          have HUL := aa.mk hul; have hus : u.take count = s := by
           have e1 : z.take 6 = z := List.take_of_length_le (by rw [HZL.out]; exact Nat.le_refl _); have e2 : z.drop 6 = [] := List.drop_eq_nil_of_le (by rw [HZL.out]; exact Nat.le_refl _); rw [← qQ.out, HU.out, e1, e2, List.append_nil]
          have HUS := aa.mk hus; clear hus hul; go_wp2_with (first | ((with_reducible refine Qf (f := 79) rfl ?_); refine QE (some 107) rfl rfl Try.func79 (by kernel_rfl) rfl #[.slice (some ⟨b12, 0, none⟩) count 6] rfl (by (try simp only [List.map_toArray, List.map_cons, List.map_nil]); first | done | rfl) ?_; (with_reducible refine (HCLN.out _ u HUL.out dX.out).mono ?_); rintro e w20 ⟨v20, rfl, ho, hb⟩; refine ⟨_, rfl, ?_⟩; have HOO := aa.mk ho; have HBF := aa.mk (Qc HB9.out hb); clear ho hb))
          go_ret2; refine ⟨_, rfl, ?_, Qc HB2.out HBF.out⟩; rw [← HUS.out]; exact Kd.Zb HOO.out (Nat.le_trans HW9.out HB9.out.size)
       ·have hfs := HFS.out; rw [if_neg hneg] at hfs; rw [← hzf] at hneg; have c2 : decide (zf < 0) = false := decide_eq_false hneg; have qQ := aa.mk hfs; clear HFS hfs hzf; go_wp2_with (first
         | (refine wpList_load_row rfl 76 _ rfl b12 rfl 76 (arr q) (0, 0) _ dX.out Try.underlying76 rfl HI2.out ?_)
         | ((with_reducible refine Qf (f := 118) rfl ?_); refine QE (some 87) rfl rfl Try.func118 (by kernel_rfl) rfl #[.agg (arr q)] rfl (by (try simp only [List.map_toArray, List.map_cons, List.map_nil]); first | done | rfl) ?_; (with_reducible refine (HPC.out _).mono ?_); rintro e w18 ⟨rfl, hb⟩; refine ⟨_, rfl, ?_⟩; have n1_ := aa.mk (Ql dX.out hb); have n2_ := aa.mk (Qc HB9.out hb); have iS := aa.mk (setRow_heap w18 b12 (arr q) (arr z) 76 (0, 0) n1_.out); have HBZ := aa.mk (Z8 n2_.out o7.out (arr z)); clear dX HB9 hb; have dX := n1_; clear n1_ n2_)
         | (refine wpList_store_row rfl 76 _ _ rfl b12 (arr z) rfl rfl 76 (arr q) dX.out HI3.out HSZ.out.symm (YD z) ?_)
         | ((with_reducible refine Qf (f := 119) rfl ?_); refine QE (some 90) rfl rfl Try.func119 (by kernel_rfl) rfl #[.slice (some ⟨b12, 0, none⟩) count 6, .func (.func 120) #[] #[]] rfl (by (try simp only [List.map_toArray, List.map_cons, List.map_nil]); first | done | rfl) ?_; (with_reducible refine (HNZ.out _ iS.out).mono ?_); rintro e w19 ⟨rfl, hb⟩; refine ⟨_, rfl, ?_⟩; have jk := aa.mk (Ql iS.out hb); have HBY := aa.mk (Qc HBZ.out hb); have hcz := HCZ.out _ jk.out; clear iS HBZ hb)
         | ((with_reducible refine Qf (f := 79) rfl ?_); refine QE (some 107) rfl rfl Try.func79 (by kernel_rfl) rfl #[.slice (some ⟨b12, 0, none⟩) count 6] rfl (by (try simp only [List.map_toArray, List.map_cons, List.map_nil]); first | done | rfl) ?_; (with_reducible refine (HCLN.out _ z HZL.out jk.out).mono ?_); rintro e w20 ⟨v20, rfl, ho, hb⟩; refine ⟨_, rfl, ?_⟩; have HOO := aa.mk ho; have HBF := aa.mk (Qc HBY.out hb); clear ho hb))
        go_ret2; refine ⟨_, rfl, ?_, Qc HB2.out HBF.out⟩; rw [← qQ.out]; exact Kd.Zb HOO.out (Nat.le_trans HW9.out HBY.out.size)
theorem Q7.calls (A0 : Option Addr) (c0 : Nat) (l0 : List S76) (a1 : Int) (r1 : List Int) (r2 : Bool) (w : World) (hr0 : Kd.C k76 w A0 l0.length l0) (hc0 : l0.length ≤ c0) (h : Q7.f l0 a1 = some (r1, r2)) :
  Calls Try.prog 82 #[.slice A0 l0.length c0, .int .i64 a1] w fun e w' => ∃ v0_ : Value, e = .returned (.tuple #[v0_, .bool r2]) ∧ Kd.R (Kd.int .i64) 3 w' w.heap.size (fun _ => True) v0_ r1 ∧ Below w.heap.size w w' := by
 unfold Q7.f at h; split at h
 case isFalse => cases h
 rename_i hc
 obtain ⟨⟨R, P⟩, h1, h2⟩ := Option.bind_eq_some_iff.1 h; obtain ⟨n, rfl⟩ := Int.eq_ofNat_of_zero_le hc.1; exact sol_calls A0 c0 l0 n R P r1 r2 w hr0 hc0 (by omega) h1 h2
end Go.Proofs.Ytdneelgnmnpanaa.P
end
