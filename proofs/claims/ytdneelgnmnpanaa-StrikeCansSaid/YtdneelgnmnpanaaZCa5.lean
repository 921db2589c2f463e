/- What the claim's last text wants, part 5: functions of the translation as Lean functions with their contracts, and plain theorems; no conditions beyond those that each theorem names. -/
import Derived.Test.YtdneelgnmnpanaaZCa4
set_option linter.unusedVariables false
set_option linter.unusedSimpArgs false
section
namespace Go.Proofs.Ytdneelgnmnpanaa.P
open Go.RowKit Go.Proofs.YtdneelgnmnpanaaW.PrintWords Go.Proofs.YtdneelgnmnpanaaW.PrintLast Go.Proofs.YtdneelgnmnpanaaW.PrintMore
attribute [local go_sem] max2_int min2_int max_two min_two max_three min_three max_four min_four
mutual
def Qt.l0 : Nat → List Int → List Int → List Int → List (List Int) → Int → Int → List (List Int) → List (List Int) → Option (List Int × List Int)
  | 0, _, _, _, _, _, _, _, _ => none
  | k + 1, x1, x6, x7, x29, x30, x31, av, aw => if x31 < x30 then (if 0 ≤ x31 then (if x31 < (x29.length : Int) then (Qt.l1 k x1 x6 x7 x31 x29 x30 x31 (Qu x29 x31) ((Qu x29 x31).length : Int) 0 av aw) else (none)) else (none)) else (Qt.l2 k x1 x6 x7 aw (aw.length : Int) 0 av aw)
def Qt.l1 : Nat → List Int → List Int → List Int → Int → List (List Int) → Int → Int → List Int → Int → Int → List (List Int) → List (List Int) → Option (List Int × List Int)
  | 0, _, _, _, _, _, _, _, _, _, _, _, _ => none
  | k + 1, x1, x6, x7, x8, x29, x30, x31, x36, x37, x38, av, aw => if x38 < x37 then (if 0 ≤ x38 then (if x38 < (x36.length : Int) then (if x38 < (x6.length : Int) then (if 0 ≤ x8 then (if x8 < (x1.length : Int) then (Qt.l1 k x1 (x6.set (x38 : Int).toNat (wrap64 ((rd x6 x38) + (wrap64 ((rd x1 x8) * (rd x36 x38)))))) x7 x8 x29 x30 x31 x36 x37 (wrap64 (x38 + 1)) av aw) else (none)) else (none)) else (none)) else (none)) else (none)) else (Qt.l0 k x1 x6 x7 x29 x30 (wrap64 (x31 + 1)) av aw)
def Qt.l2 : Nat → List Int → List Int → List Int → List (List Int) → Int → Int → List (List Int) → List (List Int) → Option (List Int × List Int)
  | 0, _, _, _, _, _, _, _, _ => none
  | k + 1, x1, x6, x7, x58, x59, x60, av, aw => if x60 < x59 then (if 0 ≤ x60 then (if x60 < (x58.length : Int) then (Qt.l3 k x1 x6 x7 x60 x58 x59 x60 (Qu x58 x60) ((Qu x58 x60).length : Int) 0 av aw) else (none)) else (none)) else (some (x6, x7))
def Qt.l3 : Nat → List Int → List Int → List Int → Int → List (List Int) → Int → Int → List Int → Int → Int → List (List Int) → List (List Int) → Option (List Int × List Int)
  | 0, _, _, _, _, _, _, _, _, _, _, _, _ => none
  | k + 1, x1, x6, x7, x12, x58, x59, x60, x65, x66, x67, av, aw => if x67 < x66 then (if 0 ≤ x67 then (if x67 < (x65.length : Int) then (if x67 < (x7.length : Int) then (if 0 ≤ (wrap64 ((av.length : Int) + x12)) then (if (wrap64 ((av.length : Int) + x12)) < (x1.length : Int) then (Qt.l3 k x1 x6 (x7.set (x67 : Int).toNat (wrap64 ((rd x7 x67) + (wrap64 ((rd x1 (wrap64 ((av.length : Int) + x12))) * (rd x65 x67)))))) x12 x58 x59 x60 x65 x66 (wrap64 (x67 + 1)) av aw) else (none)) else (none)) else (none)) else (none)) else (none)) else (Qt.l2 k x1 x6 x7 x58 x59 (wrap64 (x60 + 1)) av aw)
end
def Qt.f (k : Nat) (ae : List (List Int)) (af : List (List Int)) (l1 : List Int) : Option (List Int × List Int) := if 0 < (ae.length : Int) then (if 0 ≤ ((Qu ae 0).length : Int) then (if (((Qu ae 0).length : Int) : Int).toNat ≤ 35184372088832 then (Qt.l0 k l1 (List.replicate (((Qu ae 0).length : Int) : Int).toNat 0) (List.replicate (((Qu ae 0).length : Int) : Int).toNat 0) ae (ae.length : Int) 0 ae af) else (none)) else (none)) else (none)
theorem Qt.ZS : ∀ k, (∀ y0 y1 y2 y3 y4 y5 y6 y7, LeO (Qt.l0 k y0 y1 y2 y3 y4 y5 y6 y7) (Qt.l0 (k + 1) y0 y1 y2 y3 y4 y5 y6 y7)) ∧ (∀ y0 y1 y2 y3 y4 y5 y6 y7 y8 y9 y10 y11, LeO (Qt.l1 k y0 y1 y2 y3 y4 y5 y6 y7 y8 y9 y10 y11) (Qt.l1 (k + 1) y0 y1 y2 y3 y4 y5 y6 y7 y8 y9 y10 y11)) ∧ (∀ y0 y1 y2 y3 y4 y5 y6 y7, LeO (Qt.l2 k y0 y1 y2 y3 y4 y5 y6 y7) (Qt.l2 (k + 1) y0 y1 y2 y3 y4 y5 y6 y7)) ∧ (∀ y0 y1 y2 y3 y4 y5 y6 y7 y8 y9 y10 y11, LeO (Qt.l3 k y0 y1 y2 y3 y4 y5 y6 y7 y8 y9 y10 y11) (Qt.l3 (k + 1) y0 y1 y2 y3 y4 y5 y6 y7 y8 y9 y10 y11))
  | 0 => ⟨fun _ _ _ _ _ _ _ _ r h => by simp [Qt.l0] at h, fun _ _ _ _ _ _ _ _ _ _ _ _ r h => by simp [Qt.l1] at h, fun _ _ _ _ _ _ _ _ r h => by simp [Qt.l2] at h, fun _ _ _ _ _ _ _ _ _ _ _ _ r h => by simp [Qt.l3] at h⟩
  | k + 1 => by
    obtain ⟨ih0, ih1, ih2, ih3⟩ := Qt.ZS k; refine ⟨?_, ?_, ?_, ?_⟩ <;> intros <;> (first | unfold Qt.l0 | unfold Qt.l1 | unfold Qt.l2 | unfold Qt.l3) <;> repeat' first | (with_reducible exact ih0 _ _ _ _ _ _ _ _) | (with_reducible exact ih1 _ _ _ _ _ _ _ _ _ _ _ _) | (with_reducible exact ih2 _ _ _ _ _ _ _ _) | (with_reducible exact ih3 _ _ _ _ _ _ _ _ _ _ _ _) | (with_reducible exact LeO.refl _) | (with_reducible exact LeO.none _) | (with_reducible refine LeO.ite ?_ ?_) | (with_reducible refine LeO.bind ?_ (fun _ => ?_)) | exact ih0 _ _ _ _ _ _ _ _ | exact ih1 _ _ _ _ _ _ _ _ _ _ _ _ | exact ih2 _ _ _ _ _ _ _ _ | exact ih3 _ _ _ _ _ _ _ _ _ _ _ _ | exact LeO.none _ | refine LeO.ite ?_ ?_ | refine LeO.bind ?_ (fun _ => ?_)
theorem Qt.mono : ∀ a0 a1 a2 k, LeO (Qt.f k a0 a1 a2) (Qt.f (k + 1) a0 a1 a2) := by
  intro a0 a1 a2 k; obtain ⟨ih0, ih1, ih2, ih3⟩ := Qt.ZS k; unfold Qt.f; repeat' first | (with_reducible exact ih0 _ _ _ _ _ _ _ _) | (with_reducible exact ih1 _ _ _ _ _ _ _ _ _ _ _ _) | (with_reducible exact ih2 _ _ _ _ _ _ _ _) | (with_reducible exact ih3 _ _ _ _ _ _ _ _ _ _ _ _) | (with_reducible exact LeO.refl _) | (with_reducible exact LeO.none _) | (with_reducible refine LeO.ite ?_ ?_) | (with_reducible refine LeO.bind ?_ (fun _ => ?_)) | exact ih0 _ _ _ _ _ _ _ _ | exact ih1 _ _ _ _ _ _ _ _ _ _ _ _ | exact ih2 _ _ _ _ _ _ _ _ | exact ih3 _ _ _ _ _ _ _ _ _ _ _ _ | exact LeO.none _ | refine LeO.ite ?_ ?_ | refine LeO.bind ?_ (fun _ => ?_)
def Qt.T1 : Bool × List (List Nat × List Nat) := (true, [([], []), ([0], [0]), ([1], [1]), ([2], [2]), ([3], [3]), ([4, 4], [4]), ([], []), ([6], [6]), ([7], [7]), ([8], [8]), ([9], [9]), ([10, 10], [10]), ([5, 0, 1, 2, 3, 4, 5], [5]), ([11, 12, 0, 1, 2, 3, 4, 5, 6, 7, 8, 9, 10, 11, 12], [11])])
def Qt.B1 : List Nat := [0, 1, 3, 7, 15, 31, 0, 64, 192, 448, 960, 1984, 63, 8191]
theorem Qt.tab1 : rtab .any (opsOf Try.f88 1) = Qt.T1 := by kernel_rfl
theorem Qt.bits1 : waitsOk Qt.T1.2 Qt.B1 = true := by kernel_rfl
def Qt.T8 : Bool × List (List Nat × List Nat) := (true, [([], []), ([], []), ([0, 1], [0, 1]), ([2], [2]), ([], []), ([], []), ([4, 5], [4, 5]), ([6], [6]), ([], []), ([7, 8], [7, 8]), ([3, 9], [3, 9]), ([0, 1, 0, 1, 2, 3, 4, 5, 6, 7, 8, 9, 10], [0, 1]), ([11, 10, 0, 1, 2, 3, 4, 5, 6, 7, 8, 9, 10], [10, 11])])
def Qt.B8 : List Nat := [0, 0, 3, 7, 0, 0, 48, 112, 0, 496, 1023, 2047, 4095]
theorem Qt.tab8 : rtab .any (opsOf Try.f88 8) = Qt.T8 := by kernel_rfl
theorem Qt.bits8 : waitsOk Qt.T8.2 Qt.B8 = true := by kernel_rfl
def Qt.T17 : Bool × List (List Nat × List Nat) := (true, [([], []), ([], []), ([0, 1], [0, 1]), ([2], [2]), ([], []), ([], []), ([5], [5]), ([6], [6]), ([], []), ([7, 8], [7, 8]), ([4, 9], [4, 9]), ([10], [10]), ([], []), ([11, 12], [11, 12]), ([3, 13], [3, 13]), ([0, 1, 0, 1, 2, 3, 4, 5, 6, 7, 8, 9, 10, 11, 12, 13, 14], [0, 1]), ([15, 14, 0, 1, 2, 3, 4, 5, 6, 7, 8, 9, 10, 11, 12, 13, 14], [14, 15])])
def Qt.B17 : List Nat := [0, 0, 3, 7, 0, 0, 32, 96, 0, 480, 1008, 2032, 0, 8176, 16383, 32767, 65535]
theorem Qt.tab17 : rtab .any (opsOf Try.f88 17) = Qt.T17 := by kernel_rfl
theorem Qt.bits17 : waitsOk Qt.T17.2 Qt.B17 = true := by kernel_rfl
set_option maxHeartbeats 8000000 in
set_option maxRecDepth 100000 in
theorem Qt.calls (k : Nat) (ak : Option Addr) (an : Nat) (ae : List (List Int)) (aj : Option Addr) (al : Nat) (af : List (List Int)) (A1 : Option Addr) (c1 : Nat) (l1 : List Int) (r1 : List Int) (r2 : List Int) (w : World) (aM : Kd.C (Kd.slice 3 (Kd.int .i64)) w ak ae.length ae) (aQ : ae.length ≤ an) (aK : Kd.C (Kd.slice 3 (Kd.int .i64)) w aj af.length af) (aN : af.length ≤ al) (hr1 : Kd.C (Kd.int .i64) w A1 l1.length l1) (hc1 : l1.length ≤ c1) (h : Qt.f k ae af l1 = some (r1, r2)) :
    Calls Try.prog 88 #[.agg #[.slice ak ae.length an, .slice aj af.length al], .slice A1 l1.length c1] w fun e w' => ∃ v0_ v1_ : Value, e = .returned (.tuple #[v0_, v1_]) ∧ Kd.R (Kd.int .i64) 3 w' w.heap.size (fun k_ => some k_ ≠ (v1_ : Value).ownBlock) v0_ r1 ∧ Kd.R (Kd.int .i64) 3 w' w.heap.size (fun k_ => some k_ ≠ (v0_ : Value).ownBlock) v1_ r2 ∧ Below w.heap.size w w' := by
  have ej := Try.underlying24; have ay := aa.mk aM; have aA := aa.mk aQ; clear aM aQ; have az := aa.mk aK; have aC := aa.mk aN; clear aK aN; have HR1 := aa.mk hr1; have HC1 := aa.mk hc1; clear hr1 hc1; have HB := aa.mk (Below.refl w.heap.size w); have H : (if 0 < (ae.length : Int) then (if 0 ≤ ((Qu ae 0).length : Int) then (if (((Qu ae 0).length : Int) : Int).toNat ≤ 35184372088832 then (Qt.l0 k l1 (List.replicate (((Qu ae 0).length : Int) : Int).toNat 0) (List.replicate (((Qu ae 0).length : Int) : Int).toNat 0) ae (ae.length : Int) 0 ae af) else (none)) else (none)) else (none)) = some (r1, r2) := h; clear h; by_cases c3 : 0 < (ae.length : Int)
  · rw [if_pos c3] at H; have bL : decide (0 < (ae.length : Int)) = true := decide_eq_true c3; have cA : decide (0 < ae.length) = true := decide_eq_true (by omega); clear c3; by_cases c4 : 0 ≤ ((Qu ae 0).length : Int)
    · rw [if_pos c4] at H; have bI := eq_true c4; have eh : decide (0 ≤ ((Qu ae 0).length : Int)) = true := decide_eq_true c4; clear c4; by_cases c5 : (((Qu ae 0).length : Int) : Int).toNat ≤ 35184372088832
      · rw [if_pos c5] at H; have dh := eq_true c5; have iz : decide ((((Qu ae 0).length : Int) : Int).toNat ≤ 35184372088832) = true := decide_eq_true c5; clear c5; obtain ⟨dH, eE⟩ : ∃ y_ : List Int, y_ = (List.replicate (((Qu ae 0).length : Int) : Int).toNat 0) := ⟨_, rfl⟩; replace H : (Qt.l0 k l1 dH (List.replicate (((Qu ae 0).length : Int) : Int).toNat 0) ae (ae.length : Int) 0 ae af) = some (r1, r2) := by first | (rw [eE]; with_reducible exact H) | (have H2_ := (Option.bind_some _ _).symm.trans H; rw [eE]; with_reducible exact H2_) | (have H2_ := (Option.bind_some _ _).symm.trans H; with_reducible exact H2_) | with_reducible exact H | (rw [eE]; exact H) | exact H
        have ja := aa.mk eE; clear eE; obtain ⟨jM, gO⟩ : ∃ y_ : List Int, y_ = (List.replicate (((Qu ae 0).length : Int) : Int).toNat 0) := ⟨_, rfl⟩; replace H : (Qt.l0 k l1 dH jM ae (ae.length : Int) 0 ae af) = some (r1, r2) := by first | (rw [gO]; with_reducible exact H) | (have H2_ := (Option.bind_some _ _).symm.trans H; rw [gO]; with_reducible exact H2_) | (have H2_ := (Option.bind_some _ _).symm.trans H; with_reducible exact H2_) | with_reducible exact H | (rw [gO]; exact H) | exact H
        have lp := aa.mk gO; clear gO; have H' := aa.mk H; clear H; go_enter Try.func88, Try.ntmps88; try go_wp2_with (first | ((with_reducible refine QN (N := 2) rfl ?_); refine Q3 ?hg (N := 2) ?hd (cs := #[.slice ak ae.length an, .slice aj af.length al]) (t := 24) ?hr ?_; (case hd => rfl); (case hg => rfl); (case hr => first | (go_simp; done) | (go_simp; rfl)); intro ag hg w6 hbox hb; have ab := aa.mk (hbox); have bh := aa.mk ((by rw [hg]; exact (Qb (by repeat (first | (with_reducible first | exact HB.out | apply Q0 | apply QI | apply QR) | exact HB.out))) : w.heap.size ≤ ag)); have aT := aa.mk ((by rw [hg]; exact (Qb (by repeat (first | (with_reducible first | exact HB.out | apply Q0 | apply QI | apply QR) | exact HB.out))) : w.heap.size ≤ ag)); replace HB := aa.mk (Qa (by repeat (first | (with_reducible first | exact HB.out | apply Q0 | apply QI | apply QR) | exact HB.out)) hb); clear hb hbox hg))
        replace ab := aa.mk (QA ab.out); replace HB := aa.mk (QR HB.out); have bH : 0 ≤ (0 : Int) := (by omega); have bG : 0 < (ae.length : Int) := of_decide_eq_true (by first | (with_reducible assumption) | assumption); obtain ⟨bM, eM, eK, ev, aI, cu, cw⟩ := ZJ ay.out 0 bH bG; have dc := aI; (try rw [show ((0 : Int)).toNat = 0 from rfl] at dc)
        (try rw [show 0 * 1 = 0 from rfl] at dc)
        (try rw [Addr.add_zero'] at dc)
        cases ev; have rV : (0 < ae.length) = True := eq_true (by omega); (try rw [show ((0 : Int)).toNat = 0 from rfl] at aI)
        (try rw [Addr.add_zero'] at aI)
        replace aI := (HB.out.cell (World.block_lt_of_cell? w _ aI)).trans aI; have dv := aa.mk cw; have ee := aa.mk cu; clear cw cu; replace bH := eq_true bH; replace bG := eq_true bG; have cU : 0 ≤ (0 : Int) := (by omega); have cT : 0 < (ae.length : Int) := of_decide_eq_true (by first | (with_reducible assumption) | assumption); obtain ⟨jH, Al, zW, ix, a9, n2, n9⟩ := ZJ ay.out 0 cU cT; have db := a9; (try rw [show ((0 : Int)).toNat = 0 from rfl] at db)
        (try rw [show 0 * 1 = 0 from rfl] at db)
        (try rw [Addr.add_zero'] at db)
        obtain rfl : bM = jH := (by injection ix); have As : (0 < ae.length) = True := eq_true (by omega); (try rw [show ((0 : Int)).toNat = 0 from rfl] at a9)
        (try rw [Addr.add_zero'] at a9)
        replace a9 := (HB.out.cell (World.block_lt_of_cell? w _ a9)).trans a9; have rD := aa.mk n9; have yt := aa.mk n2; clear n9 n2; replace cU := eq_true cU; replace cT := eq_true cT; have ea_ := Option.some.inj (aI.symm.trans a9); injection ea_ with ea_ en_ ec_
        subst ea_; subst ec_; clear en_; refine Yw (n := 14) (S := fun w' => w'.cell? ⟨ag, 0, none⟩ = some (.slice (some bM) ae.length an) ∧ w'.cell? ⟨ag, 1, none⟩ = some (.slice aj af.length al) ∧ w'.cell? bM = some (.slice eM (Qu ae 0).length eK) ∧ w'.cell? bM = some (.slice eM (Qu ae 0).length eK)) (ds := []) #[false, false, false, false, false, false, false, false, false, false, false, false, false, false] (by kernel_rfl) rfl rfl ⟨(Qd ab.out 0).trans rfl, (Qd ab.out 1).trans rfl, ((HB.out.cell (World.block_lt_of_cell? w _ dc)).trans dc), ((HB.out.cell (World.block_lt_of_cell? w _ db)).trans db)⟩ (fun hHeld => ?_); refine ZZ Qt.tab1 Qt.bits1 (fun HT_ HW_ => ?_); generalize w6.drew = w7 at ab HB dv rD aI a9 hHeld ⊢; refine QX (i := 0) (N := some 16) (v := ?_) (a' := ?_) #[true, false, false, false, false, false, false, false, false, false, false, false, false, false] rfl rfl (QL HT_.out (by kernel_rfl)) (fun _ _ _ h => h) (Or.inl ⟨by rfl, ?_⟩) ?_ ?_; rotate_left
        · intro w'; go_simp; with_reducible rfl
        rotate_left
        · simp only [Act.put, zA, zB, zC, QC, QD]; rfl
        refine QX (i := 6) (N := some 22) (v := ?_) (a' := ?_) #[true, false, false, false, false, false, true, false, false, false, false, false, false, false] rfl rfl (QL HT_.out (by kernel_rfl)) (fun _ _ _ h => h) (Or.inl ⟨by rfl, ?_⟩) ?_ ?_; rotate_left
        · intro w'; go_simp; with_reducible rfl
        rotate_left
        · simp only [Act.put, zA, zB, zC, QC, QD]; rfl
        refine ZY (i := 1) (N := some 17) (v := ?_) (a' := ?_) #[true, true, false, false, false, false, true, false, false, false, false, false, false, false] rfl rfl (Zq HT_.out HW_.out (by kernel_rfl)) (fun _ _ _ h => h) (Or.inl ⟨by rfl, ?_⟩) hHeld ?_ ?_; rotate_left
        · rintro w' ⟨s0, s1, s2, s3⟩; go_simp; with_reducible rfl
        rotate_left
        · simp only [Act.put, zA, zB, zC, QC, QD]; rfl
        refine QX (i := 2) (N := some 18) (v := ?_) (a' := ?_) #[true, true, true, false, false, false, true, false, false, false, false, false, false, false] rfl rfl (QL HT_.out (by kernel_rfl)) (fun _ _ _ h => h) (Or.inl ⟨by rfl, ?_⟩) ?_ ?_; rotate_left
        · intro w'; go_simp; with_reducible rfl
        rotate_left
        · simp only [Act.put, zA, zB, zC, QC, QD]; rfl
        refine ZY (i := 3) (N := some 19) (v := ?_) (a' := ?_) #[true, true, true, true, false, false, true, false, false, false, false, false, false, false] rfl rfl (Zq HT_.out HW_.out (by kernel_rfl)) (fun _ _ _ h => h) (Or.inl ⟨by rfl, ?_⟩) hHeld ?_ ?_; rotate_left
        · rintro w' ⟨s0, s1, s2, s3⟩; go_simp; with_reducible rfl
        rotate_left
        · simp only [Act.put, zA, zB, zC, QC, QD]; rfl
        refine QX (i := 4) (N := some 20) (v := ?_) (a' := ?_) #[true, true, true, true, true, false, true, false, false, false, false, false, false, false] rfl rfl (QL HT_.out (by kernel_rfl)) (fun _ _ _ h => h) (Or.inl ⟨by rfl, ?_⟩) ?_ ?_; rotate_left
        · intro w'; go_simp; with_reducible rfl
        rotate_left
        · simp only [Act.put, zA, zB, zC, QC, QD]; rfl
        refine ZY (i := 7) (N := some 23) (v := ?_) (a' := ?_) #[true, true, true, true, true, false, true, true, false, false, false, false, false, false] rfl rfl (Zq HT_.out HW_.out (by kernel_rfl)) (fun _ _ _ h => h) (Or.inl ⟨by rfl, ?_⟩) hHeld ?_ ?_; rotate_left
        · rintro w' ⟨s0, s1, s2, s3⟩; go_simp; with_reducible rfl
        rotate_left
        · simp only [Act.put, zA, zB, zC, QC, QD]; rfl
        refine QX (i := 8) (N := some 24) (v := ?_) (a' := ?_) #[true, true, true, true, true, false, true, true, true, false, false, false, false, false] rfl rfl (QL HT_.out (by kernel_rfl)) (fun _ _ _ h => h) (Or.inl ⟨by rfl, ?_⟩) ?_ ?_; rotate_left
        · intro w'; go_simp; with_reducible rfl
        rotate_left
        · simp only [Act.put, zA, zB, zC, QC, QD]; rfl
        refine ZY (i := 9) (N := some 25) (v := ?_) (a' := ?_) #[true, true, true, true, true, false, true, true, true, true, false, false, false, false] rfl rfl (Zq HT_.out HW_.out (by kernel_rfl)) (fun _ _ _ h => h) (Or.inl ⟨by rfl, ?_⟩) hHeld ?_ ?_; rotate_left
        · rintro w' ⟨s0, s1, s2, s3⟩; go_simp; with_reducible rfl
        rotate_left
        · simp only [Act.put, zA, zB, zC, QC, QD]; rfl
        refine QX (i := 10) (N := some 26) (v := ?_) (a' := ?_) #[true, true, true, true, true, false, true, true, true, true, true, false, false, false] rfl rfl (QL HT_.out (by kernel_rfl)) (fun _ _ _ h => h) (Or.inl ⟨by rfl, ?_⟩) ?_ ?_; rotate_left
        · intro w'; go_simp; with_reducible rfl
        rotate_left
        · simp only [Act.put, zA, zB, zC, QC, QD]; rfl
        refine join_ (σ := Value × Value) 1 #[true, true, true, true, true, true, true, true, true, true, true, true, true, false] (fun s_ => [(21, s_.1), (27, s_.2), (6, s_.1)]) (fun s_ w' => (w'.cell? ⟨ag, 0, none⟩ = some (.slice (some bM) ae.length an) ∧ w'.cell? ⟨ag, 1, none⟩ = some (.slice aj af.length al) ∧ w'.cell? bM = some (.slice eM (Qu ae 0).length eK) ∧ w'.cell? bM = some (.slice eM (Qu ae 0).length eK)) ∧ (Kd.R (Kd.int .i64) 3 w' w.heap.size (fun k_ => some k_ ≠ (s_.2 : Value).ownBlock) s_.1 dH) ∧ (Kd.R (Kd.int .i64) 3 w' w.heap.size (fun k_ => some k_ ≠ (s_.1 : Value).ownBlock) s_.2 jM) ∧ (w'.heap[ag]? = some (.cells #[.slice (some bM) ae.length an, .slice aj af.length al] 24 (0, 0))) ∧ (Below w.heap.size w w')) ?_ ?_; rotate_left
        · intro hCont; refine two_ (i := 5) (j := 11) (Ni := some 21) (Nj := some 27) #[true, true, true, true, true, true, true, true, true, true, true, false, false, false] #[true, true, true, true, true, false, true, true, true, true, true, true, false, false] rfl rfl rfl rfl (two_of HT_.out (by kernel_rfl)) (by decide) (by decide) (fun K hK => ?_) (fun K hK => ?_)
          · skip
            refine Kd.Y1 (Kd.int .i64) _ 3 (by rfl) (N := 21) rfl 28 _ _ rfl ((Qu ae 0).length : Int) rfl rfl Try.underlying28 (.int .i64 0) 8 info3 rfl (by decide) (by omega) 0 (ok := fun _ => True) (okp := fun _ => True) rfl (fun _ hk => hk) trivial (of_decide_eq_true (by first | (with_reducible assumption) | assumption)) (Nat.le_trans (Nat.mul_le_mul_right _ (of_decide_eq_true (by first | (with_reducible assumption) | assumption) : ((Qu ae 0).length : Int).toNat ≤ 35184372088832)) (by omega)) (Below.refl _ _) (Nat.le_refl _) ?_; intro fc w8 ho9 hb hg_ hnew_; clear hg_ hnew_; (first | rw [← ja.out] at ho9 | (simp only [Int.reduceToNat] at ho9; rw [← ja.out] at ho9))
            have bw := aa.mk (Kd.Zh ho9 (Qb (by repeat (first | (with_reducible first | exact HB.out | apply Q0 | apply QI | apply QR | refine Zn ?_ aT.out) | exact HB.out)))); replace ab := aa.mk (Qp (g := ag) (o := .cells #[.slice (some bM) ae.length an, .slice aj af.length al] 24 (0, 0)) (by (with_reducible repeat (first | refine Qx ?_ _ | refine QA ?_ | refine Qw ?_ _)); exact ab.out) hb); replace HB := aa.mk (Qa (by repeat (first | (with_reducible first | exact HB.out | apply Q0 | apply QI | apply QR | refine Zn ?_ aT.out) | exact HB.out)) hb); clear hb ho9; refine hK.out _ _ ⟨(Qd ab.out 0).trans rfl, (Qd ab.out 1).trans rfl, ((HB.out.cell (World.block_lt_of_cell? w _ dc)).trans dc), ((HB.out.cell (World.block_lt_of_cell? w _ db)).trans db)⟩ (fun hHeld => ?_); clear hK K; refine Yk (a' := ?_) ?_ ?_; rotate_left
            · show Act.put _ (some 21) _ = _
              simp only [Act.put, zA, zB, zC, QC, QD]; rfl
            refine QX (i := 12) (N := some 6) (v := ?_) (a' := ?_) #[true, true, true, true, true, true, true, true, true, true, true, false, true, false] rfl rfl (QL HT_.out (by kernel_rfl)) (fun _ _ _ h => h) (Or.inl ⟨by rfl, ?_⟩) ?_ ?_; rotate_left
            · intro w'; go_simp; with_reducible rfl
            rotate_left
            · simp only [Act.put, zA, zB, zC, QC, QD]; rfl
            refine one_ (i := 11) (N := some 27) #[true, true, true, true, true, true, true, true, true, true, true, true, true, false] rfl rfl (ZW HT_.out (by kernel_rfl)) (by decide) (fun K hK => ?_); refine Kd.Y1 (Kd.int .i64) _ 3 (by rfl) (N := 27) rfl 28 _ _ rfl ((Qu ae 0).length : Int) rfl rfl Try.underlying28 (.int .i64 0) 8 info3 rfl (by decide) (by omega) 0 (ok := fun _ => True) (okp := fun _ => True) rfl (fun _ hk => hk) trivial (of_decide_eq_true (by first | (with_reducible assumption) | assumption)) (Nat.le_trans (Nat.mul_le_mul_right _ (of_decide_eq_true (by first | (with_reducible assumption) | assumption) : ((Qu ae 0).length : Int).toNat ≤ 35184372088832)) (by omega)) (Below.refl _ _) (Nat.le_refl _) ?_; intro dA w10 fO hb hg_ hnew_; clear hg_ hnew_; (first | rw [← lp.out] at fO | (simp only [Int.reduceToNat] at fO; rw [← lp.out] at fO))
            have aZ := aa.mk (Kd.Zh (Kd.Zm fO (Kd.R_lt (by (with_reducible repeat (first | apply Kd.R_alloc | apply Kd.R_drewN | apply Kd.QO)); exact bw.out))) (Qb (by repeat (first | (with_reducible first | exact HB.out | apply Q0 | apply QI | apply QR | refine Zn ?_ aT.out) | exact HB.out)))); replace bw := aa.mk (Kd.Zd (by (with_reducible repeat (first | apply Kd.R_alloc | apply Kd.R_drewN | apply Kd.QO)); exact bw.out) (Kd.QQ fO) hb); replace ab := aa.mk (Qp (g := ag) (o := .cells #[.slice (some bM) ae.length an, .slice aj af.length al] 24 (0, 0)) (by (with_reducible repeat (first | refine Qx ?_ _ | refine QA ?_ | refine Qw ?_ _)); exact ab.out) hb); replace HB := aa.mk (Qa (by repeat (first | (with_reducible first | exact HB.out | apply Q0 | apply QI | apply QR | refine Zn ?_ aT.out) | exact HB.out)) hb); clear hb fO; refine hK.out _ _ ⟨(Qd ab.out 0).trans rfl, (Qd ab.out 1).trans rfl, ((HB.out.cell (World.block_lt_of_cell? w _ dc)).trans dc), ((HB.out.cell (World.block_lt_of_cell? w _ db)).trans db)⟩ (fun hHeld => ?_); clear hK K; refine Yk (a' := ?_) ?_ ?_; rotate_left
            · show Act.put _ (some 27) _ = _
              simp only [Act.put, zA, zB, zC, QC, QD]; rfl
            exact Yk (by simp only [putAll, Act.put, zA, zB, zC]) (hCont (fc, dA) _ ⟨hHeld, (by (with_reducible repeat (first | apply Kd.R_alloc | apply Kd.R_drewN | apply Kd.QO)); exact Kd.Zc bw.out (fun _ hk => hk.2)), (by (with_reducible repeat (first | apply Kd.R_alloc | apply Kd.R_drewN | apply Kd.QO)); exact Kd.Zc aZ.out (fun _ hk => hk.2)), (by (with_reducible repeat (first | refine Qx ?_ _ | refine QA ?_ | refine Qw ?_ _)); exact ab.out), (by repeat (first | (with_reducible first | exact HB.out | apply Q0 | apply QI | apply QR | refine Zn ?_ aT.out) | exact HB.out))⟩)
          · skip
            refine Kd.Y1 (Kd.int .i64) _ 3 (by rfl) (N := 27) rfl 28 _ _ rfl ((Qu ae 0).length : Int) rfl rfl Try.underlying28 (.int .i64 0) 8 info3 rfl (by decide) (by omega) 0 (ok := fun _ => True) (okp := fun _ => True) rfl (fun _ hk => hk) trivial (of_decide_eq_true (by first | (with_reducible assumption) | assumption)) (Nat.le_trans (Nat.mul_le_mul_right _ (of_decide_eq_true (by first | (with_reducible assumption) | assumption) : ((Qu ae 0).length : Int).toNat ≤ 35184372088832)) (by omega)) (Below.refl _ _) (Nat.le_refl _) ?_; intro dA w8 ho9 hb hg_ hnew_; clear hg_ hnew_; (first | rw [← lp.out] at ho9 | (simp only [Int.reduceToNat] at ho9; rw [← lp.out] at ho9))
            have aZ := aa.mk (Kd.Zh ho9 (Qb (by repeat (first | (with_reducible first | exact HB.out | apply Q0 | apply QI | apply QR | refine Zn ?_ aT.out) | exact HB.out)))); replace ab := aa.mk (Qp (g := ag) (o := .cells #[.slice (some bM) ae.length an, .slice aj af.length al] 24 (0, 0)) (by (with_reducible repeat (first | refine Qx ?_ _ | refine QA ?_ | refine Qw ?_ _)); exact ab.out) hb); replace HB := aa.mk (Qa (by repeat (first | (with_reducible first | exact HB.out | apply Q0 | apply QI | apply QR | refine Zn ?_ aT.out) | exact HB.out)) hb); clear hb ho9; refine hK.out _ _ ⟨(Qd ab.out 0).trans rfl, (Qd ab.out 1).trans rfl, ((HB.out.cell (World.block_lt_of_cell? w _ dc)).trans dc), ((HB.out.cell (World.block_lt_of_cell? w _ db)).trans db)⟩ (fun hHeld => ?_); clear hK K; refine Yk (a' := ?_) ?_ ?_; rotate_left
            · show Act.put _ (some 27) _ = _
              simp only [Act.put, zA, zB, zC, QC, QD]; rfl
            refine one_ (i := 5) (N := some 21) #[true, true, true, true, true, true, true, true, true, true, true, true, false, false] rfl rfl (ZW HT_.out (by kernel_rfl)) (by decide) (fun K hK => ?_); refine Kd.Y1 (Kd.int .i64) _ 3 (by rfl) (N := 21) rfl 28 _ _ rfl ((Qu ae 0).length : Int) rfl rfl Try.underlying28 (.int .i64 0) 8 info3 rfl (by decide) (by omega) 0 (ok := fun _ => True) (okp := fun _ => True) rfl (fun _ hk => hk) trivial (of_decide_eq_true (by first | (with_reducible assumption) | assumption)) (Nat.le_trans (Nat.mul_le_mul_right _ (of_decide_eq_true (by first | (with_reducible assumption) | assumption) : ((Qu ae 0).length : Int).toNat ≤ 35184372088832)) (by omega)) (Below.refl _ _) (Nat.le_refl _) ?_; intro fc w10 fO hb hg_ hnew_; clear hg_ hnew_; (first | rw [← ja.out] at fO | (simp only [Int.reduceToNat] at fO; rw [← ja.out] at fO))
            have bw := aa.mk (Kd.Zh (Kd.Zm fO (Kd.R_lt (by (with_reducible repeat (first | apply Kd.R_alloc | apply Kd.R_drewN | apply Kd.QO)); exact aZ.out))) (Qb (by repeat (first | (with_reducible first | exact HB.out | apply Q0 | apply QI | apply QR | refine Zn ?_ aT.out) | exact HB.out)))); replace aZ := aa.mk (Kd.Zd (by (with_reducible repeat (first | apply Kd.R_alloc | apply Kd.R_drewN | apply Kd.QO)); exact aZ.out) (Kd.QQ fO) hb); replace ab := aa.mk (Qp (g := ag) (o := .cells #[.slice (some bM) ae.length an, .slice aj af.length al] 24 (0, 0)) (by (with_reducible repeat (first | refine Qx ?_ _ | refine QA ?_ | refine Qw ?_ _)); exact ab.out) hb); replace HB := aa.mk (Qa (by repeat (first | (with_reducible first | exact HB.out | apply Q0 | apply QI | apply QR | refine Zn ?_ aT.out) | exact HB.out)) hb); clear hb fO; refine hK.out _ _ ⟨(Qd ab.out 0).trans rfl, (Qd ab.out 1).trans rfl, ((HB.out.cell (World.block_lt_of_cell? w _ dc)).trans dc), ((HB.out.cell (World.block_lt_of_cell? w _ db)).trans db)⟩ (fun hHeld => ?_); clear hK K; refine Yk (a' := ?_) ?_ ?_; rotate_left
            · show Act.put _ (some 21) _ = _
              simp only [Act.put, zA, zB, zC, QC, QD]; rfl
            refine QX (i := 12) (N := some 6) (v := ?_) (a' := ?_) #[true, true, true, true, true, true, true, true, true, true, true, true, true, false] rfl rfl (QL HT_.out (by kernel_rfl)) (fun _ _ _ h => h) (Or.inl ⟨by rfl, ?_⟩) ?_ ?_; rotate_left
            · intro w'; go_simp; with_reducible rfl
            rotate_left
            · simp only [Act.put, zA, zB, zC, QC, QD]; rfl
            exact Yk (by simp only [putAll, Act.put, zA, zB, zC]) (hCont (fc, dA) _ ⟨hHeld, (by (with_reducible repeat (first | apply Kd.R_alloc | apply Kd.R_drewN | apply Kd.QO)); exact Kd.Zc bw.out (fun _ hk => hk.2)), (by (with_reducible repeat (first | apply Kd.R_alloc | apply Kd.R_drewN | apply Kd.QO)); exact Kd.Zc aZ.out (fun _ hk => hk.2)), (by (with_reducible repeat (first | refine Qx ?_ _ | refine QA ?_ | refine Qw ?_ _)); exact ab.out), (by repeat (first | (with_reducible first | exact HB.out | apply Q0 | apply QI | apply QR | refine Zn ?_ aT.out) | exact HB.out))⟩)
        rintro ⟨fc, dA⟩ w12 ⟨hS_, h0_, h1_, h2_, h3_⟩; have n0_ : aa (Kd.R (Kd.int .i64) 3 w12 w.heap.size (fun k_ => some k_ ≠ (dA : Value).ownBlock) fc dH) := ⟨h0_⟩; have n1_ : aa (Kd.R (Kd.int .i64) 3 w12 w.heap.size (fun k_ => some k_ ≠ (fc : Value).ownBlock) dA jM) := ⟨h1_⟩; have n2_ : aa (w12.heap[ag]? = some (.cells #[.slice (some bM) ae.length an, .slice aj af.length al] 24 (0, 0))) := ⟨h2_⟩; have n3_ : aa (Below w.heap.size w w12) := ⟨h3_⟩; clear ab; clear HB; clear h0_ h1_ h2_ h3_; have bw := n0_; have aZ := n1_; have ab := n2_; have HB := n3_; clear n0_ n1_ n2_ n3_; have hHeld : w12.cell? ⟨ag, 0, none⟩ = some (.slice (some bM) ae.length an) ∧ w12.cell? ⟨ag, 1, none⟩ = some (.slice aj af.length al) ∧ w12.cell? bM = some (.slice eM (Qu ae 0).length eK) ∧ w12.cell? bM = some (.slice eM (Qu ae 0).length eK) := hS_; refine Yk (a' := ?_) ?_ ?_; rotate_left
        · simp only [putAll, Act.put, zA, zB, zC]; rfl
        refine QX (i := 13) (N := some 7) (v := ?_) (a' := ?_) #[true, true, true, true, true, true, true, true, true, true, true, true, true, true] rfl rfl (QL HT_.out (by kernel_rfl)) (fun _ _ _ h => h) (Or.inl ⟨by rfl, ?_⟩) ?_ ?_; rotate_left
        · intro w'; go_simp; with_reducible rfl
        rotate_left
        · simp only [Act.put, zA, zB, zC, QC, QD]; rfl
        refine YN (Yo HT_.out (by kernel_rfl)) ?_; have e9 : w12.cell? ⟨ag, 0, none⟩ = some (.slice (some bM) ae.length an) := (Qd ab.out 0).trans rfl; have e8 : w12.cell? ⟨ag, 1, none⟩ = some (.slice aj af.length al) := (Qd ab.out 1).trans rfl; have e5 := Qc ab.out 0; have eZ := Qc ab.out 1; try go_wp2
        go_loopg [31] k (fun kq v31 w' => ∃ (au : List Int) (bC : Int), v31 = .int .i64 bC ∧ aa (Qt.l0 kq l1 au jM ae (ae.length : Int) bC ae af = some (r1, r2)) ∧ aa (kq ≤ k) ∧ aa (Kd.R (Kd.int .i64) 3 w' w.heap.size (fun k_ => some k_ ≠ (dA : Value).ownBlock) fc au) ∧ aa (Kd.R (Kd.int .i64) 3 w' w.heap.size (fun k_ => some k_ ≠ (fc : Value).ownBlock) dA jM) ∧ aa (w'.heap[ag]? = some (.cells #[(.slice (some bM) ae.length an), (.slice aj af.length al)] 24 (0, 0))) ∧ aa (Below w.heap.size w w'))
        case atStart => exact ⟨(dH), (0), (by first | rfl | (simp; done) | (simp [*]; done)), H', ⟨Nat.le_refl _⟩, ⟨by (with_reducible repeat (first | apply Kd.R_alloc | apply Kd.R_drewN | apply Kd.QO)); exact bw.out⟩, ⟨by (with_reducible repeat (first | apply Kd.R_alloc | apply Kd.R_drewN | apply Kd.QO)); exact aZ.out⟩, ⟨by (with_reducible repeat (first | refine Qx ?_ _ | refine QA ?_ | refine Qw ?_ _)); exact ab.out⟩, ⟨by repeat (first | (with_reducible first | exact HB.out | apply Q0 | apply QI | apply QR | refine Zn ?_ aT.out) | exact HB.out)⟩⟩
        case round =>
          clear H'; try clear c1
          try clear p1
          try clear q1
          try clear hx1
          try clear qi1
          try clear p2
          try clear c3
          try clear bL
          try clear cA
          try clear c4
          try clear bI
          try clear eh
          try clear c5
          try clear dh
          try clear iz
          try clear c8
          try clear c10
          try clear p10
          try clear q10
          try clear ir
          try clear mo
          try clear e9
          try clear e8
          try clear e5
          try clear eZ
          try clear aI
          try clear a9
          try clear bH
          try clear cU
          try clear bG
          try clear cT
          obtain ⟨au, bC, rfl, HA, HK1, bA, ax, ab, HB⟩ := hrel; cases gk with
          | zero => exact absurd HA.out (by simp [Qt.l0])
          | succ k1 =>
            have H := HA.out; clear HA; simp only [Qt.l0] at H; by_cases c14 : bC < (ae.length : Int)
            · rw [if_pos c14] at H; have gr : decide (bC < (ae.length : Int)) = true := decide_eq_true c14; clear c14; by_cases c15 : 0 ≤ bC
              · rw [if_pos c15] at H; have fP : decide (0 ≤ bC) = true := decide_eq_true c15; clear c15; by_cases c16 : bC < (ae.length : Int)
                · rw [if_pos c16] at H; have gX : decide (bC < (ae.length : Int)) = true := decide_eq_true c16; clear c16; have H' := aa.mk H; clear H; have gy : 0 ≤ (bC : Int) := of_decide_eq_true (by first | (with_reducible assumption) | assumption); have gv : bC < (ae.length : Int) := of_decide_eq_true (by first | (with_reducible assumption) | assumption); obtain ⟨ot, nM, nF, nx, bK, dO, dS⟩ := ZJ ay.out bC gy gv; obtain rfl : bM = ot := (by injection nx); replace bK := (HB.out.cell (World.block_lt_of_cell? w _ bK)).trans bK; have kr := aa.mk dS; have l9 := aa.mk dO; clear dS dO; replace gy := eq_true gy; replace gv := eq_true gv; go_wp2; go_loopg [38] k1 (fun kq v38 w' => ∃ (jh : List Int) (b6 : Int), v38 = .int .i64 b6 ∧ aa (Qt.l1 kq l1 jh jM bC ae (ae.length : Int) bC (Qu ae bC) ((Qu ae bC).length : Int) b6 ae af = some (r1, r2)) ∧ aa (kq ≤ k1) ∧ aa (Kd.R (Kd.int .i64) 3 w' w.heap.size (fun k_ => some k_ ≠ (dA : Value).ownBlock) fc jh) ∧ aa (Kd.R (Kd.int .i64) 3 w' w.heap.size (fun k_ => some k_ ≠ (fc : Value).ownBlock) dA jM) ∧ aa (w'.heap[ag]? = some (.cells #[(.slice (some bM) ae.length an), (.slice aj af.length al)] 24 (0, 0))) ∧ aa (Below w.heap.size w w'))
                  case atStart => exact ⟨(au), (0), (by first | rfl | (simp; done) | (simp [*]; done)), H', ⟨Nat.le_refl _⟩, ⟨by (with_reducible repeat (first | apply Kd.R_alloc | apply Kd.R_drewN | apply Kd.QO)); exact bA.out⟩, ⟨by (with_reducible repeat (first | apply Kd.R_alloc | apply Kd.R_drewN | apply Kd.QO)); exact ax.out⟩, ⟨by (with_reducible repeat (first | refine Qx ?_ _ | refine QA ?_ | refine Qw ?_ _)); exact ab.out⟩, ⟨by repeat (first | (with_reducible first | exact HB.out | apply Q0 | apply QI | apply QR | refine Zn ?_ aT.out) | exact HB.out)⟩⟩
                  case round =>
                    clear H'; try clear c1
                    try clear p1
                    try clear q1
                    try clear hx1
                    try clear qi1
                    try clear p2
                    try clear c3
                    try clear bL
                    try clear cA
                    try clear c4
                    try clear bI
                    try clear eh
                    try clear c5
                    try clear dh
                    try clear iz
                    try clear c8
                    try clear c10
                    try clear p10
                    try clear q10
                    try clear ir
                    try clear mo
                    try clear c11
                    try clear p11
                    try clear q11
                    try clear te
                    try clear c14
                    try clear gr
                    try clear c15
                    try clear fP
                    try clear c16
                    try clear gX
                    try clear e9
                    try clear e8
                    try clear e5
                    try clear eZ
                    try clear aI
                    try clear a9
                    try clear bK
                    try clear p1
                    try clear p10
                    try clear bH
                    try clear cU
                    try clear gy
                    try clear p2
                    try clear q1
                    try clear q10
                    try clear bG
                    try clear cT
                    try clear gv
                    obtain ⟨jh, b6, rfl, HA, HK2, bA, ax, ab, HB⟩ := hrel; cases gk with
                    | zero => exact absurd HA.out (by simp [Qt.l1])
                    | succ k2 =>
                      have H := HA.out; clear HA; simp only [Qt.l1] at H; by_cases c17 : b6 < ((Qu ae bC).length : Int)
                      · rw [if_pos c17] at H; have gp : decide (b6 < ((Qu ae bC).length : Int)) = true := decide_eq_true c17; clear c17; by_cases c18 : 0 ≤ b6
                        · rw [if_pos c18] at H; have iW : decide (0 ≤ b6) = true := decide_eq_true c18; clear c18; by_cases c19 : b6 < ((Qu ae bC).length : Int)
                          · rw [if_pos c19] at H; have eO : decide (b6 < ((Qu ae bC).length : Int)) = true := decide_eq_true c19; clear c19; by_cases c20 : b6 < (jh.length : Int)
                            · rw [if_pos c20] at H; have kS : decide (b6 < (jh.length : Int)) = true := decide_eq_true c20; clear c20; by_cases c21 : 0 ≤ bC
                              · rw [if_pos c21] at H; have jD : decide (0 ≤ bC) = true := decide_eq_true c21; clear c21; by_cases c22 : bC < (l1.length : Int)
                                · rw [if_pos c22] at H; have fE : decide (bC < (l1.length : Int)) = true := decide_eq_true c22; clear c22; obtain ⟨m5, gN⟩ : ∃ y_ : List Int, y_ = (jh.set (b6 : Int).toNat (wrap64 ((rd jh b6) + (wrap64 ((rd l1 bC) * (rd (Qu ae bC) b6)))))) := ⟨_, rfl⟩; replace H : (Qt.l1 k2 l1 m5 jM bC ae (ae.length : Int) bC (Qu ae bC) ((Qu ae bC).length : Int) (wrap64 (b6 + 1)) ae af) = some (r1, r2) := by first | (rw [gN]; with_reducible exact H) | (have H2_ := (Option.bind_some _ _).symm.trans H; rw [gN]; with_reducible exact H2_) | (have H2_ := (Option.bind_some _ _).symm.trans H; with_reducible exact H2_) | with_reducible exact H | (rw [gN]; exact H) | exact H
                                  have oB := aa.mk gN; clear gN; have H' := aa.mk H; clear H; have jo : 0 ≤ (b6 : Int) := of_decide_eq_true (by first | (with_reducible assumption) | assumption); have jk : b6 < ((Qu ae bC).length : Int) := of_decide_eq_true (by first | (with_reducible assumption) | assumption); obtain ⟨ll, pU, fY⟩ := Kd.Zi kr.out b6 jo jk; cases pU; replace fY := (HB.out.cell (World.block_lt_of_cell? w _ fY)).trans fY; replace jo := eq_true jo; replace jk := eq_true jk; try go_wp2
                                  replace bA := aa.mk (Kd.QO bA.out); replace ax := aa.mk (Kd.QO ax.out); replace ab := aa.mk (QA ab.out); replace HB := aa.mk (QR HB.out); obtain ⟨Af, rA, rm⟩ := Kd.Zg bA.out; (first | subst rm | (injection rm with f1_ f2_ f3_; have f4_ := f1_.symm; have f5_ := f3_.symm; clear f1_ f2_ f3_; subst f4_; subst f5_))
                                  have eJ : 0 ≤ (b6 : Int) := of_decide_eq_true (by first | (with_reducible assumption) | assumption); have eI : b6 < (jh.length : Int) := of_decide_eq_true (by first | (with_reducible assumption) | assumption); obtain ⟨fS, kL, bt⟩ := Kd.Zi (Kd.QE bA.out).2.2 b6 eJ eI; cases kL; replace eJ := eq_true eJ; replace eI := eq_true eI; have jn : 0 ≤ (bC : Int) := of_decide_eq_true (by first | (with_reducible assumption) | assumption); have jj : bC < (l1.length : Int) := of_decide_eq_true (by first | (with_reducible assumption) | assumption); obtain ⟨mU, pT, cj⟩ := Kd.Zi HR1.out bC jn jj; have fZ := cj; cases pT; replace cj := (HB.out.cell (World.block_lt_of_cell? w _ cj)).trans cj; replace jn := eq_true jn; replace jj := eq_true jj; have p23 : 0 ≤ (b6 : Int) := of_decide_eq_true (by first | (with_reducible assumption) | assumption); have q23 : (b6 : Int) < ((jh.length : Int) : Int) := of_decide_eq_true (by first | (with_reducible assumption) | assumption); obtain ⟨tP, gV, oV, vI, zr, BL, wM⟩ := Kd.VK bA.out (by omega); (first | cases oV | (injection oV with ea_ en_ ec_; (first | subst ea_ | (injection ea_ with ea_; subst ea_)); subst ec_; clear en_))
                                  have Ad := aa.mk vI; have z9 := aa.mk wM; clear vI zr wM; (first | simp only [Z9] at bt | skip)
                                  obtain ⟨nj, tu⟩ := Kd.Vv 0 bA.out (b6 : Int) p23 q23; replace p23 := eq_true p23; replace q23 := eq_true q23; have uD := Kd.R_putn bA.out (b6 : Int) (wrap64 ((rd jh b6) + (wrap64 ((rd l1 bC) * (rd (Qu ae bC) b6))))); rw [← oB.out] at uD; have wD := aa.mk uD; clear uD; refine Yw (n := 13) (S := fun w' => w'.cell? ⟨tP, (b6).toNat, none⟩ = some (.int .i64 (rd jh b6)) ∧ w'.cell? (mU.add (bC).toNat) = some (.int .i64 (rd l1 bC))) (ds := [12]) #[false, false, false, false, false, false, false, false, false, false, false, false, false] (by kernel_rfl) rfl rfl ⟨bt, ((HB.out.cell (World.block_lt_of_cell? w _ fZ)).trans fZ)⟩ (fun hHeld => ?_); refine ZZ Qt.tab8 Qt.bits8 (fun HT_ HW_ => ?_); generalize wr.drew = w24 at bA ax ab HB z9 wD tu bt cj nj hHeld ⊢; refine QX (i := 0) (N := some 43) (v := ?_) (a' := ?_) #[true, false, false, false, false, false, false, false, false, false, false, false, false] rfl rfl (QL HT_.out (by kernel_rfl)) (fun _ _ _ h => h) (Or.inl ⟨by rfl, ?_⟩) ?_ ?_; rotate_left
                                  · intro w'; go_simp; with_reducible rfl
                                  rotate_left
                                  · simp only [Act.put, zA, zB, zC, QC, QD]; rfl
                                  refine QX (i := 1) (N := some 44) (v := ?_) (a' := ?_) #[true, true, false, false, false, false, false, false, false, false, false, false, false] rfl rfl (QL HT_.out (by kernel_rfl)) (fun _ _ _ h => h) (Or.inl ⟨by rfl, ?_⟩) ?_ ?_; rotate_left
                                  · intro w'; go_simp; with_reducible rfl
                                  rotate_left
                                  · simp only [Act.put, zA, zB, zC, QC, QD]; rfl
                                  refine QX (i := 2) (N := some 45) (v := ?_) (a' := ?_) #[true, true, true, false, false, false, false, false, false, false, false, false, false] rfl rfl (QL HT_.out (by kernel_rfl)) (fun _ _ _ h => h) (Or.inl ⟨by rfl, ?_⟩) ?_ ?_; rotate_left
                                  · intro w'; go_simp; with_reducible rfl
                                  rotate_left
                                  · simp only [Act.put, zA, zB, zC, QC, QD]; rfl
                                  refine QX (i := 4) (N := some 47) (v := ?_) (a' := ?_) #[true, true, true, false, true, false, false, false, false, false, false, false, false] rfl rfl (QL HT_.out (by kernel_rfl)) (fun _ _ _ h => h) (Or.inl ⟨by rfl, ?_⟩) ?_ ?_; rotate_left
                                  · intro w'; go_simp; with_reducible rfl
                                  rotate_left
                                  · simp only [Act.put, zA, zB, zC, QC, QD]; rfl
                                  refine QX (i := 5) (N := some 48) (v := ?_) (a' := ?_) #[true, true, true, false, true, true, false, false, false, false, false, false, false] rfl rfl (QL HT_.out (by kernel_rfl)) (fun _ _ _ h => h) (Or.inl ⟨by rfl, ?_⟩) ?_ ?_; rotate_left
                                  · intro w'; go_simp; with_reducible rfl
                                  rotate_left
                                  · simp only [Act.put, zA, zB, zC, QC, QD]; rfl
                                  refine QX (i := 6) (N := some 49) (v := ?_) (a' := ?_) #[true, true, true, false, true, true, true, false, false, false, false, false, false] rfl rfl (QL HT_.out (by kernel_rfl)) (fun _ _ _ h => h) (Or.inl ⟨by rfl, ?_⟩) ?_ ?_; rotate_left
                                  · intro w'; go_simp; with_reducible rfl
                                  rotate_left
                                  · simp only [Act.put, zA, zB, zC, QC, QD]; rfl
                                  refine QX (i := 8) (N := some 51) (v := ?_) (a' := ?_) #[true, true, true, false, true, true, true, false, true, false, false, false, false] rfl rfl (QL HT_.out (by kernel_rfl)) (fun _ _ _ h => h) (Or.inl ⟨by rfl, ?_⟩) ?_ ?_; rotate_left
                                  · intro w'; go_simp; with_reducible rfl
                                  rotate_left
                                  · simp only [Act.put, zA, zB, zC, QC, QD]; rfl
                                  refine ZY (i := 3) (N := some 46) (v := ?_) (a' := ?_) #[true, true, true, true, true, true, true, false, true, false, false, false, false] rfl rfl (Zq HT_.out HW_.out (by kernel_rfl)) (fun _ _ _ h => h) (Or.inl ⟨by rfl, ?_⟩) hHeld ?_ ?_; rotate_left
                                  · rintro w' ⟨s0, s1⟩; go_simp; with_reducible rfl
                                  rotate_left
                                  · simp only [Act.put, zA, zB, zC, QC, QD]; rfl
                                  refine ZY (i := 7) (N := some 50) (v := ?_) (a' := ?_) #[true, true, true, true, true, true, true, true, true, false, false, false, false] rfl rfl (Zq HT_.out HW_.out (by kernel_rfl)) (fun _ _ _ h => h) (Or.inl ⟨by rfl, ?_⟩) hHeld ?_ ?_; rotate_left
                                  · rintro w' ⟨s0, s1⟩; go_simp; with_reducible rfl
                                  rotate_left
                                  · simp only [Act.put, zA, zB, zC, QC, QD]; rfl
                                  refine QX (i := 9) (N := some 52) (v := ?_) (a' := ?_) #[true, true, true, true, true, true, true, true, true, true, false, false, false] rfl rfl (QL HT_.out (by kernel_rfl)) (fun _ _ _ h => h) (Or.inl ⟨by rfl, ?_⟩) ?_ ?_; rotate_left
                                  · intro w'; go_simp; with_reducible rfl
                                  rotate_left
                                  · simp only [Act.put, zA, zB, zC, QC, QD]; rfl
                                  refine QX (i := 10) (N := some 53) (v := ?_) (a' := ?_) #[true, true, true, true, true, true, true, true, true, true, true, false, false] rfl rfl (QL HT_.out (by kernel_rfl)) (fun _ _ _ h => h) (Or.inl ⟨by rfl, ?_⟩) ?_ ?_; rotate_left
                                  · intro w'; go_simp; with_reducible rfl
                                  rotate_left
                                  · simp only [Act.put, zA, zB, zC, QC, QD]; rfl
                                  refine QX (i := 11) (N := some 54) (v := ?_) (a' := ?_) #[true, true, true, true, true, true, true, true, true, true, true, true, false] rfl rfl (QL HT_.out (by kernel_rfl)) (fun _ _ _ h => h) (Or.inl ⟨by rfl, ?_⟩) ?_ ?_; rotate_left
                                  · intro w'; go_simp; with_reducible rfl
                                  rotate_left
                                  · simp only [Act.put, zA, zB, zC, QC, QD]; rfl
                                  refine last_ (i := 12) (N := none) #[true, true, true, true, true, true, true, true, true, true, true, true, true] rfl rfl (ZW HT_.out (by kernel_rfl)) (by decide) (fun K hK => ?_); refine skip_ (w1 := ?_) (by rfl) rfl ?_ ?_; rotate_left
                                  · go_simp; rfl
                                  refine hK.out _ _ ?_; clear hK K; refine YN (Yo HT_.out (by kernel_rfl)) ?_; try go_wp2
                                  go_roundg k2
                                  case measure => have := HK1.out; have := HK2.out; omega
                                  case rel => exact ⟨(m5), (wrap64 (b6 + 1)), (by first | rfl | (simp; done) | (simp [*]; done)), H', ⟨by have := HK1.out; have := HK2.out; omega⟩, ⟨by (with_reducible repeat (first | apply Kd.R_alloc | apply Kd.R_drewN | apply Kd.QO)); exact wD.out⟩, ⟨by (with_reducible repeat (first | apply Kd.R_alloc | apply Kd.R_drewN | apply Kd.QO)); exact Kd.Zc (Kd.R_far (p := ⟨tP, (b6 : Int).toNat, none⟩) (Kd.Zc ax.out (fun k_ hk => (⟨hk, fun e_ => hk (by rw [e_]; rfl)⟩ : _ ∧ k_ ≠ tP))) (fun _ hk => hk.2) (.int .i64 (wrap64 ((rd jh b6) + (wrap64 ((rd l1 bC) * (rd (Qu ae bC) b6))))))) (fun _ hk => hk.1)⟩, ⟨by (with_reducible repeat (first | refine Qx ?_ _ | refine QA ?_ | refine Qw ?_ _)); refine blk_far ?_ (by have h_ := Kd.R_ne bA.out ab.out (by decide); intro e_; exact h_ (by rw [e_]; rfl)) _; (with_reducible repeat (first | refine Qx ?_ _ | refine QA ?_ | refine Qw ?_ _)); exact ab.out⟩, ⟨by repeat (first | (with_reducible first | exact HB.out | apply Q0 | apply QI | apply QR | refine Zn ?_ Ad.out | refine Zn ?_ aT.out) | exact HB.out)⟩⟩
                                · rw [if_neg c22] at H; exact absurd H (by simp)
                              · rw [if_neg c21] at H; exact absurd H (by simp)
                            · rw [if_neg c20] at H; exact absurd H (by simp)
                          · rw [if_neg c19] at H; exact absurd H (by simp)
                        · rw [if_neg c18] at H; exact absurd H (by simp)
                      · rw [if_neg c17] at H; have gp : decide (b6 < ((Qu ae bC).length : Int)) = false := decide_eq_false c17; clear c17; have H' := aa.mk H; clear H; go_wp2; go_roundg k2
                        case measure => have := HK1.out; have := HK2.out; omega
                        case rel => exact ⟨(jh), (wrap64 (bC + 1)), (by first | rfl | (simp; done) | (simp [*]; done)), H', ⟨by have := HK1.out; have := HK2.out; omega⟩, ⟨by (with_reducible repeat (first | apply Kd.R_alloc | apply Kd.R_drewN | apply Kd.QO)); exact bA.out⟩, ⟨by (with_reducible repeat (first | apply Kd.R_alloc | apply Kd.R_drewN | apply Kd.QO)); exact ax.out⟩, ⟨by (with_reducible repeat (first | refine Qx ?_ _ | refine QA ?_ | refine Qw ?_ _)); exact ab.out⟩, ⟨by repeat (first | (with_reducible first | exact HB.out | apply Q0 | apply QI | apply QR | refine Zn ?_ aT.out) | exact HB.out)⟩⟩
                · rw [if_neg c16] at H; exact absurd H (by simp)
              · rw [if_neg c15] at H; exact absurd H (by simp)
            · rw [if_neg c14] at H; have gr : decide (bC < (ae.length : Int)) = false := decide_eq_false c14; clear c14; have H' := aa.mk H; clear H; have ke : wr.cell? ⟨ag, 0, none⟩ = some (.slice (some bM) ae.length an) := (Qd ab.out 0).trans rfl; have kc : wr.cell? ⟨ag, 1, none⟩ = some (.slice aj af.length al) := (Qd ab.out 1).trans rfl; have j5 := Qc ab.out 0; have j4 := Qc ab.out 1; go_wp2; go_loopg [60] k1 (fun kq v60 w' => ∃ (aG : List Int) (bO : Int), v60 = .int .i64 bO ∧ aa (Qt.l2 kq l1 au aG af (af.length : Int) bO ae af = some (r1, r2)) ∧ aa (kq ≤ k1) ∧ aa (Kd.R (Kd.int .i64) 3 w' w.heap.size (fun k_ => some k_ ≠ (dA : Value).ownBlock) fc au) ∧ aa (Kd.R (Kd.int .i64) 3 w' w.heap.size (fun k_ => some k_ ≠ (fc : Value).ownBlock) dA aG) ∧ aa (w'.heap[ag]? = some (.cells #[(.slice (some bM) ae.length an), (.slice aj af.length al)] 24 (0, 0))) ∧ aa (Below w.heap.size w w'))
              case atStart => exact ⟨(jM), (0), (by first | rfl | (simp; done) | (simp [*]; done)), H', ⟨Nat.le_refl _⟩, ⟨by (with_reducible repeat (first | apply Kd.R_alloc | apply Kd.R_drewN | apply Kd.QO)); exact bA.out⟩, ⟨by (with_reducible repeat (first | apply Kd.R_alloc | apply Kd.R_drewN | apply Kd.QO)); exact ax.out⟩, ⟨by (with_reducible repeat (first | refine Qx ?_ _ | refine QA ?_ | refine Qw ?_ _)); exact ab.out⟩, ⟨by repeat (first | (with_reducible first | exact HB.out | apply Q0 | apply QI | apply QR | refine Zn ?_ aT.out) | exact HB.out)⟩⟩
              case round =>
                clear H'; try clear c1
                try clear p1
                try clear q1
                try clear hx1
                try clear qi1
                try clear c2
                try clear p2
                try clear q2
                try clear hx2
                try clear hf2
                try clear c3
                try clear bL
                try clear cA
                try clear c4
                try clear bI
                try clear eh
                try clear c5
                try clear dh
                try clear iz
                try clear p6
                try clear c8
                try clear c10
                try clear p10
                try clear q10
                try clear ir
                try clear mo
                try clear c11
                try clear p11
                try clear q11
                try clear te
                try clear c14
                try clear gr
                try clear c15
                try clear fP
                try clear c16
                try clear gX
                try clear c17
                try clear gp
                try clear c18
                try clear iW
                try clear c19
                try clear eO
                try clear c20
                try clear kS
                try clear c21
                try clear jD
                try clear c22
                try clear fE
                try clear p23
                try clear q23
                try clear yI
                try clear zg
                try clear e9
                try clear e8
                try clear ke
                try clear kc
                try clear e5
                try clear eZ
                try clear j5
                try clear j4
                try clear aI
                try clear a9
                try clear bK
                try clear fY
                try clear bt
                try clear cj
                try clear nj
                try clear p1
                try clear p10
                try clear bH
                try clear cU
                try clear p11
                try clear gy
                try clear jo
                try clear eJ
                try clear jn
                try clear p2
                try clear p23
                try clear q1
                try clear q10
                try clear bG
                try clear cT
                try clear q11
                try clear gv
                try clear jk
                try clear eI
                try clear jj
                try clear q23
                obtain ⟨aG, bO, rfl, HA, HK2, bA, ax, ab, HB⟩ := hrel; cases gk with
                | zero => exact absurd HA.out (by simp [Qt.l2])
                | succ k2 =>
                  have H := HA.out; clear HA; simp only [Qt.l2] at H; by_cases c28 : bO < (af.length : Int)
                  · rw [if_pos c28] at H; have qb : decide (bO < (af.length : Int)) = true := decide_eq_true c28; clear c28; by_cases c29 : 0 ≤ bO
                    · rw [if_pos c29] at H; have mQ : decide (0 ≤ bO) = true := decide_eq_true c29; clear c29; by_cases c30 : bO < (af.length : Int)
                      · rw [if_pos c30] at H; have sy : decide (bO < (af.length : Int)) = true := decide_eq_true c30; clear c30; have H' := aa.mk H; clear H; have iq : 0 ≤ (bO : Int) := of_decide_eq_true (by first | (with_reducible assumption) | assumption); have im : bO < (af.length : Int) := of_decide_eq_true (by first | (with_reducible assumption) | assumption); obtain ⟨eQ, k7, lX, pS, da, fy, fB⟩ := ZJ az.out bO iq im; cases pS; replace da := (HB.out.cell (World.block_lt_of_cell? w _ da)).trans da; have ew := aa.mk fB; have oN := aa.mk fy; clear fB fy; replace iq := eq_true iq; replace im := eq_true im; go_wp2; go_loopg [67] k2 (fun kq v67 w' => ∃ (dj : List Int) (bN : Int), v67 = .int .i64 bN ∧ aa (Qt.l3 kq l1 au dj bO af (af.length : Int) bO (Qu af bO) ((Qu af bO).length : Int) bN ae af = some (r1, r2)) ∧ aa (kq ≤ k2) ∧ aa (Kd.R (Kd.int .i64) 3 w' w.heap.size (fun k_ => some k_ ≠ (dA : Value).ownBlock) fc au) ∧ aa (Kd.R (Kd.int .i64) 3 w' w.heap.size (fun k_ => some k_ ≠ (fc : Value).ownBlock) dA dj) ∧ aa (w'.heap[ag]? = some (.cells #[(.slice (some bM) ae.length an), (.slice (some eQ) af.length al)] 24 (0, 0))) ∧ aa (Below w.heap.size w w'))
                        case atStart => exact ⟨(aG), (0), (by first | rfl | (simp; done) | (simp [*]; done)), H', ⟨Nat.le_refl _⟩, ⟨by (with_reducible repeat (first | apply Kd.R_alloc | apply Kd.R_drewN | apply Kd.QO)); exact bA.out⟩, ⟨by (with_reducible repeat (first | apply Kd.R_alloc | apply Kd.R_drewN | apply Kd.QO)); exact ax.out⟩, ⟨by (with_reducible repeat (first | refine Qx ?_ _ | refine QA ?_ | refine Qw ?_ _)); exact ab.out⟩, ⟨by repeat (first | (with_reducible first | exact HB.out | apply Q0 | apply QI | apply QR | refine Zn ?_ aT.out) | exact HB.out)⟩⟩
                        case round =>
                          clear H'; try clear c1
                          try clear p1
                          try clear q1
                          try clear hx1
                          try clear qi1
                          try clear c2
                          try clear p2
                          try clear q2
                          try clear hx2
                          try clear hf2
                          try clear c3
                          try clear bL
                          try clear cA
                          try clear c4
                          try clear bI
                          try clear eh
                          try clear c5
                          try clear dh
                          try clear iz
                          try clear p6
                          try clear c8
                          try clear c10
                          try clear p10
                          try clear q10
                          try clear ir
                          try clear mo
                          try clear c11
                          try clear p11
                          try clear q11
                          try clear te
                          try clear c14
                          try clear gr
                          try clear c15
                          try clear fP
                          try clear c16
                          try clear gX
                          try clear c17
                          try clear gp
                          try clear c18
                          try clear iW
                          try clear c19
                          try clear eO
                          try clear c20
                          try clear kS
                          try clear c21
                          try clear jD
                          try clear c22
                          try clear fE
                          try clear p23
                          try clear q23
                          try clear yI
                          try clear zg
                          try clear c28
                          try clear qb
                          try clear c29
                          try clear mQ
                          try clear c30
                          try clear sy
                          try clear e9
                          try clear e8
                          try clear ke
                          try clear kc
                          try clear e5
                          try clear eZ
                          try clear j5
                          try clear j4
                          try clear aI
                          try clear a9
                          try clear bK
                          try clear fY
                          try clear bt
                          try clear cj
                          try clear da
                          try clear nj
                          try clear p1
                          try clear p10
                          try clear bH
                          try clear cU
                          try clear p11
                          try clear gy
                          try clear jo
                          try clear eJ
                          try clear jn
                          try clear iq
                          try clear p2
                          try clear p23
                          try clear p6
                          try clear q1
                          try clear q10
                          try clear bG
                          try clear cT
                          try clear q11
                          try clear gv
                          try clear jk
                          try clear eI
                          try clear jj
                          try clear im
                          try clear q2
                          try clear q23
                          obtain ⟨dj, bN, rfl, HA, HK3, bA, ax, ab, HB⟩ := hrel; cases gk with
                          | zero => exact absurd HA.out (by simp [Qt.l3])
                          | succ k3 =>
                            have H := HA.out; clear HA; simp only [Qt.l3] at H; by_cases c31 : bN < ((Qu af bO).length : Int)
                            · rw [if_pos c31] at H; have wb : decide (bN < ((Qu af bO).length : Int)) = true := decide_eq_true c31; clear c31; by_cases c32 : 0 ≤ bN
                              · rw [if_pos c32] at H; have jB : decide (0 ≤ bN) = true := decide_eq_true c32; clear c32; by_cases c33 : bN < ((Qu af bO).length : Int)
                                · rw [if_pos c33] at H; have sx : decide (bN < ((Qu af bO).length : Int)) = true := decide_eq_true c33; clear c33; by_cases c34 : bN < (dj.length : Int)
                                  · rw [if_pos c34] at H; have sw : decide (bN < (dj.length : Int)) = true := decide_eq_true c34; clear c34; obtain ⟨hY, po⟩ : ∃ j_ : Int, (wrap64 ((ae.length : Int) + bO)) = j_ := ⟨_, rfl⟩; replace H : (if 0 ≤ (hY) then (if (hY) < (l1.length : Int) then (Qt.l3 k3 l1 au (dj.set (bN : Int).toNat (wrap64 ((rd dj bN) + (wrap64 ((rd l1 (hY)) * (rd (Qu af bO) bN)))))) bO af (af.length : Int) bO (Qu af bO) ((Qu af bO).length : Int) (wrap64 (bN + 1)) ae af) else (none)) else (none)) = some (r1, r2) := by first | (rw [po] at H; exact H) | (simp only [po] at H ⊢; exact H)
                                    have yO : (IntKind.i64.wrap ((ae.length : Int) + bO)) = hY := (QC _).trans po; by_cases c36 : 0 ≤ (hY)
                                    · rw [if_pos c36] at H; have sv : decide (0 ≤ (hY)) = true := decide_eq_true c36; clear c36; by_cases c37 : (hY) < (l1.length : Int)
                                      · rw [if_pos c37] at H; have AL : decide ((hY) < (l1.length : Int)) = true := decide_eq_true c37; clear c37; obtain ⟨o7, gJ⟩ : ∃ y_ : List Int, y_ = (dj.set (bN : Int).toNat (wrap64 ((rd dj bN) + (wrap64 ((rd l1 (hY)) * (rd (Qu af bO) bN)))))) := ⟨_, rfl⟩; replace H : (Qt.l3 k3 l1 au o7 bO af (af.length : Int) bO (Qu af bO) ((Qu af bO).length : Int) (wrap64 (bN + 1)) ae af) = some (r1, r2) := by first | (rw [gJ]; with_reducible exact H) | (have H2_ := (Option.bind_some _ _).symm.trans H; rw [gJ]; with_reducible exact H2_) | (have H2_ := (Option.bind_some _ _).symm.trans H; with_reducible exact H2_) | with_reducible exact H | (rw [gJ]; exact H) | exact H
                                        have ow := aa.mk gJ; clear gJ; have H' := aa.mk H; clear H; have dK : 0 ≤ (bN : Int) := of_decide_eq_true (by first | (with_reducible assumption) | assumption); have dJ : bN < ((Qu af bO).length : Int) := of_decide_eq_true (by first | (with_reducible assumption) | assumption); obtain ⟨fI, jv, b8⟩ := Kd.Zi ew.out bN dK dJ; cases jv; replace b8 := (HB.out.cell (World.block_lt_of_cell? w _ b8)).trans b8; replace dK := eq_true dK; replace dJ := eq_true dJ; try go_wp2
                                        replace bA := aa.mk (Kd.QO bA.out); replace ax := aa.mk (Kd.QO ax.out); replace ab := aa.mk (QA ab.out); replace HB := aa.mk (QR HB.out); obtain ⟨rP, rr, oU⟩ := Kd.Zg ax.out; (first | subst oU | (injection oU with f1_ f2_ f3_; have f4_ := f1_.symm; have f5_ := f3_.symm; clear f1_ f2_ f3_; subst f4_; subst f5_))
                                        have fh : 0 ≤ (bN : Int) := of_decide_eq_true (by first | (with_reducible assumption) | assumption); have fg : bN < (dj.length : Int) := of_decide_eq_true (by first | (with_reducible assumption) | assumption); obtain ⟨jG, lW, cL⟩ := Kd.Zi (Kd.QE ax.out).2.2 bN fh fg; cases lW; replace fh := eq_true fh; replace fg := eq_true fg; have jm : 0 ≤ ((hY) : Int) := of_decide_eq_true (by first | (with_reducible assumption) | assumption); have ji : (hY) < (l1.length : Int) := of_decide_eq_true (by first | (with_reducible assumption) | assumption); obtain ⟨mT, pR, dM⟩ := Kd.Zi HR1.out (hY) jm ji; have nT := dM; cases pR; replace dM := (HB.out.cell (World.block_lt_of_cell? w _ dM)).trans dM; replace jm := eq_true jm; replace ji := eq_true ji; have p38 : 0 ≤ (bN : Int) := of_decide_eq_true (by first | (with_reducible assumption) | assumption); have q38 : (bN : Int) < ((dj.length : Int) : Int) := of_decide_eq_true (by first | (with_reducible assumption) | assumption); obtain ⟨tO, BG, vK, vG, zp, BI, wJ⟩ := Kd.VK ax.out (by omega); (first | cases vK | (injection vK with ea_ en_ ec_; (first | subst ea_ | (injection ea_ with ea_; subst ea_)); subst ec_; clear en_))
                                        have Ab := aa.mk vG; have z8 := aa.mk wJ; clear vG zp wJ; (first | simp only [Z9] at cL | skip)
                                        obtain ⟨td, tt⟩ := Kd.Vv 0 ax.out (bN : Int) p38 q38; replace p38 := eq_true p38; replace q38 := eq_true q38; have uC := Kd.R_putn ax.out (bN : Int) (wrap64 ((rd dj bN) + (wrap64 ((rd l1 (hY)) * (rd (Qu af bO) bN))))); rw [← ow.out] at uC; have wC := aa.mk uC; clear uC; refine Yw (n := 17) (S := fun w' => w'.cell? ⟨ag, 0, none⟩ = some (.slice (some bM) ae.length an) ∧ w'.cell? ⟨ag, 1, none⟩ = some (.slice (some eQ) af.length al) ∧ w'.cell? ⟨tO, (bN).toNat, none⟩ = some (.int .i64 (rd dj bN)) ∧ w'.cell? (mT.add ((hY)).toNat) = some (.int .i64 (rd l1 (hY)))) (ds := [16]) #[false, false, false, false, false, false, false, false, false, false, false, false, false, false, false, false, false] (by kernel_rfl) rfl rfl ⟨(Qd ab.out 0).trans rfl, (Qd ab.out 1).trans rfl, cL, ((HB.out.cell (World.block_lt_of_cell? w _ nT)).trans nT)⟩ (fun hHeld => ?_); refine ZZ Qt.tab17 Qt.bits17 (fun HT_ HW_ => ?_); generalize wr.drew = w39 at bA ax ab HB z8 wC tt cL dM td hHeld ⊢; refine QX (i := 0) (N := some 72) (v := ?_) (a' := ?_) #[true, false, false, false, false, false, false, false, false, false, false, false, false, false, false, false, false] rfl rfl (QL HT_.out (by kernel_rfl)) (fun _ _ _ h => h) (Or.inl ⟨by rfl, ?_⟩) ?_ ?_; rotate_left
                                        · intro w'; go_simp; with_reducible rfl
                                        rotate_left
                                        · simp only [Act.put, zA, zB, zC, QC, QD]; rfl
                                        refine QX (i := 1) (N := some 73) (v := ?_) (a' := ?_) #[true, true, false, false, false, false, false, false, false, false, false, false, false, false, false, false, false] rfl rfl (QL HT_.out (by kernel_rfl)) (fun _ _ _ h => h) (Or.inl ⟨by rfl, ?_⟩) ?_ ?_; rotate_left
                                        · intro w'; go_simp; with_reducible rfl
                                        rotate_left
                                        · simp only [Act.put, zA, zB, zC, QC, QD]; rfl
                                        refine QX (i := 2) (N := some 74) (v := ?_) (a' := ?_) #[true, true, true, false, false, false, false, false, false, false, false, false, false, false, false, false, false] rfl rfl (QL HT_.out (by kernel_rfl)) (fun _ _ _ h => h) (Or.inl ⟨by rfl, ?_⟩) ?_ ?_; rotate_left
                                        · intro w'; go_simp; with_reducible rfl
                                        rotate_left
                                        · simp only [Act.put, zA, zB, zC, QC, QD]; rfl
                                        refine QX (i := 4) (N := some 76) (v := ?_) (a' := ?_) #[true, true, true, false, true, false, false, false, false, false, false, false, false, false, false, false, false] rfl rfl (QL HT_.out (by kernel_rfl)) (fun _ _ _ h => h) (Or.inl ⟨by rfl, ?_⟩) ?_ ?_; rotate_left
                                        · intro w'; go_simp; with_reducible rfl
                                        rotate_left
                                        · simp only [Act.put, zA, zB, zC, QC, QD]; rfl
                                        refine QX (i := 5) (N := some 77) (v := ?_) (a' := ?_) #[true, true, true, false, true, true, false, false, false, false, false, false, false, false, false, false, false] rfl rfl (QL HT_.out (by kernel_rfl)) (fun _ _ _ h => h) (Or.inl ⟨by rfl, ?_⟩) ?_ ?_; rotate_left
                                        · intro w'; go_simp; with_reducible rfl
                                        rotate_left
                                        · simp only [Act.put, zA, zB, zC, QC, QD]; rfl
                                        refine QX (i := 8) (N := some 80) (v := ?_) (a' := ?_) #[true, true, true, false, true, true, false, false, true, false, false, false, false, false, false, false, false] rfl rfl (QL HT_.out (by kernel_rfl)) (fun _ _ _ h => h) (Or.inl ⟨by rfl, ?_⟩) ?_ ?_; rotate_left
                                        · intro w'; go_simp; with_reducible rfl
                                        rotate_left
                                        · simp only [Act.put, zA, zB, zC, QC, QD]; rfl
                                        refine QX (i := 12) (N := some 84) (v := ?_) (a' := ?_) #[true, true, true, false, true, true, false, false, true, false, false, false, true, false, false, false, false] rfl rfl (QL HT_.out (by kernel_rfl)) (fun _ _ _ h => h) (Or.inl ⟨by rfl, ?_⟩) ?_ ?_; rotate_left
                                        · intro w'; go_simp; with_reducible rfl
                                        rotate_left
                                        · simp only [Act.put, zA, zB, zC, QC, QD]; rfl
                                        refine ZY (i := 3) (N := some 75) (v := ?_) (a' := ?_) #[true, true, true, true, true, true, false, false, true, false, false, false, true, false, false, false, false] rfl rfl (Zq HT_.out HW_.out (by kernel_rfl)) (fun _ _ _ h => h) (Or.inl ⟨by rfl, ?_⟩) hHeld ?_ ?_; rotate_left
                                        · rintro w' ⟨s0, s1, s2, s3⟩; go_simp; with_reducible rfl
                                        rotate_left
                                        · simp only [Act.put, zA, zB, zC, QC, QD]; rfl
                                        refine ZY (i := 6) (N := some 78) (v := ?_) (a' := ?_) #[true, true, true, true, true, true, true, false, true, false, false, false, true, false, false, false, false] rfl rfl (Zq HT_.out HW_.out (by kernel_rfl)) (fun _ _ _ h => h) (Or.inl ⟨by rfl, ?_⟩) hHeld ?_ ?_; rotate_left
                                        · rintro w' ⟨s0, s1, s2, s3⟩; go_simp; with_reducible rfl
                                        rotate_left
                                        · simp only [Act.put, zA, zB, zC, QC, QD]; rfl
                                        refine QX (i := 7) (N := some 79) (v := ?_) (a' := ?_) #[true, true, true, true, true, true, true, true, true, false, false, false, true, false, false, false, false] rfl rfl (QL HT_.out (by kernel_rfl)) (fun _ _ _ h => h) (Or.inl ⟨by rfl, ?_⟩) ?_ ?_; rotate_left
                                        · intro w'; go_simp; with_reducible rfl
                                        rotate_left
                                        · simp only [Act.put, zA, zB, zC, QC, QD]; rfl
                                        refine QX (i := 9) (N := some 81) (v := ?_) (a' := ?_) #[true, true, true, true, true, true, true, true, true, true, false, false, true, false, false, false, false] rfl rfl (QL HT_.out (by kernel_rfl)) (fun _ _ _ h => h) (Or.inl ⟨by rfl, ?_⟩) ?_ ?_; rotate_left
                                        · intro w'; go_simp; with_reducible rfl
                                        rotate_left
                                        · simp only [Act.put, zA, zB, zC, QC, QD]; rfl
                                        refine QX (i := 10) (N := some 82) (v := ?_) (a' := ?_) #[true, true, true, true, true, true, true, true, true, true, true, false, true, false, false, false, false] rfl rfl (QL HT_.out (by kernel_rfl)) (fun _ _ _ h => h) (Or.inl ⟨by rfl, ?_⟩) ?_ ?_; rotate_left
                                        · intro w'; go_simp; with_reducible rfl
                                        rotate_left
                                        · simp only [Act.put, zA, zB, zC, QC, QD]; rfl
                                        refine ZY (i := 11) (N := some 83) (v := ?_) (a' := ?_) #[true, true, true, true, true, true, true, true, true, true, true, true, true, false, false, false, false] rfl rfl (Zq HT_.out HW_.out (by kernel_rfl)) (fun _ _ _ h => h) (Or.inl ⟨by rfl, ?_⟩) hHeld ?_ ?_; rotate_left
                                        · rintro w' ⟨s0, s1, s2, s3⟩; go_simp; with_reducible rfl
                                        rotate_left
                                        · simp only [Act.put, zA, zB, zC, QC, QD]; rfl
                                        refine QX (i := 13) (N := some 85) (v := ?_) (a' := ?_) #[true, true, true, true, true, true, true, true, true, true, true, true, true, true, false, false, false] rfl rfl (QL HT_.out (by kernel_rfl)) (fun _ _ _ h => h) (Or.inl ⟨by rfl, ?_⟩) ?_ ?_; rotate_left
                                        · intro w'; go_simp; with_reducible rfl
                                        rotate_left
                                        · simp only [Act.put, zA, zB, zC, QC, QD]; rfl
                                        refine QX (i := 14) (N := some 86) (v := ?_) (a' := ?_) #[true, true, true, true, true, true, true, true, true, true, true, true, true, true, true, false, false] rfl rfl (QL HT_.out (by kernel_rfl)) (fun _ _ _ h => h) (Or.inl ⟨by rfl, ?_⟩) ?_ ?_; rotate_left
                                        · intro w'; go_simp; with_reducible rfl
                                        rotate_left
                                        · simp only [Act.put, zA, zB, zC, QC, QD]; rfl
                                        refine QX (i := 15) (N := some 87) (v := ?_) (a' := ?_) #[true, true, true, true, true, true, true, true, true, true, true, true, true, true, true, true, false] rfl rfl (QL HT_.out (by kernel_rfl)) (fun _ _ _ h => h) (Or.inl ⟨by rfl, ?_⟩) ?_ ?_; rotate_left
                                        · intro w'; go_simp; with_reducible rfl
                                        rotate_left
                                        · simp only [Act.put, zA, zB, zC, QC, QD]; rfl
                                        refine last_ (i := 16) (N := none) #[true, true, true, true, true, true, true, true, true, true, true, true, true, true, true, true, true] rfl rfl (ZW HT_.out (by kernel_rfl)) (by decide) (fun K hK => ?_); refine skip_ (w1 := ?_) (by rfl) rfl ?_ ?_; rotate_left
                                        · go_simp; rfl
                                        refine hK.out _ _ ?_; clear hK K; refine YN (Yo HT_.out (by kernel_rfl)) ?_; try go_wp2
                                        go_roundg k3
                                        case measure => have := HK1.out; have := HK2.out; have := HK3.out; omega
                                        case rel => exact ⟨(o7), (wrap64 (bN + 1)), (by first | rfl | (simp; done) | (simp [*]; done)), H', ⟨by have := HK1.out; have := HK2.out; have := HK3.out; omega⟩, ⟨by (with_reducible repeat (first | apply Kd.R_alloc | apply Kd.R_drewN | apply Kd.QO)); exact Kd.Zc (Kd.R_far (p := ⟨tO, (bN : Int).toNat, none⟩) (Kd.Zc bA.out (fun k_ hk => (⟨hk, fun e_ => hk (by rw [e_]; rfl)⟩ : _ ∧ k_ ≠ tO))) (fun _ hk => hk.2) (.int .i64 (wrap64 ((rd dj bN) + (wrap64 ((rd l1 (hY)) * (rd (Qu af bO) bN))))))) (fun _ hk => hk.1)⟩, ⟨by (with_reducible repeat (first | apply Kd.R_alloc | apply Kd.R_drewN | apply Kd.QO)); exact wC.out⟩, ⟨by (with_reducible repeat (first | refine Qx ?_ _ | refine QA ?_ | refine Qw ?_ _)); refine blk_far ?_ (by have h_ := Kd.R_ne ax.out ab.out (by decide); intro e_; exact h_ (by rw [e_]; rfl)) _; (with_reducible repeat (first | refine Qx ?_ _ | refine QA ?_ | refine Qw ?_ _)); exact ab.out⟩, ⟨by repeat (first | (with_reducible first | exact HB.out | apply Q0 | apply QI | apply QR | refine Zn ?_ Ab.out | refine Zn ?_ aT.out) | exact HB.out)⟩⟩
                                      · rw [if_neg c37] at H; exact absurd H (by simp)
                                    · rw [if_neg c36] at H; exact absurd H (by simp)
                                  · rw [if_neg c34] at H; exact absurd H (by simp)
                                · rw [if_neg c33] at H; exact absurd H (by simp)
                              · rw [if_neg c32] at H; exact absurd H (by simp)
                            · rw [if_neg c31] at H; have wb : decide (bN < ((Qu af bO).length : Int)) = false := decide_eq_false c31; clear c31; have H' := aa.mk H; clear H; go_wp2; go_roundg k3
                              case measure => have := HK1.out; have := HK2.out; have := HK3.out; omega
                              case rel => exact ⟨(dj), (wrap64 (bO + 1)), (by first | rfl | (simp; done) | (simp [*]; done)), H', ⟨by have := HK1.out; have := HK2.out; have := HK3.out; omega⟩, ⟨by (with_reducible repeat (first | apply Kd.R_alloc | apply Kd.R_drewN | apply Kd.QO)); exact bA.out⟩, ⟨by (with_reducible repeat (first | apply Kd.R_alloc | apply Kd.R_drewN | apply Kd.QO)); exact ax.out⟩, ⟨by (with_reducible repeat (first | refine Qx ?_ _ | refine QA ?_ | refine Qw ?_ _)); exact ab.out⟩, ⟨by repeat (first | (with_reducible first | exact HB.out | apply Q0 | apply QI | apply QR | refine Zn ?_ aT.out) | exact HB.out)⟩⟩
                      · rw [if_neg c30] at H; exact absurd H (by simp)
                    · rw [if_neg c29] at H; exact absurd H (by simp)
                  · rw [if_neg c28] at H; have qb : decide (bO < (af.length : Int)) = false := decide_eq_false c28; clear c28; simp only [Option.some.injEq, Prod.mk.injEq] at H; obtain ⟨rfl, rfl⟩ := H; go_wp2; go_ret2; exact ⟨_, _, by first | rfl | (simp [Qk, Qj] <;> rfl) | (simp [*, Qk, Qj] <;> rfl), by (with_reducible repeat (first | apply Kd.R_alloc | apply Kd.R_drewN | apply Kd.QO)); exact bA.out, by (with_reducible repeat (first | apply Kd.R_alloc | apply Kd.R_drewN | apply Kd.QO)); exact ax.out, by repeat (first | (with_reducible first | exact HB.out | apply Q0 | apply QI | apply QR | refine Zn ?_ aT.out) | exact HB.out)⟩
      · rw [if_neg c5] at H; exact absurd H (by simp)
    · rw [if_neg c4] at H; exact absurd H (by simp)
  · rw [if_neg c3] at H; exact absurd H (by simp)
def Zr.f (k : Nat) (ae : List (List Int)) (af : List (List Int)) (l1 : List Int) : Option (Bool) := (Qt.f k ae af l1).bind fun mR => ((QT.f k mR.1 mR.2).bind fun t108 => (some t108))
theorem Zr.mono : ∀ a0 a1 a2 k, LeO (Zr.f k a0 a1 a2) (Zr.f (k + 1) a0 a1 a2) := by
 intro a0 a1 a2 k; unfold Zr.f; repeat' first | (with_reducible exact QT.mono _ _ _) | (with_reducible exact Qt.mono _ _ _ _) | (with_reducible exact LeO.refl _) | (with_reducible exact LeO.none _) | (with_reducible refine LeO.ite ?_ ?_) | (with_reducible refine LeO.bind ?_ (fun _ => ?_)) | exact QT.mono _ _ _ | exact Qt.mono _ _ _ _ | exact LeO.none _ | refine LeO.ite ?_ ?_ | refine LeO.bind ?_ (fun _ => ?_)
set_option maxHeartbeats 8000000 in
set_option maxRecDepth 100000 in
theorem Zr.calls (k : Nat) (ak : Option Addr) (an : Nat) (ae : List (List Int)) (aj : Option Addr) (al : Nat) (af : List (List Int)) (A1 : Option Addr) (c1 : Nat) (l1 : List Int) (r : Bool) (w : World) (aM : Kd.C (Kd.slice 3 (Kd.int .i64)) w ak ae.length ae) (aQ : ae.length ≤ an) (aK : Kd.C (Kd.slice 3 (Kd.int .i64)) w aj af.length af) (aN : af.length ≤ al) (hr1 : Kd.C (Kd.int .i64) w A1 l1.length l1) (hc1 : l1.length ≤ c1) (h : Zr.f k ae af l1 = some r) :
  Calls Try.prog 95 #[.agg #[.slice ak ae.length an, .slice aj af.length al], .slice A1 l1.length c1] w fun e w' => e = .returned (.bool r) ∧ Below w.heap.size w w' := by
 have ej := Try.underlying24; have ay := aa.mk aM; have aA := aa.mk aQ; clear aM aQ; have az := aa.mk aK; have aC := aa.mk aN; clear aK aN; have HR1 := aa.mk hr1; have HC1 := aa.mk hc1; clear hr1 hc1; have HB := aa.mk (Below.refl w.heap.size w); have H : ((Qt.f k ae af l1).bind fun mR => ((QT.f k mR.1 mR.2).bind fun t108 => (some t108))) = some r := h; clear h; replace H := Option.bind_eq_some_iff.mp H; obtain ⟨⟨t102, t105⟩, A30, H⟩ := H; replace H : ((QT.f k t102 t105).bind fun t108 => (some t108)) = some r := H; have A3 := aa.mk A30; clear A30; replace H := Option.bind_eq_some_iff.mp H; obtain ⟨t108, A40, H⟩ := H; replace H : (some t108) = some r := H; have A4 := aa.mk A40; clear A40; obtain rfl := Option.some.inj H; go_enter Try.func95, Try.ntmps95; go_wp2_with (first | ((with_reducible refine QN (N := 2) rfl ?_); refine Q3 ?hg (N := 2) ?hd (cs := #[.slice ak ae.length an, .slice aj af.length al]) (t := 24) ?hr ?_; (case hd => rfl); (case hg => rfl); (case hr => first | (go_simp; done) | (go_simp; rfl)); intro ag hg w5 hbox hb; have ab := aa.mk (hbox); have bh := aa.mk ((by rw [hg]; exact (Qb bB) : w.heap.size ≤ ag)); have aT := aa.mk ((by rw [hg]; exact (Qb bB) : w.heap.size ≤ ag)); replace HB := aa.mk (Qa bB hb); clear hb hbox hg; have dE : w5.cell? ⟨ag, 0, none⟩ = some (.slice ak ae.length an) := (Qd ab.out 0).trans rfl; have dD : w5.cell? ⟨ag, 1, none⟩ = some (.slice aj af.length al) := (Qd ab.out 1).trans rfl; have dC := Qc ab.out 0; have dB := Qc ab.out 1) | ((with_reducible refine Qh (f := 88) rfl ?_); refine QG (some 10) rfl rfl Try.func88 (by kernel_rfl) rfl #[.agg #[.slice ak ae.length an, .slice aj af.length al], .slice A1 l1.length c1] rfl hA ?_; (with_reducible refine (Qt.calls k _ _ ae _ _ af _ _ l1 t102 t105 _ ?ah ?ai ?aq ?ar ?bE ?bD A3.out).mono ?_); (case ah => exact (Kd.Qq ay.out HB.out)); (case ai => exact aA.out); (case aq => exact (Kd.Qq az.out HB.out)); (case ar => exact aC.out); (case bE => exact (Kd.Qq HR1.out HB.out)); (case bD => exact HC1.out); rintro e w7 ⟨gG, ik, rfl, ho0, ho1, hb⟩; refine ⟨_, rfl, ?_⟩; have ba := aa.mk (Kd.Zh ho0 (Qb bB)); have bY := aa.mk (Kd.Zh ho1 (Qb bB)); replace ab := aa.mk (Qp ab.out hb); replace HB := aa.mk (Qa bB hb); (try clear hb); (try clear hb2); (try clear hk); (try clear hi); (try clear ho0); (try clear ho1); obtain ⟨Ao8, co8, eo8⟩ := Kd.Zg ba.out; subst eo8; obtain ⟨Ao9, co9, eo9⟩ := Kd.Zg bY.out; subst eo9) | ((with_reducible refine Qh (f := 122) rfl ?_); refine QG (some 15) rfl rfl Try.func122 (by kernel_rfl) rfl #[.slice Ao8 t102.length co8, .slice Ao9 t105.length co9] rfl hA ?_; (with_reducible refine (QT.calls k _ _ t102 _ _ t105 t108 _ ?ah ?ai ?aq ?ar A4.out).mono ?_); (case ah => exact (Kd.QE ba.out).2.2); (case ai => exact (Kd.QE ba.out).2.1); (case aq => exact (Kd.QE bY.out).2.2); (case ar => exact (Kd.QE bY.out).2.1); rintro e w' ⟨rfl, ⟨nd, rfl⟩⟩; refine ⟨_, rfl, ?_⟩))
 go_ret; exact ⟨by first | rfl | (simp [Qk, Qj] <;> rfl) | (simp [*, Qk, Qj] <;> rfl), bB⟩
def Zy.f (k : Nat) (ae : List (List Int)) (af : List (List Int)) (l1 : List Int) (l2 : List Int) : Option (Int) := (ZD.f k ae af l1).bind fun t102 => (if t102 = 0 then ((Zp.f l2 (ae.length : Int) 0 1000).bind fun t103 => (if t103 = true then ((Qn.f k l1).bind fun t104 => (if t104 ≤ 0 then (some 8) else ((Zr.f k ae af l1).bind fun t105 => (if t105 = true then (some 0) else (some 8))))) else (some 1))) else (some t102))
theorem Zy.mono : ∀ a0 a1 a2 a3 k, LeO (Zy.f k a0 a1 a2 a3) (Zy.f (k + 1) a0 a1 a2 a3) := by
 intro a0 a1 a2 a3 k; unfold Zy.f; repeat' first | (with_reducible exact Qn.mono _ _) | (with_reducible exact Zr.mono _ _ _ _) | (with_reducible exact ZD.mono _ _ _ _) | (with_reducible exact LeO.refl _) | (with_reducible exact LeO.none _) | (with_reducible refine LeO.ite ?_ ?_) | (with_reducible refine LeO.bind ?_ (fun _ => ?_)) | exact Qn.mono _ _ | exact Zr.mono _ _ _ _ | exact ZD.mono _ _ _ _ | exact LeO.none _ | refine LeO.ite ?_ ?_ | refine LeO.bind ?_ (fun _ => ?_)
set_option maxHeartbeats 8000000 in
set_option maxRecDepth 100000 in
theorem Zy.calls (k : Nat) (ak : Option Addr) (an : Nat) (ae : List (List Int)) (aj : Option Addr) (al : Nat) (af : List (List Int)) (A1 : Option Addr) (c1 : Nat) (l1 : List Int) (A2 : Option Addr) (c2 : Nat) (l2 : List Int) (r : Int) (w : World) (aM : Kd.C (Kd.slice 3 (Kd.int .i64)) w ak ae.length ae) (aQ : ae.length ≤ an) (aK : Kd.C (Kd.slice 3 (Kd.int .i64)) w aj af.length af) (aN : af.length ≤ al) (hr1 : Kd.C (Kd.int .i64) w A1 l1.length l1) (hc1 : l1.length ≤ c1) (hr2 : Kd.C (Kd.int .i64) w A2 l2.length l2) (hc2 : l2.length ≤ c2) (h : Zy.f k ae af l1 l2 = some r) :
  Calls Try.prog 89 #[.agg #[.slice ak ae.length an, .slice aj af.length al], .slice A1 l1.length c1, .slice A2 l2.length c2] w fun e w' => e = .returned (.int .i64 r) ∧ Below w.heap.size w w' := by
 have ej := Try.underlying24; have ay := aa.mk aM; have aA := aa.mk aQ; clear aM aQ; have az := aa.mk aK; have aC := aa.mk aN; clear aK aN; have HR1 := aa.mk hr1; have HC1 := aa.mk hc1; clear hr1 hc1; have HR2 := aa.mk hr2; have HC2 := aa.mk hc2; clear hr2 hc2; have HB := aa.mk (Below.refl w.heap.size w); have H : ((ZD.f k ae af l1).bind fun t102 => (if t102 = 0 then ((Zp.f l2 (ae.length : Int) 0 1000).bind fun t103 => (if t103 = true then ((Qn.f k l1).bind fun t104 => (if t104 ≤ 0 then (some 8) else ((Zr.f k ae af l1).bind fun t105 => (if t105 = true then (some 0) else (some 8))))) else (some 1))) else (some t102))) = some r := h; clear h; replace H := Option.bind_eq_some_iff.mp H; obtain ⟨t102, A40, H⟩ := H; replace H : (if t102 = 0 then ((Zp.f l2 (ae.length : Int) 0 1000).bind fun t103 => (if t103 = true then ((Qn.f k l1).bind fun t104 => (if t104 ≤ 0 then (some 8) else ((Zr.f k ae af l1).bind fun t105 => (if t105 = true then (some 0) else (some 8))))) else (some 1))) else (some t102)) = some r := H; have A4 := aa.mk A40; clear A40; by_cases c5 : t102 = 0
 ·rw [if_pos c5] at H; have dh : (t102 == 0) = true := beq_iff_eq.mpr c5; have iz : (t102 != 0) = false := bne_eq_false_iff_eq.mpr c5; clear c5; replace H := Option.bind_eq_some_iff.mp H; obtain ⟨t103, A60, H⟩ := H; replace H : (if t103 = true then ((Qn.f k l1).bind fun t104 => (if t104 ≤ 0 then (some 8) else ((Zr.f k ae af l1).bind fun t105 => (if t105 = true then (some 0) else (some 8))))) else (some 1)) = some r := H; have A6 := aa.mk A60; clear A60; by_cases c7 : t103 = true
  ·subst c7; have H1 : ((Qn.f k l1).bind fun t104 => (if t104 ≤ 0 then (some 8) else ((Zr.f k ae af l1).bind fun t105 => (if t105 = true then (some 0) else (some 8))))) = some r := by rw [if_pos rfl] at H; exact H
   clear H; have H := H1; clear H1; replace H := Option.bind_eq_some_iff.mp H; obtain ⟨t104, A80, H⟩ := H; replace H : (if t104 ≤ 0 then (some 8) else ((Zr.f k ae af l1).bind fun t105 => (if t105 = true then (some 0) else (some 8)))) = some r := H; have A8 := aa.mk A80; clear A80; by_cases c9 : t104 ≤ 0
   ·rw [if_pos c9] at H; have fv : decide (t104 ≤ 0) = true := decide_eq_true c9; clear c9; obtain rfl := Option.some.inj H; go_enter Try.func89, Try.ntmps89; go_wp2_with (first | ((with_reducible refine QN (N := 3) rfl ?_); refine Q3 ?hg (N := 3) ?hd (cs := #[.slice ak ae.length an, .slice aj af.length al]) (t := 24) ?hr ?_; (case hd => rfl); (case hg => rfl); (case hr => first | (go_simp; done) | (go_simp; rfl)); intro ag hg w10 hbox hb; have ab := aa.mk (hbox); have bh := aa.mk ((by rw [hg]; exact (Qb bB) : w.heap.size ≤ ag)); have aT := aa.mk ((by rw [hg]; exact (Qb bB) : w.heap.size ≤ ag)); replace HB := aa.mk (Qa bB hb); clear hb hbox hg; have cQ : w10.cell? ⟨ag, 0, none⟩ = some (.slice ak ae.length an) := (Qd ab.out 0).trans rfl; have cP : w10.cell? ⟨ag, 1, none⟩ = some (.slice aj af.length al) := (Qd ab.out 1).trans rfl; have cO := Qc ab.out 0; have cN := Qc ab.out 1) | ((with_reducible refine Qh (f := 87) rfl ?_); refine QG (some 10) rfl rfl Try.func87 (by kernel_rfl) rfl #[.agg #[.slice ak ae.length an, .slice aj af.length al], .slice A1 l1.length c1] rfl hA ?_; (with_reducible refine (ZD.calls k _ _ ae _ _ af _ _ l1 t102 _ ?ah ?ai ?aq ?ar ?bE ?bD A4.out).mono ?_); (case ah => exact (Kd.Qq ay.out HB.out)); (case ai => exact aA.out); (case aq => exact (Kd.Qq az.out HB.out)); (case ar => exact aC.out); (case bE => exact (Kd.Qq HR1.out HB.out)); (case bD => exact HC1.out); rintro e w12 ⟨rfl, hb⟩; refine ⟨_, rfl, ?_⟩; replace ab := aa.mk (Qp ab.out hb); replace HB := aa.mk (Qa bB hb); (try clear hb); (try clear hb2); (try clear hk); (try clear hi); have e9 : w12.cell? ⟨ag, 0, none⟩ = some (.slice ak ae.length an) := (Qd ab.out 0).trans rfl; have e8 : w12.cell? ⟨ag, 1, none⟩ = some (.slice aj af.length al) := (Qd ab.out 1).trans rfl; have e5 := Qc ab.out 0; have eZ := Qc ab.out 1) | ((with_reducible refine Qh (f := 77) rfl ?_); refine QG (some 18) rfl rfl Try.func77 (by kernel_rfl) rfl #[.slice A2 l2.length c2, .int .i64 (ae.length : Int), .int .i64 0, .int .i64 1000] rfl hA ?_; (with_reducible refine (Zp.calls _ _ l2 (ae.length : Int) 0 1000 true _ ?ah ?ai A6.out).mono ?_); (case ah => exact (Kd.Qq HR2.out HB.out)); (case ai => exact HC2.out); rintro e w14 ⟨rfl, hb⟩; refine ⟨_, rfl, ?_⟩; replace ab := aa.mk (Qp ab.out hb); replace HB := aa.mk (Qa bB hb); (try clear hb); (try clear hb2); (try clear hk); (try clear hi)) | ((with_reducible refine Qh (f := 84) rfl ?_); refine QG (some 21) rfl rfl Try.func84 (by kernel_rfl) rfl #[.slice A1 l1.length c1] rfl hA ?_; (with_reducible refine (Qn.calls k _ _ l1 t104 _ ?ah ?ai A8.out).mono ?_); (case ah => exact (Kd.Qq HR1.out HB.out)); (case ai => exact HC1.out); rintro e w15 ⟨rfl, hb⟩; refine ⟨_, rfl, ?_⟩; replace ab := aa.mk (Qp ab.out hb); replace HB := aa.mk (Qa bB hb); (try clear hb); (try clear hb2); (try clear hk); (try clear hi)))
    go_ret; exact ⟨by first | rfl | (simp [Qk, Qj] <;> rfl) | (simp [*, Qk, Qj] <;> rfl), bB⟩
   ·rw [if_neg c9] at H; have fv : decide (t104 ≤ 0) = false := decide_eq_false c9; clear c9; replace H := Option.bind_eq_some_iff.mp H; obtain ⟨t105, m3, H⟩ := H; replace H : (if t105 = true then (some 0) else (some 8)) = some r := H; have A16 := aa.mk m3; clear m3; by_cases c17 : t105 = true
    ·subst c17; have H1 : (some 0) = some r := by rw [if_pos rfl] at H; exact H
     clear H; have H := H1; clear H1; obtain rfl := Option.some.inj H; go_enter Try.func89, Try.ntmps89; go_wp2_with (first | ((with_reducible refine QN (N := 3) rfl ?_); refine Q3 ?hg (N := 3) ?hd (cs := #[.slice ak ae.length an, .slice aj af.length al]) (t := 24) ?hr ?_; (case hd => rfl); (case hg => rfl); (case hr => first | (go_simp; done) | (go_simp; rfl)); intro ag hg w18 hbox hb; have ab := aa.mk (hbox); have bh := aa.mk ((by rw [hg]; exact (Qb bB) : w.heap.size ≤ ag)); have aT := aa.mk ((by rw [hg]; exact (Qb bB) : w.heap.size ≤ ag)); replace HB := aa.mk (Qa bB hb); clear hb hbox hg; have og : w18.cell? ⟨ag, 0, none⟩ = some (.slice ak ae.length an) := (Qd ab.out 0).trans rfl; have oe : w18.cell? ⟨ag, 1, none⟩ = some (.slice aj af.length al) := (Qd ab.out 1).trans rfl; have od := Qc ab.out 0; have oa := Qc ab.out 1) | ((with_reducible refine Qh (f := 87) rfl ?_); refine QG (some 10) rfl rfl Try.func87 (by kernel_rfl) rfl #[.agg #[.slice ak ae.length an, .slice aj af.length al], .slice A1 l1.length c1] rfl hA ?_; (with_reducible refine (ZD.calls k _ _ ae _ _ af _ _ l1 t102 _ ?ah ?ai ?aq ?ar ?bE ?bD A4.out).mono ?_); (case ah => exact (Kd.Qq ay.out HB.out)); (case ai => exact aA.out); (case aq => exact (Kd.Qq az.out HB.out)); (case ar => exact aC.out); (case bE => exact (Kd.Qq HR1.out HB.out)); (case bD => exact HC1.out); rintro e w20 ⟨rfl, hb⟩; refine ⟨_, rfl, ?_⟩; replace ab := aa.mk (Qp ab.out hb); replace HB := aa.mk (Qa bB hb); (try clear hb); (try clear hb2); (try clear hk); (try clear hi); have lP : w20.cell? ⟨ag, 0, none⟩ = some (.slice ak ae.length an) := (Qd ab.out 0).trans rfl; have lO : w20.cell? ⟨ag, 1, none⟩ = some (.slice aj af.length al) := (Qd ab.out 1).trans rfl; have lN := Qc ab.out 0; have lM := Qc ab.out 1) | ((with_reducible refine Qh (f := 77) rfl ?_); refine QG (some 18) rfl rfl Try.func77 (by kernel_rfl) rfl #[.slice A2 l2.length c2, .int .i64 (ae.length : Int), .int .i64 0, .int .i64 1000] rfl hA ?_; (with_reducible refine (Zp.calls _ _ l2 (ae.length : Int) 0 1000 true _ ?ah ?ai A6.out).mono ?_); (case ah => exact (Kd.Qq HR2.out HB.out)); (case ai => exact HC2.out); rintro e w22 ⟨rfl, hb⟩; refine ⟨_, rfl, ?_⟩; replace ab := aa.mk (Qp ab.out hb); replace HB := aa.mk (Qa bB hb); (try clear hb); (try clear hb2); (try clear hk); (try clear hi)) | ((with_reducible refine Qh (f := 84) rfl ?_); refine QG (some 21) rfl rfl Try.func84 (by kernel_rfl) rfl #[.slice A1 l1.length c1] rfl hA ?_; (with_reducible refine (Qn.calls k _ _ l1 t104 _ ?ah ?ai A8.out).mono ?_); (case ah => exact (Kd.Qq HR1.out HB.out)); (case ai => exact HC1.out); rintro e w23 ⟨rfl, hb⟩; refine ⟨_, rfl, ?_⟩; replace ab := aa.mk (Qp ab.out hb); replace HB := aa.mk (Qa bB hb); (try clear hb); (try clear hb2); (try clear hk); (try clear hi); have q9 : w23.cell? ⟨ag, 0, none⟩ = some (.slice ak ae.length an) := (Qd ab.out 0).trans rfl; have q8 : w23.cell? ⟨ag, 1, none⟩ = some (.slice aj af.length al) := (Qd ab.out 1).trans rfl; have qU := Qc ab.out 0; have qT := Qc ab.out 1) | (go_at_call 95; (with_reducible refine (Zr.calls k _ _ ae _ _ af _ _ l1 true _ ?ah ?ai ?aq ?ar ?bE ?bD A16.out).mono ?_); (case ah => exact (Kd.Qq ay.out HB.out)); (case ai => exact aA.out); (case aq => exact (Kd.Qq az.out HB.out)); (case ar => exact aC.out); (case bE => exact (Kd.Qq HR1.out HB.out)); (case bD => exact HC1.out); rintro e w25 ⟨rfl, hb⟩; replace ab := aa.mk (Qp ab.out hb); replace HB := aa.mk (Qa bB hb); (try clear hb); (try clear hb2); (try clear hk); (try clear hi)))
     go_ret; exact ⟨by first | rfl | (simp [Qk, Qj] <;> rfl) | (simp [*, Qk, Qj] <;> rfl), bB⟩
    ·replace c17 := Bool.eq_false_iff.mpr c17; subst c17; have H1 : (some 8) = some r := by rw [if_neg (show ¬ (false = true) by decide)] at H; exact H
     clear H; have H := H1; clear H1; obtain rfl := Option.some.inj H; go_enter Try.func89, Try.ntmps89; go_wp2_with (first | ((with_reducible refine QN (N := 3) rfl ?_); refine Q3 ?hg (N := 3) ?hd (cs := #[.slice ak ae.length an, .slice aj af.length al]) (t := 24) ?hr ?_; (case hd => rfl); (case hg => rfl); (case hr => first | (go_simp; done) | (go_simp; rfl)); intro ag hg w26 hbox hb; have ab := aa.mk (hbox); have bh := aa.mk ((by rw [hg]; exact (Qb bB) : w.heap.size ≤ ag)); have aT := aa.mk ((by rw [hg]; exact (Qb bB) : w.heap.size ≤ ag)); replace HB := aa.mk (Qa bB hb); clear hb hbox hg; have ke : w26.cell? ⟨ag, 0, none⟩ = some (.slice ak ae.length an) := (Qd ab.out 0).trans rfl; have kc : w26.cell? ⟨ag, 1, none⟩ = some (.slice aj af.length al) := (Qd ab.out 1).trans rfl; have j5 := Qc ab.out 0; have j4 := Qc ab.out 1) | ((with_reducible refine Qh (f := 87) rfl ?_); refine QG (some 10) rfl rfl Try.func87 (by kernel_rfl) rfl #[.agg #[.slice ak ae.length an, .slice aj af.length al], .slice A1 l1.length c1] rfl hA ?_; (with_reducible refine (ZD.calls k _ _ ae _ _ af _ _ l1 t102 _ ?ah ?ai ?aq ?ar ?bE ?bD A4.out).mono ?_); (case ah => exact (Kd.Qq ay.out HB.out)); (case ai => exact aA.out); (case aq => exact (Kd.Qq az.out HB.out)); (case ar => exact aC.out); (case bE => exact (Kd.Qq HR1.out HB.out)); (case bD => exact HC1.out); rintro e w28 ⟨rfl, hb⟩; refine ⟨_, rfl, ?_⟩; replace ab := aa.mk (Qp ab.out hb); replace HB := aa.mk (Qa bB hb); (try clear hb); (try clear hb2); (try clear hk); (try clear hi); have iS : w28.cell? ⟨ag, 0, none⟩ = some (.slice ak ae.length an) := (Qd ab.out 0).trans rfl; have iR : w28.cell? ⟨ag, 1, none⟩ = some (.slice aj af.length al) := (Qd ab.out 1).trans rfl; have iO := Qc ab.out 0; have iN := Qc ab.out 1) | ((with_reducible refine Qh (f := 77) rfl ?_); refine QG (some 18) rfl rfl Try.func77 (by kernel_rfl) rfl #[.slice A2 l2.length c2, .int .i64 (ae.length : Int), .int .i64 0, .int .i64 1000] rfl hA ?_; (with_reducible refine (Zp.calls _ _ l2 (ae.length : Int) 0 1000 true _ ?ah ?ai A6.out).mono ?_); (case ah => exact (Kd.Qq HR2.out HB.out)); (case ai => exact HC2.out); rintro e w30 ⟨rfl, hb⟩; refine ⟨_, rfl, ?_⟩; replace ab := aa.mk (Qp ab.out hb); replace HB := aa.mk (Qa bB hb); (try clear hb); (try clear hb2); (try clear hk); (try clear hi)) | ((with_reducible refine Qh (f := 84) rfl ?_); refine QG (some 21) rfl rfl Try.func84 (by kernel_rfl) rfl #[.slice A1 l1.length c1] rfl hA ?_; (with_reducible refine (Qn.calls k _ _ l1 t104 _ ?ah ?ai A8.out).mono ?_); (case ah => exact (Kd.Qq HR1.out HB.out)); (case ai => exact HC1.out); rintro e w31 ⟨rfl, hb⟩; refine ⟨_, rfl, ?_⟩; replace ab := aa.mk (Qp ab.out hb); replace HB := aa.mk (Qa bB hb); (try clear hb); (try clear hb2); (try clear hk); (try clear hi); have q5 : w31.cell? ⟨ag, 0, none⟩ = some (.slice ak ae.length an) := (Qd ab.out 0).trans rfl; have qZ : w31.cell? ⟨ag, 1, none⟩ = some (.slice aj af.length al) := (Qd ab.out 1).trans rfl; have qQ := Qc ab.out 0; have qP := Qc ab.out 1) | (go_at_call 95; (with_reducible refine (Zr.calls k _ _ ae _ _ af _ _ l1 false _ ?ah ?ai ?aq ?ar ?bE ?bD A16.out).mono ?_); (case ah => exact (Kd.Qq ay.out HB.out)); (case ai => exact aA.out); (case aq => exact (Kd.Qq az.out HB.out)); (case ar => exact aC.out); (case bE => exact (Kd.Qq HR1.out HB.out)); (case bD => exact HC1.out); rintro e w33 ⟨rfl, hb⟩; replace ab := aa.mk (Qp ab.out hb); replace HB := aa.mk (Qa bB hb); (try clear hb); (try clear hb2); (try clear hk); (try clear hi)))
     go_ret; exact ⟨by first | rfl | (simp [Qk, Qj] <;> rfl) | (simp [*, Qk, Qj] <;> rfl), bB⟩
  ·replace c7 := Bool.eq_false_iff.mpr c7; subst c7; have H1 : (some 1) = some r := by rw [if_neg (show ¬ (false = true) by decide)] at H; exact H
   clear H; have H := H1; clear H1; obtain rfl := Option.some.inj H; go_enter Try.func89, Try.ntmps89; go_wp2_with (first | ((with_reducible refine QN (N := 3) rfl ?_); refine Q3 ?hg (N := 3) ?hd (cs := #[.slice ak ae.length an, .slice aj af.length al]) (t := 24) ?hr ?_; (case hd => rfl); (case hg => rfl); (case hr => first | (go_simp; done) | (go_simp; rfl)); intro ag hg w34 hbox hb; have ab := aa.mk (hbox); have bh := aa.mk ((by rw [hg]; exact (Qb bB) : w.heap.size ≤ ag)); have aT := aa.mk ((by rw [hg]; exact (Qb bB) : w.heap.size ≤ ag)); replace HB := aa.mk (Qa bB hb); clear hb hbox hg; have yd : w34.cell? ⟨ag, 0, none⟩ = some (.slice ak ae.length an) := (Qd ab.out 0).trans rfl; have yc : w34.cell? ⟨ag, 1, none⟩ = some (.slice aj af.length al) := (Qd ab.out 1).trans rfl; have xL := Qc ab.out 0; have xK := Qc ab.out 1) | ((with_reducible refine Qh (f := 87) rfl ?_); refine QG (some 10) rfl rfl Try.func87 (by kernel_rfl) rfl #[.agg #[.slice ak ae.length an, .slice aj af.length al], .slice A1 l1.length c1] rfl hA ?_; (with_reducible refine (ZD.calls k _ _ ae _ _ af _ _ l1 t102 _ ?ah ?ai ?aq ?ar ?bE ?bD A4.out).mono ?_); (case ah => exact (Kd.Qq ay.out HB.out)); (case ai => exact aA.out); (case aq => exact (Kd.Qq az.out HB.out)); (case ar => exact aC.out); (case bE => exact (Kd.Qq HR1.out HB.out)); (case bD => exact HC1.out); rintro e w36 ⟨rfl, hb⟩; refine ⟨_, rfl, ?_⟩; replace ab := aa.mk (Qp ab.out hb); replace HB := aa.mk (Qa bB hb); (try clear hb); (try clear hb2); (try clear hk); (try clear hi); have yb : w36.cell? ⟨ag, 0, none⟩ = some (.slice ak ae.length an) := (Qd ab.out 0).trans rfl; have ya : w36.cell? ⟨ag, 1, none⟩ = some (.slice aj af.length al) := (Qd ab.out 1).trans rfl; have xJ := Qc ab.out 0; have xI := Qc ab.out 1) | ((with_reducible refine Qh (f := 77) rfl ?_); refine QG (some 18) rfl rfl Try.func77 (by kernel_rfl) rfl #[.slice A2 l2.length c2, .int .i64 (ae.length : Int), .int .i64 0, .int .i64 1000] rfl hA ?_; (with_reducible refine (Zp.calls _ _ l2 (ae.length : Int) 0 1000 false _ ?ah ?ai A6.out).mono ?_); (case ah => exact (Kd.Qq HR2.out HB.out)); (case ai => exact HC2.out); rintro e w38 ⟨rfl, hb⟩; refine ⟨_, rfl, ?_⟩; replace ab := aa.mk (Qp ab.out hb); replace HB := aa.mk (Qa bB hb); (try clear hb); (try clear hb2); (try clear hk); (try clear hi)))
   go_ret; exact ⟨by first | rfl | (simp [Qk, Qj] <;> rfl) | (simp [*, Qk, Qj] <;> rfl), bB⟩
 ·rw [if_neg c5] at H; have dh : (t102 == 0) = false := beq_eq_false_iff_ne.mpr c5; have iz : (t102 != 0) = true := bne_iff_ne.mpr c5; obtain rfl := Option.some.inj H; go_enter Try.func89, Try.ntmps89; go_wp2_with (first | ((with_reducible refine QN (N := 3) rfl ?_); refine Q3 ?hg (N := 3) ?hd (cs := #[.slice ak ae.length an, .slice aj af.length al]) (t := 24) ?hr ?_; (case hd => rfl); (case hg => rfl); (case hr => first | (go_simp; done) | (go_simp; rfl)); intro ag hg w39 hbox hb; have ab := aa.mk (hbox); have bh := aa.mk ((by rw [hg]; exact (Qb bB) : w.heap.size ≤ ag)); have aT := aa.mk ((by rw [hg]; exact (Qb bB) : w.heap.size ≤ ag)); replace HB := aa.mk (Qa bB hb); clear hb hbox hg; have xX : w39.cell? ⟨ag, 0, none⟩ = some (.slice ak ae.length an) := (Qd ab.out 0).trans rfl; have xW : w39.cell? ⟨ag, 1, none⟩ = some (.slice aj af.length al) := (Qd ab.out 1).trans rfl; have xF := Qc ab.out 0; have xE := Qc ab.out 1) | ((with_reducible refine Qh (f := 87) rfl ?_); refine QG (some 10) rfl rfl Try.func87 (by kernel_rfl) rfl #[.agg #[.slice ak ae.length an, .slice aj af.length al], .slice A1 l1.length c1] rfl hA ?_; (with_reducible refine (ZD.calls k _ _ ae _ _ af _ _ l1 t102 _ ?ah ?ai ?aq ?ar ?bE ?bD A4.out).mono ?_); (case ah => exact (Kd.Qq ay.out HB.out)); (case ai => exact aA.out); (case aq => exact (Kd.Qq az.out HB.out)); (case ar => exact aC.out); (case bE => exact (Kd.Qq HR1.out HB.out)); (case bD => exact HC1.out); rintro e w41 ⟨rfl, hb⟩; refine ⟨_, rfl, ?_⟩; replace ab := aa.mk (Qp ab.out hb); replace HB := aa.mk (Qa bB hb); (try clear hb); (try clear hb2); (try clear hk); (try clear hi)))
  go_ret; exact ⟨by first | rfl | (simp [Qk, Qj] <;> rfl) | (simp [*, Qk, Qj] <;> rfl), bB⟩
mutual
def QU.l0 : Nat → List Int → List Int → Int → List Int → Int → Int → Option (Int × List Int × Int)
 | 0, _, _, _, _, _, _ => none
 | k + 1, x1, x2, x10, x23, x24, x25 => if x25 < x24 then (if 0 ≤ x25 then (if x25 < (x23.length : Int) then (if x25 < (x1.length : Int) then (if (rd x1 x25) = 0 then (none) else (QU.l0 k x1 x2 (mn x10 (wrap64 (Int.tdiv (rd x23 x25) (rd x1 x25)))) x23 x24 (wrap64 (x25 + 1)))) else (none)) else (none)) else (none)) else (QU.l1 k x1 x10 ([] : List Int) x2 (x2.length : Int) 0)
def QU.l1 : Nat → List Int → Int → List Int → List Int → Int → Int → Option (Int × List Int × Int)
 | 0, _, _, _, _, _, _ => none
 | k + 1, x1, x10, x13, x39, x40, x41 => if x41 < x40 then (if 0 ≤ x41 then (if x41 < (x39.length : Int) then (if x41 < (x1.length : Int) then (if (rd x39 x41) < (wrap64 ((wrap64 (x10 + 1)) * (rd x1 x41))) then (if x13.length < 17592186044416 then (QU.l1 k x1 x10 (x13 ++ [x41]) x39 x40 (wrap64 (x41 + 1))) else (none)) else (QU.l1 k x1 x10 x13 x39 x40 (wrap64 (x41 + 1)))) else (none)) else (none)) else (none)) else (some (x10, x13, 0))
end
def QU.f (k : Nat) (ae : List (List Int)) (af : List (List Int)) (l1 : List Int) (l2 : List Int) : Option (Int × List Int × Int) := (Zy.f k ae af l1 l2).bind fun t102 => (if t102 = 0 then (QU.l0 k l1 l2 1000 l2 (l2.length : Int) 0) else (some (0, ([] : List Int), t102)))
theorem QU.ZS : ∀ k, (∀ y0 y1 y2 y3 y4 y5, LeO (QU.l0 k y0 y1 y2 y3 y4 y5) (QU.l0 (k + 1) y0 y1 y2 y3 y4 y5)) ∧ (∀ y0 y1 y2 y3 y4 y5, LeO (QU.l1 k y0 y1 y2 y3 y4 y5) (QU.l1 (k + 1) y0 y1 y2 y3 y4 y5))
 | 0 => ⟨fun _ _ _ _ _ _ r h => by simp [QU.l0] at h, fun _ _ _ _ _ _ r h => by simp [QU.l1] at h⟩
 | k + 1 => by
  obtain ⟨ih0, ih1⟩ := QU.ZS k; refine ⟨?_, ?_⟩ <;> intros <;> (first | unfold QU.l0 | unfold QU.l1) <;> repeat' first | (with_reducible exact ih0 _ _ _ _ _ _) | (with_reducible exact ih1 _ _ _ _ _ _) | (with_reducible exact Zy.mono _ _ _ _ _) | (with_reducible exact LeO.refl _) | (with_reducible exact LeO.none _) | (with_reducible refine LeO.ite ?_ ?_) | (with_reducible refine LeO.bind ?_ (fun _ => ?_)) | exact ih0 _ _ _ _ _ _ | exact ih1 _ _ _ _ _ _ | exact Zy.mono _ _ _ _ _ | exact LeO.none _ | refine LeO.ite ?_ ?_ | refine LeO.bind ?_ (fun _ => ?_)
theorem QU.mono : ∀ a0 a1 a2 a3 k, LeO (QU.f k a0 a1 a2 a3) (QU.f (k + 1) a0 a1 a2 a3) := by
 intro a0 a1 a2 a3 k; obtain ⟨ih0, ih1⟩ := QU.ZS k; unfold QU.f; repeat' first | (with_reducible exact ih0 _ _ _ _ _ _) | (with_reducible exact ih1 _ _ _ _ _ _) | (with_reducible exact Zy.mono _ _ _ _ _) | (with_reducible exact LeO.refl _) | (with_reducible exact LeO.none _) | (with_reducible refine LeO.ite ?_ ?_) | (with_reducible refine LeO.bind ?_ (fun _ => ?_)) | exact ih0 _ _ _ _ _ _ | exact ih1 _ _ _ _ _ _ | exact Zy.mono _ _ _ _ _ | exact LeO.none _ | refine LeO.ite ?_ ?_ | refine LeO.bind ?_ (fun _ => ?_)
set_option maxHeartbeats 8000000 in
set_option maxRecDepth 100000 in
theorem QU.calls (k : Nat) (ak : Option Addr) (an : Nat) (ae : List (List Int)) (aj : Option Addr) (al : Nat) (af : List (List Int)) (A1 : Option Addr) (c1 : Nat) (l1 : List Int) (A2 : Option Addr) (c2 : Nat) (l2 : List Int) (r1 : Int) (r2 : List Int) (r3 : Int) (w : World) (aM : Kd.C (Kd.slice 3 (Kd.int .i64)) w ak ae.length ae) (aQ : ae.length ≤ an) (aK : Kd.C (Kd.slice 3 (Kd.int .i64)) w aj af.length af) (aN : af.length ≤ al) (hr1 : Kd.C (Kd.int .i64) w A1 l1.length l1) (hc1 : l1.length ≤ c1) (hr2 : Kd.C (Kd.int .i64) w A2 l2.length l2) (hc2 : l2.length ≤ c2) (h : QU.f k ae af l1 l2 = some (r1, r2, r3)) :
  Calls Try.prog 46 #[.agg #[.slice ak ae.length an, .slice aj af.length al], .slice A1 l1.length c1, .slice A2 l2.length c2] w fun e w' => ∃ v1_ : Value, e = .returned (.tuple #[.int .i64 r1, v1_, .int .i64 r3]) ∧ Kd.R (Kd.int .i64) 3 w' w.heap.size (fun _ => True) v1_ r2 ∧ Below w.heap.size w w' := by
 have ej := Try.underlying24; have ay := aa.mk aM; have aA := aa.mk aQ; clear aM aQ; have az := aa.mk aK; have aC := aa.mk aN; clear aK aN; have HR1 := aa.mk hr1; have HC1 := aa.mk hc1; clear hr1 hc1; have HR2 := aa.mk hr2; have HC2 := aa.mk hc2; clear hr2 hc2; have HB := aa.mk (Below.refl w.heap.size w); have H : ((Zy.f k ae af l1 l2).bind fun t102 => (if t102 = 0 then (QU.l0 k l1 l2 1000 l2 (l2.length : Int) 0) else (some (0, ([] : List Int), t102)))) = some (r1, r2, r3) := h; clear h; replace H := Option.bind_eq_some_iff.mp H; obtain ⟨t102, A40, H⟩ := H; replace H : (if t102 = 0 then (QU.l0 k l1 l2 1000 l2 (l2.length : Int) 0) else (some (0, ([] : List Int), t102))) = some (r1, r2, r3) := H; have A4 := aa.mk A40; clear A40; by_cases c5 : t102 = 0
 ·rw [if_pos c5] at H; have dh : (t102 == 0) = true := beq_iff_eq.mpr c5; have iz : (t102 != 0) = false := bne_eq_false_iff_eq.mpr c5; clear c5; have H' := aa.mk H; clear H; go_enter Try.func46, Try.ntmps46; go_wp2_with (first | ((with_reducible refine QN (N := 3) rfl ?_); refine Q3 ?hg (N := 3) ?hd (cs := #[.slice ak ae.length an, .slice aj af.length al]) (t := 24) ?hr ?_; (case hd => rfl); (case hg => rfl); (case hr => first | (go_simp; done) | (go_simp; rfl)); intro ag hg w6 hbox hb; have ab := aa.mk (hbox); have bh := aa.mk ((by rw [hg]; exact (Qb bB) : w.heap.size ≤ ag)); have aT := aa.mk ((by rw [hg]; exact (Qb bB) : w.heap.size ≤ ag)); replace HB := aa.mk (Qa bB hb); clear hb hbox hg; have fl : w6.cell? ⟨ag, 0, none⟩ = some (.slice ak ae.length an) := (Qd ab.out 0).trans rfl; have fk : w6.cell? ⟨ag, 1, none⟩ = some (.slice aj af.length al) := (Qd ab.out 1).trans rfl; have fj := Qc ab.out 0; have fi := Qc ab.out 1) | ((with_reducible refine Qh (f := 89) rfl ?_); refine QG (some 19) rfl rfl Try.func89 (by kernel_rfl) rfl #[.agg #[.slice ak ae.length an, .slice aj af.length al], .slice A1 l1.length c1, .slice A2 l2.length c2] rfl hA ?_; (with_reducible refine (Zy.calls k _ _ ae _ _ af _ _ l1 _ _ l2 t102 _ ?ah ?ai ?aq ?ar ?bE ?bD ?mj ?mi A4.out).mono ?_); (case ah => exact (Kd.Qq ay.out HB.out)); (case ai => exact aA.out); (case aq => exact (Kd.Qq az.out HB.out)); (case ar => exact aC.out); (case bE => exact (Kd.Qq HR1.out HB.out)); (case bD => exact HC1.out); (case mj => exact (Kd.Qq HR2.out HB.out)); (case mi => exact HC2.out); rintro e w8 ⟨rfl, hb⟩; refine ⟨_, rfl, ?_⟩; replace ab := aa.mk (Qp ab.out hb); replace HB := aa.mk (Qa bB hb); (try clear hb); (try clear hb2); (try clear hk); (try clear hi)))
  go_loopg [10, 25] k (fun kq v10 v25 w' => ∃ (gF : Int) (b7 : Int), v10 = .int .i64 gF ∧ v25 = .int .i64 b7 ∧ aa (QU.l0 kq l1 l2 gF l2 (l2.length : Int) b7 = some (r1, r2, r3)) ∧ aa (kq ≤ k) ∧ aa (w'.heap[ag]? = some (.cells #[(.slice ak ae.length an), (.slice aj af.length al)] 24 (0, 0))) ∧ aa (Below w.heap.size w w'))
  case atStart => exact ⟨(1000), (0), (by first | rfl | (simp; done) | (simp [*]; done)), (by first | rfl | (simp; done) | (simp [*]; done)), H', ⟨Nat.le_refl _⟩, ⟨by (with_reducible repeat (first | refine Qx ?_ _ | refine QA ?_ | refine Qw ?_ _)); exact ab.out⟩, ⟨bB⟩⟩
  case round =>
   clear H'; try clear c1
   try clear c2
   try clear p2
   try clear c4
   try clear c5
   try clear dh
   try clear iz
   try clear c8
   try clear fl
   try clear fk
   try clear fj
   try clear fi
   obtain ⟨gF, b7, rfl, rfl, HA, HK1, ab, HB⟩ := hrel; cases gk with
   | zero => exact absurd HA.out (by simp [QU.l0])
   | succ k1 =>
    have H := HA.out; clear HA; simp only [QU.l0] at H; by_cases c9 : b7 < (l2.length : Int)
    ·rw [if_pos c9] at H; have fv : decide (b7 < (l2.length : Int)) = true := decide_eq_true c9; clear c9; by_cases c10 : 0 ≤ b7
     ·rw [if_pos c10] at H; have fq : decide (0 ≤ b7) = true := decide_eq_true c10; clear c10; by_cases c11 : b7 < (l2.length : Int)
      ·rw [if_pos c11] at H; have fp : decide (b7 < (l2.length : Int)) = true := decide_eq_true c11; clear c11; by_cases c12 : b7 < (l1.length : Int)
       ·rw [if_pos c12] at H; have eP : decide (b7 < (l1.length : Int)) = true := decide_eq_true c12; clear c12; by_cases c13 : (rd l1 b7) = 0
        ·rw [if_pos c13] at H; exact absurd H (by simp)
        ·rw [if_neg c13] at H; have iX : ((rd l1 b7) == 0) = false := beq_eq_false_iff_ne.mpr c13; have sD : ((rd l1 b7) != 0) = true := bne_iff_ne.mpr c13; obtain ⟨s9, n4⟩ : ∃ j_ : Int, (mn gF (wrap64 (Int.tdiv (rd l2 b7) (rd l1 b7)))) = j_ := ⟨_, rfl⟩; replace H : (QU.l0 k1 l1 l2 s9 l2 (l2.length : Int) (wrap64 (b7 + 1))) = some (r1, r2, r3) := by first | (rw [n4] at H; exact H) | (simp only [n4] at H ⊢; exact H)
         have yR : (if (wrap64 (Int.tdiv (rd l2 b7) (rd l1 b7))) < gF then (wrap64 (Int.tdiv (rd l2 b7) (rd l1 b7))) else gF) = s9 := n4; have H' := aa.mk H; clear H; have eg : 0 ≤ (b7 : Int) := of_decide_eq_true (by assumption); have ef : b7 < (l2.length : Int) := of_decide_eq_true (by assumption); obtain ⟨jI, jw, bg⟩ := Kd.Zi HR2.out b7 eg ef; cases jw; replace bg := (HB.out.cell (World.block_lt_of_cell? w _ bg)).trans bg; replace eg := eq_true eg; replace ef := eq_true ef; have gz : 0 ≤ (b7 : Int) := of_decide_eq_true (by assumption); have gw : b7 < (l1.length : Int) := of_decide_eq_true (by assumption); obtain ⟨sG, pX, cb⟩ := Kd.Zi HR1.out b7 gz gw; cases pX; replace cb := (HB.out.cell (World.block_lt_of_cell? w _ cb)).trans cb; replace gz := eq_true gz; replace gw := eq_true gw; go_wp2; go_roundg k1
         case measure => have := HK1.out; omega
         case rel => exact ⟨(s9), (wrap64 (b7 + 1)), (by first | rfl | (simp; done) | (simp only [← n4] <;> (first | rfl | simp)) | (simp [*]; done)), (by first | rfl | (simp; done) | (simp [*]; done)), H', ⟨by have := HK1.out; omega⟩, ⟨by (with_reducible repeat (first | refine Qx ?_ _ | refine QA ?_ | refine Qw ?_ _)); exact ab.out⟩, ⟨bB⟩⟩
       ·rw [if_neg c12] at H; exact absurd H (by simp)
      ·rw [if_neg c11] at H; exact absurd H (by simp)
     ·rw [if_neg c10] at H; exact absurd H (by simp)
    ·rw [if_neg c9] at H; have fv : decide (b7 < (l2.length : Int)) = false := decide_eq_false c9; clear c9; have H' := aa.mk H; clear H; go_wp2; go_loopg [13, 41] k1 (fun kq v13 v41 w' => ∃ (kx : List Int) (bS : Int), v41 = .int .i64 bS ∧ aa (QU.l1 kq l1 gF kx l2 (l2.length : Int) bS = some (r1, r2, r3)) ∧ aa (kq ≤ k1) ∧ aa (Kd.R (Kd.int .i64) 3 w' w.heap.size (fun _ => True) v13 kx) ∧ aa (w'.heap[ag]? = some (.cells #[(.slice ak ae.length an), (.slice aj af.length al)] 24 (0, 0))) ∧ aa (Below w.heap.size w w'))
     case atStart => exact ⟨(([] : List Int)), (0), (by first | rfl | (simp; done) | (simp [*]; done)), H', ⟨Nat.le_refl _⟩, ⟨by first | exact Kd.Yr _ _ _ _ _ | exact Kd.Yv _ _ _ _ _ | exact Kd.V_nil _ _ _ _ _ | exact Kd.Q_nil _ _ _ _ _ | exact Kd.Yy _ _ _ _ _⟩, ⟨by (with_reducible repeat (first | refine Qx ?_ _ | refine QA ?_ | refine Qw ?_ _)); exact ab.out⟩, ⟨bB⟩⟩
     case round =>
      clear H'; try clear c1
      try clear p1
      try clear q1
      try clear hx1
      try clear c2
      try clear p2
      try clear c4
      try clear c5
      try clear dh
      try clear iz
      try clear p6
      try clear c8
      try clear c9
      try clear fv
      try clear c10
      try clear fq
      try clear p10
      try clear q10
      try clear ir
      try clear c11
      try clear fp
      try clear c12
      try clear eP
      try clear c13
      try clear iX
      try clear sD
      try clear fl
      try clear fk
      try clear fj
      try clear fi
      try clear bg
      try clear cb
      try clear eg
      try clear gz
      try clear p2
      try clear ef
      try clear gw
      obtain ⟨kx, bS, rfl, HA, HK2, mZ, ab, HB⟩ := hrel; cases gk with
      | zero => exact absurd HA.out (by simp [QU.l1])
      | succ k2 =>
       have H := HA.out; clear HA; simp only [QU.l1] at H; by_cases c15 : bS < (l2.length : Int)
       ·rw [if_pos c15] at H; have fP : decide (bS < (l2.length : Int)) = true := decide_eq_true c15; clear c15; by_cases c16 : 0 ≤ bS
        ·rw [if_pos c16] at H; have gX : decide (0 ≤ bS) = true := decide_eq_true c16; clear c16; by_cases c17 : bS < (l2.length : Int)
         ·rw [if_pos c17] at H; have gp : decide (bS < (l2.length : Int)) = true := decide_eq_true c17; clear c17; by_cases c18 : bS < (l1.length : Int)
          ·rw [if_pos c18] at H; have iW : decide (bS < (l1.length : Int)) = true := decide_eq_true c18; clear c18; by_cases c19 : (rd l2 bS) < (wrap64 ((wrap64 (gF + 1)) * (rd l1 bS)))
           ·rw [if_pos c19] at H; have eO : decide ((rd l2 bS) < (wrap64 ((wrap64 (gF + 1)) * (rd l1 bS)))) = true := decide_eq_true c19; clear c19; by_cases c20 : kx.length < 17592186044416
            ·rw [if_pos c20] at H; have mX := aa.mk c20; clear c20; obtain ⟨jM, gO⟩ : ∃ y_ : List Int, y_ = (kx ++ [bS]) := ⟨_, rfl⟩; replace H : (QU.l1 k2 l1 gF jM l2 (l2.length : Int) (wrap64 (bS + 1))) = some (r1, r2, r3) := by first | (rw [gO]; with_reducible exact H) | (have H2_ := (Option.bind_some _ _).symm.trans H; rw [gO]; with_reducible exact H2_) | (have H2_ := (Option.bind_some _ _).symm.trans H; with_reducible exact H2_) | with_reducible exact H | (rw [gO]; exact H) | exact H
             have lp := aa.mk gO; clear gO; have H' := aa.mk H; clear H; have bU : 0 ≤ (bS : Int) := of_decide_eq_true (by assumption); have bT : bS < (l2.length : Int) := of_decide_eq_true (by assumption); obtain ⟨eR, fo, bm⟩ := Kd.Zi HR2.out bS bU bT; cases fo; replace bm := (HB.out.cell (World.block_lt_of_cell? w _ bm)).trans bm; replace bU := eq_true bU; replace bT := eq_true bT; have cU : 0 ≤ (bS : Int) := of_decide_eq_true (by assumption); have cT : bS < (l1.length : Int) := of_decide_eq_true (by assumption); obtain ⟨jH, ix, a9⟩ := Kd.Zi HR1.out bS cU cT; cases ix; replace a9 := (HB.out.cell (World.block_lt_of_cell? w _ a9)).trans a9; replace cU := eq_true cU; replace cT := eq_true cT; go_wp2_with (first | ((with_reducible refine Zs (b := .append) (xs := #[.tmp 55, .tmp 57]) rfl ?_); at_builtin; refine Kd.Ys (Kd.int .i64) (w0 := w) w.heap.size rfl (.tmp 55) (.tmp 57) 28 3 (.int .i64 0) 8 rfl Try.underlying28 info3 rfl (by decide) (by omega) u13 kx bS [.int .i64 bS] (fun _ => True) (fun _ => False) rfl rfl ?aP (fun _ hk => hk.elim) ?aF ?aO ?aB ?aS ?aL ?_; (case aP => exact rfl); (case aB => exact bB); (case aF => exact (fun _ _ => trivial)); (case aO => exact mZ.out); (case aS => exact (Qb bB)); (case aL => have := mX.out; omega); intro dA w21 ho hb hg hat; rw [← lp.out] at ho; replace ab := aa.mk (Yq (g := ag) (o := .cells #[.slice ak ae.length an, .slice aj af.length al] 24 (0, 0)) (by (with_reducible repeat (first | refine Qx ?_ _ | refine QA ?_ | refine Qw ?_ _)); exact ab.out) hg (Kd.R_ne mZ.out ab.out (by decide))); replace HB := aa.mk (hb); have aZ := aa.mk (ho); clear mZ; clear ho hb hg hat))
             go_roundg k2
             case measure => have := HK1.out; have := HK2.out; omega
             case rel => exact ⟨(jM), (wrap64 (bS + 1)), (by first | rfl | (simp; done) | (simp [*]; done)), H', ⟨by have := HK1.out; have := HK2.out; omega⟩, ⟨by (with_reducible repeat (first | apply Kd.R_alloc | apply Kd.R_drewN | apply Kd.QO)); exact aZ.out⟩, ⟨by (with_reducible repeat (first | refine Qx ?_ _ | refine QA ?_ | refine Qw ?_ _)); exact ab.out⟩, ⟨bB⟩⟩
            ·rw [if_neg c20] at H; exact absurd H (by simp)
           ·rw [if_neg c19] at H; have eO : decide ((rd l2 bS) < (wrap64 ((wrap64 (gF + 1)) * (rd l1 bS)))) = false := decide_eq_false c19; clear c19; have H' := aa.mk H; clear H; have bU : 0 ≤ (bS : Int) := of_decide_eq_true (by assumption); have bT : bS < (l2.length : Int) := of_decide_eq_true (by assumption); obtain ⟨eR, fo, bm⟩ := Kd.Zi HR2.out bS bU bT; cases fo; replace bm := (HB.out.cell (World.block_lt_of_cell? w _ bm)).trans bm; replace bU := eq_true bU; replace bT := eq_true bT; have cU : 0 ≤ (bS : Int) := of_decide_eq_true (by assumption); have cT : bS < (l1.length : Int) := of_decide_eq_true (by assumption); obtain ⟨jH, ix, a9⟩ := Kd.Zi HR1.out bS cU cT; cases ix; replace a9 := (HB.out.cell (World.block_lt_of_cell? w _ a9)).trans a9; replace cU := eq_true cU; replace cT := eq_true cT; go_wp2; go_roundg k2
            case measure => have := HK1.out; have := HK2.out; omega
            case rel => exact ⟨(kx), (wrap64 (bS + 1)), (by first | rfl | (simp; done) | (simp [*]; done)), H', ⟨by have := HK1.out; have := HK2.out; omega⟩, ⟨by (with_reducible repeat (first | apply Kd.R_alloc | apply Kd.R_drewN | apply Kd.QO)); exact mZ.out⟩, ⟨by (with_reducible repeat (first | refine Qx ?_ _ | refine QA ?_ | refine Qw ?_ _)); exact ab.out⟩, ⟨bB⟩⟩
          ·rw [if_neg c18] at H; exact absurd H (by simp)
         ·rw [if_neg c17] at H; exact absurd H (by simp)
        ·rw [if_neg c16] at H; exact absurd H (by simp)
       ·rw [if_neg c15] at H; have fP : decide (bS < (l2.length : Int)) = false := decide_eq_false c15; clear c15; simp only [Option.some.injEq, Prod.mk.injEq] at H; obtain ⟨rfl, rfl, rfl⟩ := H; go_wp2; go_ret3
        exact ⟨_, by first | rfl | (simp [Qk, Qj] <;> rfl) | (simp [*, Qk, Qj] <;> rfl), by (with_reducible repeat (first | apply Kd.R_alloc | apply Kd.R_drewN | apply Kd.QO)); exact mZ.out, bB⟩
 ·rw [if_neg c5] at H; have dh : (t102 == 0) = false := beq_eq_false_iff_ne.mpr c5; have iz : (t102 != 0) = true := bne_iff_ne.mpr c5; simp only [Option.some.injEq, Prod.mk.injEq] at H; obtain ⟨rfl, rfl, rfl⟩ := H; go_enter Try.func46, Try.ntmps46; go_wp2_with (first | ((with_reducible refine QN (N := 3) rfl ?_); refine Q3 ?hg (N := 3) ?hd (cs := #[.slice ak ae.length an, .slice aj af.length al]) (t := 24) ?hr ?_; (case hd => rfl); (case hg => rfl); (case hr => first | (go_simp; done) | (go_simp; rfl)); intro ag hg w22 hbox hb; have ab := aa.mk (hbox); have bh := aa.mk ((by rw [hg]; exact (Qb bB) : w.heap.size ≤ ag)); have aT := aa.mk ((by rw [hg]; exact (Qb bB) : w.heap.size ≤ ag)); replace HB := aa.mk (Qa bB hb); clear hb hbox hg; have yl : w22.cell? ⟨ag, 0, none⟩ = some (.slice ak ae.length an) := (Qd ab.out 0).trans rfl; have yk : w22.cell? ⟨ag, 1, none⟩ = some (.slice aj af.length al) := (Qd ab.out 1).trans rfl; have xT := Qc ab.out 0; have xS := Qc ab.out 1) | ((with_reducible refine Qh (f := 89) rfl ?_); refine QG (some 19) rfl rfl Try.func89 (by kernel_rfl) rfl #[.agg #[.slice ak ae.length an, .slice aj af.length al], .slice A1 l1.length c1, .slice A2 l2.length c2] rfl hA ?_; (with_reducible refine (Zy.calls k _ _ ae _ _ af _ _ l1 _ _ l2 t102 _ ?ah ?ai ?aq ?ar ?bE ?bD ?mj ?mi A4.out).mono ?_); (case ah => exact (Kd.Qq ay.out HB.out)); (case ai => exact aA.out); (case aq => exact (Kd.Qq az.out HB.out)); (case ar => exact aC.out); (case bE => exact (Kd.Qq HR1.out HB.out)); (case bD => exact HC1.out); (case mj => exact (Kd.Qq HR2.out HB.out)); (case mi => exact HC2.out); rintro e w24 ⟨rfl, hb⟩; refine ⟨_, rfl, ?_⟩; replace ab := aa.mk (Qp ab.out hb); replace HB := aa.mk (Qa bB hb); (try clear hb); (try clear hb2); (try clear hk); (try clear hi)))
  go_ret3
  exact ⟨_, by first | rfl | (simp [Qk, Qj] <;> rfl) | (simp [*, Qk, Qj] <;> rfl), by first | exact Kd.Yr _ _ _ _ _ | exact Kd.Yv _ _ _ _ _ | exact Kd.V_nil _ _ _ _ _ | exact Kd.Q_nil _ _ _ _ _ | exact Kd.Yy _ _ _ _ _, bB⟩
def Zv.f  : Option ((List (List Int)) × (List (List Int))) := some ((([(([2, 0] : List Int)), (([0, 2] : List Int))] : List (List Int))), (([(([2, 1] : List Int))] : List (List Int))))
set_option maxHeartbeats 8000000 in
set_option maxRecDepth 100000 in
theorem Zv.calls  (r1 : List (List Int)) (r2 : List (List Int)) (w : World) (h : Zv.f  = some (r1, r2)) :
  Calls Try.prog 91 #[] w fun e w' => ∃ v0_ v1_ : Value, e = .returned (.agg #[v0_, v1_]) ∧ Kd.N (Kd.slice 3 (Kd.int .i64)) 28 w' w.heap.size (fun k_ => (w.heap.size ≤ k_) ∧ some k_ ≠ (v1_ : Value).ownBlock) v0_ r1 ∧ Kd.N (Kd.slice 3 (Kd.int .i64)) 28 w' w.heap.size (fun k_ => (w.heap.size ≤ k_) ∧ some k_ ≠ (v0_ : Value).ownBlock) v1_ r2 ∧ Below w.heap.size w w' := by
 have ej := Try.underlying24; have HB := aa.mk (Below.refl w.heap.size w); have H : (some ((([(([2, 0] : List Int)), (([0, 2] : List Int))] : List (List Int))), (([(([2, 1] : List Int))] : List (List Int))))) = some (r1, r2) := h; clear h; obtain ⟨fT, eF⟩ : ∃ y_ : List Int, y_ = (([2, 0] : List Int)) := ⟨_, rfl⟩; replace H : (some ((([fT, (([0, 2] : List Int))] : List (List Int))), (([(([2, 1] : List Int))] : List (List Int))))) = some (r1, r2) := by first | (rw [eF]; with_reducible exact H) | (have H2_ := (Option.bind_some _ _).symm.trans H; rw [eF]; with_reducible exact H2_) | (have H2_ := (Option.bind_some _ _).symm.trans H; with_reducible exact H2_) | with_reducible exact H | (rw [eF]; exact H) | exact H
 have kV := aa.mk eF; clear eF; obtain ⟨cW, cX⟩ : ∃ y_ : List Int, y_ = (([0, 2] : List Int)) := ⟨_, rfl⟩; replace H : (some ((([fT, cW] : List (List Int))), (([(([2, 1] : List Int))] : List (List Int))))) = some (r1, r2) := by first | (rw [cX]; with_reducible exact H) | (have H2_ := (Option.bind_some _ _).symm.trans H; rw [cX]; with_reducible exact H2_) | (have H2_ := (Option.bind_some _ _).symm.trans H; with_reducible exact H2_) | with_reducible exact H | (rw [cX]; exact H) | exact H
 have gZ := aa.mk cX; clear cX; obtain ⟨dy, eD⟩ : ∃ y_ : List (List Int), y_ = (([fT, cW] : List (List Int))) := ⟨_, rfl⟩; replace H : (some (dy, (([(([2, 1] : List Int))] : List (List Int))))) = some (r1, r2) := by first | (rw [eD]; with_reducible exact H) | (have H2_ := (Option.bind_some _ _).symm.trans H; rw [eD]; with_reducible exact H2_) | (have H2_ := (Option.bind_some _ _).symm.trans H; with_reducible exact H2_) | with_reducible exact H | (rw [eD]; exact H) | exact H
 have iY := aa.mk eD; clear eD; obtain ⟨oR, mE⟩ : ∃ y_ : List Int, y_ = (([2, 1] : List Int)) := ⟨_, rfl⟩; replace H : (some (dy, (([oR] : List (List Int))))) = some (r1, r2) := by first | (rw [mE]; with_reducible exact H) | (have H2_ := (Option.bind_some _ _).symm.trans H; rw [mE]; with_reducible exact H2_) | (have H2_ := (Option.bind_some _ _).symm.trans H; with_reducible exact H2_) | with_reducible exact H | (rw [mE]; exact H) | exact H
 have sM := aa.mk mE; clear mE; obtain ⟨m5, gN⟩ : ∃ y_ : List (List Int), y_ = (([oR] : List (List Int))) := ⟨_, rfl⟩; replace H : (some (dy, m5)) = some (r1, r2) := by first | (rw [gN]; with_reducible exact H) | (have H2_ := (Option.bind_some _ _).symm.trans H; rw [gN]; with_reducible exact H2_) | (have H2_ := (Option.bind_some _ _).symm.trans H; with_reducible exact H2_) | with_reducible exact H | (rw [gN]; exact H) | exact H
 have oB := aa.mk gN; clear gN; simp only [Option.some.injEq, Prod.mk.injEq] at H; obtain ⟨rfl, rfl⟩ := H; go_enter Try.func91, Try.ntmps91; go_wp2_with (first | ((with_reducible refine QN (N := 0) rfl ?_); refine Q3 ?hg (N := 0) ?hd (cs := #[.slice none 0 0, .slice none 0 0]) (t := 24) ?hr ?_; (case hd => rfl); (case hg => rfl); (case hr => first | (go_simp; done) | (go_simp; rfl)); intro ag hg w1 hbox hb; have ab := aa.mk (hbox); have bh := aa.mk ((by rw [hg]; exact (Qb bB) : w.heap.size ≤ ag)); have aT := aa.mk ((by rw [hg]; exact (Qb bB) : w.heap.size ≤ ag)); replace HB := aa.mk (Qa bB hb); clear hb hbox hg) | ((with_reducible refine QN (N := 1) rfl ?_); refine Kd.YU (Kd.int .i64) _ 3 ?hg (N := 1) ?hd (xs := ([2, 0] : List Int)) (inner := [.int .i64 2, .int .i64 0]) (ok := fun _ => True) (okp := fun _ => True) ?hr ?hp (fun _ hk => hk) trivial (Below.refl _ _) (Nat.le_refl _) (by simp) ?_; (case hd => rfl); (case hg => rfl); (case hr => first | (go_simp; done) | (go_simp; rfl)); (case hp => exact (Reps.one (show Kd.M (Kd.int .i64) _ _ _ 2 [.int .i64 2] from rfl) (Reps.one (show Kd.M (Kd.int .i64) _ _ _ 0 [.int .i64 0] from rfl) (Reps.none _ _)))); intro gG w2 ho3 hb hg_ hnew_; clear hg_ hnew_; (first | rw [← kV.out] at ho3 | (simp only [Int.reduceToNat] at ho3; rw [← kV.out] at ho3)); have ba := aa.mk (Kd.Zh (Kd.V9 (M := fun k_ => (w.heap.size ≤ k_)) ho3 (Qb bB) (fun k_ h_ => h_)) (Qb bB)); replace ab := aa.mk (Qp ab.out hb); replace HB := aa.mk (Qa bB hb); clear hb ho3) | ((with_reducible refine QN (N := 2) rfl ?_); refine Kd.YU (Kd.int .i64) _ 3 ?hg (N := 2) ?hd (xs := ([0, 2] : List Int)) (inner := [.int .i64 0, .int .i64 2]) (ok := fun _ => True) (okp := fun _ => True) ?hr ?hp (fun _ hk => hk) trivial (Below.refl _ _) (Nat.le_refl _) (by simp) ?_; (case hd => rfl); (case hg => rfl); (case hr => first | (go_simp; done) | (go_simp; rfl)); (case hp => exact (Reps.one (show Kd.M (Kd.int .i64) _ _ _ 0 [.int .i64 0] from rfl) (Reps.one (show Kd.M (Kd.int .i64) _ _ _ 2 [.int .i64 2] from rfl) (Reps.none _ _)))); intro ik w4 ho5 hb hg_ hnew_; clear hg_ hnew_; (first | rw [← gZ.out] at ho5 | (simp only [Int.reduceToNat] at ho5; rw [← gZ.out] at ho5)); have bY := aa.mk (Kd.Zh (Kd.Zm (Kd.V9 (M := fun k_ => (w.heap.size ≤ k_)) ho5 (Qb bB) (fun k_ h_ => h_)) (Kd.R_lt ba.out)) (Qb bB)); replace ba := aa.mk (Kd.Zd ba.out (Kd.QQ ho5) hb); replace ab := aa.mk (Qp ab.out hb); replace HB := aa.mk (Qa bB hb); clear hb ho5; obtain ⟨Ao6, co6, eo6⟩ := Kd.Zg ba.out; subst eo6; obtain ⟨Ao7, co7, eo7⟩ := Kd.Zg bY.out; subst eo7) | ((with_reducible refine QN (N := 3) rfl ?_); refine Kd.N_lit (Kd.slice 3 (Kd.int .i64)) _ 28 ?hg (N' := 3) ?hd (xs := ([fT, cW] : List (List Int))) (inner := [.slice Ao6 fT.length co6, .slice Ao7 cW.length co7]) (ok := (fun k_ => (w.heap.size ≤ k_) ∧ k_ ≠ ag)) (okp := (fun k_ => (w.heap.size ≤ k_) ∧ k_ ≠ ag)) ?hr ?hp (fun _ hk => hk) ((show ∀ k_, w4.heap.size ≤ k_ → (fun k_ => (w.heap.size ≤ k_) ∧ k_ ≠ ag) k_ from fun k_ hk => ⟨(Nat.le_trans (Qb bB) hk), Kd.freshB (g := ag) (o := .cells #[.slice none 0 0, .slice none 0 0] 24 (0, 0)) (by (with_reducible repeat (first | refine Qx ?_ _ | refine QA ?_ | refine Qw ?_ _)); exact ab.out) k_ hk⟩) _ (Nat.le_refl _)) (Below.refl _ _) (Nat.le_refl _) (by simp) ?_; (case hd => rfl); (case hg => rfl); (case hr => first | (go_simp; done) | (go_simp; rfl)); (case hp => exact (Reps.one (show Kd.FK (Kd.slice 3 (Kd.int .i64)) _ _ fT [.slice Ao6 fT.length co6] from (Kd.YD (Kd.QE (Kd.Zc (ok' := (fun k_ => (w.heap.size ≤ k_) ∧ k_ ≠ ag)) (Kd.Vu (ba.out) ab.out (by decide)) (fun k_ hk => ⟨hk.1.1.1, hk.2⟩))).2.1 (Kd.R_F (Kd.Zc (ok' := (fun k_ => (w.heap.size ≤ k_) ∧ k_ ≠ ag)) (Kd.Vu (ba.out) ab.out (by decide)) (fun k_ hk => ⟨hk.1.1.1, hk.2⟩))))) (Reps.one (show Kd.FK (Kd.slice 3 (Kd.int .i64)) _ _ cW [.slice Ao7 cW.length co7] from (Kd.YD (Kd.QE (Kd.Zc (ok' := (fun k_ => (w.heap.size ≤ k_) ∧ k_ ≠ ag)) (Kd.Vu (bY.out) ab.out (by decide)) (fun k_ hk => ⟨hk.1.1.1, hk.2⟩))).2.1 (Kd.R_F (Kd.Zc (ok' := (fun k_ => (w.heap.size ≤ k_) ∧ k_ ≠ ag)) (Kd.Vu (bY.out) ab.out (by decide)) (fun k_ hk => ⟨hk.1.1.1, hk.2⟩))))) (Reps.none _ _)))); intro jO w8 ho9 hb hg_ hnew_; clear hg_ hnew_; (first | rw [← iY.out] at ho9 | (simp only [Int.reduceToNat] at ho9; rw [← iY.out] at ho9)); have ca := aa.mk (Kd.Ya ho9 (Qb bB)); replace ab := aa.mk (Qp ab.out hb); replace HB := aa.mk (Qa bB hb); clear ba bY; clear hb ho9) | ((with_reducible refine QN (N := 4) rfl ?_); refine Kd.YU (Kd.int .i64) _ 3 ?hg (N := 4) ?hd (xs := ([2, 1] : List Int)) (inner := [.int .i64 2, .int .i64 1]) (ok := fun _ => True) (okp := fun _ => True) ?hr ?hp (fun _ hk => hk) trivial (Below.refl _ _) (Nat.le_refl _) (by simp) ?_; (case hd => rfl); (case hg => rfl); (case hr => first | (go_simp; done) | (go_simp; rfl)); (case hp => exact (Reps.one (show Kd.M (Kd.int .i64) _ _ _ 2 [.int .i64 2] from rfl) (Reps.one (show Kd.M (Kd.int .i64) _ _ _ 1 [.int .i64 1] from rfl) (Reps.none _ _)))); intro Bh w10 fO hb hg_ hnew_; clear hg_ hnew_; (first | rw [← sM.out] at fO | (simp only [Int.reduceToNat] at fO; rw [← sM.out] at fO)); replace ca := aa.mk (Kd.Q8 ca.out (Kd.QQ fO) hb); have oK := aa.mk (Kd.Zh (Kd.V9 (M := fun k_ => (w.heap.size ≤ k_)) fO (Qb bB) (fun k_ h_ => h_)) (Qb bB)); replace ab := aa.mk (Qp ab.out hb); replace HB := aa.mk (Qa bB hb); clear hb fO; obtain ⟨wZ, vQ, zH⟩ := Kd.Zg oK.out; subst zH) | ((with_reducible refine QN (N := 5) rfl ?_); refine Kd.N_lit (Kd.slice 3 (Kd.int .i64)) _ 28 ?hg (N' := 5) ?hd (xs := ([oR] : List (List Int))) (inner := [.slice wZ oR.length vQ]) (ok := (fun k_ => (w.heap.size ≤ k_) ∧ some k_ ≠ (jO : Value).ownBlock ∧ k_ ≠ ag)) (okp := (fun k_ => (w.heap.size ≤ k_) ∧ some k_ ≠ (jO : Value).ownBlock ∧ k_ ≠ ag)) ?hr ?hp (fun _ hk => hk) ((show ∀ k_, w10.heap.size ≤ k_ → (fun k_ => (w.heap.size ≤ k_) ∧ some k_ ≠ (jO : Value).ownBlock ∧ k_ ≠ ag) k_ from fun k_ hk => ⟨(Nat.le_trans (Qb bB) hk), Kd.fresh' (Kd.N_lt ca.out) k_ hk, Kd.freshB (g := ag) (o := .cells #[.slice none 0 0, .slice none 0 0] 24 (0, 0)) (by (with_reducible repeat (first | refine Qx ?_ _ | refine QA ?_ | refine Qw ?_ _)); exact ab.out) k_ hk⟩) _ (Nat.le_refl _)) (Below.refl _ _) (Nat.le_refl _) (by simp) ?_; (case hd => rfl); (case hg => rfl); (case hr => first | (go_simp; done) | (go_simp; rfl)); (case hp => exact (Reps.one (show Kd.FK (Kd.slice 3 (Kd.int .i64)) _ _ oR [.slice wZ oR.length vQ] from (Kd.YD (Kd.QE (Kd.Zc (ok' := (fun k_ => (w.heap.size ≤ k_) ∧ some k_ ≠ (jO : Value).ownBlock ∧ k_ ≠ ag)) (Kd.Vu (Kd.ZC (oK.out) (Kd.ZI ca.out) (by decide)) ab.out (by decide)) (fun k_ hk => ⟨hk.1.1.1, ⟨hk.1.2, hk.2⟩⟩))).2.1 (Kd.R_F (Kd.Zc (ok' := (fun k_ => (w.heap.size ≤ k_) ∧ some k_ ≠ (jO : Value).ownBlock ∧ k_ ≠ ag)) (Kd.Vu (Kd.ZC (oK.out) (Kd.ZI ca.out) (by decide)) ab.out (by decide)) (fun k_ hk => ⟨hk.1.1.1, ⟨hk.1.2, hk.2⟩⟩))))) (Reps.none _ _))); intro oS w13 oT hb hg_ hnew_; clear hg_ hnew_; (first | rw [← oB.out] at oT | (simp only [Int.reduceToNat] at oT; rw [← oB.out] at oT)); replace ca := aa.mk (Kd.Q8 ca.out (Kd.Z3 oT) hb); have ij := aa.mk (Kd.Ya oT (Qb bB)); replace ab := aa.mk (Qp ab.out hb); replace HB := aa.mk (Qa bB hb); clear oK; clear hb oT; obtain ⟨uM, uo, zG⟩ := Kd.ZQ ij.out; subst zG; obtain ⟨jf, gW, mN⟩ := Kd.ZQ ca.out; subst mN; have kj : w13.cell? ⟨ag, 0, none⟩ = some (.slice none 0 0) := (Qd ab.out 0).trans rfl; have ki : w13.cell? ⟨ag, 1, none⟩ = some (.slice none 0 0) := (Qd ab.out 1).trans rfl; have j9 := Qc ab.out 0; have j8 := Qc ab.out 1))
 refine bodyPost_ret (results_cell_row rfl _ _ ag 24 #[.slice jf dy.length gW, .slice uM m5.length uo] (0, 0) _ rfl (by (with_reducible repeat (first | refine Qx ?_ _ | refine QA ?_ | refine Qw ?_ _)); refine blk_put (cs := #[.slice jf dy.length gW, .slice none 0 0]) ?_ 1 _ rfl; (with_reducible repeat (first | refine Qx ?_ _ | refine QA ?_ | refine Qw ?_ _)); refine blk_put (cs := #[.slice none 0 0, .slice none 0 0]) ?_ 0 _ rfl; (with_reducible repeat (first | refine Qx ?_ _ | refine QA ?_ | refine Qw ?_ _)); exact ab.out) Try.underlying24 rfl (by kernel_rfl)) rfl ?_; exact ⟨_, _, by first | rfl | (simp [Qk, Qj] <;> rfl) | (simp [*, Qk, Qj] <;> rfl), by (with_reducible repeat (first | apply Kd.N_alloc | apply Kd.Z5 | apply Kd.Yj)); exact Kd.ZX (Kd.N_far (p := ⟨ag, 1, none⟩) (Kd.N_far (p := ⟨ag, 0, none⟩) (Kd.ZX ca.out (fun k_ hk => (⟨hk, hk.1.1.2⟩ : _ ∧ k_ ≠ ag))) (fun _ hk => hk.2) (.slice jf dy.length gW)) (fun _ hk => hk.2) (.slice uM m5.length uo)) (fun _ hk => ⟨hk.1.1.1.1, hk.1.2⟩), by (with_reducible repeat (first | apply Kd.N_alloc | apply Kd.Z5 | apply Kd.Yj)); exact Kd.ZX (Kd.N_far (p := ⟨ag, 1, none⟩) (Kd.N_far (p := ⟨ag, 0, none⟩) (Kd.ZX ij.out (fun k_ hk => (⟨hk, hk.2.2⟩ : _ ∧ k_ ≠ ag))) (fun _ hk => hk.2) (.slice jf dy.length gW)) (fun _ hk => hk.2) (.slice uM m5.length uo)) (fun _ hk => ⟨hk.1.1, hk.1.2.1⟩), bB⟩
def ZL.f (l0 : List Int) : Option (List Int) := (some (([] : List Int) : List Int)).bind fun dz => (if dz.length + l0.length < 17592186044416 then (some (dz ++ l0)) else (none))
set_option maxHeartbeats 8000000 in
set_option maxRecDepth 100000 in
theorem ZL.calls (A0 : Option Addr) (n0 : Nat) (l0 : List Int) (r : List Int) (w : World) (hr0 : Kd.C (Kd.int .i64) w A0 l0.length l0) (hc0 : n0 ≤ l0.length) (h : ZL.f l0 = some r) :
  Calls Try.prog 20 #[.slice A0 n0 l0.length] w fun e w' => ∃ v0_ : Value, e = .returned (v0_) ∧ Kd.R (Kd.int .i64) 3 w' w.heap.size (fun _ => True) v0_ r ∧ Below w.heap.size w w' := by
 have HR0 := aa.mk hr0; have HC0 := aa.mk hc0; clear hr0 hc0; have HB := aa.mk (Below.refl w.heap.size w); have H : ((some (([] : List Int) : List Int)).bind fun dz => (if dz.length + l0.length < 17592186044416 then (some (dz ++ l0)) else (none))) = some r := h; clear h; obtain ⟨dz, cC⟩ : ∃ y_ : List Int, y_ = (([] : List Int)) := ⟨_, rfl⟩; replace H : (if dz.length + l0.length < 17592186044416 then (some (dz ++ l0)) else (none)) = some r := by first | (rw [cC]; with_reducible exact H) | (have H2_ := (Option.bind_some _ _).symm.trans H; rw [cC]; with_reducible exact H2_) | (have H2_ := (Option.bind_some _ _).symm.trans H; with_reducible exact H2_) | with_reducible exact H | (rw [cC]; exact H) | exact H
 have eG := aa.mk cC; clear cC; by_cases c2 : dz.length + l0.length < 17592186044416
 ·rw [if_pos c2] at H; have qg := aa.mk c2; clear c2; obtain ⟨ku, cK⟩ : ∃ y_ : List Int, y_ = (dz ++ l0) := ⟨_, rfl⟩; replace H : (some ku) = some r := by first | (rw [cK]; with_reducible exact H) | (have H2_ := (Option.bind_some _ _).symm.trans H; rw [cK]; with_reducible exact H2_) | (have H2_ := (Option.bind_some _ _).symm.trans H; with_reducible exact H2_) | with_reducible exact H | (rw [cK]; exact H) | exact H
  have iZ := aa.mk cK; clear cK; obtain rfl := Option.some.inj H; go_enter Try.func20, Try.ntmps20; go_wp2_with (first | ((with_reducible refine QN (N := 3) rfl ?_); refine Kd.YU (Kd.int .i64) _ 3 ?hg (N := 3) ?hd (xs := ([] : List Int)) (inner := []) (ok := fun _ => True) (okp := fun _ => True) ?hr ?hp (fun _ hk => hk) trivial (Below.refl _ _) (Nat.le_refl _) (by simp) ?_; (case hd => rfl); (case hg => rfl); (case hr => first | (go_simp; done) | (go_simp; rfl)); (case hp => exact (Reps.none _ _)); intro il w3 ho4 hb hg_ hnew_; clear hg_ hnew_; (first | rw [← eG.out] at ho4 | (simp only [Int.reduceToNat] at ho4; rw [← eG.out] at ho4)); have a8 := aa.mk (Kd.Zh ho4 (Qb bB)); replace HB := aa.mk (Qa bB hb); clear hb ho4) | ((with_reducible refine Zs (b := .append) (xs := #[.tmp 3, .tmp 7]) rfl ?_); at_builtin; refine Kd.Yz (Kd.int .i64) (w0 := w) w.heap.size rfl (.tmp 3) (.tmp 7) 28 3 (.int .i64 0) 8 rfl Try.underlying28 info3 rfl (by decide) (by omega) il dz l0 _ _ _ (fun _ => True) (fun _ => False) rfl rfl ?aO ?aR (fun _ _ h => h) (fun _ h => h.elim) ?aF ?aB ?aS ?aL ?_; (case aR => exact (Kd.Qq HR0.out HB.out)); (case aB => exact bB); (case aF => exact (fun _ _ => trivial)); (case aO => exact a8.out); (case aS => exact (Qb bB)); (case aL => have := qg.out; omega); intro jP w5 ho hb hg hat; rw [← iZ.out] at ho; replace HB := aa.mk (hb); have bu := aa.mk (ho); clear a8; clear ho hb hg hat))
  go_ret; exact ⟨_, by first | rfl | (simp [Qk, Qj] <;> rfl) | (simp [*, Qk, Qj] <;> rfl), by (with_reducible repeat (first | apply Kd.R_alloc | apply Kd.R_drewN | apply Kd.QO)); exact bu.out, bB⟩
 ·rw [if_neg c2] at H; exact absurd H (by simp)
def QJ.l0 : Nat → List (List Int) → List (List Int) → Int → Option ((List (List Int)))
 | 0, _, _, _ => none
 | k + 1, x0, x3, x4 => if x4 < (x0.length : Int) then (if 0 ≤ x4 then ((ZL.f (Qu x0 x4)).bind fun t102 => (if x3.length < 5864062014805 then (QJ.l0 k x0 (x3 ++ [t102]) (wrap64 (x4 + 1))) else (none))) else (none)) else (some x3)
def QJ.f (k : Nat) (l0 : List (List Int)) : Option ((List (List Int))) := QJ.l0 k l0 ([] : List (List Int)) 0
set_option maxHeartbeats 8000000 in
set_option maxRecDepth 100000 in
theorem QJ.calls (k : Nat) (A0 : Option Addr) (n0 : Nat) (l0 : List (List Int)) (r : List (List Int)) (w : World) (hr0 : Kd.C Full.kd w A0 l0.length l0) (hc0 : n0 ≤ l0.length) (h : QJ.f k l0 = some r) :
  Calls Try.prog 17 #[.slice A0 n0 l0.length] w fun e w' => ∃ v0_ : Value, e = .returned (v0_) ∧ Kd.S (Kd.slice 3 (Kd.int .i64)) 28 w' w.heap.size (fun _ => True) v0_ r ∧ Below w.heap.size w w' := by
 have HR0 := aa.mk hr0; have HC0 := aa.mk hc0; clear hr0 hc0; have HB := aa.mk (Below.refl w.heap.size w); have H : (QJ.l0 k l0 ([] : List (List Int)) 0) = some r := h; clear h; have H' := aa.mk H; clear H; go_enter Try.func17, Try.ntmps17; go_wp2; go_loopg [3, 4] k (fun kq v3 v4 w' => ∃ (cy : List (List Int)) (bc : Int), v4 = .int .i64 bc ∧ aa (QJ.l0 kq l0 cy bc = some r) ∧ aa (kq ≤ k) ∧ aa (Kd.S (Kd.slice 3 (Kd.int .i64)) 28 w' w.heap.size (fun _ => True) v3 cy) ∧ aa (Below w.heap.size w w'))
 case atStart => exact ⟨(([] : List (List Int))), (0), (by first | rfl | (simp; done) | (simp [*]; done)), H', ⟨Nat.le_refl _⟩, ⟨by first | exact Kd.Yy _ _ _ _ _ | exact Kd.Yv _ _ _ _ _ | exact Kd.V_nil _ _ _ _ _ | exact Kd.Q_nil _ _ _ _ _ | exact Kd.Yr _ _ _ _ _⟩, ⟨bB⟩⟩
 case round =>
  clear H'; try clear c1
  obtain ⟨cy, bc, rfl, HA, HK1, bj, HB⟩ := hrel; cases gk with
  | zero => exact absurd HA.out (by simp [QJ.l0])
  | succ k1 =>
   have H := HA.out; clear HA; simp only [QJ.l0] at H; by_cases c2 : bc < (l0.length : Int)
   ·rw [if_pos c2] at H; have qa : decide (bc < (l0.length : Int)) = true := decide_eq_true c2; clear c2; by_cases c3 : 0 ≤ bc
    ·rw [if_pos c3] at H; have bL : decide (0 ≤ bc) = true := decide_eq_true c3; clear c3; replace H := Option.bind_eq_some_iff.mp H; obtain ⟨t102, A40, H⟩ := H; replace H : (if cy.length < 5864062014805 then (QJ.l0 k1 l0 (cy ++ [t102]) (wrap64 (bc + 1))) else (none)) = some r := H; have A4 := aa.mk A40; clear A40; by_cases c5 : cy.length < 5864062014805
     ·rw [if_pos c5] at H; have ux := aa.mk c5; clear c5; obtain ⟨cW, cX⟩ : ∃ y_ : List (List Int), y_ = (cy ++ [t102]) := ⟨_, rfl⟩; replace H : (QJ.l0 k1 l0 cW (wrap64 (bc + 1))) = some r := by first | (rw [cX]; with_reducible exact H) | (have H2_ := (Option.bind_some _ _).symm.trans H; rw [cX]; with_reducible exact H2_) | (have H2_ := (Option.bind_some _ _).symm.trans H; with_reducible exact H2_) | with_reducible exact H | (rw [cX]; exact H) | exact H
      have gZ := aa.mk cX; clear cX; have H' := aa.mk H; clear H; have br : 0 ≤ (bc : Int) := of_decide_eq_true (by assumption); have bq : bc < (l0.length : Int) := of_decide_eq_true (by assumption); obtain ⟨cg, jA, jz, di, aU, cv, cx⟩ := Full.at_ HR0.out bc br bq; cases di; replace aU := (HB.out.cell (World.block_lt_of_cell? w _ aU)).trans aU; have cH := aa.mk cx; have dx := aa.mk cv; clear cx cv; replace br := eq_true br; replace bq := eq_true bq; go_wp2_with (first | ((with_reducible refine Qh (f := 20) rfl ?_); refine QG (some 20) rfl rfl Try.func20 (by kernel_rfl) rfl #[.slice jA jz (Qu l0 bc).length] rfl hA ?_; (with_reducible refine (ZL.calls _ _ (Qu l0 bc) t102 _ ?ah ?ai A4.out).mono ?_); (case ah => exact (Kd.Qq cH.out HB.out)); (case ai => exact dx.out); rintro e w6 ⟨gG, rfl, ho0, hb⟩; refine ⟨_, rfl, ?_⟩; replace bj := aa.mk (Kd.Vo bj.out (Kd.QQ ho0) hb); have ba := aa.mk (Kd.Zh ho0 (Qb bB)); replace HB := aa.mk (Qa bB hb); (try clear hb); (try clear hb2); (try clear hk); (try clear hi); (try clear ho0); obtain ⟨Ao8, co8, eo8⟩ := Kd.Zg ba.out; subst eo8) | ((with_reducible refine Zs (b := .append) (xs := #[.tmp 15, .tmp 21]) rfl ?_); at_builtin; refine Kd.U0 (Kd.slice 3 (Kd.int .i64)) (w0 := w) w.heap.size rfl (.tmp 15) (.tmp 21) 22 28 (.slice none 0 0) 24 rfl Try.underlying22 info28 rfl (by decide) (by omega) u3 cy t102 [.slice Ao8 t102.length co8] (fun _ => True) (fun k_ => some k_ = (.slice Ao8 t102.length co8 : Value).ownBlock) rfl rfl ?aP (fun k_ hk_ => ((Kd.Zc (ok' := fun k_ => ((fun _ => True)) k_ ∧ some k_ ≠ (u3 : Value).ownBlock) (Kd.ZC (ba.out) (Kd.Vt bj.out) (by decide)) (fun k_ hk => ⟨trivial, hk.2⟩))).1 k_ hk_.symm) ?aF ?aO ?aB ?aS ?aL ?_; (case aP => exact Kd.M_row (Kd.Zc (Kd.Ux rfl (Kd.Zc (ok' := fun k_ => ((fun _ => True)) k_ ∧ some k_ ≠ (u3 : Value).ownBlock) (Kd.ZC (ba.out) (Kd.Vt bj.out) (by decide)) (fun k_ hk => ⟨trivial, hk.2⟩))) (fun _ h_ => h_))); (case aB => exact bB); (case aF => exact (fun _ _ => trivial)); (case aO => exact (by (with_reducible repeat (first | apply Kd.S_alloc | apply Kd.Yp | apply Kd.S_drew)); exact Kd.VI bj.out (fun k_ hk => ⟨trivial, fun e_ => hk.2 e_⟩))); (case aS => exact (Qb bB)); (case aL => have := ux.out; omega); intro ik w7 ho hb hg hat; rw [← gZ.out] at ho; replace HB := aa.mk (hb); have bY := aa.mk (ho); clear ba bj; clear ho hb hg hat))
      go_roundg k1
      case measure => have := HK1.out; omega
      case rel => exact ⟨(cW), (wrap64 (bc + 1)), (by first | rfl | (simp; done) | (simp [*]; done)), H', ⟨by have := HK1.out; omega⟩, ⟨by (with_reducible repeat (first | apply Kd.S_alloc | apply Kd.Yp | apply Kd.S_drew)); exact bY.out⟩, ⟨bB⟩⟩
     ·rw [if_neg c5] at H; exact absurd H (by simp)
    ·rw [if_neg c3] at H; exact absurd H (by simp)
   ·rw [if_neg c2] at H; have qa : decide (bc < (l0.length : Int)) = false := decide_eq_false c2; clear c2; obtain rfl := Option.some.inj H; go_wp2; go_ret; exact ⟨_, by first | rfl | (simp [Qk, Qj] <;> rfl) | (simp [*, Qk, Qj] <;> rfl), by (with_reducible repeat (first | apply Kd.S_alloc | apply Kd.Yp | apply Kd.S_drew)); exact bj.out, bB⟩
def QW.l0 : Nat → List Int → List Int → Int → Option (Bool)
 | 0, _, _, _ => none
 | k + 1, x0, x1, x5 => if x5 < (x1.length : Int) then (if 0 ≤ x5 then (if x5 < (x0.length : Int) then (if (rd x0 x5) = (rd x1 x5) then (QW.l0 k x0 x1 (wrap64 (x5 + 1))) else (some false)) else (none)) else (none)) else (some true)
def QW.f (k : Nat) (l0 : List Int) (l1 : List Int) : Option (Bool) := if (l0.length : Int) = (l1.length : Int) then (QW.l0 k l0 l1 0) else (some false)
set_option maxHeartbeats 8000000 in
set_option maxRecDepth 100000 in
theorem QW.calls (k : Nat) (A0 : Option Addr) (c0 : Nat) (l0 : List Int) (A1 : Option Addr) (n1 : Nat) (l1 : List Int) (r : Bool) (w : World) (hr0 : Kd.C (Kd.int .i64) w A0 l0.length l0) (hc0 : l0.length ≤ c0) (hr1 : Kd.C (Kd.int .i64) w A1 l1.length l1) (hc1 : n1 ≤ l1.length) (h : QW.f k l0 l1 = some r) :
  Calls Try.prog 22 #[.slice A0 l0.length c0, .slice A1 n1 l1.length] w fun e w' => e = .returned (.bool r) ∧ Drawn0 w w' := by
 have HR0 := aa.mk hr0; have HC0 := aa.mk hc0; clear hr0 hc0; have HR1 := aa.mk hr1; have HC1 := aa.mk hc1; clear hr1 hc1; have H : (if (l0.length : Int) = (l1.length : Int) then (QW.l0 k l0 l1 0) else (some false)) = some r := h; clear h; by_cases c3 : (l0.length : Int) = (l1.length : Int)
 ·rw [if_pos c3] at H; have bL : ((l0.length : Int) == (l1.length : Int)) = true := beq_iff_eq.mpr c3; have cA : ((l0.length : Int) != (l1.length : Int)) = false := bne_eq_false_iff_eq.mpr c3; have jy : (l0.length == l1.length) = true := by first | simpa using c3 | (simp at c3 ⊢; omega)
  clear c3; have H' := aa.mk H; clear H; go_enter Try.func22, Try.ntmps22; go_wp2; repeat (go_quiet (fail); try go_wp2)
  go_loopg [5] k (fun kq v5 w' => ∃ (ao : Int), v5 = .int .i64 ao ∧ aa (QW.l0 kq l0 l1 ao = some r) ∧ aa (kq ≤ k) ∧ Drawn0 w w')
  case atStart => exact ⟨(0), (by first | rfl | (simp; done) | (simp [*]; done)), H', ⟨Nat.le_refl _⟩, by repeat (first | exact Drawn0.refl _ | apply Drawn0.step)⟩
  case round =>
   clear H'; try clear c1
   try clear c2
   try clear p2
   try clear c3
   try clear bL
   try clear cA
   try clear jy
   obtain ⟨ao, rfl, HA, HK1, ⟨m1, rfl⟩⟩ := hrel; cases gk with
   | zero => exact absurd HA.out (by simp [QW.l0])
   | succ k1 =>
    have H := HA.out; clear HA; simp only [QW.l0] at H; by_cases c4 : ao < (l1.length : Int)
    ·rw [if_pos c4] at H; have bI : decide (ao < (l1.length : Int)) = true := decide_eq_true c4; clear c4; by_cases c5 : 0 ≤ ao
     ·rw [if_pos c5] at H; have dh : decide (0 ≤ ao) = true := decide_eq_true c5; clear c5; by_cases c6 : ao < (l0.length : Int)
      ·rw [if_pos c6] at H; have gC : decide (ao < (l0.length : Int)) = true := decide_eq_true c6; clear c6; by_cases c7 : (rd l0 ao) = (rd l1 ao)
       ·rw [if_pos c7] at H; have iy : ((rd l0 ao) == (rd l1 ao)) = true := beq_iff_eq.mpr c7; have p4 : ((rd l0 ao) != (rd l1 ao)) = false := bne_eq_false_iff_eq.mpr c7; clear c7; have H' := aa.mk H; clear H; have br : 0 ≤ (ao : Int) := of_decide_eq_true (by assumption); have bq : ao < (l0.length : Int) := of_decide_eq_true (by assumption); obtain ⟨cg, di, aU⟩ := Kd.Zi HR0.out ao br bq; cases di; replace br := eq_true br; replace bq := eq_true bq; have bH : 0 ≤ (ao : Int) := of_decide_eq_true (by assumption); have bG : ao < (l1.length : Int) := of_decide_eq_true (by assumption); obtain ⟨bM, ev, aI⟩ := Kd.Zi HR1.out ao bH bG; cases ev; replace bH := eq_true bH; replace bG := eq_true bG; go_wp2; repeat (go_quiet (fail); try go_wp2)
        go_roundg k1
        case measure => have := HK1.out; omega
        case rel => exact ⟨(wrap64 (ao + 1)), (by first | rfl | (simp; done) | (simp [*]; done)), H', ⟨by have := HK1.out; omega⟩, by repeat (first | exact Drawn0.refl _ | apply Drawn0.step)⟩
       ·rw [if_neg c7] at H; have iy : ((rd l0 ao) == (rd l1 ao)) = false := beq_eq_false_iff_ne.mpr c7; have p4 : ((rd l0 ao) != (rd l1 ao)) = true := bne_iff_ne.mpr c7; obtain rfl := Option.some.inj H; have br : 0 ≤ (ao : Int) := of_decide_eq_true (by assumption); have bq : ao < (l0.length : Int) := of_decide_eq_true (by assumption); obtain ⟨cg, di, aU⟩ := Kd.Zi HR0.out ao br bq; cases di; replace br := eq_true br; replace bq := eq_true bq; have bH : 0 ≤ (ao : Int) := of_decide_eq_true (by assumption); have bG : ao < (l1.length : Int) := of_decide_eq_true (by assumption); obtain ⟨bM, ev, aI⟩ := Kd.Zi HR1.out ao bH bG; cases ev; replace bH := eq_true bH; replace bG := eq_true bG; go_wp2; repeat (go_quiet (fail); try go_wp2)
        go_ret; exact ⟨by first | rfl | (simp; done) | (simp [*]; done), by repeat (first | exact Drawn0.refl _ | apply Drawn0.step)⟩
      ·rw [if_neg c6] at H; exact absurd H (by simp)
     ·rw [if_neg c5] at H; exact absurd H (by simp)
    ·rw [if_neg c4] at H; have bI : decide (ao < (l1.length : Int)) = false := decide_eq_false c4; clear c4; obtain rfl := Option.some.inj H; go_wp2; repeat (go_quiet (fail); try go_wp2)
     go_ret; exact ⟨by first | rfl | (simp; done) | (simp [*]; done), by repeat (first | exact Drawn0.refl _ | apply Drawn0.step)⟩
 ·rw [if_neg c3] at H; have bL : ((l0.length : Int) == (l1.length : Int)) = false := beq_eq_false_iff_ne.mpr c3; have cA : ((l0.length : Int) != (l1.length : Int)) = true := bne_iff_ne.mpr c3; have jy : (l0.length == l1.length) = false := by first | simpa using c3 | (simp at c3 ⊢; omega)
  obtain rfl := Option.some.inj H; go_enter Try.func22, Try.ntmps22; go_wp2; repeat (go_quiet (fail); try go_wp2)
  go_ret; exact ⟨by first | rfl | (simp; done) | (simp [*]; done), by repeat (first | exact Drawn0.refl _ | apply Drawn0.step)⟩
def QB.l0 : Nat → List (List Int) → List (List Int) → Int → Option (Bool)
 | 0, _, _, _ => none
 | k + 1, x0, x1, x5 => if x5 < (x1.length : Int) then (if 0 ≤ x5 then (if x5 < (x0.length : Int) then ((QW.f k (Qu x0 x5) (Qu x1 x5)).bind fun t103 => (if t103 = true then (QB.l0 k x0 x1 (wrap64 (x5 + 1))) else (some false))) else (none)) else (none)) else (some true)
def QB.f (k : Nat) (l0 : List (List Int)) (l1 : List (List Int)) : Option (Bool) := if (l0.length : Int) = (l1.length : Int) then (QB.l0 k l0 l1 0) else (some false)
set_option maxHeartbeats 8000000 in
set_option maxRecDepth 100000 in
theorem QB.calls (k : Nat) (A0 : Option Addr) (c0 : Nat) (l0 : List (List Int)) (A1 : Option Addr) (n1 : Nat) (l1 : List (List Int)) (r : Bool) (w : World) (hr0 : Kd.C (Kd.slice 3 (Kd.int .i64)) w A0 l0.length l0) (hc0 : l0.length ≤ c0) (hr1 : Kd.C Full.kd w A1 l1.length l1) (hc1 : n1 ≤ l1.length) (h : QB.f k l0 l1 = some r) :
  Calls Try.prog 19 #[.slice A0 l0.length c0, .slice A1 n1 l1.length] w fun e w' => e = .returned (.bool r) ∧ Drawn0 w w' := by
 have HR0 := aa.mk hr0; have HC0 := aa.mk hc0; clear hr0 hc0; have HR1 := aa.mk hr1; have HC1 := aa.mk hc1; clear hr1 hc1; have H : (if (l0.length : Int) = (l1.length : Int) then (QB.l0 k l0 l1 0) else (some false)) = some r := h; clear h; by_cases c3 : (l0.length : Int) = (l1.length : Int)
 ·rw [if_pos c3] at H; have bL : ((l0.length : Int) == (l1.length : Int)) = true := beq_iff_eq.mpr c3; have cA : ((l0.length : Int) != (l1.length : Int)) = false := bne_eq_false_iff_eq.mpr c3; have jy : (l0.length == l1.length) = true := by first | simpa using c3 | (simp at c3 ⊢; omega)
  clear c3; have H' := aa.mk H; clear H; go_enter Try.func19, Try.ntmps19; go_wp2; repeat (go_quiet (fail); try go_wp2)
  go_loopg [5] k (fun kq v5 w' => ∃ (ao : Int), v5 = .int .i64 ao ∧ aa (QB.l0 kq l0 l1 ao = some r) ∧ aa (kq ≤ k) ∧ Drawn0 w w')
  case atStart => exact ⟨(0), (by first | rfl | (simp; done) | (simp [*]; done)), H', ⟨Nat.le_refl _⟩, by repeat (first | exact Drawn0.refl _ | apply Drawn0.step)⟩
  case round =>
   clear H'; try clear c1
   try clear p2
   try clear c3
   try clear bL
   try clear cA
   try clear jy
   obtain ⟨ao, rfl, HA, HK1, ⟨m1, rfl⟩⟩ := hrel; cases gk with
   | zero => exact absurd HA.out (by simp [QB.l0])
   | succ k1 =>
    have H := HA.out; clear HA; simp only [QB.l0] at H; by_cases c4 : ao < (l1.length : Int)
    ·rw [if_pos c4] at H; have bI : decide (ao < (l1.length : Int)) = true := decide_eq_true c4; clear c4; by_cases c5 : 0 ≤ ao
     ·rw [if_pos c5] at H; have dh : decide (0 ≤ ao) = true := decide_eq_true c5; clear c5; by_cases c6 : ao < (l0.length : Int)
      ·rw [if_pos c6] at H; have gC : decide (ao < (l0.length : Int)) = true := decide_eq_true c6; clear c6; replace H := Option.bind_eq_some_iff.mp H; obtain ⟨t103, A70, H⟩ := H; replace H : (if t103 = true then (QB.l0 k1 l0 l1 (wrap64 (ao + 1))) else (some false)) = some r := H; have A7 := aa.mk A70; clear A70; by_cases c8 : t103 = true
       ·subst c8; have H1 : (QB.l0 k1 l0 l1 (wrap64 (ao + 1))) = some r := by rw [if_pos rfl] at H; exact H
        clear H; have H := H1; clear H1; have H' := aa.mk H; clear H; have br : 0 ≤ (ao : Int) := of_decide_eq_true (by assumption); have bq : ao < (l0.length : Int) := of_decide_eq_true (by assumption); obtain ⟨cg, jA, jz, di, aU, cv, cx⟩ := ZJ HR0.out ao br bq; cases di; have cH := aa.mk cx; have dx := aa.mk cv; clear cx cv; replace br := eq_true br; replace bq := eq_true bq; have bH : 0 ≤ (ao : Int) := of_decide_eq_true (by assumption); have bG : ao < (l1.length : Int) := of_decide_eq_true (by assumption); obtain ⟨bM, eM, eK, ev, aI, cu, cw⟩ := Full.at_ HR1.out ao bH bG; cases ev; have dv := aa.mk cw; have ee := aa.mk cu; clear cw cu; replace bH := eq_true bH; replace bG := eq_true bG; go_wp2_with (first | (go_at_call 22; (with_reducible refine (QW.calls k1 _ _ (Qu l0 ao) _ _ (Qu l1 ao) true _ ?ah ?ai ?aq ?ar A7.out).mono ?_); (case ah => exact cH.out); (case ai => exact dx.out); (case aq => exact dv.out); (case ar => exact ee.out); rintro e w' ⟨rfl, ⟨nd, rfl⟩⟩; (try first | exact ⟨rfl, _, World.drewN_drewN _ _ _⟩ | exact ⟨rfl, _, Eq.trans (World.drewN_drewN _ _ _) (congrArg (World.drewN _) (Nat.add_assoc _ _ _))⟩)))
        repeat (go_quiet (first | (go_at_call 22; (with_reducible refine (QW.calls k1 _ _ (Qu l0 ao) _ _ (Qu l1 ao) true _ ?ah ?ai ?aq ?ar A7.out).mono ?_); (case ah => exact cH.out); (case ai => exact dx.out); (case aq => exact dv.out); (case ar => exact ee.out); rintro e w' ⟨rfl, ⟨nd, rfl⟩⟩; (try first | exact ⟨rfl, _, World.drewN_drewN _ _ _⟩ | exact ⟨rfl, _, Eq.trans (World.drewN_drewN _ _ _) (congrArg (World.drewN _) (Nat.add_assoc _ _ _))⟩))); try go_wp2_with (first | (go_at_call 22; (with_reducible refine (QW.calls k1 _ _ (Qu l0 ao) _ _ (Qu l1 ao) true _ ?ah ?ai ?aq ?ar A7.out).mono ?_); (case ah => exact cH.out); (case ai => exact dx.out); (case aq => exact dv.out); (case ar => exact ee.out); rintro e w' ⟨rfl, ⟨nd, rfl⟩⟩; (try first | exact ⟨rfl, _, World.drewN_drewN _ _ _⟩ | exact ⟨rfl, _, Eq.trans (World.drewN_drewN _ _ _) (congrArg (World.drewN _) (Nat.add_assoc _ _ _))⟩))))
        go_roundg k1
        case measure => have := HK1.out; omega
        case rel => exact ⟨(wrap64 (ao + 1)), (by first | rfl | (simp; done) | (simp [*]; done)), H', ⟨by have := HK1.out; omega⟩, by repeat (first | exact Drawn0.refl _ | apply Drawn0.step)⟩
       ·replace c8 := Bool.eq_false_iff.mpr c8; subst c8; have H1 : (some false) = some r := by rw [if_neg (show ¬ (false = true) by decide)] at H; exact H
        clear H; have H := H1; clear H1; obtain rfl := Option.some.inj H; have br : 0 ≤ (ao : Int) := of_decide_eq_true (by assumption); have bq : ao < (l0.length : Int) := of_decide_eq_true (by assumption); obtain ⟨cg, jA, jz, di, aU, cv, cx⟩ := ZJ HR0.out ao br bq; cases di; have cH := aa.mk cx; have dx := aa.mk cv; clear cx cv; replace br := eq_true br; replace bq := eq_true bq; have bH : 0 ≤ (ao : Int) := of_decide_eq_true (by assumption); have bG : ao < (l1.length : Int) := of_decide_eq_true (by assumption); obtain ⟨bM, eM, eK, ev, aI, cu, cw⟩ := Full.at_ HR1.out ao bH bG; cases ev; have dv := aa.mk cw; have ee := aa.mk cu; clear cw cu; replace bH := eq_true bH; replace bG := eq_true bG; go_wp2_with (first | (go_at_call 22; (with_reducible refine (QW.calls k1 _ _ (Qu l0 ao) _ _ (Qu l1 ao) false _ ?ah ?ai ?aq ?ar A7.out).mono ?_); (case ah => exact cH.out); (case ai => exact dx.out); (case aq => exact dv.out); (case ar => exact ee.out); rintro e w' ⟨rfl, ⟨nd, rfl⟩⟩; (try first | exact ⟨rfl, _, World.drewN_drewN _ _ _⟩ | exact ⟨rfl, _, Eq.trans (World.drewN_drewN _ _ _) (congrArg (World.drewN _) (Nat.add_assoc _ _ _))⟩)))
        repeat (go_quiet (first | (go_at_call 22; (with_reducible refine (QW.calls k1 _ _ (Qu l0 ao) _ _ (Qu l1 ao) false _ ?ah ?ai ?aq ?ar A7.out).mono ?_); (case ah => exact cH.out); (case ai => exact dx.out); (case aq => exact dv.out); (case ar => exact ee.out); rintro e w' ⟨rfl, ⟨nd, rfl⟩⟩; (try first | exact ⟨rfl, _, World.drewN_drewN _ _ _⟩ | exact ⟨rfl, _, Eq.trans (World.drewN_drewN _ _ _) (congrArg (World.drewN _) (Nat.add_assoc _ _ _))⟩))); try go_wp2_with (first | (go_at_call 22; (with_reducible refine (QW.calls k1 _ _ (Qu l0 ao) _ _ (Qu l1 ao) false _ ?ah ?ai ?aq ?ar A7.out).mono ?_); (case ah => exact cH.out); (case ai => exact dx.out); (case aq => exact dv.out); (case ar => exact ee.out); rintro e w' ⟨rfl, ⟨nd, rfl⟩⟩; (try first | exact ⟨rfl, _, World.drewN_drewN _ _ _⟩ | exact ⟨rfl, _, Eq.trans (World.drewN_drewN _ _ _) (congrArg (World.drewN _) (Nat.add_assoc _ _ _))⟩))))
        go_ret; exact ⟨by first | rfl | (simp; done) | (simp [*]; done), by repeat (first | exact Drawn0.refl _ | apply Drawn0.step)⟩
      ·rw [if_neg c6] at H; exact absurd H (by simp)
     ·rw [if_neg c5] at H; exact absurd H (by simp)
    ·rw [if_neg c4] at H; have bI : decide (ao < (l1.length : Int)) = false := decide_eq_false c4; clear c4; obtain rfl := Option.some.inj H; go_wp2; repeat (go_quiet (fail); try go_wp2)
     go_ret; exact ⟨by first | rfl | (simp; done) | (simp [*]; done), by repeat (first | exact Drawn0.refl _ | apply Drawn0.step)⟩
 ·rw [if_neg c3] at H; have bL : ((l0.length : Int) == (l1.length : Int)) = false := beq_eq_false_iff_ne.mpr c3; have cA : ((l0.length : Int) != (l1.length : Int)) = true := bne_iff_ne.mpr c3; have jy : (l0.length == l1.length) = false := by first | simpa using c3 | (simp at c3 ⊢; omega)
  obtain rfl := Option.some.inj H; go_enter Try.func19, Try.ntmps19; go_wp2; repeat (go_quiet (fail); try go_wp2)
  go_ret; exact ⟨by first | rfl | (simp; done) | (simp [*]; done), by repeat (first | exact Drawn0.refl _ | apply Drawn0.step)⟩
end Go.Proofs.Ytdneelgnmnpanaa.P
end
section
namespace Go.Proofs.Ytdneelgnmnpanaa.P
open Go.RowKit Go.Proofs.YtdneelgnmnpanaaW.PrintWords
def lineAt (M : List (List Int)) (k : Nat) : List Int := M.getD k []
def cmb (p q : Int) (r t : List Int) : List Int := List.zipWith (fun a b => a * p - b * q) r t
def Okc (p q : Int) (r t : List Int) : Prop := (∀ a ∈ r, (a * p).natAbs ≤ 2305843009213693952) ∧ (∀ b ∈ t, (b * q).natAbs ≤ 2305843009213693952)
instance (p q : Int) (r t : List Int) : Decidable (Okc p q r t) := by unfold Okc; infer_instance
def elim (i top j : Nat) (M : List (List Int)) : Option (List (List Int)) :=
  if j = top ∨ (lineAt M j).getD i 0 = 0 then some M
  else if Okc ((lineAt M top).getD i 0) ((lineAt M j).getD i 0) (lineAt M j) (lineAt M top) then some (M.set j (pln (cmb ((lineAt M top).getD i 0) ((lineAt M j).getD i 0) (lineAt M j) (lineAt M top))))
  else none
def elims (i top : Nat) : Nat → Nat → List (List Int) → Option (List (List Int))
  | 0, _, M => some M
  | d + 1, j, M => (elim i top j M).bind (elims i top d (j + 1))
def swp (M : List (List Int)) (a b : Nat) : List (List Int) := (M.set a (lineAt M b)).set b (lineAt M a)
def stepc (i : Nat) (M : List (List Int)) (P : List Int) : Option (List (List Int) × List Int) :=
  if fst i (M.drop P.length) < 0 then some (M, P)
  else (elims i P.length M.length 0 (swp M P.length (P.length + (fst i (M.drop P.length)).toNat))).bind fun M' => some (M', P ++ [(i : Int)])
def redc : Nat → Nat → List (List Int) → List Int → Option (List (List Int) × List Int)
  | 0, _, M, P => some (M, P)
  | d + 1, i, M, P => (stepc i M P).bind fun x => redc d (i + 1) x.1 x.2
def red (M : List (List Int)) : Option (List (List Int) × List Int) := redc 6 0 M []
theorem fst_lt (i : Nat) : ∀ (rows : List (List Int)), fst i rows < rows.length
  | [] => by simp [fst]
  | r :: l => by
    have := fst_lt i l; rw [fst]; split
    · rw [List.length_cons]; omega
    · split <;> rw [List.length_cons] <;> omega
theorem Y9 (p q : Int) (r t : List Int) (h : r.length = t.length) : (cmb p q r t).length = r.length := by simp [cmb, h]
theorem YR (m : List Int) : (pln m).length = m.length := by unfold pln; split <;> simp
theorem cmb_lim {p q : Int} {r t : List Int} (h : Okc p q r t) : ∀ x ∈ cmb p q r t, Lim x := by
  intro x hx; obtain ⟨i, hi, rfl⟩ := List.mem_iff_getElem.1 hx; unfold cmb at hi ⊢; rw [List.length_zipWith] at hi; rw [List.getElem_zipWith]; have h1 := h.1 _ (List.getElem_mem (show i < r.length by omega)); have h2 := h.2 _ (List.getElem_mem (show i < t.length by omega)); unfold Lim; omega
theorem Z2 (M : List (List Int)) (k : Nat) (h : k < M.length) : lineAt M k = M[k] := rowD M k h
theorem Y3 (M : List (List Int)) (a b : Nat) : (swp M a b).length = M.length := by simp [swp]
end Go.Proofs.Ytdneelgnmnpanaa.P
end
section
namespace Go.Proofs.Ytdneelgnmnpanaa.P
open Go.RowKit Go.Proofs.YtdneelgnmnpanaaW.PrintWords Go.Proofs.YtdneelgnmnpanaaW.PrintLast Go.Proofs.YtdneelgnmnpanaaW.PrintMore
theorem Yx (g : Nat) : ∀ (vs : List Value) (o : Nat) (w : World), (∀ k, k ≠ g → (w.setCells g o vs).heap[k]? = w.heap[k]?) ∧ (w.setCells g o vs).heap.size = w.heap.size
 | [], _, _ => ⟨fun _ _ => rfl, rfl⟩
 | v :: r, o, w => by
  obtain ⟨h1, h2⟩ := Yx g r (o + 1) (w.setCell ⟨g, o, none⟩ v); rw [World.setCells]; exact ⟨fun k hk => (h1 k hk).trans (heap_setCell_other w _ k v hk), by rw [h2]; simp⟩
theorem YF {B g : Nat} (hg : B ≤ g) {w0 : World} : ∀ (vs : List Value) (o : Nat) (w : World), Below B w0 w → Below B w0 (w.setCells g o vs)
 | [], _, _, h => h
 | v :: r, o, w, h => by
  rw [World.setCells]; exact YF hg r (o + 1) _ (h.setCell hg v)
set_option maxHeartbeats 8000000 in
set_option maxRecDepth 100000 in
theorem U6 (A0 : Option Addr) (c0 : Nat) (l0 : List S76) (Mf : List (List Int)) (Pf : List Int) (w : World) (hr0 : Kd.C k76 w A0 l0.length l0) (hc0 : l0.length ≤ c0) (hne : 0 < l0.length) (hlen : l0.length < 1000) (h : red (l0.map L6) = some (Mf, Pf)) :
  Calls Try.prog 111 #[.slice A0 l0.length c0] w fun e w' => ∃ v0_ v1_ : Value, e = .returned (.tuple #[v0_, v1_]) ∧ Kd.R k76 76 w' w.heap.size (fun _ => True) v0_ ((Mf.take Pf.length).map mk6) ∧ Kd.R (Kd.int .i64) 3 w' w.heap.size (fun k => some k ≠ v0_.ownBlock) v1_ Pf ∧ Below w.heap.size w w' := by
 have mF := Try.underlying76; have pd := Try.underlying65; have tf := Try.underlying28; have hu3 := Try.underlying3; have mG := size76; have HR0 := aa.mk hr0; have HC0 := aa.mk hc0; have HCL := aa.mk (show Yl.f l0 = some l0 by unfold Yl.f; rw [if_pos hlen]); have HNE := aa.mk hne; have HLEN := aa.mk hlen; have HRED := aa.mk h; obtain ⟨n, hn⟩ : ∃ n, n = l0.length := ⟨_, rfl⟩; have HN := aa.mk hn; clear hr0 hc0 h hn; have HB := aa.mk (Below.refl w.heap.size w); go_enter Try.func111, Try.ntmps111; go_wp2_with (first
  | ((with_reducible refine Qh (f := 108) rfl ?_); refine QG (some 13) rfl rfl Try.func108 (by kernel_rfl) rfl #[.slice A0 l0.length c0] rfl (by (try simp only [List.map_toArray, List.map_cons, List.map_nil]); first | done | rfl) ?_; (with_reducible refine (Yl.calls A0 c0 l0 l0 _ (Kd.Qq HR0.out HB.out) HC0.out HCL.out).mono ?_); rintro e w9 ⟨v9, rfl, ho, hb⟩; refine ⟨_, rfl, ?_⟩; obtain ⟨g, c, hv, hgw, -, hbl, hlc, hcm⟩ := (Bl.of_R ho).resolve_left (fun hh => absurd (congrArg List.length hh.2) (by have := HNE.out; simp only [List.length_nil]; omega)); subst hv; have HBL := aa.mk hbl; have HCM := aa.mk hcm; have HGW := aa.mk hgw; have HLC := aa.mk hlc; have n0_ := aa.mk (Qa HB.out hb); clear HB hbl hcm hgw hlc ho hb; have HB := n0_; clear n0_))
 rw [← HN.out] at HLC; rw [← HN.out]; have HM := aa.mk (show (l0.map L6).length = n by rw [List.length_map, HN.out]); have HRC := aa.mk (show redc (6 - 0) 0 (l0.map L6) [] = some (Mf, Pf) from HRED.out); have HO := aa.mk (show Kd.R (Kd.int .i64) 3 w9 w.heap.size (fun k => k ≠ g) (.slice none 0 0) ([] : List Int) from Kd.Yr _ _ _ _ _); have HPL := aa.mk (show ([] : List Int).length ≤ n from Nat.zero_le _); have HPI := aa.mk (show ([] : List Int).length ≤ 0 from Nat.le_refl _); generalize l0.map L6 = M at HBL HM HRC; generalize ([] : List Int) = P at HRC HO HPL HPI; clear HRED HCL HR0 HC0; go_loopw [4, 14] (fun p_ i_ w' => ∃ (i : Nat) (M : List (List Int)) (P : List Int), i ≤ 6 ∧ i_ = .int .i64 i ∧ aa (redc (6 - i) i M P = some (Mf, Pf)) ∧ aa (Bl w' g M c) ∧ aa (M.length = n) ∧ aa (P.length ≤ n) ∧ aa (P.length ≤ i) ∧ aa (Kd.R (Kd.int .i64) 3 w' w.heap.size (fun k => k ≠ g) p_ P) ∧ aa (Below w.heap.size w w')) (fun _ i_ _ => 6 - (intOf i_).toNat)
 case atStart => exact ⟨0, M, P, by omega, rfl, HRC, HBL, HM, HPL, HPI, HO, HB⟩
 case round =>
  clear HRC HBL HM HPL HPI HO HB M P; obtain ⟨i, M, P, hi, rfl, HRC, HBL, HM, HPL, HPI, HO, HB⟩ := hrel; by_cases hi6 : i < 6
  ·have yN : n < 1000 := by have := HLEN.out; have := HN.out; omega
   obtain ⟨Ap, cp, ep⟩ := Kd.Zg HO.out; subst ep; have htn := HPL.out; have hlc := HLC.out; obtain ⟨kk, hkk⟩ : ∃ kk, kk = fst i (M.drop P.length) := ⟨_, rfl⟩; have HKK := aa.mk hkk; have hrl : (M.drop P.length).length = n - P.length := by rw [List.length_drop, HM.out]
   have hflt := fst_lt i (M.drop P.length); rw [← hkk, hrl] at hflt; have hrc := HRC.out; rw [show 6 - i = (6 - (i + 1)) + 1 by omega, redc] at hrc; have HS := aa.mk hrc; have hrd : Rd (wr.alloc (.cells #[.int .i64 (i : Int)] 3)) (some ⟨g, P.length * 6, none⟩) (M.drop P.length) := fun _ => ⟨g, P.length * 6, rfl, fun q r hq => by
    rw [List.getElem?_drop] at hq; obtain ⟨hq1, hq2⟩ := List.getElem?_eq_some_iff.1 hq; have hbl := HBL.out.alloc (.cells #[.int .i64 (i : Int)] 3); refine ⟨hq2 ▸ hbl.1.at hq1, ?_⟩; have := hbl.range hq1; rw [hq2, Nat.add_mul] at this; exact this⟩
   have hcell : (wr.alloc (.cells #[.int .i64 (i : Int)] 3)).cell? ⟨wr.heap.size, 0, none⟩ = some (.int .i64 (i : Int)) := (Qd (YP wr _) 0).trans rfl; clear hrc HRC hkk; by_cases hct : c = P.length
   ·have hr0 : M.drop P.length = [] := List.eq_nil_of_length_eq_zero (by rw [hrl]; omega); have hy := UN (some ⟨g, 0, none⟩) (c - P.length) (M.drop P.length) i wr.heap.size _ (fun hne => absurd hr0 hne) (by rw [hrl]; have := HLEN.out; have := HN.out; omega) (by rw [hrl]; omega) hi6 hcell; rw [hrl, ← HKK.out, show c - P.length = 0 by omega, show n - P.length = 0 by omega] at hy; have HY := aa.mk hy; have hk0 : decide (kk < 0) = true := decide_eq_true (by omega); have HS2 := aa.mk (show redc (6 - (i + 1)) (i + 1) M P = some (Mf, Pf) by
     have := HS.out; unfold stepc at this; rw [← HKK.out, if_pos (by omega)] at this; exact this)
    clear hy hrd hcell HS hr0 HKK; subst hct; go_wp2_with (first | ((with_reducible refine Qh (f := 126) rfl ?_); refine QG (some 23) rfl rfl Try.func126 (by kernel_rfl) rfl #[.slice (some ⟨g, 0, none⟩) 0 0, .func (.func 127) #[] #[.pointer (some ⟨wr.heap.size, 0, none⟩)]] rfl (by (try simp only [List.map_toArray, List.map_cons, List.map_nil]); first | done | rfl) ?_; (with_reducible refine HY.out.mono ?_); rintro e w10 ⟨rfl, hb⟩; refine ⟨_, rfl, ?_⟩; have hbx := Qa ((Below.refl wr.heap.size wr).alloc (Nat.le_refl _) (.cells #[.int .i64 (i : Int)] 3)) hb; have n0_ := aa.mk (HBL.out.below hbx); have n1_ := aa.mk (Kd.QV HO.out hbx); have n2_ := aa.mk (Qa HB.out hbx); have HBX := aa.mk (Qp (YP wr (.cells #[.int .i64 (i : Int)] 3)) hb); have uy := aa.mk (show wr.heap.size ≤ w10.heap.size from hbx.size); clear HBL HO HB hb hbx; have HBL := n0_; have HO := n1_; have HB := n2_; clear n0_ n1_ n2_))
    go_roundw
    case rel => exact ⟨i + 1, M, P, by omega, by go_num, HS2, HBL, HM, HPL, ⟨by have := HPI.out; omega⟩, HO, HB⟩
    case measure => simp [intOf]; omega
   ·have hy := UN (some ⟨g, P.length * 6, none⟩) (c - P.length) (M.drop P.length) i wr.heap.size _ hrd (by rw [hrl]; have := HLEN.out; have := HN.out; omega) (by rw [hrl]; omega) hi6 hcell; rw [hrl, ← HKK.out] at hy; have HY := aa.mk hy; by_cases hk : kk < 0
    ·have hk0 : decide (kk < 0) = true := decide_eq_true hk; have HS2 := aa.mk (show redc (6 - (i + 1)) (i + 1) M P = some (Mf, Pf) by
      have := HS.out; unfold stepc at this; rw [← HKK.out, if_pos hk] at this; exact this)
     clear hy hrd hcell HS HKK; go_wp2_with (first | ((with_reducible refine Qh (f := 126) rfl ?_); refine QG (some 23) rfl rfl Try.func126 (by kernel_rfl) rfl #[.slice (some ⟨g, P.length * 6, none⟩) (n - P.length) (c - P.length), .func (.func 127) #[] #[.pointer (some ⟨wr.heap.size, 0, none⟩)]] rfl (by (try simp only [List.map_toArray, List.map_cons, List.map_nil]); first | done | rfl) ?_; (with_reducible refine HY.out.mono ?_); rintro e w10 ⟨rfl, hb⟩; refine ⟨_, rfl, ?_⟩; have hbx := Qa ((Below.refl wr.heap.size wr).alloc (Nat.le_refl _) (.cells #[.int .i64 (i : Int)] 3)) hb; have n0_ := aa.mk (HBL.out.below hbx); have n1_ := aa.mk (Kd.QV HO.out hbx); have n2_ := aa.mk (Qa HB.out hbx); have HBX := aa.mk (Qp (YP wr (.cells #[.int .i64 (i : Int)] 3)) hb); have uy := aa.mk (show wr.heap.size ≤ w10.heap.size from hbx.size); clear HBL HO HB hb hbx; have HBL := n0_; have HO := n1_; have HB := n2_; clear n0_ n1_ n2_))
     go_roundw
     case rel => exact ⟨i + 1, M, P, by omega, by go_num, HS2, HBL, HM, HPL, ⟨by have := HPI.out; omega⟩, HO, HB⟩
     case measure => simp [intOf]; omega
    ·obtain ⟨kn, hkn⟩ := Int.eq_ofNat_of_zero_le (show 0 ≤ kk by omega); subst hkn; have hk0 : decide ((kn : Int) < 0) = false := decide_eq_false hk; have ha : P.length < M.length := by rw [HM.out]; omega
     have hb' : P.length + kn < M.length := by rw [HM.out]; omega
     obtain ⟨M1, hM1, hs2⟩ : ∃ M1, elims i P.length M.length 0 (swp M P.length (P.length + kn)) = some M1 ∧ redc (6 - (i + 1)) (i + 1) M1 (P ++ [(i : Int)]) = some (Mf, Pf) := by
      have := HS.out; unfold stepc at this; rw [← HKK.out, if_neg hk, Int.toNat_natCast] at this; obtain ⟨x, hx1, hx2⟩ := Option.bind_eq_some_iff.1 this; obtain ⟨M1, hM1, hx⟩ := Option.bind_eq_some_iff.1 hx1; obtain rfl := Option.some.inj hx; exact ⟨M1, hM1, hx2⟩
     have HNG := aa.mk (show wr.heap.size ≠ g from by have := HBL.out.lt; omega); have HWR := aa.mk (show wrap64 ((P.length : Int) + (kn : Int)) = ((P.length + kn : Nat) : Int) by rw [wrp (by omega) (by have := HLEN.out; have := HN.out; omega)]; omega); have HA := aa.mk ha; have HBB := aa.mk hb'; have HEL := aa.mk hM1; have HS2 := aa.mk hs2; clear hy hrd hcell HS HKK hM1 hs2 ha hb'; go_wp2_with (first
      | ((with_reducible refine Qh (f := 126) rfl ?_); refine QG (some 23) rfl rfl Try.func126 (by kernel_rfl) rfl #[.slice (some ⟨g, P.length * 6, none⟩) (n - P.length) (c - P.length), .func (.func 127) #[] #[.pointer (some ⟨wr.heap.size, 0, none⟩)]] rfl (by (try simp only [List.map_toArray, List.map_cons, List.map_nil]); first | done | rfl) ?_; (with_reducible refine HY.out.mono ?_); rintro e w10 ⟨rfl, hb⟩; refine ⟨_, rfl, ?_⟩; have hbx := Qa ((Below.refl wr.heap.size wr).alloc (Nat.le_refl _) (.cells #[.int .i64 (i : Int)] 3)) hb; have n0_ := aa.mk (HBL.out.below hbx); have n1_ := aa.mk (Kd.QV HO.out hbx); have n2_ := aa.mk (Qa HB.out hbx); have HBX := aa.mk (Qp (YP wr (.cells #[.int .i64 (i : Int)] 3)) hb); have uy := aa.mk (show wr.heap.size ≤ w10.heap.size from hbx.size); clear HBL HO HB hb hbx; have HBL := n0_; have HO := n1_; have HB := n2_; clear n0_ n1_ n2_)
      | ((with_reducible refine Qh (f := 128) rfl ?_); refine QG (some 31) rfl rfl Try.func128 (by kernel_rfl) rfl #[.slice (some ⟨g, 0, none⟩) n c, .int .i64 (P.length : Int), .int .i64 ((P.length + kn : Nat) : Int)] rfl (by (try simp only [List.map_toArray, List.map_cons, List.map_nil]); first | done | rfl | (rw [← HWR.out]; done) | (rw [← HWR.out]; rfl)) ?_; (with_reducible refine (exch_calls g n c P.length (P.length + kn) M _ HBL.out HM.out.symm HA.out HBB.out HLC.out).mono ?_); rintro e w11 ⟨rfl, u0⟩; refine ⟨_, rfl, ?_⟩; have rB := aa.mk u0; clear u0))
     have hsix := HBL.out.1; have hb1 := (HBL.out.drew.stores HA.out (hsix.at HBB.out)).stores (by simpa using HBB.out) (hsix.at HA.out); rw [← rB.out] at hb1; have hh : ∀ k, k ≠ g → w11.heap[k]? = w10.heap[k]? := fun k hk_ => by rw [rB.out]; exact ((Yx g _ _ _).1 k hk_).trans ((Yx g _ _ _).1 k hk_)
     have rN := aa.mk hb1; have HO2 := aa.mk (Kd.V8 HO.out (fun k hk_ _ => hh k hk_)); have rM := aa.mk ((hh _ HNG.out).trans HBX.out); have HB2 := aa.mk (show Below w.heap.size w w11 by rw [rB.out]; exact YF HGW.out _ _ _ (YF HGW.out _ _ _ (YK HB.out))); clear HBL HO HBX HB hb1 hh hsix rB; have HBL := rN; have HO := HO2; have HBX := rM; have HB := HB2; clear rN HO2 rM HB2; generalize hb5 : wr.heap.size = b5 at *; have HNB := aa.mk (show b5 ≠ g from HNG.out); have HM1 := aa.mk (show (swp M P.length (P.length + kn)).length = n by rw [Y3, HM.out]); have wR := aa.mk (show Bl w11 g (swp M P.length (P.length + kn)) c by
      have := HBL.out; unfold swp; rw [Z2 _ _ HA.out, Z2 _ _ HBB.out]; exact this)
     have wN := aa.mk (show elims i P.length (n - 0) 0 (swp M P.length (P.length + kn)) = some M1 by rw [← HEL.out, HM.out]; rfl); have HTN := aa.mk (show P.length < n by rw [← HM.out]; exact HA.out); have z5 := aa.mk (show P.length ≤ i from HPI.out); clear HBL HEL HA HBB hb5 HWR uy hk HY HM HPI; generalize swp M P.length (P.length + kn) = N at *; go_loopw [34] (fun j_ w' => ∃ (j : Nat) (N : List (List Int)), j ≤ n ∧ j_ = .int .i64 j ∧ aa (elims i P.length (n - j) j N = some M1) ∧ aa (Bl w' g N c) ∧ aa (N.length = n) ∧ aa (w'.heap[b5]? = some (.cells #[.int .i64 (i : Int)] 3 (0, 0))) ∧ aa (Kd.R (Kd.int .i64) 3 w' w.heap.size (fun k => k ≠ g) (.slice Ap P.length cp) P) ∧ aa (Below w.heap.size w w')) (fun j_ _ => n - (intOf j_).toNat)
     case atStart => exact ⟨0, N, Nat.zero_le _, rfl, wN, wR, HM1, HBX, HO, HB⟩
     case round =>
      clear wN wR HM1 HBX HO HB N; obtain ⟨j, N, hj, rfl, HEL, HBL, HM, HBX, HO, HB⟩ := hrel; by_cases hjn : j < n
      ·have hbx : wr.cell? ⟨b5, 0, none⟩ = some (.int .i64 (i : Int)) := (Qd HBX.out 0).trans rfl; have hjN : j < N.length := by rw [HM.out]; exact hjn
       have htN : P.length < N.length := by rw [HM.out]; exact HTN.out
       have hel := HEL.out; rw [show n - j = (n - (j + 1)) + 1 by omega, elims] at hel; unfold elim at hel; have HE2 := aa.mk hel; clear hel HEL; by_cases hjt : j = P.length
       ·have c1 : ((j : Int) == (P.length : Int)) = true := beq_iff_eq.mpr (by omega); have HE3 := aa.mk (show elims i P.length (n - (j + 1)) (j + 1) N = some M1 by
         have := HE2.out; rw [if_pos (Or.inl hjt)] at this; exact this)
        clear HE2 hjt; go_wp2_with fail
        go_quiet (fail)
        go_wp2_with fail
        go_roundw
        case rel => exact ⟨j + 1, N, by omega, by go_num, HE3, HBL, HM, HBX, HO, ⟨QI HB.out _⟩⟩
        case measure => simp [intOf]; omega
       ·have c1 : ((j : Int) == (P.length : Int)) = false := beq_eq_false_iff_ne.mpr (by omega); have hcj := HBL.out.cell hjN hi6; by_cases hz : N[j].getD i 0 = 0
        ·have HE3 := aa.mk (show elims i P.length (n - (j + 1)) (j + 1) N = some M1 by
          have := HE2.out; rw [if_pos (Or.inr (by rw [Z2 _ _ hjN]; exact hz))] at this; exact this)
         rw [hz] at hcj; clear HE2 hjt hz; go_wp2_with fail
         go_quiet (fail)
         go_wp2_with fail
         go_roundw
         case rel => exact ⟨j + 1, N, by omega, by go_num, HE3, HBL, HM, HBX, HO, ⟨QI HB.out _⟩⟩
         case measure => simp [intOf]; omega
        ·have hct' := HBL.out.cell htN hi6; obtain ⟨q, hq⟩ : ∃ q, q = N[j].getD i 0 := ⟨_, rfl⟩; obtain ⟨p, hp⟩ : ∃ p, p = N[P.length].getD i 0 := ⟨_, rfl⟩; have hj6 := HBL.out.1.at hjN; have ht6 := HBL.out.1.at htN; obtain ⟨hok, hel⟩ : Okc p q N[j] N[P.length] ∧ elims i P.length (n - (j + 1)) (j + 1) (N.set j (pln (cmb p q N[j] N[P.length]))) = some M1 := by
          have := HE2.out; rw [if_neg (by rw [Z2 _ _ hjN]; rintro (h1 | h1); exact hjt h1; exact hz h1), Z2 _ _ hjN, Z2 _ _ htN, ← hq, ← hp] at this; split at this
          ·rename_i h1
           exact ⟨h1, this⟩
          ·cases this
         have HOK := aa.mk hok; have HEL := aa.mk hel; have HJ6 := aa.mk hj6; have HT6 := aa.mk ht6; have HJT := aa.mk hjt; have HJN := aa.mk hjN; have HTL := aa.mk htN; rw [← hq] at hcj hz; rw [← hp] at hct'; have hq0 : (q == 0) = false := beq_eq_false_iff_ne.mpr hz; clear HE2 hjt hz hok hel hj6 ht6 hq hp; go_wp2_with fail
         go_quiet (fail)
         go_wp2_with fail
         go_quiet (fail)
         go_wp2_with fail
         have wS := aa.mk (show Bl wr g (N.set j ((cmb p q N[j] N[P.length]).take 0 ++ N[j].drop 0)) c by
          rw [List.take_zero, List.nil_append, List.drop_zero, List.set_getElem_self]; exact HBL.out)
         have HCL := aa.mk (show (cmb p q N[j] N[P.length]).length = 6 by rw [Y9 _ _ _ _ (by rw [HJ6.out, HT6.out]), HJ6.out]); clear HBL hcj hct'; go_loopw [61] (fun m_ w' => ∃ m : Nat, m ≤ 6 ∧ m_ = .int .i64 m ∧ aa (Bl w' g (N.set j ((cmb p q N[j] N[P.length]).take m ++ N[j].drop m)) c) ∧ aa (w'.heap[b5]? = some (.cells #[.int .i64 (i : Int)] 3 (0, 0))) ∧ aa (Kd.R (Kd.int .i64) 3 w' w.heap.size (fun k => k ≠ g) (.slice Ap P.length cp) P) ∧ aa (Below w.heap.size w w')) (fun m_ _ => 6 - (intOf m_).toNat)
         case atStart => exact ⟨0, by omega, rfl, ⟨wS.out⟩, ⟨HBX.out⟩, ⟨HO.out⟩, ⟨QI (QI HB.out _) _⟩⟩
         case round =>
          clear wS HBX HO HB; obtain ⟨m, hm, rfl, HBL, HBX, HO, HB⟩ := hrel; have hjS : j < (N.set j ((cmb p q N[j] N[P.length]).take m ++ N[j].drop m)).length := by simpa using hjN
          have htS : P.length < (N.set j ((cmb p q N[j] N[P.length]).take m ++ N[j].drop m)).length := by simpa using htN
          by_cases hm6 : m < 6
          ·have hj6 := HJ6.out; have ht6 := HT6.out; have hcl := HCL.out; have hrj := HBL.out.cell hjS hm6; have hrt := HBL.out.cell htS hm6; have e1 : (N.set j ((cmb p q N[j] N[P.length]).take m ++ N[j].drop m))[j] = (cmb p q N[j] N[P.length]).take m ++ N[j].drop m := by simp
           have e2 : (N.set j ((cmb p q N[j] N[P.length]).take m ++ N[j].drop m))[P.length] = N[P.length] := by
            rw [List.getElem_set_ne]; exact HJT.out
           have e3 : ((cmb p q N[j] N[P.length]).take m ++ N[j].drop m).getD m 0 = N[j][m] := by
            rw [List.getD_eq_getElem?_getD, List.getElem?_append_right (by rw [List.length_take]; omega), List.length_take, Nat.min_eq_left (by omega), Nat.sub_self, List.getElem?_drop, Nat.add_zero, List.getElem?_eq_getElem (by omega)]; rfl
           have e4 : N[P.length].getD m 0 = N[P.length][m] := by rw [List.getD_eq_getElem?_getD, List.getElem?_eq_getElem (by omega)]; rfl
           rw [e1, e3] at hrj; rw [e2, e4] at hrt; have hst := fun v => HBL.out.store hjS hm6 v
           rw [e1] at hst; have hcm : (cmb p q N[j] N[P.length])[m] = N[j][m] * p - N[P.length][m] * q := by unfold cmb; rw [List.getElem_zipWith]
           have hnext : ((cmb p q N[j] N[P.length]).take m ++ N[j].drop m).set m (N[j][m] * p - N[P.length][m] * q) = (cmb p q N[j] N[P.length]).take (m + 1) ++ N[j].drop (m + 1) := by
            rw [List.set_append_right _ _ (by rw [List.length_take]; omega), List.length_take, Nat.min_eq_left (by omega), Nat.sub_self, List.drop_eq_getElem_cons (by omega : m < N[j].length), List.set_cons_zero, List.take_succ_eq_append_getElem (by omega), hcm, List.append_assoc]; rfl
           have hnx := hst (N[j][m] * p - N[P.length][m] * q); rw [hnext, List.set_set] at hnx; have HNX := aa.mk hnx; have hff := HBL.out.frozen (j * 6 + m); have o1 := HOK.out.1 _ (List.getElem_mem (show m < N[j].length by omega)); have o2 := HOK.out.2 _ (List.getElem_mem (show m < N[P.length].length by omega)); have hB5 := aa.mk (HBX.out); clear e1 e2 e3 e4 hst hcm hnext hnx; generalize N[j][m] = rj at *; generalize N[P.length][m] = rt at *; have w1 : wrap64 (rj * p) = rj * p := wrp (by omega) (by omega); have w2 : wrap64 (rt * q) = rt * q := wrp (by omega) (by omega); have w3 : wrap64 (rj * p - rt * q) = rj * p - rt * q := wrp (by omega) (by omega); clear o1 o2; go_wp2_with fail
           go_region; go_wp2_with fail
           go_roundw
           case rel => exact ⟨m + 1, by omega, by go_num, HNX, ⟨(heap_setCell_other _ _ _ _ HNB.out).trans HBX.out⟩, ⟨Kd.R_far HO.out (fun _ hk_ => hk_) _⟩, ⟨(HB.out.setCell HGW.out _).drew⟩⟩
           case measure => simp [intOf]; omega
          ·obtain rfl : m = 6 := by omega
           have hbl := HBL.out; rw [List.take_of_length_le (by rw [HCL.out]; exact Nat.le_refl _), List.drop_eq_nil_of_le (by rw [HJ6.out]; exact Nat.le_refl _), List.append_nil] at hbl; have tq : j < (N.set j (cmb p q N[j] N[P.length])).length := by simpa using hjN
           have hrg := hbl.range tq; rw [List.getElem_set_self] at hrg; have hth := hbl.there tq; have hnew := fun (w2 : World) (hb : Below wr.heap.size wr w2) => (hbl.below hb).stores tq (r := pln (cmb p q N[j] N[P.length])) (by rw [YR, HCL.out])
           simp only [List.set_set] at hnew; have z4 := aa.mk (fun W => Ug (cmb p q N[j] N[P.length]) W HCL.out (cmb_lim HOK.out)); have HPN := aa.mk (show (pln (cmb p q N[j] N[P.length])).length = 6 by rw [YR, HCL.out]); have HE := aa.mk (show elims i P.length (n - (j + 1)) (j + 1) (N.set j (pln (cmb p q N[j] N[P.length]))) = some M1 from HEL.out); have HMN := aa.mk (show (N.set j (pln (cmb p q N[j] N[P.length]))).length = n by rw [List.length_set, HM.out]); have HBF := aa.mk (fun (w2 : World) (hb : Below wr.heap.size wr w2) (o : Nat) => (hbl.below hb).frozen o); have HRG := aa.mk hrg; have HTH := aa.mk hth; have HNW := aa.mk hnew; have HI1 := aa.mk (show (Try.prog.info? 76).map (·.size) = some ((cmb p q N[j] N[P.length]).map (Value.int .i64)).length by rw [List.length_map, HCL.out]; exact size76); have HI2 := aa.mk (show (Try.prog.info? 76).map (·.size) = some (arr (pln (cmb p q N[j] N[P.length]))).size by rw [ZV, HPN.out]; exact size76); clear hbl hrg hth hnew HEL; generalize pln (cmb p q N[j] N[P.length]) = s at *; generalize cmb p q N[j] N[P.length] = z at *; go_wp2_with (first
            | (refine wpList_load_mid rfl 76 _ rfl g (j * 6) rfl (z.map (Value.int .i64)) _ HRG.out Try.underlying76 rfl HI1.out ?_)
            | ((with_reducible refine Qh (f := 118) rfl ?_); refine QG (some 93) rfl rfl Try.func118 (by kernel_rfl) rfl #[.agg (arr z)] rfl (by (try simp only [List.map_toArray, List.map_cons, List.map_nil]); first | done | rfl) ?_; (with_reducible refine (z4.out _).mono ?_); rintro e w12 ⟨rfl, hb⟩; refine ⟨_, rfl, ?_⟩; have z6 := aa.mk (HNW.out _ hb); have zZ := aa.mk (show w12.there g (j * 6) 6 from fun q hq => ⟨by obtain ⟨u, hu⟩ := Option.isSome_iff_exists.1 (HTH.out q hq).1; rw [(hb.cell (World.block_lt_of_cell? wr _ hu)).trans hu]; rfl, HBF.out _ hb _⟩); have rM := aa.mk (Qp HBX.out hb); have HO2 := aa.mk (Kd.QV HO.out hb); have HB2 := aa.mk (Qa HB.out hb); clear HBL HO HBX HB hb HNW HTH)
            | (refine wpList_store_mid rfl 76 _ _ rfl g (j * 6) (arr s) rfl rfl (by rw [ZV, HPN.out]; exact zZ.out) HI2.out (YZ s) ?_))
           go_roundw
           case rel => exact ⟨j + 1, N.set j s, by omega, by go_num, HE, z6, HMN, ⟨((Yx g _ _ _).1 _ HNB.out).trans rM.out⟩, ⟨Kd.V8 HO2.out (fun k hk_ _ => (Yx g _ _ _).1 k hk_)⟩, ⟨YF HGW.out _ _ _ HB2.out⟩⟩
           case measure => simp [intOf]; omega
      ·obtain rfl : j = n := by omega
       have hN : N = M1 := by
        have := HEL.out; rw [Nat.sub_self, elims] at this; exact Option.some.inj this
       subst hN; have hbx : wr.cell? ⟨b5, 0, none⟩ = some (.int .i64 (i : Int)) := (Qd HBX.out 0).trans rfl; have HGL := aa.mk HBL.out.lt; go_wp2_with (first
        | ((with_reducible refine Zs (b := .append) (xs := #[.tmp 96, .tmp 98]) rfl ?_); at_builtin; refine Kd.Ys (Kd.int .i64) (w0 := w) w.heap.size rfl (.tmp 96) (.tmp 98) 28 3 (.int .i64 0) 8 rfl Try.underlying28 info3 rfl (by decide) (by omega) (.slice Ap P.length cp) P (i : Int) [.int .i64 (i : Int)] (fun k_ => k_ ≠ g) (fun _ => False) rfl rfl ?aP (fun _ hk => hk.elim) ?aF ?aO ?aB ?aS ?aL ?_; (case aP => exact rfl); (case aB => exact (by repeat (first | (with_reducible first | exact HB.out | apply Q0 | apply QI | apply QR) | exact HB.out))); (case aF => exact (fun k_ hk => by have h1 := HGL.out; have h2 : wr.heap.size ≤ k_ := Nat.le_trans (by simp) hk; show k_ ≠ g; omega)); (case aO => exact (by (with_reducible repeat (first | apply Kd.R_alloc | apply Kd.R_drewN | apply Kd.QO)); exact HO.out)); (case aS => exact (Qb (by repeat (first | (with_reducible first | exact HB.out | apply Q0 | apply QI | apply QR) | exact HB.out)))); (case aL => have := HTN.out; omega); intro jP w12 ho hb hg hat; have rN := aa.mk (show Bl w12 g N c from by first | exact HBL.out.move (hg.block g HGL.out (fun e_ => HO.out.1 g e_.symm rfl)) | exact (HBL.out.alloc _).move (hg.block g (Nat.lt_of_lt_of_le HGL.out (by simp)) (fun e_ => HO.out.1 g e_.symm rfl))); replace HB := aa.mk (hb); replace HO := aa.mk (ho); clear ho hb hg hat))
       go_roundw
       case rel => exact ⟨i + 1, N, P ++ [(i : Int)], by omega, by go_num, HS2, rN, HM, ⟨by have := HTN.out; simp; omega⟩, ⟨by have := z5.out; simp; omega⟩, HO, HB⟩
       case measure => simp [intOf]; omega
  ·obtain rfl : i = 6 := by omega
   have hf : M = Mf ∧ P = Pf := by
    have := HRC.out; rw [Nat.sub_self, redc] at this; have := Option.some.inj this; exact ⟨congrArg Prod.fst this, congrArg Prod.snd this⟩
   obtain ⟨rfl, rfl⟩ := hf; obtain ⟨Ap, cp, ep⟩ := Kd.Zg HO.out; subst ep; have htn := HPL.out; have hlc := HLC.out; have hle : P.length ≤ c := by omega
   go_wp2_with fail
   go_ret2; refine ⟨_, _, rfl, HBL.out.R HGW.out trivial (by rw [HM.out]; exact htn) HCM.out, ?_, HB.out⟩; exact Kd.Zc HO.out (fun k hk => by simp [Value.ownBlock]; exact fun e => hk e)
def Z6.f (l : List S76) : Option (List S76 × List Int) := if 0 < l.length ∧ l.length < 1000 then (red (l.map L6)).map fun x => ((x.1.take x.2.length).map mk6, x.2) else none
theorem Z6.calls (A0 : Option Addr) (c0 : Nat) (l0 : List S76) (r1 : List S76) (r2 : List Int) (w : World) (hr0 : Kd.C k76 w A0 l0.length l0) (hc0 : l0.length ≤ c0) (h : Z6.f l0 = some (r1, r2)) :
  Calls Try.prog 111 #[.slice A0 l0.length c0] w fun e w' => ∃ v0_ v1_ : Value, e = .returned (.tuple #[v0_, v1_]) ∧ Kd.R k76 76 w' w.heap.size (fun _ => True) v0_ r1 ∧ Kd.R (Kd.int .i64) 3 w' w.heap.size (fun k => some k ≠ v0_.ownBlock) v1_ r2 ∧ Below w.heap.size w w' := by
 unfold Z6.f at h; split at h
 case isFalse => cases h
 rename_i hc
 obtain ⟨⟨Mf, Pf⟩, hx, e⟩ := Option.map_eq_some_iff.1 h; obtain ⟨rfl, rfl⟩ := Prod.mk.inj e; exact U6 A0 c0 l0 Mf Pf w hr0 hc0 hc.1 hc.2 hx
instance (x : Int) : Decidable (Lim x) := by unfold Lim; infer_instance
def frg : Nat → Nat → List Int → Nat
 | 0, f, _ => f
 | d + 1, f, P => if (f : Int) ∈ P then frg d (f + 1) P else f
def AllOk (r : List Int) (p a : Int) : Prop := 0 ≤ p ∧ p < 6 ∧ Lim a ∧ Lim (r.getD p.toNat 0) ∧ Int.gcd a (r.getD p.toNat 0) ≠ 0 ∧ Lim (a.tdiv (Int.gcd a (r.getD p.toNat 0)) * r.getD p.toNat 0)
instance (r : List Int) (p a : Int) : Decidable (AllOk r p a) := by unfold AllOk; infer_instance
def alls : List (List Int × Int) → Int → Option Int
 | [], a => some a
 | x :: l, a => if AllOk x.1 x.2 a then alls l (a.tdiv (Int.gcd a (x.1.getD x.2.toNat 0)) * x.1.getD x.2.toNat 0) else none
def OutOk (free : Nat) (all : Int) (r : List Int) (p : Int) : Prop := 0 ≤ p ∧ p < 6 ∧ Lim all ∧ Lim (r.getD free 0) ∧ r.getD p.toNat 0 ≠ 0 ∧ Lim (-(r.getD free 0) * all.tdiv (r.getD p.toNat 0))
instance (free : Nat) (all : Int) (r : List Int) (p : Int) : Decidable (OutOk free all r p) := by unfold OutOk; infer_instance
def outs (free : Nat) (all : Int) : List (List Int × Int) → List Int → Option (List Int)
 | [], o => some o
 | x :: l, o => if OutOk free all x.1 x.2 then outs free all l (o.set x.2.toNat (-(x.1.getD free 0) * all.tdiv (x.1.getD x.2.toNat 0))) else none
def fin (o : List Int) (count : Nat) : Option (List Int) :=
 if (∀ x ∈ o, Lim x) ∧ 0 ≤ nzi ((pln o).take count) then
  some (if (pln o).getD (nzi ((pln o).take count)).toNat 0 < 0 then ((pln o).map (fun x => -x)).take count else (pln o).take count)
 else none
def sol (R : List (List Int)) (P : List Int) (count : Nat) : Option (List Int × Bool) :=
 if (count : Int) - P.length ≠ 1 then some ([], false)
 else if ((frg 7 0 P : Int)) ∉ P ∧ frg 7 0 P < 6 ∧ R.length = P.length then
  (alls (R.zip P) 1).bind fun all => (outs (frg 7 0 P) all (R.zip P) (zeros6.set (frg 7 0 P) all)).bind fun o => (fin o count).map fun s => (s, true)
 else none
def Zl.f (l : List S76) (count : Int) : Option (List Int × Bool) :=
 if 0 ≤ count ∧ count ≤ 6 then (Z6.f l).bind fun x => sol (x.1.map L6) x.2 count.toNat else none
theorem VS (i top : Nat) : ∀ (d j : Nat) (M M' : List (List Int)), elims i top d j M = some M' → M'.length = M.length
 | 0, j, M, M', h => by rw [elims] at h; rw [← Option.some.inj h]
 | d + 1, j, M, M', h => by
  rw [elims] at h; obtain ⟨N, h1, h2⟩ := Option.bind_eq_some_iff.1 h; rw [VS i top d (j + 1) N M' h2]; unfold elim at h1; split at h1
  ·rw [← Option.some.inj h1]
  ·split at h1
   ·rw [← Option.some.inj h1]; simp
   ·cases h1
theorem Ue : ∀ (d i : Nat) (M : List (List Int)) (P : List Int) (Mf : List (List Int)) (Pf : List Int), redc d i M P = some (Mf, Pf) → Pf.length ≤ P.length + d ∧ Mf.length = M.length
 | 0, i, M, P, Mf, Pf, h => by
  rw [redc] at h; obtain ⟨rfl, rfl⟩ := Prod.mk.inj (Option.some.inj h); exact ⟨Nat.le_refl _, rfl⟩
 | d + 1, i, M, P, Mf, Pf, h => by
  rw [redc] at h; obtain ⟨⟨M1, P1⟩, h1, h2⟩ := Option.bind_eq_some_iff.1 h; have h3 := Ue d (i + 1) M1 P1 Mf Pf h2; unfold stepc at h1; split at h1
  ·obtain ⟨rfl, rfl⟩ := Prod.mk.inj (Option.some.inj h1); exact ⟨by omega, h3.2⟩
  ·obtain ⟨M2, h4, h5⟩ := Option.bind_eq_some_iff.1 h1; obtain ⟨rfl, rfl⟩ := Prod.mk.inj (Option.some.inj h5); have h6 := VS _ _ _ _ _ _ h4; rw [Y3] at h6; simp at h3; exact ⟨by omega, by omega⟩
theorem red_places {M Mf : List (List Int)} {Pf : List Int} (h : red M = some (Mf, Pf)) : Pf.length ≤ 1000 := by
 have := (Ue 6 0 M [] Mf Pf h).1; simp at this; omega
def solu.T11 : Bool × List (List Nat × List Nat) := (true, [([], []), ([], []), ([], []), ([], []), ([2, 3], [2, 3]), ([4], [4]), ([5], [5]), ([6], [6]), ([1, 7], [1, 7]), ([0, 8], [0, 8]), ([], []), ([], []), ([10, 11], [10, 11]), ([12], [12]), ([13], [13]), ([14], [14]), ([9, 15], [9, 15]), ([16, 8, 0, 1, 2, 3, 4, 5, 6, 7, 8, 9, 10, 11, 12, 13, 14, 15, 16], [0, 1, 16])])
def solu.B11 : List Nat := [0, 0, 0, 0, 12, 28, 60, 124, 254, 511, 0, 0, 3072, 7168, 15360, 31744, 65535, 131071]
theorem solu.tab11 : rtab .any (opsOf Try.f82 11) = solu.T11 := by kernel_rfl
theorem solu.bits11 : waitsOk solu.T11.2 solu.B11 = true := by kernel_rfl
def solu.T18 : Bool × List (List Nat × List Nat) := (true, [([], []), ([], []), ([0, 1], [0, 1]), ([2], [2]), ([], []), ([4], [4]), ([5], [5]), ([6], [6]), ([], []), ([], []), ([], []), ([9, 10], [9, 10]), ([11], [11]), ([12], [12]), ([13], [13]), ([8, 14], [8, 14]), ([7, 15], [7, 15]), ([3, 0, 1, 2, 3, 4, 5, 6, 7, 8, 9, 10, 11, 12, 13, 14, 15, 16], [3]), ([17, 16, 0, 1, 2, 3, 4, 5, 6, 7, 8, 9, 10, 11, 12, 13, 14, 15, 16], [16, 17])])
def solu.B18 : List Nat := [0, 0, 3, 7, 0, 16, 48, 112, 0, 0, 0, 1536, 3584, 7680, 15872, 32512, 65520, 131071, 262143]
theorem solu.tab18 : rtab .any (opsOf Try.f82 18) = solu.T18 := by kernel_rfl
theorem solu.bits18 : waitsOk solu.T18.2 solu.B18 = true := by kernel_rfl
theorem R_addr {α : Type} {d : Kd α} {e base : Nat} {ok : Nat → Prop} {w : World} {A : Option Addr} {n c : Nat} {xs : List α} (h : Kd.R d e w base ok (.slice A n c) xs) : ∀ ad, A = some ad → ad.spot = none := by
 obtain ⟨inner, ho⟩ := Kd.R_own h; intro ad hA; rcases ho.2 with ⟨hv, _⟩ | ⟨g, cap, cur, hv, _⟩
 ·cases hv; cases hA
 ·cases hv; cases hA; rfl
theorem C_arr {w : World} {b n : Nat} {m : List Int} {t : TypeId} (h : w.heap[b]? = some (.cells (arr m) t (0, 0))) (hn : n ≤ m.length) (hm : m.length ≤ 1000) : Kd.C (Kd.int .i64) w (some ⟨b, 0, none⟩) (m.take n).length (m.take n) := by
 refine Kd.Vd (d := (0 : Int)) (h1 := fun _ => rfl) ⟨rfl, by rw [List.length_take]; omega, fun _ => ⟨_, rfl, fun j hj => ?_⟩⟩; have hj' : j < n := by rw [List.length_take] at hj; omega
 rw [Z9, YG h j (by omega)]; simp [List.getElem?_take, hj', show j < m.length by omega]
theorem pln_lim {m : List Int} (h : ∀ x ∈ m, Lim x) : ∀ x ∈ pln m, Lim x := by
 unfold pln; split
 ·intro x hx; obtain ⟨y, hy, rfl⟩ := List.mem_map.1 hx; have h1 := h y hy; unfold Lim at *; have : (y.tdiv (gc m)).natAbs ≤ y.natAbs := by rw [Int.natAbs_tdiv]; exact Nat.div_le_self _ _
  omega
 ·exact h
theorem slice76 (b n : Nat) (hn : n ≤ 6) (W : World) : (Instr.sliceAt 76 (.pointer (some ⟨b, 0, none⟩)) none (some (.int .i64 (n : Int))) none).run Try.prog W = .ok (.slice (some ⟨b, 0, none⟩) n 6) W := by
 have hl : Try.prog.arrayLen 76 = 6 := by kernel_rfl
 have he : Try.prog.elem 76 = 3 := by kernel_rfl
 have hsz : (sizeOf 3).run Try.prog W = .ok 1 W := by
  cases hq : Try.prog.info? 3 with
  | none => have := info3; rw [hq] at this; cases this
  | some j =>
   have := info3; rw [hq] at this; simp only [Option.map_some, Option.some.injEq, Prod.mk.injEq] at this; simp [sizeOf, typeInfo, hq, this.2.1]
 have h := run_sliceAt_array_h (P := Try.prog) W 76 ⟨b, 0, none⟩ (by rw [hl, he]; exact Try.underlying76) .i64 (n : Int) (by omega) (by rw [hl]; omega); rw [h, hl, he, hsz]; simp [Result.andThen, slicedAt, Z9]
theorem Uy (f : Nat) : zeros6.getD f 0 = 0 := by
 unfold zeros6; rw [List.getD_eq_getElem?_getD, List.getElem?_replicate]; split <;> rfl
theorem frg_le : ∀ (d f : Nat) (P : List Int), f ≤ frg d f P
 | 0, f, P => Nat.le_refl _
 | d + 1, f, P => by
  rw [frg]; split
  ·exact Nat.le_trans (Nat.le_succ f) (frg_le d (f + 1) P)
  ·exact Nat.le_refl _
set_option maxHeartbeats 8000000 in
set_option maxRecDepth 100000 in
theorem sol_calls (A0 : Option Addr) (c0 : Nat) (l0 : List S76) (count : Nat) (R : List S76) (P : List Int) (r1 : List Int) (r2 : Bool) (w : World) (hr0 : Kd.C k76 w A0 l0.length l0) (hc0 : l0.length ≤ c0) (hcount : count ≤ 6) (hred : Z6.f l0 = some (R, P)) (h : sol (R.map L6) P count = some (r1, r2)) :
  Calls Try.prog 82 #[.slice A0 l0.length c0, .int .i64 (count : Int)] w fun e w' => ∃ v0_ : Value, e = .returned (.tuple #[v0_, .bool r2]) ∧ Kd.R (Kd.int .i64) 3 w' w.heap.size (fun _ => True) v0_ r1 ∧ Below w.heap.size w w' := by
 have mF := Try.underlying76; have pd := Try.underlying65; have tf := Try.underlying28; have hu3 := Try.underlying3; have mG := size76; have yE := (zero_of_info info76z).1; have HPL := aa.mk (show P.length ≤ 1000 from by
  unfold Z6.f at hred; split at hred
  case isFalse => cases hred
  obtain ⟨⟨Mf, Pf⟩, hx, e⟩ := Option.map_eq_some_iff.1 hred; obtain ⟨_, rfl⟩ := Prod.mk.inj e; exact red_places hx)
 have HX := aa.mk (fun W (hb : Below w.heap.size w W) => Z6.calls A0 c0 l0 R P W (Kd.Qq hr0 hb) hc0 hred); clear hr0 hc0 hred; have HB := aa.mk (Below.refl w.heap.size w); have HS := aa.mk h; have HCT := aa.mk hcount; clear h; by_cases hne : (count : Int) - (P.length : Int) = 1
 case neg =>
  have hs := HS.out; unfold sol at hs; rw [if_pos hne] at hs; obtain ⟨rfl, rfl⟩ := Prod.mk.inj (Option.some.inj hs); have c1 : ((count : Int) - (P.length : Int) != 1) = true := bne_iff_ne.mpr hne; have hpl := HPL.out; have hwr : wrap64 ((count : Int) - (P.length : Int)) = (count : Int) - (P.length : Int) := wrp (by omega) (by omega); clear hs hne; go_enter Try.func82, Try.ntmps82; go_wp2_with (first
   | ((with_reducible refine Qh (f := 111) rfl ?_); refine QG (some 19) rfl rfl Try.func111 (by kernel_rfl) rfl #[.slice A0 l0.length c0] rfl (by (try simp only [List.map_toArray, List.map_cons, List.map_nil]); first | done | rfl) ?_; (with_reducible refine (HX.out _ HB.out).mono ?_); rintro e w9 ⟨v0, v1, rfl, ho0, ho1, hb⟩; refine ⟨_, rfl, ?_⟩; obtain ⟨Ap, cp, ep⟩ := Kd.Zg ho1; subst ep; have HB2 := aa.mk (Qa HB.out hb); clear HB ho0 ho1 hb))
  go_ret2; exact ⟨_, rfl, Kd.Yr _ _ _ _ _, HB2.out⟩
 have hs := HS.out; unfold sol at hs; rw [if_neg (fun hh => hh hne)] at hs; split at hs
 case isFalse => cases hs
 rename_i hfree
 obtain ⟨free, hfr⟩ : ∃ f, f = frg 7 0 P := ⟨_, rfl⟩; rw [← hfr] at hs hfree; obtain ⟨all, hall, hs2⟩ := Option.bind_eq_some_iff.1 hs; obtain ⟨o, hout, hs3⟩ := Option.bind_eq_some_iff.1 hs2; obtain ⟨s, hfin, hs4⟩ := Option.map_eq_some_iff.1 hs3; obtain ⟨rfl, rfl⟩ := Prod.mk.inj hs4; obtain ⟨f1, f2, f3⟩ := hfree; have HNP := aa.mk f1; have HFR := aa.mk hfr; have HALL := aa.mk hall; have HOUT := aa.mk hout; have HFIN := aa.mk hfin; have HRL := aa.mk (show R.length = P.length by rw [← f3, List.length_map]); have c1 : ((count : Int) - (P.length : Int) != 1) = false := bne_eq_false_iff_eq.mpr hne; have hpl := HPL.out; have hwr : wrap64 ((count : Int) - (P.length : Int)) = (count : Int) - (P.length : Int) := wrp (by omega) (by omega); clear hs hs2 hs3 hs4 HS hall hout hfin f1 f3 hne hfr; go_enter Try.func82, Try.ntmps82; go_wp2_with (first
  | ((with_reducible refine Qh (f := 111) rfl ?_); refine QG (some 19) rfl rfl Try.func111 (by kernel_rfl) rfl #[.slice A0 l0.length c0] rfl (by (try simp only [List.map_toArray, List.map_cons, List.map_nil]); first | done | rfl) ?_; (with_reducible refine (HX.out _ HB.out).mono ?_); rintro e w9 ⟨v0, v1, rfl, ho0, ho1, hb⟩; refine ⟨_, rfl, ?_⟩; obtain ⟨Ar, cr, er⟩ := Kd.Zg ho0; subst er; obtain ⟨Ap, cp, ep⟩ := Kd.Zg ho1; subst ep; have HRR := aa.mk (Rd.of_C (Kd.QE ho0).2.2 (R_addr ho0)); have HCP := aa.mk (Kd.QE ho1).2.2; have HCPc := aa.mk (Kd.QE ho1).2.1; have HCRc := aa.mk (Kd.QE ho0).2.1; have HB2 := aa.mk (Qa HB.out hb); clear HB ho0 ho1 hb))
 have HB9 := aa.mk (Below.refl w9.heap.size w9); have HW9 := aa.mk (show w.heap.size ≤ w9.heap.size from HB2.out.size); go_loopw [8] (fun f_ w' => ∃ f : Nat, f ≤ free ∧ f_ = .int .i64 f ∧ aa (frg (7 - f) f P = free) ∧ aa (Below w9.heap.size w9 w')) (fun f_ _ => 7 - (intOf f_).toNat)
 case atStart => exact ⟨0, Nat.zero_le _, rfl, ⟨HFR.out.symm⟩, HB9⟩
 case round =>
  clear HB9; obtain ⟨f, hf, rfl, HF, HB9⟩ := hrel; have HCC := aa.mk (UX Ap cp P (f : Int) wr (Kd.Qq HCP.out HB9.out) HCPc.out HPL.out); obtain ⟨b, hb⟩ : ∃ b, b = decide ((f : Int) ∈ P) := ⟨_, rfl⟩; rw [← hb] at HCC; have HBB := aa.mk hb; clear hb; cases b with
  | true =>
   have hin : (f : Int) ∈ P := by have := HBB.out; simpa using this.symm
   have hff : frg (7 - (f + 1)) (f + 1) P = free := by
    have := HF.out; rw [show 7 - f = (7 - (f + 1)) + 1 by omega, frg, if_pos hin] at this; exact this
   have hle := frg_le (7 - (f + 1)) (f + 1) P; rw [hff] at hle; have HFF := aa.mk hff; clear hin hff; go_wp2_with (first
    | ((with_reducible refine Qh (f := 116) rfl ?_); refine QG (some 29) rfl rfl Try.func116 (by kernel_rfl) rfl #[.slice Ap P.length cp, .int .i64 (f : Int)] rfl (by (try simp only [List.map_toArray, List.map_cons, List.map_nil]); first | done | rfl) ?_; (with_reducible refine HCC.out.mono ?_); rintro e w10 ⟨rfl, hb⟩; refine ⟨_, rfl, ?_⟩; have n0_ := aa.mk (Qa HB9.out hb); clear HB9 hb; have HB9 := n0_; clear n0_))
   go_roundw
   case rel => exact ⟨f + 1, hle, by go_num, HFF, HB9⟩
   case measure => simp [intOf]; omega
  | false =>
   have hnin : (f : Int) ∉ P := by have := HBB.out; simpa using this.symm
   have hff : f = free := by
    have := HF.out; rw [show 7 - f = (6 - f) + 1 by omega, frg, if_neg hnin] at this; exact this
   subst hff; have HRZ := aa.mk (show alls (((R.map L6).zip P).drop 0) 1 = some all from HALL.out); clear hnin HF; go_wp2_with (first
    | ((with_reducible refine Qh (f := 116) rfl ?_); refine QG (some 29) rfl rfl Try.func116 (by kernel_rfl) rfl #[.slice Ap P.length cp, .int .i64 (f : Int)] rfl (by (try simp only [List.map_toArray, List.map_cons, List.map_nil]); first | done | rfl) ?_; (with_reducible refine HCC.out.mono ?_); rintro e w10 ⟨rfl, hb⟩; refine ⟨_, rfl, ?_⟩; have n0_ := aa.mk (Qa HB9.out hb); clear HB9 hb; have HB9 := n0_; clear n0_))
   go_loopw [9, 34] (fun a_ k_ w' => ∃ (k : Nat) (a : Int), k ≤ R.length ∧ k_ = .int .i64 k ∧ a_ = .int .i64 a ∧ aa (alls (((R.map L6).zip P).drop k) a = some all) ∧ aa (Below w9.heap.size w9 w')) (fun _ k_ _ => R.length - (intOf k_).toNat)
   case atStart => exact ⟨0, 1, Nat.zero_le _, rfl, rfl, HRZ, HB9⟩
   case round =>
    clear HRZ HB9 HCC HBB; obtain ⟨k, a, hk, rfl, rfl, HA, HB9⟩ := hrel; by_cases hkR : k < R.length
    ·have hkP : k < P.length := by rw [← HRL.out]; exact hkR
     have hkZ : k < ((R.map L6).zip P).length := by simp; omega
     have hze : ((R.map L6).zip P)[k] = (L6 R[k], P[k]) := by simp
     have ha := HA.out; rw [List.drop_eq_getElem_cons hkZ, hze, alls] at ha; split at ha
     case isFalse => cases ha
     rename_i hok
     obtain ⟨o1, o2, o3, o4, o5, o6⟩ : AllOk (L6 R[k]) P[k] a := hok; replace ha : alls (((R.map L6).zip P).drop (k + 1)) (a.tdiv (Int.gcd a ((L6 R[k]).getD P[k].toNat 0)) * (L6 R[k]).getD P[k].toNat 0) = some all := ha; obtain ⟨pn, hpn⟩ := Int.eq_ofNat_of_zero_le o1; obtain ⟨b, ob, hAr, hrg⟩ := HRR.out (by intro e; rw [List.map_eq_nil_iff] at e; rw [e] at hkR; simp at hkR); obtain ⟨hr6, hrange⟩ := hrg k (L6 R[k]) (by rw [List.getElem?_map, List.getElem?_eq_getElem hkR]; rfl); have HRG := aa.mk (Vh hrange HB9.out); obtain ⟨adp, eadp, hxp⟩ := Kd.Zi HCP.out (k : Int) (by omega) (by omega); rw [UF P k hkP, hpn] at hxp; simp only [Int.toNat_natCast] at hxp; replace hxp := (HB9.out.cell (World.block_lt_of_cell? w9 _ hxp)).trans hxp; subst hAr; subst eadp; simp only [hpn, Int.toNat_natCast] at o1 o2 o3 o4 o5 o6 ha; obtain ⟨r, hr⟩ : ∃ r, r = L6 R[k] := ⟨_, rfl⟩; have lJ : r.length = 6 := by rw [hr]; rfl
     rw [← hr] at o4 o5 o6 ha hr6 HRG; have hcx : ∀ (W : World) (g : Nat), W.heap[g]? = some (.cells (arr r) 76 (0, 0)) → W.cell? ⟨g, pn, none⟩ = some (.int .i64 (r.getD pn 0)) := fun W g hh => YG hh pn (by omega)
     have HCX := aa.mk hcx; generalize r.getD pn 0 = x at *; have hdv := (fun W => Vy a x o3 o4 W); have hq : (a.tdiv (Int.gcd a x)).natAbs ≤ a.natAbs := by rw [Int.natAbs_tdiv]; exact Nat.div_le_self _ _
     have hgz : (Int.gcd a x : Int) ≠ 0 := by omega
     clear o5; generalize (Int.gcd a x : Int) = G at *; have HDV := aa.mk hdv; clear hdv; have HA2 := aa.mk ha; have HI := aa.mk (show (Try.prog.info? 76).map (·.size) = some (r.map (Value.int .i64)).length by rw [List.length_map, lJ]; exact size76); have HI2 := aa.mk (show (Try.prog.info? 76).map (·.size) = some (arr r).size by rw [ZV, lJ]; exact size76); have HR6 := aa.mk lJ; have hg0 : (G == 0) = false := beq_eq_false_iff_ne.mpr hgz; have hg1 : ¬ G = 0 := hgz; unfold Lim at o3 o6; have w1 : IntKind.i64.wrap (a.tdiv G) = a.tdiv G := (QC _).trans (wrp (by omega) (by omega)); have w2 : IntKind.i64.wrap (a.tdiv G * x) = a.tdiv G * x := (QC _).trans (wrp (by omega) (by omega)); have yL : (pn : Int) < 6 := o2; have hHG := aa.mk (show (wr.alloc (.cells (arr zeros6) 76)).heap[wr.heap.size]? = some (.cells (arr zeros6) 76 (0, 0)) from YP wr _); have HXP := aa.mk hxp; clear hze ha o1 o2 o3 o4 o6 hrange hrg hr6 lJ hq hr hcx hxp; go_wp2_with (first
      | (refine wpList_load_mid rfl 76 _ rfl b (ob + k * 6) rfl (r.map (Value.int .i64)) _ HRG.out Try.underlying76 rfl HI.out ?_)
      | (refine wpList_store_row rfl 76 _ _ rfl wr.heap.size (arr r) rfl rfl 76 (arr zeros6) hHG.out HI2.out (by rw [ZV, ZV, HR6.out]; rfl) (YZ r) ?_))
     have hbw := Yu ((Below.refl wr.heap.size wr).alloc (Nat.le_refl _) (.cells (arr zeros6) 76)) (Nat.le_refl _) (arr r); have HSP := aa.mk (show (((wr.alloc (.cells (arr zeros6) 76)).setRow wr.heap.size (arr r)).drew).cell? (adp.add k) = some (.int .i64 (pn : Int)) from (hbw.cell (World.block_lt_of_cell? wr _ HXP.out)).trans HXP.out); have HSX := aa.mk (show (((wr.alloc (.cells (arr zeros6) 76)).setRow wr.heap.size (arr r)).drew).cell? ⟨wr.heap.size, pn, none⟩ = some (.int .i64 x) from HCX.out _ _ (setRow_heap _ _ _ _ _ _ hHG.out)); replace HB9 := aa.mk (YK (Qa HB9.out hbw)); clear HRG HXP hHG hbw; generalize (wr.alloc (.cells (arr zeros6) 76)).setRow wr.heap.size (arr r) = W2 at *; generalize wr.heap.size = b11 at *; refine Yw (n := 18) (S := fun w' => w'.cell? (adp.add k) = some (.int .i64 (pn : Int)) ∧ w'.cell? ⟨b11, pn, none⟩ = some (.int .i64 x)) (ds := []) #[false, false, false, false, false, false, false, false, false, false, false, false, false, false, false, false, false, false] (by kernel_rfl) rfl rfl ⟨HSP.out, HSX.out⟩ (fun hHeld => ?_); refine ZZ solu.tab11 solu.bits11 (fun HT_ HW_ => ?_); refine QX (i := 0) (N := some 39) (v := ?_) (a' := ?_) #[true, false, false, false, false, false, false, false, false, false, false, false, false, false, false, false, false, false] rfl rfl (QL HT_.out (by kernel_rfl)) (fun _ _ _ h => h) (Or.inl ⟨by rfl, ?_⟩) ?_ ?_; rotate_left
     ·intro w'; go_simp; with_reducible rfl
     rotate_left
     ·simp only [Act.put, zA, zB, zC, QC, QD]; rfl
     refine QX (i := 1) (N := some 40) (v := ?_) (a' := ?_) #[true, true, false, false, false, false, false, false, false, false, false, false, false, false, false, false, false, false] rfl rfl (QL HT_.out (by kernel_rfl)) (fun _ _ _ h => h) (Or.inl ⟨by rfl, ?_⟩) ?_ ?_; rotate_left
     ·intro w'; go_simp; with_reducible rfl
     rotate_left
     ·simp only [Act.put, zA, zB, zC, QC, QD]; rfl
     refine QX (i := 2) (N := some 41) (v := ?_) (a' := ?_) #[true, true, true, false, false, false, false, false, false, false, false, false, false, false, false, false, false, false] rfl rfl (QL HT_.out (by kernel_rfl)) (fun _ _ _ h => h) (Or.inl ⟨by rfl, ?_⟩) ?_ ?_; rotate_left
     ·intro w'; go_simp; with_reducible rfl
     rotate_left
     ·simp only [Act.put, zA, zB, zC, QC, QD]; rfl
     refine QX (i := 3) (N := some 42) (v := ?_) (a' := ?_) #[true, true, true, true, false, false, false, false, false, false, false, false, false, false, false, false, false, false] rfl rfl (QL HT_.out (by kernel_rfl)) (fun _ _ _ h => h) (Or.inl ⟨by rfl, ?_⟩) ?_ ?_; rotate_left
     ·intro w'; go_simp; with_reducible rfl
     rotate_left
     ·simp only [Act.put, zA, zB, zC, QC, QD]; rfl
     refine QX (i := 4) (N := some 43) (v := ?_) (a' := ?_) #[true, true, true, true, true, false, false, false, false, false, false, false, false, false, false, false, false, false] rfl rfl (QL HT_.out (by kernel_rfl)) (fun _ _ _ h => h) (Or.inl ⟨by rfl, ?_⟩) ?_ ?_; rotate_left
     ·intro w'; go_simp; with_reducible rfl
     rotate_left
     ·simp only [Act.put, zA, zB, zC, QC, QD]; rfl
     refine QX (i := 10) (N := some 49) (v := ?_) (a' := ?_) #[true, true, true, true, true, false, false, false, false, false, true, false, false, false, false, false, false, false] rfl rfl (QL HT_.out (by kernel_rfl)) (fun _ _ _ h => h) (Or.inl ⟨by rfl, ?_⟩) ?_ ?_; rotate_left
     ·intro w'; go_simp; with_reducible rfl
     rotate_left
     ·simp only [Act.put, zA, zB, zC, QC, QD]; rfl
     refine QX (i := 11) (N := some 50) (v := ?_) (a' := ?_) #[true, true, true, true, true, false, false, false, false, false, true, true, false, false, false, false, false, false] rfl rfl (QL HT_.out (by kernel_rfl)) (fun _ _ _ h => h) (Or.inl ⟨by rfl, ?_⟩) ?_ ?_; rotate_left
     ·intro w'; go_simp; with_reducible rfl
     rotate_left
     ·simp only [Act.put, zA, zB, zC, QC, QD]; rfl
     refine QX (i := 12) (N := some 51) (v := ?_) (a' := ?_) #[true, true, true, true, true, false, false, false, false, false, true, true, true, false, false, false, false, false] rfl rfl (QL HT_.out (by kernel_rfl)) (fun _ _ _ h => h) (Or.inl ⟨by rfl, ?_⟩) ?_ ?_; rotate_left
     ·intro w'; go_simp; with_reducible rfl
     rotate_left
     ·simp only [Act.put, zA, zB, zC, QC, QD]; rfl
     refine ZY (i := 5) (N := some 44) (v := ?_) (a' := ?_) #[true, true, true, true, true, true, false, false, false, false, true, true, true, false, false, false, false, false] rfl rfl (Zq HT_.out HW_.out (by kernel_rfl)) (fun _ _ _ h => h) (Or.inl ⟨by rfl, ?_⟩) hHeld ?_ ?_; rotate_left
     ·rintro w' ⟨s0, s1⟩; go_simp; with_reducible rfl
     rotate_left
     ·simp only [Act.put, zA, zB, zC, QC, QD]; rfl
     refine QX (i := 6) (N := some 45) (v := ?_) (a' := ?_) #[true, true, true, true, true, true, true, false, false, false, true, true, true, false, false, false, false, false] rfl rfl (QL HT_.out (by kernel_rfl)) (fun _ _ _ h => h) (Or.inl ⟨by rfl, ?_⟩) ?_ ?_; rotate_left
     ·intro w'; go_simp; with_reducible rfl
     rotate_left
     ·simp only [Act.put, zA, zB, zC, QC, QD]; rfl
     refine ZY (i := 7) (N := some 46) (v := ?_) (a' := ?_) #[true, true, true, true, true, true, true, true, false, false, true, true, true, false, false, false, false, false] rfl rfl (Zq HT_.out HW_.out (by kernel_rfl)) (fun _ _ _ h => h) (Or.inl ⟨by rfl, ?_⟩) hHeld ?_ ?_; rotate_left
     ·rintro w' ⟨s0, s1⟩; go_simp; with_reducible rfl
     rotate_left
     ·simp only [Act.put, zA, zB, zC, QC, QD]; rfl
     refine ZY (i := 13) (N := some 52) (v := ?_) (a' := ?_) #[true, true, true, true, true, true, true, true, false, false, true, true, true, true, false, false, false, false] rfl rfl (Zq HT_.out HW_.out (by kernel_rfl)) (fun _ _ _ h => h) (Or.inl ⟨by rfl, ?_⟩) hHeld ?_ ?_; rotate_left
     ·rintro w' ⟨s0, s1⟩; go_simp; with_reducible rfl
     rotate_left
     ·simp only [Act.put, zA, zB, zC, QC, QD]; rfl
     refine QX (i := 14) (N := some 53) (v := ?_) (a' := ?_) #[true, true, true, true, true, true, true, true, false, false, true, true, true, true, true, false, false, false] rfl rfl (QL HT_.out (by kernel_rfl)) (fun _ _ _ h => h) (Or.inl ⟨by rfl, ?_⟩) ?_ ?_; rotate_left
     ·intro w'; go_simp; with_reducible rfl
     rotate_left
     ·simp only [Act.put, zA, zB, zC, QC, QD]; rfl
     refine ZY (i := 15) (N := some 54) (v := ?_) (a' := ?_) #[true, true, true, true, true, true, true, true, false, false, true, true, true, true, true, true, false, false] rfl rfl (Zq HT_.out HW_.out (by kernel_rfl)) (fun _ _ _ h => h) (Or.inl ⟨by rfl, ?_⟩) hHeld ?_ ?_; rotate_left
     ·rintro w' ⟨s0, s1⟩; go_simp; with_reducible rfl
     rotate_left
     ·simp only [Act.put, zA, zB, zC, QC, QD]; rfl
     refine one_ (i := 8) (N := some 47) #[true, true, true, true, true, true, true, true, true, false, true, true, true, true, true, true, false, false] rfl rfl (ZW HT_.out (by kernel_rfl)) (by decide) (fun K hK => ?_); refine Vj Try.func117 (by kernel_rfl) rfl #[.int .i64 a, .int .i64 x] (by rfl) rfl rfl (by (try simp only [List.map_toArray, List.map_cons, List.map_nil]); first | done | rfl) ?_; with_reducible refine (HDV.out _).mono ?_
     rintro e w13 ⟨rfl, hb⟩; refine ⟨_, rfl, ?_⟩; replace HSP := aa.mk ((hb.cell (World.block_lt_of_cell? _ _ HSP.out)).trans HSP.out); replace HSX := aa.mk ((hb.cell (World.block_lt_of_cell? _ _ HSX.out)).trans HSX.out); replace HB9 := aa.mk (Qa HB9.out hb); clear hb; refine hK.out _ _ ⟨HSP.out, HSX.out⟩ (fun hHeld => ?_); clear hK K; refine Yk (a' := ?_) ?_ ?_; rotate_left
     ·show Act.put _ (some 47) _ = _
      simp only [Act.put, zA, zB, zC, QC, QD]; rfl
     refine QX (i := 9) (N := some 48) (v := ?_) (a' := ?_) #[true, true, true, true, true, true, true, true, true, true, true, true, true, true, true, true, false, false] rfl rfl (QL HT_.out (by kernel_rfl)) (fun _ _ _ h => h) (Or.inl ⟨by rfl, ?_⟩) ?_ ?_; rotate_left
     ·intro w'; go_simp; with_reducible rfl
     rotate_left
     ·simp only [Act.put, zA, zB, zC, QC, QD]; rfl
     refine QX (i := 16) (N := some 55) (v := ?_) (a' := ?_) #[true, true, true, true, true, true, true, true, true, true, true, true, true, true, true, true, true, false] rfl rfl (QL HT_.out (by kernel_rfl)) (fun _ _ _ h => h) (Or.inl ⟨by rfl, ?_⟩) ?_ ?_; rotate_left
     ·intro w'; go_simp; with_reducible rfl
     rotate_left
     ·simp only [Act.put, zA, zB, zC, QC, QD]; rfl
     refine QX (i := 17) (N := some 9) (v := ?_) (a' := ?_) #[true, true, true, true, true, true, true, true, true, true, true, true, true, true, true, true, true, true] rfl rfl (QL HT_.out (by kernel_rfl)) (fun _ _ _ h => h) (Or.inl ⟨by rfl, ?_⟩) ?_ ?_; rotate_left
     ·intro w'; go_simp; with_reducible rfl
     rotate_left
     ·simp only [Act.put, zA, zB, zC, QC, QD]; rfl
     refine YN (Yo HT_.out (by kernel_rfl)) ?_; go_wp2_with fail
     go_roundw
     case rel => exact ⟨k + 1, a.tdiv G * x, by omega, by go_num, rfl, HA2, HB9⟩
     case measure => simp [intOf]; omega
    ·obtain rfl : k = R.length := by omega
     have ha : a = all := by
      have := HA.out; rw [List.drop_eq_nil_of_le (by simp; omega), alls] at this; exact Option.some.inj this
     subst ha; have Bx : (f : Int) < 6 := by omega
     have hz0 : (arr zeros6)[f]? = some (.int .i64 0) := by
      rw [Uw _ _ (by show f < 6; omega), Uy]
     have HOZ := aa.mk (show outs f a (((R.map L6).zip P).drop 0) (zeros6.set f a) = some o from HOUT.out); have HOL := aa.mk (show (zeros6.set f a).length = 6 by simp [zeros6]); have fw := aa.mk (show (wr.alloc (.cells ((arr zeros6).setIfInBounds f (.int .i64 a)) 76)).heap[wr.heap.size]? = some (.cells (arr (zeros6.set f a)) 76 (0, 0)) from by rw [JT]; exact YP wr _); have wT := aa.mk (show Below w9.heap.size w9 (wr.alloc (.cells ((arr zeros6).setIfInBounds f (.int .i64 a)) 76)) from HB9.out.alloc HB9.out.size _); have rI := aa.mk (show w9.heap.size ≤ wr.heap.size from HB9.out.size); go_wp2_with fail
     clear hz0 HB9 HA HALL HOUT; generalize wr.alloc (.cells ((arr zeros6).setIfInBounds f (.int .i64 a)) 76) = W3 at *; generalize wr.heap.size = b12 at *; generalize zeros6.set f a = q at *; go_loopw [62] (fun k_ w' => ∃ (k : Nat) (q : List Int), k ≤ R.length ∧ k_ = .int .i64 k ∧ aa (outs f a (((R.map L6).zip P).drop k) q = some o) ∧ aa (q.length = 6) ∧ aa (w'.heap[b12]? = some (.cells (arr q) 76 (0, 0))) ∧ aa (Below w9.heap.size w9 w')) (fun k_ _ => R.length - (intOf k_).toNat)
     case atStart => exact ⟨0, q, Nat.zero_le _, rfl, HOZ, HOL, fw, wT⟩
     case round =>
      clear HOZ HOL fw wT q; obtain ⟨k, q, hk, rfl, HA, HQL, fw, HB9⟩ := hrel; by_cases hkR : k < R.length
      ·have hkP : k < P.length := by rw [← HRL.out]; exact hkR
       have hkZ : k < ((R.map L6).zip P).length := by simp; omega
       have hze : ((R.map L6).zip P)[k] = (L6 R[k], P[k]) := by simp
       have ha := HA.out; rw [List.drop_eq_getElem_cons hkZ, hze, outs] at ha; split at ha
       case isFalse => cases ha
       rename_i hok
       obtain ⟨o1, o2, o3, o4, o5, o6⟩ : OutOk f a (L6 R[k]) P[k] := hok; replace ha : outs f a (((R.map L6).zip P).drop (k + 1)) (q.set P[k].toNat (-((L6 R[k]).getD f 0) * a.tdiv ((L6 R[k]).getD P[k].toNat 0))) = some o := ha; obtain ⟨pn, hpn⟩ := Int.eq_ofNat_of_zero_le o1; obtain ⟨b, ob, hAr, hrg⟩ := HRR.out (by intro e; rw [List.map_eq_nil_iff] at e; rw [e] at hkR; simp at hkR); obtain ⟨hr6, hrange⟩ := hrg k (L6 R[k]) (by rw [List.getElem?_map, List.getElem?_eq_getElem hkR]; rfl); have HRG := aa.mk (Vh hrange HB9.out); obtain ⟨adp, eadp, hxp⟩ := Kd.Zi HCP.out (k : Int) (by omega) (by omega); rw [UF P k hkP, hpn] at hxp; simp only [Int.toNat_natCast] at hxp; replace hxp := (HB9.out.cell (World.block_lt_of_cell? w9 _ hxp)).trans hxp; subst hAr; subst eadp; simp only [hpn, Int.toNat_natCast] at o1 o2 o3 o4 o5 o6 ha; obtain ⟨r, hr⟩ : ∃ r, r = L6 R[k] := ⟨_, rfl⟩; have lJ : r.length = 6 := by rw [hr]; rfl
       rw [← hr] at o4 o5 o6 ha hr6 HRG; have hcx : ∀ (W : World) (g : Nat), W.heap[g]? = some (.cells (arr r) 76 (0, 0)) → W.cell? ⟨g, pn, none⟩ = some (.int .i64 (r.getD pn 0)) := fun W g hh => YG hh pn (by omega)
       have hcy : ∀ (W : World) (g : Nat), W.heap[g]? = some (.cells (arr r) 76 (0, 0)) → W.cell? ⟨g, f, none⟩ = some (.int .i64 (r.getD f 0)) := fun W g hh => YG hh f (by omega)
       have HCX := aa.mk hcx; have HCY := aa.mk hcy; obtain ⟨x, hx⟩ : ∃ x, x = r.getD pn 0 := ⟨_, rfl⟩; obtain ⟨y, hy⟩ : ∃ y, y = r.getD f 0 := ⟨_, rfl⟩; rw [← hx] at o5 o6 ha HCX; rw [← hy] at o4 o6 ha HCY; have HA2 := aa.mk ha; have HI := aa.mk (show (Try.prog.info? 76).map (·.size) = some (r.map (Value.int .i64)).length by rw [List.length_map, lJ]; exact size76); have HI2 := aa.mk (show (Try.prog.info? 76).map (·.size) = some (arr r).size by rw [ZV, lJ]; exact size76); have HR6 := aa.mk lJ; have hg0 : (x == 0) = false := beq_eq_false_iff_ne.mpr o5; have hg1 : ¬ x = 0 := o5; have hq : (a.tdiv x).natAbs ≤ a.natAbs := by rw [Int.natAbs_tdiv]; exact Nat.div_le_self _ _
       unfold Lim at o3 o4 o6; have w1 : IntKind.i64.wrap (a.tdiv x) = a.tdiv x := (QC _).trans (wrp (by omega) (by omega)); have w2 : IntKind.i64.wrap (-y * a.tdiv x) = -y * a.tdiv x := (QC _).trans (wrp (by omega) (by omega)); have w3 : IntKind.i64.wrap (-y) = -y := (QC _).trans (wrp (by omega) (by omega)); have yL : (pn : Int) < 6 := o2; have hHG := aa.mk (show (wr.alloc (.cells (arr zeros6) 76)).heap[wr.heap.size]? = some (.cells (arr zeros6) 76 (0, 0)) from YP wr _); have HXP := aa.mk hxp; clear hze ha o1 o2 o3 o4 o5 o6 hrange hrg hr6 lJ hq hr hcx hcy hxp hx hy; go_wp2_with (first
        | (refine wpList_load_mid rfl 76 _ rfl b (ob + k * 6) rfl (r.map (Value.int .i64)) _ HRG.out Try.underlying76 rfl HI.out ?_)
        | (refine wpList_store_row rfl 76 _ _ rfl wr.heap.size (arr r) rfl rfl 76 (arr zeros6) hHG.out HI2.out (by rw [ZV, ZV, HR6.out]; rfl) (YZ r) ?_))
       have hbw := Yu ((Below.refl wr.heap.size wr).alloc (Nat.le_refl _) (.cells (arr zeros6) 76)) (Nat.le_refl _) (arr r); have HSP := aa.mk (show (((wr.alloc (.cells (arr zeros6) 76)).setRow wr.heap.size (arr r)).drew).cell? (adp.add k) = some (.int .i64 (pn : Int)) from (hbw.cell (World.block_lt_of_cell? wr _ HXP.out)).trans HXP.out); have HSX := aa.mk (show (((wr.alloc (.cells (arr zeros6) 76)).setRow wr.heap.size (arr r)).drew).cell? ⟨wr.heap.size, pn, none⟩ = some (.int .i64 x) from HCX.out _ _ (setRow_heap _ _ _ _ _ _ hHG.out)); have HSY := aa.mk (show (((wr.alloc (.cells (arr zeros6) 76)).setRow wr.heap.size (arr r)).drew).cell? ⟨wr.heap.size, f, none⟩ = some (.int .i64 y) from HCY.out _ _ (setRow_heap _ _ _ _ _ _ hHG.out)); have qn := aa.mk (show (((wr.alloc (.cells (arr zeros6) 76)).setRow wr.heap.size (arr r)).drew).heap[b12]? = some (.cells (arr q) 76 (0, 0)) from (hbw.block _ (VG fw.out)).trans fw.out); have n3_ := aa.mk (YK (Qa HB9.out hbw)); have hql := HQL.out; have zm := YG qn.out pn (by omega); have BA := VH qn.out pn; clear HB9 hbw hHG HXP HRG fw; have HB9 := n3_; have HST := aa.mk (V6 qn.out pn (-y * a.tdiv x)); clear n3_; generalize (wr.alloc (.cells (arr zeros6) 76)).setRow wr.heap.size (arr r) = W2 at *; generalize wr.heap.size = b14 at *; generalize q.getD pn 0 = old at zm; refine Yw (n := 19) (S := fun w' => w'.cell? (adp.add k) = some (.int .i64 (pn : Int)) ∧ w'.cell? ⟨b14, f, none⟩ = some (.int .i64 y) ∧ w'.cell? ⟨b14, pn, none⟩ = some (.int .i64 x)) (ds := [18]) #[false, false, false, false, false, false, false, false, false, false, false, false, false, false, false, false, false, false, false] (by kernel_rfl) rfl rfl ⟨HSP.out, HSY.out, HSX.out⟩ (fun hHeld => ?_); refine ZZ solu.tab18 solu.bits18 (fun HT_ HW_ => ?_); refine QX (i := 0) (N := some 67) (v := ?_) (a' := ?_) #[true, false, false, false, false, false, false, false, false, false, false, false, false, false, false, false, false, false, false] rfl rfl (QL HT_.out (by kernel_rfl)) (fun _ _ _ h => h) (Or.inl ⟨by rfl, ?_⟩) ?_ ?_; rotate_left
       ·intro w'; go_simp; with_reducible rfl
       rotate_left
       ·simp only [Act.put, zA, zB, zC, QC, QD]; rfl
       refine QX (i := 1) (N := some 68) (v := ?_) (a' := ?_) #[true, true, false, false, false, false, false, false, false, false, false, false, false, false, false, false, false, false, false] rfl rfl (QL HT_.out (by kernel_rfl)) (fun _ _ _ h => h) (Or.inl ⟨by rfl, ?_⟩) ?_ ?_; rotate_left
       ·intro w'; go_simp; with_reducible rfl
       rotate_left
       ·simp only [Act.put, zA, zB, zC, QC, QD]; rfl
       refine QX (i := 2) (N := some 69) (v := ?_) (a' := ?_) #[true, true, true, false, false, false, false, false, false, false, false, false, false, false, false, false, false, false, false] rfl rfl (QL HT_.out (by kernel_rfl)) (fun _ _ _ h => h) (Or.inl ⟨by rfl, ?_⟩) ?_ ?_; rotate_left
       ·intro w'; go_simp; with_reducible rfl
       rotate_left
       ·simp only [Act.put, zA, zB, zC, QC, QD]; rfl
       refine QX (i := 4) (N := some 71) (v := ?_) (a' := ?_) #[true, true, true, false, true, false, false, false, false, false, false, false, false, false, false, false, false, false, false] rfl rfl (QL HT_.out (by kernel_rfl)) (fun _ _ _ h => h) (Or.inl ⟨by rfl, ?_⟩) ?_ ?_; rotate_left
       ·intro w'; go_simp; with_reducible rfl
       rotate_left
       ·simp only [Act.put, zA, zB, zC, QC, QD]; rfl
       refine QX (i := 5) (N := some 72) (v := ?_) (a' := ?_) #[true, true, true, false, true, true, false, false, false, false, false, false, false, false, false, false, false, false, false] rfl rfl (QL HT_.out (by kernel_rfl)) (fun _ _ _ h => h) (Or.inl ⟨by rfl, ?_⟩) ?_ ?_; rotate_left
       ·intro w'; go_simp; with_reducible rfl
       rotate_left
       ·simp only [Act.put, zA, zB, zC, QC, QD]; rfl
       refine QX (i := 8) (N := some 75) (v := ?_) (a' := ?_) #[true, true, true, false, true, true, false, false, true, false, false, false, false, false, false, false, false, false, false] rfl rfl (QL HT_.out (by kernel_rfl)) (fun _ _ _ h => h) (Or.inl ⟨by rfl, ?_⟩) ?_ ?_; rotate_left
       ·intro w'; go_simp; with_reducible rfl
       rotate_left
       ·simp only [Act.put, zA, zB, zC, QC, QD]; rfl
       refine QX (i := 9) (N := some 76) (v := ?_) (a' := ?_) #[true, true, true, false, true, true, false, false, true, true, false, false, false, false, false, false, false, false, false] rfl rfl (QL HT_.out (by kernel_rfl)) (fun _ _ _ h => h) (Or.inl ⟨by rfl, ?_⟩) ?_ ?_; rotate_left
       ·intro w'; go_simp; with_reducible rfl
       rotate_left
       ·simp only [Act.put, zA, zB, zC, QC, QD]; rfl
       refine QX (i := 10) (N := some 77) (v := ?_) (a' := ?_) #[true, true, true, false, true, true, false, false, true, true, true, false, false, false, false, false, false, false, false] rfl rfl (QL HT_.out (by kernel_rfl)) (fun _ _ _ h => h) (Or.inl ⟨by rfl, ?_⟩) ?_ ?_; rotate_left
       ·intro w'; go_simp; with_reducible rfl
       rotate_left
       ·simp only [Act.put, zA, zB, zC, QC, QD]; rfl
       refine QX (i := 11) (N := some 78) (v := ?_) (a' := ?_) #[true, true, true, false, true, true, false, false, true, true, true, true, false, false, false, false, false, false, false] rfl rfl (QL HT_.out (by kernel_rfl)) (fun _ _ _ h => h) (Or.inl ⟨by rfl, ?_⟩) ?_ ?_; rotate_left
       ·intro w'; go_simp; with_reducible rfl
       rotate_left
       ·simp only [Act.put, zA, zB, zC, QC, QD]; rfl
       refine ZY (i := 3) (N := some 70) (v := ?_) (a' := ?_) #[true, true, true, true, true, true, false, false, true, true, true, true, false, false, false, false, false, false, false] rfl rfl (Zq HT_.out HW_.out (by kernel_rfl)) (fun _ _ _ h => h) (Or.inl ⟨by rfl, ?_⟩) hHeld ?_ ?_; rotate_left
       ·rintro w' ⟨s0, s1, s2⟩; go_simp; with_reducible rfl
       rotate_left
       ·simp only [Act.put, zA, zB, zC, QC, QD]; rfl
       refine ZY (i := 6) (N := some 73) (v := ?_) (a' := ?_) #[true, true, true, true, true, true, true, false, true, true, true, true, false, false, false, false, false, false, false] rfl rfl (Zq HT_.out HW_.out (by kernel_rfl)) (fun _ _ _ h => h) (Or.inl ⟨by rfl, ?_⟩) hHeld ?_ ?_; rotate_left
       ·rintro w' ⟨s0, s1, s2⟩; go_simp; with_reducible rfl
       rotate_left
       ·simp only [Act.put, zA, zB, zC, QC, QD]; rfl
       refine QX (i := 7) (N := some 74) (v := ?_) (a' := ?_) #[true, true, true, true, true, true, true, true, true, true, true, true, false, false, false, false, false, false, false] rfl rfl (QL HT_.out (by kernel_rfl)) (fun _ _ _ h => h) (Or.inl ⟨by rfl, ?_⟩) ?_ ?_; rotate_left
       ·intro w'; go_simp; with_reducible rfl
       rotate_left
       ·simp only [Act.put, zA, zB, zC, QC, QD]; rfl
       refine ZY (i := 12) (N := some 79) (v := ?_) (a' := ?_) #[true, true, true, true, true, true, true, true, true, true, true, true, true, false, false, false, false, false, false] rfl rfl (Zq HT_.out HW_.out (by kernel_rfl)) (fun _ _ _ h => h) (Or.inl ⟨by rfl, ?_⟩) hHeld ?_ ?_; rotate_left
       ·rintro w' ⟨s0, s1, s2⟩; go_simp; with_reducible rfl
       rotate_left
       ·simp only [Act.put, zA, zB, zC, QC, QD]; rfl
       refine QX (i := 13) (N := some 80) (v := ?_) (a' := ?_) #[true, true, true, true, true, true, true, true, true, true, true, true, true, true, false, false, false, false, false] rfl rfl (QL HT_.out (by kernel_rfl)) (fun _ _ _ h => h) (Or.inl ⟨by rfl, ?_⟩) ?_ ?_; rotate_left
       ·intro w'; go_simp; with_reducible rfl
       rotate_left
       ·simp only [Act.put, zA, zB, zC, QC, QD]; rfl
       refine ZY (i := 14) (N := some 81) (v := ?_) (a' := ?_) #[true, true, true, true, true, true, true, true, true, true, true, true, true, true, true, false, false, false, false] rfl rfl (Zq HT_.out HW_.out (by kernel_rfl)) (fun _ _ _ h => h) (Or.inl ⟨by rfl, ?_⟩) hHeld ?_ ?_; rotate_left
       ·rintro w' ⟨s0, s1, s2⟩; go_simp; with_reducible rfl
       rotate_left
       ·simp only [Act.put, zA, zB, zC, QC, QD]; rfl
       refine QX (i := 15) (N := some 82) (v := ?_) (a' := ?_) #[true, true, true, true, true, true, true, true, true, true, true, true, true, true, true, true, false, false, false] rfl rfl (QL HT_.out (by kernel_rfl)) (fun _ _ _ h => h) (Or.inl ⟨by rfl, ?_⟩) ?_ ?_; rotate_left
       ·intro w'; go_simp; with_reducible rfl
       rotate_left
       ·simp only [Act.put, zA, zB, zC, QC, QD]; rfl
       refine QX (i := 16) (N := some 83) (v := ?_) (a' := ?_) #[true, true, true, true, true, true, true, true, true, true, true, true, true, true, true, true, true, false, false] rfl rfl (QL HT_.out (by kernel_rfl)) (fun _ _ _ h => h) (Or.inl ⟨by rfl, ?_⟩) ?_ ?_; rotate_left
       ·intro w'; go_simp; with_reducible rfl
       rotate_left
       ·simp only [Act.put, zA, zB, zC, QC, QD]; rfl
       refine QX (i := 17) (N := some 84) (v := ?_) (a' := ?_) #[true, true, true, true, true, true, true, true, true, true, true, true, true, true, true, true, true, true, false] rfl rfl (QL HT_.out (by kernel_rfl)) (fun _ _ _ h => h) (Or.inl ⟨by rfl, ?_⟩) ?_ ?_; rotate_left
       ·intro w'; go_simp; with_reducible rfl
       rotate_left
       ·simp only [Act.put, zA, zB, zC, QC, QD]; rfl
       refine last_ (i := 18) (N := none) #[true, true, true, true, true, true, true, true, true, true, true, true, true, true, true, true, true, true, true] rfl rfl (ZW HT_.out (by kernel_rfl)) (by decide) (fun K hK => ?_); refine skip_ (w1 := ?_) (by rfl) rfl ?_ ?_; rotate_left
       ·go_simp; rfl
       refine hK.out _ _ ?_; clear hK K; refine YN (Yo HT_.out (by kernel_rfl)) ?_; go_wp2_with fail
       go_roundw
       case rel => exact ⟨k + 1, q.set pn (-y * a.tdiv x), by omega, by go_num, HA2, ⟨by rw [List.length_set]; exact HQL.out⟩, ⟨HST.out⟩, ⟨HB9.out.setCell rI.out _⟩⟩
       case measure => simp [intOf]; omega
      ·obtain rfl : k = R.length := by omega
       have hq : q = o := by
        have := HA.out; rw [List.drop_eq_nil_of_le (by simp; omega), outs] at this; exact Option.some.inj this
       subst hq; have hfin := HFIN.out; unfold fin at hfin; split at hfin
       case isFalse => cases hfin
       rename_i hfc
       obtain ⟨hlim, hnz⟩ := hfc; have hql := HQL.out; have hzl : (pln q).length = 6 := by rw [YR, hql]
       have hzlim : ∀ x ∈ pln q, Lim x := pln_lim hlim; have hnl := nzi_lt ((pln q).take count); obtain ⟨fn, hfn⟩ := Int.eq_ofNat_of_zero_le hnz; rw [hfn] at hnl; have Bz : fn < 6 := by rw [List.length_take] at hnl; omega
       rw [hfn] at hfin; simp only [Int.toNat_natCast] at hfin; have HFS := aa.mk (Option.some.inj hfin); have HPC := aa.mk (fun W => Ug q W hql hlim); have HI2 := aa.mk (show (Try.prog.info? 76).map (·.size) = some (arr q).size by rw [ZV, hql]; exact size76); have HI3 := aa.mk (show (Try.prog.info? 76).map (·.size) = some (arr (pln q)).size by rw [ZV, hzl]; exact size76); have HZL := aa.mk hzl; have HZM := aa.mk hzlim; have HSZ := aa.mk (show (arr (pln q)).size = (arr q).size by rw [ZV, ZV, hzl, hql]); have htl : ((pln q).take count).length = count := by rw [List.length_take, hzl]; omega
       have HNZ := aa.mk (fun (W : World) (hh : W.heap[b12]? = some (.cells (arr (pln q)) 76 (0, 0))) => by
        have h1 := nzi_calls (some ⟨b12, 0, none⟩) 6 ((pln q).take count) W (C_arr hh (by omega) (by omega)) (by omega) (by omega); rw [htl, hfn] at h1; exact h1)
       have HCLN := aa.mk (fun (W : World) (u : List Int) (hu : u.length = 6) (hh : W.heap[b12]? = some (.cells (arr u) 76 (0, 0))) => by
        have h1 := Z8.calls (some ⟨b12, 0, none⟩) 6 (u.take count) (u.take count) W (C_arr hh (by omega) (by omega)) (by rw [List.length_take]; omega) (by unfold Z8.f; rw [if_pos (by rw [List.length_take]; omega)]); rw [show (u.take count).length = count by rw [List.length_take]; omega] at h1; exact h1)
       clear hfin hlim hnz hql hzl hzlim hnl hfn htl HFIN HA hkR; generalize pln q = z at *; have By : (fn : Int) < 6 := by omega
       have BB : count ≤ 6 := HCT.out; have hsl := slice76 b12 count HCT.out; obtain ⟨zf, hzf⟩ : ∃ v, v = z.getD fn 0 := ⟨_, rfl⟩; have HCZ := aa.mk (fun (W : World) (hh : W.heap[b12]? = some (.cells (arr z) 76 (0, 0))) => (YG hh fn (by rw [HZL.out]; omega)).trans (by rw [← hzf])); by_cases hneg : z.getD fn 0 < 0
       ·have hfs := HFS.out; rw [if_pos hneg] at hfs; rw [← hzf] at hneg; have c2 : decide (zf < 0) = true := decide_eq_true hneg; have uF := aa.mk hfs; clear HFS hfs hzf; go_wp2_with (first
         | (refine wpList_load_row rfl 76 _ rfl b12 rfl 76 (arr q) (0, 0) _ fw.out Try.underlying76 rfl HI2.out ?_)
         | ((with_reducible refine Qh (f := 118) rfl ?_); refine QG (some 87) rfl rfl Try.func118 (by kernel_rfl) rfl #[.agg (arr q)] rfl (by (try simp only [List.map_toArray, List.map_cons, List.map_nil]); first | done | rfl) ?_; (with_reducible refine (HPC.out _).mono ?_); rintro e w18 ⟨rfl, hb⟩; refine ⟨_, rfl, ?_⟩; have n1_ := aa.mk (Qp fw.out hb); have n2_ := aa.mk (Qa HB9.out hb); have kX := aa.mk (setRow_heap w18 b12 (arr q) (arr z) 76 (0, 0) n1_.out); have HBZ := aa.mk (Yu n2_.out rI.out (arr z)); clear fw HB9 hb; have fw := n1_; clear n1_ n2_)
         | (refine wpList_store_row rfl 76 _ _ rfl b12 (arr z) rfl rfl 76 (arr q) fw.out HI3.out HSZ.out.symm (YZ z) ?_)
         | ((with_reducible refine Qh (f := 119) rfl ?_); refine QG (some 90) rfl rfl Try.func119 (by kernel_rfl) rfl #[.slice (some ⟨b12, 0, none⟩) count 6, .func (.func 120) #[] #[]] rfl (by (try simp only [List.map_toArray, List.map_cons, List.map_nil]); first | done | rfl) ?_; (with_reducible refine (HNZ.out _ kX.out).mono ?_); rintro e w19 ⟨rfl, hb⟩; refine ⟨_, rfl, ?_⟩; have lq := aa.mk (Qp kX.out hb); have HBY := aa.mk (Qa HBZ.out hb); have hcz := HCZ.out _ lq.out; clear kX HBZ hb))
        go_loopw [95] (fun i_ w' => ∃ (i : Nat) (u : List Int), i ≤ 6 ∧ i_ = .int .i64 i ∧ aa (u = (z.take i).map (fun x => -x) ++ z.drop i) ∧ aa (w'.heap[b12]? = some (.cells (arr u) 76 (0, 0))) ∧ aa (Below w9.heap.size w9 w')) (fun i_ _ => 6 - (intOf i_).toNat)
        case atStart => exact ⟨0, z, by omega, rfl, ⟨by simp⟩, lq, HBY⟩
        case round =>
         clear lq HBY hcz fw; obtain ⟨i, u, hi, rfl, HU, fw, HB9⟩ := hrel; have hul : u.length = 6 := by rw [HU.out]; simp [HZL.out]; omega
         by_cases hi6 : i < 6
         ·have hiz : i < z.length := by rw [HZL.out]; exact hi6
          have hui : u.getD i 0 = z[i] := by
           rw [HU.out, List.getD_eq_getElem?_getD, List.getElem?_append_right (by simp; omega), List.length_map, List.length_take, Nat.min_eq_left (by omega), Nat.sub_self, List.getElem?_drop, Nat.add_zero, List.getElem?_eq_getElem hiz]; rfl
          have hset : u.set i (-z[i]) = (z.take (i + 1)).map (fun x => -x) ++ z.drop (i + 1) := by
           rw [HU.out, List.set_append_right _ _ (by simp; omega), List.length_map, List.length_take, Nat.min_eq_left (by omega), Nat.sub_self, List.drop_eq_getElem_cons hiz, List.set_cons_zero, List.take_succ_eq_append_getElem hiz, List.map_append, List.append_assoc]; rfl
          have HSET := aa.mk hset; have hcu := YG fw.out i (by omega); rw [hui] at hcu; have hfu := VH fw.out i; have hzx := HZM.out _ (List.getElem_mem hiz); unfold Lim at hzx; generalize z[i] = x at *; have w1 : wrap64 (-x) = -x := wrp (by omega) (by omega); clear hui hset; go_wp2_with fail
          go_roundw
          case rel => exact ⟨i + 1, u.set i (-x), by omega, by go_num, HSET, ⟨V6 fw.out i _⟩, ⟨HB9.out.setCell rI.out _⟩⟩
          case measure => simp [intOf]; omega
         ·obtain rfl : i = 6 := by omega
          have HUL := aa.mk hul; have hus : u.take count = s := by
           have e1 : z.take 6 = z := List.take_of_length_le (by rw [HZL.out]; exact Nat.le_refl _); have e2 : z.drop 6 = [] := List.drop_eq_nil_of_le (by rw [HZL.out]; exact Nat.le_refl _); rw [← uF.out, HU.out, e1, e2, List.append_nil]
          have HUS := aa.mk hus; clear hus hul; go_wp2_with (first | ((with_reducible refine Qh (f := 79) rfl ?_); refine QG (some 107) rfl rfl Try.func79 (by kernel_rfl) rfl #[.slice (some ⟨b12, 0, none⟩) count 6] rfl (by (try simp only [List.map_toArray, List.map_cons, List.map_nil]); first | done | rfl) ?_; (with_reducible refine (HCLN.out _ u HUL.out fw.out).mono ?_); rintro e w20 ⟨v20, rfl, ho, hb⟩; refine ⟨_, rfl, ?_⟩; have HOO := aa.mk ho; have HBF := aa.mk (Qa HB9.out hb); clear ho hb))
          go_ret2; refine ⟨_, rfl, ?_, Qa HB2.out HBF.out⟩; rw [← HUS.out]; exact Kd.Zh HOO.out (Nat.le_trans HW9.out HB9.out.size)
       ·have hfs := HFS.out; rw [if_neg hneg] at hfs; rw [← hzf] at hneg; have c2 : decide (zf < 0) = false := decide_eq_false hneg; have uF := aa.mk hfs; clear HFS hfs hzf; go_wp2_with (first
         | (refine wpList_load_row rfl 76 _ rfl b12 rfl 76 (arr q) (0, 0) _ fw.out Try.underlying76 rfl HI2.out ?_)
         | ((with_reducible refine Qh (f := 118) rfl ?_); refine QG (some 87) rfl rfl Try.func118 (by kernel_rfl) rfl #[.agg (arr q)] rfl (by (try simp only [List.map_toArray, List.map_cons, List.map_nil]); first | done | rfl) ?_; (with_reducible refine (HPC.out _).mono ?_); rintro e w18 ⟨rfl, hb⟩; refine ⟨_, rfl, ?_⟩; have n1_ := aa.mk (Qp fw.out hb); have n2_ := aa.mk (Qa HB9.out hb); have kX := aa.mk (setRow_heap w18 b12 (arr q) (arr z) 76 (0, 0) n1_.out); have HBZ := aa.mk (Yu n2_.out rI.out (arr z)); clear fw HB9 hb; have fw := n1_; clear n1_ n2_)
         | (refine wpList_store_row rfl 76 _ _ rfl b12 (arr z) rfl rfl 76 (arr q) fw.out HI3.out HSZ.out.symm (YZ z) ?_)
         | ((with_reducible refine Qh (f := 119) rfl ?_); refine QG (some 90) rfl rfl Try.func119 (by kernel_rfl) rfl #[.slice (some ⟨b12, 0, none⟩) count 6, .func (.func 120) #[] #[]] rfl (by (try simp only [List.map_toArray, List.map_cons, List.map_nil]); first | done | rfl) ?_; (with_reducible refine (HNZ.out _ kX.out).mono ?_); rintro e w19 ⟨rfl, hb⟩; refine ⟨_, rfl, ?_⟩; have lq := aa.mk (Qp kX.out hb); have HBY := aa.mk (Qa HBZ.out hb); have hcz := HCZ.out _ lq.out; clear kX HBZ hb)
         | ((with_reducible refine Qh (f := 79) rfl ?_); refine QG (some 107) rfl rfl Try.func79 (by kernel_rfl) rfl #[.slice (some ⟨b12, 0, none⟩) count 6] rfl (by (try simp only [List.map_toArray, List.map_cons, List.map_nil]); first | done | rfl) ?_; (with_reducible refine (HCLN.out _ z HZL.out lq.out).mono ?_); rintro e w20 ⟨v20, rfl, ho, hb⟩; refine ⟨_, rfl, ?_⟩; have HOO := aa.mk ho; have HBF := aa.mk (Qa HBY.out hb); clear ho hb))
        go_ret2; refine ⟨_, rfl, ?_, Qa HB2.out HBF.out⟩; rw [← uF.out]; exact Kd.Zh HOO.out (Nat.le_trans HW9.out HBY.out.size)
theorem Zl.calls (A0 : Option Addr) (c0 : Nat) (l0 : List S76) (a1 : Int) (r1 : List Int) (r2 : Bool) (w : World) (hr0 : Kd.C k76 w A0 l0.length l0) (hc0 : l0.length ≤ c0) (h : Zl.f l0 a1 = some (r1, r2)) :
  Calls Try.prog 82 #[.slice A0 l0.length c0, .int .i64 a1] w fun e w' => ∃ v0_ : Value, e = .returned (.tuple #[v0_, .bool r2]) ∧ Kd.R (Kd.int .i64) 3 w' w.heap.size (fun _ => True) v0_ r1 ∧ Below w.heap.size w w' := by
 unfold Zl.f at h; split at h
 case isFalse => cases h
 rename_i hc
 obtain ⟨⟨R, P⟩, h1, h2⟩ := Option.bind_eq_some_iff.1 h; obtain ⟨n, rfl⟩ := Int.eq_ofNat_of_zero_le hc.1; exact sol_calls A0 c0 l0 n R P r1 r2 w hr0 hc0 (by omega) h1 h2
end Go.Proofs.Ytdneelgnmnpanaa.P
end
