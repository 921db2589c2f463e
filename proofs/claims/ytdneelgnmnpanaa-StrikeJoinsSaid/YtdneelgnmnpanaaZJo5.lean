/- What the claim's last text wants, part 5: functions of the translation as Lean functions with their contracts, and plain theorems; no conditions beyond those that each theorem names. -/
import Derived.Test.YtdneelgnmnpanaaZJo4
set_option linter.unusedVariables false
set_option linter.unusedSimpArgs false
section
namespace Go.Proofs.Ytdneelgnmnpanaa.P
open Go.RowKit Go.Proofs.YtdneelgnmnpanaaW.PrintWords Go.Proofs.YtdneelgnmnpanaaW.PrintLast Go.Proofs.YtdneelgnmnpanaaW.PrintMore
attribute [local go_sem] max2_int min2_int max_two min_two max_three min_three max_four min_four
def QY.j0 : Nat → Bool → List (List Int) → List (List Int) → List (List Int) → List (List Int) → Option ((List (List Int)) × (List (List Int)) × Int)
 | 0, _, _, _, _, _ => none
 | k + 1, x49, aE, aG, eN, eM => if x49 = true then (some (([] : List (List Int)), ([] : List (List Int)), 3)) else ((Q6.f k aE).bind fun t108 => ((Q6.f k eN).bind fun t111 => (if t108.length + t111.length < 5864062014805 then ((Q6.f k aG).bind fun t117 => ((Q6.f k eM).bind fun t120 => (if t117.length + t120.length < 5864062014805 then (some ((t108 ++ t111), (t117 ++ t120), 0)) else (none)))) else (none))))
def QY.f (k : Nat) (ae : List (List Int)) (ag : List (List Int)) (av : List (List Int)) (aw : List (List Int)) : Option ((List (List Int)) × (List (List Int)) × Int) := (Qm.f k ae ag).bind fun t104 => (if t104 = 0 then ((Qm.f k av aw).bind fun t105 => (if t105 = 0 then (if 0 < (ae.length : Int) then (if 0 < (av.length : Int) then (if ((Qt ae 0).length : Int) = ((Qt av 0).length : Int) then (if (wrap64 ((ae.length : Int) + (av.length : Int))) > 3 then (QY.j0 k true ae ag av aw) else (QY.j0 k (decide ((wrap64 ((ag.length : Int) + (aw.length : Int))) > 3)) ae ag av aw)) else (some (([] : List (List Int)), ([] : List (List Int)), 5))) else (none)) else (none)) else (some (([] : List (List Int)), ([] : List (List Int)), t105)))) else (some (([] : List (List Int)), ([] : List (List Int)), t104)))
def QY.T7 : Bool × List (List Nat × List Nat) := (true, [([], []), ([0], [0]), ([1], [1]), ([2], [2]), ([3], [3]), ([], []), ([5], [5]), ([6], [6]), ([7], [7]), ([8], [8]), ([4, 9], [4, 9])])
def QY.B7 : List Nat := [0, 1, 3, 7, 15, 0, 32, 96, 224, 480, 1023]
theorem QY.tab7 : rtab .any (opsOf Try.f68 7) = QY.T7 := by kernel_rfl
theorem QY.bits7 : waitsOk QY.T7.2 QY.B7 = true := by kernel_rfl
def QY.T11 : Bool × List (List Nat × List Nat) := (true, [([], []), ([0], [0]), ([1], [1]), ([], []), ([3], [3]), ([4, 2], [4]), ([2, 5, 5], [2, 5]), ([], []), ([7], [7]), ([8, 6], [8]), ([], []), ([10], [10]), ([11, 9], [11]), ([9, 12, 12], [9, 12]), ([6, 13], [6, 13]), ([14, 13, 0, 1, 2, 3, 4, 5, 6, 7, 8, 9, 10, 11, 12, 13, 14], [14]), ([15, 0, 1, 2, 3, 4, 5, 6, 7, 8, 9, 10, 11, 12, 13, 14, 15], [])])
def QY.B11 : List Nat := [0, 1, 3, 0, 8, 31, 63, 0, 128, 511, 0, 1024, 4095, 8191, 16383, 32767, 65535]
theorem QY.tab11 : rtab .any (opsOf Try.f68 11) = QY.T11 := by kernel_rfl
theorem QY.bits11 : waitsOk QY.T11.2 QY.B11 = true := by kernel_rfl
set_option maxHeartbeats 8000000 in
set_option maxRecDepth 100000 in
theorem QY.calls (k : Nat) (aq : Option Addr) (an : Nat) (ae : List (List Int)) (ak : Option Addr) (ao : Nat) (ag : List (List Int)) (aY : Option Addr) (aZ : Nat) (av : List (List Int)) (aV : Option Addr) (bc : Nat) (aw : List (List Int)) (r1 : List (List Int)) (r2 : List (List Int)) (r3 : Int) (w : World) (bp : Kd.C (Kd.slice 3 (Kd.int .i64)) w aq ae.length ae) (br : ae.length ≤ an) (bo : Kd.C (Kd.slice 3 (Kd.int .i64)) w ak ag.length ag) (bq : ag.length ≤ ao) (fx : Kd.C (Kd.slice 3 (Kd.int .i64)) w aY av.length av) (fR : av.length ≤ aZ) (fw : Kd.C (Kd.slice 3 (Kd.int .i64)) w aV aw.length aw) (fQ : aw.length ≤ bc) (h : QY.f k ae ag av aw = some (r1, r2, r3)) :
  Calls Try.prog 68 #[.agg #[.slice aq ae.length an, .slice ak ag.length ao], .agg #[.slice aY av.length aZ, .slice aV aw.length bc]] w fun e w' => ∃ v0_ v1_ : Value, e = .returned (.tuple #[.agg #[v0_, v1_], .int .i64 r3]) ∧ Kd.N (Kd.slice 3 (Kd.int .i64)) 28 w' w.heap.size (fun k_ => (w.heap.size ≤ k_) ∧ some k_ ≠ (v1_ : Value).ownBlock) v0_ r1 ∧ Kd.N (Kd.slice 3 (Kd.int .i64)) 28 w' w.heap.size (fun k_ => (w.heap.size ≤ k_) ∧ some k_ ≠ (v0_ : Value).ownBlock) v1_ r2 ∧ Below w.heap.size w w' := by
 have fa := Try.underlying24; have aI := aa.mk bp; have aQ := aa.mk br; clear bp br; have aW := aa.mk bo; have aT := aa.mk bq; clear bo bq; have cF := aa.mk fx; have cm := aa.mk fR; clear fx fR; have cW := aa.mk fw; have cw := aa.mk fQ; clear fw fQ; have HB := aa.mk (Below.refl w.heap.size w); have H : ((Qm.f k ae ag).bind fun t104 => (if t104 = 0 then ((Qm.f k av aw).bind fun t105 => (if t105 = 0 then (if 0 < (ae.length : Int) then (if 0 < (av.length : Int) then (if ((Qt ae 0).length : Int) = ((Qt av 0).length : Int) then (if (wrap64 ((ae.length : Int) + (av.length : Int))) > 3 then (QY.j0 k true ae ag av aw) else (QY.j0 k (decide ((wrap64 ((ag.length : Int) + (aw.length : Int))) > 3)) ae ag av aw)) else (some (([] : List (List Int)), ([] : List (List Int)), 5))) else (none)) else (none)) else (some (([] : List (List Int)), ([] : List (List Int)), t105)))) else (some (([] : List (List Int)), ([] : List (List Int)), t104)))) = some (r1, r2, r3) := h; clear h; replace H := Option.bind_eq_some_iff.mp H; obtain ⟨t104, A30, H⟩ := H; replace H : (if t104 = 0 then ((Qm.f k av aw).bind fun t105 => (if t105 = 0 then (if 0 < (ae.length : Int) then (if 0 < (av.length : Int) then (if ((Qt ae 0).length : Int) = ((Qt av 0).length : Int) then (if (wrap64 ((ae.length : Int) + (av.length : Int))) > 3 then (QY.j0 k true ae ag av aw) else (QY.j0 k (decide ((wrap64 ((ag.length : Int) + (aw.length : Int))) > 3)) ae ag av aw)) else (some (([] : List (List Int)), ([] : List (List Int)), 5))) else (none)) else (none)) else (some (([] : List (List Int)), ([] : List (List Int)), t105)))) else (some (([] : List (List Int)), ([] : List (List Int)), t104))) = some (r1, r2, r3) := H; have A3 := aa.mk A30; clear A30; by_cases c4 : t104 = 0
 ·rw [if_pos c4] at H; have cn : (t104 == 0) = true := beq_iff_eq.mpr c4; have eC : (t104 != 0) = false := bne_eq_false_iff_eq.mpr c4; clear c4; replace H := Option.bind_eq_some_iff.mp H; obtain ⟨t105, A50, H⟩ := H; replace H : (if t105 = 0 then (if 0 < (ae.length : Int) then (if 0 < (av.length : Int) then (if ((Qt ae 0).length : Int) = ((Qt av 0).length : Int) then (if (wrap64 ((ae.length : Int) + (av.length : Int))) > 3 then (QY.j0 k true ae ag av aw) else (QY.j0 k (decide ((wrap64 ((ag.length : Int) + (aw.length : Int))) > 3)) ae ag av aw)) else (some (([] : List (List Int)), ([] : List (List Int)), 5))) else (none)) else (none)) else (some (([] : List (List Int)), ([] : List (List Int)), t105))) = some (r1, r2, r3) := H; have A5 := aa.mk A50; clear A50; by_cases c6 : t105 = 0
  ·rw [if_pos c6] at H; have gZ : (t105 == 0) = true := beq_iff_eq.mpr c6; have jV : (t105 != 0) = false := bne_eq_false_iff_eq.mpr c6; clear c6; by_cases c7 : 0 < (ae.length : Int)
   ·rw [if_pos c7] at H; have jU : decide (0 < (ae.length : Int)) = true := decide_eq_true c7; have np : decide (0 < ae.length) = true := decide_eq_true (by omega); clear c7; by_cases c8 : 0 < (av.length : Int)
    ·rw [if_pos c8] at H; have eQ : decide (0 < (av.length : Int)) = true := decide_eq_true c8; have jT : decide (0 < av.length) = true := decide_eq_true (by omega); clear c8; by_cases c9 : ((Qt ae 0).length : Int) = ((Qt av 0).length : Int)
     ·rw [if_pos c9] at H; have ft : (((Qt ae 0).length : Int) == ((Qt av 0).length : Int)) = true := beq_iff_eq.mpr c9; have pD : (((Qt ae 0).length : Int) != ((Qt av 0).length : Int)) = false := bne_eq_false_iff_eq.mpr c9; have pC : ((Qt ae 0).length == (Qt av 0).length) = true := by first | simpa using c9 | (simp at c9 ⊢; omega)
      clear c9; have nw := aa.mk H; clear H; go_enter Try.func68, Try.ntmps68; try go_wp2_with (first | ((with_reducible refine QD (N := 2) rfl ?_); (try (refine Q8 (by rfl) ?_; dsimp only)); refine QJ ?hg (N := 2) ?hd (cs := #[.slice aq ae.length an, .slice ak ag.length ao]) (t := 24) ?hr ?_; (case hd => rfl); (case hg => rfl); (case hr => first | (go_simp; done) | (go_simp; rfl)); intro af hg w11 hbox hb; have ab := aa.mk (hbox); have bA := aa.mk ((by rw [hg]; exact (Qe bB) : w.heap.size ≤ af)); have bk := aa.mk ((by rw [hg]; exact (Qe bB) : w.heap.size ≤ af)); replace HB := aa.mk (Qd bB hb); clear hb hbox hg) | ((with_reducible refine QD (N := 3) rfl ?_); (try (refine Q8 (by rfl) ?_; dsimp only)); refine QJ ?hg (N := 3) ?hd (cs := #[.slice aY av.length aZ, .slice aV aw.length bc]) (t := 24) ?hr ?_; (case hd => rfl); (case hg => rfl); (case hr => first | (go_simp; done) | (go_simp; rfl)); intro al hg w12 hbox hb; have ah := aa.mk (hbox); have fo := aa.mk ((by rw [hg]; exact (Qe bB) : w.heap.size ≤ al)); have e0 := aa.mk ((by rw [hg]; exact (Qe bB) : w.heap.size ≤ al)); replace HB := aa.mk (Qd bB hb); have aM := aa.mk ((by rw [hg]; exact Nat.ne_of_lt (Q7 (g := af) (o := .cells #[.slice aq ae.length an, .slice ak ag.length ao] 24 (0, 0)) (by (with_reducible repeat (first | refine Qg ?_ _ | refine Qh ?_ | refine Qf ?_ _)); exact ab.out)) : af ≠ al)); have aK := aa.mk ((by rw [hg]; exact Nat.ne_of_gt (Q7 (g := af) (o := .cells #[.slice aq ae.length an, .slice ak ag.length ao] 24 (0, 0)) (by (with_reducible repeat (first | refine Qg ?_ _ | refine Qh ?_ | refine Qf ?_ _)); exact ab.out)) : al ≠ af)); replace ab := aa.mk (Qc ab.out hb); clear hb hbox hg) | ((with_reducible refine QD (N := 4) rfl ?_); (try (refine Q8 (by rfl) ?_; dsimp only)); refine QJ ?hg (N := 4) ?hd (cs := #[.slice none 0 0, .slice none 0 0]) (t := 24) ?hr ?_; (case hd => rfl); (case hg => rfl); (case hr => first | (go_simp; done) | (go_simp; rfl)); intro az hg w13 hbox hb; have aA := aa.mk (hbox); have kU := aa.mk ((by rw [hg]; exact (Qe bB) : w.heap.size ≤ az)); have jN := aa.mk ((by rw [hg]; exact (Qe bB) : w.heap.size ≤ az)); replace HB := aa.mk (Qd bB hb); have a9 := aa.mk ((by rw [hg]; exact Nat.ne_of_lt (Q7 (g := af) (o := .cells #[.slice aq ae.length an, .slice ak ag.length ao] 24 (0, 0)) (by (with_reducible repeat (first | refine Qg ?_ _ | refine Qh ?_ | refine Qf ?_ _)); exact ab.out)) : af ≠ az)); have bu := aa.mk ((by rw [hg]; exact Nat.ne_of_gt (Q7 (g := af) (o := .cells #[.slice aq ae.length an, .slice ak ag.length ao] 24 (0, 0)) (by (with_reducible repeat (first | refine Qg ?_ _ | refine Qh ?_ | refine Qf ?_ _)); exact ab.out)) : az ≠ af)); replace ab := aa.mk (Qc ab.out hb); have a8 := aa.mk ((by rw [hg]; exact Nat.ne_of_lt (Q7 (g := al) (o := .cells #[.slice aY av.length aZ, .slice aV aw.length bc] 24 (0, 0)) (by (with_reducible repeat (first | refine Qg ?_ _ | refine Qh ?_ | refine Qf ?_ _)); exact ah.out)) : al ≠ az)); have bt := aa.mk ((by rw [hg]; exact Nat.ne_of_gt (Q7 (g := al) (o := .cells #[.slice aY av.length aZ, .slice aV aw.length bc] 24 (0, 0)) (by (with_reducible repeat (first | refine Qg ?_ _ | refine Qh ?_ | refine Qf ?_ _)); exact ah.out)) : az ≠ al)); replace ah := aa.mk (Qc ah.out hb); clear hb hbox hg; have vd := aM.out; have uO := aK.out; have vc := a9.out; have uN := bu.out; have jd : w13.cell? ⟨af, 0, none⟩ = some (.slice aq ae.length an) := (Qa ab.out 0).trans rfl; have jc : w13.cell? ⟨af, 1, none⟩ = some (.slice ak ag.length ao) := (Qa ab.out 1).trans rfl; have iX := Qb ab.out 0; have iW := Qb ab.out 1) | ((with_reducible refine Qk (f := 38) rfl ?_); refine QE (some 9) rfl rfl Try.func38 (by kernel_rfl) rfl #[.agg #[.slice aq ae.length an, .slice ak ag.length ao]] rfl hA ?_; (with_reducible refine (Qm.calls k _ _ ae _ _ ag t104 _ ?aj ?ai ?au ?ar A3.out).mono ?_); (case aj => exact (Kd.Ql aI.out HB.out)); (case ai => exact aQ.out); (case au => exact (Kd.Ql aW.out HB.out)); (case ar => exact aT.out); rintro e w17 ⟨rfl, hb⟩; refine ⟨_, rfl, ?_⟩; replace ab := aa.mk (Qc ab.out hb); replace ah := aa.mk (Qc ah.out hb); replace aA := aa.mk (Qc aA.out hb); replace HB := aa.mk (Qd bB hb); (try clear hb); (try clear hb2); (try clear hk); (try clear hi); have sd := a8.out; have r8 := bt.out; have gu : w17.cell? ⟨al, 0, none⟩ = some (.slice aY av.length aZ) := (Qa ah.out 0).trans rfl; have gr : w17.cell? ⟨al, 1, none⟩ = some (.slice aV aw.length bc) := (Qa ah.out 1).trans rfl; have gp := Qb ah.out 0; have gm := Qb ah.out 1) | ((with_reducible refine Qk (f := 38) rfl ?_); refine QE (some 15) rfl rfl Try.func38 (by kernel_rfl) rfl #[.agg #[.slice aY av.length aZ, .slice aV aw.length bc]] rfl hA ?_; (with_reducible refine (Qm.calls k _ _ av _ _ aw t105 _ ?aj ?ai ?au ?ar A5.out).mono ?_); (case aj => exact (Kd.Ql cF.out HB.out)); (case ai => exact cm.out); (case au => exact (Kd.Ql cW.out HB.out)); (case ar => exact cw.out); rintro e w20 ⟨rfl, hb⟩; refine ⟨_, rfl, ?_⟩; replace ab := aa.mk (Qc ab.out hb); replace ah := aa.mk (Qc ah.out hb); replace aA := aa.mk (Qc aA.out hb); replace HB := aa.mk (Qd bB hb); (try clear hb); (try clear hb2); (try clear hk); (try clear hi)))
      replace ab := aa.mk (Qh ab.out); replace ah := aa.mk (Qh ah.out); replace aA := aa.mk (Qh aA.out); replace HB := aa.mk (QL HB.out); have cI : 0 ≤ (0 : Int) := (by omega); have cH : 0 < (ae.length : Int) := of_decide_eq_true (by assumption); obtain ⟨bM, hH, g8, fW, aJ, dz, dA⟩ := ZH aI.out 0 cI cH; have bn := aJ; (try rw [show ((0 : Int)).toNat = 0 from rfl] at bn)
      (try rw [show 0 * 1 = 0 from rfl] at bn)
      (try rw [Addr.add_zero'] at bn)
      cases fW; have nI : (0 < ae.length) = True := eq_true (by omega); (try rw [show ((0 : Int)).toNat = 0 from rfl] at aJ)
      (try rw [Addr.add_zero'] at aJ)
      replace aJ := (HB.out.cell (World.block_lt_of_cell? w _ aJ)).trans aJ; have fg := aa.mk dA; have ko := aa.mk dz; clear dA dz; replace cI := eq_true cI; replace cH := eq_true cH; have fV : 0 ≤ (0 : Int) := (by omega); have fU : 0 < (av.length : Int) := of_decide_eq_true (by assumption); obtain ⟨ch, iE, iC, lV, bm, en, ew⟩ := ZH cF.out 0 fV fU; have b9 := bm; (try rw [show ((0 : Int)).toNat = 0 from rfl] at b9)
      (try rw [show 0 * 1 = 0 from rfl] at b9)
      (try rw [Addr.add_zero'] at b9)
      cases lV; have o7 : (0 < av.length) = True := eq_true (by omega); (try rw [show ((0 : Int)).toNat = 0 from rfl] at bm)
      (try rw [Addr.add_zero'] at bm)
      replace bm := (HB.out.cell (World.block_lt_of_cell? w _ bm)).trans bm; have gz := aa.mk ew; have mc := aa.mk en; clear ew en; replace fV := eq_true fV; replace fU := eq_true fU; refine Ym (n := 11) (S := fun w' => w'.cell? ⟨af, 0, none⟩ = some (.slice (some bM) ae.length an) ∧ w'.cell? ⟨af, 1, none⟩ = some (.slice ak ag.length ao) ∧ w'.cell? ⟨al, 0, none⟩ = some (.slice (some ch) av.length aZ) ∧ w'.cell? ⟨al, 1, none⟩ = some (.slice aV aw.length bc) ∧ w'.cell? bM = some (.slice hH (Qt ae 0).length g8) ∧ w'.cell? ch = some (.slice iE (Qt av 0).length iC)) (ds := []) #[false, false, false, false, false, false, false, false, false, false, false] (by kernel_rfl) rfl rfl ⟨(Qa ab.out 0).trans rfl, (Qa ab.out 1).trans rfl, (Qa ah.out 0).trans rfl, (Qa ah.out 1).trans rfl, ((HB.out.cell (World.block_lt_of_cell? w _ bn)).trans bn), ((HB.out.cell (World.block_lt_of_cell? w _ b9)).trans b9)⟩ (fun hHeld => ?_); refine ZT QY.tab7 QY.bits7 (fun HT_ HW_ => ?_); generalize w20.drew = w21 at ab ah aA HB fg gz aJ bm hHeld ⊢; refine QS (i := 0) (N := some 20) (v := ?_) (a' := ?_) #[true, false, false, false, false, false, false, false, false, false, false] rfl rfl (QI HT_.out (by kernel_rfl)) (fun _ _ _ h => h) (Or.inl ⟨by rfl, ?_⟩) ?_ ?_; rotate_left
      ·intro w'; go_simp; with_reducible rfl
      rotate_left
      ·simp only [Act.put, zA, zB, zC, Qw, Qx]; rfl
      refine QS (i := 5) (N := some 25) (v := ?_) (a' := ?_) #[true, false, false, false, false, true, false, false, false, false, false] rfl rfl (QI HT_.out (by kernel_rfl)) (fun _ _ _ h => h) (Or.inl ⟨by rfl, ?_⟩) ?_ ?_; rotate_left
      ·intro w'; go_simp; with_reducible rfl
      rotate_left
      ·simp only [Act.put, zA, zB, zC, Qw, Qx]; rfl
      refine Zy (i := 1) (N := some 21) (v := ?_) (a' := ?_) #[true, true, false, false, false, true, false, false, false, false, false] rfl rfl (Q4 HT_.out HW_.out (by kernel_rfl)) (fun _ _ _ h => h) (Or.inl ⟨by rfl, ?_⟩) hHeld ?_ ?_; rotate_left
      ·rintro w' ⟨s0, s1, s2, s3, s4, s5⟩; go_simp; with_reducible rfl
      rotate_left
      ·simp only [Act.put, zA, zB, zC, Qw, Qx]; rfl
      refine QS (i := 2) (N := some 22) (v := ?_) (a' := ?_) #[true, true, true, false, false, true, false, false, false, false, false] rfl rfl (QI HT_.out (by kernel_rfl)) (fun _ _ _ h => h) (Or.inl ⟨by rfl, ?_⟩) ?_ ?_; rotate_left
      ·intro w'; go_simp; with_reducible rfl
      rotate_left
      ·simp only [Act.put, zA, zB, zC, Qw, Qx]; rfl
      refine Zy (i := 3) (N := some 23) (v := ?_) (a' := ?_) #[true, true, true, true, false, true, false, false, false, false, false] rfl rfl (Q4 HT_.out HW_.out (by kernel_rfl)) (fun _ _ _ h => h) (Or.inl ⟨by rfl, ?_⟩) hHeld ?_ ?_; rotate_left
      ·rintro w' ⟨s0, s1, s2, s3, s4, s5⟩; go_simp; with_reducible rfl
      rotate_left
      ·simp only [Act.put, zA, zB, zC, Qw, Qx]; rfl
      refine QS (i := 4) (N := some 24) (v := ?_) (a' := ?_) #[true, true, true, true, true, true, false, false, false, false, false] rfl rfl (QI HT_.out (by kernel_rfl)) (fun _ _ _ h => h) (Or.inl ⟨by rfl, ?_⟩) ?_ ?_; rotate_left
      ·intro w'; go_simp; with_reducible rfl
      rotate_left
      ·simp only [Act.put, zA, zB, zC, Qw, Qx]; rfl
      refine Zy (i := 6) (N := some 26) (v := ?_) (a' := ?_) #[true, true, true, true, true, true, true, false, false, false, false] rfl rfl (Q4 HT_.out HW_.out (by kernel_rfl)) (fun _ _ _ h => h) (Or.inl ⟨by rfl, ?_⟩) hHeld ?_ ?_; rotate_left
      ·rintro w' ⟨s0, s1, s2, s3, s4, s5⟩; go_simp; with_reducible rfl
      rotate_left
      ·simp only [Act.put, zA, zB, zC, Qw, Qx]; rfl
      refine QS (i := 7) (N := some 27) (v := ?_) (a' := ?_) #[true, true, true, true, true, true, true, true, false, false, false] rfl rfl (QI HT_.out (by kernel_rfl)) (fun _ _ _ h => h) (Or.inl ⟨by rfl, ?_⟩) ?_ ?_; rotate_left
      ·intro w'; go_simp; with_reducible rfl
      rotate_left
      ·simp only [Act.put, zA, zB, zC, Qw, Qx]; rfl
      refine Zy (i := 8) (N := some 28) (v := ?_) (a' := ?_) #[true, true, true, true, true, true, true, true, true, false, false] rfl rfl (Q4 HT_.out HW_.out (by kernel_rfl)) (fun _ _ _ h => h) (Or.inl ⟨by rfl, ?_⟩) hHeld ?_ ?_; rotate_left
      ·rintro w' ⟨s0, s1, s2, s3, s4, s5⟩; go_simp; with_reducible rfl
      rotate_left
      ·simp only [Act.put, zA, zB, zC, Qw, Qx]; rfl
      refine QS (i := 9) (N := some 29) (v := ?_) (a' := ?_) #[true, true, true, true, true, true, true, true, true, true, false] rfl rfl (QI HT_.out (by kernel_rfl)) (fun _ _ _ h => h) (Or.inl ⟨by rfl, ?_⟩) ?_ ?_; rotate_left
      ·intro w'; go_simp; with_reducible rfl
      rotate_left
      ·simp only [Act.put, zA, zB, zC, Qw, Qx]; rfl
      refine QS (i := 10) (N := some 30) (v := ?_) (a' := ?_) #[true, true, true, true, true, true, true, true, true, true, true] rfl rfl (QI HT_.out (by kernel_rfl)) (fun _ _ _ h => h) (Or.inl ⟨by rfl, ?_⟩) ?_ ?_; rotate_left
      ·intro w'; go_simp; with_reducible rfl
      rotate_left
      ·simp only [Act.put, zA, zB, zC, Qw, Qx]; rfl
      refine YA (Yf HT_.out (by kernel_rfl)) ?_; go_upto_region 9 with (fail)
      go_cut [49] (fun v49 wc => ∃ (kq : Nat) (nB : Bool), v49 = .bool nB ∧ aa (QY.j0 kq nB ae ag av aw = some (r1, r2, r3)) ∧ aa (kq ≤ k) ∧ aa (wc.heap[af]? = some (.cells #[(.slice (some bM) ae.length an), (.slice ak ag.length ao)] 24 (0, 0))) ∧ aa (wc.heap[al]? = some (.cells #[(.slice (some ch) av.length aZ), (.slice aV aw.length bc)] 24 (0, 0))) ∧ aa (wc.heap[az]? = some (.cells #[(.slice none 0 0), (.slice none 0 0)] 24 (0, 0))) ∧ aa (Below w.heap.size w wc))
      case first =>
       have H := nw.out; clear nw; by_cases c22 : (wrap64 ((ae.length : Int) + (av.length : Int))) > 3
       ·rw [if_pos c22] at H; have eD : decide (3 < (wrap64 ((ae.length : Int) + (av.length : Int)))) = true := decide_eq_true c22; clear c22; (first | rw [eD] | (simp only [Qw, Qx]; rw [eD]) | skip)
        have H' := aa.mk H; clear H; have sc := aM.out; have r7 := aK.out; have vb := a9.out; have uM := bu.out; have hZ : w21.cell? ⟨af, 0, none⟩ = some (.slice (some bM) ae.length an) := (Qa ab.out 0).trans rfl; have hY : w21.cell? ⟨af, 1, none⟩ = some (.slice ak ag.length ao) := (Qa ab.out 1).trans rfl; have hX := Qb ab.out 0; have hU := Qb ab.out 1; have va := a8.out; have uL := bt.out; have ff : w21.cell? ⟨al, 0, none⟩ = some (.slice (some ch) av.length aZ) := (Qa ah.out 0).trans rfl; have fe : w21.cell? ⟨al, 1, none⟩ = some (.slice aV aw.length bc) := (Qa ah.out 1).trans rfl; have fc := Qb ah.out 0; have fb := Qb ah.out 1; go_wp2; go_meet
        case rel => exact ⟨_, (true), (by first | rfl | (simp; done) | (simp [*]; done)), H', ⟨by first | omega | exact Nat.le_refl _⟩, ⟨by (with_reducible repeat (first | refine Qg ?_ _ | refine Qh ?_ | refine Qf ?_ _)); exact ab.out⟩, ⟨by (with_reducible repeat (first | refine Qg ?_ _ | refine Qh ?_ | refine Qf ?_ _)); exact ah.out⟩, ⟨by (with_reducible repeat (first | refine Qg ?_ _ | refine Qh ?_ | refine Qf ?_ _)); exact aA.out⟩, ⟨bB⟩⟩
       ·rw [if_neg c22] at H; have eD : decide (3 < (wrap64 ((ae.length : Int) + (av.length : Int)))) = false := decide_eq_false c22; clear c22; (first | rw [eD] | (simp only [Qw, Qx]; rw [eD]) | skip)
        have H' := aa.mk H; clear H; have u9 := aM.out; have uK := aK.out; have sb := a9.out; have r6 := bu.out; have kf : w21.cell? ⟨af, 0, none⟩ = some (.slice (some bM) ae.length an) := (Qa ab.out 0).trans rfl; have ke : w21.cell? ⟨af, 1, none⟩ = some (.slice ak ag.length ao) := (Qa ab.out 1).trans rfl; have j6 := Qb ab.out 0; have j5 := Qb ab.out 1; have u0 := a8.out; have uJ := bt.out; have jb : w21.cell? ⟨al, 0, none⟩ = some (.slice (some ch) av.length aZ) := (Qa ah.out 0).trans rfl; have ja : w21.cell? ⟨al, 1, none⟩ = some (.slice aV aw.length bc) := (Qa ah.out 1).trans rfl; have iV := Qb ah.out 0; have iU := Qb ah.out 1; go_wp2; go_meet
        case rel => exact ⟨_, (decide ((wrap64 ((ag.length : Int) + (aw.length : Int))) > 3)), (by first | rfl | (simp; done) | (simp [*]; done)), H', ⟨by first | omega | exact Nat.le_refl _⟩, ⟨by (with_reducible repeat (first | refine Qg ?_ _ | refine Qh ?_ | refine Qf ?_ _)); exact ab.out⟩, ⟨by (with_reducible repeat (first | refine Qg ?_ _ | refine Qh ?_ | refine Qf ?_ _)); exact ah.out⟩, ⟨by (with_reducible repeat (first | refine Qg ?_ _ | refine Qh ?_ | refine Qf ?_ _)); exact aA.out⟩, ⟨bB⟩⟩
      case rest =>
       clear nw; try clear c1
       try clear p1
       try clear q1
       try clear hx1
       try clear qi1
       try clear c2
       try clear p2
       try clear c3
       try clear c4
       try clear cn
       try clear eC
       try clear c6
       try clear gZ
       try clear jV
       try clear p6
       try clear c7
       try clear jU
       try clear np
       try clear c8
       try clear eQ
       try clear jT
       try clear c9
       try clear ft
       try clear pD
       try clear pC
       try clear c10
       try clear p10
       try clear q10
       try clear iO
       try clear lf
       try clear c14
       try clear c15
       try clear c18
       try clear c22
       try clear eD
       try clear c23
       try clear c24
       try clear c26
       try clear c28
       try clear c29
       try clear c31
       try clear jd
       try clear jc
       try clear gu
       try clear gr
       try clear hZ
       try clear hY
       try clear ff
       try clear fe
       try clear kf
       try clear ke
       try clear jb
       try clear ja
       try clear iX
       try clear iW
       try clear gp
       try clear gm
       try clear hX
       try clear hU
       try clear fc
       try clear fb
       try clear j6
       try clear j5
       try clear iV
       try clear iU
       try clear aJ
       try clear bm
       try clear cI
       try clear fV
       try clear cH
       try clear fU
       obtain ⟨kq, nB, rfl, HA, HJ9, ab, ah, aA, HB⟩ := hcut; cases kq with
       | zero => exact absurd HA.out (by simp [QY.j0])
       | succ kj9 =>
        have H := HA.out; clear HA; simp only [QY.j0] at H; by_cases c33 : nB = true
        ·subst c33; have H1 : (some (([] : List (List Int)), ([] : List (List Int)), 3)) = some (r1, r2, r3) := by rw [if_pos rfl] at H; exact H
         clear H; have H := H1; clear H1; simp only [Option.some.injEq, Prod.mk.injEq] at H; obtain ⟨rfl, rfl, rfl⟩ := H; have uZ := bu.out; have uI := a9.out; have uY := bt.out; have uH := a8.out; have rn : wc.cell? ⟨az, 0, none⟩ = some (.slice none 0 0) := (Qa aA.out 0).trans rfl; have rm : wc.cell? ⟨az, 1, none⟩ = some (.slice none 0 0) := (Qa aA.out 1).trans rfl; have qP := Qb aA.out 0; have qO := Qb aA.out 1; go_wp2; refine bodyPost_ret (Yi rfl _ _ az 24 #[.slice none 0 0, .slice none 0 0] (0, 0) _ rfl (by (with_reducible repeat (first | refine Qg ?_ _ | refine Qh ?_ | refine Qf ?_ _)); refine ZC (cs := #[.slice none 0 0, .slice none 0 0]) ?_ 1 _ rfl; (with_reducible repeat (first | refine Qg ?_ _ | refine Qh ?_ | refine Qf ?_ _)); refine ZC (cs := #[.slice none 0 0, .slice none 0 0]) ?_ 0 _ rfl; (with_reducible repeat (first | refine Qg ?_ _ | refine Qh ?_ | refine Qf ?_ _)); exact aA.out) Try.underlying24 rfl (by kernel_rfl)) rfl ?_; exact ⟨_, _, by first | rfl | (simp [Qo, Qn] <;> rfl) | (simp [*, Qo, Qn] <;> rfl), by first | exact Kd.Yj _ _ _ _ _ | exact Kd.Yh _ _ _ _ _ | exact Kd.V_nil _ _ _ _ _ | exact Kd.Q_nil _ _ _ _ _ | exact Kd.Yb _ _ _ _ _, by first | exact Kd.Yj _ _ _ _ _ | exact Kd.Yh _ _ _ _ _ | exact Kd.V_nil _ _ _ _ _ | exact Kd.Q_nil _ _ _ _ _ | exact Kd.Yb _ _ _ _ _, bB⟩
        ·replace c33 := Bool.eq_false_iff.mpr c33; subst c33; have H1 : ((Q6.f kj9 ae).bind fun t108 => ((Q6.f kj9 av).bind fun t111 => (if t108.length + t111.length < 5864062014805 then ((Q6.f kj9 ag).bind fun t117 => ((Q6.f kj9 aw).bind fun t120 => (if t117.length + t120.length < 5864062014805 then (some ((t108 ++ t111), (t117 ++ t120), 0)) else (none)))) else (none)))) = some (r1, r2, r3) := by rw [if_neg (show ¬ (false = true) by decide)] at H; exact H
         clear H; have H := H1; clear H1; replace H := Option.bind_eq_some_iff.mp H; obtain ⟨t108, pV, H⟩ := H; replace H : ((Q6.f kj9 av).bind fun t111 => (if t108.length + t111.length < 5864062014805 then ((Q6.f kj9 ag).bind fun t117 => ((Q6.f kj9 aw).bind fun t120 => (if t117.length + t120.length < 5864062014805 then (some ((t108 ++ t111), (t117 ++ t120), 0)) else (none)))) else (none))) = some (r1, r2, r3) := H; have A37 := aa.mk pV; clear pV; replace H := Option.bind_eq_some_iff.mp H; obtain ⟨t111, mW, H⟩ := H; replace H : (if t108.length + t111.length < 5864062014805 then ((Q6.f kj9 ag).bind fun t117 => ((Q6.f kj9 aw).bind fun t120 => (if t117.length + t120.length < 5864062014805 then (some ((t108 ++ t111), (t117 ++ t120), 0)) else (none)))) else (none)) = some (r1, r2, r3) := H; have A38 := aa.mk mW; clear mW; by_cases c39 : t108.length + t111.length < 5864062014805
         ·rw [if_pos c39] at H; have pN := aa.mk c39; clear c39; obtain ⟨eT, dE⟩ : ∃ y_ : List (List Int), y_ = (t108 ++ t111) := ⟨_, rfl⟩; replace H : ((Q6.f kj9 ag).bind fun t117 => ((Q6.f kj9 aw).bind fun t120 => (if t117.length + t120.length < 5864062014805 then (some (eT, (t117 ++ t120), 0)) else (none)))) = some (r1, r2, r3) := by first | (rw [dE]; with_reducible exact H) | (have H2_ := (Option.bind_some _ _).symm.trans H; rw [dE]; with_reducible exact H2_) | (have H2_ := (Option.bind_some _ _).symm.trans H; with_reducible exact H2_) | with_reducible exact H | (rw [dE]; exact H) | exact H
          have jI := aa.mk dE; clear dE; replace H := Option.bind_eq_some_iff.mp H; obtain ⟨t117, pU, H⟩ := H; replace H : ((Q6.f kj9 aw).bind fun t120 => (if t117.length + t120.length < 5864062014805 then (some (eT, (t117 ++ t120), 0)) else (none))) = some (r1, r2, r3) := H; have A40 := aa.mk pU; clear pU; replace H := Option.bind_eq_some_iff.mp H; obtain ⟨t120, pT, H⟩ := H; replace H : (if t117.length + t120.length < 5864062014805 then (some (eT, (t117 ++ t120), 0)) else (none)) = some (r1, r2, r3) := H; have A41 := aa.mk pT; clear pT; by_cases c42 : t117.length + t120.length < 5864062014805
          ·rw [if_pos c42] at H; have pM := aa.mk c42; clear c42; obtain ⟨lv, gJ⟩ : ∃ y_ : List (List Int), y_ = (t117 ++ t120) := ⟨_, rfl⟩; replace H : (some (eT, lv, 0)) = some (r1, r2, r3) := by first | (rw [gJ]; with_reducible exact H) | (have H2_ := (Option.bind_some _ _).symm.trans H; rw [gJ]; with_reducible exact H2_) | (have H2_ := (Option.bind_some _ _).symm.trans H; with_reducible exact H2_) | with_reducible exact H | (rw [gJ]; exact H) | exact H
           have pL := aa.mk gJ; clear gJ; simp only [Option.some.injEq, Prod.mk.injEq] at H; obtain ⟨rfl, rfl, rfl⟩ := H; try go_wp2
           replace ab := aa.mk (Qh ab.out); replace ah := aa.mk (Qh ah.out); replace aA := aa.mk (Qh aA.out); replace HB := aa.mk (QL HB.out); refine Ym (n := 17) (S := fun w' => w'.cell? ⟨af, 0, none⟩ = some (.slice (some bM) ae.length an) ∧ w'.cell? ⟨af, 1, none⟩ = some (.slice ak ag.length ao) ∧ w'.cell? ⟨al, 0, none⟩ = some (.slice (some ch) av.length aZ) ∧ w'.cell? ⟨al, 1, none⟩ = some (.slice aV aw.length bc)) (ds := []) #[false, false, false, false, false, false, false, false, false, false, false, false, false, false, false, false, false] (by kernel_rfl) rfl rfl ⟨(Qa ab.out 0).trans rfl, (Qa ab.out 1).trans rfl, (Qa ah.out 0).trans rfl, (Qa ah.out 1).trans rfl⟩ (fun hHeld => ?_); refine ZT QY.tab11 QY.bits11 (fun HT_ HW_ => ?_); generalize wc.drew = w43 at ab ah aA HB hHeld ⊢; refine QS (i := 0) (N := some 51) (v := ?_) (a' := ?_) #[true, false, false, false, false, false, false, false, false, false, false, false, false, false, false, false, false] rfl rfl (QI HT_.out (by kernel_rfl)) (fun _ _ _ h => h) (Or.inl ⟨by rfl, ?_⟩) ?_ ?_; rotate_left
           ·intro w'; go_simp; with_reducible rfl
           rotate_left
           ·simp only [Act.put, zA, zB, zC, Qw, Qx]; rfl
           refine QS (i := 3) (N := some 54) (v := ?_) (a' := ?_) #[true, false, false, true, false, false, false, false, false, false, false, false, false, false, false, false, false] rfl rfl (QI HT_.out (by kernel_rfl)) (fun _ _ _ h => h) (Or.inl ⟨by rfl, ?_⟩) ?_ ?_; rotate_left
           ·intro w'; go_simp; with_reducible rfl
           rotate_left
           ·simp only [Act.put, zA, zB, zC, Qw, Qx]; rfl
           refine QS (i := 7) (N := some 58) (v := ?_) (a' := ?_) #[true, false, false, true, false, false, false, true, false, false, false, false, false, false, false, false, false] rfl rfl (QI HT_.out (by kernel_rfl)) (fun _ _ _ h => h) (Or.inl ⟨by rfl, ?_⟩) ?_ ?_; rotate_left
           ·intro w'; go_simp; with_reducible rfl
           rotate_left
           ·simp only [Act.put, zA, zB, zC, Qw, Qx]; rfl
           refine QS (i := 10) (N := some 61) (v := ?_) (a' := ?_) #[true, false, false, true, false, false, false, true, false, false, true, false, false, false, false, false, false] rfl rfl (QI HT_.out (by kernel_rfl)) (fun _ _ _ h => h) (Or.inl ⟨by rfl, ?_⟩) ?_ ?_; rotate_left
           ·intro w'; go_simp; with_reducible rfl
           rotate_left
           ·simp only [Act.put, zA, zB, zC, Qw, Qx]; rfl
           refine Zy (i := 1) (N := some 52) (v := ?_) (a' := ?_) #[true, true, false, true, false, false, false, true, false, false, true, false, false, false, false, false, false] rfl rfl (Q4 HT_.out HW_.out (by kernel_rfl)) (fun _ _ _ h => h) (Or.inl ⟨by rfl, ?_⟩) hHeld ?_ ?_; rotate_left
           ·rintro w' ⟨s0, s1, s2, s3⟩; go_simp; with_reducible rfl
           rotate_left
           ·simp only [Act.put, zA, zB, zC, Qw, Qx]; rfl
           refine Zy (i := 4) (N := some 55) (v := ?_) (a' := ?_) #[true, true, false, true, true, false, false, true, false, false, true, false, false, false, false, false, false] rfl rfl (Q4 HT_.out HW_.out (by kernel_rfl)) (fun _ _ _ h => h) (Or.inl ⟨by rfl, ?_⟩) hHeld ?_ ?_; rotate_left
           ·rintro w' ⟨s0, s1, s2, s3⟩; go_simp; with_reducible rfl
           rotate_left
           ·simp only [Act.put, zA, zB, zC, Qw, Qx]; rfl
           refine Zy (i := 8) (N := some 59) (v := ?_) (a' := ?_) #[true, true, false, true, true, false, false, true, true, false, true, false, false, false, false, false, false] rfl rfl (Q4 HT_.out HW_.out (by kernel_rfl)) (fun _ _ _ h => h) (Or.inl ⟨by rfl, ?_⟩) hHeld ?_ ?_; rotate_left
           ·rintro w' ⟨s0, s1, s2, s3⟩; go_simp; with_reducible rfl
           rotate_left
           ·simp only [Act.put, zA, zB, zC, Qw, Qx]; rfl
           refine Zy (i := 11) (N := some 62) (v := ?_) (a' := ?_) #[true, true, false, true, true, false, false, true, true, false, true, true, false, false, false, false, false] rfl rfl (Q4 HT_.out HW_.out (by kernel_rfl)) (fun _ _ _ h => h) (Or.inl ⟨by rfl, ?_⟩) hHeld ?_ ?_; rotate_left
           ·rintro w' ⟨s0, s1, s2, s3⟩; go_simp; with_reducible rfl
           rotate_left
           ·simp only [Act.put, zA, zB, zC, Qw, Qx]; rfl
           refine one_ (i := 2) (N := some 53) #[true, true, true, true, true, false, false, true, true, false, true, true, false, false, false, false, false] rfl rfl (ZL HT_.out (by kernel_rfl)) (by decide) (fun K hK => ?_); refine Yz Try.func90 (by kernel_rfl) rfl #[.slice (some bM) ae.length an] (by rfl) rfl rfl hA ?_; with_reducible refine (Q6.calls kj9 _ _ ae t108 _ ?aj ?ai A37.out).mono ?_
           (case aj => exact (Kd.Ql aI.out HB.out))
           (case ai => exact aQ.out)
           rintro e w44 ⟨fY, rfl, ho0, hb⟩; refine ⟨_, rfl, ?_⟩; have bN := aa.mk (Kd.ZY (Kd.QZ (ok' := fun k_ => (w.heap.size ≤ k_) ∧ k_ ≠ af ∧ k_ ≠ al ∧ k_ ≠ az) (Kd.S_N (Kd.YL ho0)) (fun k_ hk_ => ⟨(Nat.le_trans (Qe bB) hk_.2.1), (Kd.freshB (g := af) (o := .cells #[.slice (some bM) ae.length an, .slice ak ag.length ao] 24 (0, 0)) (by (with_reducible repeat (first | refine Qg ?_ _ | refine Qh ?_ | refine Qf ?_ _)); exact ab.out) k_ hk_.2.1), (Kd.freshB (g := al) (o := .cells #[.slice (some ch) av.length aZ, .slice aV aw.length bc] 24 (0, 0)) (by (with_reducible repeat (first | refine Qg ?_ _ | refine Qh ?_ | refine Qf ?_ _)); exact ah.out) k_ hk_.2.1), (Kd.freshB (g := az) (o := .cells #[.slice none 0 0, .slice none 0 0] 24 (0, 0)) (by (with_reducible repeat (first | refine Qg ?_ _ | refine Qh ?_ | refine Qf ?_ _)); exact aA.out) k_ hk_.2.1)⟩)) (Qe bB)); replace ab := aa.mk (Qc ab.out hb); replace ah := aa.mk (Qc ah.out hb); replace aA := aa.mk (Qc aA.out hb); replace HB := aa.mk (Qd bB hb); (try clear hb)
           (try clear hb2)
           (try clear hk)
           (try clear hi)
           (try clear ho0)
           refine hK.out _ _ ⟨(Qa ab.out 0).trans rfl, (Qa ab.out 1).trans rfl, (Qa ah.out 0).trans rfl, (Qa ah.out 1).trans rfl⟩ (fun hHeld => ?_); clear hK K; refine Ye (a' := ?_) ?_ ?_; rotate_left
           ·show Act.put _ (some 53) _ = _
            simp only [Act.put, zA, zB, zC, Qw, Qx]; rfl
           refine one_ (i := 5) (N := some 56) #[true, true, true, true, true, true, false, true, true, false, true, true, false, false, false, false, false] rfl rfl (ZL HT_.out (by kernel_rfl)) (by decide) (fun K hK => ?_); refine Yz Try.func90 (by kernel_rfl) rfl #[.slice (some ch) av.length aZ] (by rfl) rfl rfl hA ?_; with_reducible refine (Q6.calls kj9 _ _ av t111 _ ?aj ?ai A38.out).mono ?_
           (case aj => exact (Kd.Ql cF.out HB.out))
           (case ai => exact cm.out)
           rintro e w45 ⟨ug, rfl, ho0, hb⟩; refine ⟨_, rfl, ?_⟩; have cP := aa.mk (Kd.ZY (Kd.QZ (ok' := fun k_ => (w.heap.size ≤ k_) ∧ some k_ ≠ (fY : Value).ownBlock ∧ k_ ≠ af ∧ k_ ≠ al ∧ k_ ≠ az) (Kd.S_N (Kd.YL ho0)) (fun k_ hk_ => ⟨(Nat.le_trans (Qe bB) hk_.2.1), (Kd.fresh' (Kd.N_lt bN.out) k_ hk_.2.1), (Kd.freshB (g := af) (o := .cells #[.slice (some bM) ae.length an, .slice ak ag.length ao] 24 (0, 0)) (by (with_reducible repeat (first | refine Qg ?_ _ | refine Qh ?_ | refine Qf ?_ _)); exact ab.out) k_ hk_.2.1), (Kd.freshB (g := al) (o := .cells #[.slice (some ch) av.length aZ, .slice aV aw.length bc] 24 (0, 0)) (by (with_reducible repeat (first | refine Qg ?_ _ | refine Qh ?_ | refine Qf ?_ _)); exact ah.out) k_ hk_.2.1), (Kd.freshB (g := az) (o := .cells #[.slice none 0 0, .slice none 0 0] 24 (0, 0)) (by (with_reducible repeat (first | refine Qg ?_ _ | refine Qh ?_ | refine Qf ?_ _)); exact aA.out) k_ hk_.2.1)⟩)) (Qe bB)); replace bN := aa.mk (Kd.Q3 bN.out (by first | exact Kd.ZO ho0 | exact Kd.Zz ho0) hb); replace ab := aa.mk (Qc ab.out hb); replace ah := aa.mk (Qc ah.out hb); replace aA := aa.mk (Qc aA.out hb); replace HB := aa.mk (Qd bB hb); (try clear hb)
           (try clear hb2)
           (try clear hk)
           (try clear hi)
           (try clear ho0)
           obtain ⟨jB, jy, pv⟩ := Kd.ZS cP.out; (first | subst pv | (injection pv with f1_ f2_ f3_; have f4_ := f1_.symm; have f5_ := f3_.symm; clear f1_ f2_ f3_; subst f4_; subst f5_))
           refine hK.out _ _ ⟨(Qa ab.out 0).trans rfl, (Qa ab.out 1).trans rfl, (Qa ah.out 0).trans rfl, (Qa ah.out 1).trans rfl⟩ (fun hHeld => ?_); clear hK K; refine Ye (a' := ?_) ?_ ?_; rotate_left
           ·show Act.put _ (some 56) _ = _
            simp only [Act.put, zA, zB, zC, Qw, Qx]; rfl
           refine one_ (i := 6) (N := some 57) #[true, true, true, true, true, true, true, true, true, false, true, true, false, false, false, false, false] rfl rfl (ZL HT_.out (by kernel_rfl)) (by decide) (fun K hK => ?_); refine Kd.Z3 (Kd.slice 3 (Kd.int .i64)) (w0 := w) w.heap.size (by rfl) (.tmp 53) (.tmp 56) 22 28 (.slice none 0 0) 24 rfl Try.underlying22 info28 rfl (by decide) (by omega) fY t108 t111 _ _ _ (fun k_ => (w.heap.size ≤ k_) ∧ k_ ≠ af ∧ k_ ≠ al ∧ k_ ≠ az) (fun k_ => ((fun k_ => (w.heap.size ≤ k_) ∧ k_ ≠ af ∧ k_ ≠ al ∧ k_ ≠ az)) k_ ∧ some k_ ≠ (fY : Value).ownBlock) rfl rfl ?aO ?aR (fun _ hk => hk) ?aF ?aB ?aS ?aL ?_; (case aR => exact (by skip; exact Kd.N_F (Kd.QZ (ok' := (fun k_ => ((fun k_ => (w.heap.size ≤ k_) ∧ k_ ≠ af ∧ k_ ≠ al ∧ k_ ≠ az)) k_ ∧ some k_ ≠ (fY : Value).ownBlock)) (cP.out) (fun k_ hk => ⟨⟨hk.1, ⟨hk.2.2.1, ⟨hk.2.2.2.1, hk.2.2.2.2⟩⟩⟩, hk.2.1⟩))))
           (case aB => exact bB)
           (case aF => exact (fun k_ hk => ⟨(Nat.le_trans (Qe bB) hk), Kd.freshB (g := af) (o := .cells #[.slice (some bM) ae.length an, .slice ak ag.length ao] 24 (0, 0)) (by (with_reducible repeat (first | refine Qg ?_ _ | refine Qh ?_ | refine Qf ?_ _)); exact ab.out) k_ hk, Kd.freshB (g := al) (o := .cells #[.slice (some ch) av.length aZ, .slice aV aw.length bc] 24 (0, 0)) (by (with_reducible repeat (first | refine Qg ?_ _ | refine Qh ?_ | refine Qf ?_ _)); exact ah.out) k_ hk, Kd.freshB (g := az) (o := .cells #[.slice none 0 0, .slice none 0 0] 24 (0, 0)) (by (with_reducible repeat (first | refine Qg ?_ _ | refine Qh ?_ | refine Qf ?_ _)); exact aA.out) k_ hk⟩))
           (case aO => exact (by (with_reducible repeat (first | apply Kd.N_alloc | apply Kd.Ze | apply Kd.Zn)); exact Kd.QZ bN.out (fun _ hk => ⟨hk.1.1, ⟨hk.1.2.1, ⟨hk.1.2.2.1, hk.1.2.2.2⟩⟩⟩)))
           (case aS => exact (Qe bB))
           (case aL => have := pN.out; omega)
           intro e5 w46 ho hb hg hat; rw [← jI.out] at ho; replace ab := aa.mk (ZN (g := af) (o := .cells #[.slice (some bM) ae.length an, .slice ak ag.length ao] 24 (0, 0)) (by (with_reducible repeat (first | refine Qg ?_ _ | refine Qh ?_ | refine Qf ?_ _)); exact ab.out) hg (Kd.N_ne bN.out ab.out (by decide))); replace ah := aa.mk (ZN (g := al) (o := .cells #[.slice (some ch) av.length aZ, .slice aV aw.length bc] 24 (0, 0)) (by (with_reducible repeat (first | refine Qg ?_ _ | refine Qh ?_ | refine Qf ?_ _)); exact ah.out) hg (Kd.N_ne bN.out ah.out (by decide))); replace aA := aa.mk (ZN (g := az) (o := .cells #[.slice none 0 0, .slice none 0 0] 24 (0, 0)) (by (with_reducible repeat (first | refine Qg ?_ _ | refine Qh ?_ | refine Qf ?_ _)); exact aA.out) hg (Kd.N_ne bN.out aA.out (by decide))); replace cP := aa.mk (Kd.Yy (ok := (fun k_ => (w.heap.size ≤ k_) ∧ k_ ≠ af ∧ k_ ≠ al ∧ k_ ≠ az)) (by (with_reducible repeat (first | apply Kd.N_alloc | apply Kd.Ze | apply Kd.Zn)); exact Kd.QZ cP.out (fun _ hk => ⟨⟨hk.1, ⟨hk.2.2.1, ⟨hk.2.2.2.1, hk.2.2.2.2⟩⟩⟩, hk.2.1⟩)) hg hat); replace HB := aa.mk (hb); have bP := aa.mk (ho); clear bN; clear ho hb hg hat; refine hK.out _ _ ⟨(Qa ab.out 0).trans rfl, (Qa ab.out 1).trans rfl, (Qa ah.out 0).trans rfl, (Qa ah.out 1).trans rfl⟩ (fun hHeld => ?_); clear hK K; refine Ye (a' := ?_) ?_ ?_; rotate_left
           ·show Act.put _ (some 57) _ = _
            simp only [Act.put, zA, zB, zC, Qw, Qx]; rfl
           refine one_ (i := 9) (N := some 60) #[true, true, true, true, true, true, true, true, true, true, true, true, false, false, false, false, false] rfl rfl (ZL HT_.out (by kernel_rfl)) (by decide) (fun K hK => ?_); refine Yz Try.func90 (by kernel_rfl) rfl #[.slice ak ag.length ao] (by rfl) rfl rfl hA ?_; with_reducible refine (Q6.calls kj9 _ _ ag t117 _ ?aj ?ai A40.out).mono ?_
           (case aj => exact (Kd.Ql aW.out HB.out))
           (case ai => exact aT.out)
           rintro e w48 ⟨kt, rfl, ho0, hb⟩; refine ⟨_, rfl, ?_⟩; have dd := aa.mk (Kd.ZY (Kd.QZ (ok' := fun k_ => (w.heap.size ≤ k_) ∧ some k_ ≠ (.slice jB t111.length jy : Value).ownBlock ∧ some k_ ≠ (e5 : Value).ownBlock ∧ k_ ≠ af ∧ k_ ≠ al ∧ k_ ≠ az) (Kd.S_N (Kd.YL ho0)) (fun k_ hk_ => ⟨(Nat.le_trans (Qe bB) hk_.2.1), (Kd.fresh' (Kd.N_lt cP.out) k_ hk_.2.1), (Kd.fresh' (Kd.N_lt bP.out) k_ hk_.2.1), (Kd.freshB (g := af) (o := .cells #[.slice (some bM) ae.length an, .slice ak ag.length ao] 24 (0, 0)) (by (with_reducible repeat (first | refine Qg ?_ _ | refine Qh ?_ | refine Qf ?_ _)); exact ab.out) k_ hk_.2.1), (Kd.freshB (g := al) (o := .cells #[.slice (some ch) av.length aZ, .slice aV aw.length bc] 24 (0, 0)) (by (with_reducible repeat (first | refine Qg ?_ _ | refine Qh ?_ | refine Qf ?_ _)); exact ah.out) k_ hk_.2.1), (Kd.freshB (g := az) (o := .cells #[.slice none 0 0, .slice none 0 0] 24 (0, 0)) (by (with_reducible repeat (first | refine Qg ?_ _ | refine Qh ?_ | refine Qf ?_ _)); exact aA.out) k_ hk_.2.1)⟩)) (Qe bB)); replace cP := aa.mk (Kd.Q3 cP.out (by first | exact Kd.ZO ho0 | exact Kd.Zz ho0) hb); replace bP := aa.mk (Kd.Q3 bP.out (by first | exact Kd.ZO ho0 | exact Kd.Zz ho0) hb); replace ab := aa.mk (Qc ab.out hb); replace ah := aa.mk (Qc ah.out hb); replace aA := aa.mk (Qc aA.out hb); replace HB := aa.mk (Qd bB hb); (try clear hb)
           (try clear hb2)
           (try clear hk)
           (try clear hi)
           (try clear ho0)
           refine hK.out _ _ ⟨(Qa ab.out 0).trans rfl, (Qa ab.out 1).trans rfl, (Qa ah.out 0).trans rfl, (Qa ah.out 1).trans rfl⟩ (fun hHeld => ?_); clear hK K; refine Ye (a' := ?_) ?_ ?_; rotate_left
           ·show Act.put _ (some 60) _ = _
            simp only [Act.put, zA, zB, zC, Qw, Qx]; rfl
           refine one_ (i := 12) (N := some 63) #[true, true, true, true, true, true, true, true, true, true, true, true, true, false, false, false, false] rfl rfl (ZL HT_.out (by kernel_rfl)) (by decide) (fun K hK => ?_); refine Yz Try.func90 (by kernel_rfl) rfl #[.slice aV aw.length bc] (by rfl) rfl rfl hA ?_; with_reducible refine (Q6.calls kj9 _ _ aw t120 _ ?aj ?ai A41.out).mono ?_
           (case aj => exact (Kd.Ql cW.out HB.out))
           (case ai => exact cw.out)
           rintro e w49 ⟨Bf, rfl, ho0, hb⟩; refine ⟨_, rfl, ?_⟩; have jo := aa.mk (Kd.ZY (Kd.QZ (ok' := fun k_ => (w.heap.size ≤ k_) ∧ some k_ ≠ (.slice jB t111.length jy : Value).ownBlock ∧ some k_ ≠ (e5 : Value).ownBlock ∧ some k_ ≠ (kt : Value).ownBlock ∧ k_ ≠ af ∧ k_ ≠ al ∧ k_ ≠ az) (Kd.S_N (Kd.YL ho0)) (fun k_ hk_ => ⟨(Nat.le_trans (Qe bB) hk_.2.1), (Kd.fresh' (Kd.N_lt cP.out) k_ hk_.2.1), (Kd.fresh' (Kd.N_lt bP.out) k_ hk_.2.1), (Kd.fresh' (Kd.N_lt dd.out) k_ hk_.2.1), (Kd.freshB (g := af) (o := .cells #[.slice (some bM) ae.length an, .slice ak ag.length ao] 24 (0, 0)) (by (with_reducible repeat (first | refine Qg ?_ _ | refine Qh ?_ | refine Qf ?_ _)); exact ab.out) k_ hk_.2.1), (Kd.freshB (g := al) (o := .cells #[.slice (some ch) av.length aZ, .slice aV aw.length bc] 24 (0, 0)) (by (with_reducible repeat (first | refine Qg ?_ _ | refine Qh ?_ | refine Qf ?_ _)); exact ah.out) k_ hk_.2.1), (Kd.freshB (g := az) (o := .cells #[.slice none 0 0, .slice none 0 0] 24 (0, 0)) (by (with_reducible repeat (first | refine Qg ?_ _ | refine Qh ?_ | refine Qf ?_ _)); exact aA.out) k_ hk_.2.1)⟩)) (Qe bB)); replace cP := aa.mk (Kd.Q3 cP.out (by first | exact Kd.ZO ho0 | exact Kd.Zz ho0) hb); replace bP := aa.mk (Kd.Q3 bP.out (by first | exact Kd.ZO ho0 | exact Kd.Zz ho0) hb); replace dd := aa.mk (Kd.Q3 dd.out (by first | exact Kd.ZO ho0 | exact Kd.Zz ho0) hb); replace ab := aa.mk (Qc ab.out hb); replace ah := aa.mk (Qc ah.out hb); replace aA := aa.mk (Qc aA.out hb); replace HB := aa.mk (Qd bB hb); (try clear hb)
           (try clear hb2)
           (try clear hk)
           (try clear hi)
           (try clear ho0)
           obtain ⟨oV, jQ, lh⟩ := Kd.ZS jo.out; (first | subst lh | (injection lh with f1_ f2_ f3_; have f4_ := f1_.symm; have f5_ := f3_.symm; clear f1_ f2_ f3_; subst f4_; subst f5_))
           refine hK.out _ _ ⟨(Qa ab.out 0).trans rfl, (Qa ab.out 1).trans rfl, (Qa ah.out 0).trans rfl, (Qa ah.out 1).trans rfl⟩ (fun hHeld => ?_); clear hK K; refine Ye (a' := ?_) ?_ ?_; rotate_left
           ·show Act.put _ (some 63) _ = _
            simp only [Act.put, zA, zB, zC, Qw, Qx]; rfl
           refine one_ (i := 13) (N := some 64) #[true, true, true, true, true, true, true, true, true, true, true, true, true, true, false, false, false] rfl rfl (ZL HT_.out (by kernel_rfl)) (by decide) (fun K hK => ?_); refine Kd.Z3 (Kd.slice 3 (Kd.int .i64)) (w0 := w) w.heap.size (by rfl) (.tmp 60) (.tmp 63) 22 28 (.slice none 0 0) 24 rfl Try.underlying22 info28 rfl (by decide) (by omega) kt t117 t120 _ _ _ (fun k_ => (w.heap.size ≤ k_) ∧ some k_ ≠ (.slice jB t111.length jy : Value).ownBlock ∧ some k_ ≠ (e5 : Value).ownBlock ∧ k_ ≠ af ∧ k_ ≠ al ∧ k_ ≠ az) (fun k_ => ((fun k_ => (w.heap.size ≤ k_) ∧ some k_ ≠ (.slice jB t111.length jy : Value).ownBlock ∧ some k_ ≠ (e5 : Value).ownBlock ∧ k_ ≠ af ∧ k_ ≠ al ∧ k_ ≠ az)) k_ ∧ some k_ ≠ (kt : Value).ownBlock) rfl rfl ?aO ?aR (fun _ hk => hk) ?aF ?aB ?aS ?aL ?_; (case aR => exact (by skip; exact Kd.N_F (Kd.QZ (ok' := (fun k_ => ((fun k_ => (w.heap.size ≤ k_) ∧ some k_ ≠ (.slice jB t111.length jy : Value).ownBlock ∧ some k_ ≠ (e5 : Value).ownBlock ∧ k_ ≠ af ∧ k_ ≠ al ∧ k_ ≠ az)) k_ ∧ some k_ ≠ (kt : Value).ownBlock)) (jo.out) (fun k_ hk => ⟨⟨hk.1, ⟨hk.2.1, ⟨hk.2.2.1, ⟨hk.2.2.2.2.1, ⟨hk.2.2.2.2.2.1, hk.2.2.2.2.2.2⟩⟩⟩⟩⟩, hk.2.2.2.1⟩))))
           (case aB => exact bB)
           (case aF => exact (fun k_ hk => ⟨(Nat.le_trans (Qe bB) hk), Kd.fresh' (Kd.N_lt cP.out) k_ hk, Kd.fresh' (Kd.N_lt bP.out) k_ hk, Kd.freshB (g := af) (o := .cells #[.slice (some bM) ae.length an, .slice ak ag.length ao] 24 (0, 0)) (by (with_reducible repeat (first | refine Qg ?_ _ | refine Qh ?_ | refine Qf ?_ _)); exact ab.out) k_ hk, Kd.freshB (g := al) (o := .cells #[.slice (some ch) av.length aZ, .slice aV aw.length bc] 24 (0, 0)) (by (with_reducible repeat (first | refine Qg ?_ _ | refine Qh ?_ | refine Qf ?_ _)); exact ah.out) k_ hk, Kd.freshB (g := az) (o := .cells #[.slice none 0 0, .slice none 0 0] 24 (0, 0)) (by (with_reducible repeat (first | refine Qg ?_ _ | refine Qh ?_ | refine Qf ?_ _)); exact aA.out) k_ hk⟩))
           (case aO => exact (by (with_reducible repeat (first | apply Kd.N_alloc | apply Kd.Ze | apply Kd.Zn)); exact Kd.QZ dd.out (fun _ hk => ⟨hk.1.1, ⟨hk.1.2.1, ⟨hk.1.2.2.1, ⟨hk.1.2.2.2.1, ⟨hk.1.2.2.2.2.1, hk.1.2.2.2.2.2⟩⟩⟩⟩⟩)))
           (case aS => exact (Qe bB))
           (case aL => have := pM.out; omega)
           intro Be w50 ho hb hg hat; rw [← pL.out] at ho; replace ab := aa.mk (ZN (g := af) (o := .cells #[.slice (some bM) ae.length an, .slice ak ag.length ao] 24 (0, 0)) (by (with_reducible repeat (first | refine Qg ?_ _ | refine Qh ?_ | refine Qf ?_ _)); exact ab.out) hg (Kd.N_ne dd.out ab.out (by decide))); replace ah := aa.mk (ZN (g := al) (o := .cells #[.slice (some ch) av.length aZ, .slice aV aw.length bc] 24 (0, 0)) (by (with_reducible repeat (first | refine Qg ?_ _ | refine Qh ?_ | refine Qf ?_ _)); exact ah.out) hg (Kd.N_ne dd.out ah.out (by decide))); replace aA := aa.mk (ZN (g := az) (o := .cells #[.slice none 0 0, .slice none 0 0] 24 (0, 0)) (by (with_reducible repeat (first | refine Qg ?_ _ | refine Qh ?_ | refine Qf ?_ _)); exact aA.out) hg (Kd.N_ne dd.out aA.out (by decide))); replace cP := aa.mk (Kd.Yy (ok := (fun k_ => (w.heap.size ≤ k_) ∧ some k_ ≠ (e5 : Value).ownBlock ∧ some k_ ≠ (.slice oV t120.length jQ : Value).ownBlock ∧ k_ ≠ af ∧ k_ ≠ al ∧ k_ ≠ az)) (by (with_reducible repeat (first | apply Kd.N_alloc | apply Kd.Ze | apply Kd.Zn)); exact Kd.QZ cP.out (fun _ hk => ⟨⟨hk.1.1.1.1, ⟨hk.1.1.2, ⟨hk.2, ⟨hk.1.1.1.2.1, ⟨hk.1.1.1.2.2.1, hk.1.1.1.2.2.2⟩⟩⟩⟩⟩, hk.1.2⟩)) hg hat); replace bP := aa.mk (Kd.Yy (ok := (fun k_ => (w.heap.size ≤ k_) ∧ some k_ ≠ (.slice oV t120.length jQ : Value).ownBlock ∧ k_ ≠ af ∧ k_ ≠ al ∧ k_ ≠ az)) (by (with_reducible repeat (first | apply Kd.N_alloc | apply Kd.Ze | apply Kd.Zn)); exact Kd.QZ bP.out (fun _ hk => ⟨⟨hk.1.1.1, ⟨hk.2, ⟨hk.1.1.2.1, ⟨hk.1.1.2.2.1, hk.1.1.2.2.2⟩⟩⟩⟩, hk.1.2⟩)) hg hat); replace jo := aa.mk (Kd.Yy (ok := (fun k_ => (w.heap.size ≤ k_) ∧ some k_ ≠ (.slice jB t111.length jy : Value).ownBlock ∧ some k_ ≠ (e5 : Value).ownBlock ∧ k_ ≠ af ∧ k_ ≠ al ∧ k_ ≠ az)) (by (with_reducible repeat (first | apply Kd.N_alloc | apply Kd.Ze | apply Kd.Zn)); exact Kd.QZ jo.out (fun _ hk => ⟨⟨hk.1, ⟨hk.2.1, ⟨hk.2.2.1, ⟨hk.2.2.2.2.1, ⟨hk.2.2.2.2.2.1, hk.2.2.2.2.2.2⟩⟩⟩⟩⟩, hk.2.2.2.1⟩)) hg hat); replace HB := aa.mk (hb); have mU := aa.mk (ho); clear dd; clear ho hb hg hat; obtain ⟨mg, kG, lT⟩ := Kd.ZS mU.out; (first | subst lT | (injection lT with f1_ f2_ f3_; have f4_ := f1_.symm; have f5_ := f3_.symm; clear f1_ f2_ f3_; subst f4_; subst f5_))
           obtain ⟨mf, lW, pt⟩ := Kd.ZS bP.out; (first | subst pt | (injection pt with f1_ f2_ f3_; have f4_ := f1_.symm; have f5_ := f3_.symm; clear f1_ f2_ f3_; subst f4_; subst f5_))
           refine hK.out _ _ ⟨(Qa ab.out 0).trans rfl, (Qa ab.out 1).trans rfl, (Qa ah.out 0).trans rfl, (Qa ah.out 1).trans rfl⟩ (fun hHeld => ?_); clear hK K; refine Ye (a' := ?_) ?_ ?_; rotate_left
           ·show Act.put _ (some 64) _ = _
            simp only [Act.put, zA, zB, zC, Qw, Qx]; rfl
           refine QS (i := 14) (N := some 65) (v := ?_) (a' := ?_) #[true, true, true, true, true, true, true, true, true, true, true, true, true, true, true, false, false] rfl rfl (QI HT_.out (by kernel_rfl)) (fun _ _ _ h => h) (Or.inl ⟨by rfl, ?_⟩) ?_ ?_; rotate_left
           ·intro w'; go_simp; with_reducible rfl
           rotate_left
           ·simp only [Act.put, zA, zB, zC, Qw, Qx]; rfl
           refine one_ (i := 15) (N := none) #[true, true, true, true, true, true, true, true, true, true, true, true, true, true, true, true, false] rfl rfl (ZL HT_.out (by kernel_rfl)) (by decide) (fun K hK => ?_); have Bp : w50.cell? ⟨az, 0, none⟩ = some (.slice none 0 0) := (Qa aA.out 0).trans rfl; have vT := Qb aA.out 0; have qo := a9.out; have qn := a8.out; have qu := bu.out; have qt := bt.out; have Bo : w50.cell? ⟨az, 1, none⟩ = some (.slice none 0 0) := (Qa aA.out 1).trans rfl; have vS := Qb aA.out 1; have qm := a9.out; have qk := a8.out; have qq := bu.out; have qp := bt.out; refine Uk (w1 := ?_) (by rfl) rfl ?_ ?_; rotate_left
           ·go_simp; rfl
           refine hK.out _ _ ⟨((Yd (p := ⟨az, _, none⟩) a9.out _).trans (((Yd (p := ⟨az, _, none⟩) a9.out _).trans (hHeld.1)))), ((Yd (p := ⟨az, _, none⟩) a9.out _).trans (((Yd (p := ⟨az, _, none⟩) a9.out _).trans (hHeld.2.1)))), ((Yd (p := ⟨az, _, none⟩) a8.out _).trans (((Yd (p := ⟨az, _, none⟩) a8.out _).trans (hHeld.2.2.1)))), ((Yd (p := ⟨az, _, none⟩) a8.out _).trans (((Yd (p := ⟨az, _, none⟩) a8.out _).trans (hHeld.2.2.2))))⟩ (fun hHeld => ?_); clear hK K; refine QS (i := 16) (N := some 5) (v := ?_) (a' := ?_) #[true, true, true, true, true, true, true, true, true, true, true, true, true, true, true, true, true] rfl rfl (QI HT_.out (by kernel_rfl)) (fun _ _ _ h => h) (Or.inl ⟨by rfl, ?_⟩) ?_ ?_; rotate_left
           ·intro w'; go_simp; with_reducible rfl
           rotate_left
           ·simp only [Act.put, zA, zB, zC, Qw, Qx]; rfl
           refine YA (Yf HT_.out (by kernel_rfl)) ?_; try go_wp2
           refine bodyPost_ret (Yi rfl _ _ az 24 #[.slice mf eT.length lW, .slice mg lv.length kG] (0, 0) _ rfl (by (with_reducible repeat (first | refine Qg ?_ _ | refine Qh ?_ | refine Qf ?_ _)); refine ZC (cs := #[.slice mf eT.length lW, .slice none 0 0]) ?_ 1 _ rfl; (with_reducible repeat (first | refine Qg ?_ _ | refine Qh ?_ | refine Qf ?_ _)); refine ZC (cs := #[.slice none 0 0, .slice none 0 0]) ?_ 0 _ rfl; (with_reducible repeat (first | refine Qg ?_ _ | refine Qh ?_ | refine Qf ?_ _)); exact aA.out) Try.underlying24 rfl (by kernel_rfl)) rfl ?_; exact ⟨_, _, by first | rfl | (simp [Qo, Qn] <;> rfl) | (simp [*, Qo, Qn] <;> rfl), by (with_reducible repeat (first | apply Kd.N_alloc | apply Kd.Ze | apply Kd.Zn)); exact Kd.QZ (Kd.ZI (p := ⟨az, 1, none⟩) (Kd.ZI (p := ⟨az, 0, none⟩) (Kd.QZ bP.out (fun k_ hk => (⟨hk, hk.1.2.2.2.2⟩ : _ ∧ k_ ≠ az))) (fun _ hk => hk.2) (.slice mf eT.length lW)) (fun _ hk => hk.2) (.slice mg lv.length kG)) (fun _ hk => ⟨hk.1.1.1, hk.1.2⟩), by (with_reducible repeat (first | apply Kd.N_alloc | apply Kd.Ze | apply Kd.Zn)); exact Kd.QZ (Kd.ZI (p := ⟨az, 1, none⟩) (Kd.ZI (p := ⟨az, 0, none⟩) (Kd.QZ mU.out (fun k_ hk => (⟨hk, hk.2.2.2.2.2⟩ : _ ∧ k_ ≠ az))) (fun _ hk => hk.2) (.slice mf eT.length lW)) (fun _ hk => hk.2) (.slice mg lv.length kG)) (fun _ hk => ⟨hk.1.1, hk.1.2.2.1⟩), bB⟩
          ·rw [if_neg c42] at H; exact absurd H (by simp)
         ·rw [if_neg c39] at H; exact absurd H (by simp)
     ·rw [if_neg c9] at H; have ft : (((Qt ae 0).length : Int) == ((Qt av 0).length : Int)) = false := beq_eq_false_iff_ne.mpr c9; have pD : (((Qt ae 0).length : Int) != ((Qt av 0).length : Int)) = true := bne_iff_ne.mpr c9; have pC : ((Qt ae 0).length == (Qt av 0).length) = false := by first | simpa using c9 | (simp at c9 ⊢; omega)
      simp only [Option.some.injEq, Prod.mk.injEq] at H; obtain ⟨rfl, rfl, rfl⟩ := H; go_enter Try.func68, Try.ntmps68; try go_wp2_with (first | ((with_reducible refine QD (N := 2) rfl ?_); (try (refine Q8 (by rfl) ?_; dsimp only)); refine QJ ?hg (N := 2) ?hd (cs := #[.slice aq ae.length an, .slice ak ag.length ao]) (t := 24) ?hr ?_; (case hd => rfl); (case hg => rfl); (case hr => first | (go_simp; done) | (go_simp; rfl)); intro af hg w56 hbox hb; have ab := aa.mk (hbox); have bA := aa.mk ((by rw [hg]; exact (Qe bB) : w.heap.size ≤ af)); have bk := aa.mk ((by rw [hg]; exact (Qe bB) : w.heap.size ≤ af)); replace HB := aa.mk (Qd bB hb); clear hb hbox hg) | ((with_reducible refine QD (N := 3) rfl ?_); (try (refine Q8 (by rfl) ?_; dsimp only)); refine QJ ?hg (N := 3) ?hd (cs := #[.slice aY av.length aZ, .slice aV aw.length bc]) (t := 24) ?hr ?_; (case hd => rfl); (case hg => rfl); (case hr => first | (go_simp; done) | (go_simp; rfl)); intro al hg w57 hbox hb; have ah := aa.mk (hbox); have fo := aa.mk ((by rw [hg]; exact (Qe bB) : w.heap.size ≤ al)); have e0 := aa.mk ((by rw [hg]; exact (Qe bB) : w.heap.size ≤ al)); replace HB := aa.mk (Qd bB hb); have aM := aa.mk ((by rw [hg]; exact Nat.ne_of_lt (Q7 (g := af) (o := .cells #[.slice aq ae.length an, .slice ak ag.length ao] 24 (0, 0)) (by (with_reducible repeat (first | refine Qg ?_ _ | refine Qh ?_ | refine Qf ?_ _)); exact ab.out)) : af ≠ al)); have aK := aa.mk ((by rw [hg]; exact Nat.ne_of_gt (Q7 (g := af) (o := .cells #[.slice aq ae.length an, .slice ak ag.length ao] 24 (0, 0)) (by (with_reducible repeat (first | refine Qg ?_ _ | refine Qh ?_ | refine Qf ?_ _)); exact ab.out)) : al ≠ af)); replace ab := aa.mk (Qc ab.out hb); clear hb hbox hg) | ((with_reducible refine QD (N := 4) rfl ?_); (try (refine Q8 (by rfl) ?_; dsimp only)); refine QJ ?hg (N := 4) ?hd (cs := #[.slice none 0 0, .slice none 0 0]) (t := 24) ?hr ?_; (case hd => rfl); (case hg => rfl); (case hr => first | (go_simp; done) | (go_simp; rfl)); intro az hg w58 hbox hb; have aA := aa.mk (hbox); have kU := aa.mk ((by rw [hg]; exact (Qe bB) : w.heap.size ≤ az)); have jN := aa.mk ((by rw [hg]; exact (Qe bB) : w.heap.size ≤ az)); replace HB := aa.mk (Qd bB hb); have a9 := aa.mk ((by rw [hg]; exact Nat.ne_of_lt (Q7 (g := af) (o := .cells #[.slice aq ae.length an, .slice ak ag.length ao] 24 (0, 0)) (by (with_reducible repeat (first | refine Qg ?_ _ | refine Qh ?_ | refine Qf ?_ _)); exact ab.out)) : af ≠ az)); have bu := aa.mk ((by rw [hg]; exact Nat.ne_of_gt (Q7 (g := af) (o := .cells #[.slice aq ae.length an, .slice ak ag.length ao] 24 (0, 0)) (by (with_reducible repeat (first | refine Qg ?_ _ | refine Qh ?_ | refine Qf ?_ _)); exact ab.out)) : az ≠ af)); replace ab := aa.mk (Qc ab.out hb); have a8 := aa.mk ((by rw [hg]; exact Nat.ne_of_lt (Q7 (g := al) (o := .cells #[.slice aY av.length aZ, .slice aV aw.length bc] 24 (0, 0)) (by (with_reducible repeat (first | refine Qg ?_ _ | refine Qh ?_ | refine Qf ?_ _)); exact ah.out)) : al ≠ az)); have bt := aa.mk ((by rw [hg]; exact Nat.ne_of_gt (Q7 (g := al) (o := .cells #[.slice aY av.length aZ, .slice aV aw.length bc] 24 (0, 0)) (by (with_reducible repeat (first | refine Qg ?_ _ | refine Qh ?_ | refine Qf ?_ _)); exact ah.out)) : az ≠ al)); replace ah := aa.mk (Qc ah.out hb); clear hb hbox hg; have uW := aM.out; have uF := aK.out; have uV := a9.out; have uE := bu.out; have rf : w58.cell? ⟨af, 0, none⟩ = some (.slice aq ae.length an) := (Qa ab.out 0).trans rfl; have re : w58.cell? ⟨af, 1, none⟩ = some (.slice ak ag.length ao) := (Qa ab.out 1).trans rfl; have qJ := Qb ab.out 0; have qI := Qb ab.out 1) | ((with_reducible refine Qk (f := 38) rfl ?_); refine QE (some 9) rfl rfl Try.func38 (by kernel_rfl) rfl #[.agg #[.slice aq ae.length an, .slice ak ag.length ao]] rfl hA ?_; (with_reducible refine (Qm.calls k _ _ ae _ _ ag t104 _ ?aj ?ai ?au ?ar A3.out).mono ?_); (case aj => exact (Kd.Ql aI.out HB.out)); (case ai => exact aQ.out); (case au => exact (Kd.Ql aW.out HB.out)); (case ar => exact aT.out); rintro e w62 ⟨rfl, hb⟩; refine ⟨_, rfl, ?_⟩; replace ab := aa.mk (Qc ab.out hb); replace ah := aa.mk (Qc ah.out hb); replace aA := aa.mk (Qc aA.out hb); replace HB := aa.mk (Qd bB hb); (try clear hb); (try clear hb2); (try clear hk); (try clear hi); have uU := a8.out; have uD := bt.out; have oo : w62.cell? ⟨al, 0, none⟩ = some (.slice aY av.length aZ) := (Qa ah.out 0).trans rfl; have om : w62.cell? ⟨al, 1, none⟩ = some (.slice aV aw.length bc) := (Qa ah.out 1).trans rfl; have nX := Qb ah.out 0; have nW := Qb ah.out 1) | ((with_reducible refine Qk (f := 38) rfl ?_); refine QE (some 15) rfl rfl Try.func38 (by kernel_rfl) rfl #[.agg #[.slice aY av.length aZ, .slice aV aw.length bc]] rfl hA ?_; (with_reducible refine (Qm.calls k _ _ av _ _ aw t105 _ ?aj ?ai ?au ?ar A5.out).mono ?_); (case aj => exact (Kd.Ql cF.out HB.out)); (case ai => exact cm.out); (case au => exact (Kd.Ql cW.out HB.out)); (case ar => exact cw.out); rintro e w65 ⟨rfl, hb⟩; refine ⟨_, rfl, ?_⟩; replace ab := aa.mk (Qc ab.out hb); replace ah := aa.mk (Qc ah.out hb); replace aA := aa.mk (Qc aA.out hb); replace HB := aa.mk (Qd bB hb); (try clear hb); (try clear hb2); (try clear hk); (try clear hi)))
      replace ab := aa.mk (Qh ab.out); replace ah := aa.mk (Qh ah.out); replace aA := aa.mk (Qh aA.out); replace HB := aa.mk (QL HB.out); have cI : 0 ≤ (0 : Int) := (by omega); have cH : 0 < (ae.length : Int) := of_decide_eq_true (by assumption); obtain ⟨bM, hH, g8, fW, aJ, dz, dA⟩ := ZH aI.out 0 cI cH; have bn := aJ; (try rw [show ((0 : Int)).toNat = 0 from rfl] at bn)
      (try rw [show 0 * 1 = 0 from rfl] at bn)
      (try rw [Addr.add_zero'] at bn)
      cases fW; have nI : (0 < ae.length) = True := eq_true (by omega); (try rw [show ((0 : Int)).toNat = 0 from rfl] at aJ)
      (try rw [Addr.add_zero'] at aJ)
      replace aJ := (HB.out.cell (World.block_lt_of_cell? w _ aJ)).trans aJ; have fg := aa.mk dA; have ko := aa.mk dz; clear dA dz; replace cI := eq_true cI; replace cH := eq_true cH; have fV : 0 ≤ (0 : Int) := (by omega); have fU : 0 < (av.length : Int) := of_decide_eq_true (by assumption); obtain ⟨ch, iE, iC, lV, bm, en, ew⟩ := ZH cF.out 0 fV fU; have b9 := bm; (try rw [show ((0 : Int)).toNat = 0 from rfl] at b9)
      (try rw [show 0 * 1 = 0 from rfl] at b9)
      (try rw [Addr.add_zero'] at b9)
      cases lV; have o7 : (0 < av.length) = True := eq_true (by omega); (try rw [show ((0 : Int)).toNat = 0 from rfl] at bm)
      (try rw [Addr.add_zero'] at bm)
      replace bm := (HB.out.cell (World.block_lt_of_cell? w _ bm)).trans bm; have gz := aa.mk ew; have mc := aa.mk en; clear ew en; replace fV := eq_true fV; replace fU := eq_true fU; refine Ym (n := 11) (S := fun w' => w'.cell? ⟨af, 0, none⟩ = some (.slice (some bM) ae.length an) ∧ w'.cell? ⟨af, 1, none⟩ = some (.slice ak ag.length ao) ∧ w'.cell? ⟨al, 0, none⟩ = some (.slice (some ch) av.length aZ) ∧ w'.cell? ⟨al, 1, none⟩ = some (.slice aV aw.length bc) ∧ w'.cell? bM = some (.slice hH (Qt ae 0).length g8) ∧ w'.cell? ch = some (.slice iE (Qt av 0).length iC)) (ds := []) #[false, false, false, false, false, false, false, false, false, false, false] (by kernel_rfl) rfl rfl ⟨(Qa ab.out 0).trans rfl, (Qa ab.out 1).trans rfl, (Qa ah.out 0).trans rfl, (Qa ah.out 1).trans rfl, ((HB.out.cell (World.block_lt_of_cell? w _ bn)).trans bn), ((HB.out.cell (World.block_lt_of_cell? w _ b9)).trans b9)⟩ (fun hHeld => ?_); refine ZT QY.tab7 QY.bits7 (fun HT_ HW_ => ?_); generalize w65.drew = w66 at ab ah aA HB fg gz aJ bm hHeld ⊢; refine QS (i := 0) (N := some 20) (v := ?_) (a' := ?_) #[true, false, false, false, false, false, false, false, false, false, false] rfl rfl (QI HT_.out (by kernel_rfl)) (fun _ _ _ h => h) (Or.inl ⟨by rfl, ?_⟩) ?_ ?_; rotate_left
      ·intro w'; go_simp; with_reducible rfl
      rotate_left
      ·simp only [Act.put, zA, zB, zC, Qw, Qx]; rfl
      refine QS (i := 5) (N := some 25) (v := ?_) (a' := ?_) #[true, false, false, false, false, true, false, false, false, false, false] rfl rfl (QI HT_.out (by kernel_rfl)) (fun _ _ _ h => h) (Or.inl ⟨by rfl, ?_⟩) ?_ ?_; rotate_left
      ·intro w'; go_simp; with_reducible rfl
      rotate_left
      ·simp only [Act.put, zA, zB, zC, Qw, Qx]; rfl
      refine Zy (i := 1) (N := some 21) (v := ?_) (a' := ?_) #[true, true, false, false, false, true, false, false, false, false, false] rfl rfl (Q4 HT_.out HW_.out (by kernel_rfl)) (fun _ _ _ h => h) (Or.inl ⟨by rfl, ?_⟩) hHeld ?_ ?_; rotate_left
      ·rintro w' ⟨s0, s1, s2, s3, s4, s5⟩; go_simp; with_reducible rfl
      rotate_left
      ·simp only [Act.put, zA, zB, zC, Qw, Qx]; rfl
      refine QS (i := 2) (N := some 22) (v := ?_) (a' := ?_) #[true, true, true, false, false, true, false, false, false, false, false] rfl rfl (QI HT_.out (by kernel_rfl)) (fun _ _ _ h => h) (Or.inl ⟨by rfl, ?_⟩) ?_ ?_; rotate_left
      ·intro w'; go_simp; with_reducible rfl
      rotate_left
      ·simp only [Act.put, zA, zB, zC, Qw, Qx]; rfl
      refine Zy (i := 3) (N := some 23) (v := ?_) (a' := ?_) #[true, true, true, true, false, true, false, false, false, false, false] rfl rfl (Q4 HT_.out HW_.out (by kernel_rfl)) (fun _ _ _ h => h) (Or.inl ⟨by rfl, ?_⟩) hHeld ?_ ?_; rotate_left
      ·rintro w' ⟨s0, s1, s2, s3, s4, s5⟩; go_simp; with_reducible rfl
      rotate_left
      ·simp only [Act.put, zA, zB, zC, Qw, Qx]; rfl
      refine QS (i := 4) (N := some 24) (v := ?_) (a' := ?_) #[true, true, true, true, true, true, false, false, false, false, false] rfl rfl (QI HT_.out (by kernel_rfl)) (fun _ _ _ h => h) (Or.inl ⟨by rfl, ?_⟩) ?_ ?_; rotate_left
      ·intro w'; go_simp; with_reducible rfl
      rotate_left
      ·simp only [Act.put, zA, zB, zC, Qw, Qx]; rfl
      refine Zy (i := 6) (N := some 26) (v := ?_) (a' := ?_) #[true, true, true, true, true, true, true, false, false, false, false] rfl rfl (Q4 HT_.out HW_.out (by kernel_rfl)) (fun _ _ _ h => h) (Or.inl ⟨by rfl, ?_⟩) hHeld ?_ ?_; rotate_left
      ·rintro w' ⟨s0, s1, s2, s3, s4, s5⟩; go_simp; with_reducible rfl
      rotate_left
      ·simp only [Act.put, zA, zB, zC, Qw, Qx]; rfl
      refine QS (i := 7) (N := some 27) (v := ?_) (a' := ?_) #[true, true, true, true, true, true, true, true, false, false, false] rfl rfl (QI HT_.out (by kernel_rfl)) (fun _ _ _ h => h) (Or.inl ⟨by rfl, ?_⟩) ?_ ?_; rotate_left
      ·intro w'; go_simp; with_reducible rfl
      rotate_left
      ·simp only [Act.put, zA, zB, zC, Qw, Qx]; rfl
      refine Zy (i := 8) (N := some 28) (v := ?_) (a' := ?_) #[true, true, true, true, true, true, true, true, true, false, false] rfl rfl (Q4 HT_.out HW_.out (by kernel_rfl)) (fun _ _ _ h => h) (Or.inl ⟨by rfl, ?_⟩) hHeld ?_ ?_; rotate_left
      ·rintro w' ⟨s0, s1, s2, s3, s4, s5⟩; go_simp; with_reducible rfl
      rotate_left
      ·simp only [Act.put, zA, zB, zC, Qw, Qx]; rfl
      refine QS (i := 9) (N := some 29) (v := ?_) (a' := ?_) #[true, true, true, true, true, true, true, true, true, true, false] rfl rfl (QI HT_.out (by kernel_rfl)) (fun _ _ _ h => h) (Or.inl ⟨by rfl, ?_⟩) ?_ ?_; rotate_left
      ·intro w'; go_simp; with_reducible rfl
      rotate_left
      ·simp only [Act.put, zA, zB, zC, Qw, Qx]; rfl
      refine QS (i := 10) (N := some 30) (v := ?_) (a' := ?_) #[true, true, true, true, true, true, true, true, true, true, true] rfl rfl (QI HT_.out (by kernel_rfl)) (fun _ _ _ h => h) (Or.inl ⟨by rfl, ?_⟩) ?_ ?_; rotate_left
      ·intro w'; go_simp; with_reducible rfl
      rotate_left
      ·simp only [Act.put, zA, zB, zC, Qw, Qx]; rfl
      refine YA (Yf HT_.out (by kernel_rfl)) ?_; have oh : w66.cell? ⟨az, 0, none⟩ = some (.slice none 0 0) := (Qa aA.out 0).trans rfl; have og : w66.cell? ⟨az, 1, none⟩ = some (.slice none 0 0) := (Qa aA.out 1).trans rfl; have nV := Qb aA.out 0; have nU := Qb aA.out 1; try go_wp2
      refine bodyPost_ret (Yi rfl _ _ az 24 #[.slice none 0 0, .slice none 0 0] (0, 0) _ rfl (by (with_reducible repeat (first | refine Qg ?_ _ | refine Qh ?_ | refine Qf ?_ _)); refine ZC (cs := #[.slice none 0 0, .slice none 0 0]) ?_ 1 _ rfl; (with_reducible repeat (first | refine Qg ?_ _ | refine Qh ?_ | refine Qf ?_ _)); refine ZC (cs := #[.slice none 0 0, .slice none 0 0]) ?_ 0 _ rfl; (with_reducible repeat (first | refine Qg ?_ _ | refine Qh ?_ | refine Qf ?_ _)); exact aA.out) Try.underlying24 rfl (by kernel_rfl)) rfl ?_; exact ⟨_, _, by first | rfl | (simp [Qo, Qn] <;> rfl) | (simp [*, Qo, Qn] <;> rfl), by first | exact Kd.Yj _ _ _ _ _ | exact Kd.Yh _ _ _ _ _ | exact Kd.V_nil _ _ _ _ _ | exact Kd.Q_nil _ _ _ _ _ | exact Kd.Yb _ _ _ _ _, by first | exact Kd.Yj _ _ _ _ _ | exact Kd.Yh _ _ _ _ _ | exact Kd.V_nil _ _ _ _ _ | exact Kd.Q_nil _ _ _ _ _ | exact Kd.Yb _ _ _ _ _, bB⟩
    ·rw [if_neg c8] at H; exact absurd H (by simp)
   ·rw [if_neg c7] at H; exact absurd H (by simp)
  ·rw [if_neg c6] at H; have gZ : (t105 == 0) = false := beq_eq_false_iff_ne.mpr c6; have jV : (t105 != 0) = true := bne_iff_ne.mpr c6; simp only [Option.some.injEq, Prod.mk.injEq] at H; obtain ⟨rfl, rfl, rfl⟩ := H; go_enter Try.func68, Try.ntmps68; go_wp2_with (first | ((with_reducible refine QD (N := 2) rfl ?_); (try (refine Q8 (by rfl) ?_; dsimp only)); refine QJ ?hg (N := 2) ?hd (cs := #[.slice aq ae.length an, .slice ak ag.length ao]) (t := 24) ?hr ?_; (case hd => rfl); (case hg => rfl); (case hr => first | (go_simp; done) | (go_simp; rfl)); intro af hg w68 hbox hb; have ab := aa.mk (hbox); have bA := aa.mk ((by rw [hg]; exact (Qe bB) : w.heap.size ≤ af)); have bk := aa.mk ((by rw [hg]; exact (Qe bB) : w.heap.size ≤ af)); replace HB := aa.mk (Qd bB hb); clear hb hbox hg) | ((with_reducible refine QD (N := 3) rfl ?_); (try (refine Q8 (by rfl) ?_; dsimp only)); refine QJ ?hg (N := 3) ?hd (cs := #[.slice aY av.length aZ, .slice aV aw.length bc]) (t := 24) ?hr ?_; (case hd => rfl); (case hg => rfl); (case hr => first | (go_simp; done) | (go_simp; rfl)); intro al hg w69 hbox hb; have ah := aa.mk (hbox); have fo := aa.mk ((by rw [hg]; exact (Qe bB) : w.heap.size ≤ al)); have e0 := aa.mk ((by rw [hg]; exact (Qe bB) : w.heap.size ≤ al)); replace HB := aa.mk (Qd bB hb); have aM := aa.mk ((by rw [hg]; exact Nat.ne_of_lt (Q7 (g := af) (o := .cells #[.slice aq ae.length an, .slice ak ag.length ao] 24 (0, 0)) (by (with_reducible repeat (first | refine Qg ?_ _ | refine Qh ?_ | refine Qf ?_ _)); exact ab.out)) : af ≠ al)); have aK := aa.mk ((by rw [hg]; exact Nat.ne_of_gt (Q7 (g := af) (o := .cells #[.slice aq ae.length an, .slice ak ag.length ao] 24 (0, 0)) (by (with_reducible repeat (first | refine Qg ?_ _ | refine Qh ?_ | refine Qf ?_ _)); exact ab.out)) : al ≠ af)); replace ab := aa.mk (Qc ab.out hb); clear hb hbox hg) | ((with_reducible refine QD (N := 4) rfl ?_); (try (refine Q8 (by rfl) ?_; dsimp only)); refine QJ ?hg (N := 4) ?hd (cs := #[.slice none 0 0, .slice none 0 0]) (t := 24) ?hr ?_; (case hd => rfl); (case hg => rfl); (case hr => first | (go_simp; done) | (go_simp; rfl)); intro az hg w70 hbox hb; have aA := aa.mk (hbox); have kU := aa.mk ((by rw [hg]; exact (Qe bB) : w.heap.size ≤ az)); have jN := aa.mk ((by rw [hg]; exact (Qe bB) : w.heap.size ≤ az)); replace HB := aa.mk (Qd bB hb); have a9 := aa.mk ((by rw [hg]; exact Nat.ne_of_lt (Q7 (g := af) (o := .cells #[.slice aq ae.length an, .slice ak ag.length ao] 24 (0, 0)) (by (with_reducible repeat (first | refine Qg ?_ _ | refine Qh ?_ | refine Qf ?_ _)); exact ab.out)) : af ≠ az)); have bu := aa.mk ((by rw [hg]; exact Nat.ne_of_gt (Q7 (g := af) (o := .cells #[.slice aq ae.length an, .slice ak ag.length ao] 24 (0, 0)) (by (with_reducible repeat (first | refine Qg ?_ _ | refine Qh ?_ | refine Qf ?_ _)); exact ab.out)) : az ≠ af)); replace ab := aa.mk (Qc ab.out hb); have a8 := aa.mk ((by rw [hg]; exact Nat.ne_of_lt (Q7 (g := al) (o := .cells #[.slice aY av.length aZ, .slice aV aw.length bc] 24 (0, 0)) (by (with_reducible repeat (first | refine Qg ?_ _ | refine Qh ?_ | refine Qf ?_ _)); exact ah.out)) : al ≠ az)); have bt := aa.mk ((by rw [hg]; exact Nat.ne_of_gt (Q7 (g := al) (o := .cells #[.slice aY av.length aZ, .slice aV aw.length bc] 24 (0, 0)) (by (with_reducible repeat (first | refine Qg ?_ _ | refine Qh ?_ | refine Qf ?_ _)); exact ah.out)) : az ≠ al)); replace ah := aa.mk (Qc ah.out hb); clear hb hbox hg; have sa := aM.out; have rZ := aK.out; have uT := a9.out; have uC := bu.out; have rb : w70.cell? ⟨af, 0, none⟩ = some (.slice aq ae.length an) := (Qa ab.out 0).trans rfl; have ra : w70.cell? ⟨af, 1, none⟩ = some (.slice ak ag.length ao) := (Qa ab.out 1).trans rfl; have qH := Qb ab.out 0; have qG := Qb ab.out 1) | ((with_reducible refine Qk (f := 38) rfl ?_); refine QE (some 9) rfl rfl Try.func38 (by kernel_rfl) rfl #[.agg #[.slice aq ae.length an, .slice ak ag.length ao]] rfl hA ?_; (with_reducible refine (Qm.calls k _ _ ae _ _ ag t104 _ ?aj ?ai ?au ?ar A3.out).mono ?_); (case aj => exact (Kd.Ql aI.out HB.out)); (case ai => exact aQ.out); (case au => exact (Kd.Ql aW.out HB.out)); (case ar => exact aT.out); rintro e w74 ⟨rfl, hb⟩; refine ⟨_, rfl, ?_⟩; replace ab := aa.mk (Qc ab.out hb); replace ah := aa.mk (Qc ah.out hb); replace aA := aa.mk (Qc aA.out hb); replace HB := aa.mk (Qd bB hb); (try clear hb); (try clear hb2); (try clear hk); (try clear hi); have uR := a8.out; have uA := bt.out; have q7 : w74.cell? ⟨al, 0, none⟩ = some (.slice aY av.length aZ) := (Qa ah.out 0).trans rfl; have q6 : w74.cell? ⟨al, 1, none⟩ = some (.slice aV aw.length bc) := (Qa ah.out 1).trans rfl; have qD := Qb ah.out 0; have qC := Qb ah.out 1) | ((with_reducible refine Qk (f := 38) rfl ?_); refine QE (some 15) rfl rfl Try.func38 (by kernel_rfl) rfl #[.agg #[.slice aY av.length aZ, .slice aV aw.length bc]] rfl hA ?_; (with_reducible refine (Qm.calls k _ _ av _ _ aw t105 _ ?aj ?ai ?au ?ar A5.out).mono ?_); (case aj => exact (Kd.Ql cF.out HB.out)); (case ai => exact cm.out); (case au => exact (Kd.Ql cW.out HB.out)); (case ar => exact cw.out); rintro e w77 ⟨rfl, hb⟩; refine ⟨_, rfl, ?_⟩; replace ab := aa.mk (Qc ab.out hb); replace ah := aa.mk (Qc ah.out hb); replace aA := aa.mk (Qc aA.out hb); replace HB := aa.mk (Qd bB hb); (try clear hb); (try clear hb2); (try clear hk); (try clear hi); have q5 : w77.cell? ⟨az, 0, none⟩ = some (.slice none 0 0) := (Qa aA.out 0).trans rfl; have q4 : w77.cell? ⟨az, 1, none⟩ = some (.slice none 0 0) := (Qa aA.out 1).trans rfl; have qB := Qb aA.out 0; have qA := Qb aA.out 1))
   refine bodyPost_ret (Yi rfl _ _ az 24 #[.slice none 0 0, .slice none 0 0] (0, 0) _ rfl (by (with_reducible repeat (first | refine Qg ?_ _ | refine Qh ?_ | refine Qf ?_ _)); refine ZC (cs := #[.slice none 0 0, .slice none 0 0]) ?_ 1 _ rfl; (with_reducible repeat (first | refine Qg ?_ _ | refine Qh ?_ | refine Qf ?_ _)); refine ZC (cs := #[.slice none 0 0, .slice none 0 0]) ?_ 0 _ rfl; (with_reducible repeat (first | refine Qg ?_ _ | refine Qh ?_ | refine Qf ?_ _)); exact aA.out) Try.underlying24 rfl (by kernel_rfl)) rfl ?_; exact ⟨_, _, by first | rfl | (simp [Qo, Qn] <;> rfl) | (simp [*, Qo, Qn] <;> rfl), by first | exact Kd.Yj _ _ _ _ _ | exact Kd.Yh _ _ _ _ _ | exact Kd.V_nil _ _ _ _ _ | exact Kd.Q_nil _ _ _ _ _ | exact Kd.Yb _ _ _ _ _, by first | exact Kd.Yj _ _ _ _ _ | exact Kd.Yh _ _ _ _ _ | exact Kd.V_nil _ _ _ _ _ | exact Kd.Q_nil _ _ _ _ _ | exact Kd.Yb _ _ _ _ _, bB⟩
 ·rw [if_neg c4] at H; have cn : (t104 == 0) = false := beq_eq_false_iff_ne.mpr c4; have eC : (t104 != 0) = true := bne_iff_ne.mpr c4; simp only [Option.some.injEq, Prod.mk.injEq] at H; obtain ⟨rfl, rfl, rfl⟩ := H; go_enter Try.func68, Try.ntmps68; go_wp2_with (first | ((with_reducible refine QD (N := 2) rfl ?_); (try (refine Q8 (by rfl) ?_; dsimp only)); refine QJ ?hg (N := 2) ?hd (cs := #[.slice aq ae.length an, .slice ak ag.length ao]) (t := 24) ?hr ?_; (case hd => rfl); (case hg => rfl); (case hr => first | (go_simp; done) | (go_simp; rfl)); intro af hg w79 hbox hb; have ab := aa.mk (hbox); have bA := aa.mk ((by rw [hg]; exact (Qe bB) : w.heap.size ≤ af)); have bk := aa.mk ((by rw [hg]; exact (Qe bB) : w.heap.size ≤ af)); replace HB := aa.mk (Qd bB hb); clear hb hbox hg) | ((with_reducible refine QD (N := 3) rfl ?_); (try (refine Q8 (by rfl) ?_; dsimp only)); refine QJ ?hg (N := 3) ?hd (cs := #[.slice aY av.length aZ, .slice aV aw.length bc]) (t := 24) ?hr ?_; (case hd => rfl); (case hg => rfl); (case hr => first | (go_simp; done) | (go_simp; rfl)); intro al hg w80 hbox hb; have ah := aa.mk (hbox); have fo := aa.mk ((by rw [hg]; exact (Qe bB) : w.heap.size ≤ al)); have e0 := aa.mk ((by rw [hg]; exact (Qe bB) : w.heap.size ≤ al)); replace HB := aa.mk (Qd bB hb); have aM := aa.mk ((by rw [hg]; exact Nat.ne_of_lt (Q7 (g := af) (o := .cells #[.slice aq ae.length an, .slice ak ag.length ao] 24 (0, 0)) (by (with_reducible repeat (first | refine Qg ?_ _ | refine Qh ?_ | refine Qf ?_ _)); exact ab.out)) : af ≠ al)); have aK := aa.mk ((by rw [hg]; exact Nat.ne_of_gt (Q7 (g := af) (o := .cells #[.slice aq ae.length an, .slice ak ag.length ao] 24 (0, 0)) (by (with_reducible repeat (first | refine Qg ?_ _ | refine Qh ?_ | refine Qf ?_ _)); exact ab.out)) : al ≠ af)); replace ab := aa.mk (Qc ab.out hb); clear hb hbox hg) | ((with_reducible refine QD (N := 4) rfl ?_); (try (refine Q8 (by rfl) ?_; dsimp only)); refine QJ ?hg (N := 4) ?hd (cs := #[.slice none 0 0, .slice none 0 0]) (t := 24) ?hr ?_; (case hd => rfl); (case hg => rfl); (case hr => first | (go_simp; done) | (go_simp; rfl)); intro az hg w81 hbox hb; have aA := aa.mk (hbox); have kU := aa.mk ((by rw [hg]; exact (Qe bB) : w.heap.size ≤ az)); have jN := aa.mk ((by rw [hg]; exact (Qe bB) : w.heap.size ≤ az)); replace HB := aa.mk (Qd bB hb); have a9 := aa.mk ((by rw [hg]; exact Nat.ne_of_lt (Q7 (g := af) (o := .cells #[.slice aq ae.length an, .slice ak ag.length ao] 24 (0, 0)) (by (with_reducible repeat (first | refine Qg ?_ _ | refine Qh ?_ | refine Qf ?_ _)); exact ab.out)) : af ≠ az)); have bu := aa.mk ((by rw [hg]; exact Nat.ne_of_gt (Q7 (g := af) (o := .cells #[.slice aq ae.length an, .slice ak ag.length ao] 24 (0, 0)) (by (with_reducible repeat (first | refine Qg ?_ _ | refine Qh ?_ | refine Qf ?_ _)); exact ab.out)) : az ≠ af)); replace ab := aa.mk (Qc ab.out hb); have a8 := aa.mk ((by rw [hg]; exact Nat.ne_of_lt (Q7 (g := al) (o := .cells #[.slice aY av.length aZ, .slice aV aw.length bc] 24 (0, 0)) (by (with_reducible repeat (first | refine Qg ?_ _ | refine Qh ?_ | refine Qf ?_ _)); exact ah.out)) : al ≠ az)); have bt := aa.mk ((by rw [hg]; exact Nat.ne_of_gt (Q7 (g := al) (o := .cells #[.slice aY av.length aZ, .slice aV aw.length bc] 24 (0, 0)) (by (with_reducible repeat (first | refine Qg ?_ _ | refine Qh ?_ | refine Qf ?_ _)); exact ah.out)) : az ≠ al)); replace ah := aa.mk (Qc ah.out hb); clear hb hbox hg; have uQ := aM.out; have uz := aK.out; have r9 := a9.out; have rY := bu.out; have oe : w81.cell? ⟨af, 0, none⟩ = some (.slice aq ae.length an) := (Qa ab.out 0).trans rfl; have od : w81.cell? ⟨af, 1, none⟩ = some (.slice ak ag.length ao) := (Qa ab.out 1).trans rfl; have nT := Qb ab.out 0; have nS := Qb ab.out 1) | ((with_reducible refine Qk (f := 38) rfl ?_); refine QE (some 9) rfl rfl Try.func38 (by kernel_rfl) rfl #[.agg #[.slice aq ae.length an, .slice ak ag.length ao]] rfl hA ?_; (with_reducible refine (Qm.calls k _ _ ae _ _ ag t104 _ ?aj ?ai ?au ?ar A3.out).mono ?_); (case aj => exact (Kd.Ql aI.out HB.out)); (case ai => exact aQ.out); (case au => exact (Kd.Ql aW.out HB.out)); (case ar => exact aT.out); rintro e w85 ⟨rfl, hb⟩; refine ⟨_, rfl, ?_⟩; replace ab := aa.mk (Qc ab.out hb); replace ah := aa.mk (Qc ah.out hb); replace aA := aa.mk (Qc aA.out hb); replace HB := aa.mk (Qd bB hb); (try clear hb); (try clear hb2); (try clear hk); (try clear hi); have uP := bt.out; have uy := a8.out; have qX : w85.cell? ⟨az, 0, none⟩ = some (.slice none 0 0) := (Qa aA.out 0).trans rfl; have qW : w85.cell? ⟨az, 1, none⟩ = some (.slice none 0 0) := (Qa aA.out 1).trans rfl; have qx := Qb aA.out 0; have qw := Qb aA.out 1))
  refine bodyPost_ret (Yi rfl _ _ az 24 #[.slice none 0 0, .slice none 0 0] (0, 0) _ rfl (by (with_reducible repeat (first | refine Qg ?_ _ | refine Qh ?_ | refine Qf ?_ _)); refine ZC (cs := #[.slice none 0 0, .slice none 0 0]) ?_ 1 _ rfl; (with_reducible repeat (first | refine Qg ?_ _ | refine Qh ?_ | refine Qf ?_ _)); refine ZC (cs := #[.slice none 0 0, .slice none 0 0]) ?_ 0 _ rfl; (with_reducible repeat (first | refine Qg ?_ _ | refine Qh ?_ | refine Qf ?_ _)); exact aA.out) Try.underlying24 rfl (by kernel_rfl)) rfl ?_; exact ⟨_, _, by first | rfl | (simp [Qo, Qn] <;> rfl) | (simp [*, Qo, Qn] <;> rfl), by first | exact Kd.Yj _ _ _ _ _ | exact Kd.Yh _ _ _ _ _ | exact Kd.V_nil _ _ _ _ _ | exact Kd.Q_nil _ _ _ _ _ | exact Kd.Yb _ _ _ _ _, by first | exact Kd.Yj _ _ _ _ _ | exact Kd.Yh _ _ _ _ _ | exact Kd.V_nil _ _ _ _ _ | exact Kd.Q_nil _ _ _ _ _ | exact Kd.Yb _ _ _ _ _, bB⟩
end Go.Proofs.Ytdneelgnmnpanaa.P
end
section
namespace Go.Proofs.Ytdneelgnmnpanaa.P
open Go.RowKit Go.Proofs.YtdneelgnmnpanaaW.PrintWords
def lineAt (M : List (List Int)) (k : Nat) : List Int := M.getD k []
def cmb (p q : Int) (r t : List Int) : List Int := List.zipWith (fun a b => a * p - b * q) r t
def Okc (p q : Int) (r t : List Int) : Prop := (∀ a ∈ r, (a * p).natAbs ≤ 2305843009213693952) ∧ (∀ b ∈ t, (b * q).natAbs ≤ 2305843009213693952)
instance (p q : Int) (r t : List Int) : Decidable (Okc p q r t) := by unfold Okc; infer_instance
def elim (i top j : Nat) (M : List (List Int)) : Option (List (List Int)) :=
  if j = top ∨ (lineAt M j).getD i 0 = 0 then some M
  else if Okc ((lineAt M top).getD i 0) ((lineAt M j).getD i 0) (lineAt M j) (lineAt M top) then some (M.set j (pln (cmb ((lineAt M top).getD i 0) ((lineAt M j).getD i 0) (lineAt M j) (lineAt M top))))
  else none
def elims (i top : Nat) : Nat → Nat → List (List Int) → Option (List (List Int))
  | 0, _, M => some M
  | d + 1, j, M => (elim i top j M).bind (elims i top d (j + 1))
def swp (M : List (List Int)) (a b : Nat) : List (List Int) := (M.set a (lineAt M b)).set b (lineAt M a)
def stepc (i : Nat) (M : List (List Int)) (P : List Int) : Option (List (List Int) × List Int) :=
  if fst i (M.drop P.length) < 0 then some (M, P)
  else (elims i P.length M.length 0 (swp M P.length (P.length + (fst i (M.drop P.length)).toNat))).bind fun M' => some (M', P ++ [(i : Int)])
def redc : Nat → Nat → List (List Int) → List Int → Option (List (List Int) × List Int)
  | 0, _, M, P => some (M, P)
  | d + 1, i, M, P => (stepc i M P).bind fun x => redc d (i + 1) x.1 x.2
def red (M : List (List Int)) : Option (List (List Int) × List Int) := redc 6 0 M []
theorem fst_lt (i : Nat) : ∀ (rows : List (List Int)), fst i rows < rows.length
  | [] => by simp [fst]
  | r :: l => by
    have := fst_lt i l; rw [fst]; split
    · rw [List.length_cons]; omega
    · split <;> rw [List.length_cons] <;> omega
theorem Y4 (p q : Int) (r t : List Int) (h : r.length = t.length) : (cmb p q r t).length = r.length := by simp [cmb, h]
theorem YM (m : List Int) : (pln m).length = m.length := by unfold pln; split <;> simp
theorem cmb_lim {p q : Int} {r t : List Int} (h : Okc p q r t) : ∀ x ∈ cmb p q r t, Lim x := by
  intro x hx; obtain ⟨i, hi, rfl⟩ := List.mem_iff_getElem.1 hx; unfold cmb at hi ⊢; rw [List.length_zipWith] at hi; rw [List.getElem_zipWith]; have h1 := h.1 _ (List.getElem_mem (show i < r.length by omega)); have h2 := h.2 _ (List.getElem_mem (show i < t.length by omega)); unfold Lim; omega
theorem Z2 (M : List (List Int)) (k : Nat) (h : k < M.length) : lineAt M k = M[k] := rowD M k h
theorem Y0 (M : List (List Int)) (a b : Nat) : (swp M a b).length = M.length := by simp [swp]
end Go.Proofs.Ytdneelgnmnpanaa.P
end
section
namespace Go.Proofs.Ytdneelgnmnpanaa.P
open Go.RowKit Go.Proofs.YtdneelgnmnpanaaW.PrintWords Go.Proofs.YtdneelgnmnpanaaW.PrintLast Go.Proofs.YtdneelgnmnpanaaW.PrintMore
theorem Ys (g : Nat) : ∀ (vs : List Value) (o : Nat) (w : World), (∀ k, k ≠ g → (w.setCells g o vs).heap[k]? = w.heap[k]?) ∧ (w.setCells g o vs).heap.size = w.heap.size
 | [], _, _ => ⟨fun _ _ => rfl, rfl⟩
 | v :: r, o, w => by
  obtain ⟨h1, h2⟩ := Ys g r (o + 1) (w.setCell ⟨g, o, none⟩ v); rw [World.setCells]; exact ⟨fun k hk => (h1 k hk).trans (heap_setCell_other w _ k v hk), by rw [h2]; simp⟩
theorem Yw {B g : Nat} (hg : B ≤ g) {w0 : World} : ∀ (vs : List Value) (o : Nat) (w : World), Below B w0 w → Below B w0 (w.setCells g o vs)
 | [], _, _, h => h
 | v :: r, o, w, h => by
  rw [World.setCells]; exact Yw hg r (o + 1) _ (h.setCell hg v)
set_option maxHeartbeats 8000000 in
set_option maxRecDepth 100000 in
theorem UP (A0 : Option Addr) (c0 : Nat) (l0 : List S76) (Mf : List (List Int)) (Pf : List Int) (w : World) (hr0 : Kd.C k76 w A0 l0.length l0) (hc0 : l0.length ≤ c0) (hne : 0 < l0.length) (hlen : l0.length < 1000) (h : red (l0.map L6) = some (Mf, Pf)) :
  Calls Try.prog 111 #[.slice A0 l0.length c0] w fun e w' => ∃ v0_ v1_ : Value, e = .returned (.tuple #[v0_, v1_]) ∧ Kd.R k76 76 w' w.heap.size (fun _ => True) v0_ ((Mf.take Pf.length).map mk6) ∧ Kd.R (Kd.int .i64) 3 w' w.heap.size (fun k => some k ≠ v0_.ownBlock) v1_ Pf ∧ Below w.heap.size w w' := by
 have mI := Try.underlying76; have pa := Try.underlying65; have sZ := Try.underlying28; have hu3 := Try.underlying3; have mJ := size76; have HR0 := aa.mk hr0; have HC0 := aa.mk hc0; have HCL := aa.mk (show Yg.f l0 = some l0 by unfold Yg.f; rw [if_pos hlen]); have HNE := aa.mk hne; have HLEN := aa.mk hlen; have HRED := aa.mk h; obtain ⟨n, hn⟩ : ∃ n, n = l0.length := ⟨_, rfl⟩; have HN := aa.mk hn; clear hr0 hc0 h hn; have HB := aa.mk (Below.refl w.heap.size w); go_enter Try.func111, Try.ntmps111; go_wp2_with (first
  | ((with_reducible refine Qk (f := 108) rfl ?_); refine QE (some 13) rfl rfl Try.func108 (by kernel_rfl) rfl #[.slice A0 l0.length c0] rfl (by (try simp only [List.map_toArray, List.map_cons, List.map_nil]); first | done | rfl) ?_; (with_reducible refine (Yg.calls A0 c0 l0 l0 _ (Kd.Ql HR0.out HB.out) HC0.out HCL.out).mono ?_); rintro e w9 ⟨v9, rfl, ho, hb⟩; refine ⟨_, rfl, ?_⟩; obtain ⟨g, c, hv, hgw, -, hbl, hlc, hcm⟩ := (Bl.of_R ho).resolve_left (fun hh => absurd (congrArg List.length hh.2) (by have := HNE.out; simp only [List.length_nil]; omega)); subst hv; have HBL := aa.mk hbl; have HCM := aa.mk hcm; have HGW := aa.mk hgw; have HLC := aa.mk hlc; have n0_ := aa.mk (Qd HB.out hb); clear HB hbl hcm hgw hlc ho hb; have HB := n0_; clear n0_))
 rw [← HN.out] at HLC; rw [← HN.out]; have HM := aa.mk (show (l0.map L6).length = n by rw [List.length_map, HN.out]); have HRC := aa.mk (show redc (6 - 0) 0 (l0.map L6) [] = some (Mf, Pf) from HRED.out); have HO := aa.mk (show Kd.R (Kd.int .i64) 3 w9 w.heap.size (fun k => k ≠ g) (.slice none 0 0) ([] : List Int) from Kd.Yb _ _ _ _ _); have HPL := aa.mk (show ([] : List Int).length ≤ n from Nat.zero_le _); have HPI := aa.mk (show ([] : List Int).length ≤ 0 from Nat.le_refl _); generalize l0.map L6 = M at HBL HM HRC; generalize ([] : List Int) = P at HRC HO HPL HPI; clear HRED HCL HR0 HC0; go_loopw [4, 14] (fun p_ i_ w' => ∃ (i : Nat) (M : List (List Int)) (P : List Int), i ≤ 6 ∧ i_ = .int .i64 i ∧ aa (redc (6 - i) i M P = some (Mf, Pf)) ∧ aa (Bl w' g M c) ∧ aa (M.length = n) ∧ aa (P.length ≤ n) ∧ aa (P.length ≤ i) ∧ aa (Kd.R (Kd.int .i64) 3 w' w.heap.size (fun k => k ≠ g) p_ P) ∧ aa (Below w.heap.size w w')) (fun _ i_ _ => 6 - (intOf i_).toNat)
 case atStart => exact ⟨0, M, P, by omega, rfl, HRC, HBL, HM, HPL, HPI, HO, HB⟩
 case round =>
  clear HRC HBL HM HPL HPI HO HB M P; obtain ⟨i, M, P, hi, rfl, HRC, HBL, HM, HPL, HPI, HO, HB⟩ := hrel; by_cases hi6 : i < 6
  ·have CE : n < 1000 := by have := HLEN.out; have := HN.out; omega
   obtain ⟨Ap, cp, ep⟩ := Kd.Zs HO.out; subst ep; have htn := HPL.out; have hlc := HLC.out; obtain ⟨kk, hkk⟩ : ∃ kk, kk = fst i (M.drop P.length) := ⟨_, rfl⟩; have HKK := aa.mk hkk; have hrl : (M.drop P.length).length = n - P.length := by rw [List.length_drop, HM.out]
   have hflt := fst_lt i (M.drop P.length); rw [← hkk, hrl] at hflt; have hrc := HRC.out; rw [show 6 - i = (6 - (i + 1)) + 1 by omega, redc] at hrc; have HS := aa.mk hrc; have hrd : Rd (wr.alloc (.cells #[.int .i64 (i : Int)] 3)) (some ⟨g, P.length * 6, none⟩) (M.drop P.length) := fun _ => ⟨g, P.length * 6, rfl, fun q r hq => by
    rw [List.getElem?_drop] at hq; obtain ⟨hq1, hq2⟩ := List.getElem?_eq_some_iff.1 hq; have hbl := HBL.out.alloc (.cells #[.int .i64 (i : Int)] 3); refine ⟨hq2 ▸ hbl.1.at hq1, ?_⟩; have := hbl.range hq1; rw [hq2, Nat.add_mul] at this; exact this⟩
   have hcell : (wr.alloc (.cells #[.int .i64 (i : Int)] 3)).cell? ⟨wr.heap.size, 0, none⟩ = some (.int .i64 (i : Int)) := (Qa (YK wr _) 0).trans rfl; clear hrc HRC hkk; by_cases hct : c = P.length
   ·have hr0 : M.drop P.length = [] := List.eq_nil_of_length_eq_zero (by rw [hrl]; omega); have hy := Ut (some ⟨g, 0, none⟩) (c - P.length) (M.drop P.length) i wr.heap.size _ (fun hne => absurd hr0 hne) (by rw [hrl]; have := HLEN.out; have := HN.out; omega) (by rw [hrl]; omega) hi6 hcell; rw [hrl, ← HKK.out, show c - P.length = 0 by omega, show n - P.length = 0 by omega] at hy; have HY := aa.mk hy; have hk0 : decide (kk < 0) = true := decide_eq_true (by omega); have HS2 := aa.mk (show redc (6 - (i + 1)) (i + 1) M P = some (Mf, Pf) by
     have := HS.out; unfold stepc at this; rw [← HKK.out, if_pos (by omega)] at this; exact this)
    clear hy hrd hcell HS hr0 HKK; subst hct; go_wp2_with (first | ((with_reducible refine Qk (f := 126) rfl ?_); refine QE (some 23) rfl rfl Try.func126 (by kernel_rfl) rfl #[.slice (some ⟨g, 0, none⟩) 0 0, .func (.func 127) #[] #[.pointer (some ⟨wr.heap.size, 0, none⟩)]] rfl (by (try simp only [List.map_toArray, List.map_cons, List.map_nil]); first | done | rfl) ?_; (with_reducible refine HY.out.mono ?_); rintro e w10 ⟨rfl, hb⟩; refine ⟨_, rfl, ?_⟩; have hbx := Qd ((Below.refl wr.heap.size wr).alloc (Nat.le_refl _) (.cells #[.int .i64 (i : Int)] 3)) hb; have n0_ := aa.mk (HBL.out.below hbx); have n1_ := aa.mk (Kd.Zq HO.out hbx); have n2_ := aa.mk (Qd HB.out hbx); have HBX := aa.mk (Qc (YK wr (.cells #[.int .i64 (i : Int)] 3)) hb); have tK := aa.mk (show wr.heap.size ≤ w10.heap.size from hbx.size); clear HBL HO HB hb hbx; have HBL := n0_; have HO := n1_; have HB := n2_; clear n0_ n1_ n2_))
    go_roundw
    case rel => exact ⟨i + 1, M, P, by omega, by go_num, HS2, HBL, HM, HPL, ⟨by have := HPI.out; omega⟩, HO, HB⟩
    case measure => simp [intOf]; omega
   ·have hy := Ut (some ⟨g, P.length * 6, none⟩) (c - P.length) (M.drop P.length) i wr.heap.size _ hrd (by rw [hrl]; have := HLEN.out; have := HN.out; omega) (by rw [hrl]; omega) hi6 hcell; rw [hrl, ← HKK.out] at hy; have HY := aa.mk hy; by_cases hk : kk < 0
    ·have hk0 : decide (kk < 0) = true := decide_eq_true hk; have HS2 := aa.mk (show redc (6 - (i + 1)) (i + 1) M P = some (Mf, Pf) by
      have := HS.out; unfold stepc at this; rw [← HKK.out, if_pos hk] at this; exact this)
     clear hy hrd hcell HS HKK; go_wp2_with (first | ((with_reducible refine Qk (f := 126) rfl ?_); refine QE (some 23) rfl rfl Try.func126 (by kernel_rfl) rfl #[.slice (some ⟨g, P.length * 6, none⟩) (n - P.length) (c - P.length), .func (.func 127) #[] #[.pointer (some ⟨wr.heap.size, 0, none⟩)]] rfl (by (try simp only [List.map_toArray, List.map_cons, List.map_nil]); first | done | rfl) ?_; (with_reducible refine HY.out.mono ?_); rintro e w10 ⟨rfl, hb⟩; refine ⟨_, rfl, ?_⟩; have hbx := Qd ((Below.refl wr.heap.size wr).alloc (Nat.le_refl _) (.cells #[.int .i64 (i : Int)] 3)) hb; have n0_ := aa.mk (HBL.out.below hbx); have n1_ := aa.mk (Kd.Zq HO.out hbx); have n2_ := aa.mk (Qd HB.out hbx); have HBX := aa.mk (Qc (YK wr (.cells #[.int .i64 (i : Int)] 3)) hb); have tK := aa.mk (show wr.heap.size ≤ w10.heap.size from hbx.size); clear HBL HO HB hb hbx; have HBL := n0_; have HO := n1_; have HB := n2_; clear n0_ n1_ n2_))
     go_roundw
     case rel => exact ⟨i + 1, M, P, by omega, by go_num, HS2, HBL, HM, HPL, ⟨by have := HPI.out; omega⟩, HO, HB⟩
     case measure => simp [intOf]; omega
    ·obtain ⟨kn, hkn⟩ := Int.eq_ofNat_of_zero_le (show 0 ≤ kk by omega); subst hkn; have hk0 : decide ((kn : Int) < 0) = false := decide_eq_false hk; have ha : P.length < M.length := by rw [HM.out]; omega
     have hb' : P.length + kn < M.length := by rw [HM.out]; omega
     obtain ⟨M1, hM1, hs2⟩ : ∃ M1, elims i P.length M.length 0 (swp M P.length (P.length + kn)) = some M1 ∧ redc (6 - (i + 1)) (i + 1) M1 (P ++ [(i : Int)]) = some (Mf, Pf) := by
      have := HS.out; unfold stepc at this; rw [← HKK.out, if_neg hk, Int.toNat_natCast] at this; obtain ⟨x, hx1, hx2⟩ := Option.bind_eq_some_iff.1 this; obtain ⟨M1, hM1, hx⟩ := Option.bind_eq_some_iff.1 hx1; obtain rfl := Option.some.inj hx; exact ⟨M1, hM1, hx2⟩
     have HNG := aa.mk (show wr.heap.size ≠ g from by have := HBL.out.lt; omega); have HWR := aa.mk (show wrap64 ((P.length : Int) + (kn : Int)) = ((P.length + kn : Nat) : Int) by rw [wrp (by omega) (by have := HLEN.out; have := HN.out; omega)]; omega); have HA := aa.mk ha; have HBB := aa.mk hb'; have HEL := aa.mk hM1; have HS2 := aa.mk hs2; clear hy hrd hcell HS HKK hM1 hs2 ha hb'; go_wp2_with (first
      | ((with_reducible refine Qk (f := 126) rfl ?_); refine QE (some 23) rfl rfl Try.func126 (by kernel_rfl) rfl #[.slice (some ⟨g, P.length * 6, none⟩) (n - P.length) (c - P.length), .func (.func 127) #[] #[.pointer (some ⟨wr.heap.size, 0, none⟩)]] rfl (by (try simp only [List.map_toArray, List.map_cons, List.map_nil]); first | done | rfl) ?_; (with_reducible refine HY.out.mono ?_); rintro e w10 ⟨rfl, hb⟩; refine ⟨_, rfl, ?_⟩; have hbx := Qd ((Below.refl wr.heap.size wr).alloc (Nat.le_refl _) (.cells #[.int .i64 (i : Int)] 3)) hb; have n0_ := aa.mk (HBL.out.below hbx); have n1_ := aa.mk (Kd.Zq HO.out hbx); have n2_ := aa.mk (Qd HB.out hbx); have HBX := aa.mk (Qc (YK wr (.cells #[.int .i64 (i : Int)] 3)) hb); have tK := aa.mk (show wr.heap.size ≤ w10.heap.size from hbx.size); clear HBL HO HB hb hbx; have HBL := n0_; have HO := n1_; have HB := n2_; clear n0_ n1_ n2_)
      | ((with_reducible refine Qk (f := 128) rfl ?_); refine QE (some 31) rfl rfl Try.func128 (by kernel_rfl) rfl #[.slice (some ⟨g, 0, none⟩) n c, .int .i64 (P.length : Int), .int .i64 ((P.length + kn : Nat) : Int)] rfl (by (try simp only [List.map_toArray, List.map_cons, List.map_nil]); first | done | rfl | (rw [← HWR.out]; done) | (rw [← HWR.out]; rfl)) ?_; (with_reducible refine (exch_calls g n c P.length (P.length + kn) M _ HBL.out HM.out.symm HA.out HBB.out HLC.out).mono ?_); rintro e w11 ⟨rfl, ur⟩; refine ⟨_, rfl, ?_⟩; have rH := aa.mk ur; clear ur))
     have hsix := HBL.out.1; have hb1 := (HBL.out.drew.stores HA.out (hsix.at HBB.out)).stores (by simpa using HBB.out) (hsix.at HA.out); rw [← rH.out] at hb1; have hh : ∀ k, k ≠ g → w11.heap[k]? = w10.heap[k]? := fun k hk_ => by rw [rH.out]; exact ((Ys g _ _ _).1 k hk_).trans ((Ys g _ _ _).1 k hk_)
     have rO := aa.mk hb1; have HO2 := aa.mk (Kd.VR HO.out (fun k hk_ _ => hh k hk_)); have rN := aa.mk ((hh _ HNG.out).trans HBX.out); have HB2 := aa.mk (show Below w.heap.size w w11 by rw [rH.out]; exact Yw HGW.out _ _ _ (Yw HGW.out _ _ _ (YD HB.out))); clear HBL HO HBX HB hb1 hh hsix rH; have HBL := rO; have HO := HO2; have HBX := rN; have HB := HB2; clear rO HO2 rN HB2; generalize hb5 : wr.heap.size = b5 at *; have HNB := aa.mk (show b5 ≠ g from HNG.out); have HM1 := aa.mk (show (swp M P.length (P.length + kn)).length = n by rw [Y0, HM.out]); have xW := aa.mk (show Bl w11 g (swp M P.length (P.length + kn)) c by
      have := HBL.out; unfold swp; rw [Z2 _ _ HA.out, Z2 _ _ HBB.out]; exact this)
     have xV := aa.mk (show elims i P.length (n - 0) 0 (swp M P.length (P.length + kn)) = some M1 by rw [← HEL.out, HM.out]; rfl); have HTN := aa.mk (show P.length < n by rw [← HM.out]; exact HA.out); have Dx := aa.mk (show P.length ≤ i from HPI.out); clear HBL HEL HA HBB hb5 HWR tK hk HY HM HPI; generalize swp M P.length (P.length + kn) = N at *; go_loopw [34] (fun j_ w' => ∃ (j : Nat) (N : List (List Int)), j ≤ n ∧ j_ = .int .i64 j ∧ aa (elims i P.length (n - j) j N = some M1) ∧ aa (Bl w' g N c) ∧ aa (N.length = n) ∧ aa (w'.heap[b5]? = some (.cells #[.int .i64 (i : Int)] 3 (0, 0))) ∧ aa (Kd.R (Kd.int .i64) 3 w' w.heap.size (fun k => k ≠ g) (.slice Ap P.length cp) P) ∧ aa (Below w.heap.size w w')) (fun j_ _ => n - (intOf j_).toNat)
     case atStart => exact ⟨0, N, Nat.zero_le _, rfl, xV, xW, HM1, HBX, HO, HB⟩
     case round =>
      clear xV xW HM1 HBX HO HB N; obtain ⟨j, N, hj, rfl, HEL, HBL, HM, HBX, HO, HB⟩ := hrel; by_cases hjn : j < n
      ·have hbx : wr.cell? ⟨b5, 0, none⟩ = some (.int .i64 (i : Int)) := (Qa HBX.out 0).trans rfl; have hjN : j < N.length := by rw [HM.out]; exact hjn
       have htN : P.length < N.length := by rw [HM.out]; exact HTN.out
       have hel := HEL.out; rw [show n - j = (n - (j + 1)) + 1 by omega, elims] at hel; unfold elim at hel; have HE2 := aa.mk hel; clear hel HEL; by_cases hjt : j = P.length
       ·have c1 : ((j : Int) == (P.length : Int)) = true := beq_iff_eq.mpr (by omega); have HE3 := aa.mk (show elims i P.length (n - (j + 1)) (j + 1) N = some M1 by
         have := HE2.out; rw [if_pos (Or.inl hjt)] at this; exact this)
        clear HE2 hjt; go_wp2_with fail
        go_quiet (fail)
        go_wp2_with fail
        go_roundw
        case rel => exact ⟨j + 1, N, by omega, by go_num, HE3, HBL, HM, HBX, HO, ⟨QF HB.out _⟩⟩
        case measure => simp [intOf]; omega
       ·have c1 : ((j : Int) == (P.length : Int)) = false := beq_eq_false_iff_ne.mpr (by omega); have hcj := HBL.out.cell hjN hi6; by_cases hz : N[j].getD i 0 = 0
        ·have HE3 := aa.mk (show elims i P.length (n - (j + 1)) (j + 1) N = some M1 by
          have := HE2.out; rw [if_pos (Or.inr (by rw [Z2 _ _ hjN]; exact hz))] at this; exact this)
         rw [hz] at hcj; clear HE2 hjt hz; go_wp2_with fail
         go_quiet (fail)
         go_wp2_with fail
         go_roundw
         case rel => exact ⟨j + 1, N, by omega, by go_num, HE3, HBL, HM, HBX, HO, ⟨QF HB.out _⟩⟩
         case measure => simp [intOf]; omega
        ·have hct' := HBL.out.cell htN hi6; obtain ⟨q, hq⟩ : ∃ q, q = N[j].getD i 0 := ⟨_, rfl⟩; obtain ⟨p, hp⟩ : ∃ p, p = N[P.length].getD i 0 := ⟨_, rfl⟩; have hj6 := HBL.out.1.at hjN; have ht6 := HBL.out.1.at htN; obtain ⟨hok, hel⟩ : Okc p q N[j] N[P.length] ∧ elims i P.length (n - (j + 1)) (j + 1) (N.set j (pln (cmb p q N[j] N[P.length]))) = some M1 := by
          have := HE2.out; rw [if_neg (by rw [Z2 _ _ hjN]; rintro (h1 | h1); exact hjt h1; exact hz h1), Z2 _ _ hjN, Z2 _ _ htN, ← hq, ← hp] at this; split at this
          ·rename_i h1
           exact ⟨h1, this⟩
          ·cases this
         have HOK := aa.mk hok; have HEL := aa.mk hel; have HJ6 := aa.mk hj6; have HT6 := aa.mk ht6; have HJT := aa.mk hjt; have HJN := aa.mk hjN; have HTL := aa.mk htN; rw [← hq] at hcj hz; rw [← hp] at hct'; have hq0 : (q == 0) = false := beq_eq_false_iff_ne.mpr hz; clear HE2 hjt hz hok hel hj6 ht6 hq hp; go_wp2_with fail
         go_quiet (fail)
         go_wp2_with fail
         go_quiet (fail)
         go_wp2_with fail
         have xX := aa.mk (show Bl wr g (N.set j ((cmb p q N[j] N[P.length]).take 0 ++ N[j].drop 0)) c by
          rw [List.take_zero, List.nil_append, List.drop_zero, List.set_getElem_self]; exact HBL.out)
         have HCL := aa.mk (show (cmb p q N[j] N[P.length]).length = 6 by rw [Y4 _ _ _ _ (by rw [HJ6.out, HT6.out]), HJ6.out]); clear HBL hcj hct'; go_loopw [61] (fun m_ w' => ∃ m : Nat, m ≤ 6 ∧ m_ = .int .i64 m ∧ aa (Bl w' g (N.set j ((cmb p q N[j] N[P.length]).take m ++ N[j].drop m)) c) ∧ aa (w'.heap[b5]? = some (.cells #[.int .i64 (i : Int)] 3 (0, 0))) ∧ aa (Kd.R (Kd.int .i64) 3 w' w.heap.size (fun k => k ≠ g) (.slice Ap P.length cp) P) ∧ aa (Below w.heap.size w w')) (fun m_ _ => 6 - (intOf m_).toNat)
         case atStart => exact ⟨0, by omega, rfl, ⟨xX.out⟩, ⟨HBX.out⟩, ⟨HO.out⟩, ⟨QF (QF HB.out _) _⟩⟩
         case round =>
          clear xX HBX HO HB; obtain ⟨m, hm, rfl, HBL, HBX, HO, HB⟩ := hrel; have hjS : j < (N.set j ((cmb p q N[j] N[P.length]).take m ++ N[j].drop m)).length := by simpa using hjN
          have htS : P.length < (N.set j ((cmb p q N[j] N[P.length]).take m ++ N[j].drop m)).length := by simpa using htN
          by_cases hm6 : m < 6
          ·have hj6 := HJ6.out; have ht6 := HT6.out; have hcl := HCL.out; have hrj := HBL.out.cell hjS hm6; have hrt := HBL.out.cell htS hm6; have e1 : (N.set j ((cmb p q N[j] N[P.length]).take m ++ N[j].drop m))[j] = (cmb p q N[j] N[P.length]).take m ++ N[j].drop m := by simp
           have e2 : (N.set j ((cmb p q N[j] N[P.length]).take m ++ N[j].drop m))[P.length] = N[P.length] := by
            rw [List.getElem_set_ne]; exact HJT.out
           have e3 : ((cmb p q N[j] N[P.length]).take m ++ N[j].drop m).getD m 0 = N[j][m] := by
            rw [List.getD_eq_getElem?_getD, List.getElem?_append_right (by rw [List.length_take]; omega), List.length_take, Nat.min_eq_left (by omega), Nat.sub_self, List.getElem?_drop, Nat.add_zero, List.getElem?_eq_getElem (by omega)]; rfl
           have e4 : N[P.length].getD m 0 = N[P.length][m] := by rw [List.getD_eq_getElem?_getD, List.getElem?_eq_getElem (by omega)]; rfl
           rw [e1, e3] at hrj; rw [e2, e4] at hrt; have hst := fun v => HBL.out.store hjS hm6 v
           rw [e1] at hst; have hcm : (cmb p q N[j] N[P.length])[m] = N[j][m] * p - N[P.length][m] * q := by unfold cmb; rw [List.getElem_zipWith]
           have hnext : ((cmb p q N[j] N[P.length]).take m ++ N[j].drop m).set m (N[j][m] * p - N[P.length][m] * q) = (cmb p q N[j] N[P.length]).take (m + 1) ++ N[j].drop (m + 1) := by
            rw [List.set_append_right _ _ (by rw [List.length_take]; omega), List.length_take, Nat.min_eq_left (by omega), Nat.sub_self, List.drop_eq_getElem_cons (by omega : m < N[j].length), List.set_cons_zero, List.take_succ_eq_append_getElem (by omega), hcm, List.append_assoc]; rfl
           have hnx := hst (N[j][m] * p - N[P.length][m] * q); rw [hnext, List.set_set] at hnx; have HNX := aa.mk hnx; have hff := HBL.out.frozen (j * 6 + m); have o1 := HOK.out.1 _ (List.getElem_mem (show m < N[j].length by omega)); have o2 := HOK.out.2 _ (List.getElem_mem (show m < N[P.length].length by omega)); have hB5 := aa.mk (HBX.out); clear e1 e2 e3 e4 hst hcm hnext hnx; generalize N[j][m] = rj at *; generalize N[P.length][m] = rt at *; have w1 : wrap64 (rj * p) = rj * p := wrp (by omega) (by omega); have w2 : wrap64 (rt * q) = rt * q := wrp (by omega) (by omega); have w3 : wrap64 (rj * p - rt * q) = rj * p - rt * q := wrp (by omega) (by omega); clear o1 o2; go_wp2_with fail
           go_region; go_wp2_with fail
           go_roundw
           case rel => exact ⟨m + 1, by omega, by go_num, HNX, ⟨(heap_setCell_other _ _ _ _ HNB.out).trans HBX.out⟩, ⟨Kd.R_far HO.out (fun _ hk_ => hk_) _⟩, ⟨(HB.out.setCell HGW.out _).drew⟩⟩
           case measure => simp [intOf]; omega
          ·obtain rfl : m = 6 := by omega
           have hbl := HBL.out; rw [List.take_of_length_le (by rw [HCL.out]; exact Nat.le_refl _), List.drop_eq_nil_of_le (by rw [HJ6.out]; exact Nat.le_refl _), List.append_nil] at hbl; have tc : j < (N.set j (cmb p q N[j] N[P.length])).length := by simpa using hjN
           have hrg := hbl.range tc; rw [List.getElem_set_self] at hrg; have hth := hbl.there tc; have hnew := fun (w2 : World) (hb : Below wr.heap.size wr w2) => (hbl.below hb).stores tc (r := pln (cmb p q N[j] N[P.length])) (by rw [YM, HCL.out])
           simp only [List.set_set] at hnew; have Dw := aa.mk (fun W => VY (cmb p q N[j] N[P.length]) W HCL.out (cmb_lim HOK.out)); have HPN := aa.mk (show (pln (cmb p q N[j] N[P.length])).length = 6 by rw [YM, HCL.out]); have HE := aa.mk (show elims i P.length (n - (j + 1)) (j + 1) (N.set j (pln (cmb p q N[j] N[P.length]))) = some M1 from HEL.out); have HMN := aa.mk (show (N.set j (pln (cmb p q N[j] N[P.length]))).length = n by rw [List.length_set, HM.out]); have HBF := aa.mk (fun (w2 : World) (hb : Below wr.heap.size wr w2) (o : Nat) => (hbl.below hb).frozen o); have HRG := aa.mk hrg; have HTH := aa.mk hth; have HNW := aa.mk hnew; have HI1 := aa.mk (show (Try.prog.info? 76).map (·.size) = some ((cmb p q N[j] N[P.length]).map (Value.int .i64)).length by rw [List.length_map, HCL.out]; exact size76); have HI2 := aa.mk (show (Try.prog.info? 76).map (·.size) = some (arr (pln (cmb p q N[j] N[P.length]))).size by rw [ZW, HPN.out]; exact size76); clear hbl hrg hth hnew HEL; generalize pln (cmb p q N[j] N[P.length]) = s at *; generalize cmb p q N[j] N[P.length] = z at *; go_wp2_with (first
            | (refine wpList_load_mid rfl 76 _ rfl g (j * 6) rfl (z.map (Value.int .i64)) _ HRG.out Try.underlying76 rfl HI1.out ?_)
            | ((with_reducible refine Qk (f := 118) rfl ?_); refine QE (some 93) rfl rfl Try.func118 (by kernel_rfl) rfl #[.agg (arr z)] rfl (by (try simp only [List.map_toArray, List.map_cons, List.map_nil]); first | done | rfl) ?_; (with_reducible refine (Dw.out _).mono ?_); rintro e w12 ⟨rfl, hb⟩; refine ⟨_, rfl, ?_⟩; have Dy := aa.mk (HNW.out _ hb); have Dv := aa.mk (show w12.there g (j * 6) 6 from fun q hq => ⟨by obtain ⟨u, hu⟩ := Option.isSome_iff_exists.1 (HTH.out q hq).1; rw [(hb.cell (World.block_lt_of_cell? wr _ hu)).trans hu]; rfl, HBF.out _ hb _⟩); have rN := aa.mk (Qc HBX.out hb); have HO2 := aa.mk (Kd.Zq HO.out hb); have HB2 := aa.mk (Qd HB.out hb); clear HBL HO HBX HB hb HNW HTH)
            | (refine wpList_store_mid rfl 76 _ _ rfl g (j * 6) (arr s) rfl rfl (by rw [ZW, HPN.out]; exact Dv.out) HI2.out (YU s) ?_))
           go_roundw
           case rel => exact ⟨j + 1, N.set j s, by omega, by go_num, HE, Dy, HMN, ⟨((Ys g _ _ _).1 _ HNB.out).trans rN.out⟩, ⟨Kd.VR HO2.out (fun k hk_ _ => (Ys g _ _ _).1 k hk_)⟩, ⟨Yw HGW.out _ _ _ HB2.out⟩⟩
           case measure => simp [intOf]; omega
      ·obtain rfl : j = n := by omega
       have hN : N = M1 := by
        have := HEL.out; rw [Nat.sub_self, elims] at this; exact Option.some.inj this
       subst hN; have hbx : wr.cell? ⟨b5, 0, none⟩ = some (.int .i64 (i : Int)) := (Qa HBX.out 0).trans rfl; have HGL := aa.mk HBL.out.lt; go_wp2_with (first
        | ((with_reducible refine ZM (b := .append) (xs := #[.tmp 96, .tmp 98]) rfl ?_); at_builtin; refine Kd.Vc (Kd.int .i64) (w0 := w) w.heap.size rfl (.tmp 96) (.tmp 98) 28 3 (.int .i64 0) 8 rfl Try.underlying28 info3 rfl (by decide) (by omega) (.slice Ap P.length cp) P (i : Int) [.int .i64 (i : Int)] (fun k_ => k_ ≠ g) (fun _ => False) rfl rfl ?aP (fun _ hk => hk.elim) ?aF ?aO ?aB ?aS ?aL ?_; (case aP => exact rfl); (case aB => exact (by repeat (first | (with_reducible first | exact HB.out | apply QU | apply QF | apply QL) | exact HB.out))); (case aF => exact (fun k_ hk => by have h1 := HGL.out; have h2 : wr.heap.size ≤ k_ := Nat.le_trans (by simp) hk; show k_ ≠ g; omega)); (case aO => exact (by (with_reducible repeat (first | apply Kd.R_alloc | apply Kd.R_drewN | apply Kd.Zb)); exact HO.out)); (case aS => exact (Qe (by repeat (first | (with_reducible first | exact HB.out | apply QU | apply QF | apply QL) | exact HB.out)))); (case aL => have := HTN.out; omega); intro oR w12 ho hb hg hat; have rO := aa.mk (show Bl w12 g N c from by first | exact HBL.out.move (hg.block g HGL.out (fun e_ => HO.out.1 g e_.symm rfl)) | exact (HBL.out.alloc _).move (hg.block g (Nat.lt_of_lt_of_le HGL.out (by simp)) (fun e_ => HO.out.1 g e_.symm rfl))); replace HB := aa.mk (hb); replace HO := aa.mk (ho); clear ho hb hg hat))
       go_roundw
       case rel => exact ⟨i + 1, N, P ++ [(i : Int)], by omega, by go_num, HS2, rO, HM, ⟨by have := HTN.out; simp; omega⟩, ⟨by have := Dx.out; simp; omega⟩, HO, HB⟩
       case measure => simp [intOf]; omega
  ·obtain rfl : i = 6 := by omega
   have hf : M = Mf ∧ P = Pf := by
    have := HRC.out; rw [Nat.sub_self, redc] at this; have := Option.some.inj this; exact ⟨congrArg Prod.fst this, congrArg Prod.snd this⟩
   obtain ⟨rfl, rfl⟩ := hf; obtain ⟨Ap, cp, ep⟩ := Kd.Zs HO.out; subst ep; have htn := HPL.out; have hlc := HLC.out; have hle : P.length ≤ c := by omega
   go_wp2_with fail
   go_ret2; refine ⟨_, _, rfl, HBL.out.R HGW.out trivial (by rw [HM.out]; exact htn) HCM.out, ?_, HB.out⟩; exact Kd.Zm HO.out (fun k hk => by simp [Value.ownBlock]; exact fun e => hk e)
def Z6.f (l : List S76) : Option (List S76 × List Int) := if 0 < l.length ∧ l.length < 1000 then (red (l.map L6)).map fun x => ((x.1.take x.2.length).map mk6, x.2) else none
theorem Z6.calls (A0 : Option Addr) (c0 : Nat) (l0 : List S76) (r1 : List S76) (r2 : List Int) (w : World) (hr0 : Kd.C k76 w A0 l0.length l0) (hc0 : l0.length ≤ c0) (h : Z6.f l0 = some (r1, r2)) :
  Calls Try.prog 111 #[.slice A0 l0.length c0] w fun e w' => ∃ v0_ v1_ : Value, e = .returned (.tuple #[v0_, v1_]) ∧ Kd.R k76 76 w' w.heap.size (fun _ => True) v0_ r1 ∧ Kd.R (Kd.int .i64) 3 w' w.heap.size (fun k => some k ≠ v0_.ownBlock) v1_ r2 ∧ Below w.heap.size w w' := by
 unfold Z6.f at h; split at h
 case isFalse => cases h
 rename_i hc
 obtain ⟨⟨Mf, Pf⟩, hx, e⟩ := Option.map_eq_some_iff.1 h; obtain ⟨rfl, rfl⟩ := Prod.mk.inj e; exact UP A0 c0 l0 Mf Pf w hr0 hc0 hc.1 hc.2 hx
instance (x : Int) : Decidable (Lim x) := by unfold Lim; infer_instance
def frg : Nat → Nat → List Int → Nat
 | 0, f, _ => f
 | d + 1, f, P => if (f : Int) ∈ P then frg d (f + 1) P else f
def AllOk (r : List Int) (p a : Int) : Prop := 0 ≤ p ∧ p < 6 ∧ Lim a ∧ Lim (r.getD p.toNat 0) ∧ Int.gcd a (r.getD p.toNat 0) ≠ 0 ∧ Lim (a.tdiv (Int.gcd a (r.getD p.toNat 0)) * r.getD p.toNat 0)
instance (r : List Int) (p a : Int) : Decidable (AllOk r p a) := by unfold AllOk; infer_instance
def alls : List (List Int × Int) → Int → Option Int
 | [], a => some a
 | x :: l, a => if AllOk x.1 x.2 a then alls l (a.tdiv (Int.gcd a (x.1.getD x.2.toNat 0)) * x.1.getD x.2.toNat 0) else none
def OutOk (free : Nat) (all : Int) (r : List Int) (p : Int) : Prop := 0 ≤ p ∧ p < 6 ∧ Lim all ∧ Lim (r.getD free 0) ∧ r.getD p.toNat 0 ≠ 0 ∧ Lim (-(r.getD free 0) * all.tdiv (r.getD p.toNat 0))
instance (free : Nat) (all : Int) (r : List Int) (p : Int) : Decidable (OutOk free all r p) := by unfold OutOk; infer_instance
def outs (free : Nat) (all : Int) : List (List Int × Int) → List Int → Option (List Int)
 | [], o => some o
 | x :: l, o => if OutOk free all x.1 x.2 then outs free all l (o.set x.2.toNat (-(x.1.getD free 0) * all.tdiv (x.1.getD x.2.toNat 0))) else none
def fin (o : List Int) (count : Nat) : Option (List Int) :=
 if (∀ x ∈ o, Lim x) ∧ 0 ≤ nzi ((pln o).take count) then
  some (if (pln o).getD (nzi ((pln o).take count)).toNat 0 < 0 then ((pln o).map (fun x => -x)).take count else (pln o).take count)
 else none
def sol (R : List (List Int)) (P : List Int) (count : Nat) : Option (List Int × Bool) :=
 if (count : Int) - P.length ≠ 1 then some ([], false)
 else if ((frg 7 0 P : Int)) ∉ P ∧ frg 7 0 P < 6 ∧ R.length = P.length then
  (alls (R.zip P) 1).bind fun all => (outs (frg 7 0 P) all (R.zip P) (zeros6.set (frg 7 0 P) all)).bind fun o => (fin o count).map fun s => (s, true)
 else none
def Zd.f (l : List S76) (count : Int) : Option (List Int × Bool) :=
 if 0 ≤ count ∧ count ≤ 6 then (Z6.f l).bind fun x => sol (x.1.map L6) x.2 count.toNat else none
theorem VE (i top : Nat) : ∀ (d j : Nat) (M M' : List (List Int)), elims i top d j M = some M' → M'.length = M.length
 | 0, j, M, M', h => by rw [elims] at h; rw [← Option.some.inj h]
 | d + 1, j, M, M', h => by
  rw [elims] at h; obtain ⟨N, h1, h2⟩ := Option.bind_eq_some_iff.1 h; rw [VE i top d (j + 1) N M' h2]; unfold elim at h1; split at h1
  ·rw [← Option.some.inj h1]
  ·split at h1
   ·rw [← Option.some.inj h1]; simp
   ·cases h1
theorem VW : ∀ (d i : Nat) (M : List (List Int)) (P : List Int) (Mf : List (List Int)) (Pf : List Int), redc d i M P = some (Mf, Pf) → Pf.length ≤ P.length + d ∧ Mf.length = M.length
 | 0, i, M, P, Mf, Pf, h => by
  rw [redc] at h; obtain ⟨rfl, rfl⟩ := Prod.mk.inj (Option.some.inj h); exact ⟨Nat.le_refl _, rfl⟩
 | d + 1, i, M, P, Mf, Pf, h => by
  rw [redc] at h; obtain ⟨⟨M1, P1⟩, h1, h2⟩ := Option.bind_eq_some_iff.1 h; have h3 := VW d (i + 1) M1 P1 Mf Pf h2; unfold stepc at h1; split at h1
  ·obtain ⟨rfl, rfl⟩ := Prod.mk.inj (Option.some.inj h1); exact ⟨by omega, h3.2⟩
  ·obtain ⟨M2, h4, h5⟩ := Option.bind_eq_some_iff.1 h1; obtain ⟨rfl, rfl⟩ := Prod.mk.inj (Option.some.inj h5); have h6 := VE _ _ _ _ _ _ h4; rw [Y0] at h6; simp at h3; exact ⟨by omega, by omega⟩
theorem red_places {M Mf : List (List Int)} {Pf : List Int} (h : red M = some (Mf, Pf)) : Pf.length ≤ 1000 := by
 have := (VW 6 0 M [] Mf Pf h).1; simp at this; omega
def solu.T11 : Bool × List (List Nat × List Nat) := (true, [([], []), ([], []), ([], []), ([], []), ([2, 3], [2, 3]), ([4], [4]), ([5], [5]), ([6], [6]), ([1, 7], [1, 7]), ([0, 8], [0, 8]), ([], []), ([], []), ([10, 11], [10, 11]), ([12], [12]), ([13], [13]), ([14], [14]), ([9, 15], [9, 15]), ([16, 8, 0, 1, 2, 3, 4, 5, 6, 7, 8, 9, 10, 11, 12, 13, 14, 15, 16], [0, 1, 16])])
def solu.B11 : List Nat := [0, 0, 0, 0, 12, 28, 60, 124, 254, 511, 0, 0, 3072, 7168, 15360, 31744, 65535, 131071]
theorem solu.tab11 : rtab .any (opsOf Try.f82 11) = solu.T11 := by kernel_rfl
theorem solu.bits11 : waitsOk solu.T11.2 solu.B11 = true := by kernel_rfl
def solu.T18 : Bool × List (List Nat × List Nat) := (true, [([], []), ([], []), ([0, 1], [0, 1]), ([2], [2]), ([], []), ([4], [4]), ([5], [5]), ([6], [6]), ([], []), ([], []), ([], []), ([9, 10], [9, 10]), ([11], [11]), ([12], [12]), ([13], [13]), ([8, 14], [8, 14]), ([7, 15], [7, 15]), ([3, 0, 1, 2, 3, 4, 5, 6, 7, 8, 9, 10, 11, 12, 13, 14, 15, 16], [3]), ([17, 16, 0, 1, 2, 3, 4, 5, 6, 7, 8, 9, 10, 11, 12, 13, 14, 15, 16], [16, 17])])
def solu.B18 : List Nat := [0, 0, 3, 7, 0, 16, 48, 112, 0, 0, 0, 1536, 3584, 7680, 15872, 32512, 65520, 131071, 262143]
theorem solu.tab18 : rtab .any (opsOf Try.f82 18) = solu.T18 := by kernel_rfl
theorem solu.bits18 : waitsOk solu.T18.2 solu.B18 = true := by kernel_rfl
theorem R_addr {α : Type} {d : Kd α} {e base : Nat} {ok : Nat → Prop} {w : World} {A : Option Addr} {n c : Nat} {xs : List α} (h : Kd.R d e w base ok (.slice A n c) xs) : ∀ ad, A = some ad → ad.spot = none := by
 obtain ⟨inner, ho⟩ := Kd.R_own h; intro ad hA; rcases ho.2 with ⟨hv, _⟩ | ⟨g, cap, cur, hv, _⟩
 ·cases hv; cases hA
 ·cases hv; cases hA; rfl
theorem C_arr {w : World} {b n : Nat} {m : List Int} {t : TypeId} (h : w.heap[b]? = some (.cells (arr m) t (0, 0))) (hn : n ≤ m.length) (hm : m.length ≤ 1000) : Kd.C (Kd.int .i64) w (some ⟨b, 0, none⟩) (m.take n).length (m.take n) := by
 refine Kd.UL (d := (0 : Int)) (h1 := fun _ => rfl) ⟨rfl, by rw [List.length_take]; omega, fun _ => ⟨_, rfl, fun j hj => ?_⟩⟩; have hj' : j < n := by rw [List.length_take] at hj; omega
 rw [Yr, Yx h j (by omega)]; simp [List.getElem?_take, hj', show j < m.length by omega]
theorem pln_lim {m : List Int} (h : ∀ x ∈ m, Lim x) : ∀ x ∈ pln m, Lim x := by
 unfold pln; split
 ·intro x hx; obtain ⟨y, hy, rfl⟩ := List.mem_map.1 hx; have h1 := h y hy; unfold Lim at *; have : (y.tdiv (gc m)).natAbs ≤ y.natAbs := by rw [Int.natAbs_tdiv]; exact Nat.div_le_self _ _
  omega
 ·exact h
theorem slice76 (b n : Nat) (hn : n ≤ 6) (W : World) : (Instr.sliceAt 76 (.pointer (some ⟨b, 0, none⟩)) none (some (.int .i64 (n : Int))) none).run Try.prog W = .ok (.slice (some ⟨b, 0, none⟩) n 6) W := by
 have hl : Try.prog.arrayLen 76 = 6 := by kernel_rfl
 have he : Try.prog.elem 76 = 3 := by kernel_rfl
 have hsz : (sizeOf 3).run Try.prog W = .ok 1 W := by
  cases hq : Try.prog.info? 3 with
  | none => have := info3; rw [hq] at this; cases this
  | some j =>
   have := info3; rw [hq] at this; simp only [Option.map_some, Option.some.injEq, Prod.mk.injEq] at this; simp [sizeOf, typeInfo, hq, this.2.1]
 have h := run_sliceAt_array_h (P := Try.prog) W 76 ⟨b, 0, none⟩ (by rw [hl, he]; exact Try.underlying76) .i64 (n : Int) (by omega) (by rw [hl]; omega); rw [h, hl, he, hsz]; simp [Result.andThen, slicedAt, Yr]
theorem Uf (f : Nat) : zeros6.getD f 0 = 0 := by
 unfold zeros6; rw [List.getD_eq_getElem?_getD, List.getElem?_replicate]; split <;> rfl
theorem frg_le : ∀ (d f : Nat) (P : List Int), f ≤ frg d f P
 | 0, f, P => Nat.le_refl _
 | d + 1, f, P => by
  rw [frg]; split
  ·exact Nat.le_trans (Nat.le_succ f) (frg_le d (f + 1) P)
  ·exact Nat.le_refl _
set_option maxHeartbeats 8000000 in
set_option maxRecDepth 100000 in
theorem sol_calls (A0 : Option Addr) (c0 : Nat) (l0 : List S76) (count : Nat) (R : List S76) (P : List Int) (r1 : List Int) (r2 : Bool) (w : World) (hr0 : Kd.C k76 w A0 l0.length l0) (hc0 : l0.length ≤ c0) (hcount : count ≤ 6) (hred : Z6.f l0 = some (R, P)) (h : sol (R.map L6) P count = some (r1, r2)) :
  Calls Try.prog 82 #[.slice A0 l0.length c0, .int .i64 (count : Int)] w fun e w' => ∃ v0_ : Value, e = .returned (.tuple #[v0_, .bool r2]) ∧ Kd.R (Kd.int .i64) 3 w' w.heap.size (fun _ => True) v0_ r1 ∧ Below w.heap.size w w' := by
 have mI := Try.underlying76; have pa := Try.underlying65; have sZ := Try.underlying28; have hu3 := Try.underlying3; have mJ := size76; have Bh := (zero_of_info info76z).1; have HPL := aa.mk (show P.length ≤ 1000 from by
  unfold Z6.f at hred; split at hred
  case isFalse => cases hred
  obtain ⟨⟨Mf, Pf⟩, hx, e⟩ := Option.map_eq_some_iff.1 hred; obtain ⟨_, rfl⟩ := Prod.mk.inj e; exact red_places hx)
 have HX := aa.mk (fun W (hb : Below w.heap.size w W) => Z6.calls A0 c0 l0 R P W (Kd.Ql hr0 hb) hc0 hred); clear hr0 hc0 hred; have HB := aa.mk (Below.refl w.heap.size w); have HS := aa.mk h; have HCT := aa.mk hcount; clear h; by_cases hne : (count : Int) - (P.length : Int) = 1
 case neg =>
  have hs := HS.out; unfold sol at hs; rw [if_pos hne] at hs; obtain ⟨rfl, rfl⟩ := Prod.mk.inj (Option.some.inj hs); have c1 : ((count : Int) - (P.length : Int) != 1) = true := bne_iff_ne.mpr hne; have hpl := HPL.out; have hwr : wrap64 ((count : Int) - (P.length : Int)) = (count : Int) - (P.length : Int) := wrp (by omega) (by omega); clear hs hne; go_enter Try.func82, Try.ntmps82; go_wp2_with (first
   | ((with_reducible refine Qk (f := 111) rfl ?_); refine QE (some 19) rfl rfl Try.func111 (by kernel_rfl) rfl #[.slice A0 l0.length c0] rfl (by (try simp only [List.map_toArray, List.map_cons, List.map_nil]); first | done | rfl) ?_; (with_reducible refine (HX.out _ HB.out).mono ?_); rintro e w9 ⟨v0, v1, rfl, ho0, ho1, hb⟩; refine ⟨_, rfl, ?_⟩; obtain ⟨Ap, cp, ep⟩ := Kd.Zs ho1; subst ep; have HB2 := aa.mk (Qd HB.out hb); clear HB ho0 ho1 hb))
  go_ret2; exact ⟨_, rfl, Kd.Yb _ _ _ _ _, HB2.out⟩
 have hs := HS.out; unfold sol at hs; rw [if_neg (fun hh => hh hne)] at hs; split at hs
 case isFalse => cases hs
 rename_i hfree
 obtain ⟨free, hfr⟩ : ∃ f, f = frg 7 0 P := ⟨_, rfl⟩; rw [← hfr] at hs hfree; obtain ⟨all, hall, hs2⟩ := Option.bind_eq_some_iff.1 hs; obtain ⟨o, hout, hs3⟩ := Option.bind_eq_some_iff.1 hs2; obtain ⟨s, hfin, hs4⟩ := Option.map_eq_some_iff.1 hs3; obtain ⟨rfl, rfl⟩ := Prod.mk.inj hs4; obtain ⟨f1, f2, f3⟩ := hfree; have HNP := aa.mk f1; have HFR := aa.mk hfr; have HALL := aa.mk hall; have HOUT := aa.mk hout; have HFIN := aa.mk hfin; have HRL := aa.mk (show R.length = P.length by rw [← f3, List.length_map]); have c1 : ((count : Int) - (P.length : Int) != 1) = false := bne_eq_false_iff_eq.mpr hne; have hpl := HPL.out; have hwr : wrap64 ((count : Int) - (P.length : Int)) = (count : Int) - (P.length : Int) := wrp (by omega) (by omega); clear hs hs2 hs3 hs4 HS hall hout hfin f1 f3 hne hfr; go_enter Try.func82, Try.ntmps82; go_wp2_with (first
  | ((with_reducible refine Qk (f := 111) rfl ?_); refine QE (some 19) rfl rfl Try.func111 (by kernel_rfl) rfl #[.slice A0 l0.length c0] rfl (by (try simp only [List.map_toArray, List.map_cons, List.map_nil]); first | done | rfl) ?_; (with_reducible refine (HX.out _ HB.out).mono ?_); rintro e w9 ⟨v0, v1, rfl, ho0, ho1, hb⟩; refine ⟨_, rfl, ?_⟩; obtain ⟨Ar, cr, er⟩ := Kd.Zs ho0; subst er; obtain ⟨Ap, cp, ep⟩ := Kd.Zs ho1; subst ep; have HRR := aa.mk (Rd.of_C (Kd.QW ho0).2.2 (R_addr ho0)); have HCP := aa.mk (Kd.QW ho1).2.2; have HCPc := aa.mk (Kd.QW ho1).2.1; have HCRc := aa.mk (Kd.QW ho0).2.1; have HB2 := aa.mk (Qd HB.out hb); clear HB ho0 ho1 hb))
 have HB9 := aa.mk (Below.refl w9.heap.size w9); have HW9 := aa.mk (show w.heap.size ≤ w9.heap.size from HB2.out.size); go_loopw [8] (fun f_ w' => ∃ f : Nat, f ≤ free ∧ f_ = .int .i64 f ∧ aa (frg (7 - f) f P = free) ∧ aa (Below w9.heap.size w9 w')) (fun f_ _ => 7 - (intOf f_).toNat)
 case atStart => exact ⟨0, Nat.zero_le _, rfl, ⟨HFR.out.symm⟩, HB9⟩
 case round =>
  clear HB9; obtain ⟨f, hf, rfl, HF, HB9⟩ := hrel; have HCC := aa.mk (UC Ap cp P (f : Int) wr (Kd.Ql HCP.out HB9.out) HCPc.out HPL.out); obtain ⟨b, hb⟩ : ∃ b, b = decide ((f : Int) ∈ P) := ⟨_, rfl⟩; rw [← hb] at HCC; have HBB := aa.mk hb; clear hb; cases b with
  | true =>
   have hin : (f : Int) ∈ P := by have := HBB.out; simpa using this.symm
   have hff : frg (7 - (f + 1)) (f + 1) P = free := by
    have := HF.out; rw [show 7 - f = (7 - (f + 1)) + 1 by omega, frg, if_pos hin] at this; exact this
   have hle := frg_le (7 - (f + 1)) (f + 1) P; rw [hff] at hle; have HFF := aa.mk hff; clear hin hff; go_wp2_with (first
    | ((with_reducible refine Qk (f := 116) rfl ?_); refine QE (some 29) rfl rfl Try.func116 (by kernel_rfl) rfl #[.slice Ap P.length cp, .int .i64 (f : Int)] rfl (by (try simp only [List.map_toArray, List.map_cons, List.map_nil]); first | done | rfl) ?_; (with_reducible refine HCC.out.mono ?_); rintro e w10 ⟨rfl, hb⟩; refine ⟨_, rfl, ?_⟩; have n0_ := aa.mk (Qd HB9.out hb); clear HB9 hb; have HB9 := n0_; clear n0_))
   go_roundw
   case rel => exact ⟨f + 1, hle, by go_num, HFF, HB9⟩
   case measure => simp [intOf]; omega
  | false =>
   have hnin : (f : Int) ∉ P := by have := HBB.out; simpa using this.symm
   have hff : f = free := by
    have := HF.out; rw [show 7 - f = (6 - f) + 1 by omega, frg, if_neg hnin] at this; exact this
   subst hff; have HRZ := aa.mk (show alls (((R.map L6).zip P).drop 0) 1 = some all from HALL.out); clear hnin HF; go_wp2_with (first
    | ((with_reducible refine Qk (f := 116) rfl ?_); refine QE (some 29) rfl rfl Try.func116 (by kernel_rfl) rfl #[.slice Ap P.length cp, .int .i64 (f : Int)] rfl (by (try simp only [List.map_toArray, List.map_cons, List.map_nil]); first | done | rfl) ?_; (with_reducible refine HCC.out.mono ?_); rintro e w10 ⟨rfl, hb⟩; refine ⟨_, rfl, ?_⟩; have n0_ := aa.mk (Qd HB9.out hb); clear HB9 hb; have HB9 := n0_; clear n0_))
   go_loopw [9, 34] (fun a_ k_ w' => ∃ (k : Nat) (a : Int), k ≤ R.length ∧ k_ = .int .i64 k ∧ a_ = .int .i64 a ∧ aa (alls (((R.map L6).zip P).drop k) a = some all) ∧ aa (Below w9.heap.size w9 w')) (fun _ k_ _ => R.length - (intOf k_).toNat)
   case atStart => exact ⟨0, 1, Nat.zero_le _, rfl, rfl, HRZ, HB9⟩
   case round =>
    clear HRZ HB9 HCC HBB; obtain ⟨k, a, hk, rfl, rfl, HA, HB9⟩ := hrel; by_cases hkR : k < R.length
    ·have hkP : k < P.length := by rw [← HRL.out]; exact hkR
     have hkZ : k < ((R.map L6).zip P).length := by simp; omega
     have hze : ((R.map L6).zip P)[k] = (L6 R[k], P[k]) := by simp
     have ha := HA.out; rw [List.drop_eq_getElem_cons hkZ, hze, alls] at ha; split at ha
     case isFalse => cases ha
     rename_i hok
     obtain ⟨o1, o2, o3, o4, o5, o6⟩ : AllOk (L6 R[k]) P[k] a := hok; replace ha : alls (((R.map L6).zip P).drop (k + 1)) (a.tdiv (Int.gcd a ((L6 R[k]).getD P[k].toNat 0)) * (L6 R[k]).getD P[k].toNat 0) = some all := ha; obtain ⟨pn, hpn⟩ := Int.eq_ofNat_of_zero_le o1; obtain ⟨b, ob, hAr, hrg⟩ := HRR.out (by intro e; rw [List.map_eq_nil_iff] at e; rw [e] at hkR; simp at hkR); obtain ⟨hr6, hrange⟩ := hrg k (L6 R[k]) (by rw [List.getElem?_map, List.getElem?_eq_getElem hkR]; rfl); have HRG := aa.mk (Y7 hrange HB9.out); obtain ⟨adp, eadp, hxp⟩ := Kd.Zi HCP.out (k : Int) (by omega) (by omega); rw [Un P k hkP, hpn] at hxp; simp only [Int.toNat_natCast] at hxp; replace hxp := (HB9.out.cell (World.block_lt_of_cell? w9 _ hxp)).trans hxp; subst hAr; subst eadp; simp only [hpn, Int.toNat_natCast] at o1 o2 o3 o4 o5 o6 ha; obtain ⟨r, hr⟩ : ∃ r, r = L6 R[k] := ⟨_, rfl⟩; have lJ : r.length = 6 := by rw [hr]; rfl
     rw [← hr] at o4 o5 o6 ha hr6 HRG; have hcx : ∀ (W : World) (g : Nat), W.heap[g]? = some (.cells (arr r) 76 (0, 0)) → W.cell? ⟨g, pn, none⟩ = some (.int .i64 (r.getD pn 0)) := fun W g hh => Yx hh pn (by omega)
     have HCX := aa.mk hcx; generalize r.getD pn 0 = x at *; have hdv := (fun W => Vp a x o3 o4 W); have hq : (a.tdiv (Int.gcd a x)).natAbs ≤ a.natAbs := by rw [Int.natAbs_tdiv]; exact Nat.div_le_self _ _
     have hgz : (Int.gcd a x : Int) ≠ 0 := by omega
     clear o5; generalize (Int.gcd a x : Int) = G at *; have HDV := aa.mk hdv; clear hdv; have HA2 := aa.mk ha; have HI := aa.mk (show (Try.prog.info? 76).map (·.size) = some (r.map (Value.int .i64)).length by rw [List.length_map, lJ]; exact size76); have HI2 := aa.mk (show (Try.prog.info? 76).map (·.size) = some (arr r).size by rw [ZW, lJ]; exact size76); have HR6 := aa.mk lJ; have hg0 : (G == 0) = false := beq_eq_false_iff_ne.mpr hgz; have hg1 : ¬ G = 0 := hgz; unfold Lim at o3 o6; have w1 : IntKind.i64.wrap (a.tdiv G) = a.tdiv G := (Qw _).trans (wrp (by omega) (by omega)); have w2 : IntKind.i64.wrap (a.tdiv G * x) = a.tdiv G * x := (Qw _).trans (wrp (by omega) (by omega)); have Bq : (pn : Int) < 6 := o2; have hHG := aa.mk (show (wr.alloc (.cells (arr zeros6) 76)).heap[wr.heap.size]? = some (.cells (arr zeros6) 76 (0, 0)) from YK wr _); have HXP := aa.mk hxp; clear hze ha o1 o2 o3 o4 o6 hrange hrg hr6 lJ hq hr hcx hxp; go_wp2_with (first
      | (refine wpList_load_mid rfl 76 _ rfl b (ob + k * 6) rfl (r.map (Value.int .i64)) _ HRG.out Try.underlying76 rfl HI.out ?_)
      | (refine wpList_store_row rfl 76 _ _ rfl wr.heap.size (arr r) rfl rfl 76 (arr zeros6) hHG.out HI2.out (by rw [ZW, ZW, HR6.out]; rfl) (YU r) ?_))
     have hbw := Yq ((Below.refl wr.heap.size wr).alloc (Nat.le_refl _) (.cells (arr zeros6) 76)) (Nat.le_refl _) (arr r); have HSP := aa.mk (show (((wr.alloc (.cells (arr zeros6) 76)).setRow wr.heap.size (arr r)).drew).cell? (adp.add k) = some (.int .i64 (pn : Int)) from (hbw.cell (World.block_lt_of_cell? wr _ HXP.out)).trans HXP.out); have HSX := aa.mk (show (((wr.alloc (.cells (arr zeros6) 76)).setRow wr.heap.size (arr r)).drew).cell? ⟨wr.heap.size, pn, none⟩ = some (.int .i64 x) from HCX.out _ _ (setRow_heap _ _ _ _ _ _ hHG.out)); replace HB9 := aa.mk (YD (Qd HB9.out hbw)); clear HRG HXP hHG hbw; generalize (wr.alloc (.cells (arr zeros6) 76)).setRow wr.heap.size (arr r) = W2 at *; generalize wr.heap.size = b11 at *; refine Ym (n := 18) (S := fun w' => w'.cell? (adp.add k) = some (.int .i64 (pn : Int)) ∧ w'.cell? ⟨b11, pn, none⟩ = some (.int .i64 x)) (ds := []) #[false, false, false, false, false, false, false, false, false, false, false, false, false, false, false, false, false, false] (by kernel_rfl) rfl rfl ⟨HSP.out, HSX.out⟩ (fun hHeld => ?_); refine ZT solu.tab11 solu.bits11 (fun HT_ HW_ => ?_); refine QS (i := 0) (N := some 39) (v := ?_) (a' := ?_) #[true, false, false, false, false, false, false, false, false, false, false, false, false, false, false, false, false, false] rfl rfl (QI HT_.out (by kernel_rfl)) (fun _ _ _ h => h) (Or.inl ⟨by rfl, ?_⟩) ?_ ?_; rotate_left
     ·intro w'; go_simp; with_reducible rfl
     rotate_left
     ·simp only [Act.put, zA, zB, zC, Qw, Qx]; rfl
     refine QS (i := 1) (N := some 40) (v := ?_) (a' := ?_) #[true, true, false, false, false, false, false, false, false, false, false, false, false, false, false, false, false, false] rfl rfl (QI HT_.out (by kernel_rfl)) (fun _ _ _ h => h) (Or.inl ⟨by rfl, ?_⟩) ?_ ?_; rotate_left
     ·intro w'; go_simp; with_reducible rfl
     rotate_left
     ·simp only [Act.put, zA, zB, zC, Qw, Qx]; rfl
     refine QS (i := 2) (N := some 41) (v := ?_) (a' := ?_) #[true, true, true, false, false, false, false, false, false, false, false, false, false, false, false, false, false, false] rfl rfl (QI HT_.out (by kernel_rfl)) (fun _ _ _ h => h) (Or.inl ⟨by rfl, ?_⟩) ?_ ?_; rotate_left
     ·intro w'; go_simp; with_reducible rfl
     rotate_left
     ·simp only [Act.put, zA, zB, zC, Qw, Qx]; rfl
     refine QS (i := 3) (N := some 42) (v := ?_) (a' := ?_) #[true, true, true, true, false, false, false, false, false, false, false, false, false, false, false, false, false, false] rfl rfl (QI HT_.out (by kernel_rfl)) (fun _ _ _ h => h) (Or.inl ⟨by rfl, ?_⟩) ?_ ?_; rotate_left
     ·intro w'; go_simp; with_reducible rfl
     rotate_left
     ·simp only [Act.put, zA, zB, zC, Qw, Qx]; rfl
     refine QS (i := 4) (N := some 43) (v := ?_) (a' := ?_) #[true, true, true, true, true, false, false, false, false, false, false, false, false, false, false, false, false, false] rfl rfl (QI HT_.out (by kernel_rfl)) (fun _ _ _ h => h) (Or.inl ⟨by rfl, ?_⟩) ?_ ?_; rotate_left
     ·intro w'; go_simp; with_reducible rfl
     rotate_left
     ·simp only [Act.put, zA, zB, zC, Qw, Qx]; rfl
     refine QS (i := 10) (N := some 49) (v := ?_) (a' := ?_) #[true, true, true, true, true, false, false, false, false, false, true, false, false, false, false, false, false, false] rfl rfl (QI HT_.out (by kernel_rfl)) (fun _ _ _ h => h) (Or.inl ⟨by rfl, ?_⟩) ?_ ?_; rotate_left
     ·intro w'; go_simp; with_reducible rfl
     rotate_left
     ·simp only [Act.put, zA, zB, zC, Qw, Qx]; rfl
     refine QS (i := 11) (N := some 50) (v := ?_) (a' := ?_) #[true, true, true, true, true, false, false, false, false, false, true, true, false, false, false, false, false, false] rfl rfl (QI HT_.out (by kernel_rfl)) (fun _ _ _ h => h) (Or.inl ⟨by rfl, ?_⟩) ?_ ?_; rotate_left
     ·intro w'; go_simp; with_reducible rfl
     rotate_left
     ·simp only [Act.put, zA, zB, zC, Qw, Qx]; rfl
     refine QS (i := 12) (N := some 51) (v := ?_) (a' := ?_) #[true, true, true, true, true, false, false, false, false, false, true, true, true, false, false, false, false, false] rfl rfl (QI HT_.out (by kernel_rfl)) (fun _ _ _ h => h) (Or.inl ⟨by rfl, ?_⟩) ?_ ?_; rotate_left
     ·intro w'; go_simp; with_reducible rfl
     rotate_left
     ·simp only [Act.put, zA, zB, zC, Qw, Qx]; rfl
     refine Zy (i := 5) (N := some 44) (v := ?_) (a' := ?_) #[true, true, true, true, true, true, false, false, false, false, true, true, true, false, false, false, false, false] rfl rfl (Q4 HT_.out HW_.out (by kernel_rfl)) (fun _ _ _ h => h) (Or.inl ⟨by rfl, ?_⟩) hHeld ?_ ?_; rotate_left
     ·rintro w' ⟨s0, s1⟩; go_simp; with_reducible rfl
     rotate_left
     ·simp only [Act.put, zA, zB, zC, Qw, Qx]; rfl
     refine QS (i := 6) (N := some 45) (v := ?_) (a' := ?_) #[true, true, true, true, true, true, true, false, false, false, true, true, true, false, false, false, false, false] rfl rfl (QI HT_.out (by kernel_rfl)) (fun _ _ _ h => h) (Or.inl ⟨by rfl, ?_⟩) ?_ ?_; rotate_left
     ·intro w'; go_simp; with_reducible rfl
     rotate_left
     ·simp only [Act.put, zA, zB, zC, Qw, Qx]; rfl
     refine Zy (i := 7) (N := some 46) (v := ?_) (a' := ?_) #[true, true, true, true, true, true, true, true, false, false, true, true, true, false, false, false, false, false] rfl rfl (Q4 HT_.out HW_.out (by kernel_rfl)) (fun _ _ _ h => h) (Or.inl ⟨by rfl, ?_⟩) hHeld ?_ ?_; rotate_left
     ·rintro w' ⟨s0, s1⟩; go_simp; with_reducible rfl
     rotate_left
     ·simp only [Act.put, zA, zB, zC, Qw, Qx]; rfl
     refine Zy (i := 13) (N := some 52) (v := ?_) (a' := ?_) #[true, true, true, true, true, true, true, true, false, false, true, true, true, true, false, false, false, false] rfl rfl (Q4 HT_.out HW_.out (by kernel_rfl)) (fun _ _ _ h => h) (Or.inl ⟨by rfl, ?_⟩) hHeld ?_ ?_; rotate_left
     ·rintro w' ⟨s0, s1⟩; go_simp; with_reducible rfl
     rotate_left
     ·simp only [Act.put, zA, zB, zC, Qw, Qx]; rfl
     refine QS (i := 14) (N := some 53) (v := ?_) (a' := ?_) #[true, true, true, true, true, true, true, true, false, false, true, true, true, true, true, false, false, false] rfl rfl (QI HT_.out (by kernel_rfl)) (fun _ _ _ h => h) (Or.inl ⟨by rfl, ?_⟩) ?_ ?_; rotate_left
     ·intro w'; go_simp; with_reducible rfl
     rotate_left
     ·simp only [Act.put, zA, zB, zC, Qw, Qx]; rfl
     refine Zy (i := 15) (N := some 54) (v := ?_) (a' := ?_) #[true, true, true, true, true, true, true, true, false, false, true, true, true, true, true, true, false, false] rfl rfl (Q4 HT_.out HW_.out (by kernel_rfl)) (fun _ _ _ h => h) (Or.inl ⟨by rfl, ?_⟩) hHeld ?_ ?_; rotate_left
     ·rintro w' ⟨s0, s1⟩; go_simp; with_reducible rfl
     rotate_left
     ·simp only [Act.put, zA, zB, zC, Qw, Qx]; rfl
     refine one_ (i := 8) (N := some 47) #[true, true, true, true, true, true, true, true, true, false, true, true, true, true, true, true, false, false] rfl rfl (ZL HT_.out (by kernel_rfl)) (by decide) (fun K hK => ?_); refine Yz Try.func117 (by kernel_rfl) rfl #[.int .i64 a, .int .i64 x] (by rfl) rfl rfl (by (try simp only [List.map_toArray, List.map_cons, List.map_nil]); first | done | rfl) ?_; with_reducible refine (HDV.out _).mono ?_
     rintro e w13 ⟨rfl, hb⟩; refine ⟨_, rfl, ?_⟩; replace HSP := aa.mk ((hb.cell (World.block_lt_of_cell? _ _ HSP.out)).trans HSP.out); replace HSX := aa.mk ((hb.cell (World.block_lt_of_cell? _ _ HSX.out)).trans HSX.out); replace HB9 := aa.mk (Qd HB9.out hb); clear hb; refine hK.out _ _ ⟨HSP.out, HSX.out⟩ (fun hHeld => ?_); clear hK K; refine Ye (a' := ?_) ?_ ?_; rotate_left
     ·show Act.put _ (some 47) _ = _
      simp only [Act.put, zA, zB, zC, Qw, Qx]; rfl
     refine QS (i := 9) (N := some 48) (v := ?_) (a' := ?_) #[true, true, true, true, true, true, true, true, true, true, true, true, true, true, true, true, false, false] rfl rfl (QI HT_.out (by kernel_rfl)) (fun _ _ _ h => h) (Or.inl ⟨by rfl, ?_⟩) ?_ ?_; rotate_left
     ·intro w'; go_simp; with_reducible rfl
     rotate_left
     ·simp only [Act.put, zA, zB, zC, Qw, Qx]; rfl
     refine QS (i := 16) (N := some 55) (v := ?_) (a' := ?_) #[true, true, true, true, true, true, true, true, true, true, true, true, true, true, true, true, true, false] rfl rfl (QI HT_.out (by kernel_rfl)) (fun _ _ _ h => h) (Or.inl ⟨by rfl, ?_⟩) ?_ ?_; rotate_left
     ·intro w'; go_simp; with_reducible rfl
     rotate_left
     ·simp only [Act.put, zA, zB, zC, Qw, Qx]; rfl
     refine QS (i := 17) (N := some 9) (v := ?_) (a' := ?_) #[true, true, true, true, true, true, true, true, true, true, true, true, true, true, true, true, true, true] rfl rfl (QI HT_.out (by kernel_rfl)) (fun _ _ _ h => h) (Or.inl ⟨by rfl, ?_⟩) ?_ ?_; rotate_left
     ·intro w'; go_simp; with_reducible rfl
     rotate_left
     ·simp only [Act.put, zA, zB, zC, Qw, Qx]; rfl
     refine YA (Yf HT_.out (by kernel_rfl)) ?_; go_wp2_with fail
     go_roundw
     case rel => exact ⟨k + 1, a.tdiv G * x, by omega, by go_num, rfl, HA2, HB9⟩
     case measure => simp [intOf]; omega
    ·obtain rfl : k = R.length := by omega
     have ha : a = all := by
      have := HA.out; rw [List.drop_eq_nil_of_le (by simp; omega), alls] at this; exact Option.some.inj this
     subst ha; have Fz : (f : Int) < 6 := by omega
     have hz0 : (arr zeros6)[f]? = some (.int .i64 0) := by
      rw [Ua _ _ (by show f < 6; omega), Uf]
     have HOZ := aa.mk (show outs f a (((R.map L6).zip P).drop 0) (zeros6.set f a) = some o from HOUT.out); have HOL := aa.mk (show (zeros6.set f a).length = 6 by simp [zeros6]); have fv := aa.mk (show (wr.alloc (.cells ((arr zeros6).setIfInBounds f (.int .i64 a)) 76)).heap[wr.heap.size]? = some (.cells (arr (zeros6.set f a)) 76 (0, 0)) from by rw [Jq]; exact YK wr _); have xY := aa.mk (show Below w9.heap.size w9 (wr.alloc (.cells ((arr zeros6).setIfInBounds f (.int .i64 a)) 76)) from HB9.out.alloc HB9.out.size _); have rK := aa.mk (show w9.heap.size ≤ wr.heap.size from HB9.out.size); go_wp2_with fail
     clear hz0 HB9 HA HALL HOUT; generalize wr.alloc (.cells ((arr zeros6).setIfInBounds f (.int .i64 a)) 76) = W3 at *; generalize wr.heap.size = b12 at *; generalize zeros6.set f a = q at *; go_loopw [62] (fun k_ w' => ∃ (k : Nat) (q : List Int), k ≤ R.length ∧ k_ = .int .i64 k ∧ aa (outs f a (((R.map L6).zip P).drop k) q = some o) ∧ aa (q.length = 6) ∧ aa (w'.heap[b12]? = some (.cells (arr q) 76 (0, 0))) ∧ aa (Below w9.heap.size w9 w')) (fun k_ _ => R.length - (intOf k_).toNat)
     case atStart => exact ⟨0, q, Nat.zero_le _, rfl, HOZ, HOL, fv, xY⟩
     case round =>
      clear HOZ HOL fv xY q; obtain ⟨k, q, hk, rfl, HA, HQL, fv, HB9⟩ := hrel; by_cases hkR : k < R.length
      ·have hkP : k < P.length := by rw [← HRL.out]; exact hkR
       have hkZ : k < ((R.map L6).zip P).length := by simp; omega
       have hze : ((R.map L6).zip P)[k] = (L6 R[k], P[k]) := by simp
       have ha := HA.out; rw [List.drop_eq_getElem_cons hkZ, hze, outs] at ha; split at ha
       case isFalse => cases ha
       rename_i hok
       obtain ⟨o1, o2, o3, o4, o5, o6⟩ : OutOk f a (L6 R[k]) P[k] := hok; replace ha : outs f a (((R.map L6).zip P).drop (k + 1)) (q.set P[k].toNat (-((L6 R[k]).getD f 0) * a.tdiv ((L6 R[k]).getD P[k].toNat 0))) = some o := ha; obtain ⟨pn, hpn⟩ := Int.eq_ofNat_of_zero_le o1; obtain ⟨b, ob, hAr, hrg⟩ := HRR.out (by intro e; rw [List.map_eq_nil_iff] at e; rw [e] at hkR; simp at hkR); obtain ⟨hr6, hrange⟩ := hrg k (L6 R[k]) (by rw [List.getElem?_map, List.getElem?_eq_getElem hkR]; rfl); have HRG := aa.mk (Y7 hrange HB9.out); obtain ⟨adp, eadp, hxp⟩ := Kd.Zi HCP.out (k : Int) (by omega) (by omega); rw [Un P k hkP, hpn] at hxp; simp only [Int.toNat_natCast] at hxp; replace hxp := (HB9.out.cell (World.block_lt_of_cell? w9 _ hxp)).trans hxp; subst hAr; subst eadp; simp only [hpn, Int.toNat_natCast] at o1 o2 o3 o4 o5 o6 ha; obtain ⟨r, hr⟩ : ∃ r, r = L6 R[k] := ⟨_, rfl⟩; have lJ : r.length = 6 := by rw [hr]; rfl
       rw [← hr] at o4 o5 o6 ha hr6 HRG; have hcx : ∀ (W : World) (g : Nat), W.heap[g]? = some (.cells (arr r) 76 (0, 0)) → W.cell? ⟨g, pn, none⟩ = some (.int .i64 (r.getD pn 0)) := fun W g hh => Yx hh pn (by omega)
       have hcy : ∀ (W : World) (g : Nat), W.heap[g]? = some (.cells (arr r) 76 (0, 0)) → W.cell? ⟨g, f, none⟩ = some (.int .i64 (r.getD f 0)) := fun W g hh => Yx hh f (by omega)
       have HCX := aa.mk hcx; have HCY := aa.mk hcy; obtain ⟨x, hx⟩ : ∃ x, x = r.getD pn 0 := ⟨_, rfl⟩; obtain ⟨y, hy⟩ : ∃ y, y = r.getD f 0 := ⟨_, rfl⟩; rw [← hx] at o5 o6 ha HCX; rw [← hy] at o4 o6 ha HCY; have HA2 := aa.mk ha; have HI := aa.mk (show (Try.prog.info? 76).map (·.size) = some (r.map (Value.int .i64)).length by rw [List.length_map, lJ]; exact size76); have HI2 := aa.mk (show (Try.prog.info? 76).map (·.size) = some (arr r).size by rw [ZW, lJ]; exact size76); have HR6 := aa.mk lJ; have hg0 : (x == 0) = false := beq_eq_false_iff_ne.mpr o5; have hg1 : ¬ x = 0 := o5; have hq : (a.tdiv x).natAbs ≤ a.natAbs := by rw [Int.natAbs_tdiv]; exact Nat.div_le_self _ _
       unfold Lim at o3 o4 o6; have w1 : IntKind.i64.wrap (a.tdiv x) = a.tdiv x := (Qw _).trans (wrp (by omega) (by omega)); have w2 : IntKind.i64.wrap (-y * a.tdiv x) = -y * a.tdiv x := (Qw _).trans (wrp (by omega) (by omega)); have w3 : IntKind.i64.wrap (-y) = -y := (Qw _).trans (wrp (by omega) (by omega)); have Bq : (pn : Int) < 6 := o2; have hHG := aa.mk (show (wr.alloc (.cells (arr zeros6) 76)).heap[wr.heap.size]? = some (.cells (arr zeros6) 76 (0, 0)) from YK wr _); have HXP := aa.mk hxp; clear hze ha o1 o2 o3 o4 o5 o6 hrange hrg hr6 lJ hq hr hcx hcy hxp hx hy; go_wp2_with (first
        | (refine wpList_load_mid rfl 76 _ rfl b (ob + k * 6) rfl (r.map (Value.int .i64)) _ HRG.out Try.underlying76 rfl HI.out ?_)
        | (refine wpList_store_row rfl 76 _ _ rfl wr.heap.size (arr r) rfl rfl 76 (arr zeros6) hHG.out HI2.out (by rw [ZW, ZW, HR6.out]; rfl) (YU r) ?_))
       have hbw := Yq ((Below.refl wr.heap.size wr).alloc (Nat.le_refl _) (.cells (arr zeros6) 76)) (Nat.le_refl _) (arr r); have HSP := aa.mk (show (((wr.alloc (.cells (arr zeros6) 76)).setRow wr.heap.size (arr r)).drew).cell? (adp.add k) = some (.int .i64 (pn : Int)) from (hbw.cell (World.block_lt_of_cell? wr _ HXP.out)).trans HXP.out); have HSX := aa.mk (show (((wr.alloc (.cells (arr zeros6) 76)).setRow wr.heap.size (arr r)).drew).cell? ⟨wr.heap.size, pn, none⟩ = some (.int .i64 x) from HCX.out _ _ (setRow_heap _ _ _ _ _ _ hHG.out)); have HSY := aa.mk (show (((wr.alloc (.cells (arr zeros6) 76)).setRow wr.heap.size (arr r)).drew).cell? ⟨wr.heap.size, f, none⟩ = some (.int .i64 y) from HCY.out _ _ (setRow_heap _ _ _ _ _ _ hHG.out)); have pS := aa.mk (show (((wr.alloc (.cells (arr zeros6) 76)).setRow wr.heap.size (arr r)).drew).heap[b12]? = some (.cells (arr q) 76 (0, 0)) from (hbw.block _ (Q7 fv.out)).trans fv.out); have n3_ := aa.mk (YD (Qd HB9.out hbw)); have hql := HQL.out; have CU := Yx pS.out pn (by omega); have FC := Vx pS.out pn; clear HB9 hbw hHG HXP HRG fv; have HB9 := n3_; have HST := aa.mk (VO pS.out pn (-y * a.tdiv x)); clear n3_; generalize (wr.alloc (.cells (arr zeros6) 76)).setRow wr.heap.size (arr r) = W2 at *; generalize wr.heap.size = b14 at *; generalize q.getD pn 0 = old at CU; refine Ym (n := 19) (S := fun w' => w'.cell? (adp.add k) = some (.int .i64 (pn : Int)) ∧ w'.cell? ⟨b14, f, none⟩ = some (.int .i64 y) ∧ w'.cell? ⟨b14, pn, none⟩ = some (.int .i64 x)) (ds := [18]) #[false, false, false, false, false, false, false, false, false, false, false, false, false, false, false, false, false, false, false] (by kernel_rfl) rfl rfl ⟨HSP.out, HSY.out, HSX.out⟩ (fun hHeld => ?_); refine ZT solu.tab18 solu.bits18 (fun HT_ HW_ => ?_); refine QS (i := 0) (N := some 67) (v := ?_) (a' := ?_) #[true, false, false, false, false, false, false, false, false, false, false, false, false, false, false, false, false, false, false] rfl rfl (QI HT_.out (by kernel_rfl)) (fun _ _ _ h => h) (Or.inl ⟨by rfl, ?_⟩) ?_ ?_; rotate_left
       ·intro w'; go_simp; with_reducible rfl
       rotate_left
       ·simp only [Act.put, zA, zB, zC, Qw, Qx]; rfl
       refine QS (i := 1) (N := some 68) (v := ?_) (a' := ?_) #[true, true, false, false, false, false, false, false, false, false, false, false, false, false, false, false, false, false, false] rfl rfl (QI HT_.out (by kernel_rfl)) (fun _ _ _ h => h) (Or.inl ⟨by rfl, ?_⟩) ?_ ?_; rotate_left
       ·intro w'; go_simp; with_reducible rfl
       rotate_left
       ·simp only [Act.put, zA, zB, zC, Qw, Qx]; rfl
       refine QS (i := 2) (N := some 69) (v := ?_) (a' := ?_) #[true, true, true, false, false, false, false, false, false, false, false, false, false, false, false, false, false, false, false] rfl rfl (QI HT_.out (by kernel_rfl)) (fun _ _ _ h => h) (Or.inl ⟨by rfl, ?_⟩) ?_ ?_; rotate_left
       ·intro w'; go_simp; with_reducible rfl
       rotate_left
       ·simp only [Act.put, zA, zB, zC, Qw, Qx]; rfl
       refine QS (i := 4) (N := some 71) (v := ?_) (a' := ?_) #[true, true, true, false, true, false, false, false, false, false, false, false, false, false, false, false, false, false, false] rfl rfl (QI HT_.out (by kernel_rfl)) (fun _ _ _ h => h) (Or.inl ⟨by rfl, ?_⟩) ?_ ?_; rotate_left
       ·intro w'; go_simp; with_reducible rfl
       rotate_left
       ·simp only [Act.put, zA, zB, zC, Qw, Qx]; rfl
       refine QS (i := 5) (N := some 72) (v := ?_) (a' := ?_) #[true, true, true, false, true, true, false, false, false, false, false, false, false, false, false, false, false, false, false] rfl rfl (QI HT_.out (by kernel_rfl)) (fun _ _ _ h => h) (Or.inl ⟨by rfl, ?_⟩) ?_ ?_; rotate_left
       ·intro w'; go_simp; with_reducible rfl
       rotate_left
       ·simp only [Act.put, zA, zB, zC, Qw, Qx]; rfl
       refine QS (i := 8) (N := some 75) (v := ?_) (a' := ?_) #[true, true, true, false, true, true, false, false, true, false, false, false, false, false, false, false, false, false, false] rfl rfl (QI HT_.out (by kernel_rfl)) (fun _ _ _ h => h) (Or.inl ⟨by rfl, ?_⟩) ?_ ?_; rotate_left
       ·intro w'; go_simp; with_reducible rfl
       rotate_left
       ·simp only [Act.put, zA, zB, zC, Qw, Qx]; rfl
       refine QS (i := 9) (N := some 76) (v := ?_) (a' := ?_) #[true, true, true, false, true, true, false, false, true, true, false, false, false, false, false, false, false, false, false] rfl rfl (QI HT_.out (by kernel_rfl)) (fun _ _ _ h => h) (Or.inl ⟨by rfl, ?_⟩) ?_ ?_; rotate_left
       ·intro w'; go_simp; with_reducible rfl
       rotate_left
       ·simp only [Act.put, zA, zB, zC, Qw, Qx]; rfl
       refine QS (i := 10) (N := some 77) (v := ?_) (a' := ?_) #[true, true, true, false, true, true, false, false, true, true, true, false, false, false, false, false, false, false, false] rfl rfl (QI HT_.out (by kernel_rfl)) (fun _ _ _ h => h) (Or.inl ⟨by rfl, ?_⟩) ?_ ?_; rotate_left
       ·intro w'; go_simp; with_reducible rfl
       rotate_left
       ·simp only [Act.put, zA, zB, zC, Qw, Qx]; rfl
       refine QS (i := 11) (N := some 78) (v := ?_) (a' := ?_) #[true, true, true, false, true, true, false, false, true, true, true, true, false, false, false, false, false, false, false] rfl rfl (QI HT_.out (by kernel_rfl)) (fun _ _ _ h => h) (Or.inl ⟨by rfl, ?_⟩) ?_ ?_; rotate_left
       ·intro w'; go_simp; with_reducible rfl
       rotate_left
       ·simp only [Act.put, zA, zB, zC, Qw, Qx]; rfl
       refine Zy (i := 3) (N := some 70) (v := ?_) (a' := ?_) #[true, true, true, true, true, true, false, false, true, true, true, true, false, false, false, false, false, false, false] rfl rfl (Q4 HT_.out HW_.out (by kernel_rfl)) (fun _ _ _ h => h) (Or.inl ⟨by rfl, ?_⟩) hHeld ?_ ?_; rotate_left
       ·rintro w' ⟨s0, s1, s2⟩; go_simp; with_reducible rfl
       rotate_left
       ·simp only [Act.put, zA, zB, zC, Qw, Qx]; rfl
       refine Zy (i := 6) (N := some 73) (v := ?_) (a' := ?_) #[true, true, true, true, true, true, true, false, true, true, true, true, false, false, false, false, false, false, false] rfl rfl (Q4 HT_.out HW_.out (by kernel_rfl)) (fun _ _ _ h => h) (Or.inl ⟨by rfl, ?_⟩) hHeld ?_ ?_; rotate_left
       ·rintro w' ⟨s0, s1, s2⟩; go_simp; with_reducible rfl
       rotate_left
       ·simp only [Act.put, zA, zB, zC, Qw, Qx]; rfl
       refine QS (i := 7) (N := some 74) (v := ?_) (a' := ?_) #[true, true, true, true, true, true, true, true, true, true, true, true, false, false, false, false, false, false, false] rfl rfl (QI HT_.out (by kernel_rfl)) (fun _ _ _ h => h) (Or.inl ⟨by rfl, ?_⟩) ?_ ?_; rotate_left
       ·intro w'; go_simp; with_reducible rfl
       rotate_left
       ·simp only [Act.put, zA, zB, zC, Qw, Qx]; rfl
       refine Zy (i := 12) (N := some 79) (v := ?_) (a' := ?_) #[true, true, true, true, true, true, true, true, true, true, true, true, true, false, false, false, false, false, false] rfl rfl (Q4 HT_.out HW_.out (by kernel_rfl)) (fun _ _ _ h => h) (Or.inl ⟨by rfl, ?_⟩) hHeld ?_ ?_; rotate_left
       ·rintro w' ⟨s0, s1, s2⟩; go_simp; with_reducible rfl
       rotate_left
       ·simp only [Act.put, zA, zB, zC, Qw, Qx]; rfl
       refine QS (i := 13) (N := some 80) (v := ?_) (a' := ?_) #[true, true, true, true, true, true, true, true, true, true, true, true, true, true, false, false, false, false, false] rfl rfl (QI HT_.out (by kernel_rfl)) (fun _ _ _ h => h) (Or.inl ⟨by rfl, ?_⟩) ?_ ?_; rotate_left
       ·intro w'; go_simp; with_reducible rfl
       rotate_left
       ·simp only [Act.put, zA, zB, zC, Qw, Qx]; rfl
       refine Zy (i := 14) (N := some 81) (v := ?_) (a' := ?_) #[true, true, true, true, true, true, true, true, true, true, true, true, true, true, true, false, false, false, false] rfl rfl (Q4 HT_.out HW_.out (by kernel_rfl)) (fun _ _ _ h => h) (Or.inl ⟨by rfl, ?_⟩) hHeld ?_ ?_; rotate_left
       ·rintro w' ⟨s0, s1, s2⟩; go_simp; with_reducible rfl
       rotate_left
       ·simp only [Act.put, zA, zB, zC, Qw, Qx]; rfl
       refine QS (i := 15) (N := some 82) (v := ?_) (a' := ?_) #[true, true, true, true, true, true, true, true, true, true, true, true, true, true, true, true, false, false, false] rfl rfl (QI HT_.out (by kernel_rfl)) (fun _ _ _ h => h) (Or.inl ⟨by rfl, ?_⟩) ?_ ?_; rotate_left
       ·intro w'; go_simp; with_reducible rfl
       rotate_left
       ·simp only [Act.put, zA, zB, zC, Qw, Qx]; rfl
       refine QS (i := 16) (N := some 83) (v := ?_) (a' := ?_) #[true, true, true, true, true, true, true, true, true, true, true, true, true, true, true, true, true, false, false] rfl rfl (QI HT_.out (by kernel_rfl)) (fun _ _ _ h => h) (Or.inl ⟨by rfl, ?_⟩) ?_ ?_; rotate_left
       ·intro w'; go_simp; with_reducible rfl
       rotate_left
       ·simp only [Act.put, zA, zB, zC, Qw, Qx]; rfl
       refine QS (i := 17) (N := some 84) (v := ?_) (a' := ?_) #[true, true, true, true, true, true, true, true, true, true, true, true, true, true, true, true, true, true, false] rfl rfl (QI HT_.out (by kernel_rfl)) (fun _ _ _ h => h) (Or.inl ⟨by rfl, ?_⟩) ?_ ?_; rotate_left
       ·intro w'; go_simp; with_reducible rfl
       rotate_left
       ·simp only [Act.put, zA, zB, zC, Qw, Qx]; rfl
       refine last_ (i := 18) (N := none) #[true, true, true, true, true, true, true, true, true, true, true, true, true, true, true, true, true, true, true] rfl rfl (ZL HT_.out (by kernel_rfl)) (by decide) (fun K hK => ?_); refine Uk (w1 := ?_) (by rfl) rfl ?_ ?_; rotate_left
       ·go_simp; rfl
       refine hK.out _ _ ?_; clear hK K; refine YA (Yf HT_.out (by kernel_rfl)) ?_; go_wp2_with fail
       go_roundw
       case rel => exact ⟨k + 1, q.set pn (-y * a.tdiv x), by omega, by go_num, HA2, ⟨by rw [List.length_set]; exact HQL.out⟩, ⟨HST.out⟩, ⟨HB9.out.setCell rK.out _⟩⟩
       case measure => simp [intOf]; omega
      ·obtain rfl : k = R.length := by omega
       have hq : q = o := by
        have := HA.out; rw [List.drop_eq_nil_of_le (by simp; omega), outs] at this; exact Option.some.inj this
       subst hq; have hfin := HFIN.out; unfold fin at hfin; split at hfin
       case isFalse => cases hfin
       rename_i hfc
       obtain ⟨hlim, hnz⟩ := hfc; have hql := HQL.out; have hzl : (pln q).length = 6 := by rw [YM, hql]
       have hzlim : ∀ x ∈ pln q, Lim x := pln_lim hlim; have hnl := nzi_lt ((pln q).take count); obtain ⟨fn, hfn⟩ := Int.eq_ofNat_of_zero_le hnz; rw [hfn] at hnl; have FB : fn < 6 := by rw [List.length_take] at hnl; omega
       rw [hfn] at hfin; simp only [Int.toNat_natCast] at hfin; have HFS := aa.mk (Option.some.inj hfin); have HPC := aa.mk (fun W => VY q W hql hlim); have HI2 := aa.mk (show (Try.prog.info? 76).map (·.size) = some (arr q).size by rw [ZW, hql]; exact size76); have HI3 := aa.mk (show (Try.prog.info? 76).map (·.size) = some (arr (pln q)).size by rw [ZW, hzl]; exact size76); have HZL := aa.mk hzl; have HZM := aa.mk hzlim; have HSZ := aa.mk (show (arr (pln q)).size = (arr q).size by rw [ZW, ZW, hzl, hql]); have htl : ((pln q).take count).length = count := by rw [List.length_take, hzl]; omega
       have HNZ := aa.mk (fun (W : World) (hh : W.heap[b12]? = some (.cells (arr (pln q)) 76 (0, 0))) => by
        have h1 := nzi_calls (some ⟨b12, 0, none⟩) 6 ((pln q).take count) W (C_arr hh (by omega) (by omega)) (by omega) (by omega); rw [htl, hfn] at h1; exact h1)
       have HCLN := aa.mk (fun (W : World) (u : List Int) (hu : u.length = 6) (hh : W.heap[b12]? = some (.cells (arr u) 76 (0, 0))) => by
        have h1 := Zx.calls (some ⟨b12, 0, none⟩) 6 (u.take count) (u.take count) W (C_arr hh (by omega) (by omega)) (by rw [List.length_take]; omega) (by unfold Zx.f; rw [if_pos (by rw [List.length_take]; omega)]); rw [show (u.take count).length = count by rw [List.length_take]; omega] at h1; exact h1)
       clear hfin hlim hnz hql hzl hzlim hnl hfn htl HFIN HA hkR; generalize pln q = z at *; have FA : (fn : Int) < 6 := by omega
       have FD : count ≤ 6 := HCT.out; have hsl := slice76 b12 count HCT.out; obtain ⟨zf, hzf⟩ : ∃ v, v = z.getD fn 0 := ⟨_, rfl⟩; have HCZ := aa.mk (fun (W : World) (hh : W.heap[b12]? = some (.cells (arr z) 76 (0, 0))) => (Yx hh fn (by rw [HZL.out]; omega)).trans (by rw [← hzf])); by_cases hneg : z.getD fn 0 < 0
       ·have hfs := HFS.out; rw [if_pos hneg] at hfs; rw [← hzf] at hneg; have c2 : decide (zf < 0) = true := decide_eq_true hneg; have tP := aa.mk hfs; clear HFS hfs hzf; go_wp2_with (first
         | (refine wpList_load_row rfl 76 _ rfl b12 rfl 76 (arr q) (0, 0) _ fv.out Try.underlying76 rfl HI2.out ?_)
         | ((with_reducible refine Qk (f := 118) rfl ?_); refine QE (some 87) rfl rfl Try.func118 (by kernel_rfl) rfl #[.agg (arr q)] rfl (by (try simp only [List.map_toArray, List.map_cons, List.map_nil]); first | done | rfl) ?_; (with_reducible refine (HPC.out _).mono ?_); rintro e w18 ⟨rfl, hb⟩; refine ⟨_, rfl, ?_⟩; have n1_ := aa.mk (Qc fv.out hb); have n2_ := aa.mk (Qd HB9.out hb); have kT := aa.mk (setRow_heap w18 b12 (arr q) (arr z) 76 (0, 0) n1_.out); have HBZ := aa.mk (Yq n2_.out rK.out (arr z)); clear fv HB9 hb; have fv := n1_; clear n1_ n2_)
         | (refine wpList_store_row rfl 76 _ _ rfl b12 (arr z) rfl rfl 76 (arr q) fv.out HI3.out HSZ.out.symm (YU z) ?_)
         | ((with_reducible refine Qk (f := 119) rfl ?_); refine QE (some 90) rfl rfl Try.func119 (by kernel_rfl) rfl #[.slice (some ⟨b12, 0, none⟩) count 6, .func (.func 120) #[] #[]] rfl (by (try simp only [List.map_toArray, List.map_cons, List.map_nil]); first | done | rfl) ?_; (with_reducible refine (HNZ.out _ kT.out).mono ?_); rintro e w19 ⟨rfl, hb⟩; refine ⟨_, rfl, ?_⟩; have lu := aa.mk (Qc kT.out hb); have HBY := aa.mk (Qd HBZ.out hb); have hcz := HCZ.out _ lu.out; clear kT HBZ hb))
        go_loopw [95] (fun i_ w' => ∃ (i : Nat) (u : List Int), i ≤ 6 ∧ i_ = .int .i64 i ∧ aa (u = (z.take i).map (fun x => -x) ++ z.drop i) ∧ aa (w'.heap[b12]? = some (.cells (arr u) 76 (0, 0))) ∧ aa (Below w9.heap.size w9 w')) (fun i_ _ => 6 - (intOf i_).toNat)
        case atStart => exact ⟨0, z, by omega, rfl, ⟨by simp⟩, lu, HBY⟩
        case round =>
         clear lu HBY hcz fv; obtain ⟨i, u, hi, rfl, HU, fv, HB9⟩ := hrel; have hul : u.length = 6 := by rw [HU.out]; simp [HZL.out]; omega
         by_cases hi6 : i < 6
         ·have hiz : i < z.length := by rw [HZL.out]; exact hi6
          have hui : u.getD i 0 = z[i] := by
           rw [HU.out, List.getD_eq_getElem?_getD, List.getElem?_append_right (by simp; omega), List.length_map, List.length_take, Nat.min_eq_left (by omega), Nat.sub_self, List.getElem?_drop, Nat.add_zero, List.getElem?_eq_getElem hiz]; rfl
          have hset : u.set i (-z[i]) = (z.take (i + 1)).map (fun x => -x) ++ z.drop (i + 1) := by
           rw [HU.out, List.set_append_right _ _ (by simp; omega), List.length_map, List.length_take, Nat.min_eq_left (by omega), Nat.sub_self, List.drop_eq_getElem_cons hiz, List.set_cons_zero, List.take_succ_eq_append_getElem hiz, List.map_append, List.append_assoc]; rfl
          have HSET := aa.mk hset; have hcu := Yx fv.out i (by omega); rw [hui] at hcu; have hfu := Vx fv.out i; have hzx := HZM.out _ (List.getElem_mem hiz); unfold Lim at hzx; generalize z[i] = x at *; have w1 : wrap64 (-x) = -x := wrp (by omega) (by omega); clear hui hset; go_wp2_with fail
          go_roundw
          case rel => exact ⟨i + 1, u.set i (-x), by omega, by go_num, HSET, ⟨VO fv.out i _⟩, ⟨HB9.out.setCell rK.out _⟩⟩
          case measure => simp [intOf]; omega
         ·obtain rfl : i = 6 := by omega
          have HUL := aa.mk hul; have hus : u.take count = s := by
           have e1 : z.take 6 = z := List.take_of_length_le (by rw [HZL.out]; exact Nat.le_refl _); have e2 : z.drop 6 = [] := List.drop_eq_nil_of_le (by rw [HZL.out]; exact Nat.le_refl _); rw [← tP.out, HU.out, e1, e2, List.append_nil]
          have HUS := aa.mk hus; clear hus hul; go_wp2_with (first | ((with_reducible refine Qk (f := 79) rfl ?_); refine QE (some 107) rfl rfl Try.func79 (by kernel_rfl) rfl #[.slice (some ⟨b12, 0, none⟩) count 6] rfl (by (try simp only [List.map_toArray, List.map_cons, List.map_nil]); first | done | rfl) ?_; (with_reducible refine (HCLN.out _ u HUL.out fv.out).mono ?_); rintro e w20 ⟨v20, rfl, ho, hb⟩; refine ⟨_, rfl, ?_⟩; have HOO := aa.mk ho; have HBF := aa.mk (Qd HB9.out hb); clear ho hb))
          go_ret2; refine ⟨_, rfl, ?_, Qd HB2.out HBF.out⟩; rw [← HUS.out]; exact Kd.Zk HOO.out (Nat.le_trans HW9.out HB9.out.size)
       ·have hfs := HFS.out; rw [if_neg hneg] at hfs; rw [← hzf] at hneg; have c2 : decide (zf < 0) = false := decide_eq_false hneg; have tP := aa.mk hfs; clear HFS hfs hzf; go_wp2_with (first
         | (refine wpList_load_row rfl 76 _ rfl b12 rfl 76 (arr q) (0, 0) _ fv.out Try.underlying76 rfl HI2.out ?_)
         | ((with_reducible refine Qk (f := 118) rfl ?_); refine QE (some 87) rfl rfl Try.func118 (by kernel_rfl) rfl #[.agg (arr q)] rfl (by (try simp only [List.map_toArray, List.map_cons, List.map_nil]); first | done | rfl) ?_; (with_reducible refine (HPC.out _).mono ?_); rintro e w18 ⟨rfl, hb⟩; refine ⟨_, rfl, ?_⟩; have n1_ := aa.mk (Qc fv.out hb); have n2_ := aa.mk (Qd HB9.out hb); have kT := aa.mk (setRow_heap w18 b12 (arr q) (arr z) 76 (0, 0) n1_.out); have HBZ := aa.mk (Yq n2_.out rK.out (arr z)); clear fv HB9 hb; have fv := n1_; clear n1_ n2_)
         | (refine wpList_store_row rfl 76 _ _ rfl b12 (arr z) rfl rfl 76 (arr q) fv.out HI3.out HSZ.out.symm (YU z) ?_)
         | ((with_reducible refine Qk (f := 119) rfl ?_); refine QE (some 90) rfl rfl Try.func119 (by kernel_rfl) rfl #[.slice (some ⟨b12, 0, none⟩) count 6, .func (.func 120) #[] #[]] rfl (by (try simp only [List.map_toArray, List.map_cons, List.map_nil]); first | done | rfl) ?_; (with_reducible refine (HNZ.out _ kT.out).mono ?_); rintro e w19 ⟨rfl, hb⟩; refine ⟨_, rfl, ?_⟩; have lu := aa.mk (Qc kT.out hb); have HBY := aa.mk (Qd HBZ.out hb); have hcz := HCZ.out _ lu.out; clear kT HBZ hb)
         | ((with_reducible refine Qk (f := 79) rfl ?_); refine QE (some 107) rfl rfl Try.func79 (by kernel_rfl) rfl #[.slice (some ⟨b12, 0, none⟩) count 6] rfl (by (try simp only [List.map_toArray, List.map_cons, List.map_nil]); first | done | rfl) ?_; (with_reducible refine (HCLN.out _ z HZL.out lu.out).mono ?_); rintro e w20 ⟨v20, rfl, ho, hb⟩; refine ⟨_, rfl, ?_⟩; have HOO := aa.mk ho; have HBF := aa.mk (Qd HBY.out hb); clear ho hb))
        go_ret2; refine ⟨_, rfl, ?_, Qd HB2.out HBF.out⟩; rw [← tP.out]; exact Kd.Zk HOO.out (Nat.le_trans HW9.out HBY.out.size)
theorem Zd.calls (A0 : Option Addr) (c0 : Nat) (l0 : List S76) (a1 : Int) (r1 : List Int) (r2 : Bool) (w : World) (hr0 : Kd.C k76 w A0 l0.length l0) (hc0 : l0.length ≤ c0) (h : Zd.f l0 a1 = some (r1, r2)) :
  Calls Try.prog 82 #[.slice A0 l0.length c0, .int .i64 a1] w fun e w' => ∃ v0_ : Value, e = .returned (.tuple #[v0_, .bool r2]) ∧ Kd.R (Kd.int .i64) 3 w' w.heap.size (fun _ => True) v0_ r1 ∧ Below w.heap.size w w' := by
 unfold Zd.f at h; split at h
 case isFalse => cases h
 rename_i hc
 obtain ⟨⟨R, P⟩, h1, h2⟩ := Option.bind_eq_some_iff.1 h; obtain ⟨n, rfl⟩ := Int.eq_ofNat_of_zero_le hc.1; exact sol_calls A0 c0 l0 n R P r1 r2 w hr0 hc0 (by omega) h1 h2
end Go.Proofs.Ytdneelgnmnpanaa.P
end
section
namespace Go.Proofs.Ytdneelgnmnpanaa.P
open Go.RowKit Go.Proofs.YtdneelgnmnpanaaW.PrintWords Go.Proofs.YtdneelgnmnpanaaW.PrintLast Go.Proofs.YtdneelgnmnpanaaW.PrintMore
attribute [local go_sem] max2_int min2_int max_two min_two max_three min_three max_four min_four
def Za.f (k : Nat) (ae : List (List Int)) (ag : List (List Int)) : Option (List Int × Bool × Int) := (Qm.f k ae ag).bind fun t102 => (if t102 = 0 then ((ZK.f ae ag).bind fun t103 => ((QV.f ae ag).bind fun t106 => ((Zd.f t103 t106).bind fun cv => (if cv.2 = true then ((Qr.f k cv.1).bind fun t111 => (if t111 ≤ 0 then (some (([] : List Int), false, 0)) else (some (cv.1, true, 0)))) else (some (([] : List Int), false, 0)))))) else (some (([] : List Int), false, t102)))
theorem Za.mono : ∀ a0 a1 k, LeO (Za.f k a0 a1) (Za.f (k + 1) a0 a1) := by
 intro a0 a1 k; unfold Za.f; repeat' first | (with_reducible exact Qr.mono _ _) | (with_reducible exact Qm.mono _ _ _) | (with_reducible exact LeO.refl _) | (with_reducible exact LeO.none _) | (with_reducible refine LeO.ite ?_ ?_) | (with_reducible refine LeO.bind ?_ (fun _ => ?_)) | exact Qr.mono _ _ | exact Qm.mono _ _ _ | exact LeO.none _ | refine LeO.ite ?_ ?_ | refine LeO.bind ?_ (fun _ => ?_)
def Za.T4 : Bool × List (List Nat × List Nat) := (true, [([], []), ([0], [0]), ([], []), ([2, 1], [2]), ([1, 3, 3], [1, 3]), ([4], [4]), ([5], [5]), ([5], [5]), ([6, 4, 0, 1, 2, 3, 4, 5, 6], [6]), ([7, 8, 0, 1, 2, 3, 4, 5, 6, 7, 8], [7])])
def Za.B4 : List Nat := [0, 1, 0, 7, 15, 31, 63, 63, 127, 511]
theorem Za.tab4 : rtab .any (opsOf Try.f41 4) = Za.T4 := by kernel_rfl
theorem Za.bits4 : waitsOk Za.T4.2 Za.B4 = true := by kernel_rfl
set_option maxHeartbeats 8000000 in
set_option maxRecDepth 100000 in
theorem Za.calls (k : Nat) (aq : Option Addr) (an : Nat) (ae : List (List Int)) (ak : Option Addr) (ao : Nat) (ag : List (List Int)) (r1 : List Int) (r2 : Bool) (r3 : Int) (w : World) (bp : Kd.C (Kd.slice 3 (Kd.int .i64)) w aq ae.length ae) (br : ae.length ≤ an) (bo : Kd.C (Kd.slice 3 (Kd.int .i64)) w ak ag.length ag) (bq : ag.length ≤ ao) (h : Za.f k ae ag = some (r1, r2, r3)) :
  Calls Try.prog 41 #[.agg #[.slice aq ae.length an, .slice ak ag.length ao]] w fun e w' => ∃ v0_ : Value, e = .returned (.tuple #[v0_, .bool r2, .int .i64 r3]) ∧ Kd.R (Kd.int .i64) 3 w' w.heap.size (fun _ => True) v0_ r1 ∧ Below w.heap.size w w' := by
 have fa := Try.underlying24; have aI := aa.mk bp; have aQ := aa.mk br; clear bp br; have aW := aa.mk bo; have aT := aa.mk bq; clear bo bq; have HB := aa.mk (Below.refl w.heap.size w); have H : ((Qm.f k ae ag).bind fun t102 => (if t102 = 0 then ((ZK.f ae ag).bind fun t103 => ((QV.f ae ag).bind fun t106 => ((Zd.f t103 t106).bind fun cv => (if cv.2 = true then ((Qr.f k cv.1).bind fun t111 => (if t111 ≤ 0 then (some (([] : List Int), false, 0)) else (some (cv.1, true, 0)))) else (some (([] : List Int), false, 0)))))) else (some (([] : List Int), false, t102)))) = some (r1, r2, r3) := h; clear h; replace H := Option.bind_eq_some_iff.mp H; obtain ⟨t102, A20, H⟩ := H; replace H : (if t102 = 0 then ((ZK.f ae ag).bind fun t103 => ((QV.f ae ag).bind fun t106 => ((Zd.f t103 t106).bind fun cv => (if cv.2 = true then ((Qr.f k cv.1).bind fun t111 => (if t111 ≤ 0 then (some (([] : List Int), false, 0)) else (some (cv.1, true, 0)))) else (some (([] : List Int), false, 0)))))) else (some (([] : List Int), false, t102))) = some (r1, r2, r3) := H; have A2 := aa.mk A20; clear A20; by_cases c3 : t102 = 0
 ·rw [if_pos c3] at H; have cK : (t102 == 0) = true := beq_iff_eq.mpr c3; have dD : (t102 != 0) = false := bne_eq_false_iff_eq.mpr c3; clear c3; replace H := Option.bind_eq_some_iff.mp H; obtain ⟨t103, A40, H⟩ := H; replace H : ((QV.f ae ag).bind fun t106 => ((Zd.f t103 t106).bind fun cv => (if cv.2 = true then ((Qr.f k cv.1).bind fun t111 => (if t111 ≤ 0 then (some (([] : List Int), false, 0)) else (some (cv.1, true, 0)))) else (some (([] : List Int), false, 0))))) = some (r1, r2, r3) := H; have A4 := aa.mk A40; clear A40; replace H := Option.bind_eq_some_iff.mp H; obtain ⟨t106, A50, H⟩ := H; replace H : ((Zd.f t103 t106).bind fun cv => (if cv.2 = true then ((Qr.f k cv.1).bind fun t111 => (if t111 ≤ 0 then (some (([] : List Int), false, 0)) else (some (cv.1, true, 0)))) else (some (([] : List Int), false, 0)))) = some (r1, r2, r3) := H; have A5 := aa.mk A50; clear A50; replace H := Option.bind_eq_some_iff.mp H; obtain ⟨⟨t107, t108⟩, A60, H⟩ := H; replace H : (if t108 = true then ((Qr.f k t107).bind fun t111 => (if t111 ≤ 0 then (some (([] : List Int), false, 0)) else (some (t107, true, 0)))) else (some (([] : List Int), false, 0))) = some (r1, r2, r3) := H; have A6 := aa.mk A60; clear A60; by_cases c7 : t108 = true
  ·subst c7; have H1 : ((Qr.f k t107).bind fun t111 => (if t111 ≤ 0 then (some (([] : List Int), false, 0)) else (some (t107, true, 0)))) = some (r1, r2, r3) := by rw [if_pos rfl] at H; exact H
   clear H; have H := H1; clear H1; replace H := Option.bind_eq_some_iff.mp H; obtain ⟨t111, A80, H⟩ := H; replace H : (if t111 ≤ 0 then (some (([] : List Int), false, 0)) else (some (t107, true, 0))) = some (r1, r2, r3) := H; have A8 := aa.mk A80; clear A80; by_cases c9 : t111 ≤ 0
   ·rw [if_pos c9] at H; have ft : decide (t111 ≤ 0) = true := decide_eq_true c9; clear c9; simp only [Option.some.injEq, Prod.mk.injEq] at H; obtain ⟨rfl, rfl, rfl⟩ := H; go_enter Try.func41, Try.ntmps41; try go_wp2_with (first | ((with_reducible refine QD (N := 1) rfl ?_); refine QJ ?hg (N := 1) ?hd (cs := #[.slice aq ae.length an, .slice ak ag.length ao]) (t := 24) ?hr ?_; (case hd => rfl); (case hg => rfl); (case hr => first | (go_simp; done) | (go_simp; rfl)); intro af hg w10 hbox hb; have ab := aa.mk (hbox); have bA := aa.mk ((by rw [hg]; exact (Qe bB) : w.heap.size ≤ af)); have bk := aa.mk ((by rw [hg]; exact (Qe bB) : w.heap.size ≤ af)); replace HB := aa.mk (Qd bB hb); clear hb hbox hg; have dN : w10.cell? ⟨af, 0, none⟩ = some (.slice aq ae.length an) := (Qa ab.out 0).trans rfl; have dM : w10.cell? ⟨af, 1, none⟩ = some (.slice ak ag.length ao) := (Qa ab.out 1).trans rfl; have dL := Qb ab.out 0; have dK := Qb ab.out 1) | ((with_reducible refine Qk (f := 38) rfl ?_); refine QE (some 9) rfl rfl Try.func38 (by kernel_rfl) rfl #[.agg #[.slice aq ae.length an, .slice ak ag.length ao]] rfl hA ?_; (with_reducible refine (Qm.calls k _ _ ae _ _ ag t102 _ ?aj ?ai ?au ?ar A2.out).mono ?_); (case aj => exact (Kd.Ql aI.out HB.out)); (case ai => exact aQ.out); (case au => exact (Kd.Ql aW.out HB.out)); (case ar => exact aT.out); rintro e w12 ⟨rfl, hb⟩; refine ⟨_, rfl, ?_⟩; replace ab := aa.mk (Qc ab.out hb); replace HB := aa.mk (Qd bB hb); (try clear hb); (try clear hb2); (try clear hk); (try clear hi)))
    replace ab := aa.mk (Qh ab.out); replace HB := aa.mk (QL HB.out); refine Ym (n := 10) (S := fun w' => w'.cell? ⟨af, 0, none⟩ = some (.slice aq ae.length an) ∧ w'.cell? ⟨af, 1, none⟩ = some (.slice ak ag.length ao)) (ds := []) #[false, false, false, false, false, false, false, false, false, false] (by kernel_rfl) rfl rfl ⟨(Qa ab.out 0).trans rfl, (Qa ab.out 1).trans rfl⟩ (fun hHeld => ?_); refine ZT Za.tab4 Za.bits4 (fun HT_ HW_ => ?_); generalize w12.drew = w13 at ab HB hHeld ⊢; refine Zy (i := 0) (N := some 14) (v := ?_) (a' := ?_) #[true, false, false, false, false, false, false, false, false, false] rfl rfl (Q4 HT_.out HW_.out (by kernel_rfl)) (fun _ _ _ h => h) (Or.inl ⟨by rfl, ?_⟩) hHeld ?_ ?_; rotate_left
    ·rintro w' ⟨s0, s1⟩; go_simp; with_reducible rfl
    rotate_left
    ·simp only [Act.put, zA, zB, zC, Qw, Qx]; rfl
    refine Zy (i := 2) (N := some 16) (v := ?_) (a' := ?_) #[true, false, true, false, false, false, false, false, false, false] rfl rfl (Q4 HT_.out HW_.out (by kernel_rfl)) (fun _ _ _ h => h) (Or.inl ⟨by rfl, ?_⟩) hHeld ?_ ?_; rotate_left
    ·rintro w' ⟨s0, s1⟩; go_simp; with_reducible rfl
    rotate_left
    ·simp only [Act.put, zA, zB, zC, Qw, Qx]; rfl
    refine one_ (i := 1) (N := some 15) #[true, true, true, false, false, false, false, false, false, false] rfl rfl (ZL HT_.out (by kernel_rfl)) (by decide) (fun K hK => ?_); refine Yz Try.func73 (by kernel_rfl) rfl #[.agg #[.slice aq ae.length an, .slice ak ag.length ao]] (by rfl) rfl rfl hA ?_; with_reducible refine (ZK.calls _ _ ae _ _ ag t103 _ ?aj ?ai ?au ?ar A4.out).mono ?_
    (case aj => exact (Kd.Ql aI.out HB.out))
    (case ai => exact aQ.out)
    (case au => exact (Kd.Ql aW.out HB.out))
    (case ar => exact aT.out)
    rintro e w14 ⟨e6, rfl, ho0, hb⟩; refine ⟨_, rfl, ?_⟩; have aH := aa.mk (Kd.Zk ho0 (Qe bB)); replace ab := aa.mk (Qc ab.out hb); replace HB := aa.mk (Qd bB hb); (try clear hb)
    (try clear hb2)
    (try clear hk)
    (try clear hi)
    (try clear ho0)
    refine hK.out _ _ ⟨(Qa ab.out 0).trans rfl, (Qa ab.out 1).trans rfl⟩ (fun hHeld => ?_); clear hK K; refine Ye (a' := ?_) ?_ ?_; rotate_left
    ·show Act.put _ (some 15) _ = _
     simp only [Act.put, zA, zB, zC, Qw, Qx]; rfl
    refine one_ (i := 3) (N := some 17) #[true, true, true, true, false, false, false, false, false, false] rfl rfl (ZL HT_.out (by kernel_rfl)) (by decide) (fun K hK => ?_); refine Yz Try.func71 (by kernel_rfl) rfl #[.agg #[.slice aq ae.length an, .slice ak ag.length ao]] (by rfl) rfl rfl hA ?_; with_reducible refine (QV.calls _ _ ae _ _ ag t106 _ ?aj ?ai ?au ?ar A5.out).mono ?_
    (case aj => exact (Kd.Ql aI.out HB.out))
    (case ai => exact aQ.out)
    (case au => exact (Kd.Ql aW.out HB.out))
    (case ar => exact aT.out)
    rintro e w15 ⟨rfl, hb⟩; refine ⟨_, rfl, ?_⟩; replace aH := aa.mk (Kd.Zq aH.out hb); replace ab := aa.mk (Qc ab.out hb); replace HB := aa.mk (Qd bB hb); (try clear hb)
    (try clear hb2)
    (try clear hk)
    (try clear hi)
    obtain ⟨oX, oU, rE⟩ := Kd.Zs aH.out; (first | subst rE | (injection rE with f1_ f2_ f3_; have f4_ := f1_.symm; have f5_ := f3_.symm; clear f1_ f2_ f3_; subst f4_; subst f5_))
    refine hK.out _ _ ⟨(Qa ab.out 0).trans rfl, (Qa ab.out 1).trans rfl⟩ (fun hHeld => ?_); clear hK K; refine Ye (a' := ?_) ?_ ?_; rotate_left
    ·show Act.put _ (some 17) _ = _
     simp only [Act.put, zA, zB, zC, Qw, Qx]; rfl
    refine one_ (i := 4) (N := some 18) #[true, true, true, true, true, false, false, false, false, false] rfl rfl (ZL HT_.out (by kernel_rfl)) (by decide) (fun K hK => ?_); refine Yz Try.func82 (by kernel_rfl) rfl #[.slice oX t103.length oU, .int .i64 t106] (by rfl) rfl rfl hA ?_; with_reducible refine (Zd.calls _ _ t103 t106 t107 true _ ?aj ?ai A6.out).mono ?_
    (case aj => exact (Kd.QW aH.out).2.2)
    (case ai => exact (Kd.QW aH.out).2.1)
    rintro e w17 ⟨fY, rfl, ho0, hb⟩; refine ⟨_, rfl, ?_⟩; replace aH := aa.mk (Kd.Zq aH.out hb); have bN := aa.mk (Kd.Zk ho0 (Qe bB)); replace ab := aa.mk (Qc ab.out hb); replace HB := aa.mk (Qd bB hb); (try clear hb)
    (try clear hb2)
    (try clear hk)
    (try clear hi)
    (try clear ho0)
    refine hK.out _ _ ⟨(Qa ab.out 0).trans rfl, (Qa ab.out 1).trans rfl⟩ (fun hHeld => ?_); clear hK K; refine Ye (a' := ?_) ?_ ?_; rotate_left
    ·show Act.put _ (some 18) _ = _
     simp only [Act.put, zA, zB, zC, Qw, Qx]; rfl
    refine QS (i := 5) (N := some 13) (v := ?_) (a' := ?_) #[true, true, true, true, true, true, false, false, false, false] rfl rfl (QI HT_.out (by kernel_rfl)) (fun _ _ _ h => h) (Or.inl ⟨by rfl, ?_⟩) ?_ ?_; rotate_left
    ·intro w'; go_simp; with_reducible rfl
    rotate_left
    ·simp only [Act.put, zA, zB, zC, Qw, Qx]; rfl
    refine QS (i := 6) (N := some 19) (v := ?_) (a' := ?_) #[true, true, true, true, true, true, true, false, false, false] rfl rfl (QI HT_.out (by kernel_rfl)) (fun _ _ _ h => h) (Or.inl ⟨by rfl, ?_⟩) ?_ ?_; rotate_left
    ·intro w'; go_simp; with_reducible rfl
    rotate_left
    ·simp only [Act.put, zA, zB, zC, Qw, Qx]; rfl
    refine QS (i := 7) (N := some 20) (v := ?_) (a' := ?_) #[true, true, true, true, true, true, true, true, false, false] rfl rfl (QI HT_.out (by kernel_rfl)) (fun _ _ _ h => h) (Or.inl ⟨by rfl, ?_⟩) ?_ ?_; rotate_left
    ·intro w'; go_simp; with_reducible rfl
    rotate_left
    ·simp only [Act.put, zA, zB, zC, Qw, Qx]; rfl
    refine QS (i := 8) (N := some 6) (v := ?_) (a' := ?_) #[true, true, true, true, true, true, true, true, true, false] rfl rfl (QI HT_.out (by kernel_rfl)) (fun _ _ _ h => h) (Or.inl ⟨by rfl, ?_⟩) ?_ ?_; rotate_left
    ·intro w'; go_simp; with_reducible rfl
    rotate_left
    ·simp only [Act.put, zA, zB, zC, Qw, Qx]; rfl
    refine QS (i := 9) (N := some 7) (v := ?_) (a' := ?_) #[true, true, true, true, true, true, true, true, true, true] rfl rfl (QI HT_.out (by kernel_rfl)) (fun _ _ _ h => h) (Or.inl ⟨by rfl, ?_⟩) ?_ ?_; rotate_left
    ·intro w'; go_simp; with_reducible rfl
    rotate_left
    ·simp only [Act.put, zA, zB, zC, Qw, Qx]; rfl
    refine YA (Yf HT_.out (by kernel_rfl)) ?_; obtain ⟨F6, FN, Dc⟩ := Kd.Zs bN.out; subst Dc; try go_wp2_with (first | (go_at_call 84; (with_reducible refine (Qr.calls k _ _ t107 t111 _ ?aj ?ai A8.out).mono ?_); (case aj => exact (Kd.QW bN.out).2.2); (case ai => exact (Kd.QW bN.out).2.1); rintro e w19 ⟨rfl, hb⟩; replace aH := aa.mk (Kd.Zq aH.out hb); replace bN := aa.mk (Kd.Zq bN.out hb); replace ab := aa.mk (Qc ab.out hb); replace HB := aa.mk (Qd bB hb); (try clear hb); (try clear hb2); (try clear hk); (try clear hi)))
    go_ret3
    exact ⟨_, by first | rfl | (simp [Qo, Qn] <;> rfl) | (simp [*, Qo, Qn] <;> rfl), by first | exact Kd.Yb _ _ _ _ _ | exact Kd.Yh _ _ _ _ _ | exact Kd.V_nil _ _ _ _ _ | exact Kd.Q_nil _ _ _ _ _ | exact Kd.Yj _ _ _ _ _, bB⟩
   ·rw [if_neg c9] at H; have ft : decide (t111 ≤ 0) = false := decide_eq_false c9; clear c9; simp only [Option.some.injEq, Prod.mk.injEq] at H; obtain ⟨rfl, rfl, rfl⟩ := H; go_enter Try.func41, Try.ntmps41; try go_wp2_with (first | ((with_reducible refine QD (N := 1) rfl ?_); refine QJ ?hg (N := 1) ?hd (cs := #[.slice aq ae.length an, .slice ak ag.length ao]) (t := 24) ?hr ?_; (case hd => rfl); (case hg => rfl); (case hr => first | (go_simp; done) | (go_simp; rfl)); intro af hg w20 hbox hb; have ab := aa.mk (hbox); have bA := aa.mk ((by rw [hg]; exact (Qe bB) : w.heap.size ≤ af)); have bk := aa.mk ((by rw [hg]; exact (Qe bB) : w.heap.size ≤ af)); replace HB := aa.mk (Qd bB hb); clear hb hbox hg; have kh : w20.cell? ⟨af, 0, none⟩ = some (.slice aq ae.length an) := (Qa ab.out 0).trans rfl; have kg : w20.cell? ⟨af, 1, none⟩ = some (.slice ak ag.length ao) := (Qa ab.out 1).trans rfl; have j8 := Qb ab.out 0; have j7 := Qb ab.out 1) | ((with_reducible refine Qk (f := 38) rfl ?_); refine QE (some 9) rfl rfl Try.func38 (by kernel_rfl) rfl #[.agg #[.slice aq ae.length an, .slice ak ag.length ao]] rfl hA ?_; (with_reducible refine (Qm.calls k _ _ ae _ _ ag t102 _ ?aj ?ai ?au ?ar A2.out).mono ?_); (case aj => exact (Kd.Ql aI.out HB.out)); (case ai => exact aQ.out); (case au => exact (Kd.Ql aW.out HB.out)); (case ar => exact aT.out); rintro e w22 ⟨rfl, hb⟩; refine ⟨_, rfl, ?_⟩; replace ab := aa.mk (Qc ab.out hb); replace HB := aa.mk (Qd bB hb); (try clear hb); (try clear hb2); (try clear hk); (try clear hi)))
    replace ab := aa.mk (Qh ab.out); replace HB := aa.mk (QL HB.out); refine Ym (n := 10) (S := fun w' => w'.cell? ⟨af, 0, none⟩ = some (.slice aq ae.length an) ∧ w'.cell? ⟨af, 1, none⟩ = some (.slice ak ag.length ao)) (ds := []) #[false, false, false, false, false, false, false, false, false, false] (by kernel_rfl) rfl rfl ⟨(Qa ab.out 0).trans rfl, (Qa ab.out 1).trans rfl⟩ (fun hHeld => ?_); refine ZT Za.tab4 Za.bits4 (fun HT_ HW_ => ?_); generalize w22.drew = w23 at ab HB hHeld ⊢; refine Zy (i := 0) (N := some 14) (v := ?_) (a' := ?_) #[true, false, false, false, false, false, false, false, false, false] rfl rfl (Q4 HT_.out HW_.out (by kernel_rfl)) (fun _ _ _ h => h) (Or.inl ⟨by rfl, ?_⟩) hHeld ?_ ?_; rotate_left
    ·rintro w' ⟨s0, s1⟩; go_simp; with_reducible rfl
    rotate_left
    ·simp only [Act.put, zA, zB, zC, Qw, Qx]; rfl
    refine Zy (i := 2) (N := some 16) (v := ?_) (a' := ?_) #[true, false, true, false, false, false, false, false, false, false] rfl rfl (Q4 HT_.out HW_.out (by kernel_rfl)) (fun _ _ _ h => h) (Or.inl ⟨by rfl, ?_⟩) hHeld ?_ ?_; rotate_left
    ·rintro w' ⟨s0, s1⟩; go_simp; with_reducible rfl
    rotate_left
    ·simp only [Act.put, zA, zB, zC, Qw, Qx]; rfl
    refine one_ (i := 1) (N := some 15) #[true, true, true, false, false, false, false, false, false, false] rfl rfl (ZL HT_.out (by kernel_rfl)) (by decide) (fun K hK => ?_); refine Yz Try.func73 (by kernel_rfl) rfl #[.agg #[.slice aq ae.length an, .slice ak ag.length ao]] (by rfl) rfl rfl hA ?_; with_reducible refine (ZK.calls _ _ ae _ _ ag t103 _ ?aj ?ai ?au ?ar A4.out).mono ?_
    (case aj => exact (Kd.Ql aI.out HB.out))
    (case ai => exact aQ.out)
    (case au => exact (Kd.Ql aW.out HB.out))
    (case ar => exact aT.out)
    rintro e w24 ⟨e6, rfl, ho0, hb⟩; refine ⟨_, rfl, ?_⟩; have aH := aa.mk (Kd.Zk ho0 (Qe bB)); replace ab := aa.mk (Qc ab.out hb); replace HB := aa.mk (Qd bB hb); (try clear hb)
    (try clear hb2)
    (try clear hk)
    (try clear hi)
    (try clear ho0)
    refine hK.out _ _ ⟨(Qa ab.out 0).trans rfl, (Qa ab.out 1).trans rfl⟩ (fun hHeld => ?_); clear hK K; refine Ye (a' := ?_) ?_ ?_; rotate_left
    ·show Act.put _ (some 15) _ = _
     simp only [Act.put, zA, zB, zC, Qw, Qx]; rfl
    refine one_ (i := 3) (N := some 17) #[true, true, true, true, false, false, false, false, false, false] rfl rfl (ZL HT_.out (by kernel_rfl)) (by decide) (fun K hK => ?_); refine Yz Try.func71 (by kernel_rfl) rfl #[.agg #[.slice aq ae.length an, .slice ak ag.length ao]] (by rfl) rfl rfl hA ?_; with_reducible refine (QV.calls _ _ ae _ _ ag t106 _ ?aj ?ai ?au ?ar A5.out).mono ?_
    (case aj => exact (Kd.Ql aI.out HB.out))
    (case ai => exact aQ.out)
    (case au => exact (Kd.Ql aW.out HB.out))
    (case ar => exact aT.out)
    rintro e w25 ⟨rfl, hb⟩; refine ⟨_, rfl, ?_⟩; replace aH := aa.mk (Kd.Zq aH.out hb); replace ab := aa.mk (Qc ab.out hb); replace HB := aa.mk (Qd bB hb); (try clear hb)
    (try clear hb2)
    (try clear hk)
    (try clear hi)
    obtain ⟨DH, Dn, xb⟩ := Kd.Zs aH.out; (first | subst xb | (injection xb with f1_ f2_ f3_; have f4_ := f1_.symm; have f5_ := f3_.symm; clear f1_ f2_ f3_; subst f4_; subst f5_))
    refine hK.out _ _ ⟨(Qa ab.out 0).trans rfl, (Qa ab.out 1).trans rfl⟩ (fun hHeld => ?_); clear hK K; refine Ye (a' := ?_) ?_ ?_; rotate_left
    ·show Act.put _ (some 17) _ = _
     simp only [Act.put, zA, zB, zC, Qw, Qx]; rfl
    refine one_ (i := 4) (N := some 18) #[true, true, true, true, true, false, false, false, false, false] rfl rfl (ZL HT_.out (by kernel_rfl)) (by decide) (fun K hK => ?_); refine Yz Try.func82 (by kernel_rfl) rfl #[.slice DH t103.length Dn, .int .i64 t106] (by rfl) rfl rfl hA ?_; with_reducible refine (Zd.calls _ _ t103 t106 t107 true _ ?aj ?ai A6.out).mono ?_
    (case aj => exact (Kd.QW aH.out).2.2)
    (case ai => exact (Kd.QW aH.out).2.1)
    rintro e w27 ⟨fY, rfl, ho0, hb⟩; refine ⟨_, rfl, ?_⟩; replace aH := aa.mk (Kd.Zq aH.out hb); have bN := aa.mk (Kd.Zk ho0 (Qe bB)); replace ab := aa.mk (Qc ab.out hb); replace HB := aa.mk (Qd bB hb); (try clear hb)
    (try clear hb2)
    (try clear hk)
    (try clear hi)
    (try clear ho0)
    refine hK.out _ _ ⟨(Qa ab.out 0).trans rfl, (Qa ab.out 1).trans rfl⟩ (fun hHeld => ?_); clear hK K; refine Ye (a' := ?_) ?_ ?_; rotate_left
    ·show Act.put _ (some 18) _ = _
     simp only [Act.put, zA, zB, zC, Qw, Qx]; rfl
    refine QS (i := 5) (N := some 13) (v := ?_) (a' := ?_) #[true, true, true, true, true, true, false, false, false, false] rfl rfl (QI HT_.out (by kernel_rfl)) (fun _ _ _ h => h) (Or.inl ⟨by rfl, ?_⟩) ?_ ?_; rotate_left
    ·intro w'; go_simp; with_reducible rfl
    rotate_left
    ·simp only [Act.put, zA, zB, zC, Qw, Qx]; rfl
    refine QS (i := 6) (N := some 19) (v := ?_) (a' := ?_) #[true, true, true, true, true, true, true, false, false, false] rfl rfl (QI HT_.out (by kernel_rfl)) (fun _ _ _ h => h) (Or.inl ⟨by rfl, ?_⟩) ?_ ?_; rotate_left
    ·intro w'; go_simp; with_reducible rfl
    rotate_left
    ·simp only [Act.put, zA, zB, zC, Qw, Qx]; rfl
    refine QS (i := 7) (N := some 20) (v := ?_) (a' := ?_) #[true, true, true, true, true, true, true, true, false, false] rfl rfl (QI HT_.out (by kernel_rfl)) (fun _ _ _ h => h) (Or.inl ⟨by rfl, ?_⟩) ?_ ?_; rotate_left
    ·intro w'; go_simp; with_reducible rfl
    rotate_left
    ·simp only [Act.put, zA, zB, zC, Qw, Qx]; rfl
    refine QS (i := 8) (N := some 6) (v := ?_) (a' := ?_) #[true, true, true, true, true, true, true, true, true, false] rfl rfl (QI HT_.out (by kernel_rfl)) (fun _ _ _ h => h) (Or.inl ⟨by rfl, ?_⟩) ?_ ?_; rotate_left
    ·intro w'; go_simp; with_reducible rfl
    rotate_left
    ·simp only [Act.put, zA, zB, zC, Qw, Qx]; rfl
    refine QS (i := 9) (N := some 7) (v := ?_) (a' := ?_) #[true, true, true, true, true, true, true, true, true, true] rfl rfl (QI HT_.out (by kernel_rfl)) (fun _ _ _ h => h) (Or.inl ⟨by rfl, ?_⟩) ?_ ?_; rotate_left
    ·intro w'; go_simp; with_reducible rfl
    rotate_left
    ·simp only [Act.put, zA, zB, zC, Qw, Qx]; rfl
    refine YA (Yf HT_.out (by kernel_rfl)) ?_; obtain ⟨dV, dO, nk⟩ := Kd.Zs bN.out; subst nk; try go_wp2_with (first | (go_at_call 84; (with_reducible refine (Qr.calls k _ _ t107 t111 _ ?aj ?ai A8.out).mono ?_); (case aj => exact (Kd.QW bN.out).2.2); (case ai => exact (Kd.QW bN.out).2.1); rintro e w29 ⟨rfl, hb⟩; replace aH := aa.mk (Kd.Zq aH.out hb); replace bN := aa.mk (Kd.Zq bN.out hb); replace ab := aa.mk (Qc ab.out hb); replace HB := aa.mk (Qd bB hb); (try clear hb); (try clear hb2); (try clear hk); (try clear hi)))
    go_ret3
    exact ⟨_, by first | rfl | (simp [Qo, Qn] <;> rfl) | (simp [*, Qo, Qn] <;> rfl), by (with_reducible repeat (first | apply Kd.R_alloc | apply Kd.R_drewN | apply Kd.Zb)); exact bN.out, bB⟩
  ·replace c7 := Bool.eq_false_iff.mpr c7; subst c7; have H1 : (some (([] : List Int), false, 0)) = some (r1, r2, r3) := by rw [if_neg (show ¬ (false = true) by decide)] at H; exact H
   clear H; have H := H1; clear H1; simp only [Option.some.injEq, Prod.mk.injEq] at H; obtain ⟨rfl, rfl, rfl⟩ := H; go_enter Try.func41, Try.ntmps41; try go_wp2_with (first | ((with_reducible refine QD (N := 1) rfl ?_); refine QJ ?hg (N := 1) ?hd (cs := #[.slice aq ae.length an, .slice ak ag.length ao]) (t := 24) ?hr ?_; (case hd => rfl); (case hg => rfl); (case hr => first | (go_simp; done) | (go_simp; rfl)); intro af hg w30 hbox hb; have ab := aa.mk (hbox); have bA := aa.mk ((by rw [hg]; exact (Qe bB) : w.heap.size ≤ af)); have bk := aa.mk ((by rw [hg]; exact (Qe bB) : w.heap.size ≤ af)); replace HB := aa.mk (Qd bB hb); clear hb hbox hg; have ox : w30.cell? ⟨af, 0, none⟩ = some (.slice aq ae.length an) := (Qa ab.out 0).trans rfl; have ow : w30.cell? ⟨af, 1, none⟩ = some (.slice ak ag.length ao) := (Qa ab.out 1).trans rfl; have n5 := Qb ab.out 0; have n4 := Qb ab.out 1) | ((with_reducible refine Qk (f := 38) rfl ?_); refine QE (some 9) rfl rfl Try.func38 (by kernel_rfl) rfl #[.agg #[.slice aq ae.length an, .slice ak ag.length ao]] rfl hA ?_; (with_reducible refine (Qm.calls k _ _ ae _ _ ag t102 _ ?aj ?ai ?au ?ar A2.out).mono ?_); (case aj => exact (Kd.Ql aI.out HB.out)); (case ai => exact aQ.out); (case au => exact (Kd.Ql aW.out HB.out)); (case ar => exact aT.out); rintro e w32 ⟨rfl, hb⟩; refine ⟨_, rfl, ?_⟩; replace ab := aa.mk (Qc ab.out hb); replace HB := aa.mk (Qd bB hb); (try clear hb); (try clear hb2); (try clear hk); (try clear hi)))
   replace ab := aa.mk (Qh ab.out); replace HB := aa.mk (QL HB.out); refine Ym (n := 10) (S := fun w' => w'.cell? ⟨af, 0, none⟩ = some (.slice aq ae.length an) ∧ w'.cell? ⟨af, 1, none⟩ = some (.slice ak ag.length ao)) (ds := []) #[false, false, false, false, false, false, false, false, false, false] (by kernel_rfl) rfl rfl ⟨(Qa ab.out 0).trans rfl, (Qa ab.out 1).trans rfl⟩ (fun hHeld => ?_); refine ZT Za.tab4 Za.bits4 (fun HT_ HW_ => ?_); generalize w32.drew = w33 at ab HB hHeld ⊢; refine Zy (i := 0) (N := some 14) (v := ?_) (a' := ?_) #[true, false, false, false, false, false, false, false, false, false] rfl rfl (Q4 HT_.out HW_.out (by kernel_rfl)) (fun _ _ _ h => h) (Or.inl ⟨by rfl, ?_⟩) hHeld ?_ ?_; rotate_left
   ·rintro w' ⟨s0, s1⟩; go_simp; with_reducible rfl
   rotate_left
   ·simp only [Act.put, zA, zB, zC, Qw, Qx]; rfl
   refine Zy (i := 2) (N := some 16) (v := ?_) (a' := ?_) #[true, false, true, false, false, false, false, false, false, false] rfl rfl (Q4 HT_.out HW_.out (by kernel_rfl)) (fun _ _ _ h => h) (Or.inl ⟨by rfl, ?_⟩) hHeld ?_ ?_; rotate_left
   ·rintro w' ⟨s0, s1⟩; go_simp; with_reducible rfl
   rotate_left
   ·simp only [Act.put, zA, zB, zC, Qw, Qx]; rfl
   refine one_ (i := 1) (N := some 15) #[true, true, true, false, false, false, false, false, false, false] rfl rfl (ZL HT_.out (by kernel_rfl)) (by decide) (fun K hK => ?_); refine Yz Try.func73 (by kernel_rfl) rfl #[.agg #[.slice aq ae.length an, .slice ak ag.length ao]] (by rfl) rfl rfl hA ?_; with_reducible refine (ZK.calls _ _ ae _ _ ag t103 _ ?aj ?ai ?au ?ar A4.out).mono ?_
   (case aj => exact (Kd.Ql aI.out HB.out))
   (case ai => exact aQ.out)
   (case au => exact (Kd.Ql aW.out HB.out))
   (case ar => exact aT.out)
   rintro e w34 ⟨e6, rfl, ho0, hb⟩; refine ⟨_, rfl, ?_⟩; have aH := aa.mk (Kd.Zk ho0 (Qe bB)); replace ab := aa.mk (Qc ab.out hb); replace HB := aa.mk (Qd bB hb); (try clear hb)
   (try clear hb2)
   (try clear hk)
   (try clear hi)
   (try clear ho0)
   refine hK.out _ _ ⟨(Qa ab.out 0).trans rfl, (Qa ab.out 1).trans rfl⟩ (fun hHeld => ?_); clear hK K; refine Ye (a' := ?_) ?_ ?_; rotate_left
   ·show Act.put _ (some 15) _ = _
    simp only [Act.put, zA, zB, zC, Qw, Qx]; rfl
   refine one_ (i := 3) (N := some 17) #[true, true, true, true, false, false, false, false, false, false] rfl rfl (ZL HT_.out (by kernel_rfl)) (by decide) (fun K hK => ?_); refine Yz Try.func71 (by kernel_rfl) rfl #[.agg #[.slice aq ae.length an, .slice ak ag.length ao]] (by rfl) rfl rfl hA ?_; with_reducible refine (QV.calls _ _ ae _ _ ag t106 _ ?aj ?ai ?au ?ar A5.out).mono ?_
   (case aj => exact (Kd.Ql aI.out HB.out))
   (case ai => exact aQ.out)
   (case au => exact (Kd.Ql aW.out HB.out))
   (case ar => exact aT.out)
   rintro e w35 ⟨rfl, hb⟩; refine ⟨_, rfl, ?_⟩; replace aH := aa.mk (Kd.Zq aH.out hb); replace ab := aa.mk (Qc ab.out hb); replace HB := aa.mk (Qd bB hb); (try clear hb)
   (try clear hb2)
   (try clear hk)
   (try clear hi)
   obtain ⟨rP, rF, oT⟩ := Kd.Zs aH.out; (first | subst oT | (injection oT with f1_ f2_ f3_; have f4_ := f1_.symm; have f5_ := f3_.symm; clear f1_ f2_ f3_; subst f4_; subst f5_))
   refine hK.out _ _ ⟨(Qa ab.out 0).trans rfl, (Qa ab.out 1).trans rfl⟩ (fun hHeld => ?_); clear hK K; refine Ye (a' := ?_) ?_ ?_; rotate_left
   ·show Act.put _ (some 17) _ = _
    simp only [Act.put, zA, zB, zC, Qw, Qx]; rfl
   refine one_ (i := 4) (N := some 18) #[true, true, true, true, true, false, false, false, false, false] rfl rfl (ZL HT_.out (by kernel_rfl)) (by decide) (fun K hK => ?_); refine Yz Try.func82 (by kernel_rfl) rfl #[.slice rP t103.length rF, .int .i64 t106] (by rfl) rfl rfl hA ?_; with_reducible refine (Zd.calls _ _ t103 t106 t107 false _ ?aj ?ai A6.out).mono ?_
   (case aj => exact (Kd.QW aH.out).2.2)
   (case ai => exact (Kd.QW aH.out).2.1)
   rintro e w37 ⟨fY, rfl, ho0, hb⟩; refine ⟨_, rfl, ?_⟩; replace aH := aa.mk (Kd.Zq aH.out hb); have bN := aa.mk (Kd.Zk ho0 (Qe bB)); replace ab := aa.mk (Qc ab.out hb); replace HB := aa.mk (Qd bB hb); (try clear hb)
   (try clear hb2)
   (try clear hk)
   (try clear hi)
   (try clear ho0)
   refine hK.out _ _ ⟨(Qa ab.out 0).trans rfl, (Qa ab.out 1).trans rfl⟩ (fun hHeld => ?_); clear hK K; refine Ye (a' := ?_) ?_ ?_; rotate_left
   ·show Act.put _ (some 18) _ = _
    simp only [Act.put, zA, zB, zC, Qw, Qx]; rfl
   refine QS (i := 5) (N := some 13) (v := ?_) (a' := ?_) #[true, true, true, true, true, true, false, false, false, false] rfl rfl (QI HT_.out (by kernel_rfl)) (fun _ _ _ h => h) (Or.inl ⟨by rfl, ?_⟩) ?_ ?_; rotate_left
   ·intro w'; go_simp; with_reducible rfl
   rotate_left
   ·simp only [Act.put, zA, zB, zC, Qw, Qx]; rfl
   refine QS (i := 6) (N := some 19) (v := ?_) (a' := ?_) #[true, true, true, true, true, true, true, false, false, false] rfl rfl (QI HT_.out (by kernel_rfl)) (fun _ _ _ h => h) (Or.inl ⟨by rfl, ?_⟩) ?_ ?_; rotate_left
   ·intro w'; go_simp; with_reducible rfl
   rotate_left
   ·simp only [Act.put, zA, zB, zC, Qw, Qx]; rfl
   refine QS (i := 7) (N := some 20) (v := ?_) (a' := ?_) #[true, true, true, true, true, true, true, true, false, false] rfl rfl (QI HT_.out (by kernel_rfl)) (fun _ _ _ h => h) (Or.inl ⟨by rfl, ?_⟩) ?_ ?_; rotate_left
   ·intro w'; go_simp; with_reducible rfl
   rotate_left
   ·simp only [Act.put, zA, zB, zC, Qw, Qx]; rfl
   refine QS (i := 8) (N := some 6) (v := ?_) (a' := ?_) #[true, true, true, true, true, true, true, true, true, false] rfl rfl (QI HT_.out (by kernel_rfl)) (fun _ _ _ h => h) (Or.inl ⟨by rfl, ?_⟩) ?_ ?_; rotate_left
   ·intro w'; go_simp; with_reducible rfl
   rotate_left
   ·simp only [Act.put, zA, zB, zC, Qw, Qx]; rfl
   refine QS (i := 9) (N := some 7) (v := ?_) (a' := ?_) #[true, true, true, true, true, true, true, true, true, true] rfl rfl (QI HT_.out (by kernel_rfl)) (fun _ _ _ h => h) (Or.inl ⟨by rfl, ?_⟩) ?_ ?_; rotate_left
   ·intro w'; go_simp; with_reducible rfl
   rotate_left
   ·simp only [Act.put, zA, zB, zC, Qw, Qx]; rfl
   refine YA (Yf HT_.out (by kernel_rfl)) ?_; try go_wp2
   go_ret3
   exact ⟨_, by first | rfl | (simp [Qo, Qn] <;> rfl) | (simp [*, Qo, Qn] <;> rfl), by first | exact Kd.Yb _ _ _ _ _ | exact Kd.Yh _ _ _ _ _ | exact Kd.V_nil _ _ _ _ _ | exact Kd.Q_nil _ _ _ _ _ | exact Kd.Yj _ _ _ _ _, bB⟩
 ·rw [if_neg c3] at H; have cK : (t102 == 0) = false := beq_eq_false_iff_ne.mpr c3; have dD : (t102 != 0) = true := bne_iff_ne.mpr c3; simp only [Option.some.injEq, Prod.mk.injEq] at H; obtain ⟨rfl, rfl, rfl⟩ := H; go_enter Try.func41, Try.ntmps41; go_wp2_with (first | ((with_reducible refine QD (N := 1) rfl ?_); refine QJ ?hg (N := 1) ?hd (cs := #[.slice aq ae.length an, .slice ak ag.length ao]) (t := 24) ?hr ?_; (case hd => rfl); (case hg => rfl); (case hr => first | (go_simp; done) | (go_simp; rfl)); intro af hg w38 hbox hb; have ab := aa.mk (hbox); have bA := aa.mk ((by rw [hg]; exact (Qe bB) : w.heap.size ≤ af)); have bk := aa.mk ((by rw [hg]; exact (Qe bB) : w.heap.size ≤ af)); replace HB := aa.mk (Qd bB hb); clear hb hbox hg; have rl : w38.cell? ⟨af, 0, none⟩ = some (.slice aq ae.length an) := (Qa ab.out 0).trans rfl; have rk : w38.cell? ⟨af, 1, none⟩ = some (.slice ak ag.length ao) := (Qa ab.out 1).trans rfl; have qN := Qb ab.out 0; have qM := Qb ab.out 1) | ((with_reducible refine Qk (f := 38) rfl ?_); refine QE (some 9) rfl rfl Try.func38 (by kernel_rfl) rfl #[.agg #[.slice aq ae.length an, .slice ak ag.length ao]] rfl hA ?_; (with_reducible refine (Qm.calls k _ _ ae _ _ ag t102 _ ?aj ?ai ?au ?ar A2.out).mono ?_); (case aj => exact (Kd.Ql aI.out HB.out)); (case ai => exact aQ.out); (case au => exact (Kd.Ql aW.out HB.out)); (case ar => exact aT.out); rintro e w40 ⟨rfl, hb⟩; refine ⟨_, rfl, ?_⟩; replace ab := aa.mk (Qc ab.out hb); replace HB := aa.mk (Qd bB hb); (try clear hb); (try clear hb2); (try clear hk); (try clear hi)))
  go_ret3
  exact ⟨_, by first | rfl | (simp [Qo, Qn] <;> rfl) | (simp [*, Qo, Qn] <;> rfl), by first | exact Kd.Yb _ _ _ _ _ | exact Kd.Yh _ _ _ _ _ | exact Kd.V_nil _ _ _ _ _ | exact Kd.Q_nil _ _ _ _ _ | exact Kd.Yj _ _ _ _ _, bB⟩
def Qz.f (k : Nat)  : Option (Bool) := (Zt.f).bind fun mR => ((Za.f k mR.1 mR.2).bind fun cv => ((Zt.f).bind fun hG => ((QP.f k hG.1 hG.2 (([2, 1, 2] : List Int)) (([5, 9] : List Int))).bind fun ed => ((Q0.f k (([(([1, 0] : List Int))] : List (List Int))) (([(([0, 1] : List Int))] : List (List Int))) (([1, (-1)] : List Int))).bind fun dR => (if cv.2.2 = 0 then (if cv.2.1 = true then ((Qs.f k cv.1 (([2, 1, 2] : List Int))).bind fun dH => (if dH = true then (if ed.2.2 = 0 then (if ed.1 = 2 then (some (dR == 0)) else (none)) else (none)) else (none))) else (none)) else (none))))))
theorem Qz.mono : ∀ k, LeO (Qz.f k ) (Qz.f (k + 1) ) := by
 intro  k; unfold Qz.f; repeat' first | (with_reducible exact Q0.mono _ _ _ _) | (with_reducible exact QP.mono _ _ _ _ _) | (with_reducible exact Za.mono _ _ _) | (with_reducible exact Qs.mono _ _ _) | (with_reducible exact LeO.refl _) | (with_reducible exact LeO.none _) | (with_reducible refine LeO.ite ?_ ?_) | (with_reducible refine LeO.bind ?_ (fun _ => ?_)) | exact Q0.mono _ _ _ _ | exact QP.mono _ _ _ _ _ | exact Za.mono _ _ _ | exact Qs.mono _ _ _ | exact LeO.none _ | refine LeO.ite ?_ ?_ | refine LeO.bind ?_ (fun _ => ?_)
set_option maxHeartbeats 8000000 in
set_option maxRecDepth 100000 in
theorem Qz.calls (k : Nat)  (r : Bool) (w : World) (h : Qz.f k  = some r) :
  Calls Try.prog 50 #[] w fun e w' => e = .returned (.bool r) ∧ Below w.heap.size w w' := by
 have fa := Try.underlying24; have HB := aa.mk (Below.refl w.heap.size w); have H : ((Zt.f).bind fun mR => ((Za.f k mR.1 mR.2).bind fun cv => ((Zt.f).bind fun hG => ((QP.f k hG.1 hG.2 (([2, 1, 2] : List Int)) (([5, 9] : List Int))).bind fun ed => ((Q0.f k (([(([1, 0] : List Int))] : List (List Int))) (([(([0, 1] : List Int))] : List (List Int))) (([1, (-1)] : List Int))).bind fun dR => (if cv.2.2 = 0 then (if cv.2.1 = true then ((Qs.f k cv.1 (([2, 1, 2] : List Int))).bind fun dH => (if dH = true then (if ed.2.2 = 0 then (if ed.1 = 2 then (some (dR == 0)) else (none)) else (none)) else (none))) else (none)) else (none))))))) = some r := h; clear h; replace H := Option.bind_eq_some_iff.mp H; obtain ⟨⟨t101, t104⟩, A10, H⟩ := H; replace H : ((Za.f k t101 t104).bind fun cv => ((Zt.f).bind fun hG => ((QP.f k hG.1 hG.2 (([2, 1, 2] : List Int)) (([5, 9] : List Int))).bind fun ed => ((Q0.f k (([(([1, 0] : List Int))] : List (List Int))) (([(([0, 1] : List Int))] : List (List Int))) (([1, (-1)] : List Int))).bind fun dR => (if cv.2.2 = 0 then (if cv.2.1 = true then ((Qs.f k cv.1 (([2, 1, 2] : List Int))).bind fun dH => (if dH = true then (if ed.2.2 = 0 then (if ed.1 = 2 then (some (dR == 0)) else (none)) else (none)) else (none))) else (none)) else (none)))))) = some r := H; have A1 := aa.mk A10; clear A10; replace H := Option.bind_eq_some_iff.mp H; obtain ⟨⟨t107, t110, t111⟩, A20, H⟩ := H; replace H : ((Zt.f).bind fun hG => ((QP.f k hG.1 hG.2 (([2, 1, 2] : List Int)) (([5, 9] : List Int))).bind fun ed => ((Q0.f k (([(([1, 0] : List Int))] : List (List Int))) (([(([0, 1] : List Int))] : List (List Int))) (([1, (-1)] : List Int))).bind fun dR => (if t111 = 0 then (if t110 = true then ((Qs.f k t107 (([2, 1, 2] : List Int))).bind fun dH => (if dH = true then (if ed.2.2 = 0 then (if ed.1 = 2 then (some (dR == 0)) else (none)) else (none)) else (none))) else (none)) else (none))))) = some r := H; have A2 := aa.mk A20; clear A20; replace H := Option.bind_eq_some_iff.mp H; obtain ⟨⟨t112, t115⟩, A30, H⟩ := H; replace H : ((QP.f k t112 t115 (([2, 1, 2] : List Int)) (([5, 9] : List Int))).bind fun ed => ((Q0.f k (([(([1, 0] : List Int))] : List (List Int))) (([(([0, 1] : List Int))] : List (List Int))) (([1, (-1)] : List Int))).bind fun dR => (if t111 = 0 then (if t110 = true then ((Qs.f k t107 (([2, 1, 2] : List Int))).bind fun dH => (if dH = true then (if ed.2.2 = 0 then (if ed.1 = 2 then (some (dR == 0)) else (none)) else (none)) else (none))) else (none)) else (none)))) = some r := H; have A3 := aa.mk A30; clear A30; obtain ⟨iG, mB⟩ : ∃ y_ : List Int, y_ = (([2, 1, 2] : List Int)) := ⟨_, rfl⟩; replace H : ((QP.f k t112 t115 iG (([5, 9] : List Int))).bind fun ed => ((Q0.f k (([(([1, 0] : List Int))] : List (List Int))) (([(([0, 1] : List Int))] : List (List Int))) (([1, (-1)] : List Int))).bind fun dR => (if t111 = 0 then (if t110 = true then ((Qs.f k t107 (([2, 1, 2] : List Int))).bind fun dH => (if dH = true then (if ed.2.2 = 0 then (if ed.1 = 2 then (some (dR == 0)) else (none)) else (none)) else (none))) else (none)) else (none)))) = some r := by first | (rw [mB]; with_reducible exact H) | (have H2_ := (Option.bind_some _ _).symm.trans H; rw [mB]; with_reducible exact H2_) | (have H2_ := (Option.bind_some _ _).symm.trans H; with_reducible exact H2_) | with_reducible exact H | (rw [mB]; exact H) | exact H
 have sJ := aa.mk mB; clear mB; obtain ⟨jq, mA⟩ : ∃ y_ : List Int, y_ = (([5, 9] : List Int)) := ⟨_, rfl⟩; replace H : ((QP.f k t112 t115 iG jq).bind fun ed => ((Q0.f k (([(([1, 0] : List Int))] : List (List Int))) (([(([0, 1] : List Int))] : List (List Int))) (([1, (-1)] : List Int))).bind fun dR => (if t111 = 0 then (if t110 = true then ((Qs.f k t107 (([2, 1, 2] : List Int))).bind fun dH => (if dH = true then (if ed.2.2 = 0 then (if ed.1 = 2 then (some (dR == 0)) else (none)) else (none)) else (none))) else (none)) else (none)))) = some r := by first | (rw [mA]; with_reducible exact H) | (have H2_ := (Option.bind_some _ _).symm.trans H; rw [mA]; with_reducible exact H2_) | (have H2_ := (Option.bind_some _ _).symm.trans H; with_reducible exact H2_) | with_reducible exact H | (rw [mA]; exact H) | exact H
 have sI := aa.mk mA; clear mA; replace H := Option.bind_eq_some_iff.mp H; obtain ⟨⟨t124, t125, ef⟩, A40, H⟩ := H; replace H : ((Q0.f k (([(([1, 0] : List Int))] : List (List Int))) (([(([0, 1] : List Int))] : List (List Int))) (([1, (-1)] : List Int))).bind fun dR => (if t111 = 0 then (if t110 = true then ((Qs.f k t107 (([2, 1, 2] : List Int))).bind fun dH => (if dH = true then (if ef = 0 then (if t124 = 2 then (some (dR == 0)) else (none)) else (none)) else (none))) else (none)) else (none))) = some r := H; have A4 := aa.mk A40; clear A40; obtain ⟨oP, my⟩ : ∃ y_ : List Int, y_ = (([1, 0] : List Int)) := ⟨_, rfl⟩; replace H : ((Q0.f k (([oP] : List (List Int))) (([(([0, 1] : List Int))] : List (List Int))) (([1, (-1)] : List Int))).bind fun dR => (if t111 = 0 then (if t110 = true then ((Qs.f k t107 (([2, 1, 2] : List Int))).bind fun dH => (if dH = true then (if ef = 0 then (if t124 = 2 then (some (dR == 0)) else (none)) else (none)) else (none))) else (none)) else (none))) = some r := by first | (rw [my]; with_reducible exact H) | (have H2_ := (Option.bind_some _ _).symm.trans H; rw [my]; with_reducible exact H2_) | (have H2_ := (Option.bind_some _ _).symm.trans H; with_reducible exact H2_) | with_reducible exact H | (rw [my]; exact H) | exact H
 have sH := aa.mk my; clear my; obtain ⟨oO, mw⟩ : ∃ y_ : List (List Int), y_ = (([oP] : List (List Int))) := ⟨_, rfl⟩; replace H : ((Q0.f k oO (([(([0, 1] : List Int))] : List (List Int))) (([1, (-1)] : List Int))).bind fun dR => (if t111 = 0 then (if t110 = true then ((Qs.f k t107 (([2, 1, 2] : List Int))).bind fun dH => (if dH = true then (if ef = 0 then (if t124 = 2 then (some (dR == 0)) else (none)) else (none)) else (none))) else (none)) else (none))) = some r := by first | (rw [mw]; with_reducible exact H) | (have H2_ := (Option.bind_some _ _).symm.trans H; rw [mw]; with_reducible exact H2_) | (have H2_ := (Option.bind_some _ _).symm.trans H; with_reducible exact H2_) | with_reducible exact H | (rw [mw]; exact H) | exact H
 have sG := aa.mk mw; clear mw; obtain ⟨oN, mv⟩ : ∃ y_ : List Int, y_ = (([0, 1] : List Int)) := ⟨_, rfl⟩; replace H : ((Q0.f k oO (([oN] : List (List Int))) (([1, (-1)] : List Int))).bind fun dR => (if t111 = 0 then (if t110 = true then ((Qs.f k t107 (([2, 1, 2] : List Int))).bind fun dH => (if dH = true then (if ef = 0 then (if t124 = 2 then (some (dR == 0)) else (none)) else (none)) else (none))) else (none)) else (none))) = some r := by first | (rw [mv]; with_reducible exact H) | (have H2_ := (Option.bind_some _ _).symm.trans H; rw [mv]; with_reducible exact H2_) | (have H2_ := (Option.bind_some _ _).symm.trans H; with_reducible exact H2_) | with_reducible exact H | (rw [mv]; exact H) | exact H
 have sF := aa.mk mv; clear mv; obtain ⟨p5, mu⟩ : ∃ y_ : List (List Int), y_ = (([oN] : List (List Int))) := ⟨_, rfl⟩; replace H : ((Q0.f k oO p5 (([1, (-1)] : List Int))).bind fun dR => (if t111 = 0 then (if t110 = true then ((Qs.f k t107 (([2, 1, 2] : List Int))).bind fun dH => (if dH = true then (if ef = 0 then (if t124 = 2 then (some (dR == 0)) else (none)) else (none)) else (none))) else (none)) else (none))) = some r := by first | (rw [mu]; with_reducible exact H) | (have H2_ := (Option.bind_some _ _).symm.trans H; rw [mu]; with_reducible exact H2_) | (have H2_ := (Option.bind_some _ _).symm.trans H; with_reducible exact H2_) | with_reducible exact H | (rw [mu]; exact H) | exact H
 have sE := aa.mk mu; clear mu; obtain ⟨sP, mr⟩ : ∃ y_ : List Int, y_ = (([1, (-1)] : List Int)) := ⟨_, rfl⟩; replace H : ((Q0.f k oO p5 sP).bind fun dR => (if t111 = 0 then (if t110 = true then ((Qs.f k t107 (([2, 1, 2] : List Int))).bind fun dH => (if dH = true then (if ef = 0 then (if t124 = 2 then (some (dR == 0)) else (none)) else (none)) else (none))) else (none)) else (none))) = some r := by first | (rw [mr]; with_reducible exact H) | (have H2_ := (Option.bind_some _ _).symm.trans H; rw [mr]; with_reducible exact H2_) | (have H2_ := (Option.bind_some _ _).symm.trans H; with_reducible exact H2_) | with_reducible exact H | (rw [mr]; exact H) | exact H
 have sD := aa.mk mr; clear mr; replace H := Option.bind_eq_some_iff.mp H; obtain ⟨dR, A50, H⟩ := H; replace H : (if t111 = 0 then (if t110 = true then ((Qs.f k t107 (([2, 1, 2] : List Int))).bind fun dH => (if dH = true then (if ef = 0 then (if t124 = 2 then (some (dR == 0)) else (none)) else (none)) else (none))) else (none)) else (none)) = some r := H; have A5 := aa.mk A50; clear A50; by_cases c6 : t111 = 0
 ·rw [if_pos c6] at H; have gZ : (t111 == 0) = true := beq_iff_eq.mpr c6; have jV : (t111 != 0) = false := bne_eq_false_iff_eq.mpr c6; clear c6; by_cases c7 : t110 = true
  ·subst c7; have H1 : ((Qs.f k t107 (([2, 1, 2] : List Int))).bind fun dH => (if dH = true then (if ef = 0 then (if t124 = 2 then (some (dR == 0)) else (none)) else (none)) else (none))) = some r := by rw [if_pos rfl] at H; exact H
   clear H; have H := H1; clear H1; obtain ⟨tV, mq⟩ : ∃ y_ : List Int, y_ = (([2, 1, 2] : List Int)) := ⟨_, rfl⟩; replace H : ((Qs.f k t107 tV).bind fun dH => (if dH = true then (if ef = 0 then (if t124 = 2 then (some (dR == 0)) else (none)) else (none)) else (none))) = some r := by first | (rw [mq]; with_reducible exact H) | (have H2_ := (Option.bind_some _ _).symm.trans H; rw [mq]; with_reducible exact H2_) | (have H2_ := (Option.bind_some _ _).symm.trans H; with_reducible exact H2_) | with_reducible exact H | (rw [mq]; exact H) | exact H
   have sC := aa.mk mq; clear mq; replace H := Option.bind_eq_some_iff.mp H; obtain ⟨dH, A80, H⟩ := H; replace H : (if dH = true then (if ef = 0 then (if t124 = 2 then (some (dR == 0)) else (none)) else (none)) else (none)) = some r := H; have A8 := aa.mk A80; clear A80; by_cases c9 : dH = true
   ·subst c9; have H1 : (if ef = 0 then (if t124 = 2 then (some (dR == 0)) else (none)) else (none)) = some r := by rw [if_pos rfl] at H; exact H
    clear H; have H := H1; clear H1; by_cases c10 : ef = 0
    ·rw [if_pos c10] at H; have gC : (ef == 0) = true := beq_iff_eq.mpr c10; have kL : (ef != 0) = false := bne_eq_false_iff_eq.mpr c10; clear c10; by_cases c11 : t124 = 2
     ·rw [if_pos c11] at H; have ik : (t124 == 2) = true := beq_iff_eq.mpr c11; have EZ : (t124 != 2) = false := bne_eq_false_iff_eq.mpr c11; clear c11; obtain rfl := Option.some.inj H; go_enter Try.func50, Try.ntmps50; go_wp2_with (first | ((with_reducible refine Qk (f := 91) rfl ?_); refine QE (some 9) rfl rfl Try.func91 (by kernel_rfl) rfl #[] rfl hA ?_; (with_reducible refine (Zt.calls  t101 t104 _ A1.out).mono ?_); rintro e w12 ⟨lz, oR, rfl, ho0, ho1, hb⟩; refine ⟨_, rfl, ?_⟩; have bJ := aa.mk (Kd.ZY (Kd.QZ (ok' := fun k_ => some k_ ≠ (oR : Value).ownBlock) ho0 (fun k_ hk_ => hk_.2)) (Qe bB)); have bV := aa.mk (Kd.ZY (Kd.QZ (ok' := fun k_ => some k_ ≠ (lz : Value).ownBlock) ho1 (fun k_ hk_ => hk_.2)) (Qe bB)); replace HB := aa.mk (Qd bB hb); (try clear hb); (try clear hb2); (try clear hk); (try clear hi); (try clear ho0); (try clear ho1); obtain ⟨jD, jA, Dg⟩ := Kd.ZS bJ.out; subst Dg; obtain ⟨jC, jz, Df⟩ := Kd.ZS bV.out; subst Df) | ((with_reducible refine Qk (f := 41) rfl ?_); refine QE (some 10) rfl rfl Try.func41 (by kernel_rfl) rfl #[.agg #[.slice jD t101.length jA, .slice jC t104.length jz]] rfl hA ?_; (with_reducible refine (Za.calls k _ _ t101 _ _ t104 t107 true t111 _ ?aj ?ai ?au ?ar A2.out).mono ?_); (case aj => exact (Kd.QN bJ.out).2.2); (case ai => exact (Kd.QN bJ.out).2.1); (case au => exact (Kd.QN bV.out).2.2); (case ar => exact (Kd.QN bV.out).2.1); rintro e w15 ⟨ec, rfl, ho0, hb⟩; refine ⟨_, rfl, ?_⟩; replace bJ := aa.mk (Kd.Q3 bJ.out (Kd.Q9 ho0) hb); replace bV := aa.mk (Kd.Q3 bV.out (Kd.Q9 ho0) hb); have bs := aa.mk (Kd.Zk ho0 (Qe bB)); replace HB := aa.mk (Qd bB hb); (try clear hb); (try clear hb2); (try clear hk); (try clear hi); (try clear ho0)) | ((with_reducible refine Qk (f := 91) rfl ?_); refine QE (some 15) rfl rfl Try.func91 (by kernel_rfl) rfl #[] rfl hA ?_; (with_reducible refine (Zt.calls  t112 t115 _ A3.out).mono ?_); rintro e w16 ⟨la, Bg, rfl, ho0, ho1, hb⟩; refine ⟨_, rfl, ?_⟩; have bI := aa.mk (Kd.ZY (Kd.QZ (ok' := fun k_ => some k_ ≠ (Bg : Value).ownBlock ∧ some k_ ≠ (.slice jD t101.length jA : Value).ownBlock ∧ some k_ ≠ (.slice jC t104.length jz : Value).ownBlock ∧ some k_ ≠ (ec : Value).ownBlock) ho0 (fun k_ hk_ => ⟨hk_.2, (Kd.fresh' (Kd.N_lt bJ.out) k_ hk_.1), (Kd.fresh' (Kd.N_lt bV.out) k_ hk_.1), (Kd.fresh' (Kd.R_lt bs.out) k_ hk_.1)⟩)) (Qe bB)); have cY := aa.mk (Kd.ZY (Kd.QZ (ok' := fun k_ => some k_ ≠ (la : Value).ownBlock ∧ some k_ ≠ (.slice jD t101.length jA : Value).ownBlock ∧ some k_ ≠ (.slice jC t104.length jz : Value).ownBlock ∧ some k_ ≠ (ec : Value).ownBlock) ho1 (fun k_ hk_ => ⟨hk_.2, (Kd.fresh' (Kd.N_lt bJ.out) k_ hk_.1), (Kd.fresh' (Kd.N_lt bV.out) k_ hk_.1), (Kd.fresh' (Kd.R_lt bs.out) k_ hk_.1)⟩)) (Qe bB)); replace bJ := aa.mk (Kd.QZ (Kd.Vd (Kd.Vd (Kd.N_old bJ.out hb) (Kd.ZO ho0)) (Kd.ZO ho1)) (fun _ h_ => h_.1)); replace bV := aa.mk (Kd.QZ (Kd.Vd (Kd.Vd (Kd.N_old bV.out hb) (Kd.ZO ho0)) (Kd.ZO ho1)) (fun _ h_ => h_.1)); replace bs := aa.mk (Kd.Zq bs.out hb); replace HB := aa.mk (Qd bB hb); (try clear hb); (try clear hb2); (try clear hk); (try clear hi); (try clear ho0); (try clear ho1)) | ((with_reducible refine QD (N := 16) rfl ?_); (try (refine Q8 (by rfl) ?_; dsimp only)); refine Kd.YP (Kd.int .i64) _ 3 ?hg (N := 16) ?hd (xs := ([2, 1, 2] : List Int)) (inner := [.int .i64 2, .int .i64 1, .int .i64 2]) (ok := fun _ => True) (okp := fun _ => True) ?hr ?hp (fun _ hk => hk) trivial (Below.refl _ _) (Nat.le_refl _) (by simp) ?_; (case hd => rfl); (case hg => rfl); (case hr => first | (go_simp; done) | (go_simp; rfl)); (case hp => exact (Reps.one (show Kd.M (Kd.int .i64) _ _ _ 2 [.int .i64 2] from rfl) (Reps.one (show Kd.M (Kd.int .i64) _ _ _ 1 [.int .i64 1] from rfl) (Reps.one (show Kd.M (Kd.int .i64) _ _ _ 2 [.int .i64 2] from rfl) (Reps.none _ _))))); intro Fq w17 gH hb hg_ hnew_; clear hg_ hnew_; (first | rw [← sJ.out] at gH | (simp only [Int.reduceToNat] at gH; rw [← sJ.out] at gH)); replace bJ := aa.mk (Kd.Q3 bJ.out (Kd.Q9 gH) hb); replace bV := aa.mk (Kd.Q3 bV.out (Kd.Q9 gH) hb); replace bI := aa.mk (Kd.Q3 bI.out (Kd.Q9 gH) hb); replace cY := aa.mk (Kd.Q3 cY.out (Kd.Q9 gH) hb); have cX := aa.mk (Kd.Zk (Kd.ZQ gH (Kd.R_lt bs.out)) (Qe bB)); replace bs := aa.mk (Kd.Zp bs.out (Kd.Q9 gH) hb); replace HB := aa.mk (Qd bB hb); clear hb gH) | ((with_reducible refine QD (N := 17) rfl ?_); (try (refine Q8 (by rfl) ?_; dsimp only)); refine Kd.YP (Kd.int .i64) _ 3 ?hg (N := 17) ?hd (xs := ([5, 9] : List Int)) (inner := [.int .i64 5, .int .i64 9]) (ok := fun _ => True) (okp := fun _ => True) ?hr ?hp (fun _ hk => hk) trivial (Below.refl _ _) (Nat.le_refl _) (by simp) ?_; (case hd => rfl); (case hg => rfl); (case hr => first | (go_simp; done) | (go_simp; rfl)); (case hp => exact (Reps.one (show Kd.M (Kd.int .i64) _ _ _ 5 [.int .i64 5] from rfl) (Reps.one (show Kd.M (Kd.int .i64) _ _ _ 9 [.int .i64 9] from rfl) (Reps.none _ _)))); intro Fp w19 kv hb hg_ hnew_; clear hg_ hnew_; (first | rw [← sI.out] at kv | (simp only [Int.reduceToNat] at kv; rw [← sI.out] at kv)); replace bJ := aa.mk (Kd.Q3 bJ.out (Kd.Q9 kv) hb); replace bV := aa.mk (Kd.Q3 bV.out (Kd.Q9 kv) hb); replace bI := aa.mk (Kd.Q3 bI.out (Kd.Q9 kv) hb); replace cY := aa.mk (Kd.Q3 cY.out (Kd.Q9 kv) hb); have dh := aa.mk (Kd.Zk (Kd.ZQ (Kd.ZQ kv (Kd.R_lt bs.out)) (Kd.R_lt cX.out)) (Qe bB)); replace bs := aa.mk (Kd.Zp bs.out (Kd.Q9 kv) hb); replace cX := aa.mk (Kd.Zp cX.out (Kd.Q9 kv) hb); replace HB := aa.mk (Qd bB hb); clear hb kv; obtain ⟨kY, kI, Da⟩ := Kd.ZS bI.out; subst Da; obtain ⟨kX, kH, C9⟩ := Kd.ZS cY.out; subst C9; obtain ⟨kW, jS, rD⟩ := Kd.Zs cX.out; subst rD; obtain ⟨kV, jR, rC⟩ := Kd.Zs dh.out; subst rC) | ((with_reducible refine Qk (f := 46) rfl ?_); refine QE (some 18) rfl rfl Try.func46 (by kernel_rfl) rfl #[.agg #[.slice kY t112.length kI, .slice kX t115.length kH], .slice kW iG.length jS, .slice kV jq.length jR] rfl hA ?_; (with_reducible refine (QP.calls k _ _ t112 _ _ t115 _ _ iG _ _ jq t124 t125 ef _ ?aj ?ai ?au ?ar ?bD ?bC ?dT ?dS A4.out).mono ?_); (case aj => exact (Kd.QN bI.out).2.2); (case ai => exact (Kd.QN bI.out).2.1); (case au => exact (Kd.QN cY.out).2.2); (case ar => exact (Kd.QN cY.out).2.1); (case bD => exact (Kd.QW cX.out).2.2); (case bC => exact (Kd.QW cX.out).2.1); (case dT => exact (Kd.QW dh.out).2.2); (case dS => exact (Kd.QW dh.out).2.1); rintro e w25 ⟨k9, rfl, ho0, hb⟩; refine ⟨_, rfl, ?_⟩; replace bJ := aa.mk (Kd.Q3 bJ.out (Kd.Q9 ho0) hb); replace bV := aa.mk (Kd.Q3 bV.out (Kd.Q9 ho0) hb); replace bI := aa.mk (Kd.Q3 bI.out (Kd.Q9 ho0) hb); replace cY := aa.mk (Kd.Q3 cY.out (Kd.Q9 ho0) hb); have ee := aa.mk (Kd.Zk (Kd.ZQ (Kd.ZQ (Kd.ZQ ho0 (Kd.R_lt bs.out)) (Kd.R_lt cX.out)) (Kd.R_lt dh.out)) (Qe bB)); replace bs := aa.mk (Kd.Zp bs.out (Kd.Q9 ho0) hb); replace cX := aa.mk (Kd.Zp cX.out (Kd.Q9 ho0) hb); replace dh := aa.mk (Kd.Zp dh.out (Kd.Q9 ho0) hb); replace HB := aa.mk (Qd bB hb); (try clear hb); (try clear hb2); (try clear hk); (try clear hi); (try clear ho0)) | ((with_reducible refine QD (N := 22) rfl ?_); (try (refine Q8 (by rfl) ?_; dsimp only)); refine Kd.YP (Kd.int .i64) _ 3 ?hg (N := 22) ?hd (xs := ([1, 0] : List Int)) (inner := [.int .i64 1, .int .i64 0]) (ok := fun _ => True) (okp := fun _ => True) ?hr ?hp (fun _ hk => hk) trivial (Below.refl _ _) (Nat.le_refl _) (by simp) ?_; (case hd => rfl); (case hg => rfl); (case hr => first | (go_simp; done) | (go_simp; rfl)); (case hp => exact (Reps.one (show Kd.M (Kd.int .i64) _ _ _ 1 [.int .i64 1] from rfl) (Reps.one (show Kd.M (Kd.int .i64) _ _ _ 0 [.int .i64 0] from rfl) (Reps.none _ _)))); intro Fo w26 jw hb hg_ hnew_; clear hg_ hnew_; (first | rw [← sH.out] at jw | (simp only [Int.reduceToNat] at jw; rw [← sH.out] at jw)); replace bJ := aa.mk (Kd.Q3 bJ.out (Kd.Q9 jw) hb); replace bV := aa.mk (Kd.Q3 bV.out (Kd.Q9 jw) hb); replace bI := aa.mk (Kd.Q3 bI.out (Kd.Q9 jw) hb); replace cY := aa.mk (Kd.Q3 cY.out (Kd.Q9 jw) hb); have oK := aa.mk (Kd.Zk (Kd.ZQ (Kd.ZQ (Kd.ZQ (Kd.ZQ jw (Kd.R_lt bs.out)) (Kd.R_lt cX.out)) (Kd.R_lt dh.out)) (Kd.R_lt ee.out)) (Qe bB)); replace bs := aa.mk (Kd.Zp bs.out (Kd.Q9 jw) hb); replace cX := aa.mk (Kd.Zp cX.out (Kd.Q9 jw) hb); replace dh := aa.mk (Kd.Zp dh.out (Kd.Q9 jw) hb); replace ee := aa.mk (Kd.Zp ee.out (Kd.Q9 jw) hb); replace HB := aa.mk (Qd bB hb); clear hb jw; obtain ⟨dV, dO, nk⟩ := Kd.Zs oK.out; subst nk) | ((with_reducible refine QD (N := 23) rfl ?_); (try (refine Q8 (by rfl) ?_; dsimp only)); refine Kd.N_lit (Kd.slice 3 (Kd.int .i64)) _ 28 ?hg (N' := 23) ?hd (xs := ([oP] : List (List Int))) (inner := [.slice dV oP.length dO]) (ok := (fun k_ => some k_ ≠ (.slice jD t101.length jA : Value).ownBlock ∧ some k_ ≠ (.slice jC t104.length jz : Value).ownBlock ∧ some k_ ≠ (ec : Value).ownBlock ∧ some k_ ≠ (.slice kY t112.length kI : Value).ownBlock ∧ some k_ ≠ (.slice kX t115.length kH : Value).ownBlock ∧ some k_ ≠ (.slice kW iG.length jS : Value).ownBlock ∧ some k_ ≠ (.slice kV jq.length jR : Value).ownBlock ∧ some k_ ≠ (k9 : Value).ownBlock)) (okp := (fun k_ => some k_ ≠ (.slice jD t101.length jA : Value).ownBlock ∧ some k_ ≠ (.slice jC t104.length jz : Value).ownBlock ∧ some k_ ≠ (ec : Value).ownBlock ∧ some k_ ≠ (.slice kY t112.length kI : Value).ownBlock ∧ some k_ ≠ (.slice kX t115.length kH : Value).ownBlock ∧ some k_ ≠ (.slice kW iG.length jS : Value).ownBlock ∧ some k_ ≠ (.slice kV jq.length jR : Value).ownBlock ∧ some k_ ≠ (k9 : Value).ownBlock)) ?hr ?hp (fun _ hk => hk) ((show ∀ k_, w26.heap.size ≤ k_ → (fun k_ => some k_ ≠ (.slice jD t101.length jA : Value).ownBlock ∧ some k_ ≠ (.slice jC t104.length jz : Value).ownBlock ∧ some k_ ≠ (ec : Value).ownBlock ∧ some k_ ≠ (.slice kY t112.length kI : Value).ownBlock ∧ some k_ ≠ (.slice kX t115.length kH : Value).ownBlock ∧ some k_ ≠ (.slice kW iG.length jS : Value).ownBlock ∧ some k_ ≠ (.slice kV jq.length jR : Value).ownBlock ∧ some k_ ≠ (k9 : Value).ownBlock) k_ from fun k_ hk => ⟨Kd.fresh' (Kd.N_lt bJ.out) k_ hk, Kd.fresh' (Kd.N_lt bV.out) k_ hk, Kd.fresh' (Kd.R_lt bs.out) k_ hk, Kd.fresh' (Kd.N_lt bI.out) k_ hk, Kd.fresh' (Kd.N_lt cY.out) k_ hk, Kd.fresh' (Kd.R_lt cX.out) k_ hk, Kd.fresh' (Kd.R_lt dh.out) k_ hk, Kd.fresh' (Kd.R_lt ee.out) k_ hk⟩) _ (Nat.le_refl _)) (Below.refl _ _) (Nat.le_refl _) (by simp) ?_; (case hd => rfl); (case hg => rfl); (case hr => first | (go_simp; done) | (go_simp; rfl)); (case hp => exact (Reps.one (show Kd.FK (Kd.slice 3 (Kd.int .i64)) _ _ oP [.slice dV oP.length dO] from (Kd.YH (Kd.QW (Kd.Zm (ok' := (fun k_ => some k_ ≠ (.slice jD t101.length jA : Value).ownBlock ∧ some k_ ≠ (.slice jC t104.length jz : Value).ownBlock ∧ some k_ ≠ (ec : Value).ownBlock ∧ some k_ ≠ (.slice kY t112.length kI : Value).ownBlock ∧ some k_ ≠ (.slice kX t115.length kH : Value).ownBlock ∧ some k_ ≠ (.slice kW iG.length jS : Value).ownBlock ∧ some k_ ≠ (.slice kV jq.length jR : Value).ownBlock ∧ some k_ ≠ (k9 : Value).ownBlock)) (Kd.ZD (Kd.ZD (Kd.ZD (Kd.ZD (oK.out) (Kd.Yc bJ.out) (by decide)) (Kd.Yc bV.out) (by decide)) (Kd.Yc bI.out) (by decide)) (Kd.Yc cY.out) (by decide)) (fun k_ hk => ⟨hk.1.1.1.2, ⟨hk.1.1.2, ⟨hk.1.1.1.1.1.1.1.2, ⟨hk.1.2, ⟨hk.2, ⟨hk.1.1.1.1.1.1.2, ⟨hk.1.1.1.1.1.2, hk.1.1.1.1.2⟩⟩⟩⟩⟩⟩⟩))).2.1 (Kd.R_F (Kd.Zm (ok' := (fun k_ => some k_ ≠ (.slice jD t101.length jA : Value).ownBlock ∧ some k_ ≠ (.slice jC t104.length jz : Value).ownBlock ∧ some k_ ≠ (ec : Value).ownBlock ∧ some k_ ≠ (.slice kY t112.length kI : Value).ownBlock ∧ some k_ ≠ (.slice kX t115.length kH : Value).ownBlock ∧ some k_ ≠ (.slice kW iG.length jS : Value).ownBlock ∧ some k_ ≠ (.slice kV jq.length jR : Value).ownBlock ∧ some k_ ≠ (k9 : Value).ownBlock)) (Kd.ZD (Kd.ZD (Kd.ZD (Kd.ZD (oK.out) (Kd.Yc bJ.out) (by decide)) (Kd.Yc bV.out) (by decide)) (Kd.Yc bI.out) (by decide)) (Kd.Yc cY.out) (by decide)) (fun k_ hk => ⟨hk.1.1.1.2, ⟨hk.1.1.2, ⟨hk.1.1.1.1.1.1.1.2, ⟨hk.1.2, ⟨hk.2, ⟨hk.1.1.1.1.1.1.2, ⟨hk.1.1.1.1.1.2, hk.1.1.1.1.2⟩⟩⟩⟩⟩⟩⟩))))) (Reps.none _ _))); intro oZ w29 lK hb hg_ hnew_; clear hg_ hnew_; (first | rw [← sG.out] at lK | (simp only [Int.reduceToNat] at lK; rw [← sG.out] at lK)); replace bJ := aa.mk (Kd.Q3 bJ.out (Kd.ZO lK) hb); replace bV := aa.mk (Kd.Q3 bV.out (Kd.ZO lK) hb); replace bs := aa.mk (Kd.Zq bs.out hb); replace bI := aa.mk (Kd.Q3 bI.out (Kd.ZO lK) hb); replace cY := aa.mk (Kd.Q3 cY.out (Kd.ZO lK) hb); replace cX := aa.mk (Kd.Zq cX.out hb); replace dh := aa.mk (Kd.Zq dh.out hb); replace ee := aa.mk (Kd.Zq ee.out hb); have eZ := aa.mk (Kd.ZY lK (Qe bB)); replace HB := aa.mk (Qd bB hb); clear oK; clear hb lK) | ((with_reducible refine QD (N := 24) rfl ?_); (try (refine Q8 (by rfl) ?_; dsimp only)); refine Kd.YP (Kd.int .i64) _ 3 ?hg (N := 24) ?hd (xs := ([0, 1] : List Int)) (inner := [.int .i64 0, .int .i64 1]) (ok := fun _ => True) (okp := fun _ => True) ?hr ?hp (fun _ hk => hk) trivial (Below.refl _ _) (Nat.le_refl _) (by simp) ?_; (case hd => rfl); (case hg => rfl); (case hr => first | (go_simp; done) | (go_simp; rfl)); (case hp => exact (Reps.one (show Kd.M (Kd.int .i64) _ _ _ 0 [.int .i64 0] from rfl) (Reps.one (show Kd.M (Kd.int .i64) _ _ _ 1 [.int .i64 1] from rfl) (Reps.none _ _)))); intro Fm w31 iP hb hg_ hnew_; clear hg_ hnew_; (first | rw [← sF.out] at iP | (simp only [Int.reduceToNat] at iP; rw [← sF.out] at iP)); replace bJ := aa.mk (Kd.Q3 bJ.out (Kd.Q9 iP) hb); replace bV := aa.mk (Kd.Q3 bV.out (Kd.Q9 iP) hb); replace bI := aa.mk (Kd.Q3 bI.out (Kd.Q9 iP) hb); replace cY := aa.mk (Kd.Q3 cY.out (Kd.Q9 iP) hb); replace eZ := aa.mk (Kd.Q3 eZ.out (Kd.Q9 iP) hb); have oJ := aa.mk (Kd.Zk (Kd.ZQ (Kd.ZQ (Kd.ZQ (Kd.ZQ iP (Kd.R_lt bs.out)) (Kd.R_lt cX.out)) (Kd.R_lt dh.out)) (Kd.R_lt ee.out)) (Qe bB)); replace bs := aa.mk (Kd.Zp bs.out (Kd.Q9 iP) hb); replace cX := aa.mk (Kd.Zp cX.out (Kd.Q9 iP) hb); replace dh := aa.mk (Kd.Zp dh.out (Kd.Q9 iP) hb); replace ee := aa.mk (Kd.Zp ee.out (Kd.Q9 iP) hb); replace HB := aa.mk (Qd bB hb); clear hb iP; obtain ⟨yd, xd, C7⟩ := Kd.Zs oJ.out; subst C7) | ((with_reducible refine QD (N := 25) rfl ?_); (try (refine Q8 (by rfl) ?_; dsimp only)); refine Kd.N_lit (Kd.slice 3 (Kd.int .i64)) _ 28 ?hg (N' := 25) ?hd (xs := ([oN] : List (List Int))) (inner := [.slice yd oN.length xd]) (ok := (fun k_ => some k_ ≠ (.slice jD t101.length jA : Value).ownBlock ∧ some k_ ≠ (.slice jC t104.length jz : Value).ownBlock ∧ some k_ ≠ (ec : Value).ownBlock ∧ some k_ ≠ (.slice kY t112.length kI : Value).ownBlock ∧ some k_ ≠ (.slice kX t115.length kH : Value).ownBlock ∧ some k_ ≠ (.slice kW iG.length jS : Value).ownBlock ∧ some k_ ≠ (.slice kV jq.length jR : Value).ownBlock ∧ some k_ ≠ (k9 : Value).ownBlock ∧ some k_ ≠ (oZ : Value).ownBlock)) (okp := (fun k_ => some k_ ≠ (.slice jD t101.length jA : Value).ownBlock ∧ some k_ ≠ (.slice jC t104.length jz : Value).ownBlock ∧ some k_ ≠ (ec : Value).ownBlock ∧ some k_ ≠ (.slice kY t112.length kI : Value).ownBlock ∧ some k_ ≠ (.slice kX t115.length kH : Value).ownBlock ∧ some k_ ≠ (.slice kW iG.length jS : Value).ownBlock ∧ some k_ ≠ (.slice kV jq.length jR : Value).ownBlock ∧ some k_ ≠ (k9 : Value).ownBlock ∧ some k_ ≠ (oZ : Value).ownBlock)) ?hr ?hp (fun _ hk => hk) ((show ∀ k_, w31.heap.size ≤ k_ → (fun k_ => some k_ ≠ (.slice jD t101.length jA : Value).ownBlock ∧ some k_ ≠ (.slice jC t104.length jz : Value).ownBlock ∧ some k_ ≠ (ec : Value).ownBlock ∧ some k_ ≠ (.slice kY t112.length kI : Value).ownBlock ∧ some k_ ≠ (.slice kX t115.length kH : Value).ownBlock ∧ some k_ ≠ (.slice kW iG.length jS : Value).ownBlock ∧ some k_ ≠ (.slice kV jq.length jR : Value).ownBlock ∧ some k_ ≠ (k9 : Value).ownBlock ∧ some k_ ≠ (oZ : Value).ownBlock) k_ from fun k_ hk => ⟨Kd.fresh' (Kd.N_lt bJ.out) k_ hk, Kd.fresh' (Kd.N_lt bV.out) k_ hk, Kd.fresh' (Kd.R_lt bs.out) k_ hk, Kd.fresh' (Kd.N_lt bI.out) k_ hk, Kd.fresh' (Kd.N_lt cY.out) k_ hk, Kd.fresh' (Kd.R_lt cX.out) k_ hk, Kd.fresh' (Kd.R_lt dh.out) k_ hk, Kd.fresh' (Kd.R_lt ee.out) k_ hk, Kd.fresh' (Kd.N_lt eZ.out) k_ hk⟩) _ (Nat.le_refl _)) (Below.refl _ _) (Nat.le_refl _) (by simp) ?_; (case hd => rfl); (case hg => rfl); (case hr => first | (go_simp; done) | (go_simp; rfl)); (case hp => exact (Reps.one (show Kd.FK (Kd.slice 3 (Kd.int .i64)) _ _ oN [.slice yd oN.length xd] from (Kd.YH (Kd.QW (Kd.Zm (ok' := (fun k_ => some k_ ≠ (.slice jD t101.length jA : Value).ownBlock ∧ some k_ ≠ (.slice jC t104.length jz : Value).ownBlock ∧ some k_ ≠ (ec : Value).ownBlock ∧ some k_ ≠ (.slice kY t112.length kI : Value).ownBlock ∧ some k_ ≠ (.slice kX t115.length kH : Value).ownBlock ∧ some k_ ≠ (.slice kW iG.length jS : Value).ownBlock ∧ some k_ ≠ (.slice kV jq.length jR : Value).ownBlock ∧ some k_ ≠ (k9 : Value).ownBlock ∧ some k_ ≠ (oZ : Value).ownBlock)) (Kd.ZD (Kd.ZD (Kd.ZD (Kd.ZD (Kd.ZD (oJ.out) (Kd.Yc bJ.out) (by decide)) (Kd.Yc bV.out) (by decide)) (Kd.Yc bI.out) (by decide)) (Kd.Yc cY.out) (by decide)) (Kd.Yc eZ.out) (by decide)) (fun k_ hk => ⟨hk.1.1.1.1.2, ⟨hk.1.1.1.2, ⟨hk.1.1.1.1.1.1.1.1.2, ⟨hk.1.1.2, ⟨hk.1.2, ⟨hk.1.1.1.1.1.1.1.2, ⟨hk.1.1.1.1.1.1.2, ⟨hk.1.1.1.1.1.2, hk.2⟩⟩⟩⟩⟩⟩⟩⟩))).2.1 (Kd.R_F (Kd.Zm (ok' := (fun k_ => some k_ ≠ (.slice jD t101.length jA : Value).ownBlock ∧ some k_ ≠ (.slice jC t104.length jz : Value).ownBlock ∧ some k_ ≠ (ec : Value).ownBlock ∧ some k_ ≠ (.slice kY t112.length kI : Value).ownBlock ∧ some k_ ≠ (.slice kX t115.length kH : Value).ownBlock ∧ some k_ ≠ (.slice kW iG.length jS : Value).ownBlock ∧ some k_ ≠ (.slice kV jq.length jR : Value).ownBlock ∧ some k_ ≠ (k9 : Value).ownBlock ∧ some k_ ≠ (oZ : Value).ownBlock)) (Kd.ZD (Kd.ZD (Kd.ZD (Kd.ZD (Kd.ZD (oJ.out) (Kd.Yc bJ.out) (by decide)) (Kd.Yc bV.out) (by decide)) (Kd.Yc bI.out) (by decide)) (Kd.Yc cY.out) (by decide)) (Kd.Yc eZ.out) (by decide)) (fun k_ hk => ⟨hk.1.1.1.1.2, ⟨hk.1.1.1.2, ⟨hk.1.1.1.1.1.1.1.1.2, ⟨hk.1.1.2, ⟨hk.1.2, ⟨hk.1.1.1.1.1.1.1.2, ⟨hk.1.1.1.1.1.1.2, ⟨hk.1.1.1.1.1.2, hk.2⟩⟩⟩⟩⟩⟩⟩⟩))))) (Reps.none _ _))); intro Fl w34 lg hb hg_ hnew_; clear hg_ hnew_; (first | rw [← sE.out] at lg | (simp only [Int.reduceToNat] at lg; rw [← sE.out] at lg)); replace bJ := aa.mk (Kd.Q3 bJ.out (Kd.ZO lg) hb); replace bV := aa.mk (Kd.Q3 bV.out (Kd.ZO lg) hb); replace bs := aa.mk (Kd.Zq bs.out hb); replace bI := aa.mk (Kd.Q3 bI.out (Kd.ZO lg) hb); replace cY := aa.mk (Kd.Q3 cY.out (Kd.ZO lg) hb); replace cX := aa.mk (Kd.Zq cX.out hb); replace dh := aa.mk (Kd.Zq dh.out hb); replace ee := aa.mk (Kd.Zq ee.out hb); replace eZ := aa.mk (Kd.Q3 eZ.out (Kd.ZO lg) hb); have jn := aa.mk (Kd.ZY lg (Qe bB)); replace HB := aa.mk (Qd bB hb); clear oJ; clear hb lg; obtain ⟨rP, rF, oT⟩ := Kd.ZS jn.out; subst oT; obtain ⟨df, cZ, tu⟩ := Kd.ZS eZ.out; subst tu) | ((with_reducible refine QD (N := 27) rfl ?_); (try (refine Q8 (by rfl) ?_; dsimp only)); refine Kd.YP (Kd.int .i64) _ 3 ?hg (N := 27) ?hd (xs := ([1, (-1)] : List Int)) (inner := [.int .i64 1, .int .i64 (-1)]) (ok := fun _ => True) (okp := fun _ => True) ?hr ?hp (fun _ hk => hk) trivial (Below.refl _ _) (Nat.le_refl _) (by simp) ?_; (case hd => rfl); (case hg => rfl); (case hr => first | (go_simp; done) | (go_simp; rfl)); (case hp => exact (Reps.one (show Kd.M (Kd.int .i64) _ _ _ 1 [.int .i64 1] from rfl) (Reps.one (show Kd.M (Kd.int .i64) _ _ _ (-1) [.int .i64 (-1)] from rfl) (Reps.none _ _)))); intro Fk w38 iv hb hg_ hnew_; clear hg_ hnew_; (first | rw [← sD.out] at iv | (simp only [Int.reduceToNat] at iv; rw [← sD.out] at iv)); replace bJ := aa.mk (Kd.Q3 bJ.out (Kd.Q9 iv) hb); replace bV := aa.mk (Kd.Q3 bV.out (Kd.Q9 iv) hb); replace bI := aa.mk (Kd.Q3 bI.out (Kd.Q9 iv) hb); replace cY := aa.mk (Kd.Q3 cY.out (Kd.Q9 iv) hb); replace eZ := aa.mk (Kd.Q3 eZ.out (Kd.Q9 iv) hb); replace jn := aa.mk (Kd.Q3 jn.out (Kd.Q9 iv) hb); have jL := aa.mk (Kd.Zk (Kd.ZQ (Kd.ZQ (Kd.ZQ (Kd.ZQ iv (Kd.R_lt bs.out)) (Kd.R_lt cX.out)) (Kd.R_lt dh.out)) (Kd.R_lt ee.out)) (Qe bB)); replace bs := aa.mk (Kd.Zp bs.out (Kd.Q9 iv) hb); replace cX := aa.mk (Kd.Zp cX.out (Kd.Q9 iv) hb); replace dh := aa.mk (Kd.Zp dh.out (Kd.Q9 iv) hb); replace ee := aa.mk (Kd.Zp ee.out (Kd.Q9 iv) hb); replace HB := aa.mk (Qd bB hb); clear hb iv; obtain ⟨yc, xc, rA⟩ := Kd.Zs jL.out; subst rA) | ((with_reducible refine Qk (f := 43) rfl ?_); refine QE (some 28) rfl rfl Try.func43 (by kernel_rfl) rfl #[.agg #[.slice df oO.length cZ, .slice rP p5.length rF], .slice yc sP.length xc] rfl hA ?_; (with_reducible refine (Q0.calls k _ _ oO _ _ p5 _ _ sP dR _ ?aj ?ai ?au ?ar ?bD ?bC A5.out).mono ?_); (case aj => exact (Kd.QN eZ.out).2.2); (case ai => exact (Kd.QN eZ.out).2.1); (case au => exact (Kd.QN jn.out).2.2); (case ar => exact (Kd.QN jn.out).2.1); (case bD => exact (Kd.QW jL.out).2.2); (case bC => exact (Kd.QW jL.out).2.1); rintro e w41 ⟨rfl, hb⟩; refine ⟨_, rfl, ?_⟩; replace bJ := aa.mk (Kd.QA bJ.out hb); replace bV := aa.mk (Kd.QA bV.out hb); replace bs := aa.mk (Kd.Zq bs.out hb); replace bI := aa.mk (Kd.QA bI.out hb); replace cY := aa.mk (Kd.QA cY.out hb); replace cX := aa.mk (Kd.Zq cX.out hb); replace dh := aa.mk (Kd.Zq dh.out hb); replace ee := aa.mk (Kd.Zq ee.out hb); replace eZ := aa.mk (Kd.QA eZ.out hb); replace jn := aa.mk (Kd.QA jn.out hb); replace jL := aa.mk (Kd.Zq jL.out hb); replace HB := aa.mk (Qd bB hb); (try clear hb); (try clear hb2); (try clear hk); (try clear hi)) | ((with_reducible refine QD (N := 36) rfl ?_); (try (refine Q8 (by rfl) ?_; dsimp only)); refine Kd.YP (Kd.int .i64) _ 3 ?hg (N := 36) ?hd (xs := ([2, 1, 2] : List Int)) (inner := [.int .i64 2, .int .i64 1, .int .i64 2]) (ok := fun _ => True) (okp := fun _ => True) ?hr ?hp (fun _ hk => hk) trivial (Below.refl _ _) (Nat.le_refl _) (by simp) ?_; (case hd => rfl); (case hg => rfl); (case hr => first | (go_simp; done) | (go_simp; rfl)); (case hp => exact (Reps.one (show Kd.M (Kd.int .i64) _ _ _ 2 [.int .i64 2] from rfl) (Reps.one (show Kd.M (Kd.int .i64) _ _ _ 1 [.int .i64 1] from rfl) (Reps.one (show Kd.M (Kd.int .i64) _ _ _ 2 [.int .i64 2] from rfl) (Reps.none _ _))))); intro Fj w42 ie hb hg_ hnew_; clear hg_ hnew_; (first | rw [← sC.out] at ie | (simp only [Int.reduceToNat] at ie; rw [← sC.out] at ie)); replace bJ := aa.mk (Kd.Q3 bJ.out (Kd.Q9 ie) hb); replace bV := aa.mk (Kd.Q3 bV.out (Kd.Q9 ie) hb); replace bI := aa.mk (Kd.Q3 bI.out (Kd.Q9 ie) hb); replace cY := aa.mk (Kd.Q3 cY.out (Kd.Q9 ie) hb); replace eZ := aa.mk (Kd.Q3 eZ.out (Kd.Q9 ie) hb); replace jn := aa.mk (Kd.Q3 jn.out (Kd.Q9 ie) hb); have pR := aa.mk (Kd.Zk (Kd.ZQ (Kd.ZQ (Kd.ZQ (Kd.ZQ (Kd.ZQ ie (Kd.R_lt bs.out)) (Kd.R_lt cX.out)) (Kd.R_lt dh.out)) (Kd.R_lt ee.out)) (Kd.R_lt jL.out)) (Qe bB)); replace bs := aa.mk (Kd.Zp bs.out (Kd.Q9 ie) hb); replace cX := aa.mk (Kd.Zp cX.out (Kd.Q9 ie) hb); replace dh := aa.mk (Kd.Zp dh.out (Kd.Q9 ie) hb); replace ee := aa.mk (Kd.Zp ee.out (Kd.Q9 ie) hb); replace jL := aa.mk (Kd.Zp jL.out (Kd.Q9 ie) hb); replace HB := aa.mk (Qd bB hb); clear hb ie; obtain ⟨F5, FL, C5⟩ := Kd.Zs bs.out; subst C5; obtain ⟨F4, FJ, C4⟩ := Kd.Zs pR.out; subst C4) | (go_at_call 45; (with_reducible refine (Qs.calls k _ _ t107 _ _ tV true _ ?aj ?ai ?au ?ar A8.out).mono ?_); (case aj => exact (Kd.QW bs.out).2.2); (case ai => exact (Kd.QW bs.out).2.1); (case au => exact (Kd.QW pR.out).2.2); (case ar => exact (Kd.QW pR.out).2.1); rintro e w' ⟨rfl, ⟨nd, rfl⟩⟩))
      go_ret; exact ⟨by first | rfl | (simp [Qo, Qn] <;> rfl) | (simp [*, Qo, Qn] <;> rfl), bB⟩
     ·rw [if_neg c11] at H; exact absurd H (by simp)
    ·rw [if_neg c10] at H; exact absurd H (by simp)
   ·replace c9 := Bool.eq_false_iff.mpr c9; subst c9; have H1 : (none) = some r := by rw [if_neg (show ¬ (false = true) by decide)] at H; exact H
    clear H; have H := H1; clear H1; exact absurd H (by simp)
  ·replace c7 := Bool.eq_false_iff.mpr c7; subst c7; have H1 : (none) = some r := by rw [if_neg (show ¬ (false = true) by decide)] at H; exact H
   clear H; have H := H1; clear H1; exact absurd H (by simp)
 ·rw [if_neg c6] at H; exact absurd H (by simp)
end Go.Proofs.Ytdneelgnmnpanaa.P
end
