/- What the claim's last text wants, part 6: functions of the translation as Lean functions with their contracts, and plain theorems; no conditions beyond those that each theorem names. -/
import Derived.Test.YtdneelgnmnpanaaZCa5
import Derived.SizedLaws
set_option linter.unusedVariables false
set_option linter.unusedSimpArgs false
section
namespace Go.Proofs.Ytdneelgnmnpanaa.P
open Go.RowKit Go.Proofs.YtdneelgnmnpanaaW.PrintWords Go.Proofs.YtdneelgnmnpanaaW.PrintLast Go.Proofs.YtdneelgnmnpanaaW.PrintMore
attribute [local go_sem] max2_int min2_int max_two min_two max_three min_three max_four min_four
def Zj.f (k : Nat) (ae : List (List Int)) (af : List (List Int)) : Option (List Int × Bool × Int) := (Ql.f k ae af).bind fun t102 => (if t102 = 0 then ((ZM.f ae af).bind fun t103 => ((Q5.f ae af).bind fun t106 => ((Zl.f t103 t106).bind fun bX => (if bX.2 = true then ((Qn.f k bX.1).bind fun t111 => (if t111 ≤ 0 then (some (([] : List Int), false, 0)) else (some (bX.1, true, 0)))) else (some (([] : List Int), false, 0)))))) else (some (([] : List Int), false, t102)))
theorem Zj.mono : ∀ a0 a1 k, LeO (Zj.f k a0 a1) (Zj.f (k + 1) a0 a1) := by
 intro a0 a1 k; unfold Zj.f; repeat' first | (with_reducible exact Qn.mono _ _) | (with_reducible exact Ql.mono _ _ _) | (with_reducible exact LeO.refl _) | (with_reducible exact LeO.none _) | (with_reducible refine LeO.ite ?_ ?_) | (with_reducible refine LeO.bind ?_ (fun _ => ?_)) | exact Qn.mono _ _ | exact Ql.mono _ _ _ | exact LeO.none _ | refine LeO.ite ?_ ?_ | refine LeO.bind ?_ (fun _ => ?_)
def Zj.T4 : Bool × List (List Nat × List Nat) := (true, [([], []), ([0], [0]), ([], []), ([2, 1], [2]), ([1, 3, 3], [1, 3]), ([4], [4]), ([5], [5]), ([5], [5]), ([6, 4, 0, 1, 2, 3, 4, 5, 6], [6]), ([7, 8, 0, 1, 2, 3, 4, 5, 6, 7, 8], [7])])
def Zj.B4 : List Nat := [0, 1, 0, 7, 15, 31, 63, 63, 127, 511]
theorem Zj.tab4 : rtab .any (opsOf Try.f41 4) = Zj.T4 := by kernel_rfl
theorem Zj.bits4 : waitsOk Zj.T4.2 Zj.B4 = true := by kernel_rfl
set_option maxHeartbeats 8000000 in
set_option maxRecDepth 100000 in
theorem Zj.calls (k : Nat) (ak : Option Addr) (an : Nat) (ae : List (List Int)) (aj : Option Addr) (al : Nat) (af : List (List Int)) (r1 : List Int) (r2 : Bool) (r3 : Int) (w : World) (aM : Kd.C (Kd.slice 3 (Kd.int .i64)) w ak ae.length ae) (aQ : ae.length ≤ an) (aK : Kd.C (Kd.slice 3 (Kd.int .i64)) w aj af.length af) (aN : af.length ≤ al) (h : Zj.f k ae af = some (r1, r2, r3)) :
  Calls Try.prog 41 #[.agg #[.slice ak ae.length an, .slice aj af.length al]] w fun e w' => ∃ v0_ : Value, e = .returned (.tuple #[v0_, .bool r2, .int .i64 r3]) ∧ Kd.R (Kd.int .i64) 3 w' w.heap.size (fun _ => True) v0_ r1 ∧ Below w.heap.size w w' := by
 have ej := Try.underlying24; have ay := aa.mk aM; have aA := aa.mk aQ; clear aM aQ; have az := aa.mk aK; have aC := aa.mk aN; clear aK aN; have HB := aa.mk (Below.refl w.heap.size w); have H : ((Ql.f k ae af).bind fun t102 => (if t102 = 0 then ((ZM.f ae af).bind fun t103 => ((Q5.f ae af).bind fun t106 => ((Zl.f t103 t106).bind fun bX => (if bX.2 = true then ((Qn.f k bX.1).bind fun t111 => (if t111 ≤ 0 then (some (([] : List Int), false, 0)) else (some (bX.1, true, 0)))) else (some (([] : List Int), false, 0)))))) else (some (([] : List Int), false, t102)))) = some (r1, r2, r3) := h; clear h; replace H := Option.bind_eq_some_iff.mp H; obtain ⟨t102, A20, H⟩ := H; replace H : (if t102 = 0 then ((ZM.f ae af).bind fun t103 => ((Q5.f ae af).bind fun t106 => ((Zl.f t103 t106).bind fun bX => (if bX.2 = true then ((Qn.f k bX.1).bind fun t111 => (if t111 ≤ 0 then (some (([] : List Int), false, 0)) else (some (bX.1, true, 0)))) else (some (([] : List Int), false, 0)))))) else (some (([] : List Int), false, t102))) = some (r1, r2, r3) := H; have A2 := aa.mk A20; clear A20; by_cases c3 : t102 = 0
 ·rw [if_pos c3] at H; have bL : (t102 == 0) = true := beq_iff_eq.mpr c3; have cA : (t102 != 0) = false := bne_eq_false_iff_eq.mpr c3; clear c3; replace H := Option.bind_eq_some_iff.mp H; obtain ⟨t103, A40, H⟩ := H; replace H : ((Q5.f ae af).bind fun t106 => ((Zl.f t103 t106).bind fun bX => (if bX.2 = true then ((Qn.f k bX.1).bind fun t111 => (if t111 ≤ 0 then (some (([] : List Int), false, 0)) else (some (bX.1, true, 0)))) else (some (([] : List Int), false, 0))))) = some (r1, r2, r3) := H; have A4 := aa.mk A40; clear A40; replace H := Option.bind_eq_some_iff.mp H; obtain ⟨t106, A50, H⟩ := H; replace H : ((Zl.f t103 t106).bind fun bX => (if bX.2 = true then ((Qn.f k bX.1).bind fun t111 => (if t111 ≤ 0 then (some (([] : List Int), false, 0)) else (some (bX.1, true, 0)))) else (some (([] : List Int), false, 0)))) = some (r1, r2, r3) := H; have A5 := aa.mk A50; clear A50; replace H := Option.bind_eq_some_iff.mp H; obtain ⟨⟨t107, t108⟩, A60, H⟩ := H; replace H : (if t108 = true then ((Qn.f k t107).bind fun t111 => (if t111 ≤ 0 then (some (([] : List Int), false, 0)) else (some (t107, true, 0)))) else (some (([] : List Int), false, 0))) = some (r1, r2, r3) := H; have A6 := aa.mk A60; clear A60; by_cases c7 : t108 = true
  ·subst c7; have H1 : ((Qn.f k t107).bind fun t111 => (if t111 ≤ 0 then (some (([] : List Int), false, 0)) else (some (t107, true, 0)))) = some (r1, r2, r3) := by rw [if_pos rfl] at H; exact H
   clear H; have H := H1; clear H1; replace H := Option.bind_eq_some_iff.mp H; obtain ⟨t111, A80, H⟩ := H; replace H : (if t111 ≤ 0 then (some (([] : List Int), false, 0)) else (some (t107, true, 0))) = some (r1, r2, r3) := H; have A8 := aa.mk A80; clear A80; by_cases c9 : t111 ≤ 0
   ·rw [if_pos c9] at H; have fv : decide (t111 ≤ 0) = true := decide_eq_true c9; clear c9; simp only [Option.some.injEq, Prod.mk.injEq] at H; obtain ⟨rfl, rfl, rfl⟩ := H; go_enter Try.func41, Try.ntmps41; try go_wp2_with (first | ((with_reducible refine QN (N := 1) rfl ?_); refine Q3 ?hg (N := 1) ?hd (cs := #[.slice ak ae.length an, .slice aj af.length al]) (t := 24) ?hr ?_; (case hd => rfl); (case hg => rfl); (case hr => first | (go_simp; done) | (go_simp; rfl)); intro ag hg w10 hbox hb; have ab := aa.mk (hbox); have bh := aa.mk ((by rw [hg]; exact (Qb bB) : w.heap.size ≤ ag)); have aT := aa.mk ((by rw [hg]; exact (Qb bB) : w.heap.size ≤ ag)); replace HB := aa.mk (Qa bB hb); clear hb hbox hg; have cQ : w10.cell? ⟨ag, 0, none⟩ = some (.slice ak ae.length an) := (Qd ab.out 0).trans rfl; have cP : w10.cell? ⟨ag, 1, none⟩ = some (.slice aj af.length al) := (Qd ab.out 1).trans rfl; have cO := Qc ab.out 0; have cN := Qc ab.out 1) | ((with_reducible refine Qh (f := 38) rfl ?_); refine QG (some 9) rfl rfl Try.func38 (by kernel_rfl) rfl #[.agg #[.slice ak ae.length an, .slice aj af.length al]] rfl hA ?_; (with_reducible refine (Ql.calls k _ _ ae _ _ af t102 _ ?ah ?ai ?aq ?ar A2.out).mono ?_); (case ah => exact (Kd.Qq ay.out HB.out)); (case ai => exact aA.out); (case aq => exact (Kd.Qq az.out HB.out)); (case ar => exact aC.out); rintro e w12 ⟨rfl, hb⟩; refine ⟨_, rfl, ?_⟩; replace ab := aa.mk (Qp ab.out hb); replace HB := aa.mk (Qa bB hb); (try clear hb); (try clear hb2); (try clear hk); (try clear hi)))
    replace ab := aa.mk (QA ab.out); replace HB := aa.mk (QR HB.out); refine Yw (n := 10) (S := fun w' => w'.cell? ⟨ag, 0, none⟩ = some (.slice ak ae.length an) ∧ w'.cell? ⟨ag, 1, none⟩ = some (.slice aj af.length al)) (ds := []) #[false, false, false, false, false, false, false, false, false, false] (by kernel_rfl) rfl rfl ⟨(Qd ab.out 0).trans rfl, (Qd ab.out 1).trans rfl⟩ (fun hHeld => ?_); refine ZZ Zj.tab4 Zj.bits4 (fun HT_ HW_ => ?_); generalize w12.drew = w13 at ab HB hHeld ⊢; refine ZY (i := 0) (N := some 14) (v := ?_) (a' := ?_) #[true, false, false, false, false, false, false, false, false, false] rfl rfl (Zq HT_.out HW_.out (by kernel_rfl)) (fun _ _ _ h => h) (Or.inl ⟨by rfl, ?_⟩) hHeld ?_ ?_; rotate_left
    ·rintro w' ⟨s0, s1⟩; go_simp; with_reducible rfl
    rotate_left
    ·simp only [Act.put, zA, zB, zC, QC, QD]; rfl
    refine ZY (i := 2) (N := some 16) (v := ?_) (a' := ?_) #[true, false, true, false, false, false, false, false, false, false] rfl rfl (Zq HT_.out HW_.out (by kernel_rfl)) (fun _ _ _ h => h) (Or.inl ⟨by rfl, ?_⟩) hHeld ?_ ?_; rotate_left
    ·rintro w' ⟨s0, s1⟩; go_simp; with_reducible rfl
    rotate_left
    ·simp only [Act.put, zA, zB, zC, QC, QD]; rfl
    refine one_ (i := 1) (N := some 15) #[true, true, true, false, false, false, false, false, false, false] rfl rfl (ZW HT_.out (by kernel_rfl)) (by decide) (fun K hK => ?_); refine Vj Try.func73 (by kernel_rfl) rfl #[.agg #[.slice ak ae.length an, .slice aj af.length al]] (by rfl) rfl rfl hA ?_; with_reducible refine (ZM.calls _ _ ae _ _ af t103 _ ?ah ?ai ?aq ?ar A4.out).mono ?_
    (case ah => exact (Kd.Qq ay.out HB.out))
    (case ai => exact aA.out)
    (case aq => exact (Kd.Qq az.out HB.out))
    (case ar => exact aC.out)
    rintro e w14 ⟨fc, rfl, ho0, hb⟩; refine ⟨_, rfl, ?_⟩; have bw := aa.mk (Kd.Zh ho0 (Qb bB)); replace ab := aa.mk (Qp ab.out hb); replace HB := aa.mk (Qa bB hb); (try clear hb)
    (try clear hb2)
    (try clear hk)
    (try clear hi)
    (try clear ho0)
    refine hK.out _ _ ⟨(Qd ab.out 0).trans rfl, (Qd ab.out 1).trans rfl⟩ (fun hHeld => ?_); clear hK K; refine Yk (a' := ?_) ?_ ?_; rotate_left
    ·show Act.put _ (some 15) _ = _
     simp only [Act.put, zA, zB, zC, QC, QD]; rfl
    refine one_ (i := 3) (N := some 17) #[true, true, true, true, false, false, false, false, false, false] rfl rfl (ZW HT_.out (by kernel_rfl)) (by decide) (fun K hK => ?_); refine Vj Try.func71 (by kernel_rfl) rfl #[.agg #[.slice ak ae.length an, .slice aj af.length al]] (by rfl) rfl rfl hA ?_; with_reducible refine (Q5.calls _ _ ae _ _ af t106 _ ?ah ?ai ?aq ?ar A5.out).mono ?_
    (case ah => exact (Kd.Qq ay.out HB.out))
    (case ai => exact aA.out)
    (case aq => exact (Kd.Qq az.out HB.out))
    (case ar => exact aC.out)
    rintro e w15 ⟨rfl, hb⟩; refine ⟨_, rfl, ?_⟩; replace bw := aa.mk (Kd.QV bw.out hb); replace ab := aa.mk (Qp ab.out hb); replace HB := aa.mk (Qa bB hb); (try clear hb)
    (try clear hb2)
    (try clear hk)
    (try clear hi)
    obtain ⟨jf, gW, mN⟩ := Kd.Zg bw.out; (first | subst mN | (injection mN with f1_ f2_ f3_; have f4_ := f1_.symm; have f5_ := f3_.symm; clear f1_ f2_ f3_; subst f4_; subst f5_))
    refine hK.out _ _ ⟨(Qd ab.out 0).trans rfl, (Qd ab.out 1).trans rfl⟩ (fun hHeld => ?_); clear hK K; refine Yk (a' := ?_) ?_ ?_; rotate_left
    ·show Act.put _ (some 17) _ = _
     simp only [Act.put, zA, zB, zC, QC, QD]; rfl
    refine one_ (i := 4) (N := some 18) #[true, true, true, true, true, false, false, false, false, false] rfl rfl (ZW HT_.out (by kernel_rfl)) (by decide) (fun K hK => ?_); refine Vj Try.func82 (by kernel_rfl) rfl #[.slice jf t103.length gW, .int .i64 t106] (by rfl) rfl rfl hA ?_; with_reducible refine (Zl.calls _ _ t103 t106 t107 true _ ?ah ?ai A6.out).mono ?_
    (case ah => exact (Kd.QE bw.out).2.2)
    (case ai => exact (Kd.QE bw.out).2.1)
    rintro e w17 ⟨jO, rfl, ho0, hb⟩; refine ⟨_, rfl, ?_⟩; replace bw := aa.mk (Kd.QV bw.out hb); have ca := aa.mk (Kd.Zh ho0 (Qb bB)); replace ab := aa.mk (Qp ab.out hb); replace HB := aa.mk (Qa bB hb); (try clear hb)
    (try clear hb2)
    (try clear hk)
    (try clear hi)
    (try clear ho0)
    refine hK.out _ _ ⟨(Qd ab.out 0).trans rfl, (Qd ab.out 1).trans rfl⟩ (fun hHeld => ?_); clear hK K; refine Yk (a' := ?_) ?_ ?_; rotate_left
    ·show Act.put _ (some 18) _ = _
     simp only [Act.put, zA, zB, zC, QC, QD]; rfl
    refine QX (i := 5) (N := some 13) (v := ?_) (a' := ?_) #[true, true, true, true, true, true, false, false, false, false] rfl rfl (QL HT_.out (by kernel_rfl)) (fun _ _ _ h => h) (Or.inl ⟨by rfl, ?_⟩) ?_ ?_; rotate_left
    ·intro w'; go_simp; with_reducible rfl
    rotate_left
    ·simp only [Act.put, zA, zB, zC, QC, QD]; rfl
    refine QX (i := 6) (N := some 19) (v := ?_) (a' := ?_) #[true, true, true, true, true, true, true, false, false, false] rfl rfl (QL HT_.out (by kernel_rfl)) (fun _ _ _ h => h) (Or.inl ⟨by rfl, ?_⟩) ?_ ?_; rotate_left
    ·intro w'; go_simp; with_reducible rfl
    rotate_left
    ·simp only [Act.put, zA, zB, zC, QC, QD]; rfl
    refine QX (i := 7) (N := some 20) (v := ?_) (a' := ?_) #[true, true, true, true, true, true, true, true, false, false] rfl rfl (QL HT_.out (by kernel_rfl)) (fun _ _ _ h => h) (Or.inl ⟨by rfl, ?_⟩) ?_ ?_; rotate_left
    ·intro w'; go_simp; with_reducible rfl
    rotate_left
    ·simp only [Act.put, zA, zB, zC, QC, QD]; rfl
    refine QX (i := 8) (N := some 6) (v := ?_) (a' := ?_) #[true, true, true, true, true, true, true, true, true, false] rfl rfl (QL HT_.out (by kernel_rfl)) (fun _ _ _ h => h) (Or.inl ⟨by rfl, ?_⟩) ?_ ?_; rotate_left
    ·intro w'; go_simp; with_reducible rfl
    rotate_left
    ·simp only [Act.put, zA, zB, zC, QC, QD]; rfl
    refine QX (i := 9) (N := some 7) (v := ?_) (a' := ?_) #[true, true, true, true, true, true, true, true, true, true] rfl rfl (QL HT_.out (by kernel_rfl)) (fun _ _ _ h => h) (Or.inl ⟨by rfl, ?_⟩) ?_ ?_; rotate_left
    ·intro w'; go_simp; with_reducible rfl
    rotate_left
    ·simp only [Act.put, zA, zB, zC, QC, QD]; rfl
    refine YN (Yo HT_.out (by kernel_rfl)) ?_; obtain ⟨Ag, zP, ua⟩ := Kd.Zg ca.out; subst ua; try go_wp2_with (first | (go_at_call 84; (with_reducible refine (Qn.calls k _ _ t107 t111 _ ?ah ?ai A8.out).mono ?_); (case ah => exact (Kd.QE ca.out).2.2); (case ai => exact (Kd.QE ca.out).2.1); rintro e w19 ⟨rfl, hb⟩; replace bw := aa.mk (Kd.QV bw.out hb); replace ca := aa.mk (Kd.QV ca.out hb); replace ab := aa.mk (Qp ab.out hb); replace HB := aa.mk (Qa bB hb); (try clear hb); (try clear hb2); (try clear hk); (try clear hi)))
    go_ret3
    exact ⟨_, by first | rfl | (simp [Qk, Qj] <;> rfl) | (simp [*, Qk, Qj] <;> rfl), by first | exact Kd.Yr _ _ _ _ _ | exact Kd.Yv _ _ _ _ _ | exact Kd.V_nil _ _ _ _ _ | exact Kd.Q_nil _ _ _ _ _ | exact Kd.Yy _ _ _ _ _, bB⟩
   ·rw [if_neg c9] at H; have fv : decide (t111 ≤ 0) = false := decide_eq_false c9; clear c9; simp only [Option.some.injEq, Prod.mk.injEq] at H; obtain ⟨rfl, rfl, rfl⟩ := H; go_enter Try.func41, Try.ntmps41; try go_wp2_with (first | ((with_reducible refine QN (N := 1) rfl ?_); refine Q3 ?hg (N := 1) ?hd (cs := #[.slice ak ae.length an, .slice aj af.length al]) (t := 24) ?hr ?_; (case hd => rfl); (case hg => rfl); (case hr => first | (go_simp; done) | (go_simp; rfl)); intro ag hg w20 hbox hb; have ab := aa.mk (hbox); have bh := aa.mk ((by rw [hg]; exact (Qb bB) : w.heap.size ≤ ag)); have aT := aa.mk ((by rw [hg]; exact (Qb bB) : w.heap.size ≤ ag)); replace HB := aa.mk (Qa bB hb); clear hb hbox hg; have lP : w20.cell? ⟨ag, 0, none⟩ = some (.slice ak ae.length an) := (Qd ab.out 0).trans rfl; have lO : w20.cell? ⟨ag, 1, none⟩ = some (.slice aj af.length al) := (Qd ab.out 1).trans rfl; have lN := Qc ab.out 0; have lM := Qc ab.out 1) | ((with_reducible refine Qh (f := 38) rfl ?_); refine QG (some 9) rfl rfl Try.func38 (by kernel_rfl) rfl #[.agg #[.slice ak ae.length an, .slice aj af.length al]] rfl hA ?_; (with_reducible refine (Ql.calls k _ _ ae _ _ af t102 _ ?ah ?ai ?aq ?ar A2.out).mono ?_); (case ah => exact (Kd.Qq ay.out HB.out)); (case ai => exact aA.out); (case aq => exact (Kd.Qq az.out HB.out)); (case ar => exact aC.out); rintro e w22 ⟨rfl, hb⟩; refine ⟨_, rfl, ?_⟩; replace ab := aa.mk (Qp ab.out hb); replace HB := aa.mk (Qa bB hb); (try clear hb); (try clear hb2); (try clear hk); (try clear hi)))
    replace ab := aa.mk (QA ab.out); replace HB := aa.mk (QR HB.out); refine Yw (n := 10) (S := fun w' => w'.cell? ⟨ag, 0, none⟩ = some (.slice ak ae.length an) ∧ w'.cell? ⟨ag, 1, none⟩ = some (.slice aj af.length al)) (ds := []) #[false, false, false, false, false, false, false, false, false, false] (by kernel_rfl) rfl rfl ⟨(Qd ab.out 0).trans rfl, (Qd ab.out 1).trans rfl⟩ (fun hHeld => ?_); refine ZZ Zj.tab4 Zj.bits4 (fun HT_ HW_ => ?_); generalize w22.drew = w23 at ab HB hHeld ⊢; refine ZY (i := 0) (N := some 14) (v := ?_) (a' := ?_) #[true, false, false, false, false, false, false, false, false, false] rfl rfl (Zq HT_.out HW_.out (by kernel_rfl)) (fun _ _ _ h => h) (Or.inl ⟨by rfl, ?_⟩) hHeld ?_ ?_; rotate_left
    ·rintro w' ⟨s0, s1⟩; go_simp; with_reducible rfl
    rotate_left
    ·simp only [Act.put, zA, zB, zC, QC, QD]; rfl
    refine ZY (i := 2) (N := some 16) (v := ?_) (a' := ?_) #[true, false, true, false, false, false, false, false, false, false] rfl rfl (Zq HT_.out HW_.out (by kernel_rfl)) (fun _ _ _ h => h) (Or.inl ⟨by rfl, ?_⟩) hHeld ?_ ?_; rotate_left
    ·rintro w' ⟨s0, s1⟩; go_simp; with_reducible rfl
    rotate_left
    ·simp only [Act.put, zA, zB, zC, QC, QD]; rfl
    refine one_ (i := 1) (N := some 15) #[true, true, true, false, false, false, false, false, false, false] rfl rfl (ZW HT_.out (by kernel_rfl)) (by decide) (fun K hK => ?_); refine Vj Try.func73 (by kernel_rfl) rfl #[.agg #[.slice ak ae.length an, .slice aj af.length al]] (by rfl) rfl rfl hA ?_; with_reducible refine (ZM.calls _ _ ae _ _ af t103 _ ?ah ?ai ?aq ?ar A4.out).mono ?_
    (case ah => exact (Kd.Qq ay.out HB.out))
    (case ai => exact aA.out)
    (case aq => exact (Kd.Qq az.out HB.out))
    (case ar => exact aC.out)
    rintro e w24 ⟨fc, rfl, ho0, hb⟩; refine ⟨_, rfl, ?_⟩; have bw := aa.mk (Kd.Zh ho0 (Qb bB)); replace ab := aa.mk (Qp ab.out hb); replace HB := aa.mk (Qa bB hb); (try clear hb)
    (try clear hb2)
    (try clear hk)
    (try clear hi)
    (try clear ho0)
    refine hK.out _ _ ⟨(Qd ab.out 0).trans rfl, (Qd ab.out 1).trans rfl⟩ (fun hHeld => ?_); clear hK K; refine Yk (a' := ?_) ?_ ?_; rotate_left
    ·show Act.put _ (some 15) _ = _
     simp only [Act.put, zA, zB, zC, QC, QD]; rfl
    refine one_ (i := 3) (N := some 17) #[true, true, true, true, false, false, false, false, false, false] rfl rfl (ZW HT_.out (by kernel_rfl)) (by decide) (fun K hK => ?_); refine Vj Try.func71 (by kernel_rfl) rfl #[.agg #[.slice ak ae.length an, .slice aj af.length al]] (by rfl) rfl rfl hA ?_; with_reducible refine (Q5.calls _ _ ae _ _ af t106 _ ?ah ?ai ?aq ?ar A5.out).mono ?_
    (case ah => exact (Kd.Qq ay.out HB.out))
    (case ai => exact aA.out)
    (case aq => exact (Kd.Qq az.out HB.out))
    (case ar => exact aC.out)
    rintro e w25 ⟨rfl, hb⟩; refine ⟨_, rfl, ?_⟩; replace bw := aa.mk (Kd.QV bw.out hb); replace ab := aa.mk (Qp ab.out hb); replace HB := aa.mk (Qa bB hb); (try clear hb)
    (try clear hb2)
    (try clear hk)
    (try clear hi)
    obtain ⟨o0, oX, nw⟩ := Kd.Zg bw.out; (first | subst nw | (injection nw with f1_ f2_ f3_; have f4_ := f1_.symm; have f5_ := f3_.symm; clear f1_ f2_ f3_; subst f4_; subst f5_))
    refine hK.out _ _ ⟨(Qd ab.out 0).trans rfl, (Qd ab.out 1).trans rfl⟩ (fun hHeld => ?_); clear hK K; refine Yk (a' := ?_) ?_ ?_; rotate_left
    ·show Act.put _ (some 17) _ = _
     simp only [Act.put, zA, zB, zC, QC, QD]; rfl
    refine one_ (i := 4) (N := some 18) #[true, true, true, true, true, false, false, false, false, false] rfl rfl (ZW HT_.out (by kernel_rfl)) (by decide) (fun K hK => ?_); refine Vj Try.func82 (by kernel_rfl) rfl #[.slice o0 t103.length oX, .int .i64 t106] (by rfl) rfl rfl hA ?_; with_reducible refine (Zl.calls _ _ t103 t106 t107 true _ ?ah ?ai A6.out).mono ?_
    (case ah => exact (Kd.QE bw.out).2.2)
    (case ai => exact (Kd.QE bw.out).2.1)
    rintro e w27 ⟨jO, rfl, ho0, hb⟩; refine ⟨_, rfl, ?_⟩; replace bw := aa.mk (Kd.QV bw.out hb); have ca := aa.mk (Kd.Zh ho0 (Qb bB)); replace ab := aa.mk (Qp ab.out hb); replace HB := aa.mk (Qa bB hb); (try clear hb)
    (try clear hb2)
    (try clear hk)
    (try clear hi)
    (try clear ho0)
    refine hK.out _ _ ⟨(Qd ab.out 0).trans rfl, (Qd ab.out 1).trans rfl⟩ (fun hHeld => ?_); clear hK K; refine Yk (a' := ?_) ?_ ?_; rotate_left
    ·show Act.put _ (some 18) _ = _
     simp only [Act.put, zA, zB, zC, QC, QD]; rfl
    refine QX (i := 5) (N := some 13) (v := ?_) (a' := ?_) #[true, true, true, true, true, true, false, false, false, false] rfl rfl (QL HT_.out (by kernel_rfl)) (fun _ _ _ h => h) (Or.inl ⟨by rfl, ?_⟩) ?_ ?_; rotate_left
    ·intro w'; go_simp; with_reducible rfl
    rotate_left
    ·simp only [Act.put, zA, zB, zC, QC, QD]; rfl
    refine QX (i := 6) (N := some 19) (v := ?_) (a' := ?_) #[true, true, true, true, true, true, true, false, false, false] rfl rfl (QL HT_.out (by kernel_rfl)) (fun _ _ _ h => h) (Or.inl ⟨by rfl, ?_⟩) ?_ ?_; rotate_left
    ·intro w'; go_simp; with_reducible rfl
    rotate_left
    ·simp only [Act.put, zA, zB, zC, QC, QD]; rfl
    refine QX (i := 7) (N := some 20) (v := ?_) (a' := ?_) #[true, true, true, true, true, true, true, true, false, false] rfl rfl (QL HT_.out (by kernel_rfl)) (fun _ _ _ h => h) (Or.inl ⟨by rfl, ?_⟩) ?_ ?_; rotate_left
    ·intro w'; go_simp; with_reducible rfl
    rotate_left
    ·simp only [Act.put, zA, zB, zC, QC, QD]; rfl
    refine QX (i := 8) (N := some 6) (v := ?_) (a' := ?_) #[true, true, true, true, true, true, true, true, true, false] rfl rfl (QL HT_.out (by kernel_rfl)) (fun _ _ _ h => h) (Or.inl ⟨by rfl, ?_⟩) ?_ ?_; rotate_left
    ·intro w'; go_simp; with_reducible rfl
    rotate_left
    ·simp only [Act.put, zA, zB, zC, QC, QD]; rfl
    refine QX (i := 9) (N := some 7) (v := ?_) (a' := ?_) #[true, true, true, true, true, true, true, true, true, true] rfl rfl (QL HT_.out (by kernel_rfl)) (fun _ _ _ h => h) (Or.inl ⟨by rfl, ?_⟩) ?_ ?_; rotate_left
    ·intro w'; go_simp; with_reducible rfl
    rotate_left
    ·simp only [Act.put, zA, zB, zC, QC, QD]; rfl
    refine YN (Yo HT_.out (by kernel_rfl)) ?_; obtain ⟨qo, pZ, pO⟩ := Kd.Zg ca.out; subst pO; try go_wp2_with (first | (go_at_call 84; (with_reducible refine (Qn.calls k _ _ t107 t111 _ ?ah ?ai A8.out).mono ?_); (case ah => exact (Kd.QE ca.out).2.2); (case ai => exact (Kd.QE ca.out).2.1); rintro e w29 ⟨rfl, hb⟩; replace bw := aa.mk (Kd.QV bw.out hb); replace ca := aa.mk (Kd.QV ca.out hb); replace ab := aa.mk (Qp ab.out hb); replace HB := aa.mk (Qa bB hb); (try clear hb); (try clear hb2); (try clear hk); (try clear hi)))
    go_ret3
    exact ⟨_, by first | rfl | (simp [Qk, Qj] <;> rfl) | (simp [*, Qk, Qj] <;> rfl), by (with_reducible repeat (first | apply Kd.R_alloc | apply Kd.R_drewN | apply Kd.QO)); exact ca.out, bB⟩
  ·replace c7 := Bool.eq_false_iff.mpr c7; subst c7; have H1 : (some (([] : List Int), false, 0)) = some (r1, r2, r3) := by rw [if_neg (show ¬ (false = true) by decide)] at H; exact H
   clear H; have H := H1; clear H1; simp only [Option.some.injEq, Prod.mk.injEq] at H; obtain ⟨rfl, rfl, rfl⟩ := H; go_enter Try.func41, Try.ntmps41; try go_wp2_with (first | ((with_reducible refine QN (N := 1) rfl ?_); refine Q3 ?hg (N := 1) ?hd (cs := #[.slice ak ae.length an, .slice aj af.length al]) (t := 24) ?hr ?_; (case hd => rfl); (case hg => rfl); (case hr => first | (go_simp; done) | (go_simp; rfl)); intro ag hg w30 hbox hb; have ab := aa.mk (hbox); have bh := aa.mk ((by rw [hg]; exact (Qb bB) : w.heap.size ≤ ag)); have aT := aa.mk ((by rw [hg]; exact (Qb bB) : w.heap.size ≤ ag)); replace HB := aa.mk (Qa bB hb); clear hb hbox hg; have q7 : w30.cell? ⟨ag, 0, none⟩ = some (.slice ak ae.length an) := (Qd ab.out 0).trans rfl; have q6 : w30.cell? ⟨ag, 1, none⟩ = some (.slice aj af.length al) := (Qd ab.out 1).trans rfl; have qS := Qc ab.out 0; have qR := Qc ab.out 1) | ((with_reducible refine Qh (f := 38) rfl ?_); refine QG (some 9) rfl rfl Try.func38 (by kernel_rfl) rfl #[.agg #[.slice ak ae.length an, .slice aj af.length al]] rfl hA ?_; (with_reducible refine (Ql.calls k _ _ ae _ _ af t102 _ ?ah ?ai ?aq ?ar A2.out).mono ?_); (case ah => exact (Kd.Qq ay.out HB.out)); (case ai => exact aA.out); (case aq => exact (Kd.Qq az.out HB.out)); (case ar => exact aC.out); rintro e w32 ⟨rfl, hb⟩; refine ⟨_, rfl, ?_⟩; replace ab := aa.mk (Qp ab.out hb); replace HB := aa.mk (Qa bB hb); (try clear hb); (try clear hb2); (try clear hk); (try clear hi)))
   replace ab := aa.mk (QA ab.out); replace HB := aa.mk (QR HB.out); refine Yw (n := 10) (S := fun w' => w'.cell? ⟨ag, 0, none⟩ = some (.slice ak ae.length an) ∧ w'.cell? ⟨ag, 1, none⟩ = some (.slice aj af.length al)) (ds := []) #[false, false, false, false, false, false, false, false, false, false] (by kernel_rfl) rfl rfl ⟨(Qd ab.out 0).trans rfl, (Qd ab.out 1).trans rfl⟩ (fun hHeld => ?_); refine ZZ Zj.tab4 Zj.bits4 (fun HT_ HW_ => ?_); generalize w32.drew = w33 at ab HB hHeld ⊢; refine ZY (i := 0) (N := some 14) (v := ?_) (a' := ?_) #[true, false, false, false, false, false, false, false, false, false] rfl rfl (Zq HT_.out HW_.out (by kernel_rfl)) (fun _ _ _ h => h) (Or.inl ⟨by rfl, ?_⟩) hHeld ?_ ?_; rotate_left
   ·rintro w' ⟨s0, s1⟩; go_simp; with_reducible rfl
   rotate_left
   ·simp only [Act.put, zA, zB, zC, QC, QD]; rfl
   refine ZY (i := 2) (N := some 16) (v := ?_) (a' := ?_) #[true, false, true, false, false, false, false, false, false, false] rfl rfl (Zq HT_.out HW_.out (by kernel_rfl)) (fun _ _ _ h => h) (Or.inl ⟨by rfl, ?_⟩) hHeld ?_ ?_; rotate_left
   ·rintro w' ⟨s0, s1⟩; go_simp; with_reducible rfl
   rotate_left
   ·simp only [Act.put, zA, zB, zC, QC, QD]; rfl
   refine one_ (i := 1) (N := some 15) #[true, true, true, false, false, false, false, false, false, false] rfl rfl (ZW HT_.out (by kernel_rfl)) (by decide) (fun K hK => ?_); refine Vj Try.func73 (by kernel_rfl) rfl #[.agg #[.slice ak ae.length an, .slice aj af.length al]] (by rfl) rfl rfl hA ?_; with_reducible refine (ZM.calls _ _ ae _ _ af t103 _ ?ah ?ai ?aq ?ar A4.out).mono ?_
   (case ah => exact (Kd.Qq ay.out HB.out))
   (case ai => exact aA.out)
   (case aq => exact (Kd.Qq az.out HB.out))
   (case ar => exact aC.out)
   rintro e w34 ⟨fc, rfl, ho0, hb⟩; refine ⟨_, rfl, ?_⟩; have bw := aa.mk (Kd.Zh ho0 (Qb bB)); replace ab := aa.mk (Qp ab.out hb); replace HB := aa.mk (Qa bB hb); (try clear hb)
   (try clear hb2)
   (try clear hk)
   (try clear hi)
   (try clear ho0)
   refine hK.out _ _ ⟨(Qd ab.out 0).trans rfl, (Qd ab.out 1).trans rfl⟩ (fun hHeld => ?_); clear hK K; refine Yk (a' := ?_) ?_ ?_; rotate_left
   ·show Act.put _ (some 15) _ = _
    simp only [Act.put, zA, zB, zC, QC, QD]; rfl
   refine one_ (i := 3) (N := some 17) #[true, true, true, true, false, false, false, false, false, false] rfl rfl (ZW HT_.out (by kernel_rfl)) (by decide) (fun K hK => ?_); refine Vj Try.func71 (by kernel_rfl) rfl #[.agg #[.slice ak ae.length an, .slice aj af.length al]] (by rfl) rfl rfl hA ?_; with_reducible refine (Q5.calls _ _ ae _ _ af t106 _ ?ah ?ai ?aq ?ar A5.out).mono ?_
   (case ah => exact (Kd.Qq ay.out HB.out))
   (case ai => exact aA.out)
   (case aq => exact (Kd.Qq az.out HB.out))
   (case ar => exact aC.out)
   rintro e w35 ⟨rfl, hb⟩; refine ⟨_, rfl, ?_⟩; replace bw := aa.mk (Kd.QV bw.out hb); replace ab := aa.mk (Qp ab.out hb); replace HB := aa.mk (Qa bB hb); (try clear hb)
   (try clear hb2)
   (try clear hk)
   (try clear hi)
   obtain ⟨nK, nB, mM⟩ := Kd.Zg bw.out; (first | subst mM | (injection mM with f1_ f2_ f3_; have f4_ := f1_.symm; have f5_ := f3_.symm; clear f1_ f2_ f3_; subst f4_; subst f5_))
   refine hK.out _ _ ⟨(Qd ab.out 0).trans rfl, (Qd ab.out 1).trans rfl⟩ (fun hHeld => ?_); clear hK K; refine Yk (a' := ?_) ?_ ?_; rotate_left
   ·show Act.put _ (some 17) _ = _
    simp only [Act.put, zA, zB, zC, QC, QD]; rfl
   refine one_ (i := 4) (N := some 18) #[true, true, true, true, true, false, false, false, false, false] rfl rfl (ZW HT_.out (by kernel_rfl)) (by decide) (fun K hK => ?_); refine Vj Try.func82 (by kernel_rfl) rfl #[.slice nK t103.length nB, .int .i64 t106] (by rfl) rfl rfl hA ?_; with_reducible refine (Zl.calls _ _ t103 t106 t107 false _ ?ah ?ai A6.out).mono ?_
   (case ah => exact (Kd.QE bw.out).2.2)
   (case ai => exact (Kd.QE bw.out).2.1)
   rintro e w37 ⟨jO, rfl, ho0, hb⟩; refine ⟨_, rfl, ?_⟩; replace bw := aa.mk (Kd.QV bw.out hb); have ca := aa.mk (Kd.Zh ho0 (Qb bB)); replace ab := aa.mk (Qp ab.out hb); replace HB := aa.mk (Qa bB hb); (try clear hb)
   (try clear hb2)
   (try clear hk)
   (try clear hi)
   (try clear ho0)
   refine hK.out _ _ ⟨(Qd ab.out 0).trans rfl, (Qd ab.out 1).trans rfl⟩ (fun hHeld => ?_); clear hK K; refine Yk (a' := ?_) ?_ ?_; rotate_left
   ·show Act.put _ (some 18) _ = _
    simp only [Act.put, zA, zB, zC, QC, QD]; rfl
   refine QX (i := 5) (N := some 13) (v := ?_) (a' := ?_) #[true, true, true, true, true, true, false, false, false, false] rfl rfl (QL HT_.out (by kernel_rfl)) (fun _ _ _ h => h) (Or.inl ⟨by rfl, ?_⟩) ?_ ?_; rotate_left
   ·intro w'; go_simp; with_reducible rfl
   rotate_left
   ·simp only [Act.put, zA, zB, zC, QC, QD]; rfl
   refine QX (i := 6) (N := some 19) (v := ?_) (a' := ?_) #[true, true, true, true, true, true, true, false, false, false] rfl rfl (QL HT_.out (by kernel_rfl)) (fun _ _ _ h => h) (Or.inl ⟨by rfl, ?_⟩) ?_ ?_; rotate_left
   ·intro w'; go_simp; with_reducible rfl
   rotate_left
   ·simp only [Act.put, zA, zB, zC, QC, QD]; rfl
   refine QX (i := 7) (N := some 20) (v := ?_) (a' := ?_) #[true, true, true, true, true, true, true, true, false, false] rfl rfl (QL HT_.out (by kernel_rfl)) (fun _ _ _ h => h) (Or.inl ⟨by rfl, ?_⟩) ?_ ?_; rotate_left
   ·intro w'; go_simp; with_reducible rfl
   rotate_left
   ·simp only [Act.put, zA, zB, zC, QC, QD]; rfl
   refine QX (i := 8) (N := some 6) (v := ?_) (a' := ?_) #[true, true, true, true, true, true, true, true, true, false] rfl rfl (QL HT_.out (by kernel_rfl)) (fun _ _ _ h => h) (Or.inl ⟨by rfl, ?_⟩) ?_ ?_; rotate_left
   ·intro w'; go_simp; with_reducible rfl
   rotate_left
   ·simp only [Act.put, zA, zB, zC, QC, QD]; rfl
   refine QX (i := 9) (N := some 7) (v := ?_) (a' := ?_) #[true, true, true, true, true, true, true, true, true, true] rfl rfl (QL HT_.out (by kernel_rfl)) (fun _ _ _ h => h) (Or.inl ⟨by rfl, ?_⟩) ?_ ?_; rotate_left
   ·intro w'; go_simp; with_reducible rfl
   rotate_left
   ·simp only [Act.put, zA, zB, zC, QC, QD]; rfl
   refine YN (Yo HT_.out (by kernel_rfl)) ?_; try go_wp2
   go_ret3
   exact ⟨_, by first | rfl | (simp [Qk, Qj] <;> rfl) | (simp [*, Qk, Qj] <;> rfl), by first | exact Kd.Yr _ _ _ _ _ | exact Kd.Yv _ _ _ _ _ | exact Kd.V_nil _ _ _ _ _ | exact Kd.Q_nil _ _ _ _ _ | exact Kd.Yy _ _ _ _ _, bB⟩
 ·rw [if_neg c3] at H; have bL : (t102 == 0) = false := beq_eq_false_iff_ne.mpr c3; have cA : (t102 != 0) = true := bne_iff_ne.mpr c3; simp only [Option.some.injEq, Prod.mk.injEq] at H; obtain ⟨rfl, rfl, rfl⟩ := H; go_enter Try.func41, Try.ntmps41; go_wp2_with (first | ((with_reducible refine QN (N := 1) rfl ?_); refine Q3 ?hg (N := 1) ?hd (cs := #[.slice ak ae.length an, .slice aj af.length al]) (t := 24) ?hr ?_; (case hd => rfl); (case hg => rfl); (case hr => first | (go_simp; done) | (go_simp; rfl)); intro ag hg w38 hbox hb; have ab := aa.mk (hbox); have bh := aa.mk ((by rw [hg]; exact (Qb bB) : w.heap.size ≤ ag)); have aT := aa.mk ((by rw [hg]; exact (Qb bB) : w.heap.size ≤ ag)); replace HB := aa.mk (Qa bB hb); clear hb hbox hg; have xZ : w38.cell? ⟨ag, 0, none⟩ = some (.slice ak ae.length an) := (Qd ab.out 0).trans rfl; have xY : w38.cell? ⟨ag, 1, none⟩ = some (.slice aj af.length al) := (Qd ab.out 1).trans rfl; have xH := Qc ab.out 0; have xG := Qc ab.out 1) | ((with_reducible refine Qh (f := 38) rfl ?_); refine QG (some 9) rfl rfl Try.func38 (by kernel_rfl) rfl #[.agg #[.slice ak ae.length an, .slice aj af.length al]] rfl hA ?_; (with_reducible refine (Ql.calls k _ _ ae _ _ af t102 _ ?ah ?ai ?aq ?ar A2.out).mono ?_); (case ah => exact (Kd.Qq ay.out HB.out)); (case ai => exact aA.out); (case aq => exact (Kd.Qq az.out HB.out)); (case ar => exact aC.out); rintro e w40 ⟨rfl, hb⟩; refine ⟨_, rfl, ?_⟩; replace ab := aa.mk (Qp ab.out hb); replace HB := aa.mk (Qa bB hb); (try clear hb); (try clear hb2); (try clear hk); (try clear hi)))
  go_ret3
  exact ⟨_, by first | rfl | (simp [Qk, Qj] <;> rfl) | (simp [*, Qk, Qj] <;> rfl), by first | exact Kd.Yr _ _ _ _ _ | exact Kd.Yv _ _ _ _ _ | exact Kd.V_nil _ _ _ _ _ | exact Kd.Q_nil _ _ _ _ _ | exact Kd.Yy _ _ _ _ _, bB⟩
def Zf.f (k : Nat)  : Option (Bool) := (Zv.f).bind fun mS => ((Zj.f k mS.1 mS.2).bind fun bX => ((Zv.f).bind fun gY => ((QU.f k gY.1 gY.2 (([2, 1, 2] : List Int)) (([5, 9] : List Int))).bind fun dG => ((Q9.f k (([(([1, 0] : List Int))] : List (List Int))) (([(([0, 1] : List Int))] : List (List Int))) (([1, (-1)] : List Int))).bind fun dn => (if bX.2.2 = 0 then (if bX.2.1 = true then ((Qv.f k bX.1 (([2, 1, 2] : List Int))).bind fun cZ => (if cZ = true then (if dG.2.2 = 0 then (if dG.1 = 2 then (some (dn == 0)) else (none)) else (none)) else (none))) else (none)) else (none))))))
theorem Zf.mono : ∀ k, LeO (Zf.f k ) (Zf.f (k + 1) ) := by
 intro  k; unfold Zf.f; repeat' first | (with_reducible exact Q9.mono _ _ _ _) | (with_reducible exact QU.mono _ _ _ _ _) | (with_reducible exact Zj.mono _ _ _) | (with_reducible exact Qv.mono _ _ _) | (with_reducible exact LeO.refl _) | (with_reducible exact LeO.none _) | (with_reducible refine LeO.ite ?_ ?_) | (with_reducible refine LeO.bind ?_ (fun _ => ?_)) | exact Q9.mono _ _ _ _ | exact QU.mono _ _ _ _ _ | exact Zj.mono _ _ _ | exact Qv.mono _ _ _ | exact LeO.none _ | refine LeO.ite ?_ ?_ | refine LeO.bind ?_ (fun _ => ?_)
set_option maxHeartbeats 8000000 in
set_option maxRecDepth 100000 in
theorem Zf.calls (k : Nat)  (r : Bool) (w : World) (h : Zf.f k  = some r) :
  Calls Try.prog 50 #[] w fun e w' => e = .returned (.bool r) ∧ Below w.heap.size w w' := by
 have ej := Try.underlying24; have HB := aa.mk (Below.refl w.heap.size w); have H : ((Zv.f).bind fun mS => ((Zj.f k mS.1 mS.2).bind fun bX => ((Zv.f).bind fun gY => ((QU.f k gY.1 gY.2 (([2, 1, 2] : List Int)) (([5, 9] : List Int))).bind fun dG => ((Q9.f k (([(([1, 0] : List Int))] : List (List Int))) (([(([0, 1] : List Int))] : List (List Int))) (([1, (-1)] : List Int))).bind fun dn => (if bX.2.2 = 0 then (if bX.2.1 = true then ((Qv.f k bX.1 (([2, 1, 2] : List Int))).bind fun cZ => (if cZ = true then (if dG.2.2 = 0 then (if dG.1 = 2 then (some (dn == 0)) else (none)) else (none)) else (none))) else (none)) else (none))))))) = some r := h; clear h; replace H := Option.bind_eq_some_iff.mp H; obtain ⟨⟨t101, t104⟩, A10, H⟩ := H; replace H : ((Zj.f k t101 t104).bind fun bX => ((Zv.f).bind fun gY => ((QU.f k gY.1 gY.2 (([2, 1, 2] : List Int)) (([5, 9] : List Int))).bind fun dG => ((Q9.f k (([(([1, 0] : List Int))] : List (List Int))) (([(([0, 1] : List Int))] : List (List Int))) (([1, (-1)] : List Int))).bind fun dn => (if bX.2.2 = 0 then (if bX.2.1 = true then ((Qv.f k bX.1 (([2, 1, 2] : List Int))).bind fun cZ => (if cZ = true then (if dG.2.2 = 0 then (if dG.1 = 2 then (some (dn == 0)) else (none)) else (none)) else (none))) else (none)) else (none)))))) = some r := H; have A1 := aa.mk A10; clear A10; replace H := Option.bind_eq_some_iff.mp H; obtain ⟨⟨t107, t110, t111⟩, A20, H⟩ := H; replace H : ((Zv.f).bind fun gY => ((QU.f k gY.1 gY.2 (([2, 1, 2] : List Int)) (([5, 9] : List Int))).bind fun dG => ((Q9.f k (([(([1, 0] : List Int))] : List (List Int))) (([(([0, 1] : List Int))] : List (List Int))) (([1, (-1)] : List Int))).bind fun dn => (if t111 = 0 then (if t110 = true then ((Qv.f k t107 (([2, 1, 2] : List Int))).bind fun cZ => (if cZ = true then (if dG.2.2 = 0 then (if dG.1 = 2 then (some (dn == 0)) else (none)) else (none)) else (none))) else (none)) else (none))))) = some r := H; have A2 := aa.mk A20; clear A20; replace H := Option.bind_eq_some_iff.mp H; obtain ⟨⟨t112, t115⟩, A30, H⟩ := H; replace H : ((QU.f k t112 t115 (([2, 1, 2] : List Int)) (([5, 9] : List Int))).bind fun dG => ((Q9.f k (([(([1, 0] : List Int))] : List (List Int))) (([(([0, 1] : List Int))] : List (List Int))) (([1, (-1)] : List Int))).bind fun dn => (if t111 = 0 then (if t110 = true then ((Qv.f k t107 (([2, 1, 2] : List Int))).bind fun cZ => (if cZ = true then (if dG.2.2 = 0 then (if dG.1 = 2 then (some (dn == 0)) else (none)) else (none)) else (none))) else (none)) else (none)))) = some r := H; have A3 := aa.mk A30; clear A30; obtain ⟨gD, gK⟩ : ∃ y_ : List Int, y_ = (([2, 1, 2] : List Int)) := ⟨_, rfl⟩; replace H : ((QU.f k t112 t115 gD (([5, 9] : List Int))).bind fun dG => ((Q9.f k (([(([1, 0] : List Int))] : List (List Int))) (([(([0, 1] : List Int))] : List (List Int))) (([1, (-1)] : List Int))).bind fun dn => (if t111 = 0 then (if t110 = true then ((Qv.f k t107 (([2, 1, 2] : List Int))).bind fun cZ => (if cZ = true then (if dG.2.2 = 0 then (if dG.1 = 2 then (some (dn == 0)) else (none)) else (none)) else (none))) else (none)) else (none)))) = some r := by first | (rw [gK]; with_reducible exact H) | (have H2_ := (Option.bind_some _ _).symm.trans H; rw [gK]; with_reducible exact H2_) | (have H2_ := (Option.bind_some _ _).symm.trans H; with_reducible exact H2_) | with_reducible exact H | (rw [gK]; exact H) | exact H
 have ox := aa.mk gK; clear gK; obtain ⟨ey, gI⟩ : ∃ y_ : List Int, y_ = (([5, 9] : List Int)) := ⟨_, rfl⟩; replace H : ((QU.f k t112 t115 gD ey).bind fun dG => ((Q9.f k (([(([1, 0] : List Int))] : List (List Int))) (([(([0, 1] : List Int))] : List (List Int))) (([1, (-1)] : List Int))).bind fun dn => (if t111 = 0 then (if t110 = true then ((Qv.f k t107 (([2, 1, 2] : List Int))).bind fun cZ => (if cZ = true then (if dG.2.2 = 0 then (if dG.1 = 2 then (some (dn == 0)) else (none)) else (none)) else (none))) else (none)) else (none)))) = some r := by first | (rw [gI]; with_reducible exact H) | (have H2_ := (Option.bind_some _ _).symm.trans H; rw [gI]; with_reducible exact H2_) | (have H2_ := (Option.bind_some _ _).symm.trans H; with_reducible exact H2_) | with_reducible exact H | (rw [gI]; exact H) | exact H
 have mV := aa.mk gI; clear gI; replace H := Option.bind_eq_some_iff.mp H; obtain ⟨⟨t124, t125, bp⟩, A40, H⟩ := H; replace H : ((Q9.f k (([(([1, 0] : List Int))] : List (List Int))) (([(([0, 1] : List Int))] : List (List Int))) (([1, (-1)] : List Int))).bind fun dn => (if t111 = 0 then (if t110 = true then ((Qv.f k t107 (([2, 1, 2] : List Int))).bind fun cZ => (if cZ = true then (if bp = 0 then (if t124 = 2 then (some (dn == 0)) else (none)) else (none)) else (none))) else (none)) else (none))) = some r := H; have A4 := aa.mk A40; clear A40; obtain ⟨la, gH⟩ : ∃ y_ : List Int, y_ = (([1, 0] : List Int)) := ⟨_, rfl⟩; replace H : ((Q9.f k (([la] : List (List Int))) (([(([0, 1] : List Int))] : List (List Int))) (([1, (-1)] : List Int))).bind fun dn => (if t111 = 0 then (if t110 = true then ((Qv.f k t107 (([2, 1, 2] : List Int))).bind fun cZ => (if cZ = true then (if bp = 0 then (if t124 = 2 then (some (dn == 0)) else (none)) else (none)) else (none))) else (none)) else (none))) = some r := by first | (rw [gH]; with_reducible exact H) | (have H2_ := (Option.bind_some _ _).symm.trans H; rw [gH]; with_reducible exact H2_) | (have H2_ := (Option.bind_some _ _).symm.trans H; with_reducible exact H2_) | with_reducible exact H | (rw [gH]; exact H) | exact H
 have ov := aa.mk gH; clear gH; obtain ⟨oQ, mA⟩ : ∃ y_ : List (List Int), y_ = (([la] : List (List Int))) := ⟨_, rfl⟩; replace H : ((Q9.f k oQ (([(([0, 1] : List Int))] : List (List Int))) (([1, (-1)] : List Int))).bind fun dn => (if t111 = 0 then (if t110 = true then ((Qv.f k t107 (([2, 1, 2] : List Int))).bind fun cZ => (if cZ = true then (if bp = 0 then (if t124 = 2 then (some (dn == 0)) else (none)) else (none)) else (none))) else (none)) else (none))) = some r := by first | (rw [mA]; with_reducible exact H) | (have H2_ := (Option.bind_some _ _).symm.trans H; rw [mA]; with_reducible exact H2_) | (have H2_ := (Option.bind_some _ _).symm.trans H; with_reducible exact H2_) | with_reducible exact H | (rw [mA]; exact H) | exact H
 have sL := aa.mk mA; clear mA; obtain ⟨oP, my⟩ : ∃ y_ : List Int, y_ = (([0, 1] : List Int)) := ⟨_, rfl⟩; replace H : ((Q9.f k oQ (([oP] : List (List Int))) (([1, (-1)] : List Int))).bind fun dn => (if t111 = 0 then (if t110 = true then ((Qv.f k t107 (([2, 1, 2] : List Int))).bind fun cZ => (if cZ = true then (if bp = 0 then (if t124 = 2 then (some (dn == 0)) else (none)) else (none)) else (none))) else (none)) else (none))) = some r := by first | (rw [my]; with_reducible exact H) | (have H2_ := (Option.bind_some _ _).symm.trans H; rw [my]; with_reducible exact H2_) | (have H2_ := (Option.bind_some _ _).symm.trans H; with_reducible exact H2_) | with_reducible exact H | (rw [my]; exact H) | exact H
 have sK := aa.mk my; clear my; obtain ⟨qz, mw⟩ : ∃ y_ : List (List Int), y_ = (([oP] : List (List Int))) := ⟨_, rfl⟩; replace H : ((Q9.f k oQ qz (([1, (-1)] : List Int))).bind fun dn => (if t111 = 0 then (if t110 = true then ((Qv.f k t107 (([2, 1, 2] : List Int))).bind fun cZ => (if cZ = true then (if bp = 0 then (if t124 = 2 then (some (dn == 0)) else (none)) else (none)) else (none))) else (none)) else (none))) = some r := by first | (rw [mw]; with_reducible exact H) | (have H2_ := (Option.bind_some _ _).symm.trans H; rw [mw]; with_reducible exact H2_) | (have H2_ := (Option.bind_some _ _).symm.trans H; with_reducible exact H2_) | with_reducible exact H | (rw [mw]; exact H) | exact H
 have sJ := aa.mk mw; clear mw; obtain ⟨sP, mu⟩ : ∃ y_ : List Int, y_ = (([1, (-1)] : List Int)) := ⟨_, rfl⟩; replace H : ((Q9.f k oQ qz sP).bind fun dn => (if t111 = 0 then (if t110 = true then ((Qv.f k t107 (([2, 1, 2] : List Int))).bind fun cZ => (if cZ = true then (if bp = 0 then (if t124 = 2 then (some (dn == 0)) else (none)) else (none)) else (none))) else (none)) else (none))) = some r := by first | (rw [mu]; with_reducible exact H) | (have H2_ := (Option.bind_some _ _).symm.trans H; rw [mu]; with_reducible exact H2_) | (have H2_ := (Option.bind_some _ _).symm.trans H; with_reducible exact H2_) | with_reducible exact H | (rw [mu]; exact H) | exact H
 have sI := aa.mk mu; clear mu; replace H := Option.bind_eq_some_iff.mp H; obtain ⟨dn, A50, H⟩ := H; replace H : (if t111 = 0 then (if t110 = true then ((Qv.f k t107 (([2, 1, 2] : List Int))).bind fun cZ => (if cZ = true then (if bp = 0 then (if t124 = 2 then (some (dn == 0)) else (none)) else (none)) else (none))) else (none)) else (none)) = some r := H; have A5 := aa.mk A50; clear A50; by_cases c6 : t111 = 0
 ·rw [if_pos c6] at H; have gC : (t111 == 0) = true := beq_iff_eq.mpr c6; have mP : (t111 != 0) = false := bne_eq_false_iff_eq.mpr c6; clear c6; by_cases c7 : t110 = true
  ·subst c7; have H1 : ((Qv.f k t107 (([2, 1, 2] : List Int))).bind fun cZ => (if cZ = true then (if bp = 0 then (if t124 = 2 then (some (dn == 0)) else (none)) else (none)) else (none))) = some r := by rw [if_pos rfl] at H; exact H
   clear H; have H := H1; clear H1; obtain ⟨uP, mr⟩ : ∃ y_ : List Int, y_ = (([2, 1, 2] : List Int)) := ⟨_, rfl⟩; replace H : ((Qv.f k t107 uP).bind fun cZ => (if cZ = true then (if bp = 0 then (if t124 = 2 then (some (dn == 0)) else (none)) else (none)) else (none))) = some r := by first | (rw [mr]; with_reducible exact H) | (have H2_ := (Option.bind_some _ _).symm.trans H; rw [mr]; with_reducible exact H2_) | (have H2_ := (Option.bind_some _ _).symm.trans H; with_reducible exact H2_) | with_reducible exact H | (rw [mr]; exact H) | exact H
   have sH := aa.mk mr; clear mr; replace H := Option.bind_eq_some_iff.mp H; obtain ⟨cZ, A80, H⟩ := H; replace H : (if cZ = true then (if bp = 0 then (if t124 = 2 then (some (dn == 0)) else (none)) else (none)) else (none)) = some r := H; have A8 := aa.mk A80; clear A80; by_cases c9 : cZ = true
   ·subst c9; have H1 : (if bp = 0 then (if t124 = 2 then (some (dn == 0)) else (none)) else (none)) = some r := by rw [if_pos rfl] at H; exact H
    clear H; have H := H1; clear H1; by_cases c10 : bp = 0
    ·rw [if_pos c10] at H; have fq : (bp == 0) = true := beq_iff_eq.mpr c10; have jE : (bp != 0) = false := bne_eq_false_iff_eq.mpr c10; clear c10; by_cases c11 : t124 = 2
     ·rw [if_pos c11] at H; have fp : (t124 == 2) = true := beq_iff_eq.mpr c11; have wj : (t124 != 2) = false := bne_eq_false_iff_eq.mpr c11; clear c11; obtain rfl := Option.some.inj H; go_enter Try.func50, Try.ntmps50; go_wp2_with (first | ((with_reducible refine Qh (f := 91) rfl ?_); refine QG (some 9) rfl rfl Try.func91 (by kernel_rfl) rfl #[] rfl hA ?_; (with_reducible refine (Zv.calls  t101 t104 _ A1.out).mono ?_); rintro e w12 ⟨il, jP, rfl, ho0, ho1, hb⟩; refine ⟨_, rfl, ?_⟩; have a8 := aa.mk (Kd.Ya (Kd.ZX (ok' := fun k_ => some k_ ≠ (jP : Value).ownBlock) ho0 (fun k_ hk_ => hk_.2)) (Qb bB)); have bu := aa.mk (Kd.Ya (Kd.ZX (ok' := fun k_ => some k_ ≠ (il : Value).ownBlock) ho1 (fun k_ hk_ => hk_.2)) (Qb bB)); replace HB := aa.mk (Qa bB hb); (try clear hb); (try clear hb2); (try clear hk); (try clear hi); (try clear ho0); (try clear ho1); obtain ⟨ig, ic, uc⟩ := Kd.ZQ a8.out; subst uc; obtain ⟨iA, fa, pQ⟩ := Kd.ZQ bu.out; subst pQ) | ((with_reducible refine Qh (f := 41) rfl ?_); refine QG (some 10) rfl rfl Try.func41 (by kernel_rfl) rfl #[.agg #[.slice ig t101.length ic, .slice iA t104.length fa]] rfl hA ?_; (with_reducible refine (Zj.calls k _ _ t101 _ _ t104 t107 true t111 _ ?ah ?ai ?aq ?ar A2.out).mono ?_); (case ah => exact (Kd.Za a8.out).2.2); (case ai => exact (Kd.Za a8.out).2.1); (case aq => exact (Kd.Za bu.out).2.2); (case ar => exact (Kd.Za bu.out).2.1); rintro e w15 ⟨dA, rfl, ho0, hb⟩; refine ⟨_, rfl, ?_⟩; replace a8 := aa.mk (Kd.Q8 a8.out (Kd.QQ ho0) hb); replace bu := aa.mk (Kd.Q8 bu.out (Kd.QQ ho0) hb); have aZ := aa.mk (Kd.Zh ho0 (Qb bB)); replace HB := aa.mk (Qa bB hb); (try clear hb); (try clear hb2); (try clear hk); (try clear hi); (try clear ho0)) | ((with_reducible refine Qh (f := 91) rfl ?_); refine QG (some 15) rfl rfl Try.func91 (by kernel_rfl) rfl #[] rfl hA ?_; (with_reducible refine (Zv.calls  t112 t115 _ A3.out).mono ?_); rintro e w16 ⟨mf, uR, rfl, ho0, ho1, hb⟩; refine ⟨_, rfl, ?_⟩; have bf := aa.mk (Kd.Ya (Kd.ZX (ok' := fun k_ => some k_ ≠ (uR : Value).ownBlock ∧ some k_ ≠ (.slice ig t101.length ic : Value).ownBlock ∧ some k_ ≠ (.slice iA t104.length fa : Value).ownBlock ∧ some k_ ≠ (dA : Value).ownBlock) ho0 (fun k_ hk_ => ⟨hk_.2, (Kd.fresh' (Kd.N_lt a8.out) k_ hk_.1), (Kd.fresh' (Kd.N_lt bu.out) k_ hk_.1), (Kd.fresh' (Kd.R_lt aZ.out) k_ hk_.1)⟩)) (Qb bB)); have ch := aa.mk (Kd.Ya (Kd.ZX (ok' := fun k_ => some k_ ≠ (mf : Value).ownBlock ∧ some k_ ≠ (.slice ig t101.length ic : Value).ownBlock ∧ some k_ ≠ (.slice iA t104.length fa : Value).ownBlock ∧ some k_ ≠ (dA : Value).ownBlock) ho1 (fun k_ hk_ => ⟨hk_.2, (Kd.fresh' (Kd.N_lt a8.out) k_ hk_.1), (Kd.fresh' (Kd.N_lt bu.out) k_ hk_.1), (Kd.fresh' (Kd.R_lt aZ.out) k_ hk_.1)⟩)) (Qb bB)); replace a8 := aa.mk (Kd.ZX (Kd.JZ (Kd.JZ (Kd.N_old a8.out hb) (Kd.Z3 ho0)) (Kd.Z3 ho1)) (fun _ h_ => h_.1)); replace bu := aa.mk (Kd.ZX (Kd.JZ (Kd.JZ (Kd.N_old bu.out hb) (Kd.Z3 ho0)) (Kd.Z3 ho1)) (fun _ h_ => h_.1)); replace aZ := aa.mk (Kd.QV aZ.out hb); replace HB := aa.mk (Qa bB hb); (try clear hb); (try clear hb2); (try clear hk); (try clear hi); (try clear ho0); (try clear ho1)) | ((with_reducible refine QN (N := 16) rfl ?_); (try (refine Yb (by rfl) ?_; dsimp only)); refine Kd.YU (Kd.int .i64) _ 3 ?hg (N := 16) ?hd (xs := ([2, 1, 2] : List Int)) (inner := [.int .i64 2, .int .i64 1, .int .i64 2]) (ok := fun _ => True) (okp := fun _ => True) ?hr ?hp (fun _ hk => hk) trivial (Below.refl _ _) (Nat.le_refl _) (by simp) ?_; (case hd => rfl); (case hg => rfl); (case hr => first | (go_simp; done) | (go_simp; rfl)); (case hp => exact (Reps.one (show Kd.M (Kd.int .i64) _ _ _ 2 [.int .i64 2] from rfl) (Reps.one (show Kd.M (Kd.int .i64) _ _ _ 1 [.int .i64 1] from rfl) (Reps.one (show Kd.M (Kd.int .i64) _ _ _ 2 [.int .i64 2] from rfl) (Reps.none _ _))))); intro yA w17 gA hb hg_ hnew_; clear hg_ hnew_; (first | rw [← ox.out] at gA | (simp only [Int.reduceToNat] at gA; rw [← ox.out] at gA)); replace a8 := aa.mk (Kd.Q8 a8.out (Kd.QQ gA) hb); replace bu := aa.mk (Kd.Q8 bu.out (Kd.QQ gA) hb); replace bf := aa.mk (Kd.Q8 bf.out (Kd.QQ gA) hb); replace ch := aa.mk (Kd.Q8 ch.out (Kd.QQ gA) hb); have aX := aa.mk (Kd.Zh (Kd.Zm gA (Kd.R_lt aZ.out)) (Qb bB)); replace aZ := aa.mk (Kd.Zd aZ.out (Kd.QQ gA) hb); replace HB := aa.mk (Qa bB hb); clear hb gA) | ((with_reducible refine QN (N := 17) rfl ?_); (try (refine Yb (by rfl) ?_; dsimp only)); refine Kd.YU (Kd.int .i64) _ 3 ?hg (N := 17) ?hd (xs := ([5, 9] : List Int)) (inner := [.int .i64 5, .int .i64 9]) (ok := fun _ => True) (okp := fun _ => True) ?hr ?hp (fun _ hk => hk) trivial (Below.refl _ _) (Nat.le_refl _) (by simp) ?_; (case hd => rfl); (case hg => rfl); (case hr => first | (go_simp; done) | (go_simp; rfl)); (case hp => exact (Reps.one (show Kd.M (Kd.int .i64) _ _ _ 5 [.int .i64 5] from rfl) (Reps.one (show Kd.M (Kd.int .i64) _ _ _ 9 [.int .i64 9] from rfl) (Reps.none _ _)))); intro uQ w19 kz hb hg_ hnew_; clear hg_ hnew_; (first | rw [← mV.out] at kz | (simp only [Int.reduceToNat] at kz; rw [← mV.out] at kz)); replace a8 := aa.mk (Kd.Q8 a8.out (Kd.QQ kz) hb); replace bu := aa.mk (Kd.Q8 bu.out (Kd.QQ kz) hb); replace bf := aa.mk (Kd.Q8 bf.out (Kd.QQ kz) hb); replace ch := aa.mk (Kd.Q8 ch.out (Kd.QQ kz) hb); have bn := aa.mk (Kd.Zh (Kd.Zm (Kd.Zm kz (Kd.R_lt aZ.out)) (Kd.R_lt aX.out)) (Qb bB)); replace aZ := aa.mk (Kd.Zd aZ.out (Kd.QQ kz) hb); replace aX := aa.mk (Kd.Zd aX.out (Kd.QQ kz) hb); replace HB := aa.mk (Qa bB hb); clear hb kz; obtain ⟨je, iV, tZ⟩ := Kd.ZQ bf.out; subst tZ; obtain ⟨k5, kN, zE⟩ := Kd.ZQ ch.out; subst zE; obtain ⟨ie, gV, oV⟩ := Kd.Zg aX.out; subst oV; obtain ⟨kZ, jR, rn⟩ := Kd.Zg bn.out; subst rn) | ((with_reducible refine Qh (f := 46) rfl ?_); refine QG (some 18) rfl rfl Try.func46 (by kernel_rfl) rfl #[.agg #[.slice je t112.length iV, .slice k5 t115.length kN], .slice ie gD.length gV, .slice kZ ey.length jR] rfl hA ?_; (with_reducible refine (QU.calls k _ _ t112 _ _ t115 _ _ gD _ _ ey t124 t125 bp _ ?ah ?ai ?aq ?ar ?bE ?bD ?mj ?mi A4.out).mono ?_); (case ah => exact (Kd.Za bf.out).2.2); (case ai => exact (Kd.Za bf.out).2.1); (case aq => exact (Kd.Za ch.out).2.2); (case ar => exact (Kd.Za ch.out).2.1); (case bE => exact (Kd.QE aX.out).2.2); (case bD => exact (Kd.QE aX.out).2.1); (case mj => exact (Kd.QE bn.out).2.2); (case mi => exact (Kd.QE bn.out).2.1); rintro e w25 ⟨jN, rfl, ho0, hb⟩; refine ⟨_, rfl, ?_⟩; replace a8 := aa.mk (Kd.Q8 a8.out (Kd.QQ ho0) hb); replace bu := aa.mk (Kd.Q8 bu.out (Kd.QQ ho0) hb); replace bf := aa.mk (Kd.Q8 bf.out (Kd.QQ ho0) hb); replace ch := aa.mk (Kd.Q8 ch.out (Kd.QQ ho0) hb); have bF := aa.mk (Kd.Zh (Kd.Zm (Kd.Zm (Kd.Zm ho0 (Kd.R_lt aZ.out)) (Kd.R_lt aX.out)) (Kd.R_lt bn.out)) (Qb bB)); replace aZ := aa.mk (Kd.Zd aZ.out (Kd.QQ ho0) hb); replace aX := aa.mk (Kd.Zd aX.out (Kd.QQ ho0) hb); replace bn := aa.mk (Kd.Zd bn.out (Kd.QQ ho0) hb); replace HB := aa.mk (Qa bB hb); (try clear hb); (try clear hb2); (try clear hk); (try clear hi); (try clear ho0)) | ((with_reducible refine QN (N := 22) rfl ?_); (try (refine Yb (by rfl) ?_; dsimp only)); refine Kd.YU (Kd.int .i64) _ 3 ?hg (N := 22) ?hd (xs := ([1, 0] : List Int)) (inner := [.int .i64 1, .int .i64 0]) (ok := fun _ => True) (okp := fun _ => True) ?hr ?hp (fun _ hk => hk) trivial (Below.refl _ _) (Nat.le_refl _) (by simp) ?_; (case hd => rfl); (case hg => rfl); (case hr => first | (go_simp; done) | (go_simp; rfl)); (case hp => exact (Reps.one (show Kd.M (Kd.int .i64) _ _ _ 1 [.int .i64 1] from rfl) (Reps.one (show Kd.M (Kd.int .i64) _ _ _ 0 [.int .i64 0] from rfl) (Reps.none _ _)))); intro yy w26 jt hb hg_ hnew_; clear hg_ hnew_; (first | rw [← ov.out] at jt | (simp only [Int.reduceToNat] at jt; rw [← ov.out] at jt)); replace a8 := aa.mk (Kd.Q8 a8.out (Kd.QQ jt) hb); replace bu := aa.mk (Kd.Q8 bu.out (Kd.QQ jt) hb); replace bf := aa.mk (Kd.Q8 bf.out (Kd.QQ jt) hb); replace ch := aa.mk (Kd.Q8 ch.out (Kd.QQ jt) hb); have jK := aa.mk (Kd.Zh (Kd.Zm (Kd.Zm (Kd.Zm (Kd.Zm jt (Kd.R_lt aZ.out)) (Kd.R_lt aX.out)) (Kd.R_lt bn.out)) (Kd.R_lt bF.out)) (Qb bB)); replace aZ := aa.mk (Kd.Zd aZ.out (Kd.QQ jt) hb); replace aX := aa.mk (Kd.Zd aX.out (Kd.QQ jt) hb); replace bn := aa.mk (Kd.Zd bn.out (Kd.QQ jt) hb); replace bF := aa.mk (Kd.Zd bF.out (Kd.QQ jt) hb); replace HB := aa.mk (Qa bB hb); clear hb jt; obtain ⟨qo, pZ, pO⟩ := Kd.Zg jK.out; subst pO) | ((with_reducible refine QN (N := 23) rfl ?_); (try (refine Yb (by rfl) ?_; dsimp only)); refine Kd.N_lit (Kd.slice 3 (Kd.int .i64)) _ 28 ?hg (N' := 23) ?hd (xs := ([la] : List (List Int))) (inner := [.slice qo la.length pZ]) (ok := (fun k_ => some k_ ≠ (.slice ig t101.length ic : Value).ownBlock ∧ some k_ ≠ (.slice iA t104.length fa : Value).ownBlock ∧ some k_ ≠ (dA : Value).ownBlock ∧ some k_ ≠ (.slice je t112.length iV : Value).ownBlock ∧ some k_ ≠ (.slice k5 t115.length kN : Value).ownBlock ∧ some k_ ≠ (.slice ie gD.length gV : Value).ownBlock ∧ some k_ ≠ (.slice kZ ey.length jR : Value).ownBlock ∧ some k_ ≠ (jN : Value).ownBlock)) (okp := (fun k_ => some k_ ≠ (.slice ig t101.length ic : Value).ownBlock ∧ some k_ ≠ (.slice iA t104.length fa : Value).ownBlock ∧ some k_ ≠ (dA : Value).ownBlock ∧ some k_ ≠ (.slice je t112.length iV : Value).ownBlock ∧ some k_ ≠ (.slice k5 t115.length kN : Value).ownBlock ∧ some k_ ≠ (.slice ie gD.length gV : Value).ownBlock ∧ some k_ ≠ (.slice kZ ey.length jR : Value).ownBlock ∧ some k_ ≠ (jN : Value).ownBlock)) ?hr ?hp (fun _ hk => hk) ((show ∀ k_, w26.heap.size ≤ k_ → (fun k_ => some k_ ≠ (.slice ig t101.length ic : Value).ownBlock ∧ some k_ ≠ (.slice iA t104.length fa : Value).ownBlock ∧ some k_ ≠ (dA : Value).ownBlock ∧ some k_ ≠ (.slice je t112.length iV : Value).ownBlock ∧ some k_ ≠ (.slice k5 t115.length kN : Value).ownBlock ∧ some k_ ≠ (.slice ie gD.length gV : Value).ownBlock ∧ some k_ ≠ (.slice kZ ey.length jR : Value).ownBlock ∧ some k_ ≠ (jN : Value).ownBlock) k_ from fun k_ hk => ⟨Kd.fresh' (Kd.N_lt a8.out) k_ hk, Kd.fresh' (Kd.N_lt bu.out) k_ hk, Kd.fresh' (Kd.R_lt aZ.out) k_ hk, Kd.fresh' (Kd.N_lt bf.out) k_ hk, Kd.fresh' (Kd.N_lt ch.out) k_ hk, Kd.fresh' (Kd.R_lt aX.out) k_ hk, Kd.fresh' (Kd.R_lt bn.out) k_ hk, Kd.fresh' (Kd.R_lt bF.out) k_ hk⟩) _ (Nat.le_refl _)) (Below.refl _ _) (Nat.le_refl _) (by simp) ?_; (case hd => rfl); (case hg => rfl); (case hr => first | (go_simp; done) | (go_simp; rfl)); (case hp => exact (Reps.one (show Kd.FK (Kd.slice 3 (Kd.int .i64)) _ _ la [.slice qo la.length pZ] from (Kd.YD (Kd.QE (Kd.Zc (ok' := (fun k_ => some k_ ≠ (.slice ig t101.length ic : Value).ownBlock ∧ some k_ ≠ (.slice iA t104.length fa : Value).ownBlock ∧ some k_ ≠ (dA : Value).ownBlock ∧ some k_ ≠ (.slice je t112.length iV : Value).ownBlock ∧ some k_ ≠ (.slice k5 t115.length kN : Value).ownBlock ∧ some k_ ≠ (.slice ie gD.length gV : Value).ownBlock ∧ some k_ ≠ (.slice kZ ey.length jR : Value).ownBlock ∧ some k_ ≠ (jN : Value).ownBlock)) (Kd.ZC (Kd.ZC (Kd.ZC (Kd.ZC (jK.out) (Kd.ZI a8.out) (by decide)) (Kd.ZI bu.out) (by decide)) (Kd.ZI bf.out) (by decide)) (Kd.ZI ch.out) (by decide)) (fun k_ hk => ⟨hk.1.1.1.2, ⟨hk.1.1.2, ⟨hk.1.1.1.1.1.1.1.2, ⟨hk.1.2, ⟨hk.2, ⟨hk.1.1.1.1.1.1.2, ⟨hk.1.1.1.1.1.2, hk.1.1.1.1.2⟩⟩⟩⟩⟩⟩⟩))).2.1 (Kd.R_F (Kd.Zc (ok' := (fun k_ => some k_ ≠ (.slice ig t101.length ic : Value).ownBlock ∧ some k_ ≠ (.slice iA t104.length fa : Value).ownBlock ∧ some k_ ≠ (dA : Value).ownBlock ∧ some k_ ≠ (.slice je t112.length iV : Value).ownBlock ∧ some k_ ≠ (.slice k5 t115.length kN : Value).ownBlock ∧ some k_ ≠ (.slice ie gD.length gV : Value).ownBlock ∧ some k_ ≠ (.slice kZ ey.length jR : Value).ownBlock ∧ some k_ ≠ (jN : Value).ownBlock)) (Kd.ZC (Kd.ZC (Kd.ZC (Kd.ZC (jK.out) (Kd.ZI a8.out) (by decide)) (Kd.ZI bu.out) (by decide)) (Kd.ZI bf.out) (by decide)) (Kd.ZI ch.out) (by decide)) (fun k_ hk => ⟨hk.1.1.1.2, ⟨hk.1.1.2, ⟨hk.1.1.1.1.1.1.1.2, ⟨hk.1.2, ⟨hk.2, ⟨hk.1.1.1.1.1.1.2, ⟨hk.1.1.1.1.1.2, hk.1.1.1.1.2⟩⟩⟩⟩⟩⟩⟩))))) (Reps.none _ _))); intro o8 w29 lK hb hg_ hnew_; clear hg_ hnew_; (first | rw [← sL.out] at lK | (simp only [Int.reduceToNat] at lK; rw [← sL.out] at lK)); replace a8 := aa.mk (Kd.Q8 a8.out (Kd.Z3 lK) hb); replace bu := aa.mk (Kd.Q8 bu.out (Kd.Z3 lK) hb); replace aZ := aa.mk (Kd.QV aZ.out hb); replace bf := aa.mk (Kd.Q8 bf.out (Kd.Z3 lK) hb); replace ch := aa.mk (Kd.Q8 ch.out (Kd.Z3 lK) hb); replace aX := aa.mk (Kd.QV aX.out hb); replace bn := aa.mk (Kd.QV bn.out hb); replace bF := aa.mk (Kd.QV bF.out hb); have eS := aa.mk (Kd.Ya lK (Qb bB)); replace HB := aa.mk (Qa bB hb); clear jK; clear hb lK) | ((with_reducible refine QN (N := 24) rfl ?_); (try (refine Yb (by rfl) ?_; dsimp only)); refine Kd.YU (Kd.int .i64) _ 3 ?hg (N := 24) ?hd (xs := ([0, 1] : List Int)) (inner := [.int .i64 0, .int .i64 1]) (ok := fun _ => True) (okp := fun _ => True) ?hr ?hp (fun _ hk => hk) trivial (Below.refl _ _) (Nat.le_refl _) (by simp) ?_; (case hd => rfl); (case hg => rfl); (case hr => first | (go_simp; done) | (go_simp; rfl)); (case hp => exact (Reps.one (show Kd.M (Kd.int .i64) _ _ _ 0 [.int .i64 0] from rfl) (Reps.one (show Kd.M (Kd.int .i64) _ _ _ 1 [.int .i64 1] from rfl) (Reps.none _ _)))); intro Bf w31 iG hb hg_ hnew_; clear hg_ hnew_; (first | rw [← sK.out] at iG | (simp only [Int.reduceToNat] at iG; rw [← sK.out] at iG)); replace a8 := aa.mk (Kd.Q8 a8.out (Kd.QQ iG) hb); replace bu := aa.mk (Kd.Q8 bu.out (Kd.QQ iG) hb); replace bf := aa.mk (Kd.Q8 bf.out (Kd.QQ iG) hb); replace ch := aa.mk (Kd.Q8 ch.out (Kd.QQ iG) hb); replace eS := aa.mk (Kd.Q8 eS.out (Kd.QQ iG) hb); have oJ := aa.mk (Kd.Zh (Kd.Zm (Kd.Zm (Kd.Zm (Kd.Zm iG (Kd.R_lt aZ.out)) (Kd.R_lt aX.out)) (Kd.R_lt bn.out)) (Kd.R_lt bF.out)) (Qb bB)); replace aZ := aa.mk (Kd.Zd aZ.out (Kd.QQ iG) hb); replace aX := aa.mk (Kd.Zd aX.out (Kd.QQ iG) hb); replace bn := aa.mk (Kd.Zd bn.out (Kd.QQ iG) hb); replace bF := aa.mk (Kd.Zd bF.out (Kd.QQ iG) hb); replace HB := aa.mk (Qa bB hb); clear hb iG; obtain ⟨rS, ry, tY⟩ := Kd.Zg oJ.out; subst tY) | ((with_reducible refine QN (N := 25) rfl ?_); (try (refine Yb (by rfl) ?_; dsimp only)); refine Kd.N_lit (Kd.slice 3 (Kd.int .i64)) _ 28 ?hg (N' := 25) ?hd (xs := ([oP] : List (List Int))) (inner := [.slice rS oP.length ry]) (ok := (fun k_ => some k_ ≠ (.slice ig t101.length ic : Value).ownBlock ∧ some k_ ≠ (.slice iA t104.length fa : Value).ownBlock ∧ some k_ ≠ (dA : Value).ownBlock ∧ some k_ ≠ (.slice je t112.length iV : Value).ownBlock ∧ some k_ ≠ (.slice k5 t115.length kN : Value).ownBlock ∧ some k_ ≠ (.slice ie gD.length gV : Value).ownBlock ∧ some k_ ≠ (.slice kZ ey.length jR : Value).ownBlock ∧ some k_ ≠ (jN : Value).ownBlock ∧ some k_ ≠ (o8 : Value).ownBlock)) (okp := (fun k_ => some k_ ≠ (.slice ig t101.length ic : Value).ownBlock ∧ some k_ ≠ (.slice iA t104.length fa : Value).ownBlock ∧ some k_ ≠ (dA : Value).ownBlock ∧ some k_ ≠ (.slice je t112.length iV : Value).ownBlock ∧ some k_ ≠ (.slice k5 t115.length kN : Value).ownBlock ∧ some k_ ≠ (.slice ie gD.length gV : Value).ownBlock ∧ some k_ ≠ (.slice kZ ey.length jR : Value).ownBlock ∧ some k_ ≠ (jN : Value).ownBlock ∧ some k_ ≠ (o8 : Value).ownBlock)) ?hr ?hp (fun _ hk => hk) ((show ∀ k_, w31.heap.size ≤ k_ → (fun k_ => some k_ ≠ (.slice ig t101.length ic : Value).ownBlock ∧ some k_ ≠ (.slice iA t104.length fa : Value).ownBlock ∧ some k_ ≠ (dA : Value).ownBlock ∧ some k_ ≠ (.slice je t112.length iV : Value).ownBlock ∧ some k_ ≠ (.slice k5 t115.length kN : Value).ownBlock ∧ some k_ ≠ (.slice ie gD.length gV : Value).ownBlock ∧ some k_ ≠ (.slice kZ ey.length jR : Value).ownBlock ∧ some k_ ≠ (jN : Value).ownBlock ∧ some k_ ≠ (o8 : Value).ownBlock) k_ from fun k_ hk => ⟨Kd.fresh' (Kd.N_lt a8.out) k_ hk, Kd.fresh' (Kd.N_lt bu.out) k_ hk, Kd.fresh' (Kd.R_lt aZ.out) k_ hk, Kd.fresh' (Kd.N_lt bf.out) k_ hk, Kd.fresh' (Kd.N_lt ch.out) k_ hk, Kd.fresh' (Kd.R_lt aX.out) k_ hk, Kd.fresh' (Kd.R_lt bn.out) k_ hk, Kd.fresh' (Kd.R_lt bF.out) k_ hk, Kd.fresh' (Kd.N_lt eS.out) k_ hk⟩) _ (Nat.le_refl _)) (Below.refl _ _) (Nat.le_refl _) (by simp) ?_; (case hd => rfl); (case hg => rfl); (case hr => first | (go_simp; done) | (go_simp; rfl)); (case hp => exact (Reps.one (show Kd.FK (Kd.slice 3 (Kd.int .i64)) _ _ oP [.slice rS oP.length ry] from (Kd.YD (Kd.QE (Kd.Zc (ok' := (fun k_ => some k_ ≠ (.slice ig t101.length ic : Value).ownBlock ∧ some k_ ≠ (.slice iA t104.length fa : Value).ownBlock ∧ some k_ ≠ (dA : Value).ownBlock ∧ some k_ ≠ (.slice je t112.length iV : Value).ownBlock ∧ some k_ ≠ (.slice k5 t115.length kN : Value).ownBlock ∧ some k_ ≠ (.slice ie gD.length gV : Value).ownBlock ∧ some k_ ≠ (.slice kZ ey.length jR : Value).ownBlock ∧ some k_ ≠ (jN : Value).ownBlock ∧ some k_ ≠ (o8 : Value).ownBlock)) (Kd.ZC (Kd.ZC (Kd.ZC (Kd.ZC (Kd.ZC (oJ.out) (Kd.ZI a8.out) (by decide)) (Kd.ZI bu.out) (by decide)) (Kd.ZI bf.out) (by decide)) (Kd.ZI ch.out) (by decide)) (Kd.ZI eS.out) (by decide)) (fun k_ hk => ⟨hk.1.1.1.1.2, ⟨hk.1.1.1.2, ⟨hk.1.1.1.1.1.1.1.1.2, ⟨hk.1.1.2, ⟨hk.1.2, ⟨hk.1.1.1.1.1.1.1.2, ⟨hk.1.1.1.1.1.1.2, ⟨hk.1.1.1.1.1.2, hk.2⟩⟩⟩⟩⟩⟩⟩⟩))).2.1 (Kd.R_F (Kd.Zc (ok' := (fun k_ => some k_ ≠ (.slice ig t101.length ic : Value).ownBlock ∧ some k_ ≠ (.slice iA t104.length fa : Value).ownBlock ∧ some k_ ≠ (dA : Value).ownBlock ∧ some k_ ≠ (.slice je t112.length iV : Value).ownBlock ∧ some k_ ≠ (.slice k5 t115.length kN : Value).ownBlock ∧ some k_ ≠ (.slice ie gD.length gV : Value).ownBlock ∧ some k_ ≠ (.slice kZ ey.length jR : Value).ownBlock ∧ some k_ ≠ (jN : Value).ownBlock ∧ some k_ ≠ (o8 : Value).ownBlock)) (Kd.ZC (Kd.ZC (Kd.ZC (Kd.ZC (Kd.ZC (oJ.out) (Kd.ZI a8.out) (by decide)) (Kd.ZI bu.out) (by decide)) (Kd.ZI bf.out) (by decide)) (Kd.ZI ch.out) (by decide)) (Kd.ZI eS.out) (by decide)) (fun k_ hk => ⟨hk.1.1.1.1.2, ⟨hk.1.1.1.2, ⟨hk.1.1.1.1.1.1.1.1.2, ⟨hk.1.1.2, ⟨hk.1.2, ⟨hk.1.1.1.1.1.1.1.2, ⟨hk.1.1.1.1.1.1.2, ⟨hk.1.1.1.1.1.2, hk.2⟩⟩⟩⟩⟩⟩⟩⟩))))) (Reps.none _ _))); intro Be w34 lf hb hg_ hnew_; clear hg_ hnew_; (first | rw [← sJ.out] at lf | (simp only [Int.reduceToNat] at lf; rw [← sJ.out] at lf)); replace a8 := aa.mk (Kd.Q8 a8.out (Kd.Z3 lf) hb); replace bu := aa.mk (Kd.Q8 bu.out (Kd.Z3 lf) hb); replace aZ := aa.mk (Kd.QV aZ.out hb); replace bf := aa.mk (Kd.Q8 bf.out (Kd.Z3 lf) hb); replace ch := aa.mk (Kd.Q8 ch.out (Kd.Z3 lf) hb); replace aX := aa.mk (Kd.QV aX.out hb); replace bn := aa.mk (Kd.QV bn.out hb); replace bF := aa.mk (Kd.QV bF.out hb); replace eS := aa.mk (Kd.Q8 eS.out (Kd.Z3 lf) hb); have jd := aa.mk (Kd.Ya lf (Qb bB)); replace HB := aa.mk (Qa bB hb); clear oJ; clear hb lf; obtain ⟨nK, nB, mM⟩ := Kd.ZQ jd.out; subst mM; obtain ⟨rR, rv, tV⟩ := Kd.ZQ eS.out; subst tV) | ((with_reducible refine QN (N := 27) rfl ?_); (try (refine Yb (by rfl) ?_; dsimp only)); refine Kd.YU (Kd.int .i64) _ 3 ?hg (N := 27) ?hd (xs := ([1, (-1)] : List Int)) (inner := [.int .i64 1, .int .i64 (-1)]) (ok := fun _ => True) (okp := fun _ => True) ?hr ?hp (fun _ hk => hk) trivial (Below.refl _ _) (Nat.le_refl _) (by simp) ?_; (case hd => rfl); (case hg => rfl); (case hr => first | (go_simp; done) | (go_simp; rfl)); (case hp => exact (Reps.one (show Kd.M (Kd.int .i64) _ _ _ 1 [.int .i64 1] from rfl) (Reps.one (show Kd.M (Kd.int .i64) _ _ _ (-1) [.int .i64 (-1)] from rfl) (Reps.none _ _)))); intro Bd w38 iu hb hg_ hnew_; clear hg_ hnew_; (first | rw [← sI.out] at iu | (simp only [Int.reduceToNat] at iu; rw [← sI.out] at iu)); replace a8 := aa.mk (Kd.Q8 a8.out (Kd.QQ iu) hb); replace bu := aa.mk (Kd.Q8 bu.out (Kd.QQ iu) hb); replace bf := aa.mk (Kd.Q8 bf.out (Kd.QQ iu) hb); replace ch := aa.mk (Kd.Q8 ch.out (Kd.QQ iu) hb); replace eS := aa.mk (Kd.Q8 eS.out (Kd.QQ iu) hb); replace jd := aa.mk (Kd.Q8 jd.out (Kd.QQ iu) hb); have jJ := aa.mk (Kd.Zh (Kd.Zm (Kd.Zm (Kd.Zm (Kd.Zm iu (Kd.R_lt aZ.out)) (Kd.R_lt aX.out)) (Kd.R_lt bn.out)) (Kd.R_lt bF.out)) (Qb bB)); replace aZ := aa.mk (Kd.Zd aZ.out (Kd.QQ iu) hb); replace aX := aa.mk (Kd.Zd aX.out (Kd.QQ iu) hb); replace bn := aa.mk (Kd.Zd bn.out (Kd.QQ iu) hb); replace bF := aa.mk (Kd.Zd bF.out (Kd.QQ iu) hb); replace HB := aa.mk (Qa bB hb); clear hb iu; obtain ⟨rP, rr, oU⟩ := Kd.Zg jJ.out; subst oU) | ((with_reducible refine Qh (f := 43) rfl ?_); refine QG (some 28) rfl rfl Try.func43 (by kernel_rfl) rfl #[.agg #[.slice rR oQ.length rv, .slice nK qz.length nB], .slice rP sP.length rr] rfl hA ?_; (with_reducible refine (Q9.calls k _ _ oQ _ _ qz _ _ sP dn _ ?ah ?ai ?aq ?ar ?bE ?bD A5.out).mono ?_); (case ah => exact (Kd.Za eS.out).2.2); (case ai => exact (Kd.Za eS.out).2.1); (case aq => exact (Kd.Za jd.out).2.2); (case ar => exact (Kd.Za jd.out).2.1); (case bE => exact (Kd.QE jJ.out).2.2); (case bD => exact (Kd.QE jJ.out).2.1); rintro e w41 ⟨rfl, hb⟩; refine ⟨_, rfl, ?_⟩; replace a8 := aa.mk (Kd.ZO a8.out hb); replace bu := aa.mk (Kd.ZO bu.out hb); replace aZ := aa.mk (Kd.QV aZ.out hb); replace bf := aa.mk (Kd.ZO bf.out hb); replace ch := aa.mk (Kd.ZO ch.out hb); replace aX := aa.mk (Kd.QV aX.out hb); replace bn := aa.mk (Kd.QV bn.out hb); replace bF := aa.mk (Kd.QV bF.out hb); replace eS := aa.mk (Kd.ZO eS.out hb); replace jd := aa.mk (Kd.ZO jd.out hb); replace jJ := aa.mk (Kd.QV jJ.out hb); replace HB := aa.mk (Qa bB hb); (try clear hb); (try clear hb2); (try clear hk); (try clear hi)) | ((with_reducible refine QN (N := 36) rfl ?_); (try (refine Yb (by rfl) ?_; dsimp only)); refine Kd.YU (Kd.int .i64) _ 3 ?hg (N := 36) ?hd (xs := ([2, 1, 2] : List Int)) (inner := [.int .i64 2, .int .i64 1, .int .i64 2]) (ok := fun _ => True) (okp := fun _ => True) ?hr ?hp (fun _ hk => hk) trivial (Below.refl _ _) (Nat.le_refl _) (by simp) ?_; (case hd => rfl); (case hg => rfl); (case hr => first | (go_simp; done) | (go_simp; rfl)); (case hp => exact (Reps.one (show Kd.M (Kd.int .i64) _ _ _ 2 [.int .i64 2] from rfl) (Reps.one (show Kd.M (Kd.int .i64) _ _ _ 1 [.int .i64 1] from rfl) (Reps.one (show Kd.M (Kd.int .i64) _ _ _ 2 [.int .i64 2] from rfl) (Reps.none _ _))))); intro Bc w42 ia hb hg_ hnew_; clear hg_ hnew_; (first | rw [← sH.out] at ia | (simp only [Int.reduceToNat] at ia; rw [← sH.out] at ia)); replace a8 := aa.mk (Kd.Q8 a8.out (Kd.QQ ia) hb); replace bu := aa.mk (Kd.Q8 bu.out (Kd.QQ ia) hb); replace bf := aa.mk (Kd.Q8 bf.out (Kd.QQ ia) hb); replace ch := aa.mk (Kd.Q8 ch.out (Kd.QQ ia) hb); replace eS := aa.mk (Kd.Q8 eS.out (Kd.QQ ia) hb); replace jd := aa.mk (Kd.Q8 jd.out (Kd.QQ ia) hb); have qj := aa.mk (Kd.Zh (Kd.Zm (Kd.Zm (Kd.Zm (Kd.Zm (Kd.Zm ia (Kd.R_lt aZ.out)) (Kd.R_lt aX.out)) (Kd.R_lt bn.out)) (Kd.R_lt bF.out)) (Kd.R_lt jJ.out)) (Qb bB)); replace aZ := aa.mk (Kd.Zd aZ.out (Kd.QQ ia) hb); replace aX := aa.mk (Kd.Zd aX.out (Kd.QQ ia) hb); replace bn := aa.mk (Kd.Zd bn.out (Kd.QQ ia) hb); replace bF := aa.mk (Kd.Zd bF.out (Kd.QQ ia) hb); replace jJ := aa.mk (Kd.Zd jJ.out (Kd.QQ ia) hb); replace HB := aa.mk (Qa bB hb); clear hb ia; obtain ⟨wV, vN, tR⟩ := Kd.Zg aZ.out; subst tR; obtain ⟨nJ, nA, pL⟩ := Kd.Zg qj.out; subst pL) | (go_at_call 45; (with_reducible refine (Qv.calls k _ _ t107 _ _ uP true _ ?ah ?ai ?aq ?ar A8.out).mono ?_); (case ah => exact (Kd.QE aZ.out).2.2); (case ai => exact (Kd.QE aZ.out).2.1); (case aq => exact (Kd.QE qj.out).2.2); (case ar => exact (Kd.QE qj.out).2.1); rintro e w' ⟨rfl, ⟨nd, rfl⟩⟩))
      go_ret; exact ⟨by first | rfl | (simp [Qk, Qj] <;> rfl) | (simp [*, Qk, Qj] <;> rfl), bB⟩
     ·rw [if_neg c11] at H; exact absurd H (by simp)
    ·rw [if_neg c10] at H; exact absurd H (by simp)
   ·replace c9 := Bool.eq_false_iff.mpr c9; subst c9; have H1 : (none) = some r := by rw [if_neg (show ¬ (false = true) by decide)] at H; exact H
    clear H; have H := H1; clear H1; exact absurd H (by simp)
  ·replace c7 := Bool.eq_false_iff.mpr c7; subst c7; have H1 : (none) = some r := by rw [if_neg (show ¬ (false = true) by decide)] at H; exact H
   clear H; have H := H1; clear H1; exact absurd H (by simp)
 ·rw [if_neg c6] at H; exact absurd H (by simp)
mutual
def QK.l0 : Nat → Int → Int → Int → List (List Int) → List (List Int) → Option (List Int × Bool)
 | 0, _, _, _, _, _ => none
 | k + 1, x1, x16, x17, av, aw => if x17 < x16 then (if 0 ≤ x1 then (if (Go.bits .and .i64 (shr .i64 x17 x1) 1) = 0 then (QK.l0 k x1 x16 (wrap64 (x17 + 1)) av aw) else ((Q5.f av aw).bind fun t103 => (QK.l1 k x1 x17 ([] : List Int) x16 x17 t103 0 av aw))) else (none)) else (some (([] : List Int), false))
def QK.l1 : Nat → Int → Int → List Int → Int → Int → Int → Int → List (List Int) → List (List Int) → Option (List Int × Bool)
 | 0, _, _, _, _, _, _, _, _, _ => none
 | k + 1, x1, x6, x7, x16, x17, x26, x27, av, aw => if x27 < x26 then (if 0 ≤ x27 then (if (Go.bits .and .i64 (shr .i64 x6 x27) 1) = 1 then (if x7.length < 17592186044416 then (QK.l1 k x1 x6 (x7 ++ [x27]) x16 x17 x26 (wrap64 (x27 + 1)) av aw) else (none)) else (QK.l1 k x1 x6 x7 x16 x17 x26 (wrap64 (x27 + 1)) av aw)) else (none)) else ((ZM.f av aw).bind fun t107 => ((Z7.f t107 x7).bind fun t110 => ((Zl.f t110 (x7.length : Int)).bind fun fF => (if fF.2 = true then ((Qn.f k fF.1).bind fun t117 => (QK.j2 k x1 x7 fF.1 x16 x17 (decide (t117 ≤ 0)) av aw)) else (QK.j2 k x1 x7 fF.1 x16 x17 true av aw)))))
def QK.j2 : Nat → Int → List Int → List Int → Int → Int → Bool → List (List Int) → List (List Int) → Option (List Int × Bool)
 | 0, _, _, _, _, _, _, _, _ => none
 | k + 1, x1, x7, x9, x16, x17, x56, av, aw => if x56 = true then (QK.l0 k x1 x16 (wrap64 (x17 + 1)) av aw) else ((Q5.f av aw).bind fun t118 => (if 0 ≤ t118 then (if (t118 : Int).toNat ≤ 35184372088832 then (QK.l2 k x9 (List.replicate (t118 : Int).toNat 0) x7 (x7.length : Int) 0) else (none)) else (none)))
def QK.l2 : Nat → List Int → List Int → List Int → Int → Int → Option (List Int × Bool)
 | 0, _, _, _, _, _ => none
 | k + 1, x9, x11, x60, x61, x62 => if x62 < x61 then (if 0 ≤ x62 then (if x62 < (x60.length : Int) then (if x62 < (x9.length : Int) then (if 0 ≤ (rd x60 x62) then (if (rd x60 x62) < (x11.length : Int) then (QK.l2 k x9 (x11.set ((rd x60 x62) : Int).toNat (rd x9 x62)) x60 x61 (wrap64 (x62 + 1))) else (none)) else (none)) else (none)) else (none)) else (none)) else (some (x11, true))
end
def QK.f (k : Nat) (ae : List (List Int)) (af : List (List Int)) (a1 : Int) : Option (List Int × Bool) := (Q5.f ae af).bind fun t102 => (if 0 ≤ t102 then (QK.l0 k a1 (shl .i64 1 t102) 0 ae af) else (none))
set_option maxHeartbeats 8000000 in
set_option maxRecDepth 100000 in
theorem QK.calls (k : Nat) (ak : Option Addr) (an : Nat) (ae : List (List Int)) (aj : Option Addr) (al : Nat) (af : List (List Int)) (a1 : Int) (r1 : List Int) (r2 : Bool) (w : World) (aM : Kd.C (Kd.slice 3 (Kd.int .i64)) w ak ae.length ae) (aQ : ae.length ≤ an) (aK : Kd.C (Kd.slice 3 (Kd.int .i64)) w aj af.length af) (aN : af.length ≤ al) (h : QK.f k ae af a1 = some (r1, r2)) :
  Calls Try.prog 112 #[.agg #[.slice ak ae.length an, .slice aj af.length al], .int .i64 a1] w fun e w' => ∃ v0_ : Value, e = .returned (.tuple #[v0_, .bool r2]) ∧ Kd.R (Kd.int .i64) 3 w' w.heap.size (fun _ => True) v0_ r1 ∧ Below w.heap.size w w' := by
 have ej := Try.underlying24; have ay := aa.mk aM; have aA := aa.mk aQ; clear aM aQ; have az := aa.mk aK; have aC := aa.mk aN; clear aK aN; have HB := aa.mk (Below.refl w.heap.size w); have H : ((Q5.f ae af).bind fun t102 => (if 0 ≤ t102 then (QK.l0 k a1 (shl .i64 1 t102) 0 ae af) else (none))) = some (r1, r2) := h; clear h; replace H := Option.bind_eq_some_iff.mp H; obtain ⟨t102, A30, H⟩ := H; replace H : (if 0 ≤ t102 then (QK.l0 k a1 (shl .i64 1 t102) 0 ae af) else (none)) = some (r1, r2) := H; have A3 := aa.mk A30; clear A30; by_cases c4 : 0 ≤ t102
 ·rw [if_pos c4] at H; have bI := eq_true c4; have eh : decide (0 ≤ t102) = true := decide_eq_true c4; clear c4; obtain ⟨ji5, ju⟩ : ∃ j_ : Int, (shl .i64 1 t102) = j_ := ⟨_, rfl⟩; replace H : (QK.l0 k a1 ji5 0 ae af) = some (r1, r2) := by first | (rw [ju] at H; exact H) | (simp only [ju] at H ⊢; exact H)
  (try rw [ju] at A3)
  have mK : (IntKind.i64.wrap (1 * 2 ^ min t102.toNat 64)) = ji5 := ju; have mJ : t102 ≤ 64 → (IntKind.i64.wrap (1 * 2 ^ t102.toNat)) = ji5 := VY ju; have vm : (IntKind.i64.wrap (2 ^ min t102.toNat 64)) = ji5 := by have h_ := mK; rw [Int.one_mul] at h_; exact h_
  have vk : t102 ≤ 64 → (IntKind.i64.wrap (2 ^ t102.toNat)) = ji5 := fun hle_ => by have h_ := mJ hle_; rw [Int.one_mul] at h_; exact h_
  have vh : (wrap64 (1 * 2 ^ min t102.toNat 64)) = ji5 := (QC _).symm.trans mK; have vi : t102 ≤ 64 → (wrap64 (1 * 2 ^ t102.toNat)) = ji5 := fun h_ => (QC _).symm.trans (mJ h_)
  have H' := aa.mk H; clear H; go_enter Try.func112, Try.ntmps112; go_wp2_with (first | ((with_reducible refine QN (N := 2) rfl ?_); refine Q3 ?hg (N := 2) ?hd (cs := #[.slice ak ae.length an, .slice aj af.length al]) (t := 24) ?hr ?_; (case hd => rfl); (case hg => rfl); (case hr => first | (go_simp; done) | (go_simp; rfl)); intro ag hg w6 hbox hb; have ab := aa.mk (hbox); have bh := aa.mk ((by rw [hg]; exact (Qb bB) : w.heap.size ≤ ag)); have aT := aa.mk ((by rw [hg]; exact (Qb bB) : w.heap.size ≤ ag)); replace HB := aa.mk (Qa bB hb); clear hb hbox hg; have fl : w6.cell? ⟨ag, 0, none⟩ = some (.slice ak ae.length an) := (Qd ab.out 0).trans rfl; have fk : w6.cell? ⟨ag, 1, none⟩ = some (.slice aj af.length al) := (Qd ab.out 1).trans rfl; have fj := Qc ab.out 0; have fi := Qc ab.out 1) | ((with_reducible refine Qh (f := 71) rfl ?_); refine QG (some 15) rfl rfl Try.func71 (by kernel_rfl) rfl #[.agg #[.slice ak ae.length an, .slice aj af.length al]] rfl hA ?_; (with_reducible refine (Q5.calls _ _ ae _ _ af t102 _ ?ah ?ai ?aq ?ar A3.out).mono ?_); (case ah => exact (Kd.Qq ay.out HB.out)); (case ai => exact aA.out); (case aq => exact (Kd.Qq az.out HB.out)); (case ar => exact aC.out); rintro e w8 ⟨rfl, hb⟩; refine ⟨_, rfl, ?_⟩; replace ab := aa.mk (Qp ab.out hb); replace HB := aa.mk (Qa bB hb); (try clear hb); (try clear hb2); (try clear hk); (try clear hi)))
  go_loopg [17] k (fun kq v17 w' => ∃ (bP : Int), v17 = .int .i64 bP ∧ aa (QK.l0 kq a1 ji5 bP ae af = some (r1, r2)) ∧ aa (kq ≤ k) ∧ aa (w'.heap[ag]? = some (.cells #[(.slice ak ae.length an), (.slice aj af.length al)] 24 (0, 0))) ∧ aa (Below w.heap.size w w'))
  case atStart => exact ⟨(0), (by first | rfl | (simp; done) | (simp [*]; done)), H', ⟨Nat.le_refl _⟩, ⟨by (with_reducible repeat (first | refine Qx ?_ _ | refine QA ?_ | refine Qw ?_ _)); exact ab.out⟩, ⟨bB⟩⟩
  case round =>
   clear H'; try clear c1
   try clear p2
   try clear c4
   try clear bI
   try clear eh
   try clear p6
   try clear c7
   try clear fl
   try clear fk
   try clear fj
   try clear fi
   obtain ⟨bP, rfl, HA, HK1, ab, HB⟩ := hrel; cases gk with
   | zero => exact absurd HA.out (by simp [QK.l0])
   | succ k1 =>
    have H := HA.out; clear HA; simp only [QK.l0] at H; by_cases c9 : bP < ji5
    ·rw [if_pos c9] at H; have fv : decide (bP < ji5) = true := decide_eq_true c9; clear c9; by_cases c10 : 0 ≤ a1
     ·rw [if_pos c10] at H; have fq := eq_true c10; have jE : decide (0 ≤ a1) = true := decide_eq_true c10; clear c10; obtain ⟨b0, gS⟩ : ∃ j_ : Int, (shr .i64 bP a1) = j_ := ⟨_, rfl⟩; replace H : (if (Go.bits .and .i64 (b0) 1) = 0 then (QK.l0 k1 a1 ji5 (wrap64 (bP + 1)) ae af) else ((Q5.f ae af).bind fun t103 => (QK.l1 k1 a1 bP ([] : List Int) ji5 bP t103 0 ae af))) = some (r1, r2) := by first | (rw [gS] at H; exact H) | (simp only [gS] at H ⊢; exact H)
      have yY : (bP / 2 ^ min a1.toNat 64) = b0 := gS; have yW : a1 ≤ 64 → (bP / 2 ^ a1.toNat) = b0 := VX gS; by_cases c12 : (Go.bits .and .i64 (b0) 1) = 0
      ·rw [if_pos c12] at H; have eP : ((Go.bits .and .i64 (b0) 1) == 0) = true := beq_iff_eq.mpr c12; have lh : ((Go.bits .and .i64 (b0) 1) != 0) = false := bne_eq_false_iff_eq.mpr c12; clear c12; have H' := aa.mk H; clear H; go_wp2; go_roundg k1
       case measure => have := HK1.out; omega
       case rel => exact ⟨(wrap64 (bP + 1)), (by first | rfl | (simp; done) | (simp [*]; done)), H', ⟨by have := HK1.out; omega⟩, ⟨by (with_reducible repeat (first | refine Qx ?_ _ | refine QA ?_ | refine Qw ?_ _)); exact ab.out⟩, ⟨bB⟩⟩
      ·rw [if_neg c12] at H; have eP : ((Go.bits .and .i64 (b0) 1) == 0) = false := beq_eq_false_iff_ne.mpr c12; have lh : ((Go.bits .and .i64 (b0) 1) != 0) = true := bne_iff_ne.mpr c12; replace H := Option.bind_eq_some_iff.mp H; obtain ⟨t103, qx, H⟩ := H; replace H : (QK.l1 k1 a1 bP ([] : List Int) ji5 bP t103 0 ae af) = some (r1, r2) := H; have A13 := aa.mk qx; clear qx; have H' := aa.mk H; clear H; have dg : wr.cell? ⟨ag, 0, none⟩ = some (.slice ak ae.length an) := (Qd ab.out 0).trans rfl; have df : wr.cell? ⟨ag, 1, none⟩ = some (.slice aj af.length al) := (Qd ab.out 1).trans rfl; have de := Qc ab.out 0; have dd := Qc ab.out 1; go_wp2_with (first | ((with_reducible refine Qh (f := 71) rfl ?_); refine QG (some 26) rfl rfl Try.func71 (by kernel_rfl) rfl #[.agg #[.slice ak ae.length an, .slice aj af.length al]] rfl hA ?_; (with_reducible refine (Q5.calls _ _ ae _ _ af t103 _ ?ah ?ai ?aq ?ar A13.out).mono ?_); (case ah => exact (Kd.Qq ay.out HB.out)); (case ai => exact aA.out); (case aq => exact (Kd.Qq az.out HB.out)); (case ar => exact aC.out); rintro e w15 ⟨rfl, hb⟩; refine ⟨_, rfl, ?_⟩; replace ab := aa.mk (Qp ab.out hb); replace HB := aa.mk (Qa bB hb); (try clear hb); (try clear hb2); (try clear hk); (try clear hi)))
       go_loopg [7, 27] k1 (fun kq v7 v27 w' => ∃ (aG : List Int) (dk : Int), v27 = .int .i64 dk ∧ aa (QK.l1 kq a1 bP aG ji5 bP t103 dk ae af = some (r1, r2)) ∧ aa (kq ≤ k1) ∧ aa (Kd.R (Kd.int .i64) 3 w' w.heap.size (fun _ => True) v7 aG) ∧ aa (w'.heap[ag]? = some (.cells #[(.slice ak ae.length an), (.slice aj af.length al)] 24 (0, 0))) ∧ aa (Below w.heap.size w w'))
       case atStart => exact ⟨(([] : List Int)), (0), (by first | rfl | (simp; done) | (simp [*]; done)), H', ⟨Nat.le_refl _⟩, ⟨by first | exact Kd.Yr _ _ _ _ _ | exact Kd.Yv _ _ _ _ _ | exact Kd.V_nil _ _ _ _ _ | exact Kd.Q_nil _ _ _ _ _ | exact Kd.Yy _ _ _ _ _⟩, ⟨by (with_reducible repeat (first | refine Qx ?_ _ | refine QA ?_ | refine Qw ?_ _)); exact ab.out⟩, ⟨bB⟩⟩
       case round =>
        clear H'; try clear c1
        try clear p2
        try clear c4
        try clear bI
        try clear eh
        try clear p6
        try clear c7
        try clear c9
        try clear fv
        try clear c10
        try clear fq
        try clear jE
        try clear c11
        try clear c12
        try clear eP
        try clear lh
        try clear dg
        try clear df
        try clear fl
        try clear fk
        try clear de
        try clear dd
        try clear fj
        try clear fi
        try clear p2
        try clear p6
        obtain ⟨aG, dk, rfl, HA, HK2, ax, ab, HB⟩ := hrel; cases gk with
        | zero => exact absurd HA.out (by simp [QK.l1])
        | succ k2 =>
         have H := HA.out; clear HA; simp only [QK.l1] at H; by_cases c16 : dk < t103
         ·rw [if_pos c16] at H; have gX : decide (dk < t103) = true := decide_eq_true c16; clear c16; by_cases c17 : 0 ≤ dk
          ·rw [if_pos c17] at H; have gp := eq_true c17; have sB : decide (0 ≤ dk) = true := decide_eq_true c17; clear c17; obtain ⟨mq, n3⟩ : ∃ j_ : Int, (shr .i64 bP dk) = j_ := ⟨_, rfl⟩; replace H : (if (Go.bits .and .i64 (mq) 1) = 1 then (if aG.length < 17592186044416 then (QK.l1 k2 a1 bP (aG ++ [dk]) ji5 bP t103 (wrap64 (dk + 1)) ae af) else (none)) else (QK.l1 k2 a1 bP aG ji5 bP t103 (wrap64 (dk + 1)) ae af)) = some (r1, r2) := by first | (rw [n3] at H; exact H) | (simp only [n3] at H ⊢; exact H)
           have yQ : (bP / 2 ^ min dk.toNat 64) = mq := n3; have yP : dk ≤ 64 → (bP / 2 ^ dk.toNat) = mq := VX n3; by_cases c19 : (Go.bits .and .i64 (mq) 1) = 1
           ·rw [if_pos c19] at H; have eO : ((Go.bits .and .i64 (mq) 1) == 1) = true := beq_iff_eq.mpr c19; have kT : ((Go.bits .and .i64 (mq) 1) != 1) = false := bne_eq_false_iff_eq.mpr c19; clear c19; by_cases c20 : aG.length < 17592186044416
            ·rw [if_pos c20] at H; have mX := aa.mk c20; clear c20; obtain ⟨ku, cK⟩ : ∃ y_ : List Int, y_ = (aG ++ [dk]) := ⟨_, rfl⟩; replace H : (QK.l1 k2 a1 bP ku ji5 bP t103 (wrap64 (dk + 1)) ae af) = some (r1, r2) := by first | (rw [cK]; with_reducible exact H) | (have H2_ := (Option.bind_some _ _).symm.trans H; rw [cK]; with_reducible exact H2_) | (have H2_ := (Option.bind_some _ _).symm.trans H; with_reducible exact H2_) | with_reducible exact H | (rw [cK]; exact H) | exact H
             have iZ := aa.mk cK; clear cK; have H' := aa.mk H; clear H; go_wp2_with (first | ((with_reducible refine Zs (b := .append) (xs := #[.tmp 35, .tmp 37]) rfl ?_); at_builtin; refine Kd.Ys (Kd.int .i64) (w0 := w) w.heap.size rfl (.tmp 35) (.tmp 37) 28 3 (.int .i64 0) 8 rfl Try.underlying28 info3 rfl (by decide) (by omega) u7 aG dk [.int .i64 dk] (fun _ => True) (fun _ => False) rfl rfl ?aP (fun _ hk => hk.elim) ?aF ?aO ?aB ?aS ?aL ?_; (case aP => exact rfl); (case aB => exact bB); (case aF => exact (fun _ _ => trivial)); (case aO => exact ax.out); (case aS => exact (Qb bB)); (case aL => have := mX.out; omega); intro jP w21 ho hb hg hat; rw [← iZ.out] at ho; replace ab := aa.mk (Yq (g := ag) (o := .cells #[.slice ak ae.length an, .slice aj af.length al] 24 (0, 0)) (by (with_reducible repeat (first | refine Qx ?_ _ | refine QA ?_ | refine Qw ?_ _)); exact ab.out) hg (Kd.R_ne ax.out ab.out (by decide))); replace HB := aa.mk (hb); have bu := aa.mk (ho); clear ax; clear ho hb hg hat))
             go_roundg k2
             case measure => have := HK1.out; have := HK2.out; omega
             case rel => exact ⟨(ku), (wrap64 (dk + 1)), (by first | rfl | (simp; done) | (simp [*]; done)), H', ⟨by have := HK1.out; have := HK2.out; omega⟩, ⟨by (with_reducible repeat (first | apply Kd.R_alloc | apply Kd.R_drewN | apply Kd.QO)); exact bu.out⟩, ⟨by (with_reducible repeat (first | refine Qx ?_ _ | refine QA ?_ | refine Qw ?_ _)); exact ab.out⟩, ⟨bB⟩⟩
            ·rw [if_neg c20] at H; exact absurd H (by simp)
           ·rw [if_neg c19] at H; have eO : ((Go.bits .and .i64 (mq) 1) == 1) = false := beq_eq_false_iff_ne.mpr c19; have kT : ((Go.bits .and .i64 (mq) 1) != 1) = true := bne_iff_ne.mpr c19; have H' := aa.mk H; clear H; go_wp2; go_roundg k2
            case measure => have := HK1.out; have := HK2.out; omega
            case rel => exact ⟨(aG), (wrap64 (dk + 1)), (by first | rfl | (simp; done) | (simp [*]; done)), H', ⟨by have := HK1.out; have := HK2.out; omega⟩, ⟨by (with_reducible repeat (first | apply Kd.R_alloc | apply Kd.R_drewN | apply Kd.QO)); exact ax.out⟩, ⟨by (with_reducible repeat (first | refine Qx ?_ _ | refine QA ?_ | refine Qw ?_ _)); exact ab.out⟩, ⟨bB⟩⟩
          ·rw [if_neg c17] at H; exact absurd H (by simp)
         ·rw [if_neg c16] at H; have gX : decide (dk < t103) = false := decide_eq_false c16; clear c16; replace H := Option.bind_eq_some_iff.mp H; obtain ⟨t107, qt, H⟩ := H; replace H : ((Z7.f t107 aG).bind fun t110 => ((Zl.f t110 (aG.length : Int)).bind fun fF => (if fF.2 = true then ((Qn.f k2 fF.1).bind fun t117 => (QK.j2 k2 a1 aG fF.1 ji5 bP (decide (t117 ≤ 0)) ae af)) else (QK.j2 k2 a1 aG fF.1 ji5 bP true ae af)))) = some (r1, r2) := H; have A22 := aa.mk qt; clear qt; replace H := Option.bind_eq_some_iff.mp H; obtain ⟨t110, xi, H⟩ := H; replace H : ((Zl.f t110 (aG.length : Int)).bind fun fF => (if fF.2 = true then ((Qn.f k2 fF.1).bind fun t117 => (QK.j2 k2 a1 aG fF.1 ji5 bP (decide (t117 ≤ 0)) ae af)) else (QK.j2 k2 a1 aG fF.1 ji5 bP true ae af))) = some (r1, r2) := H; have A23 := aa.mk xi; clear xi; replace H := Option.bind_eq_some_iff.mp H; obtain ⟨⟨t113, t114⟩, qq, H⟩ := H; replace H : (if t114 = true then ((Qn.f k2 t113).bind fun t117 => (QK.j2 k2 a1 aG t113 ji5 bP (decide (t117 ≤ 0)) ae af)) else (QK.j2 k2 a1 aG t113 ji5 bP true ae af)) = some (r1, r2) := H; have A24 := aa.mk qq; clear qq; have uI := aa.mk H; clear H; have kg : wr.cell? ⟨ag, 0, none⟩ = some (.slice ak ae.length an) := (Qd ab.out 0).trans rfl; have kf : wr.cell? ⟨ag, 1, none⟩ = some (.slice aj af.length al) := (Qd ab.out 1).trans rfl; have j7 := Qc ab.out 0; have j6 := Qc ab.out 1; go_upto_region 13 with (first | ((with_reducible refine Qh (f := 73) rfl ?_); refine QG (some 42) rfl rfl Try.func73 (by kernel_rfl) rfl #[.agg #[.slice ak ae.length an, .slice aj af.length al]] rfl hA ?_; (with_reducible refine (ZM.calls _ _ ae _ _ af t107 _ ?ah ?ai ?aq ?ar A22.out).mono ?_); (case ah => exact (Kd.Qq ay.out HB.out)); (case ai => exact aA.out); (case aq => exact (Kd.Qq az.out HB.out)); (case ar => exact aC.out); rintro e w27 ⟨dA, rfl, ho0, hb⟩; refine ⟨_, rfl, ?_⟩; replace ax := aa.mk (Kd.QV ax.out hb); have aZ := aa.mk (Kd.Zh ho0 (Qb bB)); replace ab := aa.mk (Qp ab.out hb); replace HB := aa.mk (Qa bB hb); (try clear hb); (try clear hb2); (try clear hk); (try clear hi); (try clear ho0); obtain ⟨qo, pZ, pO⟩ := Kd.Zg aZ.out; subst pO; obtain ⟨oY, mO, zD⟩ := Kd.Zg ax.out; subst zD) | ((with_reducible refine Qh (f := 129) rfl ?_); refine QG (some 44) rfl rfl Try.func129 (by kernel_rfl) rfl #[.slice qo t107.length pZ, .slice oY aG.length mO] rfl hA ?_; (with_reducible refine (Z7.calls _ _ t107 _ _ aG t110 _ ?ah ?ai ?aq ?ar A23.out).mono ?_); (case ah => exact (Kd.QE aZ.out).2.2); (case ai => exact (Kd.QE aZ.out).2.1); (case aq => exact (Kd.QE ax.out).2.2); (case ar => exact (Kd.QE ax.out).2.1); rintro e w30 ⟨Bi, rfl, ho0, hb⟩; refine ⟨_, rfl, ?_⟩; replace ax := aa.mk (Kd.QV ax.out hb); have bJ := aa.mk (Kd.Zh (Kd.Zm ho0 (Kd.R_lt aZ.out)) (Qb bB)); replace aZ := aa.mk (Kd.Zd aZ.out (Kd.QQ ho0) hb); replace ab := aa.mk (Qp ab.out hb); replace HB := aa.mk (Qa bB hb); (try clear hb); (try clear hb2); (try clear hk); (try clear hi); (try clear ho0); obtain ⟨jT, jQ, pM⟩ := Kd.Zg bJ.out; subst pM) | ((with_reducible refine Qh (f := 82) rfl ?_); refine QG (some 47) rfl rfl Try.func82 (by kernel_rfl) rfl #[.slice jT t110.length jQ, .int .i64 (aG.length : Int)] rfl hA ?_; (with_reducible refine (Zl.calls _ _ t110 (aG.length : Int) t113 t114 _ ?ah ?ai A24.out).mono ?_); (case ah => exact (Kd.QE bJ.out).2.2); (case ai => exact (Kd.QE bJ.out).2.1); rintro e w32 ⟨oS, rfl, ho0, hb⟩; refine ⟨_, rfl, ?_⟩; replace aZ := aa.mk (Kd.QV aZ.out hb); replace bJ := aa.mk (Kd.QV bJ.out hb); have ij := aa.mk (Kd.Zh (Kd.Zm ho0 (Kd.R_lt ax.out)) (Qb bB)); replace ax := aa.mk (Kd.Zd ax.out (Kd.QQ ho0) hb); replace ab := aa.mk (Qp ab.out hb); replace HB := aa.mk (Qa bB hb); (try clear hb); (try clear hb2); (try clear hk); (try clear hi); (try clear ho0)))
          (try simp only [Act.put, zA, zB, zC])
          go_cut [56] (fun v56 wc => ∃ (kq : Nat) (lu : Bool), v56 = .bool lu ∧ aa (QK.j2 kq a1 aG t113 ji5 bP lu ae af = some (r1, r2)) ∧ aa (kq ≤ k2) ∧ aa (Kd.R (Kd.int .i64) 3 wc w.heap.size (fun k_ => some k_ ≠ (oS : Value).ownBlock) (.slice oY aG.length mO) aG) ∧ aa (Kd.R (Kd.int .i64) 3 wc w.heap.size (fun k_ => some k_ ≠ ((.slice oY aG.length mO) : Value).ownBlock) oS t113) ∧ aa (wc.heap[ag]? = some (.cells #[(.slice ak ae.length an), (.slice aj af.length al)] 24 (0, 0))) ∧ aa (Below w.heap.size w wc))
          case first =>
           have H := uI.out; clear uI; by_cases c33 : t114 = true
           ·subst c33; have H1 : ((Qn.f k2 t113).bind fun t117 => (QK.j2 k2 a1 aG t113 ji5 bP (decide (t117 ≤ 0)) ae af)) = some (r1, r2) := by rw [if_pos rfl] at H; exact H
            clear H; have H := H1; clear H1; replace H := Option.bind_eq_some_iff.mp H; obtain ⟨t117, xe, H⟩ := H; replace H : (QK.j2 k2 a1 aG t113 ji5 bP (decide (t117 ≤ 0)) ae af) = some (r1, r2) := H; have A34 := aa.mk xe; clear xe; have H' := aa.mk H; clear H; obtain ⟨uL, uk, tW⟩ := Kd.Zg ij.out; subst tW; go_wp2_with (first | (go_at_call 84; (with_reducible refine (Qn.calls k2 _ _ t113 t117 _ ?ah ?ai A34.out).mono ?_); (case ah => exact (Kd.QE ij.out).2.2); (case ai => exact (Kd.QE ij.out).2.1); rintro e w36 ⟨rfl, hb⟩; replace ax := aa.mk (Kd.QV ax.out hb); replace aZ := aa.mk (Kd.QV aZ.out hb); replace bJ := aa.mk (Kd.QV bJ.out hb); replace ij := aa.mk (Kd.QV ij.out hb); replace ab := aa.mk (Qp ab.out hb); replace HB := aa.mk (Qa bB hb); (try clear hb); (try clear hb2); (try clear hk); (try clear hi)))
            go_meet
            case rel => exact ⟨_, (decide (t117 ≤ 0)), (by first | rfl | (simp; done) | (simp [*]; done)), H', ⟨by have := HK1.out; have := HK2.out; first | omega | exact Nat.le_refl _⟩, ⟨by (with_reducible repeat (first | apply Kd.R_alloc | apply Kd.R_drewN | apply Kd.QO)); exact Kd.Zc ax.out (fun _ hk => hk.2)⟩, ⟨by (with_reducible repeat (first | apply Kd.R_alloc | apply Kd.R_drewN | apply Kd.QO)); exact Kd.Zc ij.out (fun _ hk => hk.2)⟩, ⟨by (with_reducible repeat (first | refine Qx ?_ _ | refine QA ?_ | refine Qw ?_ _)); exact ab.out⟩, ⟨bB⟩⟩
           ·replace c33 := Bool.eq_false_iff.mpr c33; subst c33; have H1 : (QK.j2 k2 a1 aG t113 ji5 bP true ae af) = some (r1, r2) := by rw [if_neg (show ¬ (false = true) by decide)] at H; exact H
            clear H; have H := H1; clear H1; have H' := aa.mk H; clear H; go_wp2; go_meet
            case rel => exact ⟨_, (true), (by first | rfl | (simp; done) | (simp [*]; done)), H', ⟨by have := HK1.out; have := HK2.out; first | omega | exact Nat.le_refl _⟩, ⟨by (with_reducible repeat (first | apply Kd.R_alloc | apply Kd.R_drewN | apply Kd.QO)); exact Kd.Zc ax.out (fun _ hk => hk.2)⟩, ⟨by (with_reducible repeat (first | apply Kd.R_alloc | apply Kd.R_drewN | apply Kd.QO)); exact Kd.Zc ij.out (fun _ hk => hk.2)⟩, ⟨by (with_reducible repeat (first | refine Qx ?_ _ | refine QA ?_ | refine Qw ?_ _)); exact ab.out⟩, ⟨bB⟩⟩
          case rest =>
           clear uI; try clear c1
           try clear c2
           try clear p2
           try clear c3
           try clear c4
           try clear bI
           try clear eh
           try clear p6
           try clear c7
           try clear c8
           try clear c9
           try clear fv
           try clear c10
           try clear fq
           try clear jE
           try clear c11
           try clear c12
           try clear eP
           try clear lh
           try clear c16
           try clear gX
           try clear c17
           try clear gp
           try clear sB
           try clear c19
           try clear eO
           try clear kT
           try clear c20
           try clear c33
           try clear dg
           try clear df
           try clear kg
           try clear kf
           try clear fl
           try clear fk
           try clear de
           try clear dd
           try clear j7
           try clear j6
           try clear fj
           try clear fi
           try clear p2
           try clear p6
           obtain ⟨kq, lu, rfl, HA, rG, ax, jS, ab, HB⟩ := hcut; cases kq with
           | zero => exact absurd HA.out (by simp [QK.j2])
           | succ ni =>
            have H := HA.out; clear HA; simp only [QK.j2] at H; by_cases c37 : lu = true
            ·subst c37; have H1 : (QK.l0 ni a1 ji5 (wrap64 (bP + 1)) ae af) = some (r1, r2) := by rw [if_pos rfl] at H; exact H
             clear H; have H := H1; clear H1; have H' := aa.mk H; clear H; go_wp2; go_roundg ni
             case measure => have := HK1.out; have := HK2.out; have := rG.out; omega
             case rel => exact ⟨(wrap64 (bP + 1)), (by first | rfl | (simp; done) | (simp [*]; done)), H', ⟨by have := HK1.out; have := HK2.out; have := rG.out; omega⟩, ⟨by (with_reducible repeat (first | refine Qx ?_ _ | refine QA ?_ | refine Qw ?_ _)); exact ab.out⟩, ⟨bB⟩⟩
            ·replace c37 := Bool.eq_false_iff.mpr c37; subst c37; have H1 : ((Q5.f ae af).bind fun t118 => (if 0 ≤ t118 then (if (t118 : Int).toNat ≤ 35184372088832 then (QK.l2 ni t113 (List.replicate (t118 : Int).toNat 0) aG (aG.length : Int) 0) else (none)) else (none))) = some (r1, r2) := by rw [if_neg (show ¬ (false = true) by decide)] at H; exact H
             clear H; have H := H1; clear H1; replace H := Option.bind_eq_some_iff.mp H; obtain ⟨t118, xb, H⟩ := H; replace H : (if 0 ≤ t118 then (if (t118 : Int).toNat ≤ 35184372088832 then (QK.l2 ni t113 (List.replicate (t118 : Int).toNat 0) aG (aG.length : Int) 0) else (none)) else (none)) = some (r1, r2) := H; have A38 := aa.mk xb; clear xb; by_cases c39 : 0 ≤ t118
             ·rw [if_pos c39] at H; have p8 := eq_true c39; have p7 : decide (0 ≤ t118) = true := decide_eq_true c39; clear c39; by_cases c40 : (t118 : Int).toNat ≤ 35184372088832
              ·rw [if_pos c40] at H; have vZ := eq_true c40; have vY : decide ((t118 : Int).toNat ≤ 35184372088832) = true := decide_eq_true c40; clear c40; obtain ⟨o7, gJ⟩ : ∃ y_ : List Int, y_ = (List.replicate (t118 : Int).toNat 0) := ⟨_, rfl⟩; replace H : (QK.l2 ni t113 o7 aG (aG.length : Int) 0) = some (r1, r2) := by first | (rw [gJ]; with_reducible exact H) | (have H2_ := (Option.bind_some _ _).symm.trans H; rw [gJ]; with_reducible exact H2_) | (have H2_ := (Option.bind_some _ _).symm.trans H; with_reducible exact H2_) | with_reducible exact H | (rw [gJ]; exact H) | exact H
               have ow := aa.mk gJ; clear gJ; have H' := aa.mk H; clear H; have qY : wc.cell? ⟨ag, 0, none⟩ = some (.slice ak ae.length an) := (Qd ab.out 0).trans rfl; have qX : wc.cell? ⟨ag, 1, none⟩ = some (.slice aj af.length al) := (Qd ab.out 1).trans rfl; have qO := Qc ab.out 0; have qN := Qc ab.out 1; go_wp2_with (first | ((with_reducible refine Qh (f := 71) rfl ?_); refine QG (some 58) rfl rfl Try.func71 (by kernel_rfl) rfl #[.agg #[.slice ak ae.length an, .slice aj af.length al]] rfl hA ?_; (with_reducible refine (Q5.calls _ _ ae _ _ af t118 _ ?ah ?ai ?aq ?ar A38.out).mono ?_); (case ah => exact (Kd.Qq ay.out HB.out)); (case ai => exact aA.out); (case aq => exact (Kd.Qq az.out HB.out)); (case ar => exact aC.out); rintro e w42 ⟨rfl, hb⟩; refine ⟨_, rfl, ?_⟩; replace ax := aa.mk (Kd.QV ax.out hb); replace jS := aa.mk (Kd.QV jS.out hb); replace ab := aa.mk (Qp ab.out hb); replace HB := aa.mk (Qa bB hb); (try clear hb); (try clear hb2); (try clear hk); (try clear hi)) | ((with_reducible refine QN (N := 59) rfl ?_); refine Kd.JY (Kd.int .i64) _ 3 rfl (N := 59) rfl 28 _ _ rfl t118 rfl rfl Try.underlying28 (.int .i64 0) 8 info3 rfl (by decide) (by omega) 0 (ok := fun _ => True) (okp := fun _ => True) rfl (fun _ hk => hk) trivial (of_decide_eq_true (by assumption)) (Nat.le_trans (Nat.mul_le_mul_right _ (of_decide_eq_true (by assumption) : t118.toNat ≤ 35184372088832)) (by omega)) (Below.refl _ _) (Nat.le_refl _) ?_; intro sS w43 nk hb hg_ hnew_; clear hg_ hnew_; (first | rw [← ow.out] at nk | (simp only [Int.reduceToNat] at nk; rw [← ow.out] at nk)); have wE := aa.mk (Kd.Zh (Kd.Zm (Kd.Zm nk (Kd.R_lt ax.out)) (Kd.R_lt jS.out)) (Qb bB)); replace ax := aa.mk (Kd.Zd ax.out (Kd.QQ nk) hb); replace jS := aa.mk (Kd.Zd jS.out (Kd.QQ nk) hb); replace ab := aa.mk (Qp ab.out hb); replace HB := aa.mk (Qa bB hb); clear hb nk))
               go_loopg [62] ni (fun kq v62 w' => ∃ (gl : List Int) (b9 : Int), v62 = .int .i64 b9 ∧ aa (QK.l2 kq t113 gl aG (aG.length : Int) b9 = some (r1, r2)) ∧ aa (kq ≤ ni) ∧ aa (Kd.R (Kd.int .i64) 3 w' w.heap.size (fun k_ => some k_ ≠ (sS : Value).ownBlock ∧ some k_ ≠ ((.slice oY aG.length mO) : Value).ownBlock) oS t113) ∧ aa (Kd.R (Kd.int .i64) 3 w' w.heap.size (fun k_ => some k_ ≠ (oS : Value).ownBlock ∧ some k_ ≠ ((.slice oY aG.length mO) : Value).ownBlock) sS gl) ∧ aa (Kd.R (Kd.int .i64) 3 w' w.heap.size (fun k_ => some k_ ≠ (oS : Value).ownBlock ∧ some k_ ≠ (sS : Value).ownBlock) (.slice oY aG.length mO) aG) ∧ aa (w'.heap[ag]? = some (.cells #[(.slice ak ae.length an), (.slice aj af.length al)] 24 (0, 0))) ∧ aa (Below w.heap.size w w'))
               case atStart => exact ⟨(o7), (0), (by first | rfl | (simp; done) | (simp [*]; done)), H', ⟨Nat.le_refl _⟩, ⟨by (with_reducible repeat (first | apply Kd.R_alloc | apply Kd.R_drewN | apply Kd.QO)); exact Kd.Zc jS.out (fun _ hk => ⟨hk.2, hk.1⟩)⟩, ⟨by (with_reducible repeat (first | apply Kd.R_alloc | apply Kd.R_drewN | apply Kd.QO)); exact Kd.Zc wE.out (fun _ hk => ⟨hk.2, hk.1.2⟩)⟩, ⟨by (with_reducible repeat (first | apply Kd.R_alloc | apply Kd.R_drewN | apply Kd.QO)); exact ax.out⟩, ⟨by (with_reducible repeat (first | refine Qx ?_ _ | refine QA ?_ | refine Qw ?_ _)); exact ab.out⟩, ⟨bB⟩⟩
               case round =>
                clear H'; try clear c1
                try clear c2
                try clear p2
                try clear c3
                try clear c4
                try clear bI
                try clear eh
                try clear p6
                try clear c7
                try clear c8
                try clear c9
                try clear fv
                try clear c10
                try clear fq
                try clear jE
                try clear c11
                try clear c12
                try clear eP
                try clear lh
                try clear c16
                try clear gX
                try clear c17
                try clear gp
                try clear sB
                try clear c19
                try clear eO
                try clear kT
                try clear c20
                try clear c33
                try clear c37
                try clear c39
                try clear p8
                try clear p7
                try clear c40
                try clear vZ
                try clear vY
                try clear dg
                try clear df
                try clear kg
                try clear kf
                try clear qY
                try clear qX
                try clear fl
                try clear fk
                try clear de
                try clear dd
                try clear j7
                try clear j6
                try clear qO
                try clear qN
                try clear fj
                try clear fi
                try clear p2
                try clear p6
                obtain ⟨gl, b9, rfl, HA, HK4, jS, kW, oI, ab, HB⟩ := hrel; cases gk with
                | zero => exact absurd HA.out (by simp [QK.l2])
                | succ k4 =>
                 have H := HA.out; clear HA; simp only [QK.l2] at H; by_cases c45 : b9 < (aG.length : Int)
                 ·rw [if_pos c45] at H; have vX : decide (b9 < (aG.length : Int)) = true := decide_eq_true c45; clear c45; by_cases c46 : 0 ≤ b9
                  ·rw [if_pos c46] at H; have AJ : decide (0 ≤ b9) = true := decide_eq_true c46; clear c46; by_cases c47 : b9 < (aG.length : Int)
                   ·rw [if_pos c47] at H; have vW : decide (b9 < (aG.length : Int)) = true := decide_eq_true c47; clear c47; by_cases c48 : b9 < (t113.length : Int)
                    ·rw [if_pos c48] at H; have AI : decide (b9 < (t113.length : Int)) = true := decide_eq_true c48; clear c48; by_cases c49 : 0 ≤ (rd aG b9)
                     ·rw [if_pos c49] at H; have AH : decide (0 ≤ (rd aG b9)) = true := decide_eq_true c49; clear c49; by_cases c50 : (rd aG b9) < (gl.length : Int)
                      ·rw [if_pos c50] at H; have oh : decide ((rd aG b9) < (gl.length : Int)) = true := decide_eq_true c50; clear c50; obtain ⟨sR, mB⟩ : ∃ y_ : List Int, y_ = (gl.set ((rd aG b9) : Int).toNat (rd t113 b9)) := ⟨_, rfl⟩; replace H : (QK.l2 k4 t113 sR aG (aG.length : Int) (wrap64 (b9 + 1))) = some (r1, r2) := by first | (rw [mB]; with_reducible exact H) | (have H2_ := (Option.bind_some _ _).symm.trans H; rw [mB]; with_reducible exact H2_) | (have H2_ := (Option.bind_some _ _).symm.trans H; with_reducible exact H2_) | with_reducible exact H | (rw [mB]; exact H) | exact H
                       have wu := aa.mk mB; clear mB; have H' := aa.mk H; clear H; have nf : 0 ≤ (b9 : Int) := of_decide_eq_true (by assumption); have m8 : b9 < (aG.length : Int) := of_decide_eq_true (by assumption); obtain ⟨qe, uh, qK⟩ := Kd.Zi (Kd.QE oI.out).2.2 b9 nf m8; cases uh; replace nf := eq_true nf; replace m8 := eq_true m8; obtain ⟨B6, vL, zv⟩ := Kd.Zg jS.out; subst zv; have sY : 0 ≤ (b9 : Int) := of_decide_eq_true (by assumption); have sU : b9 < (t113.length : Int) := of_decide_eq_true (by assumption); obtain ⟨sE, zK, xA⟩ := Kd.Zi (Kd.QE jS.out).2.2 b9 sY sU; cases zK; replace sY := eq_true sY; replace sU := eq_true sU; have p51 : 0 ≤ ((rd aG b9) : Int) := of_decide_eq_true (by assumption); have q51 : ((rd aG b9) : Int) < ((gl.length : Int) : Int) := of_decide_eq_true (by assumption); obtain ⟨nu, pY, vJ, vF, zo, BH, wI⟩ := Kd.VK kW.out (by omega); (first | cases vJ | (injection vJ with ea_ en_ ec_; (first | subst ea_ | (injection ea_ with ea_; subst ea_)); subst ec_; clear en_))
                       have Aa := aa.mk vF; have BY := aa.mk wI; clear vF zo wI; obtain ⟨yG, zd⟩ := Kd.Vv 0 kW.out ((rd aG b9) : Int) p51 q51; replace p51 := eq_true p51; replace q51 := eq_true q51; have uB := Kd.JX kW.out ((rd aG b9) : Int) (rd t113 b9); go_wp2_with (first | ((with_reducible refine Y5 (t := 3) (p := 73) rfl ?_); refine YV (t := 3) (p := 73) (v := ?yw) (w1 := (wr.setCell ⟨nu, ((rd aG b9) : Int).toNat, none⟩ (.int .i64 (rd t113 b9)))) ?hg ?ho ?hn ?hr ?_; (case ho => rfl); (case hg => rfl); (case hn => rfl); (case hr => first | (go_simp; done) | (go_simp; rfl)); intro w54 hw; have hg : wr.grownBy w54 (some nu) := (by rw [hw]; exact uB.2); have hp_ : Kd.R (Kd.int .i64) 3 w54 w.heap.size (fun k_ => some k_ ≠ (.slice (some sE) t113.length vL : Value).ownBlock ∧ some k_ ≠ (.slice (some qe) aG.length mO : Value).ownBlock) (.slice (some ⟨nu, 0, none⟩) gl.length pY) sR := (by rw [hw, wu.out]; exact uB.1); clear uB; replace jS := aa.mk (Kd.YA (v := (.slice (some ⟨nu, 0, none⟩) gl.length pY)) (v1 := (.slice (some ⟨nu, 0, none⟩) gl.length pY)) (ok := (fun k_ => some k_ ≠ (.slice (some qe) aG.length mO : Value).ownBlock)) (by (with_reducible repeat (first | apply Kd.R_alloc | apply Kd.R_drewN | apply Kd.QO)); exact Kd.Zc jS.out (fun _ hk => ⟨hk.2, hk.1⟩)) hg (.inl rfl)); replace oI := aa.mk (Kd.YA (v := (.slice (some ⟨nu, 0, none⟩) gl.length pY)) (v1 := (.slice (some ⟨nu, 0, none⟩) gl.length pY)) (ok := (fun k_ => some k_ ≠ (.slice (some sE) t113.length vL : Value).ownBlock)) oI.out hg (.inl rfl)); replace ab := aa.mk (Yq (g := ag) (o := .cells #[.slice ak ae.length an, .slice aj af.length al] 24 (0, 0)) (by (with_reducible repeat (first | refine Qx ?_ _ | refine QA ?_ | refine Qw ?_ _)); exact ab.out) hg (Kd.R_ne kW.out ab.out (by decide))); replace kW := aa.mk (hp_); replace HB := aa.mk ((by rw [hw]; exact Zn (HB.out) Aa.out : Below w.heap.size w w54)); clear hg hw hp_))
                       go_roundg k4
                       case measure => have := HK1.out; have := HK2.out; have := rG.out; have := HK4.out; omega
                       case rel => exact ⟨(sR), (wrap64 (b9 + 1)), (by first | rfl | (simp; done) | (simp [*]; done)), H', ⟨by have := HK1.out; have := HK2.out; have := rG.out; have := HK4.out; omega⟩, ⟨by (with_reducible repeat (first | apply Kd.R_alloc | apply Kd.R_drewN | apply Kd.QO)); exact Kd.Zc jS.out (fun _ hk => ⟨hk.2, hk.1⟩)⟩, ⟨by (with_reducible repeat (first | apply Kd.R_alloc | apply Kd.R_drewN | apply Kd.QO)); exact kW.out⟩, ⟨by (with_reducible repeat (first | apply Kd.R_alloc | apply Kd.R_drewN | apply Kd.QO)); exact oI.out⟩, ⟨by (with_reducible repeat (first | refine Qx ?_ _ | refine QA ?_ | refine Qw ?_ _)); exact ab.out⟩, ⟨bB⟩⟩
                      ·rw [if_neg c50] at H; exact absurd H (by simp)
                     ·rw [if_neg c49] at H; exact absurd H (by simp)
                    ·rw [if_neg c48] at H; exact absurd H (by simp)
                   ·rw [if_neg c47] at H; exact absurd H (by simp)
                  ·rw [if_neg c46] at H; exact absurd H (by simp)
                 ·rw [if_neg c45] at H; have vX : decide (b9 < (aG.length : Int)) = false := decide_eq_false c45; clear c45; simp only [Option.some.injEq, Prod.mk.injEq] at H; obtain ⟨rfl, rfl⟩ := H; go_wp2; go_ret2; exact ⟨_, by first | rfl | (simp [Qk, Qj] <;> rfl) | (simp only [← ju, ← gS]; first | rfl | (simp [Qk, Qj] <;> rfl)) | (simp [*, Qk, Qj] <;> rfl), by (with_reducible repeat (first | apply Kd.R_alloc | apply Kd.R_drewN | apply Kd.QO)); exact Kd.Zc kW.out (fun _ hk => trivial), bB⟩
              ·rw [if_neg c40] at H; exact absurd H (by simp)
             ·rw [if_neg c39] at H; exact absurd H (by simp)
     ·rw [if_neg c10] at H; exact absurd H (by simp)
    ·rw [if_neg c9] at H; have fv : decide (bP < ji5) = false := decide_eq_false c9; clear c9; simp only [Option.some.injEq, Prod.mk.injEq] at H; obtain ⟨rfl, rfl⟩ := H; go_wp2; go_ret2; exact ⟨_, by first | rfl | (simp [Qk, Qj] <;> rfl) | (simp only [← ju]; first | rfl | (simp [Qk, Qj] <;> rfl)) | (simp [*, Qk, Qj] <;> rfl), by first | exact Kd.Yr _ _ _ _ _ | exact Kd.Yv _ _ _ _ _ | exact Kd.V_nil _ _ _ _ _ | exact Kd.Q_nil _ _ _ _ _ | exact Kd.Yy _ _ _ _ _, bB⟩
 ·rw [if_neg c4] at H; exact absurd H (by simp)
mutual
def QS.l0 : Nat → List Int → Int → Int → List (List Int) → List (List Int) → Option (List Int × Bool)
 | 0, _, _, _, _, _ => none
 | k + 1, x4, x14, x15, av, aw => if x15 < x14 then (if 0 ≤ x15 then (if x15 < (x4.length : Int) then (if (rd x4 x15) > 0 then (QS.l0 k x4 x14 (wrap64 (x15 + 1)) av aw) else ((QK.f k av aw x15).bind fun bX => (if bX.2 = true then (QS.l1 k x4 x14 x15 bX.1 (bX.1.length : Int) 0 av aw) else (some (([] : List Int), false))))) else (none)) else (none)) else (some (x4, true))
def QS.l1 : Nat → List Int → Int → Int → List Int → Int → Int → List (List Int) → List (List Int) → Option (List Int × Bool)
 | 0, _, _, _, _, _, _, _, _ => none
 | k + 1, x4, x14, x15, x31, x32, x33, av, aw => if x33 < x32 then (if 0 ≤ x33 then (if x33 < (x31.length : Int) then (if x33 < (x4.length : Int) then (QS.l1 k (x4.set (x33 : Int).toNat (wrap64 ((rd x4 x33) + (rd x31 x33)))) x14 x15 x31 x32 (wrap64 (x33 + 1)) av aw) else (none)) else (none)) else (none)) else (QS.l0 k x4 x14 (wrap64 (x15 + 1)) av aw)
end
def QS.f (k : Nat) (ae : List (List Int)) (af : List (List Int)) : Option (List Int × Bool) := (Q5.f ae af).bind fun t102 => (if 0 ≤ t102 then (if (t102 : Int).toNat ≤ 35184372088832 then ((some (List.replicate (t102 : Int).toNat 0 : List Int)).bind fun dH => (QS.l0 k dH (dH.length : Int) 0 ae af)) else (none)) else (none))
set_option maxHeartbeats 8000000 in
set_option maxRecDepth 100000 in
theorem QS.calls (k : Nat) (ak : Option Addr) (an : Nat) (ae : List (List Int)) (aj : Option Addr) (al : Nat) (af : List (List Int)) (r1 : List Int) (r2 : Bool) (w : World) (aM : Kd.C (Kd.slice 3 (Kd.int .i64)) w ak ae.length ae) (aQ : ae.length ≤ an) (aK : Kd.C (Kd.slice 3 (Kd.int .i64)) w aj af.length af) (aN : af.length ≤ al) (h : QS.f k ae af = some (r1, r2)) :
  Calls Try.prog 74 #[.agg #[.slice ak ae.length an, .slice aj af.length al]] w fun e w' => ∃ v0_ : Value, e = .returned (.tuple #[v0_, .bool r2]) ∧ Kd.R (Kd.int .i64) 3 w' w.heap.size (fun _ => True) v0_ r1 ∧ Below w.heap.size w w' := by
 have ej := Try.underlying24; have ay := aa.mk aM; have aA := aa.mk aQ; clear aM aQ; have az := aa.mk aK; have aC := aa.mk aN; clear aK aN; have HB := aa.mk (Below.refl w.heap.size w); have H : ((Q5.f ae af).bind fun t102 => (if 0 ≤ t102 then (if (t102 : Int).toNat ≤ 35184372088832 then ((some (List.replicate (t102 : Int).toNat 0 : List Int)).bind fun dH => (QS.l0 k dH (dH.length : Int) 0 ae af)) else (none)) else (none))) = some (r1, r2) := h; clear h; replace H := Option.bind_eq_some_iff.mp H; obtain ⟨t102, A20, H⟩ := H; replace H : (if 0 ≤ t102 then (if (t102 : Int).toNat ≤ 35184372088832 then ((some (List.replicate (t102 : Int).toNat 0 : List Int)).bind fun dH => (QS.l0 k dH (dH.length : Int) 0 ae af)) else (none)) else (none)) = some (r1, r2) := H; have A2 := aa.mk A20; clear A20; by_cases c3 : 0 ≤ t102
 ·rw [if_pos c3] at H; have bL := eq_true c3; have cA : decide (0 ≤ t102) = true := decide_eq_true c3; clear c3; by_cases c4 : (t102 : Int).toNat ≤ 35184372088832
  ·rw [if_pos c4] at H; have bI := eq_true c4; have eh : decide ((t102 : Int).toNat ≤ 35184372088832) = true := decide_eq_true c4; clear c4; obtain ⟨dH, eE⟩ : ∃ y_ : List Int, y_ = (List.replicate (t102 : Int).toNat 0) := ⟨_, rfl⟩; replace H : (QS.l0 k dH (dH.length : Int) 0 ae af) = some (r1, r2) := by first | (rw [eE]; with_reducible exact H) | (have H2_ := (Option.bind_some _ _).symm.trans H; rw [eE]; with_reducible exact H2_) | (have H2_ := (Option.bind_some _ _).symm.trans H; with_reducible exact H2_) | with_reducible exact H | (rw [eE]; exact H) | exact H
   have ja := aa.mk eE; clear eE; have H' := aa.mk H; clear H; go_enter Try.func74, Try.ntmps74; go_wp2_with (first | ((with_reducible refine QN (N := 1) rfl ?_); refine Q3 ?hg (N := 1) ?hd (cs := #[.slice ak ae.length an, .slice aj af.length al]) (t := 24) ?hr ?_; (case hd => rfl); (case hg => rfl); (case hr => first | (go_simp; done) | (go_simp; rfl)); intro ag hg w5 hbox hb; have ab := aa.mk (hbox); have bh := aa.mk ((by rw [hg]; exact (Qb bB) : w.heap.size ≤ ag)); have aT := aa.mk ((by rw [hg]; exact (Qb bB) : w.heap.size ≤ ag)); replace HB := aa.mk (Qa bB hb); clear hb hbox hg; have dE : w5.cell? ⟨ag, 0, none⟩ = some (.slice ak ae.length an) := (Qd ab.out 0).trans rfl; have dD : w5.cell? ⟨ag, 1, none⟩ = some (.slice aj af.length al) := (Qd ab.out 1).trans rfl; have dC := Qc ab.out 0; have dB := Qc ab.out 1) | ((with_reducible refine Qh (f := 71) rfl ?_); refine QG (some 11) rfl rfl Try.func71 (by kernel_rfl) rfl #[.agg #[.slice ak ae.length an, .slice aj af.length al]] rfl hA ?_; (with_reducible refine (Q5.calls _ _ ae _ _ af t102 _ ?ah ?ai ?aq ?ar A2.out).mono ?_); (case ah => exact (Kd.Qq ay.out HB.out)); (case ai => exact aA.out); (case aq => exact (Kd.Qq az.out HB.out)); (case ar => exact aC.out); rintro e w7 ⟨rfl, hb⟩; refine ⟨_, rfl, ?_⟩; replace ab := aa.mk (Qp ab.out hb); replace HB := aa.mk (Qa bB hb); (try clear hb); (try clear hb2); (try clear hk); (try clear hi)) | ((with_reducible refine QN (N := 12) rfl ?_); refine Kd.JY (Kd.int .i64) _ 3 rfl (N := 12) rfl 28 _ _ rfl t102 rfl rfl Try.underlying28 (.int .i64 0) 8 info3 rfl (by decide) (by omega) 0 (ok := fun _ => True) (okp := fun _ => True) rfl (fun _ hk => hk) trivial (of_decide_eq_true (by assumption)) (Nat.le_trans (Nat.mul_le_mul_right _ (of_decide_eq_true (by assumption) : t102.toNat ≤ 35184372088832)) (by omega)) (Below.refl _ _) (Nat.le_refl _) ?_; intro fc w8 ho9 hb hg_ hnew_; clear hg_ hnew_; (first | rw [← ja.out] at ho9 | (simp only [Int.reduceToNat] at ho9; rw [← ja.out] at ho9)); have bw := aa.mk (Kd.Zh ho9 (Qb bB)); replace ab := aa.mk (Qp ab.out hb); replace HB := aa.mk (Qa bB hb); clear hb ho9; obtain ⟨k6, gB, ud⟩ := Kd.Zg bw.out; subst ud))
   go_loopg [15] k (fun kq v15 w' => ∃ (bc : List Int) (cf : Int), v15 = .int .i64 cf ∧ aa (QS.l0 kq bc (dH.length : Int) cf ae af = some (r1, r2)) ∧ aa (kq ≤ k) ∧ aa (Kd.R (Kd.int .i64) 3 w' w.heap.size (fun _ => True) (.slice k6 dH.length gB) bc) ∧ aa (w'.heap[ag]? = some (.cells #[(.slice ak ae.length an), (.slice aj af.length al)] 24 (0, 0))) ∧ aa (Below w.heap.size w w'))
   case atStart => exact ⟨(dH), (0), (by first | rfl | (simp; done) | (simp [*]; done)), H', ⟨Nat.le_refl _⟩, ⟨by (with_reducible repeat (first | apply Kd.R_alloc | apply Kd.R_drewN | apply Kd.QO)); exact bw.out⟩, ⟨by (with_reducible repeat (first | refine Qx ?_ _ | refine QA ?_ | refine Qw ?_ _)); exact ab.out⟩, ⟨bB⟩⟩
   case round =>
    clear H'; try clear p2
    try clear c3
    try clear bL
    try clear cA
    try clear c4
    try clear bI
    try clear eh
    try clear c7
    try clear dE
    try clear dD
    try clear dC
    try clear dB
    obtain ⟨bc, cf, rfl, HA, HK1, eH, ab, HB⟩ := hrel; have eN := (Kd.QE eH.out).1; rw [eN] at eH; (try simp only [eN])
    (try simp only [eN] at ab)
    cases gk with
    | zero => exact absurd HA.out (by simp [QS.l0])
    | succ k1 =>
     have H := HA.out; clear HA; simp only [QS.l0] at H; by_cases c11 : cf < (dH.length : Int)
     ·rw [if_pos c11] at H; have fp : decide (cf < (dH.length : Int)) = true := decide_eq_true c11; clear c11; by_cases c12 : 0 ≤ cf
      ·rw [if_pos c12] at H; have eP : decide (0 ≤ cf) = true := decide_eq_true c12; clear c12; by_cases c13 : cf < (bc.length : Int)
       ·rw [if_pos c13] at H; have iX : decide (cf < (bc.length : Int)) = true := decide_eq_true c13; clear c13; by_cases c14 : (rd bc cf) > 0
        ·rw [if_pos c14] at H; have gr : decide (0 < (rd bc cf)) = true := decide_eq_true c14; clear c14; have H' := aa.mk H; clear H; have cU : 0 ≤ (cf : Int) := of_decide_eq_true (by assumption); have cT : cf < (bc.length : Int) := of_decide_eq_true (by assumption); obtain ⟨jH, ix, a9⟩ := Kd.Zi (Kd.QE eH.out).2.2 cf cU cT; cases ix; replace cU := eq_true cU; replace cT := eq_true cT; go_wp2; (try simp only [← eN])
         go_roundg k1
         case measure => have := HK1.out; omega
         case rel => exact ⟨(bc), (wrap64 (cf + 1)), (by first | rfl | (simp; done) | (simp [*]; done)), H', ⟨by have := HK1.out; omega⟩, ⟨by (try simp only [eN]); (with_reducible repeat (first | apply Kd.R_alloc | apply Kd.R_drewN | apply Kd.QO)); exact eH.out⟩, ⟨by (try simp only [eN]); (with_reducible repeat (first | refine Qx ?_ _ | refine QA ?_ | refine Qw ?_ _)); exact ab.out⟩, ⟨bB⟩⟩
        ·rw [if_neg c14] at H; have gr : decide (0 < (rd bc cf)) = false := decide_eq_false c14; clear c14; replace H := Option.bind_eq_some_iff.mp H; obtain ⟨⟨t107, t110⟩, qv, H⟩ := H; replace H : (if t110 = true then (QS.l1 k1 bc (dH.length : Int) cf t107 (t107.length : Int) 0 ae af) else (some (([] : List Int), false))) = some (r1, r2) := H; have A15 := aa.mk qv; clear qv; by_cases c16 : t110 = true
         ·subst c16; have H1 : (QS.l1 k1 bc (dH.length : Int) cf t107 (t107.length : Int) 0 ae af) = some (r1, r2) := by rw [if_pos rfl] at H; exact H
          clear H; have H := H1; clear H1; have H' := aa.mk H; clear H; have cU : 0 ≤ (cf : Int) := of_decide_eq_true (by assumption); have cT : cf < (bc.length : Int) := of_decide_eq_true (by assumption); obtain ⟨nv, cz, ez, gbz, glz, clz, HGz⟩ := Kd.VK eH.out (by omega); (first | cases ez | (injection ez with ea_ en_ ec_; (first | subst ea_ | (injection ea_ with ea_; subst ea_)); subst ec_; clear en_))
          clear gbz glz clz HGz; obtain ⟨jH, ix, a9⟩ := Kd.Zi (Kd.QE eH.out).2.2 cf cU cT; cases ix; (first | simp only [Z9] at a9 | skip)
          replace cU := eq_true cU; replace cT := eq_true cT; have kj : wr.cell? ⟨ag, 0, none⟩ = some (.slice ak ae.length an) := (Qd ab.out 0).trans rfl; have ki : wr.cell? ⟨ag, 1, none⟩ = some (.slice aj af.length al) := (Qd ab.out 1).trans rfl; have j9 := Qc ab.out 0; have j8 := Qc ab.out 1; go_wp2_with (first | ((with_reducible refine Qh (f := 112) rfl ?_); refine QG (some 26) rfl rfl Try.func112 (by kernel_rfl) rfl #[.agg #[.slice ak ae.length an, .slice aj af.length al], .int .i64 cf] rfl hA ?_; (with_reducible refine (QK.calls k1 _ _ ae _ _ af cf t107 true _ ?ah ?ai ?aq ?ar A15.out).mono ?_); (case ah => exact (Kd.Qq ay.out HB.out)); (case ai => exact aA.out); (case aq => exact (Kd.Qq az.out HB.out)); (case ar => exact aC.out); rintro e w18 ⟨dA, rfl, ho0, hb⟩; refine ⟨_, rfl, ?_⟩; have aZ := aa.mk (Kd.Zh (Kd.Zm ho0 (Kd.R_lt eH.out)) (Qb bB)); replace eH := aa.mk (Kd.Zd eH.out (Kd.QQ ho0) hb); replace ab := aa.mk (Qp ab.out hb); replace HB := aa.mk (Qa bB hb); (try clear hb); (try clear hb2); (try clear hk); (try clear hi); (try clear ho0); obtain ⟨wX, um, zF⟩ := Kd.Zg aZ.out; subst zF))
          go_loopg [33] k1 (fun kq v33 w' => ∃ (aD : List Int) (aJ : Int), v33 = .int .i64 aJ ∧ aa (QS.l1 kq aD (dH.length : Int) cf t107 (t107.length : Int) aJ ae af = some (r1, r2)) ∧ aa (kq ≤ k1) ∧ aa (Kd.R (Kd.int .i64) 3 w' w.heap.size (fun k_ => some k_ ≠ ((.slice wX t107.length um) : Value).ownBlock) (.slice (some ⟨nv, 0, none⟩) bc.length gB) aD) ∧ aa (Kd.R (Kd.int .i64) 3 w' w.heap.size (fun k_ => some k_ ≠ ((.slice (some ⟨nv, 0, none⟩) bc.length gB) : Value).ownBlock) (.slice wX t107.length um) t107) ∧ aa (w'.heap[ag]? = some (.cells #[(.slice ak ae.length an), (.slice aj af.length al)] 24 (0, 0))) ∧ aa (Below w.heap.size w w'))
          case atStart => exact ⟨(bc), (0), (by first | rfl | (simp; done) | (simp [*]; done)), H', ⟨Nat.le_refl _⟩, ⟨by (try simp only [eN]); (with_reducible repeat (first | apply Kd.R_alloc | apply Kd.R_drewN | apply Kd.QO)); exact Kd.Zc eH.out (fun _ hk => hk.2)⟩, ⟨by (try simp only [eN]); (with_reducible repeat (first | apply Kd.R_alloc | apply Kd.R_drewN | apply Kd.QO)); exact Kd.Zc aZ.out (fun _ hk => hk.2)⟩, ⟨by (try simp only [eN]); (with_reducible repeat (first | refine Qx ?_ _ | refine QA ?_ | refine Qw ?_ _)); exact ab.out⟩, ⟨bB⟩⟩
          case round =>
           clear H'; try clear c1
           try clear p1
           try clear q1
           try clear hx1
           try clear p2
           try clear c3
           try clear bL
           try clear cA
           try clear c4
           try clear bI
           try clear eh
           try clear p6
           try clear c7
           try clear p10
           try clear q10
           try clear ir
           try clear c11
           try clear fp
           try clear c12
           try clear eP
           try clear c13
           try clear iX
           try clear c14
           try clear gr
           try clear c16
           try clear kj
           try clear ki
           try clear dE
           try clear dD
           try clear j9
           try clear j8
           try clear dC
           try clear dB
           try clear a9
           try clear cU
           try clear p2
           try clear cT
           obtain ⟨aD, aJ, rfl, HA, HK2, eH, cD, ab, HB⟩ := hrel; have gQ := (Kd.QE eH.out).1; rw [gQ] at eH; (try simp only [gQ])
           (try simp only [gQ] at ab)
           (try simp only [gQ] at cD)
           cases gk with
           | zero => exact absurd HA.out (by simp [QS.l1])
           | succ k2 =>
            have H := HA.out; clear HA; simp only [QS.l1] at H; by_cases c20 : aJ < (t107.length : Int)
            ·rw [if_pos c20] at H; have kS : decide (aJ < (t107.length : Int)) = true := decide_eq_true c20; clear c20; by_cases c21 : 0 ≤ aJ
             ·rw [if_pos c21] at H; have jD : decide (0 ≤ aJ) = true := decide_eq_true c21; clear c21; by_cases c22 : aJ < (t107.length : Int)
              ·rw [if_pos c22] at H; have fE : decide (aJ < (t107.length : Int)) = true := decide_eq_true c22; clear c22; by_cases c23 : aJ < (aD.length : Int)
               ·rw [if_pos c23] at H; have kR : decide (aJ < (aD.length : Int)) = true := decide_eq_true c23; clear c23; obtain ⟨eA, eB⟩ : ∃ y_ : List Int, y_ = (aD.set (aJ : Int).toNat (wrap64 ((rd aD aJ) + (rd t107 aJ)))) := ⟨_, rfl⟩; replace H : (QS.l1 k2 eA (dH.length : Int) cf t107 (t107.length : Int) (wrap64 (aJ + 1)) ae af) = some (r1, r2) := by first | (rw [eB]; with_reducible exact H) | (have H2_ := (Option.bind_some _ _).symm.trans H; rw [eB]; with_reducible exact H2_) | (have H2_ := (Option.bind_some _ _).symm.trans H; with_reducible exact H2_) | with_reducible exact H | (rw [eB]; exact H) | exact H
                have ln := aa.mk eB; clear eB; have H' := aa.mk H; clear H; have jo : 0 ≤ (aJ : Int) := of_decide_eq_true (by assumption); have jk : aJ < (t107.length : Int) := of_decide_eq_true (by assumption); obtain ⟨ll, pU, fY⟩ := Kd.Zi (Kd.QE cD.out).2.2 aJ jo jk; cases pU; replace jo := eq_true jo; replace jk := eq_true jk; have eJ : 0 ≤ (aJ : Int) := of_decide_eq_true (by assumption); have eI : aJ < (aD.length : Int) := of_decide_eq_true (by assumption); obtain ⟨fS, kL, bt⟩ := Kd.Zi (Kd.QE eH.out).2.2 aJ eJ eI; cases kL; replace eJ := eq_true eJ; replace eI := eq_true eI; have p24 : 0 ≤ (aJ : Int) := of_decide_eq_true (by assumption); have q24 : (aJ : Int) < ((aD.length : Int) : Int) := of_decide_eq_true (by assumption); obtain ⟨BC, jR, rn, vH, zq, BJ, wL⟩ := Kd.VK eH.out (by omega); (first | cases rn | (injection rn with ea_ en_ ec_; (first | subst ea_ | (injection ea_ with ea_; subst ea_)); subst ec_; clear en_))
                have Ac := aa.mk vH; have BZ := aa.mk wL; clear vH zq wL; (first | simp only [Z9] at a9 | skip)
                (first | simp only [Z9] at bt | skip)
                obtain ⟨yH, ze⟩ := Kd.Vv 0 eH.out (aJ : Int) p24 q24; replace p24 := eq_true p24; replace q24 := eq_true q24; have uE := Kd.JX eH.out (aJ : Int) (wrap64 ((rd aD aJ) + (rd t107 aJ))); go_wp2_with (first | ((with_reducible refine Y5 (t := 3) (p := 44) rfl ?_); refine YV (t := 3) (p := 44) (v := ?yx) (w1 := (wr.setCell ⟨nv, (aJ : Int).toNat, none⟩ (.int .i64 (wrap64 ((rd aD aJ) + (rd t107 aJ)))))) ?hg ?ho ?hn ?hr ?_; (case ho => rfl); (case hg => rfl); (case hn => rfl); (case hr => first | (go_simp; done) | (go_simp; rfl)); intro w26 hw; have hg : wr.grownBy w26 (some nv) := (by rw [hw]; exact uE.2); have hp_ : Kd.R (Kd.int .i64) 3 w26 w.heap.size (fun k_ => some k_ ≠ (.slice (some ll) t107.length um : Value).ownBlock) (.slice (some ⟨nv, 0, none⟩) aD.length gB) eA := (by rw [hw, ln.out]; exact uE.1); clear uE; replace cD := aa.mk (Kd.YA (v := (.slice (some ⟨nv, 0, none⟩) aD.length gB)) (v1 := (.slice (some ⟨nv, 0, none⟩) aD.length gB)) (ok := (fun _ => True)) (by (with_reducible repeat (first | apply Kd.R_alloc | apply Kd.R_drewN | apply Kd.QO)); exact Kd.Zc cD.out (fun _ hk => ⟨trivial, hk⟩)) hg (.inl rfl)); replace ab := aa.mk (Yq (g := ag) (o := .cells #[.slice ak ae.length an, .slice aj af.length al] 24 (0, 0)) (by (with_reducible repeat (first | refine Qx ?_ _ | refine QA ?_ | refine Qw ?_ _)); exact ab.out) hg (Kd.R_ne eH.out ab.out (by decide))); replace eH := aa.mk (hp_); replace HB := aa.mk ((by rw [hw]; exact Zn (HB.out) Ac.out : Below w.heap.size w w26)); clear hg hw hp_))
                (try simp only [← gQ])
                go_roundg k2
                case measure => have := HK1.out; have := HK2.out; omega
                case rel => exact ⟨(eA), (wrap64 (aJ + 1)), (by first | rfl | (simp; done) | (simp [*]; done)), H', ⟨by have := HK1.out; have := HK2.out; omega⟩, ⟨by (try simp only [eN]); (try simp only [gQ]); (with_reducible repeat (first | apply Kd.R_alloc | apply Kd.R_drewN | apply Kd.QO)); exact eH.out⟩, ⟨by (try simp only [eN]); (try simp only [gQ]); (with_reducible repeat (first | apply Kd.R_alloc | apply Kd.R_drewN | apply Kd.QO)); exact Kd.Zc cD.out (fun _ hk => hk.2)⟩, ⟨by (try simp only [eN]); (try simp only [gQ]); (with_reducible repeat (first | refine Qx ?_ _ | refine QA ?_ | refine Qw ?_ _)); exact ab.out⟩, ⟨bB⟩⟩
               ·rw [if_neg c23] at H; exact absurd H (by simp)
              ·rw [if_neg c22] at H; exact absurd H (by simp)
             ·rw [if_neg c21] at H; exact absurd H (by simp)
            ·rw [if_neg c20] at H; have kS : decide (aJ < (t107.length : Int)) = false := decide_eq_false c20; clear c20; have H' := aa.mk H; clear H; go_wp2; (try simp only [← eN, ← gQ])
             go_roundg k2
             case measure => have := HK1.out; have := HK2.out; omega
             case rel => exact ⟨(aD), (wrap64 (cf + 1)), (by first | rfl | (simp; done) | (simp [*]; done)), H', ⟨by have := HK1.out; have := HK2.out; omega⟩, ⟨by (try simp only [eN]); (try simp only [gQ]); (with_reducible repeat (first | apply Kd.R_alloc | apply Kd.R_drewN | apply Kd.QO)); exact Kd.Zc eH.out (fun _ hk => trivial)⟩, ⟨by (try simp only [eN]); (try simp only [gQ]); (with_reducible repeat (first | refine Qx ?_ _ | refine QA ?_ | refine Qw ?_ _)); exact ab.out⟩, ⟨bB⟩⟩
         ·replace c16 := Bool.eq_false_iff.mpr c16; subst c16; have H1 : (some (([] : List Int), false)) = some (r1, r2) := by rw [if_neg (show ¬ (false = true) by decide)] at H; exact H
          clear H; have H := H1; clear H1; simp only [Option.some.injEq, Prod.mk.injEq] at H; obtain ⟨rfl, rfl⟩ := H; have cU : 0 ≤ (cf : Int) := of_decide_eq_true (by assumption); have cT : cf < (bc.length : Int) := of_decide_eq_true (by assumption); obtain ⟨jH, ix, a9⟩ := Kd.Zi (Kd.QE eH.out).2.2 cf cU cT; cases ix; replace cU := eq_true cU; replace cT := eq_true cT; have ke : wr.cell? ⟨ag, 0, none⟩ = some (.slice ak ae.length an) := (Qd ab.out 0).trans rfl; have kc : wr.cell? ⟨ag, 1, none⟩ = some (.slice aj af.length al) := (Qd ab.out 1).trans rfl; have j5 := Qc ab.out 0; have j4 := Qc ab.out 1; go_wp2_with (first | ((with_reducible refine Qh (f := 112) rfl ?_); refine QG (some 26) rfl rfl Try.func112 (by kernel_rfl) rfl #[.agg #[.slice ak ae.length an, .slice aj af.length al], .int .i64 cf] rfl hA ?_; (with_reducible refine (QK.calls k1 _ _ ae _ _ af cf t107 false _ ?ah ?ai ?aq ?ar A15.out).mono ?_); (case ah => exact (Kd.Qq ay.out HB.out)); (case ai => exact aA.out); (case aq => exact (Kd.Qq az.out HB.out)); (case ar => exact aC.out); rintro e w28 ⟨dA, rfl, ho0, hb⟩; refine ⟨_, rfl, ?_⟩; have aZ := aa.mk (Kd.Zh (Kd.Zm ho0 (Kd.R_lt eH.out)) (Qb bB)); replace eH := aa.mk (Kd.Zd eH.out (Kd.QQ ho0) hb); replace ab := aa.mk (Qp ab.out hb); replace HB := aa.mk (Qa bB hb); (try clear hb); (try clear hb2); (try clear hk); (try clear hi); (try clear ho0)))
          go_ret2; exact ⟨_, by first | rfl | (simp [Qk, Qj] <;> rfl) | (simp [*, Qk, Qj] <;> rfl), by first | exact Kd.Yr _ _ _ _ _ | exact Kd.Yv _ _ _ _ _ | exact Kd.V_nil _ _ _ _ _ | exact Kd.Q_nil _ _ _ _ _ | exact Kd.Yy _ _ _ _ _, bB⟩
       ·rw [if_neg c13] at H; exact absurd H (by simp)
      ·rw [if_neg c12] at H; exact absurd H (by simp)
     ·rw [if_neg c11] at H; have fp : decide (cf < (dH.length : Int)) = false := decide_eq_false c11; clear c11; rw [eN] at fp; simp only [Option.some.injEq, Prod.mk.injEq] at H; obtain ⟨rfl, rfl⟩ := H; go_wp2; go_ret2; exact ⟨_, by first | rfl | (simp [Qk, Qj] <;> rfl) | (simp [*, Qk, Qj] <;> rfl), by (with_reducible repeat (first | apply Kd.R_alloc | apply Kd.R_drewN | apply Kd.QO)); exact eH.out, bB⟩
  ·rw [if_neg c4] at H; exact absurd H (by simp)
 ·rw [if_neg c3] at H; exact absurd H (by simp)
def Zz.f (k : Nat) (ae : List (List Int)) (af : List (List Int)) : Option (Bool × Int) := (Ql.f k ae af).bind fun t102 => (if t102 = 0 then ((QS.f k ae af).bind fun fH => (some (fH.2, 0))) else (some (false, t102)))
set_option maxHeartbeats 8000000 in
set_option maxRecDepth 100000 in
theorem Zz.calls (k : Nat) (ak : Option Addr) (an : Nat) (ae : List (List Int)) (aj : Option Addr) (al : Nat) (af : List (List Int)) (r1 : Bool) (r2 : Int) (w : World) (aM : Kd.C (Kd.slice 3 (Kd.int .i64)) w ak ae.length ae) (aQ : ae.length ≤ an) (aK : Kd.C (Kd.slice 3 (Kd.int .i64)) w aj af.length af) (aN : af.length ≤ al) (h : Zz.f k ae af = some (r1, r2)) :
  Calls Try.prog 37 #[.agg #[.slice ak ae.length an, .slice aj af.length al]] w fun e w' => e = .returned (.tuple #[.bool r1, .int .i64 r2]) ∧ Below w.heap.size w w' := by
 have ej := Try.underlying24; have ay := aa.mk aM; have aA := aa.mk aQ; clear aM aQ; have az := aa.mk aK; have aC := aa.mk aN; clear aK aN; have HB := aa.mk (Below.refl w.heap.size w); have H : ((Ql.f k ae af).bind fun t102 => (if t102 = 0 then ((QS.f k ae af).bind fun fH => (some (fH.2, 0))) else (some (false, t102)))) = some (r1, r2) := h; clear h; replace H := Option.bind_eq_some_iff.mp H; obtain ⟨t102, A20, H⟩ := H; replace H : (if t102 = 0 then ((QS.f k ae af).bind fun fH => (some (fH.2, 0))) else (some (false, t102))) = some (r1, r2) := H; have A2 := aa.mk A20; clear A20; by_cases c3 : t102 = 0
 ·rw [if_pos c3] at H; have bL : (t102 == 0) = true := beq_iff_eq.mpr c3; have cA : (t102 != 0) = false := bne_eq_false_iff_eq.mpr c3; clear c3; replace H := Option.bind_eq_some_iff.mp H; obtain ⟨⟨t103, t106⟩, A40, H⟩ := H; replace H : (some (t106, 0)) = some (r1, r2) := H; have A4 := aa.mk A40; clear A40; simp only [Option.some.injEq, Prod.mk.injEq] at H; obtain ⟨rfl, rfl⟩ := H; go_enter Try.func37, Try.ntmps37; go_wp2_with (first | ((with_reducible refine QN (N := 1) rfl ?_); refine Q3 ?hg (N := 1) ?hd (cs := #[.slice ak ae.length an, .slice aj af.length al]) (t := 24) ?hr ?_; (case hd => rfl); (case hg => rfl); (case hr => first | (go_simp; done) | (go_simp; rfl)); intro ag hg w5 hbox hb; have ab := aa.mk (hbox); have bh := aa.mk ((by rw [hg]; exact (Qb bB) : w.heap.size ≤ ag)); have aT := aa.mk ((by rw [hg]; exact (Qb bB) : w.heap.size ≤ ag)); replace HB := aa.mk (Qa bB hb); clear hb hbox hg; have dE : w5.cell? ⟨ag, 0, none⟩ = some (.slice ak ae.length an) := (Qd ab.out 0).trans rfl; have dD : w5.cell? ⟨ag, 1, none⟩ = some (.slice aj af.length al) := (Qd ab.out 1).trans rfl; have dC := Qc ab.out 0; have dB := Qc ab.out 1) | ((with_reducible refine Qh (f := 38) rfl ?_); refine QG (some 8) rfl rfl Try.func38 (by kernel_rfl) rfl #[.agg #[.slice ak ae.length an, .slice aj af.length al]] rfl hA ?_; (with_reducible refine (Ql.calls k _ _ ae _ _ af t102 _ ?ah ?ai ?aq ?ar A2.out).mono ?_); (case ah => exact (Kd.Qq ay.out HB.out)); (case ai => exact aA.out); (case aq => exact (Kd.Qq az.out HB.out)); (case ar => exact aC.out); rintro e w7 ⟨rfl, hb⟩; refine ⟨_, rfl, ?_⟩; replace ab := aa.mk (Qp ab.out hb); replace HB := aa.mk (Qa bB hb); (try clear hb); (try clear hb2); (try clear hk); (try clear hi); have kD : w7.cell? ⟨ag, 0, none⟩ = some (.slice ak ae.length an) := (Qd ab.out 0).trans rfl; have kC : w7.cell? ⟨ag, 1, none⟩ = some (.slice aj af.length al) := (Qd ab.out 1).trans rfl; have kB := Qc ab.out 0; have kA := Qc ab.out 1) | ((with_reducible refine Qh (f := 74) rfl ?_); refine QG (some 14) rfl rfl Try.func74 (by kernel_rfl) rfl #[.agg #[.slice ak ae.length an, .slice aj af.length al]] rfl hA ?_; (with_reducible refine (QS.calls k _ _ ae _ _ af t103 t106 _ ?ah ?ai ?aq ?ar A4.out).mono ?_); (case ah => exact (Kd.Qq ay.out HB.out)); (case ai => exact aA.out); (case aq => exact (Kd.Qq az.out HB.out)); (case ar => exact aC.out); rintro e w9 ⟨fc, rfl, ho0, hb⟩; refine ⟨_, rfl, ?_⟩; have bw := aa.mk (Kd.Zh ho0 (Qb bB)); replace ab := aa.mk (Qp ab.out hb); replace HB := aa.mk (Qa bB hb); (try clear hb); (try clear hb2); (try clear hk); (try clear hi); (try clear ho0)))
  go_ret2; exact ⟨by first | rfl | (simp [Qk, Qj] <;> rfl) | (simp [*, Qk, Qj] <;> rfl), bB⟩
 ·rw [if_neg c3] at H; have bL : (t102 == 0) = false := beq_eq_false_iff_ne.mpr c3; have cA : (t102 != 0) = true := bne_iff_ne.mpr c3; simp only [Option.some.injEq, Prod.mk.injEq] at H; obtain ⟨rfl, rfl⟩ := H; go_enter Try.func37, Try.ntmps37; go_wp2_with (first | ((with_reducible refine QN (N := 1) rfl ?_); refine Q3 ?hg (N := 1) ?hd (cs := #[.slice ak ae.length an, .slice aj af.length al]) (t := 24) ?hr ?_; (case hd => rfl); (case hg => rfl); (case hr => first | (go_simp; done) | (go_simp; rfl)); intro ag hg w10 hbox hb; have ab := aa.mk (hbox); have bh := aa.mk ((by rw [hg]; exact (Qb bB) : w.heap.size ≤ ag)); have aT := aa.mk ((by rw [hg]; exact (Qb bB) : w.heap.size ≤ ag)); replace HB := aa.mk (Qa bB hb); clear hb hbox hg; have cQ : w10.cell? ⟨ag, 0, none⟩ = some (.slice ak ae.length an) := (Qd ab.out 0).trans rfl; have cP : w10.cell? ⟨ag, 1, none⟩ = some (.slice aj af.length al) := (Qd ab.out 1).trans rfl; have cO := Qc ab.out 0; have cN := Qc ab.out 1) | ((with_reducible refine Qh (f := 38) rfl ?_); refine QG (some 8) rfl rfl Try.func38 (by kernel_rfl) rfl #[.agg #[.slice ak ae.length an, .slice aj af.length al]] rfl hA ?_; (with_reducible refine (Ql.calls k _ _ ae _ _ af t102 _ ?ah ?ai ?aq ?ar A2.out).mono ?_); (case ah => exact (Kd.Qq ay.out HB.out)); (case ai => exact aA.out); (case aq => exact (Kd.Qq az.out HB.out)); (case ar => exact aC.out); rintro e w12 ⟨rfl, hb⟩; refine ⟨_, rfl, ?_⟩; replace ab := aa.mk (Qp ab.out hb); replace HB := aa.mk (Qa bB hb); (try clear hb); (try clear hb2); (try clear hk); (try clear hi)))
  go_ret2; exact ⟨by first | rfl | (simp [Qk, Qj] <;> rfl) | (simp [*, Qk, Qj] <;> rfl), bB⟩
def ZE.f (k : Nat) (ae : List (List Int)) (af : List (List Int)) : Option (List Int × Bool × Int) := (Ql.f k ae af).bind fun t102 => (if t102 = 0 then ((QS.f k ae af).bind fun fH => (some (fH.1, fH.2, 0))) else (some (([] : List Int), false, t102)))
set_option maxHeartbeats 8000000 in
set_option maxRecDepth 100000 in
theorem ZE.calls (k : Nat) (ak : Option Addr) (an : Nat) (ae : List (List Int)) (aj : Option Addr) (al : Nat) (af : List (List Int)) (r1 : List Int) (r2 : Bool) (r3 : Int) (w : World) (aM : Kd.C (Kd.slice 3 (Kd.int .i64)) w ak ae.length ae) (aQ : ae.length ≤ an) (aK : Kd.C (Kd.slice 3 (Kd.int .i64)) w aj af.length af) (aN : af.length ≤ al) (h : ZE.f k ae af = some (r1, r2, r3)) :
  Calls Try.prog 39 #[.agg #[.slice ak ae.length an, .slice aj af.length al]] w fun e w' => ∃ v0_ : Value, e = .returned (.tuple #[v0_, .bool r2, .int .i64 r3]) ∧ Kd.R (Kd.int .i64) 3 w' w.heap.size (fun _ => True) v0_ r1 ∧ Below w.heap.size w w' := by
 have ej := Try.underlying24; have ay := aa.mk aM; have aA := aa.mk aQ; clear aM aQ; have az := aa.mk aK; have aC := aa.mk aN; clear aK aN; have HB := aa.mk (Below.refl w.heap.size w); have H : ((Ql.f k ae af).bind fun t102 => (if t102 = 0 then ((QS.f k ae af).bind fun fH => (some (fH.1, fH.2, 0))) else (some (([] : List Int), false, t102)))) = some (r1, r2, r3) := h; clear h; replace H := Option.bind_eq_some_iff.mp H; obtain ⟨t102, A20, H⟩ := H; replace H : (if t102 = 0 then ((QS.f k ae af).bind fun fH => (some (fH.1, fH.2, 0))) else (some (([] : List Int), false, t102))) = some (r1, r2, r3) := H; have A2 := aa.mk A20; clear A20; by_cases c3 : t102 = 0
 ·rw [if_pos c3] at H; have bL : (t102 == 0) = true := beq_iff_eq.mpr c3; have cA : (t102 != 0) = false := bne_eq_false_iff_eq.mpr c3; clear c3; replace H := Option.bind_eq_some_iff.mp H; obtain ⟨⟨t103, t106⟩, A40, H⟩ := H; replace H : (some (t103, t106, 0)) = some (r1, r2, r3) := H; have A4 := aa.mk A40; clear A40; simp only [Option.some.injEq, Prod.mk.injEq] at H; obtain ⟨rfl, rfl, rfl⟩ := H; go_enter Try.func39, Try.ntmps39; go_wp2_with (first | ((with_reducible refine QN (N := 1) rfl ?_); refine Q3 ?hg (N := 1) ?hd (cs := #[.slice ak ae.length an, .slice aj af.length al]) (t := 24) ?hr ?_; (case hd => rfl); (case hg => rfl); (case hr => first | (go_simp; done) | (go_simp; rfl)); intro ag hg w5 hbox hb; have ab := aa.mk (hbox); have bh := aa.mk ((by rw [hg]; exact (Qb bB) : w.heap.size ≤ ag)); have aT := aa.mk ((by rw [hg]; exact (Qb bB) : w.heap.size ≤ ag)); replace HB := aa.mk (Qa bB hb); clear hb hbox hg; have dE : w5.cell? ⟨ag, 0, none⟩ = some (.slice ak ae.length an) := (Qd ab.out 0).trans rfl; have dD : w5.cell? ⟨ag, 1, none⟩ = some (.slice aj af.length al) := (Qd ab.out 1).trans rfl; have dC := Qc ab.out 0; have dB := Qc ab.out 1) | ((with_reducible refine Qh (f := 38) rfl ?_); refine QG (some 9) rfl rfl Try.func38 (by kernel_rfl) rfl #[.agg #[.slice ak ae.length an, .slice aj af.length al]] rfl hA ?_; (with_reducible refine (Ql.calls k _ _ ae _ _ af t102 _ ?ah ?ai ?aq ?ar A2.out).mono ?_); (case ah => exact (Kd.Qq ay.out HB.out)); (case ai => exact aA.out); (case aq => exact (Kd.Qq az.out HB.out)); (case ar => exact aC.out); rintro e w7 ⟨rfl, hb⟩; refine ⟨_, rfl, ?_⟩; replace ab := aa.mk (Qp ab.out hb); replace HB := aa.mk (Qa bB hb); (try clear hb); (try clear hb2); (try clear hk); (try clear hi); have kD : w7.cell? ⟨ag, 0, none⟩ = some (.slice ak ae.length an) := (Qd ab.out 0).trans rfl; have kC : w7.cell? ⟨ag, 1, none⟩ = some (.slice aj af.length al) := (Qd ab.out 1).trans rfl; have kB := Qc ab.out 0; have kA := Qc ab.out 1) | ((with_reducible refine Qh (f := 74) rfl ?_); refine QG (some 15) rfl rfl Try.func74 (by kernel_rfl) rfl #[.agg #[.slice ak ae.length an, .slice aj af.length al]] rfl hA ?_; (with_reducible refine (QS.calls k _ _ ae _ _ af t103 t106 _ ?ah ?ai ?aq ?ar A4.out).mono ?_); (case ah => exact (Kd.Qq ay.out HB.out)); (case ai => exact aA.out); (case aq => exact (Kd.Qq az.out HB.out)); (case ar => exact aC.out); rintro e w9 ⟨fc, rfl, ho0, hb⟩; refine ⟨_, rfl, ?_⟩; have bw := aa.mk (Kd.Zh ho0 (Qb bB)); replace ab := aa.mk (Qp ab.out hb); replace HB := aa.mk (Qa bB hb); (try clear hb); (try clear hb2); (try clear hk); (try clear hi); (try clear ho0)))
  go_ret3
  exact ⟨_, by first | rfl | (simp [Qk, Qj] <;> rfl) | (simp [*, Qk, Qj] <;> rfl), by (with_reducible repeat (first | apply Kd.R_alloc | apply Kd.R_drewN | apply Kd.QO)); exact bw.out, bB⟩
 ·rw [if_neg c3] at H; have bL : (t102 == 0) = false := beq_eq_false_iff_ne.mpr c3; have cA : (t102 != 0) = true := bne_iff_ne.mpr c3; simp only [Option.some.injEq, Prod.mk.injEq] at H; obtain ⟨rfl, rfl, rfl⟩ := H; go_enter Try.func39, Try.ntmps39; go_wp2_with (first | ((with_reducible refine QN (N := 1) rfl ?_); refine Q3 ?hg (N := 1) ?hd (cs := #[.slice ak ae.length an, .slice aj af.length al]) (t := 24) ?hr ?_; (case hd => rfl); (case hg => rfl); (case hr => first | (go_simp; done) | (go_simp; rfl)); intro ag hg w10 hbox hb; have ab := aa.mk (hbox); have bh := aa.mk ((by rw [hg]; exact (Qb bB) : w.heap.size ≤ ag)); have aT := aa.mk ((by rw [hg]; exact (Qb bB) : w.heap.size ≤ ag)); replace HB := aa.mk (Qa bB hb); clear hb hbox hg; have cQ : w10.cell? ⟨ag, 0, none⟩ = some (.slice ak ae.length an) := (Qd ab.out 0).trans rfl; have cP : w10.cell? ⟨ag, 1, none⟩ = some (.slice aj af.length al) := (Qd ab.out 1).trans rfl; have cO := Qc ab.out 0; have cN := Qc ab.out 1) | ((with_reducible refine Qh (f := 38) rfl ?_); refine QG (some 9) rfl rfl Try.func38 (by kernel_rfl) rfl #[.agg #[.slice ak ae.length an, .slice aj af.length al]] rfl hA ?_; (with_reducible refine (Ql.calls k _ _ ae _ _ af t102 _ ?ah ?ai ?aq ?ar A2.out).mono ?_); (case ah => exact (Kd.Qq ay.out HB.out)); (case ai => exact aA.out); (case aq => exact (Kd.Qq az.out HB.out)); (case ar => exact aC.out); rintro e w12 ⟨rfl, hb⟩; refine ⟨_, rfl, ?_⟩; replace ab := aa.mk (Qp ab.out hb); replace HB := aa.mk (Qa bB hb); (try clear hb); (try clear hb2); (try clear hk); (try clear hi)))
  go_ret3
  exact ⟨_, by first | rfl | (simp [Qk, Qj] <;> rfl) | (simp [*, Qk, Qj] <;> rfl), by first | exact Kd.Yr _ _ _ _ _ | exact Kd.Yv _ _ _ _ _ | exact Kd.V_nil _ _ _ _ _ | exact Kd.Q_nil _ _ _ _ _ | exact Kd.Yy _ _ _ _ _, bB⟩
mutual
def Qf.j0 : Nat → List Int → Bool → Bool → List (List Int) → List (List Int) → Option (Bool)
 | 0, _, _, _, _, _ => none
 | k + 1, x7, x8, x49, av, aw => if x49 = true then (some false) else (if x8 = true then ((Zx.f k av aw x7).bind fun jF => (if jF.2 = 0 then (Qf.j1 k x7 (!jF.1)) else (Qf.j1 k x7 true))) else (if (x7.length : Int) = 0 then ((Zf.f k).bind fun t113 => (some t113)) else (some false)))
def Qf.j1 : Nat → List Int → Bool → Option (Bool)
 | 0, _, _ => none
 | k + 1, x7, x69 => if x69 = true then (some false) else (Qf.l0 k x7 0)
def Qf.l0 : Nat → List Int → Int → Option (Bool)
 | 0, _, _ => none
 | k + 1, x7, x12 => if x12 < (x7.length : Int) then (if 0 ≤ x12 then (if (rd x7 x12) < 1 then (some false) else (Qf.l0 k x7 (wrap64 (x12 + 1)))) else (none)) else ((Zf.f k).bind fun t117 => (some t117))
end
def Qf.f (k : Nat) (ae : List (List Int)) (af : List (List Int)) : Option (Bool) := (QF.f k ae af).bind fun t102 => (if t102 = true then ((Zf.f k).bind fun t103 => (some t103)) else ((Qm.f k ae af).bind fun ec => ((Zz.f k ae af).bind fun fG => ((ZE.f k ae af).bind fun aW => (if (fG.1 != ec.1) = true then (Qf.j0 k aW.1 aW.2.1 true ae af) else (if fG.2 = ec.2 then (if (aW.2.1 != ec.1) = true then (Qf.j0 k aW.1 aW.2.1 true ae af) else (Qf.j0 k aW.1 aW.2.1 (aW.2.2 != ec.2) ae af)) else (Qf.j0 k aW.1 aW.2.1 true ae af)))))))
set_option maxHeartbeats 8000000 in
set_option maxRecDepth 100000 in
theorem Qf.calls (k : Nat) (ak : Option Addr) (an : Nat) (ae : List (List Int)) (aj : Option Addr) (al : Nat) (af : List (List Int)) (r : Bool) (w : World) (aM : Kd.C (Kd.slice 3 (Kd.int .i64)) w ak ae.length ae) (aQ : ae.length ≤ an) (aK : Kd.C (Kd.slice 3 (Kd.int .i64)) w aj af.length af) (aN : af.length ≤ al) (h : Qf.f k ae af = some r) :
  Calls Try.prog 32 #[.agg #[.slice ak ae.length an, .slice aj af.length al]] w fun e w' => e = .returned (.bool r) ∧ Below w.heap.size w w' := by
 have ej := Try.underlying24; have ay := aa.mk aM; have aA := aa.mk aQ; clear aM aQ; have az := aa.mk aK; have aC := aa.mk aN; clear aK aN; have HB := aa.mk (Below.refl w.heap.size w); have H : ((QF.f k ae af).bind fun t102 => (if t102 = true then ((Zf.f k).bind fun t103 => (some t103)) else ((Qm.f k ae af).bind fun ec => ((Zz.f k ae af).bind fun fG => ((ZE.f k ae af).bind fun aW => (if (fG.1 != ec.1) = true then (Qf.j0 k aW.1 aW.2.1 true ae af) else (if fG.2 = ec.2 then (if (aW.2.1 != ec.1) = true then (Qf.j0 k aW.1 aW.2.1 true ae af) else (Qf.j0 k aW.1 aW.2.1 (aW.2.2 != ec.2) ae af)) else (Qf.j0 k aW.1 aW.2.1 true ae af)))))))) = some r := h; clear h; replace H := Option.bind_eq_some_iff.mp H; obtain ⟨t102, A20, H⟩ := H; replace H : (if t102 = true then ((Zf.f k).bind fun t103 => (some t103)) else ((Qm.f k ae af).bind fun ec => ((Zz.f k ae af).bind fun fG => ((ZE.f k ae af).bind fun aW => (if (fG.1 != ec.1) = true then (Qf.j0 k aW.1 aW.2.1 true ae af) else (if fG.2 = ec.2 then (if (aW.2.1 != ec.1) = true then (Qf.j0 k aW.1 aW.2.1 true ae af) else (Qf.j0 k aW.1 aW.2.1 (aW.2.2 != ec.2) ae af)) else (Qf.j0 k aW.1 aW.2.1 true ae af))))))) = some r := H; have A2 := aa.mk A20; clear A20; by_cases c3 : t102 = true
 ·subst c3; have H1 : ((Zf.f k).bind fun t103 => (some t103)) = some r := by rw [if_pos rfl] at H; exact H
  clear H; have H := H1; clear H1; replace H := Option.bind_eq_some_iff.mp H; obtain ⟨t103, A40, H⟩ := H; replace H : (some t103) = some r := H; have A4 := aa.mk A40; clear A40; obtain rfl := Option.some.inj H; go_enter Try.func32, Try.ntmps32; go_wp2_with (first | ((with_reducible refine QN (N := 1) rfl ?_); refine Q3 ?hg (N := 1) ?hd (cs := #[.slice ak ae.length an, .slice aj af.length al]) (t := 24) ?hr ?_; (case hd => rfl); (case hg => rfl); (case hr => first | (go_simp; done) | (go_simp; rfl)); intro ag hg w5 hbox hb; have ab := aa.mk (hbox); have bh := aa.mk ((by rw [hg]; exact (Qb bB) : w.heap.size ≤ ag)); have aT := aa.mk ((by rw [hg]; exact (Qb bB) : w.heap.size ≤ ag)); replace HB := aa.mk (Qa bB hb); clear hb hbox hg; have dE : w5.cell? ⟨ag, 0, none⟩ = some (.slice ak ae.length an) := (Qd ab.out 0).trans rfl; have dD : w5.cell? ⟨ag, 1, none⟩ = some (.slice aj af.length al) := (Qd ab.out 1).trans rfl; have dC := Qc ab.out 0; have dB := Qc ab.out 1) | ((with_reducible refine Qh (f := 36) rfl ?_); refine QG (some 14) rfl rfl Try.func36 (by kernel_rfl) rfl #[.agg #[.slice ak ae.length an, .slice aj af.length al]] rfl hA ?_; (with_reducible refine (QF.calls k _ _ ae _ _ af true _ ?ah ?ai ?aq ?ar A2.out).mono ?_); (case ah => exact (Kd.Qq ay.out HB.out)); (case ai => exact aA.out); (case aq => exact (Kd.Qq az.out HB.out)); (case ar => exact aC.out); rintro e w7 ⟨rfl, hb⟩; refine ⟨_, rfl, ?_⟩; replace ab := aa.mk (Qp ab.out hb); replace HB := aa.mk (Qa bB hb); (try clear hb); (try clear hb2); (try clear hk); (try clear hi)) | ((with_reducible refine Qh (f := 50) rfl ?_); refine QG (some 15) rfl rfl Try.func50 (by kernel_rfl) rfl #[] rfl hA ?_; (with_reducible refine (Zf.calls k  t103 _ A4.out).mono ?_); rintro e w8 ⟨rfl, hb⟩; refine ⟨_, rfl, ?_⟩; replace ab := aa.mk (Qp ab.out hb); replace HB := aa.mk (Qa bB hb); (try clear hb); (try clear hb2); (try clear hk); (try clear hi)))
  go_ret; exact ⟨by first | rfl | (simp [Qk, Qj] <;> rfl) | (simp [*, Qk, Qj] <;> rfl), bB⟩
 ·replace c3 := Bool.eq_false_iff.mpr c3; subst c3; have H1 : ((Qm.f k ae af).bind fun ec => ((Zz.f k ae af).bind fun fG => ((ZE.f k ae af).bind fun aW => (if (fG.1 != ec.1) = true then (Qf.j0 k aW.1 aW.2.1 true ae af) else (if fG.2 = ec.2 then (if (aW.2.1 != ec.1) = true then (Qf.j0 k aW.1 aW.2.1 true ae af) else (Qf.j0 k aW.1 aW.2.1 (aW.2.2 != ec.2) ae af)) else (Qf.j0 k aW.1 aW.2.1 true ae af)))))) = some r := by rw [if_neg (show ¬ (false = true) by decide)] at H; exact H
  clear H; have H := H1; clear H1; replace H := Option.bind_eq_some_iff.mp H; obtain ⟨⟨t104, t105⟩, A90, H⟩ := H; replace H : ((Zz.f k ae af).bind fun fG => ((ZE.f k ae af).bind fun aW => (if (fG.1 != t104) = true then (Qf.j0 k aW.1 aW.2.1 true ae af) else (if fG.2 = t105 then (if (aW.2.1 != t104) = true then (Qf.j0 k aW.1 aW.2.1 true ae af) else (Qf.j0 k aW.1 aW.2.1 (aW.2.2 != t105) ae af)) else (Qf.j0 k aW.1 aW.2.1 true ae af))))) = some r := H; have A9 := aa.mk A90; clear A90; replace H := Option.bind_eq_some_iff.mp H; obtain ⟨⟨t106, t107⟩, xn, H⟩ := H; replace H : ((ZE.f k ae af).bind fun aW => (if (t106 != t104) = true then (Qf.j0 k aW.1 aW.2.1 true ae af) else (if t107 = t105 then (if (aW.2.1 != t104) = true then (Qf.j0 k aW.1 aW.2.1 true ae af) else (Qf.j0 k aW.1 aW.2.1 (aW.2.2 != t105) ae af)) else (Qf.j0 k aW.1 aW.2.1 true ae af)))) = some r := H; have A10 := aa.mk xn; clear xn; replace H := Option.bind_eq_some_iff.mp H; obtain ⟨⟨t108, t111, t112⟩, xm, H⟩ := H; replace H : (if (t106 != t104) = true then (Qf.j0 k t108 t111 true ae af) else (if t107 = t105 then (if (t111 != t104) = true then (Qf.j0 k t108 t111 true ae af) else (Qf.j0 k t108 t111 (t112 != t105) ae af)) else (Qf.j0 k t108 t111 true ae af))) = some r := H; have A11 := aa.mk xm; clear xm; have uJ := aa.mk H; clear H; go_enter Try.func32, Try.ntmps32; go_upto_region 6 with (first | ((with_reducible refine QN (N := 1) rfl ?_); refine Q3 ?hg (N := 1) ?hd (cs := #[.slice ak ae.length an, .slice aj af.length al]) (t := 24) ?hr ?_; (case hd => rfl); (case hg => rfl); (case hr => first | (go_simp; done) | (go_simp; rfl)); intro ag hg w13 hbox hb; have ab := aa.mk (hbox); have bh := aa.mk ((by rw [hg]; exact (Qb bB) : w.heap.size ≤ ag)); have aT := aa.mk ((by rw [hg]; exact (Qb bB) : w.heap.size ≤ ag)); replace HB := aa.mk (Qa bB hb); clear hb hbox hg; have dg : w13.cell? ⟨ag, 0, none⟩ = some (.slice ak ae.length an) := (Qd ab.out 0).trans rfl; have df : w13.cell? ⟨ag, 1, none⟩ = some (.slice aj af.length al) := (Qd ab.out 1).trans rfl; have de := Qc ab.out 0; have dd := Qc ab.out 1) | ((with_reducible refine Qh (f := 36) rfl ?_); refine QG (some 14) rfl rfl Try.func36 (by kernel_rfl) rfl #[.agg #[.slice ak ae.length an, .slice aj af.length al]] rfl hA ?_; (with_reducible refine (QF.calls k _ _ ae _ _ af false _ ?ah ?ai ?aq ?ar A2.out).mono ?_); (case ah => exact (Kd.Qq ay.out HB.out)); (case ai => exact aA.out); (case aq => exact (Kd.Qq az.out HB.out)); (case ar => exact aC.out); rintro e w15 ⟨rfl, hb⟩; refine ⟨_, rfl, ?_⟩; replace ab := aa.mk (Qp ab.out hb); replace HB := aa.mk (Qa bB hb); (try clear hb); (try clear hb2); (try clear hk); (try clear hi); have e7 : w15.cell? ⟨ag, 0, none⟩ = some (.slice ak ae.length an) := (Qd ab.out 0).trans rfl; have e6 : w15.cell? ⟨ag, 1, none⟩ = some (.slice aj af.length al) := (Qd ab.out 1).trans rfl; have eY := Qc ab.out 0; have eX := Qc ab.out 1) | ((with_reducible refine Qh (f := 60) rfl ?_); refine QG (some 18) rfl rfl Try.func60 (by kernel_rfl) rfl #[.agg #[.slice ak ae.length an, .slice aj af.length al]] rfl hA ?_; (with_reducible refine (Qm.calls k _ _ ae _ _ af t104 t105 _ ?ah ?ai ?aq ?ar A9.out).mono ?_); (case ah => exact (Kd.Qq ay.out HB.out)); (case ai => exact aA.out); (case aq => exact (Kd.Qq az.out HB.out)); (case ar => exact aC.out); rintro e w17 ⟨rfl, hb⟩; refine ⟨_, rfl, ?_⟩; replace ab := aa.mk (Qp ab.out hb); replace HB := aa.mk (Qa bB hb); (try clear hb); (try clear hb2); (try clear hk); (try clear hi); have hU : w17.cell? ⟨ag, 0, none⟩ = some (.slice ak ae.length an) := (Qd ab.out 0).trans rfl; have hP : w17.cell? ⟨ag, 1, none⟩ = some (.slice aj af.length al) := (Qd ab.out 1).trans rfl; have hH := Qc ab.out 0; have hG := Qc ab.out 1) | ((with_reducible refine Qh (f := 37) rfl ?_); refine QG (some 23) rfl rfl Try.func37 (by kernel_rfl) rfl #[.agg #[.slice ak ae.length an, .slice aj af.length al]] rfl hA ?_; (with_reducible refine (Zz.calls k _ _ ae _ _ af t106 t107 _ ?ah ?ai ?aq ?ar A10.out).mono ?_); (case ah => exact (Kd.Qq ay.out HB.out)); (case ai => exact aA.out); (case aq => exact (Kd.Qq az.out HB.out)); (case ar => exact aC.out); rintro e w19 ⟨rfl, hb⟩; refine ⟨_, rfl, ?_⟩; replace ab := aa.mk (Qp ab.out hb); replace HB := aa.mk (Qa bB hb); (try clear hb); (try clear hb2); (try clear hk); (try clear hi); have iU : w19.cell? ⟨ag, 0, none⟩ = some (.slice ak ae.length an) := (Qd ab.out 0).trans rfl; have iT : w19.cell? ⟨ag, 1, none⟩ = some (.slice aj af.length al) := (Qd ab.out 1).trans rfl; have iQ := Qc ab.out 0; have iP := Qc ab.out 1) | ((with_reducible refine Qh (f := 39) rfl ?_); refine QG (some 28) rfl rfl Try.func39 (by kernel_rfl) rfl #[.agg #[.slice ak ae.length an, .slice aj af.length al]] rfl hA ?_; (with_reducible refine (ZE.calls k _ _ ae _ _ af t108 t111 t112 _ ?ah ?ai ?aq ?ar A11.out).mono ?_); (case ah => exact (Kd.Qq ay.out HB.out)); (case ai => exact aA.out); (case aq => exact (Kd.Qq az.out HB.out)); (case ar => exact aC.out); rintro e w21 ⟨jO, rfl, ho0, hb⟩; refine ⟨_, rfl, ?_⟩; have ca := aa.mk (Kd.Zh ho0 (Qb bB)); replace ab := aa.mk (Qp ab.out hb); replace HB := aa.mk (Qa bB hb); (try clear hb); (try clear hb2); (try clear hk); (try clear hi); (try clear ho0)))
  (try simp only [Act.put, zA, zB, zC])
  go_cut [49] (fun v49 wc => ∃ (kq : Nat) (lv : Bool), v49 = .bool lv ∧ aa (Qf.j0 kq t108 t111 lv ae af = some r) ∧ aa (kq ≤ k) ∧ aa (Kd.R (Kd.int .i64) 3 wc w.heap.size (fun _ => True) jO t108) ∧ aa (wc.heap[ag]? = some (.cells #[(.slice ak ae.length an), (.slice aj af.length al)] 24 (0, 0))) ∧ aa (Below w.heap.size w wc))
  case first =>
   have H := uJ.out; clear uJ; by_cases c22 : (t106 != t104) = true
   ·rw [if_pos c22] at H; have fE : (t106 != t104) = true := c22; (try (have oo : decide (t106 = t104) = false := by simpa using c22))
    (try (have om : (t106 == t104) = false := by simpa using c22))
    (try (have AP : ¬ (t106 = t104) := by simpa using c22))
    clear c22; (first | rw [fE] | (simp only [QC, QD]; rw [fE]) | skip)
    have H' := aa.mk H; clear H; go_wp2; go_meet
    case rel => exact ⟨_, (true), (by first | rfl | (simp; done) | (simp [*]; done)), H', ⟨by first | omega | exact Nat.le_refl _⟩, ⟨by (with_reducible repeat (first | apply Kd.R_alloc | apply Kd.R_drewN | apply Kd.QO)); exact ca.out⟩, ⟨by (with_reducible repeat (first | refine Qx ?_ _ | refine QA ?_ | refine Qw ?_ _)); exact ab.out⟩, ⟨bB⟩⟩
   ·rw [if_neg c22] at H; have fE : (t106 != t104) = false := by simpa using c22
    (try (have oo : decide (t106 = t104) = true := by simpa using c22))
    (try (have om : (t106 == t104) = true := by simpa using c22))
    clear c22; (first | rw [fE] | (simp only [QC, QD]; rw [fE]) | skip)
    by_cases c23 : t107 = t105
    ·rw [if_pos c23] at H; have kR : (t107 == t105) = true := beq_iff_eq.mpr c23; have lg : (t107 != t105) = false := bne_eq_false_iff_eq.mpr c23; clear c23; by_cases c24 : (t111 != t104) = true
     ·rw [if_pos c24] at H; have jC : (t111 != t104) = true := c24; (try (have kQ : decide (t111 = t104) = false := by simpa using c24))
      (try (have kP : (t111 == t104) = false := by simpa using c24))
      (try (have AO : ¬ (t111 = t104) := by simpa using c24))
      clear c24; have H' := aa.mk H; clear H; go_wp2; go_meet
      case rel => exact ⟨_, (true), (by first | rfl | (simp; done) | (simp [*]; done)), H', ⟨by first | omega | exact Nat.le_refl _⟩, ⟨by (with_reducible repeat (first | apply Kd.R_alloc | apply Kd.R_drewN | apply Kd.QO)); exact ca.out⟩, ⟨by (with_reducible repeat (first | refine Qx ?_ _ | refine QA ?_ | refine Qw ?_ _)); exact ab.out⟩, ⟨bB⟩⟩
     ·rw [if_neg c24] at H; have jC : (t111 != t104) = false := by simpa using c24
      (try (have kQ : decide (t111 = t104) = true := by simpa using c24))
      (try (have kP : (t111 == t104) = true := by simpa using c24))
      clear c24; have H' := aa.mk H; clear H; go_wp2; go_meet
      case rel => exact ⟨_, ((t112 != t105)), (by first | rfl | (simp; done) | (simp [*]; done)), H', ⟨by first | omega | exact Nat.le_refl _⟩, ⟨by (with_reducible repeat (first | apply Kd.R_alloc | apply Kd.R_drewN | apply Kd.QO)); exact ca.out⟩, ⟨by (with_reducible repeat (first | refine Qx ?_ _ | refine QA ?_ | refine Qw ?_ _)); exact ab.out⟩, ⟨bB⟩⟩
    ·rw [if_neg c23] at H; have kR : (t107 == t105) = false := beq_eq_false_iff_ne.mpr c23; have lg : (t107 != t105) = true := bne_iff_ne.mpr c23; have H' := aa.mk H; clear H; go_wp2; go_meet
     case rel => exact ⟨_, (true), (by first | rfl | (simp; done) | (simp [*]; done)), H', ⟨by first | omega | exact Nat.le_refl _⟩, ⟨by (with_reducible repeat (first | apply Kd.R_alloc | apply Kd.R_drewN | apply Kd.QO)); exact ca.out⟩, ⟨by (with_reducible repeat (first | refine Qx ?_ _ | refine QA ?_ | refine Qw ?_ _)); exact ab.out⟩, ⟨bB⟩⟩
  case rest =>
   clear uJ; try clear c2
   try clear p2
   try clear c3
   try clear c5
   try clear c6
   try clear c22
   try clear fE
   try clear oo
   try clear om
   try clear c23
   try clear kR
   try clear lg
   try clear c24
   try clear jC
   try clear kQ
   try clear kP
   try clear dg
   try clear df
   try clear e7
   try clear e6
   try clear hU
   try clear hP
   try clear iU
   try clear iT
   try clear dE
   try clear dD
   try clear de
   try clear dd
   try clear eY
   try clear eX
   try clear hH
   try clear hG
   try clear iQ
   try clear iP
   try clear dC
   try clear dB
   obtain ⟨kq, lv, rfl, HA, rH, ax, ab, HB⟩ := hcut; cases kq with
   | zero => exact absurd HA.out (by simp [Qf.j0])
   | succ jr =>
    have H := HA.out; clear HA; simp only [Qf.j0] at H; by_cases c25 : lv = true
    ·subst c25; have H1 : (some false) = some r := by rw [if_pos rfl] at H; exact H
     clear H; have H := H1; clear H1; obtain rfl := Option.some.inj H; go_wp2; go_ret; exact ⟨by first | rfl | (simp [Qk, Qj] <;> rfl) | (simp [*, Qk, Qj] <;> rfl), bB⟩
    ·replace c25 := Bool.eq_false_iff.mpr c25; subst c25; have H1 : (if t111 = true then ((Zx.f jr ae af t108).bind fun jF => (if jF.2 = 0 then (Qf.j1 jr t108 (!jF.1)) else (Qf.j1 jr t108 true))) else (if (t108.length : Int) = 0 then ((Zf.f jr).bind fun t113 => (some t113)) else (some false))) = some r := by rw [if_neg (show ¬ (false = true) by decide)] at H; exact H
     clear H; have H := H1; clear H1; by_cases c26 : t111 = true
     ·subst c26; have H1 : ((Zx.f jr ae af t108).bind fun jF => (if jF.2 = 0 then (Qf.j1 jr t108 (!jF.1)) else (Qf.j1 jr t108 true))) = some r := by rw [if_pos rfl] at H; exact H
      clear H; have H := H1; clear H1; replace H := Option.bind_eq_some_iff.mp H; obtain ⟨⟨t114, t115⟩, qp, H⟩ := H; replace H : (if t115 = 0 then (Qf.j1 jr t108 (!t114)) else (Qf.j1 jr t108 true)) = some r := H; have A27 := aa.mk qp; clear qp; have uH := aa.mk H; clear H; have iS : wc.cell? ⟨ag, 0, none⟩ = some (.slice ak ae.length an) := (Qd ab.out 0).trans rfl; have iR : wc.cell? ⟨ag, 1, none⟩ = some (.slice aj af.length al) := (Qd ab.out 1).trans rfl; have iO := Qc ab.out 0; have iN := Qc ab.out 1; obtain ⟨kY, kM, pN⟩ := Kd.Zg ax.out; subst pN; go_upto_region 11 with (first | ((with_reducible refine Qh (f := 52) rfl ?_); refine QG (some 61) rfl rfl Try.func52 (by kernel_rfl) rfl #[.agg #[.slice ak ae.length an, .slice aj af.length al], .slice kY t108.length kM] rfl hA ?_; (with_reducible refine (Zx.calls jr _ _ ae _ _ af _ _ t108 t114 t115 _ ?ah ?ai ?aq ?ar ?bE ?bD A27.out).mono ?_); (case ah => exact (Kd.Qq ay.out HB.out)); (case ai => exact aA.out); (case aq => exact (Kd.Qq az.out HB.out)); (case ar => exact aC.out); (case bE => exact (Kd.QE ax.out).2.2); (case bD => exact (Kd.QE ax.out).2.1); rintro e w31 ⟨rfl, hb⟩; refine ⟨_, rfl, ?_⟩; replace ax := aa.mk (Kd.QV ax.out hb); replace ab := aa.mk (Qp ab.out hb); replace HB := aa.mk (Qa bB hb); (try clear hb); (try clear hb2); (try clear hk); (try clear hi)))
      (try simp only [Act.put, zA, zB, zC])
      go_cut [69] (fun v69 wc => ∃ (kq : Nat) (lr : Bool), v69 = .bool lr ∧ aa (Qf.j1 kq t108 lr = some r) ∧ aa (kq ≤ jr) ∧ aa (Kd.R (Kd.int .i64) 3 wc w.heap.size (fun _ => True) (.slice kY t108.length kM) t108) ∧ aa (wc.heap[ag]? = some (.cells #[(.slice ak ae.length an), (.slice aj af.length al)] 24 (0, 0))) ∧ aa (Below w.heap.size w wc))
      case first =>
       have H := uH.out; clear uH; by_cases c32 : t115 = 0
       ·rw [if_pos c32] at H; have jB : (t115 == 0) = true := beq_iff_eq.mpr c32; have p9 : (t115 != 0) = false := bne_eq_false_iff_eq.mpr c32; clear c32; (first | rw [jB] | (simp only [QC, QD]; rw [jB]) | skip)
        have H' := aa.mk H; clear H; go_wp2; go_meet
        case rel => exact ⟨_, (!t114), (by first | rfl | (simp; done) | (simp [*]; done)), H', ⟨by have := rH.out; first | omega | exact Nat.le_refl _⟩, ⟨by (with_reducible repeat (first | apply Kd.R_alloc | apply Kd.R_drewN | apply Kd.QO)); exact ax.out⟩, ⟨by (with_reducible repeat (first | refine Qx ?_ _ | refine QA ?_ | refine Qw ?_ _)); exact ab.out⟩, ⟨bB⟩⟩
       ·rw [if_neg c32] at H; have jB : (t115 == 0) = false := beq_eq_false_iff_ne.mpr c32; have p9 : (t115 != 0) = true := bne_iff_ne.mpr c32; (first | rw [jB] | (simp only [QC, QD]; rw [jB]) | skip)
        have H' := aa.mk H; clear H; go_wp2; go_meet
        case rel => exact ⟨_, (true), (by first | rfl | (simp; done) | (simp [*]; done)), H', ⟨by have := rH.out; first | omega | exact Nat.le_refl _⟩, ⟨by (with_reducible repeat (first | apply Kd.R_alloc | apply Kd.R_drewN | apply Kd.QO)); exact ax.out⟩, ⟨by (with_reducible repeat (first | refine Qx ?_ _ | refine QA ?_ | refine Qw ?_ _)); exact ab.out⟩, ⟨bB⟩⟩
      case rest =>
       clear uH; try clear c2
       try clear p2
       try clear c3
       try clear c5
       try clear c6
       try clear c22
       try clear fE
       try clear oo
       try clear om
       try clear c23
       try clear kR
       try clear lg
       try clear c24
       try clear jC
       try clear kQ
       try clear kP
       try clear c25
       try clear c26
       try clear c32
       try clear jB
       try clear p9
       try clear dg
       try clear df
       try clear e7
       try clear e6
       try clear hU
       try clear hP
       try clear iU
       try clear iT
       try clear iS
       try clear iR
       try clear dE
       try clear dD
       try clear de
       try clear dd
       try clear eY
       try clear eX
       try clear hH
       try clear hG
       try clear iQ
       try clear iP
       try clear iO
       try clear iN
       try clear dC
       try clear dB
       try clear p2
       obtain ⟨kq, lr, rfl, HA, wH, ax, ab, HB⟩ := hcut; cases kq with
       | zero => exact absurd HA.out (by simp [Qf.j1])
       | succ s8 =>
        have H := HA.out; clear HA; simp only [Qf.j1] at H; by_cases c33 : lr = true
        ·subst c33; have H1 : (some false) = some r := by rw [if_pos rfl] at H; exact H
         clear H; have H := H1; clear H1; obtain rfl := Option.some.inj H; go_wp2; go_ret; exact ⟨by first | rfl | (simp [Qk, Qj] <;> rfl) | (simp [*, Qk, Qj] <;> rfl), bB⟩
        ·replace c33 := Bool.eq_false_iff.mpr c33; subst c33; have H1 : (Qf.l0 s8 t108 0) = some r := by rw [if_neg (show ¬ (false = true) by decide)] at H; exact H
         clear H; have H := H1; clear H1; have H' := aa.mk H; clear H; go_wp2; go_loopg [12] s8 (fun kq v12 w' => ∃ (ei : Int), v12 = .int .i64 ei ∧ aa (Qf.l0 kq t108 ei = some r) ∧ aa (kq ≤ s8) ∧ aa (Kd.R (Kd.int .i64) 3 w' w.heap.size (fun _ => True) (.slice kY t108.length kM) t108) ∧ aa (w'.heap[ag]? = some (.cells #[(.slice ak ae.length an), (.slice aj af.length al)] 24 (0, 0))) ∧ aa (Below w.heap.size w w'))
         case atStart => exact ⟨(0), (by first | rfl | (simp; done) | (simp [*]; done)), H', ⟨Nat.le_refl _⟩, ⟨by (with_reducible repeat (first | apply Kd.R_alloc | apply Kd.R_drewN | apply Kd.QO)); exact ax.out⟩, ⟨by (with_reducible repeat (first | refine Qx ?_ _ | refine QA ?_ | refine Qw ?_ _)); exact ab.out⟩, ⟨bB⟩⟩
         case round =>
          clear H'; try clear c2
          try clear p2
          try clear c3
          try clear c5
          try clear c6
          try clear c22
          try clear fE
          try clear oo
          try clear om
          try clear c23
          try clear kR
          try clear lg
          try clear c24
          try clear jC
          try clear kQ
          try clear kP
          try clear c25
          try clear c26
          try clear c32
          try clear jB
          try clear p9
          try clear c33
          try clear dg
          try clear df
          try clear e7
          try clear e6
          try clear hU
          try clear hP
          try clear iU
          try clear iT
          try clear iS
          try clear iR
          try clear dE
          try clear dD
          try clear de
          try clear dd
          try clear eY
          try clear eX
          try clear hH
          try clear hG
          try clear iQ
          try clear iP
          try clear iO
          try clear iN
          try clear dC
          try clear dB
          try clear p2
          obtain ⟨ei, rfl, HA, HK3, ax, ab, HB⟩ := hrel; cases gk with
          | zero => exact absurd HA.out (by simp [Qf.l0])
          | succ k3 =>
           have H := HA.out; clear HA; simp only [Qf.l0] at H; by_cases c34 : ei < (t108.length : Int)
           ·rw [if_pos c34] at H; have sw : decide (ei < (t108.length : Int)) = true := decide_eq_true c34; clear c34; by_cases c35 : 0 ≤ ei
            ·rw [if_pos c35] at H; have AM : decide (0 ≤ ei) = true := decide_eq_true c35; clear c35; by_cases c36 : (rd t108 ei) < 1
             ·rw [if_pos c36] at H; have sv : decide ((rd t108 ei) < 1) = true := decide_eq_true c36; clear c36; obtain rfl := Option.some.inj H; have dK : 0 ≤ (ei : Int) := of_decide_eq_true (by assumption); have dJ : ei < (t108.length : Int) := of_decide_eq_true (by assumption); obtain ⟨fI, jv, b8⟩ := Kd.Zi (Kd.QE ax.out).2.2 ei dK dJ; cases jv; replace dK := eq_true dK; replace dJ := eq_true dJ; go_wp2; go_ret; exact ⟨by first | rfl | (simp [Qk, Qj] <;> rfl) | (simp [*, Qk, Qj] <;> rfl), bB⟩
             ·rw [if_neg c36] at H; have sv : decide ((rd t108 ei) < 1) = false := decide_eq_false c36; clear c36; have H' := aa.mk H; clear H; have dK : 0 ≤ (ei : Int) := of_decide_eq_true (by assumption); have dJ : ei < (t108.length : Int) := of_decide_eq_true (by assumption); obtain ⟨fI, jv, b8⟩ := Kd.Zi (Kd.QE ax.out).2.2 ei dK dJ; cases jv; replace dK := eq_true dK; replace dJ := eq_true dJ; go_wp2; go_roundg k3
              case measure => have := rH.out; have := wH.out; have := HK3.out; omega
              case rel => exact ⟨(wrap64 (ei + 1)), (by first | rfl | (simp; done) | (simp [*]; done)), H', ⟨by have := rH.out; have := wH.out; have := HK3.out; omega⟩, ⟨by (with_reducible repeat (first | apply Kd.R_alloc | apply Kd.R_drewN | apply Kd.QO)); exact ax.out⟩, ⟨by (with_reducible repeat (first | refine Qx ?_ _ | refine QA ?_ | refine Qw ?_ _)); exact ab.out⟩, ⟨bB⟩⟩
            ·rw [if_neg c35] at H; exact absurd H (by simp)
           ·rw [if_neg c34] at H; have sw : decide (ei < (t108.length : Int)) = false := decide_eq_false c34; clear c34; replace H := Option.bind_eq_some_iff.mp H; obtain ⟨t117, xc, H⟩ := H; replace H : (some t117) = some r := H; have A37 := aa.mk xc; clear xc; obtain rfl := Option.some.inj H; go_wp2_with (first | ((with_reducible refine Qh (f := 50) rfl ?_); refine QG (some 81) rfl rfl Try.func50 (by kernel_rfl) rfl #[] rfl hA ?_; (with_reducible refine (Zf.calls k3  t117 _ A37.out).mono ?_); rintro e w38 ⟨rfl, hb⟩; refine ⟨_, rfl, ?_⟩; replace ax := aa.mk (Kd.QV ax.out hb); replace ab := aa.mk (Qp ab.out hb); replace HB := aa.mk (Qa bB hb); (try clear hb); (try clear hb2); (try clear hk); (try clear hi)))
            go_ret; exact ⟨by first | rfl | (simp [Qk, Qj] <;> rfl) | (simp [*, Qk, Qj] <;> rfl), bB⟩
     ·replace c26 := Bool.eq_false_iff.mpr c26; subst c26; have H1 : (if (t108.length : Int) = 0 then ((Zf.f jr).bind fun t113 => (some t113)) else (some false)) = some r := by rw [if_neg (show ¬ (false = true) by decide)] at H; exact H
      clear H; have H := H1; clear H1; by_cases c39 : (t108.length : Int) = 0
      ·rw [if_pos c39] at H; have p8 : ((t108.length : Int) == 0) = true := beq_iff_eq.mpr c39; have p7 : ((t108.length : Int) != 0) = false := bne_eq_false_iff_eq.mpr c39; clear c39; replace H := Option.bind_eq_some_iff.mp H; obtain ⟨t113, xa, H⟩ := H; replace H : (some t113) = some r := H; have A40 := aa.mk xa; clear xa; obtain rfl := Option.some.inj H; obtain ⟨rO, rq, tT⟩ := Kd.Zg ax.out; subst tT; go_wp2_with (first | (go_at_call 50; (with_reducible refine (Zf.calls jr  t113 _ A40.out).mono ?_); rintro e w42 ⟨rfl, hb⟩; replace ax := aa.mk (Kd.QV ax.out hb); replace ab := aa.mk (Qp ab.out hb); replace HB := aa.mk (Qa bB hb); (try clear hb); (try clear hb2); (try clear hk); (try clear hi)))
       go_ret; exact ⟨by first | rfl | (simp [Qk, Qj] <;> rfl) | (simp [*, Qk, Qj] <;> rfl), bB⟩
      ·rw [if_neg c39] at H; have p8 : ((t108.length : Int) == 0) = false := beq_eq_false_iff_ne.mpr c39; have p7 : ((t108.length : Int) != 0) = true := bne_iff_ne.mpr c39; have AK : ¬ (t108 = []) := fun h_ => c39 (by rw [h_]; rfl)
       obtain rfl := Option.some.inj H; obtain ⟨Ae, zO, tS⟩ := Kd.Zg ax.out; subst tS; go_wp2; go_ret; exact ⟨by first | rfl | (simp [Qk, Qj] <;> rfl) | (simp [*, Qk, Qj] <;> rfl), bB⟩
def ZR.f (k : Nat) (ae cn : List (List Int)) (af ck : List (List Int)) : Option (Bool) := (QJ.f k cn).bind fun t102 => ((QJ.f k ck).bind fun t105 => ((Qf.f k ae af).bind fun t108 => (if t108 = true then ((QB.f k t102 cn).bind fun t109 => (if t109 = true then ((QB.f k t105 ck).bind fun t110 => (some t110)) else (some false))) else (some false))))
set_option maxHeartbeats 8000000 in
set_option maxRecDepth 100000 in
theorem ZR.calls (k : Nat) (ak : Option Addr) (ae cn : List (List Int)) (aj : Option Addr) (af ck : List (List Int)) (r : Bool) (w : World) (aM : Kd.C (Kd.slice 3 (Kd.int .i64)) w ak ae.length ae) (aQ : ae.length ≤ cn.length) (sa : Kd.C Full.kd w ak cn.length cn) (aK : Kd.C (Kd.slice 3 (Kd.int .i64)) w aj af.length af) (aN : af.length ≤ ck.length) (r9 : Kd.C Full.kd w aj ck.length ck) (h : ZR.f k ae cn af ck = some r) :
  Calls Try.prog 14 #[.agg #[.slice ak ae.length cn.length, .slice aj af.length ck.length]] w fun e w' => e = .returned (.bool r) ∧ Below w.heap.size w w' := by
 have ej := Try.underlying24; have ay := aa.mk aM; have aA := aa.mk aQ; have mY := aa.mk sa; clear aM aQ sa; have az := aa.mk aK; have aC := aa.mk aN; have oH := aa.mk r9; clear aK aN r9; have HB := aa.mk (Below.refl w.heap.size w); have H : ((QJ.f k cn).bind fun t102 => ((QJ.f k ck).bind fun t105 => ((Qf.f k ae af).bind fun t108 => (if t108 = true then ((QB.f k t102 cn).bind fun t109 => (if t109 = true then ((QB.f k t105 ck).bind fun t110 => (some t110)) else (some false))) else (some false))))) = some r := h; clear h; replace H := Option.bind_eq_some_iff.mp H; obtain ⟨t102, A20, H⟩ := H; replace H : ((QJ.f k ck).bind fun t105 => ((Qf.f k ae af).bind fun t108 => (if t108 = true then ((QB.f k t102 cn).bind fun t109 => (if t109 = true then ((QB.f k t105 ck).bind fun t110 => (some t110)) else (some false))) else (some false)))) = some r := H; have A2 := aa.mk A20; clear A20; replace H := Option.bind_eq_some_iff.mp H; obtain ⟨t105, A30, H⟩ := H; replace H : ((Qf.f k ae af).bind fun t108 => (if t108 = true then ((QB.f k t102 cn).bind fun t109 => (if t109 = true then ((QB.f k t105 ck).bind fun t110 => (some t110)) else (some false))) else (some false))) = some r := H; have A3 := aa.mk A30; clear A30; replace H := Option.bind_eq_some_iff.mp H; obtain ⟨t108, A40, H⟩ := H; replace H : (if t108 = true then ((QB.f k t102 cn).bind fun t109 => (if t109 = true then ((QB.f k t105 ck).bind fun t110 => (some t110)) else (some false))) else (some false)) = some r := H; have A4 := aa.mk A40; clear A40; by_cases c5 : t108 = true
 ·subst c5; have H1 : ((QB.f k t102 cn).bind fun t109 => (if t109 = true then ((QB.f k t105 ck).bind fun t110 => (some t110)) else (some false))) = some r := by rw [if_pos rfl] at H; exact H
  clear H; have H := H1; clear H1; replace H := Option.bind_eq_some_iff.mp H; obtain ⟨t109, A60, H⟩ := H; replace H : (if t109 = true then ((QB.f k t105 ck).bind fun t110 => (some t110)) else (some false)) = some r := H; have A6 := aa.mk A60; clear A60; by_cases c7 : t109 = true
  ·subst c7; have H1 : ((QB.f k t105 ck).bind fun t110 => (some t110)) = some r := by rw [if_pos rfl] at H; exact H
   clear H; have H := H1; clear H1; replace H := Option.bind_eq_some_iff.mp H; obtain ⟨t110, A80, H⟩ := H; replace H : (some t110) = some r := H; have A8 := aa.mk A80; clear A80; obtain rfl := Option.some.inj H; go_enter Try.func14, Try.ntmps14; go_wp2_with (first | ((with_reducible refine QN (N := 1) rfl ?_); refine Q3 ?hg (N := 1) ?hd (cs := #[.slice ak ae.length cn.length, .slice aj af.length ck.length]) (t := 24) ?hr ?_; (case hd => rfl); (case hg => rfl); (case hr => first | (go_simp; done) | (go_simp; rfl)); intro ag hg w9 hbox hb; have ab := aa.mk (hbox); have bh := aa.mk ((by rw [hg]; exact (Qb bB) : w.heap.size ≤ ag)); have aT := aa.mk ((by rw [hg]; exact (Qb bB) : w.heap.size ≤ ag)); replace HB := aa.mk (Qa bB hb); clear hb hbox hg; have du : w9.cell? ⟨ag, 0, none⟩ = some (.slice ak ae.length cn.length) := (Qd ab.out 0).trans rfl; have dr : w9.cell? ⟨ag, 1, none⟩ = some (.slice aj af.length ck.length) := (Qd ab.out 1).trans rfl; have dq := Qc ab.out 0; have dp := Qc ab.out 1) | ((with_reducible refine Qh (f := 17) rfl ?_); refine QG (some 7) rfl rfl Try.func17 (by kernel_rfl) rfl #[.slice ak ae.length cn.length] rfl hA ?_; (with_reducible refine (QJ.calls k _ _ cn t102 _ ?ah ?ai A2.out).mono ?_); (case ah => exact (Kd.Qq mY.out HB.out)); (case ai => exact aA.out); rintro e w11 ⟨gG, rfl, ho0, hb⟩; refine ⟨_, rfl, ?_⟩; have ba := aa.mk (Kd.YQ ho0 (Qb bB)); replace ab := aa.mk (Qp ab.out hb); replace HB := aa.mk (Qa bB hb); (try clear hb); (try clear hb2); (try clear hk); (try clear hi); (try clear ho0); have dY : w11.cell? ⟨ag, 0, none⟩ = some (.slice ak ae.length cn.length) := (Qd ab.out 0).trans rfl; have dX : w11.cell? ⟨ag, 1, none⟩ = some (.slice aj af.length ck.length) := (Qd ab.out 1).trans rfl; have dW := Qc ab.out 0; have dV := Qc ab.out 1) | ((with_reducible refine Qh (f := 17) rfl ?_); refine QG (some 10) rfl rfl Try.func17 (by kernel_rfl) rfl #[.slice aj af.length ck.length] rfl hA ?_; (with_reducible refine (QJ.calls k _ _ ck t105 _ ?ah ?ai A3.out).mono ?_); (case ah => exact (Kd.Qq oH.out HB.out)); (case ai => exact aC.out); rintro e w13 ⟨ik, rfl, ho0, hb⟩; refine ⟨_, rfl, ?_⟩; have bY := aa.mk (Kd.YQ (Kd.S_new' ho0 (Kd.S_lt ba.out)) (Qb bB)); replace ba := aa.mk (Kd.Vo ba.out (Kd.S_base ho0) hb); replace ab := aa.mk (Qp ab.out hb); replace HB := aa.mk (Qa bB hb); (try clear hb); (try clear hb2); (try clear hk); (try clear hi); (try clear ho0); have dg : w13.cell? ⟨ag, 0, none⟩ = some (.slice ak ae.length cn.length) := (Qd ab.out 0).trans rfl; have df : w13.cell? ⟨ag, 1, none⟩ = some (.slice aj af.length ck.length) := (Qd ab.out 1).trans rfl; have de := Qc ab.out 0; have dd := Qc ab.out 1) | ((with_reducible refine Qh (f := 32) rfl ?_); refine QG (some 12) rfl rfl Try.func32 (by kernel_rfl) rfl #[.agg #[.slice ak ae.length cn.length, .slice aj af.length ck.length]] rfl hA ?_; (with_reducible refine (Qf.calls k _ _ ae _ _ af true _ ?ah ?ai ?aq ?ar A4.out).mono ?_); (case ah => exact (Kd.Qq ay.out HB.out)); (case ai => exact aA.out); (case aq => exact (Kd.Qq az.out HB.out)); (case ar => exact aC.out); rintro e w15 ⟨rfl, hb⟩; refine ⟨_, rfl, ?_⟩; replace ba := aa.mk (Kd.Vc ba.out hb); replace bY := aa.mk (Kd.Vc bY.out hb); replace ab := aa.mk (Qp ab.out hb); replace HB := aa.mk (Qa bB hb); (try clear hb); (try clear hb2); (try clear hk); (try clear hi); have e7 : w15.cell? ⟨ag, 0, none⟩ = some (.slice ak ae.length cn.length) := (Qd ab.out 0).trans rfl; have e6 : w15.cell? ⟨ag, 1, none⟩ = some (.slice aj af.length ck.length) := (Qd ab.out 1).trans rfl; have eY := Qc ab.out 0; have eX := Qc ab.out 1; obtain ⟨wY, vP, ub⟩ := Kd.VW ba.out; subst ub) | (go_at_call 19; (with_reducible refine (QB.calls k _ _ t102 _ _ cn true _ ?ah ?ai ?aq ?ar A6.out).mono ?_); (case ah => exact (Kd.Yt ba.out).2.2); (case ai => exact (Kd.Yt ba.out).2.1); (case aq => exact (Kd.Qq mY.out HB.out)); (case ar => exact aA.out); rintro e w' ⟨rfl, ⟨nd, rfl⟩⟩; obtain ⟨Ag, zP, ua⟩ := Kd.VW bY.out; subst ua) | (go_at_call 19; (with_reducible refine (QB.calls k _ _ t105 _ _ ck t110 _ ?ah ?ai ?aq ?ar A8.out).mono ?_); (case ah => exact (Kd.Yt bY.out).2.2); (case ai => exact (Kd.Yt bY.out).2.1); (case aq => repeat (first | exact (Kd.Qq oH.out bB) | (with_reducible refine Kd.C_alloc ?_ _) | (with_reducible refine Kd.ZF ?_ _) | (with_reducible refine Kd.C_drew ?_))); (case ar => exact aC.out); rintro e w' ⟨rfl, ⟨nd, rfl⟩⟩))
   go_ret; exact ⟨by first | rfl | (simp [Qk, Qj] <;> rfl) | (simp [*, Qk, Qj] <;> rfl), bB⟩
  ·replace c7 := Bool.eq_false_iff.mpr c7; subst c7; have H1 : (some false) = some r := by rw [if_neg (show ¬ (false = true) by decide)] at H; exact H
   clear H; have H := H1; clear H1; obtain rfl := Option.some.inj H; go_enter Try.func14, Try.ntmps14; go_wp2_with (first | ((with_reducible refine QN (N := 1) rfl ?_); refine Q3 ?hg (N := 1) ?hd (cs := #[.slice ak ae.length cn.length, .slice aj af.length ck.length]) (t := 24) ?hr ?_; (case hd => rfl); (case hg => rfl); (case hr => first | (go_simp; done) | (go_simp; rfl)); intro ag hg w19 hbox hb; have ab := aa.mk (hbox); have bh := aa.mk ((by rw [hg]; exact (Qb bB) : w.heap.size ≤ ag)); have aT := aa.mk ((by rw [hg]; exact (Qb bB) : w.heap.size ≤ ag)); replace HB := aa.mk (Qa bB hb); clear hb hbox hg; have iU : w19.cell? ⟨ag, 0, none⟩ = some (.slice ak ae.length cn.length) := (Qd ab.out 0).trans rfl; have iT : w19.cell? ⟨ag, 1, none⟩ = some (.slice aj af.length ck.length) := (Qd ab.out 1).trans rfl; have iQ := Qc ab.out 0; have iP := Qc ab.out 1) | ((with_reducible refine Qh (f := 17) rfl ?_); refine QG (some 7) rfl rfl Try.func17 (by kernel_rfl) rfl #[.slice ak ae.length cn.length] rfl hA ?_; (with_reducible refine (QJ.calls k _ _ cn t102 _ ?ah ?ai A2.out).mono ?_); (case ah => exact (Kd.Qq mY.out HB.out)); (case ai => exact aA.out); rintro e w21 ⟨gG, rfl, ho0, hb⟩; refine ⟨_, rfl, ?_⟩; have ba := aa.mk (Kd.YQ ho0 (Qb bB)); replace ab := aa.mk (Qp ab.out hb); replace HB := aa.mk (Qa bB hb); (try clear hb); (try clear hb2); (try clear hk); (try clear hi); (try clear ho0); have rb : w21.cell? ⟨ag, 0, none⟩ = some (.slice ak ae.length cn.length) := (Qd ab.out 0).trans rfl; have ra : w21.cell? ⟨ag, 1, none⟩ = some (.slice aj af.length ck.length) := (Qd ab.out 1).trans rfl; have qW := Qc ab.out 0; have qV := Qc ab.out 1) | ((with_reducible refine Qh (f := 17) rfl ?_); refine QG (some 10) rfl rfl Try.func17 (by kernel_rfl) rfl #[.slice aj af.length ck.length] rfl hA ?_; (with_reducible refine (QJ.calls k _ _ ck t105 _ ?ah ?ai A3.out).mono ?_); (case ah => exact (Kd.Qq oH.out HB.out)); (case ai => exact aC.out); rintro e w23 ⟨ik, rfl, ho0, hb⟩; refine ⟨_, rfl, ?_⟩; have bY := aa.mk (Kd.YQ (Kd.S_new' ho0 (Kd.S_lt ba.out)) (Qb bB)); replace ba := aa.mk (Kd.Vo ba.out (Kd.S_base ho0) hb); replace ab := aa.mk (Qp ab.out hb); replace HB := aa.mk (Qa bB hb); (try clear hb); (try clear hb2); (try clear hk); (try clear hi); (try clear ho0); have q9 : w23.cell? ⟨ag, 0, none⟩ = some (.slice ak ae.length cn.length) := (Qd ab.out 0).trans rfl; have q8 : w23.cell? ⟨ag, 1, none⟩ = some (.slice aj af.length ck.length) := (Qd ab.out 1).trans rfl; have qU := Qc ab.out 0; have qT := Qc ab.out 1) | ((with_reducible refine Qh (f := 32) rfl ?_); refine QG (some 12) rfl rfl Try.func32 (by kernel_rfl) rfl #[.agg #[.slice ak ae.length cn.length, .slice aj af.length ck.length]] rfl hA ?_; (with_reducible refine (Qf.calls k _ _ ae _ _ af true _ ?ah ?ai ?aq ?ar A4.out).mono ?_); (case ah => exact (Kd.Qq ay.out HB.out)); (case ai => exact aA.out); (case aq => exact (Kd.Qq az.out HB.out)); (case ar => exact aC.out); rintro e w25 ⟨rfl, hb⟩; refine ⟨_, rfl, ?_⟩; replace ba := aa.mk (Kd.Vc ba.out hb); replace bY := aa.mk (Kd.Vc bY.out hb); replace ab := aa.mk (Qp ab.out hb); replace HB := aa.mk (Qa bB hb); (try clear hb); (try clear hb2); (try clear hk); (try clear hi); have kg : w25.cell? ⟨ag, 0, none⟩ = some (.slice ak ae.length cn.length) := (Qd ab.out 0).trans rfl; have kf : w25.cell? ⟨ag, 1, none⟩ = some (.slice aj af.length ck.length) := (Qd ab.out 1).trans rfl; have j7 := Qc ab.out 0; have j6 := Qc ab.out 1; obtain ⟨oZ, oW, pP⟩ := Kd.VW ba.out; subst pP) | (go_at_call 19; (with_reducible refine (QB.calls k _ _ t102 _ _ cn false _ ?ah ?ai ?aq ?ar A6.out).mono ?_); (case ah => exact (Kd.Yt ba.out).2.2); (case ai => exact (Kd.Yt ba.out).2.1); (case aq => exact (Kd.Qq mY.out HB.out)); (case ar => exact aA.out); rintro e w' ⟨rfl, ⟨nd, rfl⟩⟩))
   go_ret; exact ⟨by first | rfl | (simp [Qk, Qj] <;> rfl) | (simp [*, Qk, Qj] <;> rfl), bB⟩
 ·replace c5 := Bool.eq_false_iff.mpr c5; subst c5; have H1 : (some false) = some r := by rw [if_neg (show ¬ (false = true) by decide)] at H; exact H
  clear H; have H := H1; clear H1; obtain rfl := Option.some.inj H; go_enter Try.func14, Try.ntmps14; go_wp2_with (first | ((with_reducible refine QN (N := 1) rfl ?_); refine Q3 ?hg (N := 1) ?hd (cs := #[.slice ak ae.length cn.length, .slice aj af.length ck.length]) (t := 24) ?hr ?_; (case hd => rfl); (case hg => rfl); (case hr => first | (go_simp; done) | (go_simp; rfl)); intro ag hg w28 hbox hb; have ab := aa.mk (hbox); have bh := aa.mk ((by rw [hg]; exact (Qb bB) : w.heap.size ≤ ag)); have aT := aa.mk ((by rw [hg]; exact (Qb bB) : w.heap.size ≤ ag)); replace HB := aa.mk (Qa bB hb); clear hb hbox hg; have iS : w28.cell? ⟨ag, 0, none⟩ = some (.slice ak ae.length cn.length) := (Qd ab.out 0).trans rfl; have iR : w28.cell? ⟨ag, 1, none⟩ = some (.slice aj af.length ck.length) := (Qd ab.out 1).trans rfl; have iO := Qc ab.out 0; have iN := Qc ab.out 1) | ((with_reducible refine Qh (f := 17) rfl ?_); refine QG (some 7) rfl rfl Try.func17 (by kernel_rfl) rfl #[.slice ak ae.length cn.length] rfl hA ?_; (with_reducible refine (QJ.calls k _ _ cn t102 _ ?ah ?ai A2.out).mono ?_); (case ah => exact (Kd.Qq mY.out HB.out)); (case ai => exact aA.out); rintro e w30 ⟨gG, rfl, ho0, hb⟩; refine ⟨_, rfl, ?_⟩; have ba := aa.mk (Kd.YQ ho0 (Qb bB)); replace ab := aa.mk (Qp ab.out hb); replace HB := aa.mk (Qa bB hb); (try clear hb); (try clear hb2); (try clear hk); (try clear hi); (try clear ho0); have q7 : w30.cell? ⟨ag, 0, none⟩ = some (.slice ak ae.length cn.length) := (Qd ab.out 0).trans rfl; have q6 : w30.cell? ⟨ag, 1, none⟩ = some (.slice aj af.length ck.length) := (Qd ab.out 1).trans rfl; have qS := Qc ab.out 0; have qR := Qc ab.out 1) | ((with_reducible refine Qh (f := 17) rfl ?_); refine QG (some 10) rfl rfl Try.func17 (by kernel_rfl) rfl #[.slice aj af.length ck.length] rfl hA ?_; (with_reducible refine (QJ.calls k _ _ ck t105 _ ?ah ?ai A3.out).mono ?_); (case ah => exact (Kd.Qq oH.out HB.out)); (case ai => exact aC.out); rintro e w32 ⟨ik, rfl, ho0, hb⟩; refine ⟨_, rfl, ?_⟩; have bY := aa.mk (Kd.YQ (Kd.S_new' ho0 (Kd.S_lt ba.out)) (Qb bB)); replace ba := aa.mk (Kd.Vo ba.out (Kd.S_base ho0) hb); replace ab := aa.mk (Qp ab.out hb); replace HB := aa.mk (Qa bB hb); (try clear hb); (try clear hb2); (try clear hk); (try clear hi); (try clear ho0); have yf : w32.cell? ⟨ag, 0, none⟩ = some (.slice ak ae.length cn.length) := (Qd ab.out 0).trans rfl; have ye : w32.cell? ⟨ag, 1, none⟩ = some (.slice aj af.length ck.length) := (Qd ab.out 1).trans rfl; have xN := Qc ab.out 0; have xM := Qc ab.out 1) | ((with_reducible refine Qh (f := 32) rfl ?_); refine QG (some 12) rfl rfl Try.func32 (by kernel_rfl) rfl #[.agg #[.slice ak ae.length cn.length, .slice aj af.length ck.length]] rfl hA ?_; (with_reducible refine (Qf.calls k _ _ ae _ _ af false _ ?ah ?ai ?aq ?ar A4.out).mono ?_); (case ah => exact (Kd.Qq ay.out HB.out)); (case ai => exact aA.out); (case aq => exact (Kd.Qq az.out HB.out)); (case ar => exact aC.out); rintro e w34 ⟨rfl, hb⟩; refine ⟨_, rfl, ?_⟩; replace ba := aa.mk (Kd.Vc ba.out hb); replace bY := aa.mk (Kd.Vc bY.out hb); replace ab := aa.mk (Qp ab.out hb); replace HB := aa.mk (Qa bB hb); (try clear hb); (try clear hb2); (try clear hk); (try clear hi)))
  go_ret; exact ⟨by first | rfl | (simp [Qk, Qj] <;> rfl) | (simp [*, Qk, Qj] <;> rfl), bB⟩
end Go.Proofs.Ytdneelgnmnpanaa.P
end
section
namespace Go.Proofs.Ytdneelgnmnpanaa.P
open Go.RowKit Go.Proofs.YtdneelgnmnpanaaW.PrintWords
theorem ZA {n m : Nat} (h : n < m) (hm : m ≤ 9223372036854775807) : wrap64 ((n : Int) + 1) = ((n + 1 : Nat) : Int) := by
  rw [wrp (by omega) (by omega)]; omega
theorem rdn (l : List Int) (n : Nat) : rd l (n : Int) = l.getD n 0 := by simp [rd]
theorem rdL (l : List (List Int)) (n : Nat) : Qu l (n : Int) = l.getD n [] := by simp [Qu]
theorem rdL0 (l : List (List Int)) : Qu l 0 = l.getD 0 [] := rdL l 0
theorem Zb {α : Type} (l : List α) (n : Nat) (d : α) (h : n < l.length) : l.getD n d = l[n] := by
  rw [List.getD_eq_getElem?_getD, List.getElem?_eq_getElem h]; rfl
def Sh (I O : List (List Int)) : Prop := I.length ≤ 50 ∧ O.length ≤ 50 ∧ ∀ r ∈ I ++ O, r.length ≤ 50
theorem long_l1 (I O : List (List Int)) (hO : O.length ≤ 50) : ∀ (d n : Nat), n + d = O.length → ∃ b, Ev (fun k => QF.l1 k (n : Int) I O) b ∧ (b = false → ∀ r ∈ O.drop n, r.length ≤ 50) := by
  intro d; induction d with
  | zero =>
    intro n hn; refine ⟨false, Ev.step (fun k => by rw [QF.l1]) ?_, fun _ => by rw [List.drop_eq_nil_of_le (by omega)]; simp⟩; simp only [show ¬ ((n : Int) < (O.length : Int)) by omega, if_false]; exact Ev.now _
  | succ d ih =>
    intro n hn; have hlt : n < O.length := by omega
    obtain ⟨b, hb, hf⟩ := ih (n + 1) (by omega); by_cases hl : ((O.getD n []).length : Int) > 50
    · refine ⟨true, Ev.step (fun k => by rw [QF.l1]) ?_, fun h => by cases h⟩; simp only [show ((n : Int) < (O.length : Int)) by omega, show (0 : Int) ≤ (n : Int) by omega, if_true, rdL, hl]; exact Ev.now _
    · refine ⟨b, Ev.step (fun k => by rw [QF.l1]) ?_, fun h => ?_⟩
      · simp only [show ((n : Int) < (O.length : Int)) by omega, show (0 : Int) ≤ (n : Int) by omega, if_true, rdL, hl, if_false]; rw [ZA (m := O.length) hlt (by omega)]; exact hb
      · rw [List.drop_eq_getElem_cons hlt]; intro r hr; rcases List.mem_cons.1 hr with rfl | hr
        · rw [Zb _ _ _ hlt] at hl; omega
        · exact hf h r hr
theorem long_l0 (I O : List (List Int)) (hI : I.length ≤ 50) (hO : O.length ≤ 50) : ∀ (d n : Nat), n + d = I.length → ∃ b, Ev (fun k => QF.l0 k (n : Int) I O) b ∧ (b = false → (∀ r ∈ I.drop n, r.length ≤ 50) ∧ ∀ r ∈ O, r.length ≤ 50) := by
  intro d; induction d with
  | zero =>
    intro n hn; obtain ⟨b, hb, hf⟩ := long_l1 I O hO O.length 0 (by omega); refine ⟨b, Ev.step (fun k => by rw [QF.l0]) ?_, fun h => ⟨by rw [List.drop_eq_nil_of_le (by omega)]; simp, by have := hf h; rwa [List.drop_zero] at this⟩⟩; simp only [show ¬ ((n : Int) < (I.length : Int)) by omega, if_false]; exact hb
  | succ d ih =>
    intro n hn; have hlt : n < I.length := by omega
    obtain ⟨b, hb, hf⟩ := ih (n + 1) (by omega); by_cases hl : ((I.getD n []).length : Int) > 50
    · refine ⟨true, Ev.step (fun k => by rw [QF.l0]) ?_, fun h => by cases h⟩; simp only [show ((n : Int) < (I.length : Int)) by omega, show (0 : Int) ≤ (n : Int) by omega, if_true, rdL, hl]; exact Ev.now _
    · refine ⟨b, Ev.step (fun k => by rw [QF.l0]) ?_, fun h => ⟨?_, (hf h).2⟩⟩
      · simp only [show ((n : Int) < (I.length : Int)) by omega, show (0 : Int) ≤ (n : Int) by omega, if_true, rdL, hl, if_false]; rw [ZA (m := I.length) hlt (by omega)]; exact hb
      · rw [List.drop_eq_getElem_cons hlt]; intro r hr; rcases List.mem_cons.1 hr with rfl | hr
        · rw [Zb _ _ _ hlt] at hl; omega
        · exact (hf h).1 r hr
theorem long_ev (I O : List (List Int)) : ∃ b, Ev (fun k => QF.f k I O) b ∧ (b = false → Sh I O) := by
  unfold QF.f; by_cases h1 : (I.length : Int) > 50
  · refine ⟨true, ?_, fun h => by cases h⟩; simp only [h1, if_true]; refine Ev.step (fun k => by rw [QF.j0]) ?_; simp only [if_true]; exact Ev.now _
  · by_cases h2 : (O.length : Int) > 50
    · refine ⟨true, ?_, fun h => by cases h⟩; simp only [h1, if_false, h2, decide_true]; refine Ev.step (fun k => by rw [QF.j0]) ?_; simp only [if_true]; exact Ev.now _
    · obtain ⟨b, hb, hf⟩ := long_l0 I O (by omega) (by omega) I.length 0 (by omega); refine ⟨b, ?_, fun h => ⟨by omega, by omega, fun r hr => ?_⟩⟩
      · simp only [h1, if_false, h2, decide_false]; refine Ev.step (fun k => by rw [QF.j0]) ?_; simp only [Bool.false_eq_true, if_false]; exact hb
      · have := hf h; rw [List.drop_zero] at this; rcases List.mem_append.1 hr with hr | hr
        · exact this.1 r hr
        · exact this.2 r hr
def inR (lo hi : Int) (l : List Int) : Bool := l.all fun x => decide (lo ≤ x ∧ x ≤ hi)
def okr (n : Nat) (c : List Int) : Bool := decide (c.length = n) && (inR 0 9 c && !c.all (fun x => decide (x = 0)))
def vsz (I O : List (List Int)) : Bool := decide (1 ≤ I.length ∧ I.length ≤ 3) && (decide (1 ≤ O.length ∧ O.length ≤ 3) && decide (1 ≤ (I.getD 0 []).length ∧ (I.getD 0 []).length ≤ 4))
def vl (I O : List (List Int)) : Int := if vsz I O = true ∧ (I ++ O).all (okr (I.getD 0 []).length) = true then 0 else 1
theorem all_eq (l : List Int) (a lo hi : Int) (h : l.length ≤ 1000) : Zp.f l a lo hi = some (decide ((l.length : Int) = a) && inR lo hi l) := by
  unfold Zp.f; rw [if_pos h]; congr 2; unfold inR; induction l with
  | nil => rfl
  | cons x l ih =>
    rw [List.any_cons, List.all_cons, Bool.not_or, ih (by simp at h; omega)]; simp [bad]
theorem rwithin (n lo hi : Int) : QP.f n lo hi = some (decide (lo ≤ n ∧ n ≤ hi)) := by
  unfold QP.f; by_cases h : n ≥ lo
  · simp [h]
  · simp [h]
theorem max_l0 (c : List Int) (hc : c.length ≤ 1000) : ∀ (d n : Nat) (m : Int), n + d = c.length → Ev (fun k => Qy.l0 k c m (n : Int)) ((c.drop n).foldl mx m) := by
  intro d; induction d with
  | zero =>
    intro n m hn; refine Ev.step (fun k => by rw [Qy.l0]) ?_; simp only [show ¬ ((n : Int) < (c.length : Int)) by omega, if_false]; rw [List.drop_eq_nil_of_le (by omega)]; exact Ev.now _
  | succ d ih =>
    intro n m hn; have hlt : n < c.length := by omega
    refine Ev.step (fun k => by rw [Qy.l0]) ?_; simp only [show ((n : Int) < (c.length : Int)) by omega, show (0 : Int) ≤ (n : Int) by omega, if_true, rdn]; rw [ZA (m := c.length) hlt (by omega), List.drop_eq_getElem_cons hlt, List.foldl_cons, Zb _ _ _ hlt]; exact ih (n + 1) _ (by omega)
theorem max_ev (c : List Int) (hc : c.length ≤ 1000) (h1 : 1 ≤ c.length) : Ev (fun k => Qy.f k c) ((c.drop 1).foldl mx (c.getD 0 0)) := by
  unfold Qy.f; simp only [show ¬ ((c.length : Int) < 1) by omega, if_false]; refine Ev.step (fun k => by rw [Qy.j0]) ?_; simp only [show (0 : Int) < (c.length : Int) by omega, if_true]; have := max_l0 c hc (c.length - 1) 1 (rd c 0) (by omega); rw [show rd c 0 = c.getD 0 0 from rdn c 0] at this ⊢; exact this
theorem max_zero : ∀ (l : List Int) (m : Int), 0 ≤ m → (∀ x ∈ l, 0 ≤ x) → (l.foldl mx m = 0 ↔ m = 0 ∧ ∀ x ∈ l, x = 0)
  | [], m, _, _ => by simp
  | x :: l, m, hm, h => by
    have hx := h x (List.mem_cons_self ..); rw [List.foldl_cons, max_zero l (mx m x) (by unfold mx; split <;> omega) (fun y hy => h y (List.mem_cons_of_mem _ hy))]; have : mx m x = 0 ↔ m = 0 ∧ x = 0 := by unfold mx; split <;> omega
    rw [this]; simp [and_assoc]
theorem val_l0 (I O : List (List Int)) (hI : 0 < I.length) (hn1 : 1 ≤ (I.getD 0 []).length) (L : List (List Int)) (hL : L.length ≤ 1000) (hr : ∀ r ∈ L, r.length ≤ 50) : ∀ (d n : Nat), n + d = L.length →
    Ev (fun k => Ql.l0 k L (L.length : Int) (n : Int) I O) (if (L.drop n).all (okr (I.getD 0 []).length) = true then 0 else 1) := by
  intro d; induction d with
  | zero =>
    intro n hn; refine Ev.step (fun k => by rw [Ql.l0]) ?_; simp only [show ¬ ((n : Int) < (L.length : Int)) by omega, if_false]; rw [List.drop_eq_nil_of_le (by omega)]; exact Ev.now _
  | succ d ih =>
    intro n hn; have hlt : n < L.length := by omega
    have hrl := hr _ (List.getElem_mem hlt); refine Ev.step (fun k => by rw [Ql.l0]) ?_; simp only [show ((n : Int) < (L.length : Int)) by omega, show (0 : Int) ≤ (n : Int) by omega, show (0 : Int) < (I.length : Int) by omega, if_true, rdL, rdL0]; rw [List.drop_eq_getElem_cons hlt, List.all_cons, Zb L n _ hlt, ZA (m := L.length) hlt (by omega)]; generalize L[n] = c at hrl; refine Ev.bind (Ev.congr (fun k => all_eq c _ 0 9 (by omega)) (Ev.now _)) ?_; unfold okr; rw [show decide ((c.length : Int) = ((I.getD 0 []).length : Int)) = decide (c.length = (I.getD 0 []).length) from by congr 1; exact propext (by omega)]; by_cases h1 : c.length = (I.getD 0 []).length
    · by_cases h2 : inR 0 9 c = true
      · simp only [h1, h2, decide_true, Bool.true_and, if_true]; refine Ev.bind (max_ev c (by omega) (by omega)) ?_; have hpos : ∀ x ∈ c, 0 ≤ x := fun x hx => (of_decide_eq_true (List.all_eq_true.1 h2 x hx)).1
        have hc0 : 0 < c.length := by omega
        have hz := max_zero (c.drop 1) (c.getD 0 0) (by rw [Zb c 0 _ hc0]; exact hpos _ (List.getElem_mem hc0)) (fun x hx => hpos x (List.mem_of_mem_drop hx)); have hall : c.all (fun x => decide (x = 0)) = true ↔ c.getD 0 0 = 0 ∧ ∀ x ∈ c.drop 1, x = 0 := by
          rw [Zb c 0 _ hc0]; constructor
          · intro h; have h' := fun x hx => of_decide_eq_true (List.all_eq_true.1 h x hx)
            exact ⟨h' _ (List.getElem_mem hc0), fun x hx => h' x (List.mem_of_mem_drop hx)⟩
          · rintro ⟨ha, hb⟩; refine List.all_eq_true.2 fun x hx => decide_eq_true ?_
            have hcd : c = c[0] :: c.drop 1 := by
              have := List.drop_eq_getElem_cons hc0; rwa [List.drop_zero] at this
            rw [hcd] at hx; rcases List.mem_cons.1 hx with rfl | hx
            · exact ha
            · exact hb x hx
        by_cases h3 : (c.drop 1).foldl mx (c.getD 0 0) = 0
        · have h4 := hall.2 (hz.1 h3); simp only [h3, h4, if_true, Bool.not_true, Bool.false_and, Bool.false_eq_true, if_false]; exact Ev.now _
        · have h4 : c.all (fun x => decide (x = 0)) = false := by
            cases hq : c.all (fun x => decide (x = 0)) with
            | true => exact absurd (hz.2 (hall.1 hq)) h3
            | false => rfl
          simp only [h3, h4, if_false, Bool.not_false, Bool.true_and]; exact ih (n + 1) (by omega)
      · simp only [h1, Bool.not_eq_true] at h2 ⊢; simp only [h2, decide_true, Bool.true_and, Bool.false_and, Bool.false_eq_true, if_false]; exact Ev.now _
    · simp only [h1, decide_false, Bool.false_and, Bool.false_eq_true, if_false]; exact Ev.now _
theorem Js {I O : List (List Int)} (h : Sh I O) : Ev (fun k => Ql.f k I O) (vl I O) := by
  obtain ⟨s1, s2, s3⟩ := h; unfold Ql.f vl vsz; have hno : ∀ (k : Nat), Ql.j0 (k + 1) true I O = some 1 := fun k => by rw [Ql.j0]; rfl
  have hnoE : Ev (fun k => Ql.j0 k true I O) 1 := Ev.step hno (Ev.now _); refine Ev.bind (Ev.congr (fun k => within _ 1 3) (Ev.now _)) ?_; by_cases h1 : 1 ≤ I.length ∧ I.length ≤ 3
  · have h1' : (1 : Int) ≤ (I.length : Int) ∧ (I.length : Int) ≤ 3 := by omega
    simp only [h1, h1', and_self, decide_true, if_true, Bool.true_and]; refine Ev.bind (Ev.congr (fun k => within _ 1 3) (Ev.now _)) ?_; by_cases h2 : 1 ≤ O.length ∧ O.length ≤ 3
    · have h2' : (1 : Int) ≤ (O.length : Int) ∧ (O.length : Int) ≤ 3 := by omega
      simp only [h2, h2', and_self, decide_true, if_true, Bool.true_and, show (0 : Int) < (I.length : Int) by omega, rdL0]; refine Ev.bind (Ev.congr (fun k => within _ 1 4) (Ev.now _)) ?_; by_cases h3 : 1 ≤ (I.getD 0 []).length ∧ (I.getD 0 []).length ≤ 4
      · have h3' : (1 : Int) ≤ ((I.getD 0 []).length : Int) ∧ ((I.getD 0 []).length : Int) ≤ 4 := by omega
        simp only [h3, h3', and_self, decide_true, Bool.not_true, true_and]; refine Ev.step (fun k => by rw [Ql.j0]) ?_; simp only [Bool.false_eq_true, if_false]; have hcc : Zo.f I O = some (I ++ O) := by unfold Zo.f; rw [if_pos (by omega)]
        simp only [hcc, Option.bind_some]; have := val_l0 I O (by omega) h3.1 (I ++ O) (by simp; omega) s3 (I ++ O).length 0 (by omega); rw [List.drop_zero] at this; exact this
      · have h3' : ¬ ((1 : Int) ≤ ((I.getD 0 []).length : Int) ∧ ((I.getD 0 []).length : Int) ≤ 4) := by omega
        simp only [h3, h3', decide_false, Bool.not_false, Bool.false_eq_true, false_and, if_false]; exact hnoE
    · have h2' : ¬ ((1 : Int) ≤ (O.length : Int) ∧ (O.length : Int) ≤ 3) := by omega
      simp only [h2, h2', decide_false, Bool.false_eq_true, if_false, Bool.false_and, false_and]; exact hnoE
  · have h1' : ¬ ((1 : Int) ≤ (I.length : Int) ∧ (I.length : Int) ≤ 3) := by omega
    simp only [h1, h1', decide_false, Bool.false_eq_true, if_false, Bool.false_and, false_and]; exact hnoE
theorem keepInts (q : List Int) (h : q.length * 8 ≤ reachBytes) : ZL.f q = some q := by
  have : reachBytes < 2 ^ 47 := reachBytes_lt; unfold ZL.f; simp only [Option.bind_some, List.length_nil, List.nil_append]; rw [if_pos (by omega)]
theorem keptInts_l (q : List Int) (h : q.length ≤ 9223372036854775807) : ∀ d n : Nat, n + d = q.length → Ev (fun k => QW.l0 k q q (n : Int)) true := by
  intro d; induction d with
  | zero =>
    intro n hn; refine Ev.step (fun k => by rw [QW.l0]) ?_; simp only [show ¬ ((n : Int) < (q.length : Int)) by omega, if_false]; exact Ev.now _
  | succ d ih =>
    intro n hn; refine Ev.step (fun k => by rw [QW.l0]) ?_; simp only [show ((n : Int) < (q.length : Int)) by omega, show (0 : Int) ≤ (n : Int) by omega, if_true]; rw [ZA (m := q.length) (by omega) h]; exact ih (n + 1) (by omega)
theorem keptInts (q : List Int) (h : q.length * 8 ≤ reachBytes) : Ev (fun k => QW.f k q q) true := by
  have : reachBytes < 2 ^ 47 := reachBytes_lt; unfold QW.f; simp only [if_true]; exact keptInts_l q (by omega) q.length 0 (by omega)
theorem keepTable_l (Q : List (List Int)) (h : Q.length * 24 ≤ reachBytes) (hq : ∀ q ∈ Q, q.length * 8 ≤ reachBytes) : ∀ (d n : Nat) (out : List (List Int)), n + d = Q.length → out.length ≤ n → Ev (fun k => QJ.l0 k Q out (n : Int)) (out ++ Q.drop n) := by
  have hr : reachBytes < 2 ^ 47 := reachBytes_lt; intro d; induction d with
  | zero =>
    intro n out hn ho; refine Ev.step (fun k => by rw [QJ.l0]) ?_; simp only [show ¬ ((n : Int) < (Q.length : Int)) by omega, if_false]; rw [List.drop_eq_nil_of_le (by omega), List.append_nil]; exact Ev.now _
  | succ d ih =>
    intro n out hn ho; have hlt : n < Q.length := by omega
    refine Ev.step (fun k => by rw [QJ.l0]) ?_; simp only [show ((n : Int) < (Q.length : Int)) by omega, show (0 : Int) ≤ (n : Int) by omega, if_true, rdL, Zb Q n _ hlt, keepInts _ (hq _ (List.getElem_mem hlt)), Option.bind_some, show out.length < 5864062014805 by omega]; rw [ZA (m := Q.length) hlt (by omega), List.drop_eq_getElem_cons hlt]; have := ih (n + 1) (out ++ [Q[n]]) (by omega) (by simp; omega); rw [List.append_assoc] at this; exact this
theorem keepTable (Q : List (List Int)) (h : Q.length * 24 ≤ reachBytes) (hq : ∀ q ∈ Q, q.length * 8 ≤ reachBytes) : Ev (fun k => QJ.f k Q) Q := by
  unfold QJ.f; have := keepTable_l Q h hq Q.length 0 [] (by omega) (by simp); rw [List.drop_zero, List.nil_append] at this; exact this
theorem keptTable_l (Q : List (List Int)) (h : Q.length * 24 ≤ reachBytes) (hq : ∀ q ∈ Q, q.length * 8 ≤ reachBytes) : ∀ d n : Nat, n + d = Q.length → Ev (fun k => QB.l0 k Q Q (n : Int)) true := by
  have hr : reachBytes < 2 ^ 47 := reachBytes_lt; intro d; induction d with
  | zero =>
    intro n hn; refine Ev.step (fun k => by rw [QB.l0]) ?_; simp only [show ¬ ((n : Int) < (Q.length : Int)) by omega, if_false]; exact Ev.now _
  | succ d ih =>
    intro n hn; have hlt : n < Q.length := by omega
    refine Ev.step (fun k => by rw [QB.l0]) ?_; simp only [show ((n : Int) < (Q.length : Int)) by omega, show (0 : Int) ≤ (n : Int) by omega, if_true, rdL, Zb Q n _ hlt]; refine Ev.bind (keptInts _ (hq _ (List.getElem_mem hlt))) ?_; simp only [if_true]; rw [ZA (m := Q.length) hlt (by omega)]; exact ih (n + 1) (by omega)
theorem keptTable (Q : List (List Int)) (h : Q.length * 24 ≤ reachBytes) (hq : ∀ q ∈ Q, q.length * 8 ≤ reachBytes) : Ev (fun k => QB.f k Q Q) true := by
  unfold QB.f; simp only [if_true]; exact keptTable_l Q h hq Q.length 0 (by omega)
theorem sum_zero : ∀ (l : List Int), (∀ x ∈ l, 0 ≤ x) → 0 ≤ l.sum ∧ (l.sum = 0 ↔ ∀ x ∈ l, x = 0)
  | [], _ => by simp
  | x :: l, h => by
    have hx := h x (List.mem_cons_self ..); obtain ⟨h1, h2⟩ := sum_zero l (fun y hy => h y (List.mem_cons_of_mem _ hy)); rw [List.sum_cons]; refine ⟨by omega, ?_⟩; rw [List.forall_mem_cons, ← h2]; omega
theorem rval_l1 (I O : List (List Int)) (L : List (List Int)) (n : Nat) (hn : n < L.length) (hr : L[n].length ≤ 50) (R : Int) (hR : Ev (fun k => Qe.l0 k L (wrap64 ((n : Int) + 1)) I O) R) : ∀ (d j : Nat) (s : Int), j + d = L[n].length → 0 ≤ s → s ≤ 9 * (j : Int) →
    Ev (fun k => Qe.l1 k L (n : Int) s (j : Int) I O) (if inR 0 9 (L[n].drop j) = true then (if s + (L[n].drop j).sum = 0 then 1 else R) else 1) := by
  intro d; induction d with
  | zero =>
    intro j s hj h0 h9; refine Ev.step (fun k => by rw [Qe.l1]) ?_; simp only [show (0 : Int) ≤ (n : Int) by omega, show (n : Int) < (L.length : Int) by omega, if_true, rdL, Zb L n _ hn, show ¬ ((j : Int) < (L[n].length : Int)) by omega, if_false]; rw [List.drop_eq_nil_of_le (by omega)]; simp only [inR, List.all_nil, if_true, List.sum_nil, Int.add_zero]; by_cases h : s = 0
    · simp only [h, if_true]; exact Ev.now _
    · simp only [h, if_false]; exact hR
  | succ d ih =>
    intro j s hj h0 h9; have hlt : j < L[n].length := by omega
    refine Ev.step (fun k => by rw [Qe.l1]) ?_; simp only [show (0 : Int) ≤ (n : Int) by omega, show (n : Int) < (L.length : Int) by omega, if_true, rdL, Zb L n _ hn, show ((j : Int) < (L[n].length : Int)) by omega, show (0 : Int) ≤ (j : Int) by omega, rdn, Zb L[n] j _ hlt]; refine Ev.bind (Ev.congr (fun k => rwithin _ 0 9) (Ev.now _)) ?_; rw [List.drop_eq_getElem_cons hlt, ZA (m := L[n].length) hlt (by omega)]; by_cases h : 0 ≤ L[n][j] ∧ L[n][j] ≤ 9
    · rw [wrp (x := s + L[n][j]) (by omega) (by omega)]; have := ih (j + 1) (s + L[n][j]) (by omega) (by omega) (by omega); simp only [h, and_self, decide_true, if_true, inR, List.all_cons, Bool.true_and, List.sum_cons, ← Int.add_assoc]; exact this
    · simp only [h, decide_false, Bool.false_eq_true, if_false, inR, List.all_cons, Bool.false_and]; exact Ev.now _
theorem rval_l0 (I O : List (List Int)) (hI : 0 < I.length) (L : List (List Int)) (hL : L.length ≤ 1000) (hr : ∀ r ∈ L, r.length ≤ 50) : ∀ (d n : Nat), n + d = L.length →
    Ev (fun k => Qe.l0 k L (n : Int) I O) (if (L.drop n).all (okr (I.getD 0 []).length) = true then 0 else 1) := by
  intro d; induction d with
  | zero =>
    intro n hn; refine Ev.step (fun k => by rw [Qe.l0]) ?_; simp only [show ¬ ((n : Int) < (L.length : Int)) by omega, if_false]; rw [List.drop_eq_nil_of_le (by omega)]; exact Ev.now _
  | succ d ih =>
    intro n hn; have hlt : n < L.length := by omega
    have hrl := hr _ (List.getElem_mem hlt); have h1 := rval_l1 I O L n hlt hrl _ (by rw [ZA (m := L.length) hlt (by omega)]; exact ih (n + 1) (by omega)) L[n].length 0 0 (by omega) (by omega) (by omega); refine Ev.step (fun k => by rw [Qe.l0]) ?_; simp only [show ((n : Int) < (L.length : Int)) by omega, show (0 : Int) ≤ (n : Int) by omega, show (0 : Int) < (I.length : Int) by omega, if_true, rdL, rdL0]; rw [List.drop_eq_getElem_cons hlt, List.all_cons, Zb L n _ hlt]; rw [List.drop_zero, Int.zero_add] at h1; unfold okr; by_cases c1 : L[n].length = (I.getD 0 []).length
    · simp only [show ((L[n].length : Int) = ((I.getD 0 []).length : Int)) by omega, if_true, c1, decide_true, Bool.true_and]; by_cases c2 : inR 0 9 L[n] = true
      · have hpos : ∀ x ∈ L[n], 0 ≤ x := fun x hx => (of_decide_eq_true (List.all_eq_true.1 c2 x hx)).1
        obtain ⟨-, hz⟩ := sum_zero _ hpos; simp only [c2, if_true] at h1; simp only [c2, Bool.true_and]; by_cases c3 : L[n].sum = 0
        · have c4 : L[n].all (fun x => decide (x = 0)) = true := List.all_eq_true.2 fun x hx => decide_eq_true (hz.1 c3 x hx)
          simp only [c3, if_true] at h1; simp only [c4, Bool.not_true, Bool.false_and, Bool.false_eq_true, if_false]; exact h1
        · have c4 : L[n].all (fun x => decide (x = 0)) = false := by
            cases hq : L[n].all (fun x => decide (x = 0)) with
            | true => exact absurd (hz.2 (fun x hx => of_decide_eq_true (List.all_eq_true.1 hq x hx))) c3
            | false => rfl
          simp only [c3, if_false] at h1; simp only [c4, Bool.not_false, Bool.true_and]; exact h1
      · simp only [c2, if_false] at h1; rw [Bool.not_eq_true] at c2; simp only [c2, Bool.false_and, Bool.false_eq_true, if_false]; exact h1
    · simp only [show ¬ ((L[n].length : Int) = ((I.getD 0 []).length : Int)) by omega, if_false, c1, decide_false, Bool.false_and, Bool.false_eq_true]; exact Ev.now _
theorem Jx {I O : List (List Int)} (h : Sh I O) : Ev (fun k => Qe.f k I O) (vl I O) := by
  obtain ⟨s1, s2, s3⟩ := h; unfold Qe.f vl vsz; have hnoE : Ev (fun k => Qe.j0 k true I O) 1 := Ev.step (fun k => by rw [Qe.j0]) (by simp only [if_true]; exact Ev.now _); refine Ev.bind (Ev.congr (fun k => rwithin _ 1 3) (Ev.now _)) ?_; by_cases h1 : 1 ≤ I.length ∧ I.length ≤ 3
  · have h1' : (1 : Int) ≤ (I.length : Int) ∧ (I.length : Int) ≤ 3 := by omega
    simp only [h1, h1', and_self, decide_true, if_true, Bool.true_and]; refine Ev.bind (Ev.congr (fun k => rwithin _ 1 3) (Ev.now _)) ?_; by_cases h2 : 1 ≤ O.length ∧ O.length ≤ 3
    · have h2' : (1 : Int) ≤ (O.length : Int) ∧ (O.length : Int) ≤ 3 := by omega
      simp only [h2, h2', and_self, decide_true, if_true, Bool.true_and, show (0 : Int) < (I.length : Int) by omega, rdL0]; refine Ev.bind (Ev.congr (fun k => rwithin _ 1 4) (Ev.now _)) ?_; by_cases h3 : 1 ≤ (I.getD 0 []).length ∧ (I.getD 0 []).length ≤ 4
      · have h3' : (1 : Int) ≤ ((I.getD 0 []).length : Int) ∧ ((I.getD 0 []).length : Int) ≤ 4 := by omega
        simp only [h3, h3', and_self, decide_true, Bool.not_true, true_and]; refine Ev.step (fun k => by rw [Qe.j0]) ?_; simp only [Bool.false_eq_true, if_false, Option.bind_some, List.length_nil, List.nil_append, show 0 + I.length < 5864062014805 by omega, show I.length + O.length < 5864062014805 by omega, if_true]; have := rval_l0 I O (by omega) (I ++ O) (by simp; omega) s3 (I ++ O).length 0 (by omega); rw [List.drop_zero] at this; exact this
      · have h3' : ¬ ((1 : Int) ≤ ((I.getD 0 []).length : Int) ∧ ((I.getD 0 []).length : Int) ≤ 4) := by omega
        simp only [h3, h3', decide_false, Bool.not_false, Bool.false_eq_true, false_and, if_false]; exact hnoE
    · have h2' : ¬ ((1 : Int) ≤ (O.length : Int) ∧ (O.length : Int) ≤ 3) := by omega
      simp only [h2, h2', decide_false, Bool.false_eq_true, if_false, Bool.false_and, false_and]; exact hnoE
  · have h1' : ¬ ((1 : Int) ≤ (I.length : Int) ∧ (I.length : Int) ≤ 3) := by omega
    simp only [h1, h1', decide_false, Bool.false_eq_true, if_false, Bool.false_and, false_and]; exact hnoE
theorem islist_l0 (l : List Int) (lo hi : Int) (hl : l.length ≤ 1000) : ∀ (d n : Nat), n + d = l.length → Ev (fun k => Q7.l0 k l (l.length : Int) lo hi (n : Int)) (inR lo hi (l.drop n)) := by
  intro d; induction d with
  | zero =>
    intro n hn; refine Ev.step (fun k => by rw [Q7.l0]) ?_; simp only [show ¬ ((n : Int) < (l.length : Int)) by omega, if_false]; rw [List.drop_eq_nil_of_le (by omega)]; exact Ev.now _
  | succ d ih =>
    intro n hn; have hlt : n < l.length := by omega
    refine Ev.step (fun k => by rw [Q7.l0]) ?_; simp only [show ((n : Int) < (l.length : Int)) by omega, show (0 : Int) ≤ (n : Int) by omega, if_true, rdn, Zb l n _ hlt]; refine Ev.bind (Ev.congr (fun k => rwithin _ lo hi) (Ev.now _)) ?_; rw [List.drop_eq_getElem_cons hlt, ZA (m := l.length) hlt (by omega)]; unfold inR; rw [List.all_cons]; by_cases h : lo ≤ l[n] ∧ l[n] ≤ hi
    · simp only [h, and_self, decide_true, if_true, Bool.true_and]; exact ih (n + 1) (by omega)
    · simp only [h, decide_false, Bool.false_eq_true, if_false, Bool.false_and]; exact Ev.now _
theorem islist_ev (l : List Int) (a lo hi : Int) (hl : l.length ≤ 1000) : Ev (fun k => Q7.f k l a lo hi) (decide ((l.length : Int) = a) && inR lo hi l) := by
  unfold Q7.f; by_cases h : (l.length : Int) = a
  · subst h; simp only [if_true, decide_true, Bool.true_and]; have := islist_l0 l lo hi hl l.length 0 (by omega); rw [List.drop_zero] at this; exact this
  · simp only [h, if_false, decide_false, Bool.false_and]; exact Ev.now _
def lerr (n : Nat) (lo hi : Int) (l : List Int) : Int := if l.length = n ∧ inR lo hi l = true then 0 else 1
theorem lerr_of (l : List Int) (n : Nat) (lo hi : Int) (a : Int) (ha : a = (n : Int)) : (if (decide ((l.length : Int) = a) && inR lo hi l) = true then (some (0 : Int)) else some 1) = some (lerr n lo hi l) := by
  subst ha; unfold lerr; by_cases h : l.length = n
  · subst h; cases inR lo hi l <;> simp
  · have : ¬ ((l.length : Int) = (n : Int)) := by omega
    simp [h, this]
def tm (I O : List (List Int)) (t : List Int) : Int := if vl I O = 0 then lerr (I.length + O.length) (-1000000) 1000000 t else vl I O
theorem Ye {I O : List (List Int)} (h : vl I O = 0) : 1 ≤ I.length ∧ I.length ≤ 3 ∧ 1 ≤ O.length ∧ O.length ≤ 3 ∧ 1 ≤ (I.getD 0 []).length ∧ (I.getD 0 []).length ≤ 4 ∧ ∀ c ∈ I ++ O, c.length = (I.getD 0 []).length ∧ ∀ x ∈ c, 0 ≤ x ∧ x ≤ 9 := by
  unfold vl at h; split at h
  case isFalse => cases h
  rename_i hc
  obtain ⟨h1, h2⟩ := hc; unfold vsz at h1; simp only [Bool.and_eq_true, decide_eq_true_eq] at h1; refine ⟨h1.1.1, h1.1.2, h1.2.1.1, h1.2.1.2, h1.2.2.1, h1.2.2.2, fun c hcm => ?_⟩; have := List.all_eq_true.1 h2 c hcm; unfold okr at this; simp only [Bool.and_eq_true, decide_eq_true_eq] at this; exact ⟨this.1, fun x hx => of_decide_eq_true (List.all_eq_true.1 this.2.1 x hx)⟩
theorem rtimed_ev {I O : List (List Int)} (h : Sh I O) (t : List Int) (ht : t.length ≤ 1000) : Ev (fun k => ZG.f k I O t) (tm I O t) := by
  unfold ZG.f tm; refine Ev.bind (Jx h) ?_; by_cases c : vl I O = 0
  · simp only [c, if_true]; have hs := Ye c; refine Ev.bind (islist_ev t _ _ _ ht) ?_; exact Ev.congr (fun k => lerr_of t (I.length + O.length) _ _ _ (by rw [wrp (by omega) (by omega)]; omega)) (Ev.now _)
  · simp only [c, if_false]; exact Ev.now _
theorem lerr_zero {n : Nat} {lo hi : Int} {l : List Int} (h : lerr n lo hi l = 0) : l.length = n ∧ ∀ x ∈ l, lo ≤ x ∧ x ≤ hi := by
  unfold lerr at h; split at h
  case isFalse => cases h
  rename_i hc
  exact ⟨hc.1, fun x hx => of_decide_eq_true (List.all_eq_true.1 hc.2 x hx)⟩
theorem tm_zero {I O : List (List Int)} {t : List Int} (h : tm I O t = 0) : vl I O = 0 ∧ t.length = I.length + O.length ∧ ∀ x ∈ t, -1000000 ≤ x ∧ x ≤ 1000000 := by
  unfold tm at h; split at h
  · rename_i hv
    exact ⟨hv, lerr_zero h⟩
  · rename_i hv
    exact absurd h hv
def arow (t : Int) (v c : List Int) : List Int := List.zipWith (fun a b => wrap64 (a + wrap64 (t * b))) v c
def sacc : List (List Int) → List Int → List Int → List Int
  | c :: cs, t :: ts, v => sacc cs ts (arow t v c)
  | _, _, v => v
theorem Un (t : Int) (v c : List Int) (h : c.length = v.length) : (arow t v c).length = v.length := by simp [arow, h]
def zs (n : Nat) : List Int := List.replicate n 0
def inS (I O : List (List Int)) (t : List Int) : List Int := sacc I t (zs (I.getD 0 []).length)
def outS (I O : List (List Int)) (t : List Int) : List Int := sacc O (t.drop I.length) (zs (I.getD 0 []).length)
theorem Vg (m : Nat) : ∀ (L : List (List Int)) (t v : List Int), (∀ c ∈ L, c.length = m) → v.length = m → (sacc L t v).length = m
  | [], _, v, _, hv => by rw [sacc]; exact hv; intros; contradiction
  | c :: L, [], v, _, hv => by rw [sacc]; exact hv; intros; contradiction
  | c :: L, t :: ts, v, h, hv => by
    rw [sacc]; exact Vg m L ts _ (fun x hx => h x (List.mem_cons_of_mem _ hx)) (by rw [Un _ _ _ (by rw [h c (List.mem_cons_self ..), hv]), hv])
def dot : List Int → List Int → Int
  | x :: c, y :: w => x * y + dot c w
  | _, _ => 0
theorem dot_nil (w : List Int) : dot [] w = 0 := by rw [dot]; intros; contradiction
theorem dot_nil2 (c : List Int) : dot c [] = 0 := by cases c <;> (rw [dot]; intros; contradiction)
theorem mulb {x y : Int} {A B : Nat} (hx : x.natAbs ≤ A) (hy : y.natAbs ≤ B) : (x * y).natAbs ≤ A * B := by
  rw [Int.natAbs_mul]; exact Nat.mul_le_mul hx hy
def Atoms (c : List Int) : Prop := ∀ x ∈ c, 0 ≤ x ∧ x ≤ 9
def Coefs (c : List Int) : Prop := ∀ x ∈ c, -1000000 ≤ x ∧ x ≤ 1000000
theorem JU {t a b : Int} {B : Nat} (ht : t.natAbs ≤ 1000000) (hb : 0 ≤ b ∧ b ≤ 9) (ha : a.natAbs ≤ B) (hB : B + 9000000 ≤ 4611686018427387904) : wrap64 (a + wrap64 (t * b)) = a + t * b ∧ (a + t * b).natAbs ≤ B + 9000000 := by
  have h3 := mulb (x := t) (y := b) (A := 1000000) (B := 9) ht (by omega); rw [wrp (x := t * b) (by omega) (by omega), wrp (x := a + t * b) (by omega) (by omega)]; exact ⟨rfl, by omega⟩
theorem UU {t : Int} {B : Nat} (ht : t.natAbs ≤ 1000000) (hB : B + 9000000 ≤ 4611686018427387904) : ∀ (v c w : List Int), (∀ x ∈ v, x.natAbs ≤ B) → Atoms c → v.length = c.length → dot (arow t v c) w = dot v w + t * dot c w ∧ ∀ x ∈ arow t v c, x.natAbs ≤ B + 9000000
  | [], [], w, _, _, _ => by simp [arow, dot_nil]
  | a :: v, b :: c, [], hv, hc, hl => by
    have ha := JU ht (hc b (List.mem_cons_self ..)) (hv a (List.mem_cons_self ..)) hB; have := (UU ht hB v c [] (fun z hz => hv z (List.mem_cons_of_mem _ hz)) (fun z hz => hc z (List.mem_cons_of_mem _ hz)) (by simpa using hl)).2; refine ⟨by simp [dot_nil2], fun x hx => ?_⟩; unfold arow at hx; rw [List.zipWith_cons_cons] at hx; rcases List.mem_cons.1 hx with rfl | hx
    · rw [ha.1]; exact ha.2
    · exact this x hx
  | a :: v, b :: c, y :: w, hv, hc, hl => by
    have ha := JU ht (hc b (List.mem_cons_self ..)) (hv a (List.mem_cons_self ..)) hB; obtain ⟨h1, h2⟩ := UU ht hB v c w (fun z hz => hv z (List.mem_cons_of_mem _ hz)) (fun z hz => hc z (List.mem_cons_of_mem _ hz)) (by simpa using hl); have e : arow t (a :: v) (b :: c) = (a + t * b) :: arow t v c := by
      unfold arow; rw [List.zipWith_cons_cons, ha.1]
    rw [e]; refine ⟨?_, fun x hx => ?_⟩
    · rw [dot, dot, dot, h1, Int.add_mul, Int.mul_add, Int.mul_assoc]; omega
    · rcases List.mem_cons.1 hx with rfl | hx
      · exact ha.2
      · exact h2 x hx
theorem side_len {I O : List (List Int)} (h : vl I O = 0) (t : List Int) : (inS I O t).length = (I.getD 0 []).length ∧ (outS I O t).length = (I.getD 0 []).length := by
  obtain ⟨s1, s2, s3, s4, s5, s6, s7⟩ := Ye h; exact ⟨Vg _ I t _ (fun c hc => (s7 c (List.mem_append_left _ hc)).1) (by simp [zs]), Vg _ O _ _ (fun c hc => (s7 c (List.mem_append_right _ hc)).1) (by simp [zs])⟩
def csum : List (List Int) → List Int → Nat → Int
  | c :: cs, t :: ts, e => t * c.getD e 0 + csum cs ts e
  | _, _, _ => 0
theorem Vm (t : List Int) (e : Nat) : csum [] t e = 0 := by rw [csum]; intros; contradiction
theorem V3 (L : List (List Int)) (e : Nat) : csum L [] e = 0 := by cases L <;> (rw [csum]; intros; contradiction)
theorem Vb {c : List Int} (h : Atoms c) (e : Nat) : 0 ≤ c.getD e 0 ∧ c.getD e 0 ≤ 9 := by
  by_cases hl : e < c.length
  · rw [Zb c e _ hl]; exact h _ (List.getElem_mem hl)
  · rw [List.getD_eq_getElem?_getD, List.getElem?_eq_none (by omega)]; simp
theorem Jw {m : Nat} (e : Nat) (he : e < m) : ∀ (L : List (List Int)) (t v : List Int) (B : Nat), (∀ c ∈ L, c.length = m ∧ Atoms c) → Coefs t → v.length = m → (∀ x ∈ v, x.natAbs ≤ B) → B + 9000000 * L.length ≤ 4611686018427387904 → (sacc L t v).getD e 0 = v.getD e 0 + csum L t e
  | [], t, v, B, _, _, _, _, _ => by rw [sacc, Vm, Int.add_zero]; all_goals (intro _ _ _ _ p q; first | (cases p; done) | (cases q; done))
  | c :: L, [], v, B, _, _, _, _, _ => by rw [sacc, V3, Int.add_zero]; all_goals (intro _ _ _ _ p q; first | (cases p; done) | (cases q; done))
  | c :: L, t :: ts, v, B, hL, ht, hv, hB, hb => by
    rw [List.length_cons, Nat.mul_add, Nat.mul_one] at hb; have hb1 : B + 9000000 ≤ 4611686018427387904 := Nat.le_trans (Nat.add_le_add_left (Nat.le_add_left 9000000 _) B) hb; have h0 := ht t (List.mem_cons_self ..); have hc := hL c (List.mem_cons_self ..); obtain ⟨h1, h2⟩ := UU (t := t) (B := B) (by omega) hb1 v c [] hB hc.2 (by omega); have hal := Un t v c (by omega); rw [sacc, csum, Jw e he L ts (arow t v c) (B + 9000000) (fun x hx => hL x (List.mem_cons_of_mem _ hx)) (fun x hx => ht x (List.mem_cons_of_mem _ hx)) (by rw [hal, hv]) h2 (by omega)]; have e1 : (arow t v c).getD e 0 = v.getD e 0 + t * c.getD e 0 := by
      rw [Zb _ e _ (by omega), Zb v e _ (by omega), Zb c e _ (by omega)]; have ha := JU (t := t) (a := v[e]) (b := c[e]) (B := B) (by omega) (hc.2 _ (List.getElem_mem (by omega))) (hB _ (List.getElem_mem (by omega))) (by omega); unfold arow; rw [List.getElem_zipWith, ha.1]
    rw [e1]; omega
theorem Vn (e : Nat) : ∀ (L M : List (List Int)) (t : List Int), L.length ≤ t.length → csum (L ++ M) t e = csum L t e + csum M (t.drop L.length) e
  | [], M, t, _ => by rw [Vm]; simp
  | c :: L, M, [], h => by simp at h
  | c :: L, M, t :: ts, h => by rw [List.cons_append, csum, csum, Vn e L M ts (by simpa using h), List.length_cons, List.drop_succ_cons]; omega
def negc (c : List Int) : List Int := c.map fun x => wrap64 (-x)
theorem VP {c : List Int} (h : Atoms c) (e : Nat) : (negc c).getD e 0 = -c.getD e 0 := by
  unfold negc; by_cases hl : e < c.length
  · rw [Zb _ e _ (by simpa using hl), Zb c e _ hl, List.getElem_map]; have := h _ (List.getElem_mem hl); exact wrp (by omega) (by omega)
  · rw [List.getD_eq_getElem?_getD, List.getElem?_eq_none (by simpa using hl), List.getD_eq_getElem?_getD, List.getElem?_eq_none (by omega)]; simp
theorem UW (e : Nat) : ∀ (L : List (List Int)) (t : List Int), (∀ c ∈ L, Atoms c) → csum (L.map negc) t e = -csum L t e
  | [], t, _ => by rw [List.map_nil, Vm]; rfl
  | c :: L, [], _ => by rw [V3, V3]; rfl
  | c :: L, t :: ts, h => by
    rw [List.map_cons, csum, csum, UW e L ts (fun x hx => h x (List.mem_cons_of_mem _ hx)), VP (h c (List.mem_cons_self ..)), Int.mul_neg]; omega
theorem cols_l2 (I O : List (List Int)) (out : List (List Int)) (n : Nat) (hn : n < O.length) (hc : O[n].length ≤ 1000) (ho : out.length ≤ 1000) (R : List (List Int)) : ∀ (d j : Nat) (s : List Int), j + d = O[n].length → s.length ≤ j →
    Ev (fun k => Qs.l1 k (out ++ [s ++ negc (O[n].drop j)]) (wrap64 ((n : Int) + 1)) I O) R → Ev (fun k => Qs.l2 k out (n : Int) s (j : Int) I O) R := by
  intro d; induction d with
  | zero =>
    intro j s hj hs h; refine Ev.step (fun k => by rw [Qs.l2]) ?_; rw [List.drop_eq_nil_of_le (by omega)] at h; simp only [show (0 : Int) ≤ (n : Int) by omega, show ((n : Int) < (O.length : Int)) by omega, if_true, rdL, Zb O n _ hn, show ¬ ((j : Int) < (O[n].length : Int)) by omega, if_false, show out.length < 5864062014805 by omega]; simpa [negc] using h
  | succ d ih =>
    intro j s hj hs h; have hlt : j < O[n].length := by omega
    refine Ev.step (fun k => by rw [Qs.l2]) ?_; rw [List.drop_eq_getElem_cons hlt] at h; simp only [show (0 : Int) ≤ (n : Int) by omega, show ((n : Int) < (O.length : Int)) by omega, if_true, rdL, Zb O n _ hn, show ((j : Int) < (O[n].length : Int)) by omega, show (0 : Int) ≤ (j : Int) by omega, show s.length < 17592186044416 by omega, rdn, Zb O[n] j _ hlt]; rw [ZA (m := O[n].length) hlt (by omega)]; refine ih (j + 1) (s ++ [wrap64 (-O[n][j])]) (by omega) (by simp; omega) ?_; rw [List.append_assoc]; exact h
theorem cols_l1 (I O : List (List Int)) (hO : O.length ≤ 500) (hc : ∀ c ∈ O, c.length ≤ 1000) : ∀ (d n : Nat) (out : List (List Int)), n + d = O.length → out.length ≤ 500 + n → Ev (fun k => Qs.l1 k out (n : Int) I O) (out ++ (O.drop n).map negc) := by
  intro d; induction d with
  | zero =>
    intro n out hn ho; refine Ev.step (fun k => by rw [Qs.l1]) ?_; simp only [show ¬ ((n : Int) < (O.length : Int)) by omega, if_false]; rw [List.drop_eq_nil_of_le (by omega), List.map_nil, List.append_nil]; exact Ev.now _
  | succ d ih =>
    intro n out hn ho; have hlt : n < O.length := by omega
    refine Ev.step (fun k => by rw [Qs.l1]) ?_; simp only [show ((n : Int) < (O.length : Int)) by omega, if_true]; rw [List.drop_eq_getElem_cons hlt, List.map_cons]; refine cols_l2 I O out n hlt (hc _ (List.getElem_mem hlt)) (by omega) _ O[n].length 0 [] (by omega) (by simp) ?_; rw [ZA (m := O.length) hlt (by omega), List.drop_zero, List.nil_append]; have := ih (n + 1) (out ++ [negc O[n]]) (by omega) (by simp; omega); rw [List.append_assoc] at this; exact this
theorem cols_l0 (I O : List (List Int)) (hI : I.length ≤ 500) (hc : ∀ c ∈ I, c.length ≤ 1000) (R : List (List Int)) : ∀ (d n : Nat) (out : List (List Int)), n + d = I.length → out.length ≤ n → Ev (fun k => Qs.l1 k (out ++ I.drop n) 0 I O) R → Ev (fun k => Qs.l0 k out (n : Int) I O) R := by
  intro d; induction d with
  | zero =>
    intro n out hn ho h; refine Ev.step (fun k => by rw [Qs.l0]) ?_; rw [List.drop_eq_nil_of_le (by omega), List.append_nil] at h; simp only [show ¬ ((n : Int) < (I.length : Int)) by omega, if_false]; exact h
  | succ d ih =>
    intro n out hn ho h; have hlt : n < I.length := by omega
    have hl := hc _ (List.getElem_mem hlt); refine Ev.step (fun k => by rw [Qs.l0]) ?_; rw [List.drop_eq_getElem_cons hlt] at h; simp only [show ((n : Int) < (I.length : Int)) by omega, if_true, Option.bind_some, show (0 : Int) ≤ (n : Int) by omega, rdL, Zb I n _ hlt, List.length_nil, show 0 + I[n].length < 17592186044416 by omega, show out.length < 5864062014805 by omega, List.nil_append]; rw [ZA (m := I.length) hlt (by omega)]; refine ih (n + 1) (out ++ [I[n]]) (by omega) (by simp; omega) ?_; rw [List.append_assoc]; exact h
def cols (I O : List (List Int)) : List (List Int) := I ++ O.map negc
theorem cols_ev {I O : List (List Int)} (h : vl I O = 0) : Ev (fun k => Qs.f k I O) (cols I O) := by
  obtain ⟨s1, s2, s3, s4, s5, s6, s7⟩ := Ye h; unfold Qs.f; refine cols_l0 I O (by omega) (fun c hc => by have := (s7 c (List.mem_append_left _ hc)).1; omega) _ I.length 0 [] (by omega) (by simp) ?_; rw [List.drop_zero, List.nil_append]; have := cols_l1 I O (by omega) (fun c hc => by have := (s7 c (List.mem_append_right _ hc)).1; omega) O.length 0 I (by omega) (by omega); rw [List.drop_zero] at this; exact this
theorem rb_l1 (t : List Int) (C : List (List Int)) (hC : C.length = t.length) (hC6 : C.length ≤ 6) (e : Nat) (hc : ∀ c ∈ C, e < c.length ∧ (c.getD e 0).natAbs ≤ 9) (ht : Coefs t) (R : Bool) (hR : Ev (fun k => QH.l0 k t C (wrap64 ((e : Int) + 1))) R) : ∀ (d n : Nat) (s : Int), n + d = C.length → s.natAbs ≤ 9000000 * n →
    Ev (fun k => QH.l1 k t C (e : Int) s (n : Int)) (if s + csum (C.drop n) (t.drop n) e = 0 then R else false) := by
  intro d; induction d with
  | zero =>
    intro n s hn hs; refine Ev.step (fun k => by rw [QH.l1]) ?_; rw [List.drop_eq_nil_of_le (by omega), Vm, Int.add_zero]; simp only [show ¬ ((n : Int) < (C.length : Int)) by omega, if_false]; by_cases h : s = 0
    · simp only [h, if_true]; exact hR
    · simp only [h, if_false]; exact Ev.now _
  | succ d ih =>
    intro n s hn hs; have h1 : n < C.length := by omega
    have h2 : n < t.length := by omega
    obtain ⟨hl, h9⟩ := hc _ (List.getElem_mem h1); have htn := ht _ (List.getElem_mem h2); refine Ev.step (fun k => by rw [QH.l1]) ?_; rw [List.drop_eq_getElem_cons h1, List.drop_eq_getElem_cons h2, csum]; simp only [show ((n : Int) < (C.length : Int)) by omega, show (0 : Int) ≤ (n : Int) by omega, show ((n : Int) < (t.length : Int)) by omega, show (0 : Int) ≤ (e : Int) by omega, if_true, rdL, Zb C n _ h1, show ((e : Int) < (C[n].length : Int)) by omega, rdn, Zb t n _ h2]; generalize C[n].getD e 0 = x at *; generalize t[n] = y at *; have hm := mulb (x := y) (y := x) (A := 1000000) (B := 9) (by omega) h9; rw [ZA (m := C.length) h1 (by omega), wrp (x := y * x) (by omega) (by omega), wrp (x := s + y * x) (by omega) (by omega)]; have := ih (n + 1) (s + y * x) (by omega) (by omega); simp only [← Int.add_assoc]; exact this
open scoped Classical in
theorem rb_l0 (t : List Int) (C : List (List Int)) (m : Nat) (hm : m ≤ 1000) (h0 : 0 < C.length) (hC : C.length = t.length) (hC6 : C.length ≤ 6) (hc : ∀ c ∈ C, c.length = m ∧ ∀ e, (c.getD e 0).natAbs ≤ 9) (ht : Coefs t) : ∀ (d e : Nat), e + d = m →
    Ev (fun k => QH.l0 k t C (e : Int)) (decide (∀ q, e ≤ q → q < m → csum C t q = 0)) := by
  intro d; induction d with
  | zero =>
    intro e he; refine Ev.step (fun k => by rw [QH.l0]) ?_; simp only [show (0 : Int) < (C.length : Int) by omega, if_true, rdL0, Zb C 0 _ h0, (hc _ (List.getElem_mem h0)).1, show ¬ ((e : Int) < (m : Int)) by omega, if_false]; rw [decide_eq_true (fun q h1 h2 => by omega)]; exact Ev.now _
  | succ d ih =>
    intro e he; refine Ev.step (fun k => by rw [QH.l0]) ?_; simp only [show (0 : Int) < (C.length : Int) by omega, if_true, rdL0, Zb C 0 _ h0, (hc _ (List.getElem_mem h0)).1, show ((e : Int) < (m : Int)) by omega]; have := rb_l1 t C hC hC6 e (fun c hcm => ⟨by rw [(hc c hcm).1]; omega, (hc c hcm).2 e⟩) ht _ (by rw [ZA (m := m) (by omega) (by omega)]; exact ih (e + 1) (by omega)) C.length 0 0 (by omega) (by simp); rw [List.drop_zero, List.drop_zero, Int.zero_add] at this; have hd : (if csum C t e = 0 then decide (∀ q, e + 1 ≤ q → q < m → csum C t q = 0) else false) = decide (∀ q, e ≤ q → q < m → csum C t q = 0) := by
      by_cases hz : csum C t e = 0
      · rw [if_pos hz]; refine decide_eq_decide.2 ⟨fun h q h1 h2 => ?_, fun h q h1 h2 => h q (by omega) h2⟩; by_cases hq : q = e
        · rw [hq]; exact hz
        · exact h q (by omega) h2
      · rw [if_neg hz, decide_eq_false (fun h => hz (h e (Nat.le_refl _) (by omega)))]
    rw [hd] at this; exact this
theorem Um {I O : List (List Int)} {t : List Int} (h : vl I O = 0) (htl : t.length = I.length + O.length) (ht : Coefs t) : inS I O t = outS I O t ↔ ∀ q, q < (I.getD 0 []).length → csum I t q = csum O (t.drop I.length) q := by
  obtain ⟨s1, s2, s3, s4, s5, s6, s7⟩ := Ye h; have hz : ∀ x ∈ zs (I.getD 0 []).length, x.natAbs ≤ 0 := fun x hx => by
    have := List.eq_of_mem_replicate hx; omega
  have hzd : ∀ q, (zs (I.getD 0 []).length).getD q 0 = 0 := fun q => by
    unfold zs; rw [List.getD_eq_getElem?_getD, List.getElem?_replicate]; split <;> rfl
  have e1 := fun q hq => Jw (m := (I.getD 0 []).length) q hq I t (zs (I.getD 0 []).length) 0 (fun c hc => s7 c (List.mem_append_left _ hc)) ht (by simp [zs]) hz (by omega)
  have e2 := fun q hq => Jw (m := (I.getD 0 []).length) q hq O (t.drop I.length) (zs (I.getD 0 []).length) 0 (fun c hc => s7 c (List.mem_append_right _ hc)) (fun x hx => ht x (List.mem_of_mem_drop hx)) (by simp [zs]) hz (by omega)
  obtain ⟨l1, l2⟩ := side_len h t; constructor
  · intro he q hq; have a := e1 q hq; have b := e2 q hq; rw [hzd, Int.zero_add] at a b; rw [← a, ← b]; exact congrArg (fun v => v.getD q 0) he
  · intro hall; apply List.ext_getElem (by rw [l1, l2]); intro q hq1 hq2; have a := e1 q (by omega); have b := e2 q (by omega); rw [hzd, Int.zero_add] at a b; have := hall q (by omega); rw [← Zb _ q 0 hq1, ← Zb _ q 0 hq2]; show (inS I O t).getD q 0 = (outS I O t).getD q 0
    unfold inS outS; rw [a, b, this]
open scoped Classical in
theorem Jy {I O : List (List Int)} (h : vl I O = 0) (t : List Int) (htl : t.length = I.length + O.length) (ht : Coefs t) : Ev (fun k => QH.f k I O t) (decide (inS I O t = outS I O t)) := by
  obtain ⟨s1, s2, s3, s4, s5, s6, s7⟩ := Ye h; unfold QH.f; refine Ev.bind (cols_ev h) ?_; have hcl : (cols I O).length = I.length + O.length := by simp [cols]
  have := rb_l0 t (cols I O) (I.getD 0 []).length (by omega) (by omega) (by omega) (by omega) (fun c hc => by
    unfold cols at hc; rcases List.mem_append.1 hc with hc | hc
    · have := s7 c (List.mem_append_left _ hc); exact ⟨this.1, fun e => by have := Vb this.2 e; omega⟩
    · obtain ⟨b, hb, rfl⟩ := List.mem_map.1 hc; have := s7 b (List.mem_append_right _ hb); exact ⟨by simp only [negc, List.length_map]; exact this.1, fun e => by rw [VP this.2]; have := Vb this.2 e; omega⟩) ht (I.getD 0 []).length 0 (by omega)
  have hd : decide (∀ q, 0 ≤ q → q < (I.getD 0 []).length → csum (cols I O) t q = 0) = decide (inS I O t = outS I O t) := by
    refine decide_eq_decide.2 ?_; rw [Um h htl ht]; have hcs : ∀ q, csum (cols I O) t q = csum I t q - csum O (t.drop I.length) q := fun q => by
      unfold cols; rw [Vn q I _ t (by omega), UW q O _ (fun c hc => (s7 c (List.mem_append_right _ hc)).2)]; omega
    constructor
    · intro hh q hq; have := hh q (Nat.zero_le _) hq; rw [hcs] at this; omega
    · intro hh q _ hq; rw [hcs, hh q hq]; omega
  rw [hd] at this; exact this
theorem min_l0 (c : List Int) (hc : c.length ≤ 1000) : ∀ (d n : Nat) (m : Int), n + d = c.length → Ev (fun k => Qn.l0 k c m (n : Int)) ((c.drop n).foldl mn m) := by
  intro d; induction d with
  | zero =>
    intro n m hn; refine Ev.step (fun k => by rw [Qn.l0]) ?_; simp only [show ¬ ((n : Int) < (c.length : Int)) by omega, if_false]; rw [List.drop_eq_nil_of_le (by omega)]; exact Ev.now _
  | succ d ih =>
    intro n m hn; have hlt : n < c.length := by omega
    refine Ev.step (fun k => by rw [Qn.l0]) ?_; simp only [show ((n : Int) < (c.length : Int)) by omega, show (0 : Int) ≤ (n : Int) by omega, if_true, rdn]; rw [ZA (m := c.length) hlt (by omega), List.drop_eq_getElem_cons hlt, List.foldl_cons, Zb _ _ _ hlt]; exact ih (n + 1) _ (by omega)
theorem min_ev (c : List Int) (hc : c.length ≤ 1000) (h1 : 1 ≤ c.length) : Ev (fun k => Qn.f k c) ((c.drop 1).foldl mn (c.getD 0 0)) := by
  unfold Qn.f; simp only [show ¬ ((c.length : Int) < 1) by omega, if_false]; refine Ev.step (fun k => by rw [Qn.j0]) ?_; simp only [show (0 : Int) < (c.length : Int) by omega, if_true]; have := min_l0 c hc (c.length - 1) 1 (rd c 0) (by omega); rw [show rd c 0 = c.getD 0 0 from rdn c 0] at this ⊢; exact this
theorem le_mn (r a b : Int) : r ≤ mn a b ↔ r ≤ a ∧ r ≤ b := by
  unfold mn; split <;> omega
theorem min_pos : ∀ (l : List Int) (m : Int), 1 ≤ l.foldl mn m ↔ 1 ≤ m ∧ ∀ x ∈ l, 1 ≤ x
  | [], m => by simp
  | y :: l, m => by
    rw [List.foldl_cons, min_pos l (mn m y), le_mn]; constructor
    · rintro ⟨⟨a, b⟩, c⟩; exact ⟨a, fun x hx => by rcases List.mem_cons.1 hx with rfl | hx; exact b; exact c x hx⟩
    · rintro ⟨a, c⟩; exact ⟨⟨a, c y (List.mem_cons_self ..)⟩, fun x hx => c x (List.mem_cons_of_mem _ hx)⟩
def pos (t : List Int) : Bool := t.all fun x => decide (1 ≤ x)
theorem min_pos2 (c : List Int) (h1 : 1 ≤ c.length) : (c.drop 1).foldl mn (c.getD 0 0) ≤ 0 ↔ ¬ pos c = true := by
  have h := min_pos (c.drop 1) (c.getD 0 0); have h2 : pos c = true ↔ 1 ≤ (c.drop 1).foldl mn (c.getD 0 0) := by
    rw [h]; cases c with
    | nil => simp at h1
    | cons a c => simp [pos]
  rw [h2]; omega
def shl (r : Int) : List Int → List Int → Int → List Int
  | a :: s, t :: ts, i => if a < (r + 1) * t then i :: shl r s ts (i + 1) else shl r s ts (i + 1)
  | _, _, _ => []
def bal (I O : List (List Int)) (t : List Int) : Bool × Int := if tm I O t = 0 then (decide (inS I O t = outS I O t), 0) else (false, tm I O t)
theorem rBal_ev {I O : List (List Int)} (h : Sh I O) (t : List Int) (ht : t.length ≤ 1000) : Ev (fun k => Zx.f k I O t) (bal I O t) := by
  unfold Zx.f bal; refine Ev.bind (rtimed_ev h t ht) ?_; by_cases c : tm I O t = 0
  · simp only [c, if_true]; obtain ⟨h1, h2, h3⟩ := tm_zero c; exact Ev.bind (Jy h1 t h2 h3) (Ev.now _)
  · simp only [c, if_false]; exact Ev.now _
theorem UK : Ev (fun k => Zf.f k) true := Ev.of (fun k => Zf.mono k) (k := 40) (by decide +kernel)
end Go.Proofs.Ytdneelgnmnpanaa.P
end
