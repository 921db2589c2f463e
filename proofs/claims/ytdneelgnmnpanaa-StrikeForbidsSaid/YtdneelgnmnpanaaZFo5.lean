/- What the claim's last text wants, part 5: functions of the translation as Lean functions with their contracts, and plain theorems; no conditions beyond those that each theorem names. -/
import Derived.Test.YtdneelgnmnpanaaZFo4
import Derived.SizedLaws
set_option linter.unusedVariables false
set_option linter.unusedSimpArgs false
section
namespace Go.Proofs.Ytdneelgnmnpanaa.P
open Go.RowKit Go.Proofs.YtdneelgnmnpanaaW.PrintWords Go.Proofs.YtdneelgnmnpanaaW.PrintLast Go.Proofs.YtdneelgnmnpanaaW.PrintMore
attribute [local go_sem] max2_int min2_int max_two min_two max_three min_three max_four min_four
def Q3.f (k : Nat) (ae : List (List Int)) (af : List (List Int)) : Option (List Int × Bool × Int) := (Qg.f k ae af).bind fun t102 => (if t102 = 0 then ((Zv.f ae af).bind fun t103 => ((QS.f ae af).bind fun t106 => ((Q7.f t103 t106).bind fun a8 => (if a8.2 = true then ((Qi.f k a8.1).bind fun t111 => (if t111 ≤ 0 then (some (([] : List Int), false, 0)) else (some (a8.1, true, 0)))) else (some (([] : List Int), false, 0)))))) else (some (([] : List Int), false, t102)))
theorem Q3.mono : ∀ a0 a1 k, LeO (Q3.f k a0 a1) (Q3.f (k + 1) a0 a1) := by
 intro a0 a1 k; unfold Q3.f; repeat' first | (with_reducible exact Qi.mono _ _) | (with_reducible exact Qg.mono _ _ _) | (with_reducible exact LeO.refl _) | (with_reducible exact LeO.none _) | (with_reducible refine LeO.ite ?_ ?_) | (with_reducible refine LeO.bind ?_ (fun _ => ?_)) | exact Qi.mono _ _ | exact Qg.mono _ _ _ | exact LeO.none _ | refine LeO.ite ?_ ?_ | refine LeO.bind ?_ (fun _ => ?_)
def Q3.T4 : Bool × List (List Nat × List Nat) := (true, [([], []), ([0], [0]), ([], []), ([2, 1], [2]), ([1, 3, 3], [1, 3]), ([4], [4]), ([5], [5]), ([5], [5]), ([6, 4, 0, 1, 2, 3, 4, 5, 6], [6]), ([7, 8, 0, 1, 2, 3, 4, 5, 6, 7, 8], [7])])
def Q3.B4 : List Nat := [0, 1, 0, 7, 15, 31, 63, 63, 127, 511]
theorem Q3.tab4 : rtab .any (opsOf Try.f41 4) = Q3.T4 := by kernel_rfl
theorem Q3.bits4 : waitsOk Q3.T4.2 Q3.B4 = true := by kernel_rfl
set_option maxHeartbeats 8000000 in
set_option maxRecDepth 100000 in
theorem Q3.calls (k : Nat) (ak : Option Addr) (an : Nat) (ae : List (List Int)) (aj : Option Addr) (al : Nat) (af : List (List Int)) (r1 : List Int) (r2 : Bool) (r3 : Int) (w : World) (aV : Kd.C (Kd.slice 3 (Kd.int .i64)) w ak ae.length ae) (aX : ae.length ≤ an) (aU : Kd.C (Kd.slice 3 (Kd.int .i64)) w aj af.length af) (aW : af.length ≤ al) (h : Q3.f k ae af = some (r1, r2, r3)) :
  Calls Try.prog 41 #[.agg #[.slice ak ae.length an, .slice aj af.length al]] w fun e w' => ∃ v0_ : Value, e = .returned (.tuple #[v0_, .bool r2, .int .i64 r3]) ∧ Kd.R (Kd.int .i64) 3 w' w.heap.size (fun _ => True) v0_ r1 ∧ Below w.heap.size w w' := by
 have dD := Try.underlying24; have av := aa.mk aV; have aw := aa.mk aX; clear aV aX; have ay := aa.mk aU; have ax := aa.mk aW; clear aU aW; have HB := aa.mk (Below.refl w.heap.size w); have H : ((Qg.f k ae af).bind fun t102 => (if t102 = 0 then ((Zv.f ae af).bind fun t103 => ((QS.f ae af).bind fun t106 => ((Q7.f t103 t106).bind fun a8 => (if a8.2 = true then ((Qi.f k a8.1).bind fun t111 => (if t111 ≤ 0 then (some (([] : List Int), false, 0)) else (some (a8.1, true, 0)))) else (some (([] : List Int), false, 0)))))) else (some (([] : List Int), false, t102)))) = some (r1, r2, r3) := h; clear h; replace H := Option.bind_eq_some_iff.mp H; obtain ⟨t102, A20, H⟩ := H; replace H : (if t102 = 0 then ((Zv.f ae af).bind fun t103 => ((QS.f ae af).bind fun t106 => ((Q7.f t103 t106).bind fun a8 => (if a8.2 = true then ((Qi.f k a8.1).bind fun t111 => (if t111 ≤ 0 then (some (([] : List Int), false, 0)) else (some (a8.1, true, 0)))) else (some (([] : List Int), false, 0)))))) else (some (([] : List Int), false, t102))) = some (r1, r2, r3) := H; have A2 := aa.mk A20; clear A20; by_cases c3 : t102 = 0
 ·rw [if_pos c3] at H; have bU : (t102 == 0) = true := beq_iff_eq.mpr c3; have cE : (t102 != 0) = false := bne_eq_false_iff_eq.mpr c3; clear c3; replace H := Option.bind_eq_some_iff.mp H; obtain ⟨t103, A40, H⟩ := H; replace H : ((QS.f ae af).bind fun t106 => ((Q7.f t103 t106).bind fun a8 => (if a8.2 = true then ((Qi.f k a8.1).bind fun t111 => (if t111 ≤ 0 then (some (([] : List Int), false, 0)) else (some (a8.1, true, 0)))) else (some (([] : List Int), false, 0))))) = some (r1, r2, r3) := H; have A4 := aa.mk A40; clear A40; replace H := Option.bind_eq_some_iff.mp H; obtain ⟨t106, A50, H⟩ := H; replace H : ((Q7.f t103 t106).bind fun a8 => (if a8.2 = true then ((Qi.f k a8.1).bind fun t111 => (if t111 ≤ 0 then (some (([] : List Int), false, 0)) else (some (a8.1, true, 0)))) else (some (([] : List Int), false, 0)))) = some (r1, r2, r3) := H; have A5 := aa.mk A50; clear A50; replace H := Option.bind_eq_some_iff.mp H; obtain ⟨⟨t107, t108⟩, A60, H⟩ := H; replace H : (if t108 = true then ((Qi.f k t107).bind fun t111 => (if t111 ≤ 0 then (some (([] : List Int), false, 0)) else (some (t107, true, 0)))) else (some (([] : List Int), false, 0))) = some (r1, r2, r3) := H; have A6 := aa.mk A60; clear A60; by_cases c7 : t108 = true
  ·subst c7; have H1 : ((Qi.f k t107).bind fun t111 => (if t111 ≤ 0 then (some (([] : List Int), false, 0)) else (some (t107, true, 0)))) = some (r1, r2, r3) := by rw [if_pos rfl] at H; exact H
   clear H; have H := H1; clear H1; replace H := Option.bind_eq_some_iff.mp H; obtain ⟨t111, A80, H⟩ := H; replace H : (if t111 ≤ 0 then (some (([] : List Int), false, 0)) else (some (t107, true, 0))) = some (r1, r2, r3) := H; have A8 := aa.mk A80; clear A80; by_cases c9 : t111 ≤ 0
   ·rw [if_pos c9] at H; have fA : decide (t111 ≤ 0) = true := decide_eq_true c9; clear c9; simp only [Option.some.injEq, Prod.mk.injEq] at H; obtain ⟨rfl, rfl, rfl⟩ := H; go_enter Try.func41, Try.ntmps41; try go_wp2_with (first | ((with_reducible refine QM (N := 1) rfl ?_); refine QU ?hg (N := 1) ?hd (cs := #[.slice ak ae.length an, .slice aj af.length al]) (t := 24) ?hr ?_; (case hd => rfl); (case hg => rfl); (case hr => first | (go_simp; done) | (go_simp; rfl)); intro ag hg w10 hbox hb; have ab := aa.mk (hbox); have ba := aa.mk ((by rw [hg]; exact (Qe bB) : w.heap.size ≤ ag)); have aN := aa.mk ((by rw [hg]; exact (Qe bB) : w.heap.size ≤ ag)); replace HB := aa.mk (Qc bB hb); clear hb hbox hg; have cl : w10.cell? ⟨ag, 0, none⟩ = some (.slice ak ae.length an) := (Qb ab.out 0).trans rfl; have ck : w10.cell? ⟨ag, 1, none⟩ = some (.slice aj af.length al) := (Qb ab.out 1).trans rfl; have cj := Qa ab.out 0; have ch := Qa ab.out 1) | ((with_reducible refine Qf (f := 38) rfl ?_); refine QE (some 9) rfl rfl Try.func38 (by kernel_rfl) rfl #[.agg #[.slice ak ae.length an, .slice aj af.length al]] rfl hA ?_; (with_reducible refine (Qg.calls k _ _ ae _ _ af t102 _ ?ai ?ah ?aq ?ao A2.out).mono ?_); (case ai => exact (Kd.Qh av.out HB.out)); (case ah => exact aw.out); (case aq => exact (Kd.Qh ay.out HB.out)); (case ao => exact ax.out); rintro e w12 ⟨rfl, hb⟩; refine ⟨_, rfl, ?_⟩; replace ab := aa.mk (Ql ab.out hb); replace HB := aa.mk (Qc bB hb); (try clear hb); (try clear hb2); (try clear hk); (try clear hi)))
    replace ab := aa.mk (Qx ab.out); replace HB := aa.mk (QN HB.out); refine Yg (n := 10) (S := fun w' => w'.cell? ⟨ag, 0, none⟩ = some (.slice ak ae.length an) ∧ w'.cell? ⟨ag, 1, none⟩ = some (.slice aj af.length al)) (ds := []) #[false, false, false, false, false, false, false, false, false, false] (by kernel_rfl) rfl rfl ⟨(Qb ab.out 0).trans rfl, (Qb ab.out 1).trans rfl⟩ (fun hHeld => ?_); refine ZO Q3.tab4 Q3.bits4 (fun HT_ HW_ => ?_); generalize w12.drew = w13 at ab HB hHeld ⊢; refine ZG (i := 0) (N := some 14) (v := ?_) (a' := ?_) #[true, false, false, false, false, false, false, false, false, false] rfl rfl (Zc HT_.out HW_.out (by kernel_rfl)) (fun _ _ _ h => h) (Or.inl ⟨by rfl, ?_⟩) hHeld ?_ ?_; rotate_left
    ·rintro w' ⟨s0, s1⟩; go_simp; with_reducible rfl
    rotate_left
    ·simp only [Act.put, zA, zB, zC, QB, QD]; rfl
    refine ZG (i := 2) (N := some 16) (v := ?_) (a' := ?_) #[true, false, true, false, false, false, false, false, false, false] rfl rfl (Zc HT_.out HW_.out (by kernel_rfl)) (fun _ _ _ h => h) (Or.inl ⟨by rfl, ?_⟩) hHeld ?_ ?_; rotate_left
    ·rintro w' ⟨s0, s1⟩; go_simp; with_reducible rfl
    rotate_left
    ·simp only [Act.put, zA, zB, zC, QB, QD]; rfl
    refine one_ (i := 1) (N := some 15) #[true, true, true, false, false, false, false, false, false, false] rfl rfl (ZR HT_.out (by kernel_rfl)) (by decide) (fun K hK => ?_); refine Y8 Try.func73 (by kernel_rfl) rfl #[.agg #[.slice ak ae.length an, .slice aj af.length al]] (by rfl) rfl rfl hA ?_; with_reducible refine (Zv.calls _ _ ae _ _ af t103 _ ?ai ?ah ?aq ?ao A4.out).mono ?_
    (case ai => exact (Kd.Qh av.out HB.out))
    (case ah => exact aw.out)
    (case aq => exact (Kd.Qh ay.out HB.out))
    (case ao => exact ax.out)
    rintro e w14 ⟨et, rfl, ho0, hb⟩; refine ⟨_, rfl, ?_⟩; have bm := aa.mk (Kd.Zb ho0 (Qe bB)); replace ab := aa.mk (Ql ab.out hb); replace HB := aa.mk (Qc bB hb); (try clear hb)
    (try clear hb2)
    (try clear hk)
    (try clear hi)
    (try clear ho0)
    refine hK.out _ _ ⟨(Qb ab.out 0).trans rfl, (Qb ab.out 1).trans rfl⟩ (fun hHeld => ?_); clear hK K; refine Z7 (a' := ?_) ?_ ?_; rotate_left
    ·show Act.put _ (some 15) _ = _
     simp only [Act.put, zA, zB, zC, QB, QD]; rfl
    refine one_ (i := 3) (N := some 17) #[true, true, true, true, false, false, false, false, false, false] rfl rfl (ZR HT_.out (by kernel_rfl)) (by decide) (fun K hK => ?_); refine Y8 Try.func71 (by kernel_rfl) rfl #[.agg #[.slice ak ae.length an, .slice aj af.length al]] (by rfl) rfl rfl hA ?_; with_reducible refine (QS.calls _ _ ae _ _ af t106 _ ?ai ?ah ?aq ?ao A5.out).mono ?_
    (case ai => exact (Kd.Qh av.out HB.out))
    (case ah => exact aw.out)
    (case aq => exact (Kd.Qh ay.out HB.out))
    (case ao => exact ax.out)
    rintro e w15 ⟨rfl, hb⟩; refine ⟨_, rfl, ?_⟩; replace bm := aa.mk (Kd.Zf bm.out hb); replace ab := aa.mk (Ql ab.out hb); replace HB := aa.mk (Qc bB hb); (try clear hb)
    (try clear hb2)
    (try clear hk)
    (try clear hi)
    obtain ⟨mB, my, oQ⟩ := Kd.Q9 bm.out; (first | subst oQ | (injection oQ with f1_ f2_ f3_; have f4_ := f1_.symm; have f5_ := f3_.symm; clear f1_ f2_ f3_; subst f4_; subst f5_))
    refine hK.out _ _ ⟨(Qb ab.out 0).trans rfl, (Qb ab.out 1).trans rfl⟩ (fun hHeld => ?_); clear hK K; refine Z7 (a' := ?_) ?_ ?_; rotate_left
    ·show Act.put _ (some 17) _ = _
     simp only [Act.put, zA, zB, zC, QB, QD]; rfl
    refine one_ (i := 4) (N := some 18) #[true, true, true, true, true, false, false, false, false, false] rfl rfl (ZR HT_.out (by kernel_rfl)) (by decide) (fun K hK => ?_); refine Y8 Try.func82 (by kernel_rfl) rfl #[.slice mB t103.length my, .int .i64 t106] (by rfl) rfl rfl hA ?_; with_reducible refine (Q7.calls _ _ t103 t106 t107 true _ ?ai ?ah A6.out).mono ?_
    (case ai => exact (Kd.QH bm.out).2.2)
    (case ah => exact (Kd.QH bm.out).2.1)
    rintro e w17 ⟨e6, rfl, ho0, hb⟩; refine ⟨_, rfl, ?_⟩; replace bm := aa.mk (Kd.Zf bm.out hb); have bl := aa.mk (Kd.Zb ho0 (Qe bB)); replace ab := aa.mk (Ql ab.out hb); replace HB := aa.mk (Qc bB hb); (try clear hb)
    (try clear hb2)
    (try clear hk)
    (try clear hi)
    (try clear ho0)
    refine hK.out _ _ ⟨(Qb ab.out 0).trans rfl, (Qb ab.out 1).trans rfl⟩ (fun hHeld => ?_); clear hK K; refine Z7 (a' := ?_) ?_ ?_; rotate_left
    ·show Act.put _ (some 18) _ = _
     simp only [Act.put, zA, zB, zC, QB, QD]; rfl
    refine QV (i := 5) (N := some 13) (v := ?_) (a' := ?_) #[true, true, true, true, true, true, false, false, false, false] rfl rfl (QL HT_.out (by kernel_rfl)) (fun _ _ _ h => h) (Or.inl ⟨by rfl, ?_⟩) ?_ ?_; rotate_left
    ·intro w'; go_simp; with_reducible rfl
    rotate_left
    ·simp only [Act.put, zA, zB, zC, QB, QD]; rfl
    refine QV (i := 6) (N := some 19) (v := ?_) (a' := ?_) #[true, true, true, true, true, true, true, false, false, false] rfl rfl (QL HT_.out (by kernel_rfl)) (fun _ _ _ h => h) (Or.inl ⟨by rfl, ?_⟩) ?_ ?_; rotate_left
    ·intro w'; go_simp; with_reducible rfl
    rotate_left
    ·simp only [Act.put, zA, zB, zC, QB, QD]; rfl
    refine QV (i := 7) (N := some 20) (v := ?_) (a' := ?_) #[true, true, true, true, true, true, true, true, false, false] rfl rfl (QL HT_.out (by kernel_rfl)) (fun _ _ _ h => h) (Or.inl ⟨by rfl, ?_⟩) ?_ ?_; rotate_left
    ·intro w'; go_simp; with_reducible rfl
    rotate_left
    ·simp only [Act.put, zA, zB, zC, QB, QD]; rfl
    refine QV (i := 8) (N := some 6) (v := ?_) (a' := ?_) #[true, true, true, true, true, true, true, true, true, false] rfl rfl (QL HT_.out (by kernel_rfl)) (fun _ _ _ h => h) (Or.inl ⟨by rfl, ?_⟩) ?_ ?_; rotate_left
    ·intro w'; go_simp; with_reducible rfl
    rotate_left
    ·simp only [Act.put, zA, zB, zC, QB, QD]; rfl
    refine QV (i := 9) (N := some 7) (v := ?_) (a' := ?_) #[true, true, true, true, true, true, true, true, true, true] rfl rfl (QL HT_.out (by kernel_rfl)) (fun _ _ _ h => h) (Or.inl ⟨by rfl, ?_⟩) ?_ ?_; rotate_left
    ·intro w'; go_simp; with_reducible rfl
    rotate_left
    ·simp only [Act.put, zA, zB, zC, QB, QD]; rfl
    refine YC (Z5 HT_.out (by kernel_rfl)) ?_; obtain ⟨xh, wR, uK⟩ := Kd.Q9 bl.out; subst uK; try go_wp2_with (first | (go_at_call 84; (with_reducible refine (Qi.calls k _ _ t107 t111 _ ?ai ?ah A8.out).mono ?_); (case ai => exact (Kd.QH bl.out).2.2); (case ah => exact (Kd.QH bl.out).2.1); rintro e w19 ⟨rfl, hb⟩; replace bm := aa.mk (Kd.Zf bm.out hb); replace bl := aa.mk (Kd.Zf bl.out hb); replace ab := aa.mk (Ql ab.out hb); replace HB := aa.mk (Qc bB hb); (try clear hb); (try clear hb2); (try clear hk); (try clear hi)))
    go_ret3
    exact ⟨_, by first | rfl | (simp [Qk, Qj] <;> rfl) | (simp [*, Qk, Qj] <;> rfl), by first | exact Kd.Yp _ _ _ _ _ | exact Kd.YU _ _ _ _ _ | exact Kd.V_nil _ _ _ _ _ | exact Kd.Q_nil _ _ _ _ _ | exact Kd.YZ _ _ _ _ _, bB⟩
   ·rw [if_neg c9] at H; have fA : decide (t111 ≤ 0) = false := decide_eq_false c9; clear c9; simp only [Option.some.injEq, Prod.mk.injEq] at H; obtain ⟨rfl, rfl, rfl⟩ := H; go_enter Try.func41, Try.ntmps41; try go_wp2_with (first | ((with_reducible refine QM (N := 1) rfl ?_); refine QU ?hg (N := 1) ?hd (cs := #[.slice ak ae.length an, .slice aj af.length al]) (t := 24) ?hr ?_; (case hd => rfl); (case hg => rfl); (case hr => first | (go_simp; done) | (go_simp; rfl)); intro ag hg w20 hbox hb; have ab := aa.mk (hbox); have ba := aa.mk ((by rw [hg]; exact (Qe bB) : w.heap.size ≤ ag)); have aN := aa.mk ((by rw [hg]; exact (Qe bB) : w.heap.size ≤ ag)); replace HB := aa.mk (Qc bB hb); clear hb hbox hg; have iu : w20.cell? ⟨ag, 0, none⟩ = some (.slice ak ae.length an) := (Qb ab.out 0).trans rfl; have ir : w20.cell? ⟨ag, 1, none⟩ = some (.slice aj af.length al) := (Qb ab.out 1).trans rfl; have il := Qa ab.out 0; have ik := Qa ab.out 1) | ((with_reducible refine Qf (f := 38) rfl ?_); refine QE (some 9) rfl rfl Try.func38 (by kernel_rfl) rfl #[.agg #[.slice ak ae.length an, .slice aj af.length al]] rfl hA ?_; (with_reducible refine (Qg.calls k _ _ ae _ _ af t102 _ ?ai ?ah ?aq ?ao A2.out).mono ?_); (case ai => exact (Kd.Qh av.out HB.out)); (case ah => exact aw.out); (case aq => exact (Kd.Qh ay.out HB.out)); (case ao => exact ax.out); rintro e w22 ⟨rfl, hb⟩; refine ⟨_, rfl, ?_⟩; replace ab := aa.mk (Ql ab.out hb); replace HB := aa.mk (Qc bB hb); (try clear hb); (try clear hb2); (try clear hk); (try clear hi)))
    replace ab := aa.mk (Qx ab.out); replace HB := aa.mk (QN HB.out); refine Yg (n := 10) (S := fun w' => w'.cell? ⟨ag, 0, none⟩ = some (.slice ak ae.length an) ∧ w'.cell? ⟨ag, 1, none⟩ = some (.slice aj af.length al)) (ds := []) #[false, false, false, false, false, false, false, false, false, false] (by kernel_rfl) rfl rfl ⟨(Qb ab.out 0).trans rfl, (Qb ab.out 1).trans rfl⟩ (fun hHeld => ?_); refine ZO Q3.tab4 Q3.bits4 (fun HT_ HW_ => ?_); generalize w22.drew = w23 at ab HB hHeld ⊢; refine ZG (i := 0) (N := some 14) (v := ?_) (a' := ?_) #[true, false, false, false, false, false, false, false, false, false] rfl rfl (Zc HT_.out HW_.out (by kernel_rfl)) (fun _ _ _ h => h) (Or.inl ⟨by rfl, ?_⟩) hHeld ?_ ?_; rotate_left
    ·rintro w' ⟨s0, s1⟩; go_simp; with_reducible rfl
    rotate_left
    ·simp only [Act.put, zA, zB, zC, QB, QD]; rfl
    refine ZG (i := 2) (N := some 16) (v := ?_) (a' := ?_) #[true, false, true, false, false, false, false, false, false, false] rfl rfl (Zc HT_.out HW_.out (by kernel_rfl)) (fun _ _ _ h => h) (Or.inl ⟨by rfl, ?_⟩) hHeld ?_ ?_; rotate_left
    ·rintro w' ⟨s0, s1⟩; go_simp; with_reducible rfl
    rotate_left
    ·simp only [Act.put, zA, zB, zC, QB, QD]; rfl
    refine one_ (i := 1) (N := some 15) #[true, true, true, false, false, false, false, false, false, false] rfl rfl (ZR HT_.out (by kernel_rfl)) (by decide) (fun K hK => ?_); refine Y8 Try.func73 (by kernel_rfl) rfl #[.agg #[.slice ak ae.length an, .slice aj af.length al]] (by rfl) rfl rfl hA ?_; with_reducible refine (Zv.calls _ _ ae _ _ af t103 _ ?ai ?ah ?aq ?ao A4.out).mono ?_
    (case ai => exact (Kd.Qh av.out HB.out))
    (case ah => exact aw.out)
    (case aq => exact (Kd.Qh ay.out HB.out))
    (case ao => exact ax.out)
    rintro e w24 ⟨et, rfl, ho0, hb⟩; refine ⟨_, rfl, ?_⟩; have bm := aa.mk (Kd.Zb ho0 (Qe bB)); replace ab := aa.mk (Ql ab.out hb); replace HB := aa.mk (Qc bB hb); (try clear hb)
    (try clear hb2)
    (try clear hk)
    (try clear hi)
    (try clear ho0)
    refine hK.out _ _ ⟨(Qb ab.out 0).trans rfl, (Qb ab.out 1).trans rfl⟩ (fun hHeld => ?_); clear hK K; refine Z7 (a' := ?_) ?_ ?_; rotate_left
    ·show Act.put _ (some 15) _ = _
     simp only [Act.put, zA, zB, zC, QB, QD]; rfl
    refine one_ (i := 3) (N := some 17) #[true, true, true, true, false, false, false, false, false, false] rfl rfl (ZR HT_.out (by kernel_rfl)) (by decide) (fun K hK => ?_); refine Y8 Try.func71 (by kernel_rfl) rfl #[.agg #[.slice ak ae.length an, .slice aj af.length al]] (by rfl) rfl rfl hA ?_; with_reducible refine (QS.calls _ _ ae _ _ af t106 _ ?ai ?ah ?aq ?ao A5.out).mono ?_
    (case ai => exact (Kd.Qh av.out HB.out))
    (case ah => exact aw.out)
    (case aq => exact (Kd.Qh ay.out HB.out))
    (case ao => exact ax.out)
    rintro e w25 ⟨rfl, hb⟩; refine ⟨_, rfl, ?_⟩; replace bm := aa.mk (Kd.Zf bm.out hb); replace ab := aa.mk (Ql ab.out hb); replace HB := aa.mk (Qc bB hb); (try clear hb)
    (try clear hb2)
    (try clear hk)
    (try clear hi)
    obtain ⟨vq, uU, rq⟩ := Kd.Q9 bm.out; (first | subst rq | (injection rq with f1_ f2_ f3_; have f4_ := f1_.symm; have f5_ := f3_.symm; clear f1_ f2_ f3_; subst f4_; subst f5_))
    refine hK.out _ _ ⟨(Qb ab.out 0).trans rfl, (Qb ab.out 1).trans rfl⟩ (fun hHeld => ?_); clear hK K; refine Z7 (a' := ?_) ?_ ?_; rotate_left
    ·show Act.put _ (some 17) _ = _
     simp only [Act.put, zA, zB, zC, QB, QD]; rfl
    refine one_ (i := 4) (N := some 18) #[true, true, true, true, true, false, false, false, false, false] rfl rfl (ZR HT_.out (by kernel_rfl)) (by decide) (fun K hK => ?_); refine Y8 Try.func82 (by kernel_rfl) rfl #[.slice vq t103.length uU, .int .i64 t106] (by rfl) rfl rfl hA ?_; with_reducible refine (Q7.calls _ _ t103 t106 t107 true _ ?ai ?ah A6.out).mono ?_
    (case ai => exact (Kd.QH bm.out).2.2)
    (case ah => exact (Kd.QH bm.out).2.1)
    rintro e w27 ⟨e6, rfl, ho0, hb⟩; refine ⟨_, rfl, ?_⟩; replace bm := aa.mk (Kd.Zf bm.out hb); have bl := aa.mk (Kd.Zb ho0 (Qe bB)); replace ab := aa.mk (Ql ab.out hb); replace HB := aa.mk (Qc bB hb); (try clear hb)
    (try clear hb2)
    (try clear hk)
    (try clear hi)
    (try clear ho0)
    refine hK.out _ _ ⟨(Qb ab.out 0).trans rfl, (Qb ab.out 1).trans rfl⟩ (fun hHeld => ?_); clear hK K; refine Z7 (a' := ?_) ?_ ?_; rotate_left
    ·show Act.put _ (some 18) _ = _
     simp only [Act.put, zA, zB, zC, QB, QD]; rfl
    refine QV (i := 5) (N := some 13) (v := ?_) (a' := ?_) #[true, true, true, true, true, true, false, false, false, false] rfl rfl (QL HT_.out (by kernel_rfl)) (fun _ _ _ h => h) (Or.inl ⟨by rfl, ?_⟩) ?_ ?_; rotate_left
    ·intro w'; go_simp; with_reducible rfl
    rotate_left
    ·simp only [Act.put, zA, zB, zC, QB, QD]; rfl
    refine QV (i := 6) (N := some 19) (v := ?_) (a' := ?_) #[true, true, true, true, true, true, true, false, false, false] rfl rfl (QL HT_.out (by kernel_rfl)) (fun _ _ _ h => h) (Or.inl ⟨by rfl, ?_⟩) ?_ ?_; rotate_left
    ·intro w'; go_simp; with_reducible rfl
    rotate_left
    ·simp only [Act.put, zA, zB, zC, QB, QD]; rfl
    refine QV (i := 7) (N := some 20) (v := ?_) (a' := ?_) #[true, true, true, true, true, true, true, true, false, false] rfl rfl (QL HT_.out (by kernel_rfl)) (fun _ _ _ h => h) (Or.inl ⟨by rfl, ?_⟩) ?_ ?_; rotate_left
    ·intro w'; go_simp; with_reducible rfl
    rotate_left
    ·simp only [Act.put, zA, zB, zC, QB, QD]; rfl
    refine QV (i := 8) (N := some 6) (v := ?_) (a' := ?_) #[true, true, true, true, true, true, true, true, true, false] rfl rfl (QL HT_.out (by kernel_rfl)) (fun _ _ _ h => h) (Or.inl ⟨by rfl, ?_⟩) ?_ ?_; rotate_left
    ·intro w'; go_simp; with_reducible rfl
    rotate_left
    ·simp only [Act.put, zA, zB, zC, QB, QD]; rfl
    refine QV (i := 9) (N := some 7) (v := ?_) (a' := ?_) #[true, true, true, true, true, true, true, true, true, true] rfl rfl (QL HT_.out (by kernel_rfl)) (fun _ _ _ h => h) (Or.inl ⟨by rfl, ?_⟩) ?_ ?_; rotate_left
    ·intro w'; go_simp; with_reducible rfl
    rotate_left
    ·simp only [Act.put, zA, zB, zC, QB, QD]; rfl
    refine YC (Z5 HT_.out (by kernel_rfl)) ?_; obtain ⟨nh, m2, mT⟩ := Kd.Q9 bl.out; subst mT; try go_wp2_with (first | (go_at_call 84; (with_reducible refine (Qi.calls k _ _ t107 t111 _ ?ai ?ah A8.out).mono ?_); (case ai => exact (Kd.QH bl.out).2.2); (case ah => exact (Kd.QH bl.out).2.1); rintro e w29 ⟨rfl, hb⟩; replace bm := aa.mk (Kd.Zf bm.out hb); replace bl := aa.mk (Kd.Zf bl.out hb); replace ab := aa.mk (Ql ab.out hb); replace HB := aa.mk (Qc bB hb); (try clear hb); (try clear hb2); (try clear hk); (try clear hi)))
    go_ret3
    exact ⟨_, by first | rfl | (simp [Qk, Qj] <;> rfl) | (simp [*, Qk, Qj] <;> rfl), by (with_reducible repeat (first | apply Kd.R_alloc | apply Kd.R_drewN | apply Kd.QX)); exact bl.out, bB⟩
  ·replace c7 := Bool.eq_false_iff.mpr c7; subst c7; have H1 : (some (([] : List Int), false, 0)) = some (r1, r2, r3) := by rw [if_neg (show ¬ (false = true) by decide)] at H; exact H
   clear H; have H := H1; clear H1; simp only [Option.some.injEq, Prod.mk.injEq] at H; obtain ⟨rfl, rfl, rfl⟩ := H; go_enter Try.func41, Try.ntmps41; try go_wp2_with (first | ((with_reducible refine QM (N := 1) rfl ?_); refine QU ?hg (N := 1) ?hd (cs := #[.slice ak ae.length an, .slice aj af.length al]) (t := 24) ?hr ?_; (case hd => rfl); (case hg => rfl); (case hr => first | (go_simp; done) | (go_simp; rfl)); intro ag hg w30 hbox hb; have ab := aa.mk (hbox); have ba := aa.mk ((by rw [hg]; exact (Qe bB) : w.heap.size ≤ ag)); have aN := aa.mk ((by rw [hg]; exact (Qe bB) : w.heap.size ≤ ag)); replace HB := aa.mk (Qc bB hb); clear hb hbox hg; have lV : w30.cell? ⟨ag, 0, none⟩ = some (.slice ak ae.length an) := (Qb ab.out 0).trans rfl; have lU : w30.cell? ⟨ag, 1, none⟩ = some (.slice aj af.length al) := (Qb ab.out 1).trans rfl; have lN := Qa ab.out 0; have lM := Qa ab.out 1) | ((with_reducible refine Qf (f := 38) rfl ?_); refine QE (some 9) rfl rfl Try.func38 (by kernel_rfl) rfl #[.agg #[.slice ak ae.length an, .slice aj af.length al]] rfl hA ?_; (with_reducible refine (Qg.calls k _ _ ae _ _ af t102 _ ?ai ?ah ?aq ?ao A2.out).mono ?_); (case ai => exact (Kd.Qh av.out HB.out)); (case ah => exact aw.out); (case aq => exact (Kd.Qh ay.out HB.out)); (case ao => exact ax.out); rintro e w32 ⟨rfl, hb⟩; refine ⟨_, rfl, ?_⟩; replace ab := aa.mk (Ql ab.out hb); replace HB := aa.mk (Qc bB hb); (try clear hb); (try clear hb2); (try clear hk); (try clear hi)))
   replace ab := aa.mk (Qx ab.out); replace HB := aa.mk (QN HB.out); refine Yg (n := 10) (S := fun w' => w'.cell? ⟨ag, 0, none⟩ = some (.slice ak ae.length an) ∧ w'.cell? ⟨ag, 1, none⟩ = some (.slice aj af.length al)) (ds := []) #[false, false, false, false, false, false, false, false, false, false] (by kernel_rfl) rfl rfl ⟨(Qb ab.out 0).trans rfl, (Qb ab.out 1).trans rfl⟩ (fun hHeld => ?_); refine ZO Q3.tab4 Q3.bits4 (fun HT_ HW_ => ?_); generalize w32.drew = w33 at ab HB hHeld ⊢; refine ZG (i := 0) (N := some 14) (v := ?_) (a' := ?_) #[true, false, false, false, false, false, false, false, false, false] rfl rfl (Zc HT_.out HW_.out (by kernel_rfl)) (fun _ _ _ h => h) (Or.inl ⟨by rfl, ?_⟩) hHeld ?_ ?_; rotate_left
   ·rintro w' ⟨s0, s1⟩; go_simp; with_reducible rfl
   rotate_left
   ·simp only [Act.put, zA, zB, zC, QB, QD]; rfl
   refine ZG (i := 2) (N := some 16) (v := ?_) (a' := ?_) #[true, false, true, false, false, false, false, false, false, false] rfl rfl (Zc HT_.out HW_.out (by kernel_rfl)) (fun _ _ _ h => h) (Or.inl ⟨by rfl, ?_⟩) hHeld ?_ ?_; rotate_left
   ·rintro w' ⟨s0, s1⟩; go_simp; with_reducible rfl
   rotate_left
   ·simp only [Act.put, zA, zB, zC, QB, QD]; rfl
   refine one_ (i := 1) (N := some 15) #[true, true, true, false, false, false, false, false, false, false] rfl rfl (ZR HT_.out (by kernel_rfl)) (by decide) (fun K hK => ?_); refine Y8 Try.func73 (by kernel_rfl) rfl #[.agg #[.slice ak ae.length an, .slice aj af.length al]] (by rfl) rfl rfl hA ?_; with_reducible refine (Zv.calls _ _ ae _ _ af t103 _ ?ai ?ah ?aq ?ao A4.out).mono ?_
   (case ai => exact (Kd.Qh av.out HB.out))
   (case ah => exact aw.out)
   (case aq => exact (Kd.Qh ay.out HB.out))
   (case ao => exact ax.out)
   rintro e w34 ⟨et, rfl, ho0, hb⟩; refine ⟨_, rfl, ?_⟩; have bm := aa.mk (Kd.Zb ho0 (Qe bB)); replace ab := aa.mk (Ql ab.out hb); replace HB := aa.mk (Qc bB hb); (try clear hb)
   (try clear hb2)
   (try clear hk)
   (try clear hi)
   (try clear ho0)
   refine hK.out _ _ ⟨(Qb ab.out 0).trans rfl, (Qb ab.out 1).trans rfl⟩ (fun hHeld => ?_); clear hK K; refine Z7 (a' := ?_) ?_ ?_; rotate_left
   ·show Act.put _ (some 15) _ = _
    simp only [Act.put, zA, zB, zC, QB, QD]; rfl
   refine one_ (i := 3) (N := some 17) #[true, true, true, true, false, false, false, false, false, false] rfl rfl (ZR HT_.out (by kernel_rfl)) (by decide) (fun K hK => ?_); refine Y8 Try.func71 (by kernel_rfl) rfl #[.agg #[.slice ak ae.length an, .slice aj af.length al]] (by rfl) rfl rfl hA ?_; with_reducible refine (QS.calls _ _ ae _ _ af t106 _ ?ai ?ah ?aq ?ao A5.out).mono ?_
   (case ai => exact (Kd.Qh av.out HB.out))
   (case ah => exact aw.out)
   (case aq => exact (Kd.Qh ay.out HB.out))
   (case ao => exact ax.out)
   rintro e w35 ⟨rfl, hb⟩; refine ⟨_, rfl, ?_⟩; replace bm := aa.mk (Kd.Zf bm.out hb); replace ab := aa.mk (Ql ab.out hb); replace HB := aa.mk (Qc bB hb); (try clear hb)
   (try clear hb2)
   (try clear hk)
   (try clear hi)
   obtain ⟨pd, oR, mv⟩ := Kd.Q9 bm.out; (first | subst mv | (injection mv with f1_ f2_ f3_; have f4_ := f1_.symm; have f5_ := f3_.symm; clear f1_ f2_ f3_; subst f4_; subst f5_))
   refine hK.out _ _ ⟨(Qb ab.out 0).trans rfl, (Qb ab.out 1).trans rfl⟩ (fun hHeld => ?_); clear hK K; refine Z7 (a' := ?_) ?_ ?_; rotate_left
   ·show Act.put _ (some 17) _ = _
    simp only [Act.put, zA, zB, zC, QB, QD]; rfl
   refine one_ (i := 4) (N := some 18) #[true, true, true, true, true, false, false, false, false, false] rfl rfl (ZR HT_.out (by kernel_rfl)) (by decide) (fun K hK => ?_); refine Y8 Try.func82 (by kernel_rfl) rfl #[.slice pd t103.length oR, .int .i64 t106] (by rfl) rfl rfl hA ?_; with_reducible refine (Q7.calls _ _ t103 t106 t107 false _ ?ai ?ah A6.out).mono ?_
   (case ai => exact (Kd.QH bm.out).2.2)
   (case ah => exact (Kd.QH bm.out).2.1)
   rintro e w37 ⟨e6, rfl, ho0, hb⟩; refine ⟨_, rfl, ?_⟩; replace bm := aa.mk (Kd.Zf bm.out hb); have bl := aa.mk (Kd.Zb ho0 (Qe bB)); replace ab := aa.mk (Ql ab.out hb); replace HB := aa.mk (Qc bB hb); (try clear hb)
   (try clear hb2)
   (try clear hk)
   (try clear hi)
   (try clear ho0)
   refine hK.out _ _ ⟨(Qb ab.out 0).trans rfl, (Qb ab.out 1).trans rfl⟩ (fun hHeld => ?_); clear hK K; refine Z7 (a' := ?_) ?_ ?_; rotate_left
   ·show Act.put _ (some 18) _ = _
    simp only [Act.put, zA, zB, zC, QB, QD]; rfl
   refine QV (i := 5) (N := some 13) (v := ?_) (a' := ?_) #[true, true, true, true, true, true, false, false, false, false] rfl rfl (QL HT_.out (by kernel_rfl)) (fun _ _ _ h => h) (Or.inl ⟨by rfl, ?_⟩) ?_ ?_; rotate_left
   ·intro w'; go_simp; with_reducible rfl
   rotate_left
   ·simp only [Act.put, zA, zB, zC, QB, QD]; rfl
   refine QV (i := 6) (N := some 19) (v := ?_) (a' := ?_) #[true, true, true, true, true, true, true, false, false, false] rfl rfl (QL HT_.out (by kernel_rfl)) (fun _ _ _ h => h) (Or.inl ⟨by rfl, ?_⟩) ?_ ?_; rotate_left
   ·intro w'; go_simp; with_reducible rfl
   rotate_left
   ·simp only [Act.put, zA, zB, zC, QB, QD]; rfl
   refine QV (i := 7) (N := some 20) (v := ?_) (a' := ?_) #[true, true, true, true, true, true, true, true, false, false] rfl rfl (QL HT_.out (by kernel_rfl)) (fun _ _ _ h => h) (Or.inl ⟨by rfl, ?_⟩) ?_ ?_; rotate_left
   ·intro w'; go_simp; with_reducible rfl
   rotate_left
   ·simp only [Act.put, zA, zB, zC, QB, QD]; rfl
   refine QV (i := 8) (N := some 6) (v := ?_) (a' := ?_) #[true, true, true, true, true, true, true, true, true, false] rfl rfl (QL HT_.out (by kernel_rfl)) (fun _ _ _ h => h) (Or.inl ⟨by rfl, ?_⟩) ?_ ?_; rotate_left
   ·intro w'; go_simp; with_reducible rfl
   rotate_left
   ·simp only [Act.put, zA, zB, zC, QB, QD]; rfl
   refine QV (i := 9) (N := some 7) (v := ?_) (a' := ?_) #[true, true, true, true, true, true, true, true, true, true] rfl rfl (QL HT_.out (by kernel_rfl)) (fun _ _ _ h => h) (Or.inl ⟨by rfl, ?_⟩) ?_ ?_; rotate_left
   ·intro w'; go_simp; with_reducible rfl
   rotate_left
   ·simp only [Act.put, zA, zB, zC, QB, QD]; rfl
   refine YC (Z5 HT_.out (by kernel_rfl)) ?_; try go_wp2
   go_ret3
   exact ⟨_, by first | rfl | (simp [Qk, Qj] <;> rfl) | (simp [*, Qk, Qj] <;> rfl), by first | exact Kd.Yp _ _ _ _ _ | exact Kd.YU _ _ _ _ _ | exact Kd.V_nil _ _ _ _ _ | exact Kd.Q_nil _ _ _ _ _ | exact Kd.YZ _ _ _ _ _, bB⟩
 ·rw [if_neg c3] at H; have bU : (t102 == 0) = false := beq_eq_false_iff_ne.mpr c3; have cE : (t102 != 0) = true := bne_iff_ne.mpr c3; simp only [Option.some.injEq, Prod.mk.injEq] at H; obtain ⟨rfl, rfl, rfl⟩ := H; go_enter Try.func41, Try.ntmps41; go_wp2_with (first | ((with_reducible refine QM (N := 1) rfl ?_); refine QU ?hg (N := 1) ?hd (cs := #[.slice ak ae.length an, .slice aj af.length al]) (t := 24) ?hr ?_; (case hd => rfl); (case hg => rfl); (case hr => first | (go_simp; done) | (go_simp; rfl)); intro ag hg w38 hbox hb; have ab := aa.mk (hbox); have ba := aa.mk ((by rw [hg]; exact (Qe bB) : w.heap.size ≤ ag)); have aN := aa.mk ((by rw [hg]; exact (Qe bB) : w.heap.size ≤ ag)); replace HB := aa.mk (Qc bB hb); clear hb hbox hg; have ot : w38.cell? ⟨ag, 0, none⟩ = some (.slice ak ae.length an) := (Qb ab.out 0).trans rfl; have oq : w38.cell? ⟨ag, 1, none⟩ = some (.slice aj af.length al) := (Qb ab.out 1).trans rfl; have nN := Qa ab.out 0; have nM := Qa ab.out 1) | ((with_reducible refine Qf (f := 38) rfl ?_); refine QE (some 9) rfl rfl Try.func38 (by kernel_rfl) rfl #[.agg #[.slice ak ae.length an, .slice aj af.length al]] rfl hA ?_; (with_reducible refine (Qg.calls k _ _ ae _ _ af t102 _ ?ai ?ah ?aq ?ao A2.out).mono ?_); (case ai => exact (Kd.Qh av.out HB.out)); (case ah => exact aw.out); (case aq => exact (Kd.Qh ay.out HB.out)); (case ao => exact ax.out); rintro e w40 ⟨rfl, hb⟩; refine ⟨_, rfl, ?_⟩; replace ab := aa.mk (Ql ab.out hb); replace HB := aa.mk (Qc bB hb); (try clear hb); (try clear hb2); (try clear hk); (try clear hi)))
  go_ret3
  exact ⟨_, by first | rfl | (simp [Qk, Qj] <;> rfl) | (simp [*, Qk, Qj] <;> rfl), by first | exact Kd.Yp _ _ _ _ _ | exact Kd.YU _ _ _ _ _ | exact Kd.V_nil _ _ _ _ _ | exact Kd.Q_nil _ _ _ _ _ | exact Kd.YZ _ _ _ _ _, bB⟩
def QQ.f (k : Nat)  : Option (Bool) := (Zn.f).bind fun kE => ((Q3.f k kE.1 kE.2).bind fun a8 => ((Zn.f).bind fun fv => ((QO.f k fv.1 fv.2 (([2, 1, 2] : List Int)) (([5, 9] : List Int))).bind fun cL => ((QG.f k (([(([1, 0] : List Int))] : List (List Int))) (([(([0, 1] : List Int))] : List (List Int))) (([1, (-1)] : List Int))).bind fun cH => (if a8.2.2 = 0 then (if a8.2.1 = true then ((Qp.f k a8.1 (([2, 1, 2] : List Int))).bind fun cx => (if cx = true then (if cL.2.2 = 0 then (if cL.1 = 2 then (some (cH == 0)) else (none)) else (none)) else (none))) else (none)) else (none))))))
theorem QQ.mono : ∀ k, LeO (QQ.f k ) (QQ.f (k + 1) ) := by
 intro  k; unfold QQ.f; repeat' first | (with_reducible exact QG.mono _ _ _ _) | (with_reducible exact QO.mono _ _ _ _ _) | (with_reducible exact Q3.mono _ _ _) | (with_reducible exact Qp.mono _ _ _) | (with_reducible exact LeO.refl _) | (with_reducible exact LeO.none _) | (with_reducible refine LeO.ite ?_ ?_) | (with_reducible refine LeO.bind ?_ (fun _ => ?_)) | exact QG.mono _ _ _ _ | exact QO.mono _ _ _ _ _ | exact Q3.mono _ _ _ | exact Qp.mono _ _ _ | exact LeO.none _ | refine LeO.ite ?_ ?_ | refine LeO.bind ?_ (fun _ => ?_)
set_option maxHeartbeats 8000000 in
set_option maxRecDepth 100000 in
theorem QQ.calls (k : Nat)  (r : Bool) (w : World) (h : QQ.f k  = some r) :
  Calls Try.prog 50 #[] w fun e w' => e = .returned (.bool r) ∧ Below w.heap.size w w' := by
 have dD := Try.underlying24; have HB := aa.mk (Below.refl w.heap.size w); have H : ((Zn.f).bind fun kE => ((Q3.f k kE.1 kE.2).bind fun a8 => ((Zn.f).bind fun fv => ((QO.f k fv.1 fv.2 (([2, 1, 2] : List Int)) (([5, 9] : List Int))).bind fun cL => ((QG.f k (([(([1, 0] : List Int))] : List (List Int))) (([(([0, 1] : List Int))] : List (List Int))) (([1, (-1)] : List Int))).bind fun cH => (if a8.2.2 = 0 then (if a8.2.1 = true then ((Qp.f k a8.1 (([2, 1, 2] : List Int))).bind fun cx => (if cx = true then (if cL.2.2 = 0 then (if cL.1 = 2 then (some (cH == 0)) else (none)) else (none)) else (none))) else (none)) else (none))))))) = some r := h; clear h; replace H := Option.bind_eq_some_iff.mp H; obtain ⟨⟨t101, t104⟩, A10, H⟩ := H; replace H : ((Q3.f k t101 t104).bind fun a8 => ((Zn.f).bind fun fv => ((QO.f k fv.1 fv.2 (([2, 1, 2] : List Int)) (([5, 9] : List Int))).bind fun cL => ((QG.f k (([(([1, 0] : List Int))] : List (List Int))) (([(([0, 1] : List Int))] : List (List Int))) (([1, (-1)] : List Int))).bind fun cH => (if a8.2.2 = 0 then (if a8.2.1 = true then ((Qp.f k a8.1 (([2, 1, 2] : List Int))).bind fun cx => (if cx = true then (if cL.2.2 = 0 then (if cL.1 = 2 then (some (cH == 0)) else (none)) else (none)) else (none))) else (none)) else (none)))))) = some r := H; have A1 := aa.mk A10; clear A10; replace H := Option.bind_eq_some_iff.mp H; obtain ⟨⟨t107, t110, t111⟩, A20, H⟩ := H; replace H : ((Zn.f).bind fun fv => ((QO.f k fv.1 fv.2 (([2, 1, 2] : List Int)) (([5, 9] : List Int))).bind fun cL => ((QG.f k (([(([1, 0] : List Int))] : List (List Int))) (([(([0, 1] : List Int))] : List (List Int))) (([1, (-1)] : List Int))).bind fun cH => (if t111 = 0 then (if t110 = true then ((Qp.f k t107 (([2, 1, 2] : List Int))).bind fun cx => (if cx = true then (if cL.2.2 = 0 then (if cL.1 = 2 then (some (cH == 0)) else (none)) else (none)) else (none))) else (none)) else (none))))) = some r := H; have A2 := aa.mk A20; clear A20; replace H := Option.bind_eq_some_iff.mp H; obtain ⟨⟨t112, t115⟩, A30, H⟩ := H; replace H : ((QO.f k t112 t115 (([2, 1, 2] : List Int)) (([5, 9] : List Int))).bind fun cL => ((QG.f k (([(([1, 0] : List Int))] : List (List Int))) (([(([0, 1] : List Int))] : List (List Int))) (([1, (-1)] : List Int))).bind fun cH => (if t111 = 0 then (if t110 = true then ((Qp.f k t107 (([2, 1, 2] : List Int))).bind fun cx => (if cx = true then (if cL.2.2 = 0 then (if cL.1 = 2 then (some (cH == 0)) else (none)) else (none)) else (none))) else (none)) else (none)))) = some r := H; have A3 := aa.mk A30; clear A30; obtain ⟨fO, kj⟩ : ∃ y_ : List Int, y_ = (([2, 1, 2] : List Int)) := ⟨_, rfl⟩; replace H : ((QO.f k t112 t115 fO (([5, 9] : List Int))).bind fun cL => ((QG.f k (([(([1, 0] : List Int))] : List (List Int))) (([(([0, 1] : List Int))] : List (List Int))) (([1, (-1)] : List Int))).bind fun cH => (if t111 = 0 then (if t110 = true then ((Qp.f k t107 (([2, 1, 2] : List Int))).bind fun cx => (if cx = true then (if cL.2.2 = 0 then (if cL.1 = 2 then (some (cH == 0)) else (none)) else (none)) else (none))) else (none)) else (none)))) = some r := by first | (rw [kj]; with_reducible exact H) | (have H2_ := (Option.bind_some _ _).symm.trans H; rw [kj]; with_reducible exact H2_) | (have H2_ := (Option.bind_some _ _).symm.trans H; with_reducible exact H2_) | with_reducible exact H | (rw [kj]; exact H) | exact H
 have pO := aa.mk kj; clear kj; obtain ⟨gI, ki⟩ : ∃ y_ : List Int, y_ = (([5, 9] : List Int)) := ⟨_, rfl⟩; replace H : ((QO.f k t112 t115 fO gI).bind fun cL => ((QG.f k (([(([1, 0] : List Int))] : List (List Int))) (([(([0, 1] : List Int))] : List (List Int))) (([1, (-1)] : List Int))).bind fun cH => (if t111 = 0 then (if t110 = true then ((Qp.f k t107 (([2, 1, 2] : List Int))).bind fun cx => (if cx = true then (if cL.2.2 = 0 then (if cL.1 = 2 then (some (cH == 0)) else (none)) else (none)) else (none))) else (none)) else (none)))) = some r := by first | (rw [ki]; with_reducible exact H) | (have H2_ := (Option.bind_some _ _).symm.trans H; rw [ki]; with_reducible exact H2_) | (have H2_ := (Option.bind_some _ _).symm.trans H; with_reducible exact H2_) | with_reducible exact H | (rw [ki]; exact H) | exact H
 have pN := aa.mk ki; clear ki; replace H := Option.bind_eq_some_iff.mp H; obtain ⟨⟨t124, t125, fF⟩, A40, H⟩ := H; replace H : ((QG.f k (([(([1, 0] : List Int))] : List (List Int))) (([(([0, 1] : List Int))] : List (List Int))) (([1, (-1)] : List Int))).bind fun cH => (if t111 = 0 then (if t110 = true then ((Qp.f k t107 (([2, 1, 2] : List Int))).bind fun cx => (if cx = true then (if fF = 0 then (if t124 = 2 then (some (cH == 0)) else (none)) else (none)) else (none))) else (none)) else (none))) = some r := H; have A4 := aa.mk A40; clear A40; obtain ⟨mo, kg⟩ : ∃ y_ : List Int, y_ = (([1, 0] : List Int)) := ⟨_, rfl⟩; replace H : ((QG.f k (([mo] : List (List Int))) (([(([0, 1] : List Int))] : List (List Int))) (([1, (-1)] : List Int))).bind fun cH => (if t111 = 0 then (if t110 = true then ((Qp.f k t107 (([2, 1, 2] : List Int))).bind fun cx => (if cx = true then (if fF = 0 then (if t124 = 2 then (some (cH == 0)) else (none)) else (none)) else (none))) else (none)) else (none))) = some r := by first | (rw [kg]; with_reducible exact H) | (have H2_ := (Option.bind_some _ _).symm.trans H; rw [kg]; with_reducible exact H2_) | (have H2_ := (Option.bind_some _ _).symm.trans H; with_reducible exact H2_) | with_reducible exact H | (rw [kg]; exact H) | exact H
 have pM := aa.mk kg; clear kg; obtain ⟨mj, kf⟩ : ∃ y_ : List (List Int), y_ = (([mo] : List (List Int))) := ⟨_, rfl⟩; replace H : ((QG.f k mj (([(([0, 1] : List Int))] : List (List Int))) (([1, (-1)] : List Int))).bind fun cH => (if t111 = 0 then (if t110 = true then ((Qp.f k t107 (([2, 1, 2] : List Int))).bind fun cx => (if cx = true then (if fF = 0 then (if t124 = 2 then (some (cH == 0)) else (none)) else (none)) else (none))) else (none)) else (none))) = some r := by first | (rw [kf]; with_reducible exact H) | (have H2_ := (Option.bind_some _ _).symm.trans H; rw [kf]; with_reducible exact H2_) | (have H2_ := (Option.bind_some _ _).symm.trans H; with_reducible exact H2_) | with_reducible exact H | (rw [kf]; exact H) | exact H
 have pL := aa.mk kf; clear kf; obtain ⟨mi, ke⟩ : ∃ y_ : List Int, y_ = (([0, 1] : List Int)) := ⟨_, rfl⟩; replace H : ((QG.f k mj (([mi] : List (List Int))) (([1, (-1)] : List Int))).bind fun cH => (if t111 = 0 then (if t110 = true then ((Qp.f k t107 (([2, 1, 2] : List Int))).bind fun cx => (if cx = true then (if fF = 0 then (if t124 = 2 then (some (cH == 0)) else (none)) else (none)) else (none))) else (none)) else (none))) = some r := by first | (rw [ke]; with_reducible exact H) | (have H2_ := (Option.bind_some _ _).symm.trans H; rw [ke]; with_reducible exact H2_) | (have H2_ := (Option.bind_some _ _).symm.trans H; with_reducible exact H2_) | with_reducible exact H | (rw [ke]; exact H) | exact H
 have pK := aa.mk ke; clear ke; obtain ⟨np, kc⟩ : ∃ y_ : List (List Int), y_ = (([mi] : List (List Int))) := ⟨_, rfl⟩; replace H : ((QG.f k mj np (([1, (-1)] : List Int))).bind fun cH => (if t111 = 0 then (if t110 = true then ((Qp.f k t107 (([2, 1, 2] : List Int))).bind fun cx => (if cx = true then (if fF = 0 then (if t124 = 2 then (some (cH == 0)) else (none)) else (none)) else (none))) else (none)) else (none))) = some r := by first | (rw [kc]; with_reducible exact H) | (have H2_ := (Option.bind_some _ _).symm.trans H; rw [kc]; with_reducible exact H2_) | (have H2_ := (Option.bind_some _ _).symm.trans H; with_reducible exact H2_) | with_reducible exact H | (rw [kc]; exact H) | exact H
 have pJ := aa.mk kc; clear kc; obtain ⟨pR, kb⟩ : ∃ y_ : List Int, y_ = (([1, (-1)] : List Int)) := ⟨_, rfl⟩; replace H : ((QG.f k mj np pR).bind fun cH => (if t111 = 0 then (if t110 = true then ((Qp.f k t107 (([2, 1, 2] : List Int))).bind fun cx => (if cx = true then (if fF = 0 then (if t124 = 2 then (some (cH == 0)) else (none)) else (none)) else (none))) else (none)) else (none))) = some r := by first | (rw [kb]; with_reducible exact H) | (have H2_ := (Option.bind_some _ _).symm.trans H; rw [kb]; with_reducible exact H2_) | (have H2_ := (Option.bind_some _ _).symm.trans H; with_reducible exact H2_) | with_reducible exact H | (rw [kb]; exact H) | exact H
 have pI := aa.mk kb; clear kb; replace H := Option.bind_eq_some_iff.mp H; obtain ⟨cH, A50, H⟩ := H; replace H : (if t111 = 0 then (if t110 = true then ((Qp.f k t107 (([2, 1, 2] : List Int))).bind fun cx => (if cx = true then (if fF = 0 then (if t124 = 2 then (some (cH == 0)) else (none)) else (none)) else (none))) else (none)) else (none)) = some r := H; have A5 := aa.mk A50; clear A50; by_cases c6 : t111 = 0
 ·rw [if_pos c6] at H; have hU : (t111 == 0) = true := beq_iff_eq.mpr c6; have mA : (t111 != 0) = false := bne_eq_false_iff_eq.mpr c6; clear c6; by_cases c7 : t110 = true
  ·subst c7; have H1 : ((Qp.f k t107 (([2, 1, 2] : List Int))).bind fun cx => (if cx = true then (if fF = 0 then (if t124 = 2 then (some (cH == 0)) else (none)) else (none)) else (none))) = some r := by rw [if_pos rfl] at H; exact H
   clear H; have H := H1; clear H1; obtain ⟨qW, ka⟩ : ∃ y_ : List Int, y_ = (([2, 1, 2] : List Int)) := ⟨_, rfl⟩; replace H : ((Qp.f k t107 qW).bind fun cx => (if cx = true then (if fF = 0 then (if t124 = 2 then (some (cH == 0)) else (none)) else (none)) else (none))) = some r := by first | (rw [ka]; with_reducible exact H) | (have H2_ := (Option.bind_some _ _).symm.trans H; rw [ka]; with_reducible exact H2_) | (have H2_ := (Option.bind_some _ _).symm.trans H; with_reducible exact H2_) | with_reducible exact H | (rw [ka]; exact H) | exact H
   have pH := aa.mk ka; clear ka; replace H := Option.bind_eq_some_iff.mp H; obtain ⟨cx, A80, H⟩ := H; replace H : (if cx = true then (if fF = 0 then (if t124 = 2 then (some (cH == 0)) else (none)) else (none)) else (none)) = some r := H; have A8 := aa.mk A80; clear A80; by_cases c9 : cx = true
   ·subst c9; have H1 : (if fF = 0 then (if t124 = 2 then (some (cH == 0)) else (none)) else (none)) = some r := by rw [if_pos rfl] at H; exact H
    clear H; have H := H1; clear H1; by_cases c10 : fF = 0
    ·rw [if_pos c10] at H; have eQ : (fF == 0) = true := beq_iff_eq.mpr c10; have iK : (fF != 0) = false := bne_eq_false_iff_eq.mpr c10; clear c10; by_cases c11 : t124 = 2
     ·rw [if_pos c11] at H; have dV : (t124 == 2) = true := beq_iff_eq.mpr c11; have vU : (t124 != 2) = false := bne_eq_false_iff_eq.mpr c11; clear c11; obtain rfl := Option.some.inj H; go_enter Try.func50, Try.ntmps50; go_wp2_with (first | ((with_reducible refine Qf (f := 91) rfl ?_); refine QE (some 9) rfl rfl Try.func91 (by kernel_rfl) rfl #[] rfl hA ?_; (with_reducible refine (Zn.calls  t101 t104 _ A1.out).mono ?_); rintro e w12 ⟨kK, mr, rfl, ho0, ho1, hb⟩; refine ⟨_, rfl, ?_⟩; have bh := aa.mk (Kd.Ya (Kd.ZT (ok' := fun k_ => some k_ ≠ (mr : Value).ownBlock) ho0 (fun k_ hk_ => hk_.2)) (Qe bB)); have bk := aa.mk (Kd.Ya (Kd.ZT (ok' := fun k_ => some k_ ≠ (kK : Value).ownBlock) ho1 (fun k_ hk_ => hk_.2)) (Qe bB)); replace HB := aa.mk (Qc bB hb); (try clear hb); (try clear hb2); (try clear hk); (try clear hi); (try clear ho0); (try clear ho1); obtain ⟨gW, gS, uN⟩ := Kd.ZX bh.out; subst uN; obtain ⟨gV, gR, uM⟩ := Kd.ZX bk.out; subst uM) | ((with_reducible refine Qf (f := 41) rfl ?_); refine QE (some 10) rfl rfl Try.func41 (by kernel_rfl) rfl #[.agg #[.slice gW t101.length gS, .slice gV t104.length gR]] rfl hA ?_; (with_reducible refine (Q3.calls k _ _ t101 _ _ t104 t107 true t111 _ ?ai ?ah ?aq ?ao A2.out).mono ?_); (case ai => exact (Kd.Za bh.out).2.2); (case ah => exact (Kd.Za bh.out).2.1); (case aq => exact (Kd.Za bk.out).2.2); (case ao => exact (Kd.Za bk.out).2.1); rintro e w15 ⟨cK, rfl, ho0, hb⟩; refine ⟨_, rfl, ?_⟩; replace bh := aa.mk (Kd.Q4 bh.out (Kd.QY ho0) hb); replace bk := aa.mk (Kd.Q4 bk.out (Kd.QY ho0) hb); have aT := aa.mk (Kd.Zb ho0 (Qe bB)); replace HB := aa.mk (Qc bB hb); (try clear hb); (try clear hb2); (try clear hk); (try clear hi); (try clear ho0)) | ((with_reducible refine Qf (f := 91) rfl ?_); refine QE (some 15) rfl rfl Try.func91 (by kernel_rfl) rfl #[] rfl hA ?_; (with_reducible refine (Zn.calls  t112 t115 _ A3.out).mono ?_); rintro e w16 ⟨mE, tS, rfl, ho0, ho1, hb⟩; refine ⟨_, rfl, ?_⟩; have bQ := aa.mk (Kd.Ya (Kd.ZT (ok' := fun k_ => some k_ ≠ (tS : Value).ownBlock ∧ some k_ ≠ (.slice gW t101.length gS : Value).ownBlock ∧ some k_ ≠ (.slice gV t104.length gR : Value).ownBlock ∧ some k_ ≠ (cK : Value).ownBlock) ho0 (fun k_ hk_ => ⟨hk_.2, (Kd.fresh' (Kd.N_lt bh.out) k_ hk_.1), (Kd.fresh' (Kd.N_lt bk.out) k_ hk_.1), (Kd.fresh' (Kd.R_lt aT.out) k_ hk_.1)⟩)) (Qe bB)); have bW := aa.mk (Kd.Ya (Kd.ZT (ok' := fun k_ => some k_ ≠ (mE : Value).ownBlock ∧ some k_ ≠ (.slice gW t101.length gS : Value).ownBlock ∧ some k_ ≠ (.slice gV t104.length gR : Value).ownBlock ∧ some k_ ≠ (cK : Value).ownBlock) ho1 (fun k_ hk_ => ⟨hk_.2, (Kd.fresh' (Kd.N_lt bh.out) k_ hk_.1), (Kd.fresh' (Kd.N_lt bk.out) k_ hk_.1), (Kd.fresh' (Kd.R_lt aT.out) k_ hk_.1)⟩)) (Qe bB)); replace bh := aa.mk (Kd.ZT (Kd.Jb (Kd.Jb (Kd.N_old bh.out hb) (Kd.ZZ ho0)) (Kd.ZZ ho1)) (fun _ h_ => h_.1)); replace bk := aa.mk (Kd.ZT (Kd.Jb (Kd.Jb (Kd.N_old bk.out hb) (Kd.ZZ ho0)) (Kd.ZZ ho1)) (fun _ h_ => h_.1)); replace aT := aa.mk (Kd.Zf aT.out hb); replace HB := aa.mk (Qc bB hb); (try clear hb); (try clear hb2); (try clear hk); (try clear hi); (try clear ho0); (try clear ho1)) | ((with_reducible refine QM (N := 16) rfl ?_); (try (refine ZE (by rfl) ?_; dsimp only)); refine Kd.YH (Kd.int .i64) _ 3 ?hg (N := 16) ?hd (xs := ([2, 1, 2] : List Int)) (inner := [.int .i64 2, .int .i64 1, .int .i64 2]) (ok := fun _ => True) (okp := fun _ => True) ?hr ?hp (fun _ hk => hk) trivial (Below.refl _ _) (Nat.le_refl _) (by simp) ?_; (case hd => rfl); (case hg => rfl); (case hr => first | (go_simp; done) | (go_simp; rfl)); (case hp => exact (Reps.one (show Kd.M (Kd.int .i64) _ _ _ 2 [.int .i64 2] from rfl) (Reps.one (show Kd.M (Kd.int .i64) _ _ _ 1 [.int .i64 1] from rfl) (Reps.one (show Kd.M (Kd.int .i64) _ _ _ 2 [.int .i64 2] from rfl) (Reps.none _ _))))); intro wu w17 e0 hb hg_ hnew_; clear hg_ hnew_; (first | rw [← pO.out] at e0 | (simp only [Int.reduceToNat] at e0; rw [← pO.out] at e0)); replace bh := aa.mk (Kd.Q4 bh.out (Kd.QY e0) hb); replace bk := aa.mk (Kd.Q4 bk.out (Kd.QY e0) hb); replace bQ := aa.mk (Kd.Q4 bQ.out (Kd.QY e0) hb); replace bW := aa.mk (Kd.Q4 bW.out (Kd.QY e0) hb); have bV := aa.mk (Kd.Zb (Kd.Zy e0 (Kd.R_lt aT.out)) (Qe bB)); replace aT := aa.mk (Kd.Zj aT.out (Kd.QY e0) hb); replace HB := aa.mk (Qc bB hb); clear hb e0) | ((with_reducible refine QM (N := 17) rfl ?_); (try (refine ZE (by rfl) ?_; dsimp only)); refine Kd.YH (Kd.int .i64) _ 3 ?hg (N := 17) ?hd (xs := ([5, 9] : List Int)) (inner := [.int .i64 5, .int .i64 9]) (ok := fun _ => True) (okp := fun _ => True) ?hr ?hp (fun _ hk => hk) trivial (Below.refl _ _) (Nat.le_refl _) (by simp) ?_; (case hd => rfl); (case hg => rfl); (case hr => first | (go_simp; done) | (go_simp; rfl)); (case hp => exact (Reps.one (show Kd.M (Kd.int .i64) _ _ _ 5 [.int .i64 5] from rfl) (Reps.one (show Kd.M (Kd.int .i64) _ _ _ 9 [.int .i64 9] from rfl) (Reps.none _ _)))); intro wo w19 iy hb hg_ hnew_; clear hg_ hnew_; (first | rw [← pN.out] at iy | (simp only [Int.reduceToNat] at iy; rw [← pN.out] at iy)); replace bh := aa.mk (Kd.Q4 bh.out (Kd.QY iy) hb); replace bk := aa.mk (Kd.Q4 bk.out (Kd.QY iy) hb); replace bQ := aa.mk (Kd.Q4 bQ.out (Kd.QY iy) hb); replace bW := aa.mk (Kd.Q4 bW.out (Kd.QY iy) hb); have b0 := aa.mk (Kd.Zb (Kd.Zy (Kd.Zy iy (Kd.R_lt aT.out)) (Kd.R_lt bV.out)) (Qe bB)); replace aT := aa.mk (Kd.Zj aT.out (Kd.QY iy) hb); replace bV := aa.mk (Kd.Zj bV.out (Kd.QY iy) hb); replace HB := aa.mk (Qc bB hb); clear hb iy; obtain ⟨hZ, hP, qA⟩ := Kd.ZX bQ.out; subst qA; obtain ⟨gU, gQ, mU⟩ := Kd.ZX bW.out; subst mU; obtain ⟨hY, gP, mw⟩ := Kd.Q9 bV.out; subst mw; obtain ⟨gT, gB, kx⟩ := Kd.Q9 b0.out; subst kx) | ((with_reducible refine Qf (f := 46) rfl ?_); refine QE (some 18) rfl rfl Try.func46 (by kernel_rfl) rfl #[.agg #[.slice hZ t112.length hP, .slice gU t115.length gQ], .slice hY fO.length gP, .slice gT gI.length gB] rfl hA ?_; (with_reducible refine (QO.calls k _ _ t112 _ _ t115 _ _ fO _ _ gI t124 t125 fF _ ?ai ?ah ?aq ?ao ?aK ?aJ ?j6 ?j5 A4.out).mono ?_); (case ai => exact (Kd.Za bQ.out).2.2); (case ah => exact (Kd.Za bQ.out).2.1); (case aq => exact (Kd.Za bW.out).2.2); (case ao => exact (Kd.Za bW.out).2.1); (case aK => exact (Kd.QH bV.out).2.2); (case aJ => exact (Kd.QH bV.out).2.1); (case j6 => exact (Kd.QH b0.out).2.2); (case j5 => exact (Kd.QH b0.out).2.1); rintro e w25 ⟨iZ, rfl, ho0, hb⟩; refine ⟨_, rfl, ?_⟩; replace bh := aa.mk (Kd.Q4 bh.out (Kd.QY ho0) hb); replace bk := aa.mk (Kd.Q4 bk.out (Kd.QY ho0) hb); replace bQ := aa.mk (Kd.Q4 bQ.out (Kd.QY ho0) hb); replace bW := aa.mk (Kd.Q4 bW.out (Kd.QY ho0) hb); have cM := aa.mk (Kd.Zb (Kd.Zy (Kd.Zy (Kd.Zy ho0 (Kd.R_lt aT.out)) (Kd.R_lt bV.out)) (Kd.R_lt b0.out)) (Qe bB)); replace aT := aa.mk (Kd.Zj aT.out (Kd.QY ho0) hb); replace bV := aa.mk (Kd.Zj bV.out (Kd.QY ho0) hb); replace b0 := aa.mk (Kd.Zj b0.out (Kd.QY ho0) hb); replace HB := aa.mk (Qc bB hb); (try clear hb); (try clear hb2); (try clear hk); (try clear hi); (try clear ho0)) | ((with_reducible refine QM (N := 22) rfl ?_); (try (refine ZE (by rfl) ?_; dsimp only)); refine Kd.YH (Kd.int .i64) _ 3 ?hg (N := 22) ?hd (xs := ([1, 0] : List Int)) (inner := [.int .i64 1, .int .i64 0]) (ok := fun _ => True) (okp := fun _ => True) ?hr ?hp (fun _ hk => hk) trivial (Below.refl _ _) (Nat.le_refl _) (by simp) ?_; (case hd => rfl); (case hg => rfl); (case hr => first | (go_simp; done) | (go_simp; rfl)); (case hp => exact (Reps.one (show Kd.M (Kd.int .i64) _ _ _ 1 [.int .i64 1] from rfl) (Reps.one (show Kd.M (Kd.int .i64) _ _ _ 0 [.int .i64 0] from rfl) (Reps.none _ _)))); intro wm w26 gN hb hg_ hnew_; clear hg_ hnew_; (first | rw [← pM.out] at gN | (simp only [Int.reduceToNat] at gN; rw [← pM.out] at gN)); replace bh := aa.mk (Kd.Q4 bh.out (Kd.QY gN) hb); replace bk := aa.mk (Kd.Q4 bk.out (Kd.QY gN) hb); replace bQ := aa.mk (Kd.Q4 bQ.out (Kd.QY gN) hb); replace bW := aa.mk (Kd.Q4 bW.out (Kd.QY gN) hb); have mf := aa.mk (Kd.Zb (Kd.Zy (Kd.Zy (Kd.Zy (Kd.Zy gN (Kd.R_lt aT.out)) (Kd.R_lt bV.out)) (Kd.R_lt b0.out)) (Kd.R_lt cM.out)) (Qe bB)); replace aT := aa.mk (Kd.Zj aT.out (Kd.QY gN) hb); replace bV := aa.mk (Kd.Zj bV.out (Kd.QY gN) hb); replace b0 := aa.mk (Kd.Zj b0.out (Kd.QY gN) hb); replace cM := aa.mk (Kd.Zj cM.out (Kd.QY gN) hb); replace HB := aa.mk (Qc bB hb); clear hb gN; obtain ⟨nh, m2, mT⟩ := Kd.Q9 mf.out; subst mT) | ((with_reducible refine QM (N := 23) rfl ?_); (try (refine ZE (by rfl) ?_; dsimp only)); refine Kd.N_lit (Kd.slice 3 (Kd.int .i64)) _ 28 ?hg (N' := 23) ?hd (xs := ([mo] : List (List Int))) (inner := [.slice nh mo.length m2]) (ok := (fun k_ => some k_ ≠ (.slice gW t101.length gS : Value).ownBlock ∧ some k_ ≠ (.slice gV t104.length gR : Value).ownBlock ∧ some k_ ≠ (cK : Value).ownBlock ∧ some k_ ≠ (.slice hZ t112.length hP : Value).ownBlock ∧ some k_ ≠ (.slice gU t115.length gQ : Value).ownBlock ∧ some k_ ≠ (.slice hY fO.length gP : Value).ownBlock ∧ some k_ ≠ (.slice gT gI.length gB : Value).ownBlock ∧ some k_ ≠ (iZ : Value).ownBlock)) (okp := (fun k_ => some k_ ≠ (.slice gW t101.length gS : Value).ownBlock ∧ some k_ ≠ (.slice gV t104.length gR : Value).ownBlock ∧ some k_ ≠ (cK : Value).ownBlock ∧ some k_ ≠ (.slice hZ t112.length hP : Value).ownBlock ∧ some k_ ≠ (.slice gU t115.length gQ : Value).ownBlock ∧ some k_ ≠ (.slice hY fO.length gP : Value).ownBlock ∧ some k_ ≠ (.slice gT gI.length gB : Value).ownBlock ∧ some k_ ≠ (iZ : Value).ownBlock)) ?hr ?hp (fun _ hk => hk) ((show ∀ k_, w26.heap.size ≤ k_ → (fun k_ => some k_ ≠ (.slice gW t101.length gS : Value).ownBlock ∧ some k_ ≠ (.slice gV t104.length gR : Value).ownBlock ∧ some k_ ≠ (cK : Value).ownBlock ∧ some k_ ≠ (.slice hZ t112.length hP : Value).ownBlock ∧ some k_ ≠ (.slice gU t115.length gQ : Value).ownBlock ∧ some k_ ≠ (.slice hY fO.length gP : Value).ownBlock ∧ some k_ ≠ (.slice gT gI.length gB : Value).ownBlock ∧ some k_ ≠ (iZ : Value).ownBlock) k_ from fun k_ hk => ⟨Kd.fresh' (Kd.N_lt bh.out) k_ hk, Kd.fresh' (Kd.N_lt bk.out) k_ hk, Kd.fresh' (Kd.R_lt aT.out) k_ hk, Kd.fresh' (Kd.N_lt bQ.out) k_ hk, Kd.fresh' (Kd.N_lt bW.out) k_ hk, Kd.fresh' (Kd.R_lt bV.out) k_ hk, Kd.fresh' (Kd.R_lt b0.out) k_ hk, Kd.fresh' (Kd.R_lt cM.out) k_ hk⟩) _ (Nat.le_refl _)) (Below.refl _ _) (Nat.le_refl _) (by simp) ?_; (case hd => rfl); (case hg => rfl); (case hr => first | (go_simp; done) | (go_simp; rfl)); (case hp => exact (Reps.one (show Kd.FK (Kd.slice 3 (Kd.int .i64)) _ _ mo [.slice nh mo.length m2] from (Kd.Yq (Kd.QH (Kd.Zl (ok' := (fun k_ => some k_ ≠ (.slice gW t101.length gS : Value).ownBlock ∧ some k_ ≠ (.slice gV t104.length gR : Value).ownBlock ∧ some k_ ≠ (cK : Value).ownBlock ∧ some k_ ≠ (.slice hZ t112.length hP : Value).ownBlock ∧ some k_ ≠ (.slice gU t115.length gQ : Value).ownBlock ∧ some k_ ≠ (.slice hY fO.length gP : Value).ownBlock ∧ some k_ ≠ (.slice gT gI.length gB : Value).ownBlock ∧ some k_ ≠ (iZ : Value).ownBlock)) (Kd.Zx (Kd.Zx (Kd.Zx (Kd.Zx (mf.out) (Kd.ZP bh.out) (by decide)) (Kd.ZP bk.out) (by decide)) (Kd.ZP bQ.out) (by decide)) (Kd.ZP bW.out) (by decide)) (fun k_ hk => ⟨hk.1.1.1.2, ⟨hk.1.1.2, ⟨hk.1.1.1.1.1.1.1.2, ⟨hk.1.2, ⟨hk.2, ⟨hk.1.1.1.1.1.1.2, ⟨hk.1.1.1.1.1.2, hk.1.1.1.1.2⟩⟩⟩⟩⟩⟩⟩))).2.1 (Kd.R_F (Kd.Zl (ok' := (fun k_ => some k_ ≠ (.slice gW t101.length gS : Value).ownBlock ∧ some k_ ≠ (.slice gV t104.length gR : Value).ownBlock ∧ some k_ ≠ (cK : Value).ownBlock ∧ some k_ ≠ (.slice hZ t112.length hP : Value).ownBlock ∧ some k_ ≠ (.slice gU t115.length gQ : Value).ownBlock ∧ some k_ ≠ (.slice hY fO.length gP : Value).ownBlock ∧ some k_ ≠ (.slice gT gI.length gB : Value).ownBlock ∧ some k_ ≠ (iZ : Value).ownBlock)) (Kd.Zx (Kd.Zx (Kd.Zx (Kd.Zx (mf.out) (Kd.ZP bh.out) (by decide)) (Kd.ZP bk.out) (by decide)) (Kd.ZP bQ.out) (by decide)) (Kd.ZP bW.out) (by decide)) (fun k_ hk => ⟨hk.1.1.1.2, ⟨hk.1.1.2, ⟨hk.1.1.1.1.1.1.1.2, ⟨hk.1.2, ⟨hk.2, ⟨hk.1.1.1.1.1.1.2, ⟨hk.1.1.1.1.1.2, hk.1.1.1.1.2⟩⟩⟩⟩⟩⟩⟩))))) (Reps.none _ _))); intro mD w29 jx hb hg_ hnew_; clear hg_ hnew_; (first | rw [← pL.out] at jx | (simp only [Int.reduceToNat] at jx; rw [← pL.out] at jx)); replace bh := aa.mk (Kd.Q4 bh.out (Kd.ZZ jx) hb); replace bk := aa.mk (Kd.Q4 bk.out (Kd.ZZ jx) hb); replace aT := aa.mk (Kd.Zf aT.out hb); replace bQ := aa.mk (Kd.Q4 bQ.out (Kd.ZZ jx) hb); replace bW := aa.mk (Kd.Q4 bW.out (Kd.ZZ jx) hb); replace bV := aa.mk (Kd.Zf bV.out hb); replace b0 := aa.mk (Kd.Zf b0.out hb); replace cM := aa.mk (Kd.Zf cM.out hb); have dy := aa.mk (Kd.Ya jx (Qe bB)); replace HB := aa.mk (Qc bB hb); clear mf; clear hb jx) | ((with_reducible refine QM (N := 24) rfl ?_); (try (refine ZE (by rfl) ?_; dsimp only)); refine Kd.YH (Kd.int .i64) _ 3 ?hg (N := 24) ?hd (xs := ([0, 1] : List Int)) (inner := [.int .i64 0, .int .i64 1]) (ok := fun _ => True) (okp := fun _ => True) ?hr ?hp (fun _ hk => hk) trivial (Below.refl _ _) (Nat.le_refl _) (by simp) ?_; (case hd => rfl); (case hg => rfl); (case hr => first | (go_simp; done) | (go_simp; rfl)); (case hp => exact (Reps.one (show Kd.M (Kd.int .i64) _ _ _ 0 [.int .i64 0] from rfl) (Reps.one (show Kd.M (Kd.int .i64) _ _ _ 1 [.int .i64 1] from rfl) (Reps.none _ _)))); intro wk w31 fS hb hg_ hnew_; clear hg_ hnew_; (first | rw [← pK.out] at fS | (simp only [Int.reduceToNat] at fS; rw [← pK.out] at fS)); replace bh := aa.mk (Kd.Q4 bh.out (Kd.QY fS) hb); replace bk := aa.mk (Kd.Q4 bk.out (Kd.QY fS) hb); replace bQ := aa.mk (Kd.Q4 bQ.out (Kd.QY fS) hb); replace bW := aa.mk (Kd.Q4 bW.out (Kd.QY fS) hb); replace dy := aa.mk (Kd.Q4 dy.out (Kd.QY fS) hb); have me := aa.mk (Kd.Zb (Kd.Zy (Kd.Zy (Kd.Zy (Kd.Zy fS (Kd.R_lt aT.out)) (Kd.R_lt bV.out)) (Kd.R_lt b0.out)) (Kd.R_lt cM.out)) (Qe bB)); replace aT := aa.mk (Kd.Zj aT.out (Kd.QY fS) hb); replace bV := aa.mk (Kd.Zj bV.out (Kd.QY fS) hb); replace b0 := aa.mk (Kd.Zj b0.out (Kd.QY fS) hb); replace cM := aa.mk (Kd.Zj cM.out (Kd.QY fS) hb); replace HB := aa.mk (Qc bB hb); clear hb fS; obtain ⟨sr, rA, uH⟩ := Kd.Q9 me.out; subst uH) | ((with_reducible refine QM (N := 25) rfl ?_); (try (refine ZE (by rfl) ?_; dsimp only)); refine Kd.N_lit (Kd.slice 3 (Kd.int .i64)) _ 28 ?hg (N' := 25) ?hd (xs := ([mi] : List (List Int))) (inner := [.slice sr mi.length rA]) (ok := (fun k_ => some k_ ≠ (.slice gW t101.length gS : Value).ownBlock ∧ some k_ ≠ (.slice gV t104.length gR : Value).ownBlock ∧ some k_ ≠ (cK : Value).ownBlock ∧ some k_ ≠ (.slice hZ t112.length hP : Value).ownBlock ∧ some k_ ≠ (.slice gU t115.length gQ : Value).ownBlock ∧ some k_ ≠ (.slice hY fO.length gP : Value).ownBlock ∧ some k_ ≠ (.slice gT gI.length gB : Value).ownBlock ∧ some k_ ≠ (iZ : Value).ownBlock ∧ some k_ ≠ (mD : Value).ownBlock)) (okp := (fun k_ => some k_ ≠ (.slice gW t101.length gS : Value).ownBlock ∧ some k_ ≠ (.slice gV t104.length gR : Value).ownBlock ∧ some k_ ≠ (cK : Value).ownBlock ∧ some k_ ≠ (.slice hZ t112.length hP : Value).ownBlock ∧ some k_ ≠ (.slice gU t115.length gQ : Value).ownBlock ∧ some k_ ≠ (.slice hY fO.length gP : Value).ownBlock ∧ some k_ ≠ (.slice gT gI.length gB : Value).ownBlock ∧ some k_ ≠ (iZ : Value).ownBlock ∧ some k_ ≠ (mD : Value).ownBlock)) ?hr ?hp (fun _ hk => hk) ((show ∀ k_, w31.heap.size ≤ k_ → (fun k_ => some k_ ≠ (.slice gW t101.length gS : Value).ownBlock ∧ some k_ ≠ (.slice gV t104.length gR : Value).ownBlock ∧ some k_ ≠ (cK : Value).ownBlock ∧ some k_ ≠ (.slice hZ t112.length hP : Value).ownBlock ∧ some k_ ≠ (.slice gU t115.length gQ : Value).ownBlock ∧ some k_ ≠ (.slice hY fO.length gP : Value).ownBlock ∧ some k_ ≠ (.slice gT gI.length gB : Value).ownBlock ∧ some k_ ≠ (iZ : Value).ownBlock ∧ some k_ ≠ (mD : Value).ownBlock) k_ from fun k_ hk => ⟨Kd.fresh' (Kd.N_lt bh.out) k_ hk, Kd.fresh' (Kd.N_lt bk.out) k_ hk, Kd.fresh' (Kd.R_lt aT.out) k_ hk, Kd.fresh' (Kd.N_lt bQ.out) k_ hk, Kd.fresh' (Kd.N_lt bW.out) k_ hk, Kd.fresh' (Kd.R_lt bV.out) k_ hk, Kd.fresh' (Kd.R_lt b0.out) k_ hk, Kd.fresh' (Kd.R_lt cM.out) k_ hk, Kd.fresh' (Kd.N_lt dy.out) k_ hk⟩) _ (Nat.le_refl _)) (Below.refl _ _) (Nat.le_refl _) (by simp) ?_; (case hd => rfl); (case hg => rfl); (case hr => first | (go_simp; done) | (go_simp; rfl)); (case hp => exact (Reps.one (show Kd.FK (Kd.slice 3 (Kd.int .i64)) _ _ mi [.slice sr mi.length rA] from (Kd.Yq (Kd.QH (Kd.Zl (ok' := (fun k_ => some k_ ≠ (.slice gW t101.length gS : Value).ownBlock ∧ some k_ ≠ (.slice gV t104.length gR : Value).ownBlock ∧ some k_ ≠ (cK : Value).ownBlock ∧ some k_ ≠ (.slice hZ t112.length hP : Value).ownBlock ∧ some k_ ≠ (.slice gU t115.length gQ : Value).ownBlock ∧ some k_ ≠ (.slice hY fO.length gP : Value).ownBlock ∧ some k_ ≠ (.slice gT gI.length gB : Value).ownBlock ∧ some k_ ≠ (iZ : Value).ownBlock ∧ some k_ ≠ (mD : Value).ownBlock)) (Kd.Zx (Kd.Zx (Kd.Zx (Kd.Zx (Kd.Zx (me.out) (Kd.ZP bh.out) (by decide)) (Kd.ZP bk.out) (by decide)) (Kd.ZP bQ.out) (by decide)) (Kd.ZP bW.out) (by decide)) (Kd.ZP dy.out) (by decide)) (fun k_ hk => ⟨hk.1.1.1.1.2, ⟨hk.1.1.1.2, ⟨hk.1.1.1.1.1.1.1.1.2, ⟨hk.1.1.2, ⟨hk.1.2, ⟨hk.1.1.1.1.1.1.1.2, ⟨hk.1.1.1.1.1.1.2, ⟨hk.1.1.1.1.1.2, hk.2⟩⟩⟩⟩⟩⟩⟩⟩))).2.1 (Kd.R_F (Kd.Zl (ok' := (fun k_ => some k_ ≠ (.slice gW t101.length gS : Value).ownBlock ∧ some k_ ≠ (.slice gV t104.length gR : Value).ownBlock ∧ some k_ ≠ (cK : Value).ownBlock ∧ some k_ ≠ (.slice hZ t112.length hP : Value).ownBlock ∧ some k_ ≠ (.slice gU t115.length gQ : Value).ownBlock ∧ some k_ ≠ (.slice hY fO.length gP : Value).ownBlock ∧ some k_ ≠ (.slice gT gI.length gB : Value).ownBlock ∧ some k_ ≠ (iZ : Value).ownBlock ∧ some k_ ≠ (mD : Value).ownBlock)) (Kd.Zx (Kd.Zx (Kd.Zx (Kd.Zx (Kd.Zx (me.out) (Kd.ZP bh.out) (by decide)) (Kd.ZP bk.out) (by decide)) (Kd.ZP bQ.out) (by decide)) (Kd.ZP bW.out) (by decide)) (Kd.ZP dy.out) (by decide)) (fun k_ hk => ⟨hk.1.1.1.1.2, ⟨hk.1.1.1.2, ⟨hk.1.1.1.1.1.1.1.1.2, ⟨hk.1.1.2, ⟨hk.1.2, ⟨hk.1.1.1.1.1.1.1.2, ⟨hk.1.1.1.1.1.1.2, ⟨hk.1.1.1.1.1.2, hk.2⟩⟩⟩⟩⟩⟩⟩⟩))))) (Reps.none _ _))); intro wj w34 jb hb hg_ hnew_; clear hg_ hnew_; (first | rw [← pJ.out] at jb | (simp only [Int.reduceToNat] at jb; rw [← pJ.out] at jb)); replace bh := aa.mk (Kd.Q4 bh.out (Kd.ZZ jb) hb); replace bk := aa.mk (Kd.Q4 bk.out (Kd.ZZ jb) hb); replace aT := aa.mk (Kd.Zf aT.out hb); replace bQ := aa.mk (Kd.Q4 bQ.out (Kd.ZZ jb) hb); replace bW := aa.mk (Kd.Q4 bW.out (Kd.ZZ jb) hb); replace bV := aa.mk (Kd.Zf bV.out hb); replace b0 := aa.mk (Kd.Zf b0.out hb); replace cM := aa.mk (Kd.Zf cM.out hb); replace dy := aa.mk (Kd.Q4 dy.out (Kd.ZZ jb) hb); have gG := aa.mk (Kd.Ya jb (Qe bB)); replace HB := aa.mk (Qc bB hb); clear me; clear hb jb; obtain ⟨pd, oR, mv⟩ := Kd.ZX gG.out; subst mv; obtain ⟨so, ry, qx⟩ := Kd.ZX dy.out; subst qx) | ((with_reducible refine QM (N := 27) rfl ?_); (try (refine ZE (by rfl) ?_; dsimp only)); refine Kd.YH (Kd.int .i64) _ 3 ?hg (N := 27) ?hd (xs := ([1, (-1)] : List Int)) (inner := [.int .i64 1, .int .i64 (-1)]) (ok := fun _ => True) (okp := fun _ => True) ?hr ?hp (fun _ hk => hk) trivial (Below.refl _ _) (Nat.le_refl _) (by simp) ?_; (case hd => rfl); (case hg => rfl); (case hr => first | (go_simp; done) | (go_simp; rfl)); (case hp => exact (Reps.one (show Kd.M (Kd.int .i64) _ _ _ 1 [.int .i64 1] from rfl) (Reps.one (show Kd.M (Kd.int .i64) _ _ _ (-1) [.int .i64 (-1)] from rfl) (Reps.none _ _)))); intro wi w38 fK hb hg_ hnew_; clear hg_ hnew_; (first | rw [← pI.out] at fK | (simp only [Int.reduceToNat] at fK; rw [← pI.out] at fK)); replace bh := aa.mk (Kd.Q4 bh.out (Kd.QY fK) hb); replace bk := aa.mk (Kd.Q4 bk.out (Kd.QY fK) hb); replace bQ := aa.mk (Kd.Q4 bQ.out (Kd.QY fK) hb); replace bW := aa.mk (Kd.Q4 bW.out (Kd.QY fK) hb); replace dy := aa.mk (Kd.Q4 dy.out (Kd.QY fK) hb); replace gG := aa.mk (Kd.Q4 gG.out (Kd.QY fK) hb); have g8 := aa.mk (Kd.Zb (Kd.Zy (Kd.Zy (Kd.Zy (Kd.Zy fK (Kd.R_lt aT.out)) (Kd.R_lt bV.out)) (Kd.R_lt b0.out)) (Kd.R_lt cM.out)) (Qe bB)); replace aT := aa.mk (Kd.Zj aT.out (Kd.QY fK) hb); replace bV := aa.mk (Kd.Zj bV.out (Kd.QY fK) hb); replace b0 := aa.mk (Kd.Zj b0.out (Kd.QY fK) hb); replace cM := aa.mk (Kd.Zj cM.out (Kd.QY fK) hb); replace HB := aa.mk (Qc bB hb); clear hb fK; obtain ⟨sn, rv, oO⟩ := Kd.Q9 g8.out; subst oO) | ((with_reducible refine Qf (f := 43) rfl ?_); refine QE (some 28) rfl rfl Try.func43 (by kernel_rfl) rfl #[.agg #[.slice so mj.length ry, .slice pd np.length oR], .slice sn pR.length rv] rfl hA ?_; (with_reducible refine (QG.calls k _ _ mj _ _ np _ _ pR cH _ ?ai ?ah ?aq ?ao ?aK ?aJ A5.out).mono ?_); (case ai => exact (Kd.Za dy.out).2.2); (case ah => exact (Kd.Za dy.out).2.1); (case aq => exact (Kd.Za gG.out).2.2); (case ao => exact (Kd.Za gG.out).2.1); (case aK => exact (Kd.QH g8.out).2.2); (case aJ => exact (Kd.QH g8.out).2.1); rintro e w41 ⟨rfl, hb⟩; refine ⟨_, rfl, ?_⟩; replace bh := aa.mk (Kd.Z0 bh.out hb); replace bk := aa.mk (Kd.Z0 bk.out hb); replace aT := aa.mk (Kd.Zf aT.out hb); replace bQ := aa.mk (Kd.Z0 bQ.out hb); replace bW := aa.mk (Kd.Z0 bW.out hb); replace bV := aa.mk (Kd.Zf bV.out hb); replace b0 := aa.mk (Kd.Zf b0.out hb); replace cM := aa.mk (Kd.Zf cM.out hb); replace dy := aa.mk (Kd.Z0 dy.out hb); replace gG := aa.mk (Kd.Z0 gG.out hb); replace g8 := aa.mk (Kd.Zf g8.out hb); replace HB := aa.mk (Qc bB hb); (try clear hb); (try clear hb2); (try clear hk); (try clear hi)) | ((with_reducible refine QM (N := 36) rfl ?_); (try (refine ZE (by rfl) ?_; dsimp only)); refine Kd.YH (Kd.int .i64) _ 3 ?hg (N := 36) ?hd (xs := ([2, 1, 2] : List Int)) (inner := [.int .i64 2, .int .i64 1, .int .i64 2]) (ok := fun _ => True) (okp := fun _ => True) ?hr ?hp (fun _ hk => hk) trivial (Below.refl _ _) (Nat.le_refl _) (by simp) ?_; (case hd => rfl); (case hg => rfl); (case hr => first | (go_simp; done) | (go_simp; rfl)); (case hp => exact (Reps.one (show Kd.M (Kd.int .i64) _ _ _ 2 [.int .i64 2] from rfl) (Reps.one (show Kd.M (Kd.int .i64) _ _ _ 1 [.int .i64 1] from rfl) (Reps.one (show Kd.M (Kd.int .i64) _ _ _ 2 [.int .i64 2] from rfl) (Reps.none _ _))))); intro wh w42 fz hb hg_ hnew_; clear hg_ hnew_; (first | rw [← pH.out] at fz | (simp only [Int.reduceToNat] at fz; rw [← pH.out] at fz)); replace bh := aa.mk (Kd.Q4 bh.out (Kd.QY fz) hb); replace bk := aa.mk (Kd.Q4 bk.out (Kd.QY fz) hb); replace bQ := aa.mk (Kd.Q4 bQ.out (Kd.QY fz) hb); replace bW := aa.mk (Kd.Q4 bW.out (Kd.QY fz) hb); replace dy := aa.mk (Kd.Q4 dy.out (Kd.QY fz) hb); replace gG := aa.mk (Kd.Q4 gG.out (Kd.QY fz) hb); have nc := aa.mk (Kd.Zb (Kd.Zy (Kd.Zy (Kd.Zy (Kd.Zy (Kd.Zy fz (Kd.R_lt aT.out)) (Kd.R_lt bV.out)) (Kd.R_lt b0.out)) (Kd.R_lt cM.out)) (Kd.R_lt g8.out)) (Qe bB)); replace aT := aa.mk (Kd.Zj aT.out (Kd.QY fz) hb); replace bV := aa.mk (Kd.Zj bV.out (Kd.QY fz) hb); replace b0 := aa.mk (Kd.Zj b0.out (Kd.QY fz) hb); replace cM := aa.mk (Kd.Zj cM.out (Kd.QY fz) hb); replace g8 := aa.mk (Kd.Zj g8.out (Kd.QY fz) hb); replace HB := aa.mk (Qc bB hb); clear hb fz; obtain ⟨xd, wM, uE⟩ := Kd.Q9 aT.out; subst uE; obtain ⟨sk, ru, mR⟩ := Kd.Q9 nc.out; subst mR) | (go_at_call 45; (with_reducible refine (Qp.calls k _ _ t107 _ _ qW true _ ?ai ?ah ?aq ?ao A8.out).mono ?_); (case ai => exact (Kd.QH aT.out).2.2); (case ah => exact (Kd.QH aT.out).2.1); (case aq => exact (Kd.QH nc.out).2.2); (case ao => exact (Kd.QH nc.out).2.1); rintro e w' ⟨rfl, ⟨nd, rfl⟩⟩))
      go_ret; exact ⟨by first | rfl | (simp [Qk, Qj] <;> rfl) | (simp [*, Qk, Qj] <;> rfl), bB⟩
     ·rw [if_neg c11] at H; exact absurd H (by simp)
    ·rw [if_neg c10] at H; exact absurd H (by simp)
   ·replace c9 := Bool.eq_false_iff.mpr c9; subst c9; have H1 : (none) = some r := by rw [if_neg (show ¬ (false = true) by decide)] at H; exact H
    clear H; have H := H1; clear H1; exact absurd H (by simp)
  ·replace c7 := Bool.eq_false_iff.mpr c7; subst c7; have H1 : (none) = some r := by rw [if_neg (show ¬ (false = true) by decide)] at H; exact H
   clear H; have H := H1; clear H1; exact absurd H (by simp)
 ·rw [if_neg c6] at H; exact absurd H (by simp)
mutual
def QC.l0 : Nat → Int → Int → Int → List (List Int) → List (List Int) → Option (List Int × Bool)
 | 0, _, _, _, _, _ => none
 | k + 1, x1, x16, x17, ar, au => if x17 < x16 then (if 0 ≤ x1 then (if (Go.bits .and .i64 (shr .i64 x17 x1) 1) = 0 then (QC.l0 k x1 x16 (wrap64 (x17 + 1)) ar au) else ((QS.f ar au).bind fun t103 => (QC.l1 k x1 x17 ([] : List Int) x16 x17 t103 0 ar au))) else (none)) else (some (([] : List Int), false))
def QC.l1 : Nat → Int → Int → List Int → Int → Int → Int → Int → List (List Int) → List (List Int) → Option (List Int × Bool)
 | 0, _, _, _, _, _, _, _, _, _ => none
 | k + 1, x1, x6, x7, x16, x17, x26, x27, ar, au => if x27 < x26 then (if 0 ≤ x27 then (if (Go.bits .and .i64 (shr .i64 x6 x27) 1) = 1 then (if x7.length < 17592186044416 then (QC.l1 k x1 x6 (x7 ++ [x27]) x16 x17 x26 (wrap64 (x27 + 1)) ar au) else (none)) else (QC.l1 k x1 x6 x7 x16 x17 x26 (wrap64 (x27 + 1)) ar au)) else (none)) else ((Zv.f ar au).bind fun t107 => ((ZK.f t107 x7).bind fun t110 => ((Q7.f t110 (x7.length : Int)).bind fun ek => (if ek.2 = true then ((Qi.f k ek.1).bind fun t117 => (QC.j2 k x1 x7 ek.1 x16 x17 (decide (t117 ≤ 0)) ar au)) else (QC.j2 k x1 x7 ek.1 x16 x17 true ar au)))))
def QC.j2 : Nat → Int → List Int → List Int → Int → Int → Bool → List (List Int) → List (List Int) → Option (List Int × Bool)
 | 0, _, _, _, _, _, _, _, _ => none
 | k + 1, x1, x7, x9, x16, x17, x56, ar, au => if x56 = true then (QC.l0 k x1 x16 (wrap64 (x17 + 1)) ar au) else ((QS.f ar au).bind fun t118 => (if 0 ≤ t118 then (if (t118 : Int).toNat ≤ 35184372088832 then (QC.l2 k x9 (List.replicate (t118 : Int).toNat 0) x7 (x7.length : Int) 0) else (none)) else (none)))
def QC.l2 : Nat → List Int → List Int → List Int → Int → Int → Option (List Int × Bool)
 | 0, _, _, _, _, _ => none
 | k + 1, x9, x11, x60, x61, x62 => if x62 < x61 then (if 0 ≤ x62 then (if x62 < (x60.length : Int) then (if x62 < (x9.length : Int) then (if 0 ≤ (rd x60 x62) then (if (rd x60 x62) < (x11.length : Int) then (QC.l2 k x9 (x11.set ((rd x60 x62) : Int).toNat (rd x9 x62)) x60 x61 (wrap64 (x62 + 1))) else (none)) else (none)) else (none)) else (none)) else (none)) else (some (x11, true))
end
def QC.f (k : Nat) (ae : List (List Int)) (af : List (List Int)) (a1 : Int) : Option (List Int × Bool) := (QS.f ae af).bind fun t102 => (if 0 ≤ t102 then (QC.l0 k a1 (shl .i64 1 t102) 0 ae af) else (none))
set_option maxHeartbeats 8000000 in
set_option maxRecDepth 100000 in
theorem QC.calls (k : Nat) (ak : Option Addr) (an : Nat) (ae : List (List Int)) (aj : Option Addr) (al : Nat) (af : List (List Int)) (a1 : Int) (r1 : List Int) (r2 : Bool) (w : World) (aV : Kd.C (Kd.slice 3 (Kd.int .i64)) w ak ae.length ae) (aX : ae.length ≤ an) (aU : Kd.C (Kd.slice 3 (Kd.int .i64)) w aj af.length af) (aW : af.length ≤ al) (h : QC.f k ae af a1 = some (r1, r2)) :
  Calls Try.prog 112 #[.agg #[.slice ak ae.length an, .slice aj af.length al], .int .i64 a1] w fun e w' => ∃ v0_ : Value, e = .returned (.tuple #[v0_, .bool r2]) ∧ Kd.R (Kd.int .i64) 3 w' w.heap.size (fun _ => True) v0_ r1 ∧ Below w.heap.size w w' := by
 have dD := Try.underlying24; have av := aa.mk aV; have aw := aa.mk aX; clear aV aX; have ay := aa.mk aU; have ax := aa.mk aW; clear aU aW; have HB := aa.mk (Below.refl w.heap.size w); have H : ((QS.f ae af).bind fun t102 => (if 0 ≤ t102 then (QC.l0 k a1 (shl .i64 1 t102) 0 ae af) else (none))) = some (r1, r2) := h; clear h; replace H := Option.bind_eq_some_iff.mp H; obtain ⟨t102, A30, H⟩ := H; replace H : (if 0 ≤ t102 then (QC.l0 k a1 (shl .i64 1 t102) 0 ae af) else (none)) = some (r1, r2) := H; have A3 := aa.mk A30; clear A30; by_cases c4 : 0 ≤ t102
 ·rw [if_pos c4] at H; have bI := eq_true c4; have cZ : decide (0 ≤ t102) = true := decide_eq_true c4; clear c4; obtain ⟨ji5, kS⟩ : ∃ j_ : Int, (shl .i64 1 t102) = j_ := ⟨_, rfl⟩; replace H : (QC.l0 k a1 ji5 0 ae af) = some (r1, r2) := by first | (rw [kS] at H; exact H) | (simp only [kS] at H ⊢; exact H)
  (try rw [kS] at A3)
  have pv : (IntKind.i64.wrap (1 * 2 ^ min t102.toNat 64)) = ji5 := kS; have pt : t102 ≤ 64 → (IntKind.i64.wrap (1 * 2 ^ t102.toNat)) = ji5 := shl_small kS; have vC : (IntKind.i64.wrap (2 ^ min t102.toNat 64)) = ji5 := by have h_ := pv; rw [Int.one_mul] at h_; exact h_
  have vB : t102 ≤ 64 → (IntKind.i64.wrap (2 ^ t102.toNat)) = ji5 := fun hle_ => by have h_ := pt hle_; rw [Int.one_mul] at h_; exact h_
  have vz : (wrap64 (1 * 2 ^ min t102.toNat 64)) = ji5 := (QB _).symm.trans pv; have vA : t102 ≤ 64 → (wrap64 (1 * 2 ^ t102.toNat)) = ji5 := fun h_ => (QB _).symm.trans (pt h_)
  have H' := aa.mk H; clear H; go_enter Try.func112, Try.ntmps112; go_wp2_with (first | ((with_reducible refine QM (N := 2) rfl ?_); refine QU ?hg (N := 2) ?hd (cs := #[.slice ak ae.length an, .slice aj af.length al]) (t := 24) ?hr ?_; (case hd => rfl); (case hg => rfl); (case hr => first | (go_simp; done) | (go_simp; rfl)); intro ag hg w6 hbox hb; have ab := aa.mk (hbox); have ba := aa.mk ((by rw [hg]; exact (Qe bB) : w.heap.size ≤ ag)); have aN := aa.mk ((by rw [hg]; exact (Qe bB) : w.heap.size ≤ ag)); replace HB := aa.mk (Qc bB hb); clear hb hbox hg; have dS : w6.cell? ⟨ag, 0, none⟩ = some (.slice ak ae.length an) := (Qb ab.out 0).trans rfl; have dR : w6.cell? ⟨ag, 1, none⟩ = some (.slice aj af.length al) := (Qb ab.out 1).trans rfl; have dQ := Qa ab.out 0; have dP := Qa ab.out 1) | ((with_reducible refine Qf (f := 71) rfl ?_); refine QE (some 15) rfl rfl Try.func71 (by kernel_rfl) rfl #[.agg #[.slice ak ae.length an, .slice aj af.length al]] rfl hA ?_; (with_reducible refine (QS.calls _ _ ae _ _ af t102 _ ?ai ?ah ?aq ?ao A3.out).mono ?_); (case ai => exact (Kd.Qh av.out HB.out)); (case ah => exact aw.out); (case aq => exact (Kd.Qh ay.out HB.out)); (case ao => exact ax.out); rintro e w8 ⟨rfl, hb⟩; refine ⟨_, rfl, ?_⟩; replace ab := aa.mk (Ql ab.out hb); replace HB := aa.mk (Qc bB hb); (try clear hb); (try clear hb2); (try clear hk); (try clear hi)))
  go_loopg [17] k (fun kq v17 w' => ∃ (bs : Int), v17 = .int .i64 bs ∧ aa (QC.l0 kq a1 ji5 bs ae af = some (r1, r2)) ∧ aa (kq ≤ k) ∧ aa (w'.heap[ag]? = some (.cells #[(.slice ak ae.length an), (.slice aj af.length al)] 24 (0, 0))) ∧ aa (Below w.heap.size w w'))
  case atStart => exact ⟨(0), (by first | rfl | (simp; done) | (simp [*]; done)), H', ⟨Nat.le_refl _⟩, ⟨by (with_reducible repeat (first | refine Qv ?_ _ | refine Qx ?_ | refine Qu ?_ _)); exact ab.out⟩, ⟨bB⟩⟩
  case round =>
   clear H'; try clear c1
   try clear p2
   try clear c4
   try clear bI
   try clear cZ
   try clear p6
   try clear c7
   try clear dS
   try clear dR
   try clear dQ
   try clear dP
   obtain ⟨bs, rfl, HA, HK1, ab, HB⟩ := hrel; cases gk with
   | zero => exact absurd HA.out (by simp [QC.l0])
   | succ k1 =>
    have H := HA.out; clear HA; simp only [QC.l0] at H; by_cases c9 : bs < ji5
    ·rw [if_pos c9] at H; have fA : decide (bs < ji5) = true := decide_eq_true c9; clear c9; by_cases c10 : 0 ≤ a1
     ·rw [if_pos c10] at H; have eQ := eq_true c10; have iK : decide (0 ≤ a1) = true := decide_eq_true c10; clear c10; obtain ⟨j9, kv⟩ : ∃ j_ : Int, (shr .i64 bs a1) = j_ := ⟨_, rfl⟩; replace H : (if (Go.bits .and .i64 (j9) 1) = 0 then (QC.l0 k1 a1 ji5 (wrap64 (bs + 1)) ae af) else ((QS.f ae af).bind fun t103 => (QC.l1 k1 a1 bs ([] : List Int) ji5 bs t103 0 ae af))) = some (r1, r2) := by first | (rw [kv] at H; exact H) | (simp only [kv] at H ⊢; exact H)
      have ug : (bs / 2 ^ min a1.toNat 64) = j9 := kv; have uf : a1 ≤ 64 → (bs / 2 ^ a1.toNat) = j9 := UA kv; by_cases c12 : (Go.bits .and .i64 (j9) 1) = 0
      ·rw [if_pos c12] at H; have eB : ((Go.bits .and .i64 (j9) 1) == 0) = true := beq_iff_eq.mpr c12; have l6 : ((Go.bits .and .i64 (j9) 1) != 0) = false := bne_eq_false_iff_eq.mpr c12; clear c12; have H' := aa.mk H; clear H; go_wp2; go_roundg k1
       case measure => have := HK1.out; omega
       case rel => exact ⟨(wrap64 (bs + 1)), (by first | rfl | (simp; done) | (simp [*]; done)), H', ⟨by have := HK1.out; omega⟩, ⟨by (with_reducible repeat (first | refine Qv ?_ _ | refine Qx ?_ | refine Qu ?_ _)); exact ab.out⟩, ⟨bB⟩⟩
      ·rw [if_neg c12] at H; have eB : ((Go.bits .and .i64 (j9) 1) == 0) = false := beq_eq_false_iff_ne.mpr c12; have l6 : ((Go.bits .and .i64 (j9) 1) != 0) = true := bne_iff_ne.mpr c12; replace H := Option.bind_eq_some_iff.mp H; obtain ⟨t103, nn, H⟩ := H; replace H : (QC.l1 k1 a1 bs ([] : List Int) ji5 bs t103 0 ae af) = some (r1, r2) := H; have A13 := aa.mk nn; clear nn; have H' := aa.mk H; clear H; have gA : wr.cell? ⟨ag, 0, none⟩ = some (.slice ak ae.length an) := (Qb ab.out 0).trans rfl; have gz : wr.cell? ⟨ag, 1, none⟩ = some (.slice aj af.length al) := (Qb ab.out 1).trans rfl; have gm := Qa ab.out 0; have gl := Qa ab.out 1; go_wp2_with (first | ((with_reducible refine Qf (f := 71) rfl ?_); refine QE (some 26) rfl rfl Try.func71 (by kernel_rfl) rfl #[.agg #[.slice ak ae.length an, .slice aj af.length al]] rfl hA ?_; (with_reducible refine (QS.calls _ _ ae _ _ af t103 _ ?ai ?ah ?aq ?ao A13.out).mono ?_); (case ai => exact (Kd.Qh av.out HB.out)); (case ah => exact aw.out); (case aq => exact (Kd.Qh ay.out HB.out)); (case ao => exact ax.out); rintro e w15 ⟨rfl, hb⟩; refine ⟨_, rfl, ?_⟩; replace ab := aa.mk (Ql ab.out hb); replace HB := aa.mk (Qc bB hb); (try clear hb); (try clear hb2); (try clear hk); (try clear hi)))
       go_loopg [7, 27] k1 (fun kq v7 v27 w' => ∃ (bg : List Int) (cF : Int), v27 = .int .i64 cF ∧ aa (QC.l1 kq a1 bs bg ji5 bs t103 cF ae af = some (r1, r2)) ∧ aa (kq ≤ k1) ∧ aa (Kd.R (Kd.int .i64) 3 w' w.heap.size (fun _ => True) v7 bg) ∧ aa (w'.heap[ag]? = some (.cells #[(.slice ak ae.length an), (.slice aj af.length al)] 24 (0, 0))) ∧ aa (Below w.heap.size w w'))
       case atStart => exact ⟨(([] : List Int)), (0), (by first | rfl | (simp; done) | (simp [*]; done)), H', ⟨Nat.le_refl _⟩, ⟨by first | exact Kd.Yp _ _ _ _ _ | exact Kd.YU _ _ _ _ _ | exact Kd.V_nil _ _ _ _ _ | exact Kd.Q_nil _ _ _ _ _ | exact Kd.YZ _ _ _ _ _⟩, ⟨by (with_reducible repeat (first | refine Qv ?_ _ | refine Qx ?_ | refine Qu ?_ _)); exact ab.out⟩, ⟨bB⟩⟩
       case round =>
        clear H'; try clear c1
        try clear p2
        try clear c4
        try clear bI
        try clear cZ
        try clear p6
        try clear c7
        try clear c9
        try clear fA
        try clear c10
        try clear eQ
        try clear iK
        try clear c11
        try clear c12
        try clear eB
        try clear l6
        try clear gA
        try clear gz
        try clear dS
        try clear dR
        try clear gm
        try clear gl
        try clear dQ
        try clear dP
        try clear p2
        try clear p6
        obtain ⟨bg, cF, rfl, HA, HK2, bO, ab, HB⟩ := hrel; cases gk with
        | zero => exact absurd HA.out (by simp [QC.l1])
        | succ k2 =>
         have H := HA.out; clear HA; simp only [QC.l1] at H; by_cases c16 : cF < t103
         ·rw [if_pos c16] at H; have fu : decide (cF < t103) = true := decide_eq_true c16; clear c16; by_cases c17 : 0 ≤ cF
          ·rw [if_pos c17] at H; have ej := eq_true c17; have l5 : decide (0 ≤ cF) = true := decide_eq_true c17; clear c17; obtain ⟨j8, lE⟩ : ∃ j_ : Int, (shr .i64 bs cF) = j_ := ⟨_, rfl⟩; replace H : (if (Go.bits .and .i64 (j8) 1) = 1 then (if bg.length < 17592186044416 then (QC.l1 k2 a1 bs (bg ++ [cF]) ji5 bs t103 (wrap64 (cF + 1)) ae af) else (none)) else (QC.l1 k2 a1 bs bg ji5 bs t103 (wrap64 (cF + 1)) ae af)) = some (r1, r2) := by first | (rw [lE] at H; exact H) | (simp only [lE] at H ⊢; exact H)
           have ud : (bs / 2 ^ min cF.toNat 64) = j8 := lE; have uc : cF ≤ 64 → (bs / 2 ^ cF.toNat) = j8 := UA lE; by_cases c19 : (Go.bits .and .i64 (j8) 1) = 1
           ·rw [if_pos c19] at H; have ft : ((Go.bits .and .i64 (j8) 1) == 1) = true := beq_iff_eq.mpr c19; have kB : ((Go.bits .and .i64 (j8) 1) != 1) = false := bne_eq_false_iff_eq.mpr c19; clear c19; by_cases c20 : bg.length < 17592186044416
            ·rw [if_pos c20] at H; have m9 := aa.mk c20; clear c20; obtain ⟨j3, cQ⟩ : ∃ y_ : List Int, y_ = (bg ++ [cF]) := ⟨_, rfl⟩; replace H : (QC.l1 k2 a1 bs j3 ji5 bs t103 (wrap64 (cF + 1)) ae af) = some (r1, r2) := by first | (rw [cQ]; with_reducible exact H) | (have H2_ := (Option.bind_some _ _).symm.trans H; rw [cQ]; with_reducible exact H2_) | (have H2_ := (Option.bind_some _ _).symm.trans H; with_reducible exact H2_) | with_reducible exact H | (rw [cQ]; exact H) | exact H
             have iN := aa.mk cQ; clear cQ; have H' := aa.mk H; clear H; go_wp2_with (first | ((with_reducible refine ZF (b := .append) (xs := #[.tmp 35, .tmp 37]) rfl ?_); at_builtin; refine Kd.YO (Kd.int .i64) (w0 := w) w.heap.size rfl (.tmp 35) (.tmp 37) 28 3 (.int .i64 0) 8 rfl Try.underlying28 info3 rfl (by decide) (by omega) u7 bg cF [.int .i64 cF] (fun _ => True) (fun _ => False) rfl rfl ?aP (fun _ hk => hk.elim) ?aF ?aO ?aB ?aS ?aL ?_; (case aP => exact rfl); (case aB => exact bB); (case aF => exact (fun _ _ => trivial)); (case aO => exact bO.out); (case aS => exact (Qe bB)); (case aL => have := m9.out; omega); intro mr w21 ho hb hg hat; rw [← iN.out] at ho; replace ab := aa.mk (Z4 (g := ag) (o := .cells #[.slice ak ae.length an, .slice aj af.length al] 24 (0, 0)) (by (with_reducible repeat (first | refine Qv ?_ _ | refine Qx ?_ | refine Qu ?_ _)); exact ab.out) hg (Kd.R_ne bO.out ab.out (by decide))); replace HB := aa.mk (hb); have bk := aa.mk (ho); clear bO; clear ho hb hg hat))
             go_roundg k2
             case measure => have := HK1.out; have := HK2.out; omega
             case rel => exact ⟨(j3), (wrap64 (cF + 1)), (by first | rfl | (simp; done) | (simp [*]; done)), H', ⟨by have := HK1.out; have := HK2.out; omega⟩, ⟨by (with_reducible repeat (first | apply Kd.R_alloc | apply Kd.R_drewN | apply Kd.QX)); exact bk.out⟩, ⟨by (with_reducible repeat (first | refine Qv ?_ _ | refine Qx ?_ | refine Qu ?_ _)); exact ab.out⟩, ⟨bB⟩⟩
            ·rw [if_neg c20] at H; exact absurd H (by simp)
           ·rw [if_neg c19] at H; have ft : ((Go.bits .and .i64 (j8) 1) == 1) = false := beq_eq_false_iff_ne.mpr c19; have kB : ((Go.bits .and .i64 (j8) 1) != 1) = true := bne_iff_ne.mpr c19; have H' := aa.mk H; clear H; go_wp2; go_roundg k2
            case measure => have := HK1.out; have := HK2.out; omega
            case rel => exact ⟨(bg), (wrap64 (cF + 1)), (by first | rfl | (simp; done) | (simp [*]; done)), H', ⟨by have := HK1.out; have := HK2.out; omega⟩, ⟨by (with_reducible repeat (first | apply Kd.R_alloc | apply Kd.R_drewN | apply Kd.QX)); exact bO.out⟩, ⟨by (with_reducible repeat (first | refine Qv ?_ _ | refine Qx ?_ | refine Qu ?_ _)); exact ab.out⟩, ⟨bB⟩⟩
          ·rw [if_neg c17] at H; exact absurd H (by simp)
         ·rw [if_neg c16] at H; have fu : decide (cF < t103) = false := decide_eq_false c16; clear c16; replace H := Option.bind_eq_some_iff.mp H; obtain ⟨t107, nj, H⟩ := H; replace H : ((ZK.f t107 bg).bind fun t110 => ((Q7.f t110 (bg.length : Int)).bind fun ek => (if ek.2 = true then ((Qi.f k2 ek.1).bind fun t117 => (QC.j2 k2 a1 bg ek.1 ji5 bs (decide (t117 ≤ 0)) ae af)) else (QC.j2 k2 a1 bg ek.1 ji5 bs true ae af)))) = some (r1, r2) := H; have A22 := aa.mk nj; clear nj; replace H := Option.bind_eq_some_iff.mp H; obtain ⟨t110, sy, H⟩ := H; replace H : ((Q7.f t110 (bg.length : Int)).bind fun ek => (if ek.2 = true then ((Qi.f k2 ek.1).bind fun t117 => (QC.j2 k2 a1 bg ek.1 ji5 bs (decide (t117 ≤ 0)) ae af)) else (QC.j2 k2 a1 bg ek.1 ji5 bs true ae af))) = some (r1, r2) := H; have A23 := aa.mk sy; clear sy; replace H := Option.bind_eq_some_iff.mp H; obtain ⟨⟨t113, t114⟩, ni, H⟩ := H; replace H : (if t114 = true then ((Qi.f k2 t113).bind fun t117 => (QC.j2 k2 a1 bg t113 ji5 bs (decide (t117 ≤ 0)) ae af)) else (QC.j2 k2 a1 bg t113 ji5 bs true ae af)) = some (r1, r2) := H; have A24 := aa.mk ni; clear ni; have qR := aa.mk H; clear H; have gr : wr.cell? ⟨ag, 0, none⟩ = some (.slice ak ae.length an) := (Qb ab.out 0).trans rfl; have gp : wr.cell? ⟨ag, 1, none⟩ = some (.slice aj af.length al) := (Qb ab.out 1).trans rfl; have gf := Qa ab.out 0; have fZ := Qa ab.out 1; go_upto_region 13 with (first | ((with_reducible refine Qf (f := 73) rfl ?_); refine QE (some 42) rfl rfl Try.func73 (by kernel_rfl) rfl #[.agg #[.slice ak ae.length an, .slice aj af.length al]] rfl hA ?_; (with_reducible refine (Zv.calls _ _ ae _ _ af t107 _ ?ai ?ah ?aq ?ao A22.out).mono ?_); (case ai => exact (Kd.Qh av.out HB.out)); (case ah => exact aw.out); (case aq => exact (Kd.Qh ay.out HB.out)); (case ao => exact ax.out); rintro e w27 ⟨cK, rfl, ho0, hb⟩; refine ⟨_, rfl, ?_⟩; replace bO := aa.mk (Kd.Zf bO.out hb); have aT := aa.mk (Kd.Zb ho0 (Qe bB)); replace ab := aa.mk (Ql ab.out hb); replace HB := aa.mk (Qc bB hb); (try clear hb); (try clear hb2); (try clear hk); (try clear hi); (try clear ho0); obtain ⟨nh, m2, mT⟩ := Kd.Q9 aT.out; subst mT; obtain ⟨lg, jQ, qz⟩ := Kd.Q9 bO.out; subst qz) | ((with_reducible refine Qf (f := 129) rfl ?_); refine QE (some 44) rfl rfl Try.func129 (by kernel_rfl) rfl #[.slice nh t107.length m2, .slice lg bg.length jQ] rfl hA ?_; (with_reducible refine (ZK.calls _ _ t107 _ _ bg t110 _ ?ai ?ah ?aq ?ao A23.out).mono ?_); (case ai => exact (Kd.QH aT.out).2.2); (case ah => exact (Kd.QH aT.out).2.1); (case aq => exact (Kd.QH bO.out).2.2); (case ao => exact (Kd.QH bO.out).2.1); rintro e w30 ⟨wx, rfl, ho0, hb⟩; refine ⟨_, rfl, ?_⟩; replace bO := aa.mk (Kd.Zf bO.out hb); have iR := aa.mk (Kd.Zb (Kd.Zy ho0 (Kd.R_lt aT.out)) (Qe bB)); replace aT := aa.mk (Kd.Zj aT.out (Kd.QY ho0) hb); replace ab := aa.mk (Ql ab.out hb); replace HB := aa.mk (Qc bB hb); (try clear hb); (try clear hb2); (try clear hk); (try clear hi); (try clear ho0); obtain ⟨vp, uT, uI⟩ := Kd.Q9 iR.out; subst uI) | ((with_reducible refine Qf (f := 82) rfl ?_); refine QE (some 47) rfl rfl Try.func82 (by kernel_rfl) rfl #[.slice vp t110.length uT, .int .i64 (bg.length : Int)] rfl hA ?_; (with_reducible refine (Q7.calls _ _ t110 (bg.length : Int) t113 t114 _ ?ai ?ah A24.out).mono ?_); (case ai => exact (Kd.QH iR.out).2.2); (case ah => exact (Kd.QH iR.out).2.1); rintro e w32 ⟨kJ, rfl, ho0, hb⟩; refine ⟨_, rfl, ?_⟩; replace aT := aa.mk (Kd.Zf aT.out hb); replace iR := aa.mk (Kd.Zf iR.out hb); have eT := aa.mk (Kd.Zb (Kd.Zy ho0 (Kd.R_lt bO.out)) (Qe bB)); replace bO := aa.mk (Kd.Zj bO.out (Kd.QY ho0) hb); replace ab := aa.mk (Ql ab.out hb); replace HB := aa.mk (Qc bB hb); (try clear hb); (try clear hb2); (try clear hk); (try clear hi); (try clear ho0)))
          (try simp only [Act.put, zA, zB, zC])
          go_cut [56] (fun v56 wc => ∃ (kq : Nat) (jl : Bool), v56 = .bool jl ∧ aa (QC.j2 kq a1 bg t113 ji5 bs jl ae af = some (r1, r2)) ∧ aa (kq ≤ k2) ∧ aa (Kd.R (Kd.int .i64) 3 wc w.heap.size (fun k_ => some k_ ≠ (kJ : Value).ownBlock) (.slice lg bg.length jQ) bg) ∧ aa (Kd.R (Kd.int .i64) 3 wc w.heap.size (fun k_ => some k_ ≠ ((.slice lg bg.length jQ) : Value).ownBlock) kJ t113) ∧ aa (wc.heap[ag]? = some (.cells #[(.slice ak ae.length an), (.slice aj af.length al)] 24 (0, 0))) ∧ aa (Below w.heap.size w wc))
          case first =>
           have H := qR.out; clear qR; by_cases c33 : t114 = true
           ·subst c33; have H1 : ((Qi.f k2 t113).bind fun t117 => (QC.j2 k2 a1 bg t113 ji5 bs (decide (t117 ≤ 0)) ae af)) = some (r1, r2) := by rw [if_pos rfl] at H; exact H
            clear H; have H := H1; clear H1; replace H := Option.bind_eq_some_iff.mp H; obtain ⟨t117, sv, H⟩ := H; replace H : (QC.j2 k2 a1 bg t113 ji5 bs (decide (t117 ≤ 0)) ae af) = some (r1, r2) := H; have A34 := aa.mk sv; clear sv; have H' := aa.mk H; clear H; obtain ⟨vo, uS, qy⟩ := Kd.Q9 eT.out; subst qy; go_wp2_with (first | (go_at_call 84; (with_reducible refine (Qi.calls k2 _ _ t113 t117 _ ?ai ?ah A34.out).mono ?_); (case ai => exact (Kd.QH eT.out).2.2); (case ah => exact (Kd.QH eT.out).2.1); rintro e w36 ⟨rfl, hb⟩; replace bO := aa.mk (Kd.Zf bO.out hb); replace aT := aa.mk (Kd.Zf aT.out hb); replace iR := aa.mk (Kd.Zf iR.out hb); replace eT := aa.mk (Kd.Zf eT.out hb); replace ab := aa.mk (Ql ab.out hb); replace HB := aa.mk (Qc bB hb); (try clear hb); (try clear hb2); (try clear hk); (try clear hi)))
            go_meet
            case rel => exact ⟨_, (decide (t117 ≤ 0)), (by first | rfl | (simp; done) | (simp [*]; done)), H', ⟨by have := HK1.out; have := HK2.out; first | omega | exact Nat.le_refl _⟩, ⟨by (with_reducible repeat (first | apply Kd.R_alloc | apply Kd.R_drewN | apply Kd.QX)); exact Kd.Zl bO.out (fun _ hk => hk.2)⟩, ⟨by (with_reducible repeat (first | apply Kd.R_alloc | apply Kd.R_drewN | apply Kd.QX)); exact Kd.Zl eT.out (fun _ hk => hk.2)⟩, ⟨by (with_reducible repeat (first | refine Qv ?_ _ | refine Qx ?_ | refine Qu ?_ _)); exact ab.out⟩, ⟨bB⟩⟩
           ·replace c33 := Bool.eq_false_iff.mpr c33; subst c33; have H1 : (QC.j2 k2 a1 bg t113 ji5 bs true ae af) = some (r1, r2) := by rw [if_neg (show ¬ (false = true) by decide)] at H; exact H
            clear H; have H := H1; clear H1; have H' := aa.mk H; clear H; go_wp2; go_meet
            case rel => exact ⟨_, (true), (by first | rfl | (simp; done) | (simp [*]; done)), H', ⟨by have := HK1.out; have := HK2.out; first | omega | exact Nat.le_refl _⟩, ⟨by (with_reducible repeat (first | apply Kd.R_alloc | apply Kd.R_drewN | apply Kd.QX)); exact Kd.Zl bO.out (fun _ hk => hk.2)⟩, ⟨by (with_reducible repeat (first | apply Kd.R_alloc | apply Kd.R_drewN | apply Kd.QX)); exact Kd.Zl eT.out (fun _ hk => hk.2)⟩, ⟨by (with_reducible repeat (first | refine Qv ?_ _ | refine Qx ?_ | refine Qu ?_ _)); exact ab.out⟩, ⟨bB⟩⟩
          case rest =>
           clear qR; try clear c1
           try clear c2
           try clear p2
           try clear c3
           try clear c4
           try clear bI
           try clear cZ
           try clear p6
           try clear c7
           try clear c8
           try clear c9
           try clear fA
           try clear c10
           try clear eQ
           try clear iK
           try clear c11
           try clear c12
           try clear eB
           try clear l6
           try clear c16
           try clear fu
           try clear c17
           try clear ej
           try clear l5
           try clear c19
           try clear ft
           try clear kB
           try clear c20
           try clear c33
           try clear gA
           try clear gz
           try clear gr
           try clear gp
           try clear dS
           try clear dR
           try clear gm
           try clear gl
           try clear gf
           try clear fZ
           try clear dQ
           try clear dP
           try clear p2
           try clear p6
           obtain ⟨kq, jl, rfl, HA, o0, bO, hX, ab, HB⟩ := hcut; cases kq with
           | zero => exact absurd HA.out (by simp [QC.j2])
           | succ kP =>
            have H := HA.out; clear HA; simp only [QC.j2] at H; by_cases c37 : jl = true
            ·subst c37; have H1 : (QC.l0 kP a1 ji5 (wrap64 (bs + 1)) ae af) = some (r1, r2) := by rw [if_pos rfl] at H; exact H
             clear H; have H := H1; clear H1; have H' := aa.mk H; clear H; go_wp2; go_roundg kP
             case measure => have := HK1.out; have := HK2.out; have := o0.out; omega
             case rel => exact ⟨(wrap64 (bs + 1)), (by first | rfl | (simp; done) | (simp [*]; done)), H', ⟨by have := HK1.out; have := HK2.out; have := o0.out; omega⟩, ⟨by (with_reducible repeat (first | refine Qv ?_ _ | refine Qx ?_ | refine Qu ?_ _)); exact ab.out⟩, ⟨bB⟩⟩
            ·replace c37 := Bool.eq_false_iff.mpr c37; subst c37; have H1 : ((QS.f ae af).bind fun t118 => (if 0 ≤ t118 then (if (t118 : Int).toNat ≤ 35184372088832 then (QC.l2 kP t113 (List.replicate (t118 : Int).toNat 0) bg (bg.length : Int) 0) else (none)) else (none))) = some (r1, r2) := by rw [if_neg (show ¬ (false = true) by decide)] at H; exact H
             clear H; have H := H1; clear H1; replace H := Option.bind_eq_some_iff.mp H; obtain ⟨t118, su, H⟩ := H; replace H : (if 0 ≤ t118 then (if (t118 : Int).toNat ≤ 35184372088832 then (QC.l2 kP t113 (List.replicate (t118 : Int).toNat 0) bg (bg.length : Int) 0) else (none)) else (none)) = some (r1, r2) := H; have A38 := aa.mk su; clear su; by_cases c39 : 0 ≤ t118
             ·rw [if_pos c39] at H; have rI := eq_true c39; have rH : decide (0 ≤ t118) = true := decide_eq_true c39; clear c39; by_cases c40 : (t118 : Int).toNat ≤ 35184372088832
              ·rw [if_pos c40] at H; have rG := eq_true c40; have rF : decide ((t118 : Int).toNat ≤ 35184372088832) = true := decide_eq_true c40; clear c40; obtain ⟨mC, e9⟩ : ∃ y_ : List Int, y_ = (List.replicate (t118 : Int).toNat 0) := ⟨_, rfl⟩; replace H : (QC.l2 kP t113 mC bg (bg.length : Int) 0) = some (r1, r2) := by first | (rw [e9]; with_reducible exact H) | (have H2_ := (Option.bind_some _ _).symm.trans H; rw [e9]; with_reducible exact H2_) | (have H2_ := (Option.bind_some _ _).symm.trans H; with_reducible exact H2_) | with_reducible exact H | (rw [e9]; exact H) | exact H
               have ma := aa.mk e9; clear e9; have H' := aa.mk H; clear H; have oo : wc.cell? ⟨ag, 0, none⟩ = some (.slice ak ae.length an) := (Qb ab.out 0).trans rfl; have om : wc.cell? ⟨ag, 1, none⟩ = some (.slice aj af.length al) := (Qb ab.out 1).trans rfl; have nL := Qa ab.out 0; have nK := Qa ab.out 1; go_wp2_with (first | ((with_reducible refine Qf (f := 71) rfl ?_); refine QE (some 58) rfl rfl Try.func71 (by kernel_rfl) rfl #[.agg #[.slice ak ae.length an, .slice aj af.length al]] rfl hA ?_; (with_reducible refine (QS.calls _ _ ae _ _ af t118 _ ?ai ?ah ?aq ?ao A38.out).mono ?_); (case ai => exact (Kd.Qh av.out HB.out)); (case ah => exact aw.out); (case aq => exact (Kd.Qh ay.out HB.out)); (case ao => exact ax.out); rintro e w42 ⟨rfl, hb⟩; refine ⟨_, rfl, ?_⟩; replace bO := aa.mk (Kd.Zf bO.out hb); replace hX := aa.mk (Kd.Zf hX.out hb); replace ab := aa.mk (Ql ab.out hb); replace HB := aa.mk (Qc bB hb); (try clear hb); (try clear hb2); (try clear hk); (try clear hi)) | ((with_reducible refine QM (N := 59) rfl ?_); refine Kd.U9 (Kd.int .i64) _ 3 rfl (N := 59) rfl 28 _ _ rfl t118 rfl rfl Try.underlying28 (.int .i64 0) 8 info3 rfl (by decide) (by omega) 0 (ok := fun _ => True) (okp := fun _ => True) rfl (fun _ hk => hk) trivial (of_decide_eq_true (by assumption)) (Nat.le_trans (Nat.mul_le_mul_right _ (of_decide_eq_true (by assumption) : t118.toNat ≤ 35184372088832)) (by omega)) (Below.refl _ _) (Nat.le_refl _) ?_; intro pU w43 kR hb hg_ hnew_; clear hg_ hnew_; (first | rw [← ma.out] at kR | (simp only [Int.reduceToNat] at kR; rw [← ma.out] at kR)); have r8 := aa.mk (Kd.Zb (Kd.Zy (Kd.Zy kR (Kd.R_lt bO.out)) (Kd.R_lt hX.out)) (Qe bB)); replace bO := aa.mk (Kd.Zj bO.out (Kd.QY kR) hb); replace hX := aa.mk (Kd.Zj hX.out (Kd.QY kR) hb); replace ab := aa.mk (Ql ab.out hb); replace HB := aa.mk (Qc bB hb); clear hb kR))
               go_loopg [62] kP (fun kq v62 w' => ∃ (eP : List Int) (bJ : Int), v62 = .int .i64 bJ ∧ aa (QC.l2 kq t113 eP bg (bg.length : Int) bJ = some (r1, r2)) ∧ aa (kq ≤ kP) ∧ aa (Kd.R (Kd.int .i64) 3 w' w.heap.size (fun k_ => some k_ ≠ (pU : Value).ownBlock ∧ some k_ ≠ ((.slice lg bg.length jQ) : Value).ownBlock) kJ t113) ∧ aa (Kd.R (Kd.int .i64) 3 w' w.heap.size (fun k_ => some k_ ≠ (kJ : Value).ownBlock ∧ some k_ ≠ ((.slice lg bg.length jQ) : Value).ownBlock) pU eP) ∧ aa (Kd.R (Kd.int .i64) 3 w' w.heap.size (fun k_ => some k_ ≠ (kJ : Value).ownBlock ∧ some k_ ≠ (pU : Value).ownBlock) (.slice lg bg.length jQ) bg) ∧ aa (w'.heap[ag]? = some (.cells #[(.slice ak ae.length an), (.slice aj af.length al)] 24 (0, 0))) ∧ aa (Below w.heap.size w w'))
               case atStart => exact ⟨(mC), (0), (by first | rfl | (simp; done) | (simp [*]; done)), H', ⟨Nat.le_refl _⟩, ⟨by (with_reducible repeat (first | apply Kd.R_alloc | apply Kd.R_drewN | apply Kd.QX)); exact Kd.Zl hX.out (fun _ hk => ⟨hk.2, hk.1⟩)⟩, ⟨by (with_reducible repeat (first | apply Kd.R_alloc | apply Kd.R_drewN | apply Kd.QX)); exact Kd.Zl r8.out (fun _ hk => ⟨hk.2, hk.1.2⟩)⟩, ⟨by (with_reducible repeat (first | apply Kd.R_alloc | apply Kd.R_drewN | apply Kd.QX)); exact bO.out⟩, ⟨by (with_reducible repeat (first | refine Qv ?_ _ | refine Qx ?_ | refine Qu ?_ _)); exact ab.out⟩, ⟨bB⟩⟩
               case round =>
                clear H'; try clear c1
                try clear c2
                try clear p2
                try clear c3
                try clear c4
                try clear bI
                try clear cZ
                try clear p6
                try clear c7
                try clear c8
                try clear c9
                try clear fA
                try clear c10
                try clear eQ
                try clear iK
                try clear c11
                try clear c12
                try clear eB
                try clear l6
                try clear c16
                try clear fu
                try clear c17
                try clear ej
                try clear l5
                try clear c19
                try clear ft
                try clear kB
                try clear c20
                try clear c33
                try clear c37
                try clear c39
                try clear rI
                try clear rH
                try clear c40
                try clear rG
                try clear rF
                try clear gA
                try clear gz
                try clear gr
                try clear gp
                try clear oo
                try clear om
                try clear dS
                try clear dR
                try clear gm
                try clear gl
                try clear gf
                try clear fZ
                try clear nL
                try clear nK
                try clear dQ
                try clear dP
                try clear p2
                try clear p6
                obtain ⟨eP, bJ, rfl, HA, HK4, hX, iQ, mc, ab, HB⟩ := hrel; cases gk with
                | zero => exact absurd HA.out (by simp [QC.l2])
                | succ k4 =>
                 have H := HA.out; clear HA; simp only [QC.l2] at H; by_cases c45 : bJ < (bg.length : Int)
                 ·rw [if_pos c45] at H; have rE : decide (bJ < (bg.length : Int)) = true := decide_eq_true c45; clear c45; by_cases c46 : 0 ≤ bJ
                  ·rw [if_pos c46] at H; have vN : decide (0 ≤ bJ) = true := decide_eq_true c46; clear c46; by_cases c47 : bJ < (bg.length : Int)
                   ·rw [if_pos c47] at H; have vL : decide (bJ < (bg.length : Int)) = true := decide_eq_true c47; clear c47; by_cases c48 : bJ < (t113.length : Int)
                    ·rw [if_pos c48] at H; have vK : decide (bJ < (t113.length : Int)) = true := decide_eq_true c48; clear c48; by_cases c49 : 0 ≤ (rd bg bJ)
                     ·rw [if_pos c49] at H; have vJ : decide (0 ≤ (rd bg bJ)) = true := decide_eq_true c49; clear c49; by_cases c50 : (rd bg bJ) < (eP.length : Int)
                      ·rw [if_pos c50] at H; have vI : decide ((rd bg bJ) < (eP.length : Int)) = true := decide_eq_true c50; clear c50; obtain ⟨pS, kh⟩ : ∃ y_ : List Int, y_ = (eP.set ((rd bg bJ) : Int).toNat (rd t113 bJ)) := ⟨_, rfl⟩; replace H : (QC.l2 k4 t113 pS bg (bg.length : Int) (wrap64 (bJ + 1))) = some (r1, r2) := by first | (rw [kh]; with_reducible exact H) | (have H2_ := (Option.bind_some _ _).symm.trans H; rw [kh]; with_reducible exact H2_) | (have H2_ := (Option.bind_some _ _).symm.trans H; with_reducible exact H2_) | with_reducible exact H | (rw [kh]; exact H) | exact H
                       have rU := aa.mk kh; clear kh; have H' := aa.mk H; clear H; have kN : 0 ≤ (bJ : Int) := of_decide_eq_true (by assumption); have kL : bJ < (bg.length : Int) := of_decide_eq_true (by assumption); obtain ⟨m8, qE, nB⟩ := Kd.QZ (Kd.QH mc.out).2.2 bJ kN kL; cases qE; replace kN := eq_true kN; replace kL := eq_true kL; obtain ⟨xa, rr, uB⟩ := Kd.Q9 hX.out; subst uB; have pZ : 0 ≤ (bJ : Int) := of_decide_eq_true (by assumption); have pX : bJ < (t113.length : Int) := of_decide_eq_true (by assumption); obtain ⟨pF, uP, sM⟩ := Kd.QZ (Kd.QH hX.out).2.2 bJ pZ pX; cases uP; replace pZ := eq_true pZ; replace pX := eq_true pX; have p51 : 0 ≤ ((rd bg bJ) : Int) := of_decide_eq_true (by assumption); have q51 : ((rd bg bJ) : Int) < ((eP.length : Int) : Int) := of_decide_eq_true (by assumption); obtain ⟨kZ, mZ, rn, ri, ux, wS, r9⟩ := Kd.Ul iQ.out (by omega); (first | cases rn | (injection rn with ea_ en_ ec_; (first | subst ea_ | (injection ea_ with ea_; subst ea_)); subst ec_; clear en_))
                       have vi := aa.mk ri; have wY := aa.mk r9; clear ri ux r9; obtain ⟨tV, uk⟩ := Kd.VU 0 iQ.out ((rd bg bJ) : Int) p51 q51; replace p51 := eq_true p51; replace q51 := eq_true q51; have qM := Kd.R_putg iQ.out ((rd bg bJ) : Int) (rd t113 bJ); go_wp2_with (first | ((with_reducible refine Uc (t := 3) (p := 73) rfl ?_); refine VA (t := 3) (p := 73) (v := ?tQ) (w1 := (wr.setCell ⟨kZ, ((rd bg bJ) : Int).toNat, none⟩ (.int .i64 (rd t113 bJ)))) ?hg ?ho ?hn ?hr ?_; (case ho => rfl); (case hg => rfl); (case hn => rfl); (case hr => first | (go_simp; done) | (go_simp; rfl)); intro w54 hw; have hg : wr.grownBy w54 (some kZ) := (by rw [hw]; exact qM.2); have hp_ : Kd.R (Kd.int .i64) 3 w54 w.heap.size (fun k_ => some k_ ≠ (.slice (some pF) t113.length rr : Value).ownBlock ∧ some k_ ≠ (.slice (some m8) bg.length jQ : Value).ownBlock) (.slice (some ⟨kZ, 0, none⟩) eP.length mZ) pS := (by rw [hw, rU.out]; exact qM.1); clear qM; replace hX := aa.mk (Kd.Ja (v := (.slice (some ⟨kZ, 0, none⟩) eP.length mZ)) (v1 := (.slice (some ⟨kZ, 0, none⟩) eP.length mZ)) (ok := (fun k_ => some k_ ≠ (.slice (some m8) bg.length jQ : Value).ownBlock)) (by (with_reducible repeat (first | apply Kd.R_alloc | apply Kd.R_drewN | apply Kd.QX)); exact Kd.Zl hX.out (fun _ hk => ⟨hk.2, hk.1⟩)) hg (.inl rfl)); replace mc := aa.mk (Kd.Ja (v := (.slice (some ⟨kZ, 0, none⟩) eP.length mZ)) (v1 := (.slice (some ⟨kZ, 0, none⟩) eP.length mZ)) (ok := (fun k_ => some k_ ≠ (.slice (some pF) t113.length rr : Value).ownBlock)) mc.out hg (.inl rfl)); replace ab := aa.mk (Z4 (g := ag) (o := .cells #[.slice ak ae.length an, .slice aj af.length al] 24 (0, 0)) (by (with_reducible repeat (first | refine Qv ?_ _ | refine Qx ?_ | refine Qu ?_ _)); exact ab.out) hg (Kd.R_ne iQ.out ab.out (by decide))); replace iQ := aa.mk (hp_); replace HB := aa.mk ((by rw [hw]; exact Zg (HB.out) vi.out : Below w.heap.size w w54)); clear hg hw hp_))
                       go_roundg k4
                       case measure => have := HK1.out; have := HK2.out; have := o0.out; have := HK4.out; omega
                       case rel => exact ⟨(pS), (wrap64 (bJ + 1)), (by first | rfl | (simp; done) | (simp [*]; done)), H', ⟨by have := HK1.out; have := HK2.out; have := o0.out; have := HK4.out; omega⟩, ⟨by (with_reducible repeat (first | apply Kd.R_alloc | apply Kd.R_drewN | apply Kd.QX)); exact Kd.Zl hX.out (fun _ hk => ⟨hk.2, hk.1⟩)⟩, ⟨by (with_reducible repeat (first | apply Kd.R_alloc | apply Kd.R_drewN | apply Kd.QX)); exact iQ.out⟩, ⟨by (with_reducible repeat (first | apply Kd.R_alloc | apply Kd.R_drewN | apply Kd.QX)); exact mc.out⟩, ⟨by (with_reducible repeat (first | refine Qv ?_ _ | refine Qx ?_ | refine Qu ?_ _)); exact ab.out⟩, ⟨bB⟩⟩
                      ·rw [if_neg c50] at H; exact absurd H (by simp)
                     ·rw [if_neg c49] at H; exact absurd H (by simp)
                    ·rw [if_neg c48] at H; exact absurd H (by simp)
                   ·rw [if_neg c47] at H; exact absurd H (by simp)
                  ·rw [if_neg c46] at H; exact absurd H (by simp)
                 ·rw [if_neg c45] at H; have rE : decide (bJ < (bg.length : Int)) = false := decide_eq_false c45; clear c45; simp only [Option.some.injEq, Prod.mk.injEq] at H; obtain ⟨rfl, rfl⟩ := H; go_wp2; go_ret2; exact ⟨_, by first | rfl | (simp [Qk, Qj] <;> rfl) | (simp only [← kS, ← kv]; first | rfl | (simp [Qk, Qj] <;> rfl)) | (simp [*, Qk, Qj] <;> rfl), by (with_reducible repeat (first | apply Kd.R_alloc | apply Kd.R_drewN | apply Kd.QX)); exact Kd.Zl iQ.out (fun _ hk => trivial), bB⟩
              ·rw [if_neg c40] at H; exact absurd H (by simp)
             ·rw [if_neg c39] at H; exact absurd H (by simp)
     ·rw [if_neg c10] at H; exact absurd H (by simp)
    ·rw [if_neg c9] at H; have fA : decide (bs < ji5) = false := decide_eq_false c9; clear c9; simp only [Option.some.injEq, Prod.mk.injEq] at H; obtain ⟨rfl, rfl⟩ := H; go_wp2; go_ret2; exact ⟨_, by first | rfl | (simp [Qk, Qj] <;> rfl) | (simp only [← kS]; first | rfl | (simp [Qk, Qj] <;> rfl)) | (simp [*, Qk, Qj] <;> rfl), by first | exact Kd.Yp _ _ _ _ _ | exact Kd.YU _ _ _ _ _ | exact Kd.V_nil _ _ _ _ _ | exact Kd.Q_nil _ _ _ _ _ | exact Kd.YZ _ _ _ _ _, bB⟩
 ·rw [if_neg c4] at H; exact absurd H (by simp)
mutual
def QP.l0 : Nat → List Int → Int → Int → List (List Int) → List (List Int) → Option (List Int × Bool)
 | 0, _, _, _, _, _ => none
 | k + 1, x4, x14, x15, ar, au => if x15 < x14 then (if 0 ≤ x15 then (if x15 < (x4.length : Int) then (if (rd x4 x15) > 0 then (QP.l0 k x4 x14 (wrap64 (x15 + 1)) ar au) else ((QC.f k ar au x15).bind fun a8 => (if a8.2 = true then (QP.l1 k x4 x14 x15 a8.1 (a8.1.length : Int) 0 ar au) else (some (([] : List Int), false))))) else (none)) else (none)) else (some (x4, true))
def QP.l1 : Nat → List Int → Int → Int → List Int → Int → Int → List (List Int) → List (List Int) → Option (List Int × Bool)
 | 0, _, _, _, _, _, _, _, _ => none
 | k + 1, x4, x14, x15, x31, x32, x33, ar, au => if x33 < x32 then (if 0 ≤ x33 then (if x33 < (x31.length : Int) then (if x33 < (x4.length : Int) then (QP.l1 k (x4.set (x33 : Int).toNat (wrap64 ((rd x4 x33) + (rd x31 x33)))) x14 x15 x31 x32 (wrap64 (x33 + 1)) ar au) else (none)) else (none)) else (none)) else (QP.l0 k x4 x14 (wrap64 (x15 + 1)) ar au)
end
def QP.f (k : Nat) (ae : List (List Int)) (af : List (List Int)) : Option (List Int × Bool) := (QS.f ae af).bind fun t102 => (if 0 ≤ t102 then (if (t102 : Int).toNat ≤ 35184372088832 then ((some (List.replicate (t102 : Int).toNat 0 : List Int)).bind fun db => (QP.l0 k db (db.length : Int) 0 ae af)) else (none)) else (none))
set_option maxHeartbeats 8000000 in
set_option maxRecDepth 100000 in
theorem QP.calls (k : Nat) (ak : Option Addr) (an : Nat) (ae : List (List Int)) (aj : Option Addr) (al : Nat) (af : List (List Int)) (r1 : List Int) (r2 : Bool) (w : World) (aV : Kd.C (Kd.slice 3 (Kd.int .i64)) w ak ae.length ae) (aX : ae.length ≤ an) (aU : Kd.C (Kd.slice 3 (Kd.int .i64)) w aj af.length af) (aW : af.length ≤ al) (h : QP.f k ae af = some (r1, r2)) :
  Calls Try.prog 74 #[.agg #[.slice ak ae.length an, .slice aj af.length al]] w fun e w' => ∃ v0_ : Value, e = .returned (.tuple #[v0_, .bool r2]) ∧ Kd.R (Kd.int .i64) 3 w' w.heap.size (fun _ => True) v0_ r1 ∧ Below w.heap.size w w' := by
 have dD := Try.underlying24; have av := aa.mk aV; have aw := aa.mk aX; clear aV aX; have ay := aa.mk aU; have ax := aa.mk aW; clear aU aW; have HB := aa.mk (Below.refl w.heap.size w); have H : ((QS.f ae af).bind fun t102 => (if 0 ≤ t102 then (if (t102 : Int).toNat ≤ 35184372088832 then ((some (List.replicate (t102 : Int).toNat 0 : List Int)).bind fun db => (QP.l0 k db (db.length : Int) 0 ae af)) else (none)) else (none))) = some (r1, r2) := h; clear h; replace H := Option.bind_eq_some_iff.mp H; obtain ⟨t102, A20, H⟩ := H; replace H : (if 0 ≤ t102 then (if (t102 : Int).toNat ≤ 35184372088832 then ((some (List.replicate (t102 : Int).toNat 0 : List Int)).bind fun db => (QP.l0 k db (db.length : Int) 0 ae af)) else (none)) else (none)) = some (r1, r2) := H; have A2 := aa.mk A20; clear A20; by_cases c3 : 0 ≤ t102
 ·rw [if_pos c3] at H; have bU := eq_true c3; have cE : decide (0 ≤ t102) = true := decide_eq_true c3; clear c3; by_cases c4 : (t102 : Int).toNat ≤ 35184372088832
  ·rw [if_pos c4] at H; have bI := eq_true c4; have cZ : decide ((t102 : Int).toNat ≤ 35184372088832) = true := decide_eq_true c4; clear c4; obtain ⟨db, fb⟩ : ∃ y_ : List Int, y_ = (List.replicate (t102 : Int).toNat 0) := ⟨_, rfl⟩; replace H : (QP.l0 k db (db.length : Int) 0 ae af) = some (r1, r2) := by first | (rw [fb]; with_reducible exact H) | (have H2_ := (Option.bind_some _ _).symm.trans H; rw [fb]; with_reducible exact H2_) | (have H2_ := (Option.bind_some _ _).symm.trans H; with_reducible exact H2_) | with_reducible exact H | (rw [fb]; exact H) | exact H
   have iO := aa.mk fb; clear fb; have H' := aa.mk H; clear H; go_enter Try.func74, Try.ntmps74; go_wp2_with (first | ((with_reducible refine QM (N := 1) rfl ?_); refine QU ?hg (N := 1) ?hd (cs := #[.slice ak ae.length an, .slice aj af.length al]) (t := 24) ?hr ?_; (case hd => rfl); (case hg => rfl); (case hr => first | (go_simp; done) | (go_simp; rfl)); intro ag hg w5 hbox hb; have ab := aa.mk (hbox); have ba := aa.mk ((by rw [hg]; exact (Qe bB) : w.heap.size ≤ ag)); have aN := aa.mk ((by rw [hg]; exact (Qe bB) : w.heap.size ≤ ag)); replace HB := aa.mk (Qc bB hb); clear hb hbox hg; have fk : w5.cell? ⟨ag, 0, none⟩ = some (.slice ak ae.length an) := (Qb ab.out 0).trans rfl; have fj : w5.cell? ⟨ag, 1, none⟩ = some (.slice aj af.length al) := (Qb ab.out 1).trans rfl; have fg := Qa ab.out 0; have ff := Qa ab.out 1) | ((with_reducible refine Qf (f := 71) rfl ?_); refine QE (some 11) rfl rfl Try.func71 (by kernel_rfl) rfl #[.agg #[.slice ak ae.length an, .slice aj af.length al]] rfl hA ?_; (with_reducible refine (QS.calls _ _ ae _ _ af t102 _ ?ai ?ah ?aq ?ao A2.out).mono ?_); (case ai => exact (Kd.Qh av.out HB.out)); (case ah => exact aw.out); (case aq => exact (Kd.Qh ay.out HB.out)); (case ao => exact ax.out); rintro e w7 ⟨rfl, hb⟩; refine ⟨_, rfl, ?_⟩; replace ab := aa.mk (Ql ab.out hb); replace HB := aa.mk (Qc bB hb); (try clear hb); (try clear hb2); (try clear hk); (try clear hi)) | ((with_reducible refine QM (N := 12) rfl ?_); refine Kd.U9 (Kd.int .i64) _ 3 rfl (N := 12) rfl 28 _ _ rfl t102 rfl rfl Try.underlying28 (.int .i64 0) 8 info3 rfl (by decide) (by omega) 0 (ok := fun _ => True) (okp := fun _ => True) rfl (fun _ hk => hk) trivial (of_decide_eq_true (by assumption)) (Nat.le_trans (Nat.mul_le_mul_right _ (of_decide_eq_true (by assumption) : t102.toNat ≤ 35184372088832)) (by omega)) (Below.refl _ _) (Nat.le_refl _) ?_; intro et w8 ho9 hb hg_ hnew_; clear hg_ hnew_; (first | rw [← iO.out] at ho9 | (simp only [Int.reduceToNat] at ho9; rw [← iO.out] at ho9)); have bm := aa.mk (Kd.Zb ho9 (Qe bB)); replace ab := aa.mk (Ql ab.out hb); replace HB := aa.mk (Qc bB hb); clear hb ho9; obtain ⟨vu, mz, uO⟩ := Kd.Q9 bm.out; subst uO))
   go_loopg [15] k (fun kq v15 w' => ∃ (cv : List Int) (bN : Int), v15 = .int .i64 bN ∧ aa (QP.l0 kq cv (db.length : Int) bN ae af = some (r1, r2)) ∧ aa (kq ≤ k) ∧ aa (Kd.R (Kd.int .i64) 3 w' w.heap.size (fun _ => True) (.slice vu db.length mz) cv) ∧ aa (w'.heap[ag]? = some (.cells #[(.slice ak ae.length an), (.slice aj af.length al)] 24 (0, 0))) ∧ aa (Below w.heap.size w w'))
   case atStart => exact ⟨(db), (0), (by first | rfl | (simp; done) | (simp [*]; done)), H', ⟨Nat.le_refl _⟩, ⟨by (with_reducible repeat (first | apply Kd.R_alloc | apply Kd.R_drewN | apply Kd.QX)); exact bm.out⟩, ⟨by (with_reducible repeat (first | refine Qv ?_ _ | refine Qx ?_ | refine Qu ?_ _)); exact ab.out⟩, ⟨bB⟩⟩
   case round =>
    clear H'; try clear p2
    try clear c3
    try clear bU
    try clear cE
    try clear c4
    try clear bI
    try clear cZ
    try clear c7
    try clear fk
    try clear fj
    try clear fg
    try clear ff
    obtain ⟨cv, bN, rfl, HA, HK1, dq, ab, HB⟩ := hrel; have dw := (Kd.QH dq.out).1; rw [dw] at dq; (try simp only [dw])
    (try simp only [dw] at ab)
    cases gk with
    | zero => exact absurd HA.out (by simp [QP.l0])
    | succ k1 =>
     have H := HA.out; clear HA; simp only [QP.l0] at H; by_cases c11 : bN < (db.length : Int)
     ·rw [if_pos c11] at H; have dV : decide (bN < (db.length : Int)) = true := decide_eq_true c11; clear c11; by_cases c12 : 0 ≤ bN
      ·rw [if_pos c12] at H; have eB : decide (0 ≤ bN) = true := decide_eq_true c12; clear c12; by_cases c13 : bN < (cv.length : Int)
       ·rw [if_pos c13] at H; have iJ : decide (bN < (cv.length : Int)) = true := decide_eq_true c13; clear c13; by_cases c14 : (rd cv bN) > 0
        ·rw [if_pos c14] at H; have eA : decide (0 < (rd cv bN)) = true := decide_eq_true c14; clear c14; have H' := aa.mk H; clear H; have bz : 0 ≤ (bN : Int) := of_decide_eq_true (by assumption); have bw : bN < (cv.length : Int) := of_decide_eq_true (by assumption); obtain ⟨da, dr, aQ⟩ := Kd.QZ (Kd.QH dq.out).2.2 bN bz bw; cases dr; replace bz := eq_true bz; replace bw := eq_true bw; go_wp2; (try simp only [← dw])
         go_roundg k1
         case measure => have := HK1.out; omega
         case rel => exact ⟨(cv), (wrap64 (bN + 1)), (by first | rfl | (simp; done) | (simp [*]; done)), H', ⟨by have := HK1.out; omega⟩, ⟨by (try simp only [dw]); (with_reducible repeat (first | apply Kd.R_alloc | apply Kd.R_drewN | apply Kd.QX)); exact dq.out⟩, ⟨by (try simp only [dw]); (with_reducible repeat (first | refine Qv ?_ _ | refine Qx ?_ | refine Qu ?_ _)); exact ab.out⟩, ⟨bB⟩⟩
        ·rw [if_neg c14] at H; have eA : decide (0 < (rd cv bN)) = false := decide_eq_false c14; clear c14; replace H := Option.bind_eq_some_iff.mp H; obtain ⟨⟨t107, t110⟩, nm, H⟩ := H; replace H : (if t110 = true then (QP.l1 k1 cv (db.length : Int) bN t107 (t107.length : Int) 0 ae af) else (some (([] : List Int), false))) = some (r1, r2) := H; have A15 := aa.mk nm; clear nm; by_cases c16 : t110 = true
         ·subst c16; have H1 : (QP.l1 k1 cv (db.length : Int) bN t107 (t107.length : Int) 0 ae af) = some (r1, r2) := by rw [if_pos rfl] at H; exact H
          clear H; have H := H1; clear H1; have H' := aa.mk H; clear H; have bz : 0 ≤ (bN : Int) := of_decide_eq_true (by assumption); have bw : bN < (cv.length : Int) := of_decide_eq_true (by assumption); obtain ⟨k5, cz, ez, gbz, glz, clz, HGz⟩ := Kd.Ul dq.out (by omega); (first | cases ez | (injection ez with ea_ en_ ec_; (first | subst ea_ | (injection ea_ with ea_; subst ea_)); subst ec_; clear en_))
          clear gbz glz clz HGz; obtain ⟨da, dr, aQ⟩ := Kd.QZ (Kd.QH dq.out).2.2 bN bz bw; cases dr; (first | simp only [Z9] at aQ | skip)
          replace bz := eq_true bz; replace bw := eq_true bw; have gv : wr.cell? ⟨ag, 0, none⟩ = some (.slice ak ae.length an) := (Qb ab.out 0).trans rfl; have gu : wr.cell? ⟨ag, 1, none⟩ = some (.slice aj af.length al) := (Qb ab.out 1).trans rfl; have gh := Qa ab.out 0; have gg := Qa ab.out 1; go_wp2_with (first | ((with_reducible refine Qf (f := 112) rfl ?_); refine QE (some 26) rfl rfl Try.func112 (by kernel_rfl) rfl #[.agg #[.slice ak ae.length an, .slice aj af.length al], .int .i64 bN] rfl hA ?_; (with_reducible refine (QC.calls k1 _ _ ae _ _ af bN t107 true _ ?ai ?ah ?aq ?ao A15.out).mono ?_); (case ai => exact (Kd.Qh av.out HB.out)); (case ah => exact aw.out); (case aq => exact (Kd.Qh ay.out HB.out)); (case ao => exact ax.out); rintro e w18 ⟨cK, rfl, ho0, hb⟩; refine ⟨_, rfl, ?_⟩; have aT := aa.mk (Kd.Zb (Kd.Zy ho0 (Kd.R_lt dq.out)) (Qe bB)); replace dq := aa.mk (Kd.Zj dq.out (Kd.QY ho0) hb); replace ab := aa.mk (Ql ab.out hb); replace HB := aa.mk (Qc bB hb); (try clear hb); (try clear hb2); (try clear hk); (try clear hi); (try clear ho0); obtain ⟨qS, oT, qB⟩ := Kd.Q9 aT.out; subst qB))
          go_loopg [33] k1 (fun kq v33 w' => ∃ (az : List Int) (aI : Int), v33 = .int .i64 aI ∧ aa (QP.l1 kq az (db.length : Int) bN t107 (t107.length : Int) aI ae af = some (r1, r2)) ∧ aa (kq ≤ k1) ∧ aa (Kd.R (Kd.int .i64) 3 w' w.heap.size (fun k_ => some k_ ≠ ((.slice qS t107.length oT) : Value).ownBlock) (.slice (some ⟨k5, 0, none⟩) cv.length mz) az) ∧ aa (Kd.R (Kd.int .i64) 3 w' w.heap.size (fun k_ => some k_ ≠ ((.slice (some ⟨k5, 0, none⟩) cv.length mz) : Value).ownBlock) (.slice qS t107.length oT) t107) ∧ aa (w'.heap[ag]? = some (.cells #[(.slice ak ae.length an), (.slice aj af.length al)] 24 (0, 0))) ∧ aa (Below w.heap.size w w'))
          case atStart => exact ⟨(cv), (0), (by first | rfl | (simp; done) | (simp [*]; done)), H', ⟨Nat.le_refl _⟩, ⟨by (try simp only [dw]); (with_reducible repeat (first | apply Kd.R_alloc | apply Kd.R_drewN | apply Kd.QX)); exact Kd.Zl dq.out (fun _ hk => hk.2)⟩, ⟨by (try simp only [dw]); (with_reducible repeat (first | apply Kd.R_alloc | apply Kd.R_drewN | apply Kd.QX)); exact Kd.Zl aT.out (fun _ hk => hk.2)⟩, ⟨by (try simp only [dw]); (with_reducible repeat (first | refine Qv ?_ _ | refine Qx ?_ | refine Qu ?_ _)); exact ab.out⟩, ⟨bB⟩⟩
          case round =>
           clear H'; try clear c1
           try clear p1
           try clear q1
           try clear hx1
           try clear p2
           try clear c3
           try clear bU
           try clear cE
           try clear c4
           try clear bI
           try clear cZ
           try clear p6
           try clear c7
           try clear p10
           try clear q10
           try clear hH
           try clear c11
           try clear dV
           try clear c12
           try clear eB
           try clear c13
           try clear iJ
           try clear c14
           try clear eA
           try clear c16
           try clear gv
           try clear gu
           try clear fk
           try clear fj
           try clear gh
           try clear gg
           try clear fg
           try clear ff
           try clear aQ
           try clear bz
           try clear p2
           try clear bw
           obtain ⟨az, aI, rfl, HA, HK2, dq, bZ, ab, HB⟩ := hrel; have fe := (Kd.QH dq.out).1; rw [fe] at dq; (try simp only [fe])
           (try simp only [fe] at ab)
           (try simp only [fe] at bZ)
           cases gk with
           | zero => exact absurd HA.out (by simp [QP.l1])
           | succ k2 =>
            have H := HA.out; clear HA; simp only [QP.l1] at H; by_cases c20 : aI < (t107.length : Int)
            ·rw [if_pos c20] at H; have iG : decide (aI < (t107.length : Int)) = true := decide_eq_true c20; clear c20; by_cases c21 : 0 ≤ aI
             ·rw [if_pos c21] at H; have iF : decide (0 ≤ aI) = true := decide_eq_true c21; clear c21; by_cases c22 : aI < (t107.length : Int)
              ·rw [if_pos c22] at H; have kA : decide (aI < (t107.length : Int)) = true := decide_eq_true c22; clear c22; by_cases c23 : aI < (az.length : Int)
               ·rw [if_pos c23] at H; have pE : decide (aI < (az.length : Int)) = true := decide_eq_true c23; clear c23; obtain ⟨pT, km⟩ : ∃ y_ : List Int, y_ = (az.set (aI : Int).toNat (wrap64 ((rd az aI) + (rd t107 aI)))) := ⟨_, rfl⟩; replace H : (QP.l1 k2 pT (db.length : Int) bN t107 (t107.length : Int) (wrap64 (aI + 1)) ae af) = some (r1, r2) := by first | (rw [km]; with_reducible exact H) | (have H2_ := (Option.bind_some _ _).symm.trans H; rw [km]; with_reducible exact H2_) | (have H2_ := (Option.bind_some _ _).symm.trans H; with_reducible exact H2_) | with_reducible exact H | (rw [km]; exact H) | exact H
                have rV := aa.mk km; clear km; have H' := aa.mk H; clear H; have e8 : 0 ≤ (aI : Int) := of_decide_eq_true (by assumption); have e7 : aI < (t107.length : Int) := of_decide_eq_true (by assumption); obtain ⟨jc, k7, cA⟩ := Kd.QZ (Kd.QH bZ.out).2.2 aI e8 e7; cases k7; replace e8 := eq_true e8; replace e7 := eq_true e7; have eX : 0 ≤ (aI : Int) := of_decide_eq_true (by assumption); have eU : aI < (az.length : Int) := of_decide_eq_true (by assumption); obtain ⟨l8, k6, cI⟩ := Kd.QZ (Kd.QH dq.out).2.2 aI eX eU; cases k6; replace eX := eq_true eX; replace eU := eq_true eU; have p24 : 0 ≤ (aI : Int) := of_decide_eq_true (by assumption); have q24 : (aI : Int) < ((az.length : Int) : Int) := of_decide_eq_true (by assumption); obtain ⟨wJ, gB, kx, rl, uz, wU, sc⟩ := Kd.Ul dq.out (by omega); (first | cases kx | (injection kx with ea_ en_ ec_; (first | subst ea_ | (injection ea_ with ea_; subst ea_)); subst ec_; clear en_))
                have vm := aa.mk rl; have wZ := aa.mk sc; clear rl uz sc; (first | simp only [Z9] at aQ | skip)
                (first | simp only [Z9] at cI | skip)
                obtain ⟨tW, um⟩ := Kd.VU 0 dq.out (aI : Int) p24 q24; replace p24 := eq_true p24; replace q24 := eq_true q24; have qP := Kd.R_putg dq.out (aI : Int) (wrap64 ((rd az aI) + (rd t107 aI))); go_wp2_with (first | ((with_reducible refine Uc (t := 3) (p := 44) rfl ?_); refine VA (t := 3) (p := 44) (v := ?tR) (w1 := (wr.setCell ⟨k5, (aI : Int).toNat, none⟩ (.int .i64 (wrap64 ((rd az aI) + (rd t107 aI)))))) ?hg ?ho ?hn ?hr ?_; (case ho => rfl); (case hg => rfl); (case hn => rfl); (case hr => first | (go_simp; done) | (go_simp; rfl)); intro w26 hw; have hg : wr.grownBy w26 (some k5) := (by rw [hw]; exact qP.2); have hp_ : Kd.R (Kd.int .i64) 3 w26 w.heap.size (fun k_ => some k_ ≠ (.slice (some jc) t107.length oT : Value).ownBlock) (.slice (some ⟨k5, 0, none⟩) az.length mz) pT := (by rw [hw, rV.out]; exact qP.1); clear qP; replace bZ := aa.mk (Kd.Ja (v := (.slice (some ⟨k5, 0, none⟩) az.length mz)) (v1 := (.slice (some ⟨k5, 0, none⟩) az.length mz)) (ok := (fun _ => True)) (by (with_reducible repeat (first | apply Kd.R_alloc | apply Kd.R_drewN | apply Kd.QX)); exact Kd.Zl bZ.out (fun _ hk => ⟨trivial, hk⟩)) hg (.inl rfl)); replace ab := aa.mk (Z4 (g := ag) (o := .cells #[.slice ak ae.length an, .slice aj af.length al] 24 (0, 0)) (by (with_reducible repeat (first | refine Qv ?_ _ | refine Qx ?_ | refine Qu ?_ _)); exact ab.out) hg (Kd.R_ne dq.out ab.out (by decide))); replace dq := aa.mk (hp_); replace HB := aa.mk ((by rw [hw]; exact Zg (HB.out) vm.out : Below w.heap.size w w26)); clear hg hw hp_))
                (try simp only [← fe])
                go_roundg k2
                case measure => have := HK1.out; have := HK2.out; omega
                case rel => exact ⟨(pT), (wrap64 (aI + 1)), (by first | rfl | (simp; done) | (simp [*]; done)), H', ⟨by have := HK1.out; have := HK2.out; omega⟩, ⟨by (try simp only [dw]); (try simp only [fe]); (with_reducible repeat (first | apply Kd.R_alloc | apply Kd.R_drewN | apply Kd.QX)); exact dq.out⟩, ⟨by (try simp only [dw]); (try simp only [fe]); (with_reducible repeat (first | apply Kd.R_alloc | apply Kd.R_drewN | apply Kd.QX)); exact Kd.Zl bZ.out (fun _ hk => hk.2)⟩, ⟨by (try simp only [dw]); (try simp only [fe]); (with_reducible repeat (first | refine Qv ?_ _ | refine Qx ?_ | refine Qu ?_ _)); exact ab.out⟩, ⟨bB⟩⟩
               ·rw [if_neg c23] at H; exact absurd H (by simp)
              ·rw [if_neg c22] at H; exact absurd H (by simp)
             ·rw [if_neg c21] at H; exact absurd H (by simp)
            ·rw [if_neg c20] at H; have iG : decide (aI < (t107.length : Int)) = false := decide_eq_false c20; clear c20; have H' := aa.mk H; clear H; go_wp2; (try simp only [← dw, ← fe])
             go_roundg k2
             case measure => have := HK1.out; have := HK2.out; omega
             case rel => exact ⟨(az), (wrap64 (bN + 1)), (by first | rfl | (simp; done) | (simp [*]; done)), H', ⟨by have := HK1.out; have := HK2.out; omega⟩, ⟨by (try simp only [dw]); (try simp only [fe]); (with_reducible repeat (first | apply Kd.R_alloc | apply Kd.R_drewN | apply Kd.QX)); exact Kd.Zl dq.out (fun _ hk => trivial)⟩, ⟨by (try simp only [dw]); (try simp only [fe]); (with_reducible repeat (first | refine Qv ?_ _ | refine Qx ?_ | refine Qu ?_ _)); exact ab.out⟩, ⟨bB⟩⟩
         ·replace c16 := Bool.eq_false_iff.mpr c16; subst c16; have H1 : (some (([] : List Int), false)) = some (r1, r2) := by rw [if_neg (show ¬ (false = true) by decide)] at H; exact H
          clear H; have H := H1; clear H1; simp only [Option.some.injEq, Prod.mk.injEq] at H; obtain ⟨rfl, rfl⟩ := H; have bz : 0 ≤ (bN : Int) := of_decide_eq_true (by assumption); have bw : bN < (cv.length : Int) := of_decide_eq_true (by assumption); obtain ⟨da, dr, aQ⟩ := Kd.QZ (Kd.QH dq.out).2.2 bN bz bw; cases dr; replace bz := eq_true bz; replace bw := eq_true bw; have iq : wr.cell? ⟨ag, 0, none⟩ = some (.slice ak ae.length an) := (Qb ab.out 0).trans rfl; have im : wr.cell? ⟨ag, 1, none⟩ = some (.slice aj af.length al) := (Qb ab.out 1).trans rfl; have ij := Qa ab.out 0; have ig := Qa ab.out 1; go_wp2_with (first | ((with_reducible refine Qf (f := 112) rfl ?_); refine QE (some 26) rfl rfl Try.func112 (by kernel_rfl) rfl #[.agg #[.slice ak ae.length an, .slice aj af.length al], .int .i64 bN] rfl hA ?_; (with_reducible refine (QC.calls k1 _ _ ae _ _ af bN t107 false _ ?ai ?ah ?aq ?ao A15.out).mono ?_); (case ai => exact (Kd.Qh av.out HB.out)); (case ah => exact aw.out); (case aq => exact (Kd.Qh ay.out HB.out)); (case ao => exact ax.out); rintro e w28 ⟨cK, rfl, ho0, hb⟩; refine ⟨_, rfl, ?_⟩; have aT := aa.mk (Kd.Zb (Kd.Zy ho0 (Kd.R_lt dq.out)) (Qe bB)); replace dq := aa.mk (Kd.Zj dq.out (Kd.QY ho0) hb); replace ab := aa.mk (Ql ab.out hb); replace HB := aa.mk (Qc bB hb); (try clear hb); (try clear hb2); (try clear hk); (try clear hi); (try clear ho0)))
          go_ret2; exact ⟨_, by first | rfl | (simp [Qk, Qj] <;> rfl) | (simp [*, Qk, Qj] <;> rfl), by first | exact Kd.Yp _ _ _ _ _ | exact Kd.YU _ _ _ _ _ | exact Kd.V_nil _ _ _ _ _ | exact Kd.Q_nil _ _ _ _ _ | exact Kd.YZ _ _ _ _ _, bB⟩
       ·rw [if_neg c13] at H; exact absurd H (by simp)
      ·rw [if_neg c12] at H; exact absurd H (by simp)
     ·rw [if_neg c11] at H; have dV : decide (bN < (db.length : Int)) = false := decide_eq_false c11; clear c11; rw [dw] at dV; simp only [Option.some.injEq, Prod.mk.injEq] at H; obtain ⟨rfl, rfl⟩ := H; go_wp2; go_ret2; exact ⟨_, by first | rfl | (simp [Qk, Qj] <;> rfl) | (simp [*, Qk, Qj] <;> rfl), by (with_reducible repeat (first | apply Kd.R_alloc | apply Kd.R_drewN | apply Kd.QX)); exact dq.out, bB⟩
  ·rw [if_neg c4] at H; exact absurd H (by simp)
 ·rw [if_neg c3] at H; exact absurd H (by simp)
def Zh.f (k : Nat) (ae : List (List Int)) (af : List (List Int)) : Option (Bool × Int) := (Qg.f k ae af).bind fun t102 => (if t102 = 0 then ((QP.f k ae af).bind fun kC => (some (kC.2, 0))) else (some (false, t102)))
set_option maxHeartbeats 8000000 in
set_option maxRecDepth 100000 in
theorem Zh.calls (k : Nat) (ak : Option Addr) (an : Nat) (ae : List (List Int)) (aj : Option Addr) (al : Nat) (af : List (List Int)) (r1 : Bool) (r2 : Int) (w : World) (aV : Kd.C (Kd.slice 3 (Kd.int .i64)) w ak ae.length ae) (aX : ae.length ≤ an) (aU : Kd.C (Kd.slice 3 (Kd.int .i64)) w aj af.length af) (aW : af.length ≤ al) (h : Zh.f k ae af = some (r1, r2)) :
  Calls Try.prog 37 #[.agg #[.slice ak ae.length an, .slice aj af.length al]] w fun e w' => e = .returned (.tuple #[.bool r1, .int .i64 r2]) ∧ Below w.heap.size w w' := by
 have dD := Try.underlying24; have av := aa.mk aV; have aw := aa.mk aX; clear aV aX; have ay := aa.mk aU; have ax := aa.mk aW; clear aU aW; have HB := aa.mk (Below.refl w.heap.size w); have H : ((Qg.f k ae af).bind fun t102 => (if t102 = 0 then ((QP.f k ae af).bind fun kC => (some (kC.2, 0))) else (some (false, t102)))) = some (r1, r2) := h; clear h; replace H := Option.bind_eq_some_iff.mp H; obtain ⟨t102, A20, H⟩ := H; replace H : (if t102 = 0 then ((QP.f k ae af).bind fun kC => (some (kC.2, 0))) else (some (false, t102))) = some (r1, r2) := H; have A2 := aa.mk A20; clear A20; by_cases c3 : t102 = 0
 ·rw [if_pos c3] at H; have bU : (t102 == 0) = true := beq_iff_eq.mpr c3; have cE : (t102 != 0) = false := bne_eq_false_iff_eq.mpr c3; clear c3; replace H := Option.bind_eq_some_iff.mp H; obtain ⟨⟨t103, t106⟩, A40, H⟩ := H; replace H : (some (t106, 0)) = some (r1, r2) := H; have A4 := aa.mk A40; clear A40; simp only [Option.some.injEq, Prod.mk.injEq] at H; obtain ⟨rfl, rfl⟩ := H; go_enter Try.func37, Try.ntmps37; go_wp2_with (first | ((with_reducible refine QM (N := 1) rfl ?_); refine QU ?hg (N := 1) ?hd (cs := #[.slice ak ae.length an, .slice aj af.length al]) (t := 24) ?hr ?_; (case hd => rfl); (case hg => rfl); (case hr => first | (go_simp; done) | (go_simp; rfl)); intro ag hg w5 hbox hb; have ab := aa.mk (hbox); have ba := aa.mk ((by rw [hg]; exact (Qe bB) : w.heap.size ≤ ag)); have aN := aa.mk ((by rw [hg]; exact (Qe bB) : w.heap.size ≤ ag)); replace HB := aa.mk (Qc bB hb); clear hb hbox hg; have fk : w5.cell? ⟨ag, 0, none⟩ = some (.slice ak ae.length an) := (Qb ab.out 0).trans rfl; have fj : w5.cell? ⟨ag, 1, none⟩ = some (.slice aj af.length al) := (Qb ab.out 1).trans rfl; have fg := Qa ab.out 0; have ff := Qa ab.out 1) | ((with_reducible refine Qf (f := 38) rfl ?_); refine QE (some 8) rfl rfl Try.func38 (by kernel_rfl) rfl #[.agg #[.slice ak ae.length an, .slice aj af.length al]] rfl hA ?_; (with_reducible refine (Qg.calls k _ _ ae _ _ af t102 _ ?ai ?ah ?aq ?ao A2.out).mono ?_); (case ai => exact (Kd.Qh av.out HB.out)); (case ah => exact aw.out); (case aq => exact (Kd.Qh ay.out HB.out)); (case ao => exact ax.out); rintro e w7 ⟨rfl, hb⟩; refine ⟨_, rfl, ?_⟩; replace ab := aa.mk (Ql ab.out hb); replace HB := aa.mk (Qc bB hb); (try clear hb); (try clear hb2); (try clear hk); (try clear hi); have qj : w7.cell? ⟨ag, 0, none⟩ = some (.slice ak ae.length an) := (Qb ab.out 0).trans rfl; have qi : w7.cell? ⟨ag, 1, none⟩ = some (.slice aj af.length al) := (Qb ab.out 1).trans rfl; have qf := Qa ab.out 0; have qe := Qa ab.out 1) | ((with_reducible refine Qf (f := 74) rfl ?_); refine QE (some 14) rfl rfl Try.func74 (by kernel_rfl) rfl #[.agg #[.slice ak ae.length an, .slice aj af.length al]] rfl hA ?_; (with_reducible refine (QP.calls k _ _ ae _ _ af t103 t106 _ ?ai ?ah ?aq ?ao A4.out).mono ?_); (case ai => exact (Kd.Qh av.out HB.out)); (case ah => exact aw.out); (case aq => exact (Kd.Qh ay.out HB.out)); (case ao => exact ax.out); rintro e w9 ⟨et, rfl, ho0, hb⟩; refine ⟨_, rfl, ?_⟩; have bm := aa.mk (Kd.Zb ho0 (Qe bB)); replace ab := aa.mk (Ql ab.out hb); replace HB := aa.mk (Qc bB hb); (try clear hb); (try clear hb2); (try clear hk); (try clear hi); (try clear ho0)))
  go_ret2; exact ⟨by first | rfl | (simp [Qk, Qj] <;> rfl) | (simp [*, Qk, Qj] <;> rfl), bB⟩
 ·rw [if_neg c3] at H; have bU : (t102 == 0) = false := beq_eq_false_iff_ne.mpr c3; have cE : (t102 != 0) = true := bne_iff_ne.mpr c3; simp only [Option.some.injEq, Prod.mk.injEq] at H; obtain ⟨rfl, rfl⟩ := H; go_enter Try.func37, Try.ntmps37; go_wp2_with (first | ((with_reducible refine QM (N := 1) rfl ?_); refine QU ?hg (N := 1) ?hd (cs := #[.slice ak ae.length an, .slice aj af.length al]) (t := 24) ?hr ?_; (case hd => rfl); (case hg => rfl); (case hr => first | (go_simp; done) | (go_simp; rfl)); intro ag hg w10 hbox hb; have ab := aa.mk (hbox); have ba := aa.mk ((by rw [hg]; exact (Qe bB) : w.heap.size ≤ ag)); have aN := aa.mk ((by rw [hg]; exact (Qe bB) : w.heap.size ≤ ag)); replace HB := aa.mk (Qc bB hb); clear hb hbox hg; have cl : w10.cell? ⟨ag, 0, none⟩ = some (.slice ak ae.length an) := (Qb ab.out 0).trans rfl; have ck : w10.cell? ⟨ag, 1, none⟩ = some (.slice aj af.length al) := (Qb ab.out 1).trans rfl; have cj := Qa ab.out 0; have ch := Qa ab.out 1) | ((with_reducible refine Qf (f := 38) rfl ?_); refine QE (some 8) rfl rfl Try.func38 (by kernel_rfl) rfl #[.agg #[.slice ak ae.length an, .slice aj af.length al]] rfl hA ?_; (with_reducible refine (Qg.calls k _ _ ae _ _ af t102 _ ?ai ?ah ?aq ?ao A2.out).mono ?_); (case ai => exact (Kd.Qh av.out HB.out)); (case ah => exact aw.out); (case aq => exact (Kd.Qh ay.out HB.out)); (case ao => exact ax.out); rintro e w12 ⟨rfl, hb⟩; refine ⟨_, rfl, ?_⟩; replace ab := aa.mk (Ql ab.out hb); replace HB := aa.mk (Qc bB hb); (try clear hb); (try clear hb2); (try clear hk); (try clear hi)))
  go_ret2; exact ⟨by first | rfl | (simp [Qk, Qj] <;> rfl) | (simp [*, Qk, Qj] <;> rfl), bB⟩
def Qs.j0 : Nat → List Int → Bool → List (List Int) → List (List Int) → Option (Bool)
 | 0, _, _, _, _ => none
 | k + 1, x1, x13, ar, au => if x13 = true then ((QQ.f k).bind fun t104 => (some t104)) else ((QG.f k ar au x1).bind fun t105 => ((Qm.f k ar au x1).bind fun t106 => (if t105 = t106 then ((Zh.f k ar au).bind fun a8 => (if t105 = 0 then (if a8.2 = 0 then (if a8.1 = true then (some false) else ((QQ.f k).bind fun t109 => (some t109))) else (some false)) else ((QQ.f k).bind fun t110 => (some t110)))) else (some false))))
def Qs.f (k : Nat) (ae : List (List Int)) (af : List (List Int)) (l1 : List Int) : Option (Bool) := (Qy.f k ae af).bind fun t102 => (if t102 = true then (Qs.j0 k l1 true ae af) else ((Zr.f l1).bind fun t103 => (Qs.j0 k l1 t103 ae af)))
set_option maxHeartbeats 8000000 in
set_option maxRecDepth 100000 in
theorem Qs.calls (k : Nat) (ak : Option Addr) (an : Nat) (ae : List (List Int)) (aj : Option Addr) (al : Nat) (af : List (List Int)) (A1 : Option Addr) (c1 : Nat) (l1 : List Int) (r : Bool) (w : World) (aV : Kd.C (Kd.slice 3 (Kd.int .i64)) w ak ae.length ae) (aX : ae.length ≤ an) (aU : Kd.C (Kd.slice 3 (Kd.int .i64)) w aj af.length af) (aW : af.length ≤ al) (hr1 : Kd.C (Kd.int .i64) w A1 l1.length l1) (hc1 : l1.length ≤ c1) (h : Qs.f k ae af l1 = some r) :
  Calls Try.prog 28 #[.agg #[.slice ak ae.length an, .slice aj af.length al], .slice A1 l1.length c1] w fun e w' => e = .returned (.bool r) ∧ Below w.heap.size w w' := by
 have dD := Try.underlying24; have av := aa.mk aV; have aw := aa.mk aX; clear aV aX; have ay := aa.mk aU; have ax := aa.mk aW; clear aU aW; have HR1 := aa.mk hr1; have HC1 := aa.mk hc1; clear hr1 hc1; have HB := aa.mk (Below.refl w.heap.size w); have H : ((Qy.f k ae af).bind fun t102 => (if t102 = true then (Qs.j0 k l1 true ae af) else ((Zr.f l1).bind fun t103 => (Qs.j0 k l1 t103 ae af)))) = some r := h; clear h; have HC3 := aa.mk H; clear H; go_enter Try.func28, Try.ntmps28; go_upto_region 1 with (first | ((with_reducible refine QM (N := 2) rfl ?_); refine QU ?hg (N := 2) ?hd (cs := #[.slice ak ae.length an, .slice aj af.length al]) (t := 24) ?hr ?_; (case hd => rfl); (case hg => rfl); (case hr => first | (go_simp; done) | (go_simp; rfl)); intro ag hg w4 hbox hb; have ab := aa.mk (hbox); have ba := aa.mk ((by rw [hg]; exact (Qe bB) : w.heap.size ≤ ag)); have aN := aa.mk ((by rw [hg]; exact (Qe bB) : w.heap.size ≤ ag)); replace HB := aa.mk (Qc bB hb); clear hb hbox hg))
 (try simp only [Act.put, zA, zB, zC])
 go_cut [13] (fun v13 wc => ∃ (kq : Nat) (eO : Bool), v13 = .bool eO ∧ aa (Qs.j0 kq l1 eO ae af = some r) ∧ aa (kq ≤ k) ∧ aa (wc.heap[ag]? = some (.cells #[(.slice ak ae.length an), (.slice aj af.length al)] 24 (0, 0))) ∧ aa (Below w.heap.size w wc))
 case first =>
  have H := HC3.out; clear HC3; replace H := Option.bind_eq_some_iff.mp H; obtain ⟨t102, A50, H⟩ := H; replace H : (if t102 = true then (Qs.j0 k l1 true ae af) else ((Zr.f l1).bind fun t103 => (Qs.j0 k l1 t103 ae af))) = some r := H; have A5 := aa.mk A50; clear A50; by_cases c6 : t102 = true
  ·subst c6; have H1 : (Qs.j0 k l1 true ae af) = some r := by rw [if_pos rfl] at H; exact H
   clear H; have H := H1; clear H1; have H' := aa.mk H; clear H; have dS : w4.cell? ⟨ag, 0, none⟩ = some (.slice ak ae.length an) := (Qb ab.out 0).trans rfl; have dR : w4.cell? ⟨ag, 1, none⟩ = some (.slice aj af.length al) := (Qb ab.out 1).trans rfl; have dQ := Qa ab.out 0; have dP := Qa ab.out 1; go_wp2_with (first | ((with_reducible refine Qf (f := 36) rfl ?_); refine QE (some 9) rfl rfl Try.func36 (by kernel_rfl) rfl #[.agg #[.slice ak ae.length an, .slice aj af.length al]] rfl hA ?_; (with_reducible refine (Qy.calls k _ _ ae _ _ af true _ ?ai ?ah ?aq ?ao A5.out).mono ?_); (case ai => exact (Kd.Qh av.out HB.out)); (case ah => exact aw.out); (case aq => exact (Kd.Qh ay.out HB.out)); (case ao => exact ax.out); rintro e w8 ⟨rfl, hb⟩; refine ⟨_, rfl, ?_⟩; replace ab := aa.mk (Ql ab.out hb); replace HB := aa.mk (Qc bB hb); (try clear hb); (try clear hb2); (try clear hk); (try clear hi)))
   go_meet
   case rel => exact ⟨_, (true), (by first | rfl | (simp; done) | (simp [*]; done)), H', ⟨by first | omega | exact Nat.le_refl _⟩, ⟨by (with_reducible repeat (first | refine Qv ?_ _ | refine Qx ?_ | refine Qu ?_ _)); exact ab.out⟩, ⟨bB⟩⟩
  ·replace c6 := Bool.eq_false_iff.mpr c6; subst c6; have H1 : ((Zr.f l1).bind fun t103 => (Qs.j0 k l1 t103 ae af)) = some r := by rw [if_neg (show ¬ (false = true) by decide)] at H; exact H
   clear H; have H := H1; clear H1; replace H := Option.bind_eq_some_iff.mp H; obtain ⟨t103, A90, H⟩ := H; replace H : (Qs.j0 k l1 t103 ae af) = some r := H; have A9 := aa.mk A90; clear A90; have H' := aa.mk H; clear H; have dH : w4.cell? ⟨ag, 0, none⟩ = some (.slice ak ae.length an) := (Qb ab.out 0).trans rfl; have dG : w4.cell? ⟨ag, 1, none⟩ = some (.slice aj af.length al) := (Qb ab.out 1).trans rfl; have dF := Qa ab.out 0; have dE := Qa ab.out 1; go_wp2_with (first | ((with_reducible refine Qf (f := 36) rfl ?_); refine QE (some 9) rfl rfl Try.func36 (by kernel_rfl) rfl #[.agg #[.slice ak ae.length an, .slice aj af.length al]] rfl hA ?_; (with_reducible refine (Qy.calls k _ _ ae _ _ af false _ ?ai ?ah ?aq ?ao A5.out).mono ?_); (case ai => exact (Kd.Qh av.out HB.out)); (case ah => exact aw.out); (case aq => exact (Kd.Qh ay.out HB.out)); (case ao => exact ax.out); rintro e w11 ⟨rfl, hb⟩; refine ⟨_, rfl, ?_⟩; replace ab := aa.mk (Ql ab.out hb); replace HB := aa.mk (Qc bB hb); (try clear hb); (try clear hb2); (try clear hk); (try clear hi)) | (go_at_call 49; (with_reducible refine (Zr.calls _ _ l1 t103 _ ?ai ?ah A9.out).mono ?_); (case ai => exact (Kd.Qh HR1.out HB.out)); (case ah => exact HC1.out); rintro e w' ⟨rfl, ⟨nd, rfl⟩⟩))
   go_meet
   case rel => exact ⟨_, (t103), (by first | rfl | (simp; done) | (simp [*]; done)), H', ⟨by first | omega | exact Nat.le_refl _⟩, ⟨by (with_reducible repeat (first | refine Qv ?_ _ | refine Qx ?_ | refine Qu ?_ _)); exact ab.out⟩, ⟨bB⟩⟩
 case rest =>
  clear HC3; try clear c1
  try clear c2
  try clear p2
  try clear c3
  try clear c6
  try clear dH
  try clear dG
  try clear dS
  try clear dR
  try clear dF
  try clear dE
  try clear dQ
  try clear dP
  obtain ⟨kq, eO, rfl, HA, HJ2, ab, HB⟩ := hcut; cases kq with
  | zero => exact absurd HA.out (by simp [Qs.j0])
  | succ kj2 =>
   have H := HA.out; clear HA; simp only [Qs.j0] at H; by_cases c12 : eO = true
   ·subst c12; have H1 : ((QQ.f kj2).bind fun t104 => (some t104)) = some r := by rw [if_pos rfl] at H; exact H
    clear H; have H := H1; clear H1; replace H := Option.bind_eq_some_iff.mp H; obtain ⟨t104, nn, H⟩ := H; replace H : (some t104) = some r := H; have A13 := aa.mk nn; clear nn; obtain rfl := Option.some.inj H; go_wp2_with (first | ((with_reducible refine Qf (f := 50) rfl ?_); refine QE (some 14) rfl rfl Try.func50 (by kernel_rfl) rfl #[] rfl hA ?_; (with_reducible refine (QQ.calls kj2  t104 _ A13.out).mono ?_); rintro e w14 ⟨rfl, hb⟩; refine ⟨_, rfl, ?_⟩; replace ab := aa.mk (Ql ab.out hb); replace HB := aa.mk (Qc bB hb); (try clear hb); (try clear hb2); (try clear hk); (try clear hi)))
    go_ret; exact ⟨by first | rfl | (simp [Qk, Qj] <;> rfl) | (simp [*, Qk, Qj] <;> rfl), bB⟩
   ·replace c12 := Bool.eq_false_iff.mpr c12; subst c12; have H1 : ((QG.f kj2 ae af l1).bind fun t105 => ((Qm.f kj2 ae af l1).bind fun t106 => (if t105 = t106 then ((Zh.f kj2 ae af).bind fun a8 => (if t105 = 0 then (if a8.2 = 0 then (if a8.1 = true then (some false) else ((QQ.f kj2).bind fun t109 => (some t109))) else (some false)) else ((QQ.f kj2).bind fun t110 => (some t110)))) else (some false)))) = some r := by rw [if_neg (show ¬ (false = true) by decide)] at H; exact H
    clear H; have H := H1; clear H1; replace H := Option.bind_eq_some_iff.mp H; obtain ⟨t105, nm, H⟩ := H; replace H : ((Qm.f kj2 ae af l1).bind fun t106 => (if t105 = t106 then ((Zh.f kj2 ae af).bind fun a8 => (if t105 = 0 then (if a8.2 = 0 then (if a8.1 = true then (some false) else ((QQ.f kj2).bind fun t109 => (some t109))) else (some false)) else ((QQ.f kj2).bind fun t110 => (some t110)))) else (some false))) = some r := H; have A15 := aa.mk nm; clear nm; replace H := Option.bind_eq_some_iff.mp H; obtain ⟨t106, nk, H⟩ := H; replace H : (if t105 = t106 then ((Zh.f kj2 ae af).bind fun a8 => (if t105 = 0 then (if a8.2 = 0 then (if a8.1 = true then (some false) else ((QQ.f kj2).bind fun t109 => (some t109))) else (some false)) else ((QQ.f kj2).bind fun t110 => (some t110)))) else (some false)) = some r := H; have A16 := aa.mk nk; clear nk; by_cases c17 : t105 = t106
    ·rw [if_pos c17] at H; have ej : (t105 == t106) = true := beq_iff_eq.mpr c17; have l5 : (t105 != t106) = false := bne_eq_false_iff_eq.mpr c17; clear c17; replace H := Option.bind_eq_some_iff.mp H; obtain ⟨⟨t107, t108⟩, sA, H⟩ := H; replace H : (if t105 = 0 then (if t108 = 0 then (if t107 = true then (some false) else ((QQ.f kj2).bind fun t109 => (some t109))) else (some false)) else ((QQ.f kj2).bind fun t110 => (some t110))) = some r := H; have A18 := aa.mk sA; clear sA; by_cases c19 : t105 = 0
     ·rw [if_pos c19] at H; have ft : (t105 == 0) = true := beq_iff_eq.mpr c19; have kB : (t105 != 0) = false := bne_eq_false_iff_eq.mpr c19; clear c19; by_cases c20 : t108 = 0
      ·rw [if_pos c20] at H; have iG : (t108 == 0) = true := beq_iff_eq.mpr c20; have rO : (t108 != 0) = false := bne_eq_false_iff_eq.mpr c20; clear c20; by_cases c21 : t107 = true
       ·subst c21; have H1 : (some false) = some r := by rw [if_pos rfl] at H; exact H
        clear H; have H := H1; clear H1; obtain rfl := Option.some.inj H; have tI : wc.cell? ⟨ag, 0, none⟩ = some (.slice ak ae.length an) := (Qb ab.out 0).trans rfl; have tH : wc.cell? ⟨ag, 1, none⟩ = some (.slice aj af.length al) := (Qb ab.out 1).trans rfl; have th := Qa ab.out 0; have tg := Qa ab.out 1; go_wp2_with (first | ((with_reducible refine Qf (f := 43) rfl ?_); refine QE (some 17) rfl rfl Try.func43 (by kernel_rfl) rfl #[.agg #[.slice ak ae.length an, .slice aj af.length al], .slice A1 l1.length c1] rfl hA ?_; (with_reducible refine (QG.calls kj2 _ _ ae _ _ af _ _ l1 t105 _ ?ai ?ah ?aq ?ao ?aK ?aJ A15.out).mono ?_); (case ai => exact (Kd.Qh av.out HB.out)); (case ah => exact aw.out); (case aq => exact (Kd.Qh ay.out HB.out)); (case ao => exact ax.out); (case aK => exact (Kd.Qh HR1.out HB.out)); (case aJ => exact HC1.out); rintro e w23 ⟨rfl, hb⟩; refine ⟨_, rfl, ?_⟩; replace ab := aa.mk (Ql ab.out hb); replace HB := aa.mk (Qc bB hb); (try clear hb); (try clear hb2); (try clear hk); (try clear hi); have oI : w23.cell? ⟨ag, 0, none⟩ = some (.slice ak ae.length an) := (Qb ab.out 0).trans rfl; have oH : w23.cell? ⟨ag, 1, none⟩ = some (.slice aj af.length al) := (Qb ab.out 1).trans rfl; have n3 := Qa ab.out 0; have n2 := Qa ab.out 1) | ((with_reducible refine Qf (f := 59) rfl ?_); refine QE (some 21) rfl rfl Try.func59 (by kernel_rfl) rfl #[.agg #[.slice ak ae.length an, .slice aj af.length al], .slice A1 l1.length c1] rfl hA ?_; (with_reducible refine (Qm.calls kj2 _ _ ae _ _ af _ _ l1 t106 _ ?ai ?ah ?aq ?ao ?aK ?aJ A16.out).mono ?_); (case ai => exact (Kd.Qh av.out HB.out)); (case ah => exact aw.out); (case aq => exact (Kd.Qh ay.out HB.out)); (case ao => exact ax.out); (case aK => exact (Kd.Qh HR1.out HB.out)); (case aJ => exact HC1.out); rintro e w25 ⟨rfl, hb⟩; refine ⟨_, rfl, ?_⟩; replace ab := aa.mk (Ql ab.out hb); replace HB := aa.mk (Qc bB hb); (try clear hb); (try clear hb2); (try clear hk); (try clear hi); have gr : w25.cell? ⟨ag, 0, none⟩ = some (.slice ak ae.length an) := (Qb ab.out 0).trans rfl; have gp : w25.cell? ⟨ag, 1, none⟩ = some (.slice aj af.length al) := (Qb ab.out 1).trans rfl; have gf := Qa ab.out 0; have fZ := Qa ab.out 1) | ((with_reducible refine Qf (f := 37) rfl ?_); refine QE (some 25) rfl rfl Try.func37 (by kernel_rfl) rfl #[.agg #[.slice ak ae.length an, .slice aj af.length al]] rfl hA ?_; (with_reducible refine (Zh.calls kj2 _ _ ae _ _ af true t108 _ ?ai ?ah ?aq ?ao A18.out).mono ?_); (case ai => exact (Kd.Qh av.out HB.out)); (case ah => exact aw.out); (case aq => exact (Kd.Qh ay.out HB.out)); (case ao => exact ax.out); rintro e w27 ⟨rfl, hb⟩; refine ⟨_, rfl, ?_⟩; replace ab := aa.mk (Ql ab.out hb); replace HB := aa.mk (Qc bB hb); (try clear hb); (try clear hb2); (try clear hk); (try clear hi)))
        go_ret; exact ⟨by first | rfl | (simp [Qk, Qj] <;> rfl) | (simp [*, Qk, Qj] <;> rfl), bB⟩
       ·replace c21 := Bool.eq_false_iff.mpr c21; subst c21; have H1 : ((QQ.f kj2).bind fun t109 => (some t109)) = some r := by rw [if_neg (show ¬ (false = true) by decide)] at H; exact H
        clear H; have H := H1; clear H1; replace H := Option.bind_eq_some_iff.mp H; obtain ⟨t109, sx, H⟩ := H; replace H : (some t109) = some r := H; have A28 := aa.mk sx; clear sx; obtain rfl := Option.some.inj H; have lX : wc.cell? ⟨ag, 0, none⟩ = some (.slice ak ae.length an) := (Qb ab.out 0).trans rfl; have lW : wc.cell? ⟨ag, 1, none⟩ = some (.slice aj af.length al) := (Qb ab.out 1).trans rfl; have lP := Qa ab.out 0; have lO := Qa ab.out 1; go_wp2_with (first | ((with_reducible refine Qf (f := 43) rfl ?_); refine QE (some 17) rfl rfl Try.func43 (by kernel_rfl) rfl #[.agg #[.slice ak ae.length an, .slice aj af.length al], .slice A1 l1.length c1] rfl hA ?_; (with_reducible refine (QG.calls kj2 _ _ ae _ _ af _ _ l1 t105 _ ?ai ?ah ?aq ?ao ?aK ?aJ A15.out).mono ?_); (case ai => exact (Kd.Qh av.out HB.out)); (case ah => exact aw.out); (case aq => exact (Kd.Qh ay.out HB.out)); (case ao => exact ax.out); (case aK => exact (Kd.Qh HR1.out HB.out)); (case aJ => exact HC1.out); rintro e w30 ⟨rfl, hb⟩; refine ⟨_, rfl, ?_⟩; replace ab := aa.mk (Ql ab.out hb); replace HB := aa.mk (Qc bB hb); (try clear hb); (try clear hb2); (try clear hk); (try clear hi); have lV : w30.cell? ⟨ag, 0, none⟩ = some (.slice ak ae.length an) := (Qb ab.out 0).trans rfl; have lU : w30.cell? ⟨ag, 1, none⟩ = some (.slice aj af.length al) := (Qb ab.out 1).trans rfl; have lN := Qa ab.out 0; have lM := Qa ab.out 1) | ((with_reducible refine Qf (f := 59) rfl ?_); refine QE (some 21) rfl rfl Try.func59 (by kernel_rfl) rfl #[.agg #[.slice ak ae.length an, .slice aj af.length al], .slice A1 l1.length c1] rfl hA ?_; (with_reducible refine (Qm.calls kj2 _ _ ae _ _ af _ _ l1 t106 _ ?ai ?ah ?aq ?ao ?aK ?aJ A16.out).mono ?_); (case ai => exact (Kd.Qh av.out HB.out)); (case ah => exact aw.out); (case aq => exact (Kd.Qh ay.out HB.out)); (case ao => exact ax.out); (case aK => exact (Kd.Qh HR1.out HB.out)); (case aJ => exact HC1.out); rintro e w32 ⟨rfl, hb⟩; refine ⟨_, rfl, ?_⟩; replace ab := aa.mk (Ql ab.out hb); replace HB := aa.mk (Qc bB hb); (try clear hb); (try clear hb2); (try clear hk); (try clear hi); have oC : w32.cell? ⟨ag, 0, none⟩ = some (.slice ak ae.length an) := (Qb ab.out 0).trans rfl; have oB : w32.cell? ⟨ag, 1, none⟩ = some (.slice aj af.length al) := (Qb ab.out 1).trans rfl; have nV := Qa ab.out 0; have nU := Qa ab.out 1) | ((with_reducible refine Qf (f := 37) rfl ?_); refine QE (some 25) rfl rfl Try.func37 (by kernel_rfl) rfl #[.agg #[.slice ak ae.length an, .slice aj af.length al]] rfl hA ?_; (with_reducible refine (Zh.calls kj2 _ _ ae _ _ af false t108 _ ?ai ?ah ?aq ?ao A18.out).mono ?_); (case ai => exact (Kd.Qh av.out HB.out)); (case ah => exact aw.out); (case aq => exact (Kd.Qh ay.out HB.out)); (case ao => exact ax.out); rintro e w34 ⟨rfl, hb⟩; refine ⟨_, rfl, ?_⟩; replace ab := aa.mk (Ql ab.out hb); replace HB := aa.mk (Qc bB hb); (try clear hb); (try clear hb2); (try clear hk); (try clear hi)) | (go_at_call 50; (with_reducible refine (QQ.calls kj2  t109 _ A28.out).mono ?_); rintro e w35 ⟨rfl, hb⟩; replace ab := aa.mk (Ql ab.out hb); replace HB := aa.mk (Qc bB hb); (try clear hb); (try clear hb2); (try clear hk); (try clear hi)))
        go_ret; exact ⟨by first | rfl | (simp [Qk, Qj] <;> rfl) | (simp [*, Qk, Qj] <;> rfl), bB⟩
      ·rw [if_neg c20] at H; have iG : (t108 == 0) = false := beq_eq_false_iff_ne.mpr c20; have rO : (t108 != 0) = true := bne_iff_ne.mpr c20; obtain rfl := Option.some.inj H; have tC : wc.cell? ⟨ag, 0, none⟩ = some (.slice ak ae.length an) := (Qb ab.out 0).trans rfl; have tB : wc.cell? ⟨ag, 1, none⟩ = some (.slice aj af.length al) := (Qb ab.out 1).trans rfl; have tb := Qa ab.out 0; have ta := Qa ab.out 1; go_wp2_with (first | ((with_reducible refine Qf (f := 43) rfl ?_); refine QE (some 17) rfl rfl Try.func43 (by kernel_rfl) rfl #[.agg #[.slice ak ae.length an, .slice aj af.length al], .slice A1 l1.length c1] rfl hA ?_; (with_reducible refine (QG.calls kj2 _ _ ae _ _ af _ _ l1 t105 _ ?ai ?ah ?aq ?ao ?aK ?aJ A15.out).mono ?_); (case ai => exact (Kd.Qh av.out HB.out)); (case ah => exact aw.out); (case aq => exact (Kd.Qh ay.out HB.out)); (case ao => exact ax.out); (case aK => exact (Kd.Qh HR1.out HB.out)); (case aJ => exact HC1.out); rintro e w37 ⟨rfl, hb⟩; refine ⟨_, rfl, ?_⟩; replace ab := aa.mk (Ql ab.out hb); replace HB := aa.mk (Qc bB hb); (try clear hb); (try clear hb2); (try clear hk); (try clear hi); have ov : w37.cell? ⟨ag, 0, none⟩ = some (.slice ak ae.length an) := (Qb ab.out 0).trans rfl; have ou : w37.cell? ⟨ag, 1, none⟩ = some (.slice aj af.length al) := (Qb ab.out 1).trans rfl; have nP := Qa ab.out 0; have nO := Qa ab.out 1) | ((with_reducible refine Qf (f := 59) rfl ?_); refine QE (some 21) rfl rfl Try.func59 (by kernel_rfl) rfl #[.agg #[.slice ak ae.length an, .slice aj af.length al], .slice A1 l1.length c1] rfl hA ?_; (with_reducible refine (Qm.calls kj2 _ _ ae _ _ af _ _ l1 t106 _ ?ai ?ah ?aq ?ao ?aK ?aJ A16.out).mono ?_); (case ai => exact (Kd.Qh av.out HB.out)); (case ah => exact aw.out); (case aq => exact (Kd.Qh ay.out HB.out)); (case ao => exact ax.out); (case aK => exact (Kd.Qh HR1.out HB.out)); (case aJ => exact HC1.out); rintro e w39 ⟨rfl, hb⟩; refine ⟨_, rfl, ?_⟩; replace ab := aa.mk (Ql ab.out hb); replace HB := aa.mk (Qc bB hb); (try clear hb); (try clear hb2); (try clear hk); (try clear hi); have lT : w39.cell? ⟨ag, 0, none⟩ = some (.slice ak ae.length an) := (Qb ab.out 0).trans rfl; have lS : w39.cell? ⟨ag, 1, none⟩ = some (.slice aj af.length al) := (Qb ab.out 1).trans rfl; have lL := Qa ab.out 0; have lK := Qa ab.out 1) | ((with_reducible refine Qf (f := 37) rfl ?_); refine QE (some 25) rfl rfl Try.func37 (by kernel_rfl) rfl #[.agg #[.slice ak ae.length an, .slice aj af.length al]] rfl hA ?_; (with_reducible refine (Zh.calls kj2 _ _ ae _ _ af t107 t108 _ ?ai ?ah ?aq ?ao A18.out).mono ?_); (case ai => exact (Kd.Qh av.out HB.out)); (case ah => exact aw.out); (case aq => exact (Kd.Qh ay.out HB.out)); (case ao => exact ax.out); rintro e w41 ⟨rfl, hb⟩; refine ⟨_, rfl, ?_⟩; replace ab := aa.mk (Ql ab.out hb); replace HB := aa.mk (Qc bB hb); (try clear hb); (try clear hb2); (try clear hk); (try clear hi)))
       go_ret; exact ⟨by first | rfl | (simp [Qk, Qj] <;> rfl) | (simp [*, Qk, Qj] <;> rfl), bB⟩
     ·rw [if_neg c19] at H; have ft : (t105 == 0) = false := beq_eq_false_iff_ne.mpr c19; have kB : (t105 != 0) = true := bne_iff_ne.mpr c19; replace H := Option.bind_eq_some_iff.mp H; obtain ⟨t110, ss, H⟩ := H; replace H : (some t110) = some r := H; have A42 := aa.mk ss; clear ss; obtain rfl := Option.some.inj H; have oh : wc.cell? ⟨ag, 0, none⟩ = some (.slice ak ae.length an) := (Qb ab.out 0).trans rfl; have og : wc.cell? ⟨ag, 1, none⟩ = some (.slice aj af.length al) := (Qb ab.out 1).trans rfl; have nJ := Qa ab.out 0; have nI := Qa ab.out 1; go_wp2_with (first | ((with_reducible refine Qf (f := 43) rfl ?_); refine QE (some 17) rfl rfl Try.func43 (by kernel_rfl) rfl #[.agg #[.slice ak ae.length an, .slice aj af.length al], .slice A1 l1.length c1] rfl hA ?_; (with_reducible refine (QG.calls kj2 _ _ ae _ _ af _ _ l1 t105 _ ?ai ?ah ?aq ?ao ?aK ?aJ A15.out).mono ?_); (case ai => exact (Kd.Qh av.out HB.out)); (case ah => exact aw.out); (case aq => exact (Kd.Qh ay.out HB.out)); (case ao => exact ax.out); (case aK => exact (Kd.Qh HR1.out HB.out)); (case aJ => exact HC1.out); rintro e w44 ⟨rfl, hb⟩; refine ⟨_, rfl, ?_⟩; replace ab := aa.mk (Ql ab.out hb); replace HB := aa.mk (Qc bB hb); (try clear hb); (try clear hb2); (try clear hk); (try clear hi); have tu : w44.cell? ⟨ag, 0, none⟩ = some (.slice ak ae.length an) := (Qb ab.out 0).trans rfl; have tt : w44.cell? ⟨ag, 1, none⟩ = some (.slice aj af.length al) := (Qb ab.out 1).trans rfl; have sX := Qa ab.out 0; have sW := Qa ab.out 1) | ((with_reducible refine Qf (f := 59) rfl ?_); refine QE (some 21) rfl rfl Try.func59 (by kernel_rfl) rfl #[.agg #[.slice ak ae.length an, .slice aj af.length al], .slice A1 l1.length c1] rfl hA ?_; (with_reducible refine (Qm.calls kj2 _ _ ae _ _ af _ _ l1 t106 _ ?ai ?ah ?aq ?ao ?aK ?aJ A16.out).mono ?_); (case ai => exact (Kd.Qh av.out HB.out)); (case ah => exact aw.out); (case aq => exact (Kd.Qh ay.out HB.out)); (case ao => exact ax.out); (case aK => exact (Kd.Qh HR1.out HB.out)); (case aJ => exact HC1.out); rintro e w46 ⟨rfl, hb⟩; refine ⟨_, rfl, ?_⟩; replace ab := aa.mk (Ql ab.out hb); replace HB := aa.mk (Qc bB hb); (try clear hb); (try clear hb2); (try clear hk); (try clear hi); have oe : w46.cell? ⟨ag, 0, none⟩ = some (.slice ak ae.length an) := (Qb ab.out 0).trans rfl; have od : w46.cell? ⟨ag, 1, none⟩ = some (.slice aj af.length al) := (Qb ab.out 1).trans rfl; have nH := Qa ab.out 0; have nG := Qa ab.out 1) | ((with_reducible refine Qf (f := 37) rfl ?_); refine QE (some 25) rfl rfl Try.func37 (by kernel_rfl) rfl #[.agg #[.slice ak ae.length an, .slice aj af.length al]] rfl hA ?_; (with_reducible refine (Zh.calls kj2 _ _ ae _ _ af t107 t108 _ ?ai ?ah ?aq ?ao A18.out).mono ?_); (case ai => exact (Kd.Qh av.out HB.out)); (case ah => exact aw.out); (case aq => exact (Kd.Qh ay.out HB.out)); (case ao => exact ax.out); rintro e w48 ⟨rfl, hb⟩; refine ⟨_, rfl, ?_⟩; replace ab := aa.mk (Ql ab.out hb); replace HB := aa.mk (Qc bB hb); (try clear hb); (try clear hb2); (try clear hk); (try clear hi)) | (go_at_call 50; (with_reducible refine (QQ.calls kj2  t110 _ A42.out).mono ?_); rintro e w49 ⟨rfl, hb⟩; replace ab := aa.mk (Ql ab.out hb); replace HB := aa.mk (Qc bB hb); (try clear hb); (try clear hb2); (try clear hk); (try clear hi)))
      go_ret; exact ⟨by first | rfl | (simp [Qk, Qj] <;> rfl) | (simp [*, Qk, Qj] <;> rfl), bB⟩
    ·rw [if_neg c17] at H; have ej : (t105 == t106) = false := beq_eq_false_iff_ne.mpr c17; have l5 : (t105 != t106) = true := bne_iff_ne.mpr c17; obtain rfl := Option.some.inj H; have tm : wc.cell? ⟨ag, 0, none⟩ = some (.slice ak ae.length an) := (Qb ab.out 0).trans rfl; have tl : wc.cell? ⟨ag, 1, none⟩ = some (.slice aj af.length al) := (Qb ab.out 1).trans rfl; have sR := Qa ab.out 0; have sQ := Qa ab.out 1; go_wp2_with (first | ((with_reducible refine Qf (f := 43) rfl ?_); refine QE (some 17) rfl rfl Try.func43 (by kernel_rfl) rfl #[.agg #[.slice ak ae.length an, .slice aj af.length al], .slice A1 l1.length c1] rfl hA ?_; (with_reducible refine (QG.calls kj2 _ _ ae _ _ af _ _ l1 t105 _ ?ai ?ah ?aq ?ao ?aK ?aJ A15.out).mono ?_); (case ai => exact (Kd.Qh av.out HB.out)); (case ah => exact aw.out); (case aq => exact (Kd.Qh ay.out HB.out)); (case ao => exact ax.out); (case aK => exact (Kd.Qh HR1.out HB.out)); (case aJ => exact HC1.out); rintro e w51 ⟨rfl, hb⟩; refine ⟨_, rfl, ?_⟩; replace ab := aa.mk (Ql ab.out hb); replace HB := aa.mk (Qc bB hb); (try clear hb); (try clear hb2); (try clear hk); (try clear hi); have oa : w51.cell? ⟨ag, 0, none⟩ = some (.slice ak ae.length an) := (Qb ab.out 0).trans rfl; have n9 : w51.cell? ⟨ag, 1, none⟩ = some (.slice aj af.length al) := (Qb ab.out 1).trans rfl; have nF := Qa ab.out 0; have nE := Qa ab.out 1) | ((with_reducible refine Qf (f := 59) rfl ?_); refine QE (some 21) rfl rfl Try.func59 (by kernel_rfl) rfl #[.agg #[.slice ak ae.length an, .slice aj af.length al], .slice A1 l1.length c1] rfl hA ?_; (with_reducible refine (Qm.calls kj2 _ _ ae _ _ af _ _ l1 t106 _ ?ai ?ah ?aq ?ao ?aK ?aJ A16.out).mono ?_); (case ai => exact (Kd.Qh av.out HB.out)); (case ah => exact aw.out); (case aq => exact (Kd.Qh ay.out HB.out)); (case ao => exact ax.out); (case aK => exact (Kd.Qh HR1.out HB.out)); (case aJ => exact HC1.out); rintro e w53 ⟨rfl, hb⟩; refine ⟨_, rfl, ?_⟩; replace ab := aa.mk (Ql ab.out hb); replace HB := aa.mk (Qc bB hb); (try clear hb); (try clear hb2); (try clear hk); (try clear hi)))
     go_ret; exact ⟨by first | rfl | (simp [Qk, Qj] <;> rfl) | (simp [*, Qk, Qj] <;> rfl), bB⟩
def Zt.f (k : Nat) (ae bE : List (List Int)) (af bx : List (List Int)) (l1 q1 : List Int) : Option (Bool) := (Qz.f k bE).bind fun t102 => ((Qz.f k bx).bind fun t105 => ((Q0.f q1).bind fun t108 => ((Qs.f k ae af l1).bind fun t111 => (if t111 = true then ((Qq.f k t102 bE).bind fun t112 => (if t112 = true then ((Qq.f k t105 bx).bind fun t113 => (if t113 = true then ((Qw.f k t108 q1).bind fun t114 => (some t114)) else (some false))) else (some false))) else (some false)))))
set_option maxHeartbeats 8000000 in
set_option maxRecDepth 100000 in
theorem Zt.calls (k : Nat) (ak : Option Addr) (ae bE : List (List Int)) (aj : Option Addr) (af bx : List (List Int)) (A1 : Option Addr) (l1 q1 : List Int) (r : Bool) (w : World) (aV : Kd.C (Kd.slice 3 (Kd.int .i64)) w ak ae.length ae) (aX : ae.length ≤ bE.length) (pq : Kd.C Full.kd w ak bE.length bE) (aU : Kd.C (Kd.slice 3 (Kd.int .i64)) w aj af.length af) (aW : af.length ≤ bx.length) (po : Kd.C Full.kd w aj bx.length bx) (hr1 : Kd.C (Kd.int .i64) w A1 l1.length l1) (hc1 : l1.length ≤ q1.length) (hq1 : Kd.C (Kd.int .i64) w A1 q1.length q1) (h : Zt.f k ae bE af bx l1 q1 = some r) :
  Calls Try.prog 10 #[.agg #[.slice ak ae.length bE.length, .slice aj af.length bx.length], .slice A1 l1.length q1.length] w fun e w' => e = .returned (.bool r) ∧ Below w.heap.size w w' := by
 have dD := Try.underlying24; have av := aa.mk aV; have aw := aa.mk aX; have iP := aa.mk pq; clear aV aX pq; have ay := aa.mk aU; have ax := aa.mk aW; have ji := aa.mk po; clear aU aW po; have HR1 := aa.mk hr1; have HC1 := aa.mk hc1; have HQ1 := aa.mk hq1; clear hr1 hc1 hq1; have HB := aa.mk (Below.refl w.heap.size w); have H : ((Qz.f k bE).bind fun t102 => ((Qz.f k bx).bind fun t105 => ((Q0.f q1).bind fun t108 => ((Qs.f k ae af l1).bind fun t111 => (if t111 = true then ((Qq.f k t102 bE).bind fun t112 => (if t112 = true then ((Qq.f k t105 bx).bind fun t113 => (if t113 = true then ((Qw.f k t108 q1).bind fun t114 => (some t114)) else (some false))) else (some false))) else (some false)))))) = some r := h; clear h; replace H := Option.bind_eq_some_iff.mp H; obtain ⟨t102, A30, H⟩ := H; replace H : ((Qz.f k bx).bind fun t105 => ((Q0.f q1).bind fun t108 => ((Qs.f k ae af l1).bind fun t111 => (if t111 = true then ((Qq.f k t102 bE).bind fun t112 => (if t112 = true then ((Qq.f k t105 bx).bind fun t113 => (if t113 = true then ((Qw.f k t108 q1).bind fun t114 => (some t114)) else (some false))) else (some false))) else (some false))))) = some r := H; have A3 := aa.mk A30; clear A30; replace H := Option.bind_eq_some_iff.mp H; obtain ⟨t105, A40, H⟩ := H; replace H : ((Q0.f q1).bind fun t108 => ((Qs.f k ae af l1).bind fun t111 => (if t111 = true then ((Qq.f k t102 bE).bind fun t112 => (if t112 = true then ((Qq.f k t105 bx).bind fun t113 => (if t113 = true then ((Qw.f k t108 q1).bind fun t114 => (some t114)) else (some false))) else (some false))) else (some false)))) = some r := H; have A4 := aa.mk A40; clear A40; replace H := Option.bind_eq_some_iff.mp H; obtain ⟨t108, A50, H⟩ := H; replace H : ((Qs.f k ae af l1).bind fun t111 => (if t111 = true then ((Qq.f k t102 bE).bind fun t112 => (if t112 = true then ((Qq.f k t105 bx).bind fun t113 => (if t113 = true then ((Qw.f k t108 q1).bind fun t114 => (some t114)) else (some false))) else (some false))) else (some false))) = some r := H; have A5 := aa.mk A50; clear A50; replace H := Option.bind_eq_some_iff.mp H; obtain ⟨t111, A60, H⟩ := H; replace H : (if t111 = true then ((Qq.f k t102 bE).bind fun t112 => (if t112 = true then ((Qq.f k t105 bx).bind fun t113 => (if t113 = true then ((Qw.f k t108 q1).bind fun t114 => (some t114)) else (some false))) else (some false))) else (some false)) = some r := H; have A6 := aa.mk A60; clear A60; by_cases c7 : t111 = true
 ·subst c7; have H1 : ((Qq.f k t102 bE).bind fun t112 => (if t112 = true then ((Qq.f k t105 bx).bind fun t113 => (if t113 = true then ((Qw.f k t108 q1).bind fun t114 => (some t114)) else (some false))) else (some false))) = some r := by rw [if_pos rfl] at H; exact H
  clear H; have H := H1; clear H1; replace H := Option.bind_eq_some_iff.mp H; obtain ⟨t112, A80, H⟩ := H; replace H : (if t112 = true then ((Qq.f k t105 bx).bind fun t113 => (if t113 = true then ((Qw.f k t108 q1).bind fun t114 => (some t114)) else (some false))) else (some false)) = some r := H; have A8 := aa.mk A80; clear A80; by_cases c9 : t112 = true
  ·subst c9; have H1 : ((Qq.f k t105 bx).bind fun t113 => (if t113 = true then ((Qw.f k t108 q1).bind fun t114 => (some t114)) else (some false))) = some r := by rw [if_pos rfl] at H; exact H
   clear H; have H := H1; clear H1; replace H := Option.bind_eq_some_iff.mp H; obtain ⟨t113, sD, H⟩ := H; replace H : (if t113 = true then ((Qw.f k t108 q1).bind fun t114 => (some t114)) else (some false)) = some r := H; have A10 := aa.mk sD; clear sD; by_cases c11 : t113 = true
   ·subst c11; have H1 : ((Qw.f k t108 q1).bind fun t114 => (some t114)) = some r := by rw [if_pos rfl] at H; exact H
    clear H; have H := H1; clear H1; replace H := Option.bind_eq_some_iff.mp H; obtain ⟨t114, sC, H⟩ := H; replace H : (some t114) = some r := H; have A12 := aa.mk sC; clear sC; obtain rfl := Option.some.inj H; go_enter Try.func10, Try.ntmps10; go_wp2_with (first | ((with_reducible refine QM (N := 2) rfl ?_); refine QU ?hg (N := 2) ?hd (cs := #[.slice ak ae.length bE.length, .slice aj af.length bx.length]) (t := 24) ?hr ?_; (case hd => rfl); (case hg => rfl); (case hr => first | (go_simp; done) | (go_simp; rfl)); intro ag hg w13 hbox hb; have ab := aa.mk (hbox); have ba := aa.mk ((by rw [hg]; exact (Qe bB) : w.heap.size ≤ ag)); have aN := aa.mk ((by rw [hg]; exact (Qe bB) : w.heap.size ≤ ag)); replace HB := aa.mk (Qc bB hb); clear hb hbox hg; have gA : w13.cell? ⟨ag, 0, none⟩ = some (.slice ak ae.length bE.length) := (Qb ab.out 0).trans rfl; have gz : w13.cell? ⟨ag, 1, none⟩ = some (.slice aj af.length bx.length) := (Qb ab.out 1).trans rfl; have gm := Qa ab.out 0; have gl := Qa ab.out 1) | ((with_reducible refine Qf (f := 17) rfl ?_); refine QE (some 10) rfl rfl Try.func17 (by kernel_rfl) rfl #[.slice ak ae.length bE.length] rfl hA ?_; (with_reducible refine (Qz.calls k _ _ bE t102 _ ?ai ?ah A3.out).mono ?_); (case ai => exact (Kd.Qh iP.out HB.out)); (case ah => exact aw.out); rintro e w15 ⟨hG, rfl, ho0, hb⟩; refine ⟨_, rfl, ?_⟩; have aM := aa.mk (Kd.YE ho0 (Qe bB)); replace ab := aa.mk (Ql ab.out hb); replace HB := aa.mk (Qc bB hb); (try clear hb); (try clear hb2); (try clear hk); (try clear hi); (try clear ho0); have jK : w15.cell? ⟨ag, 0, none⟩ = some (.slice ak ae.length bE.length) := (Qb ab.out 0).trans rfl; have jJ : w15.cell? ⟨ag, 1, none⟩ = some (.slice aj af.length bx.length) := (Qb ab.out 1).trans rfl; have jE := Qa ab.out 0; have jD := Qa ab.out 1) | ((with_reducible refine Qf (f := 17) rfl ?_); refine QE (some 13) rfl rfl Try.func17 (by kernel_rfl) rfl #[.slice aj af.length bx.length] rfl hA ?_; (with_reducible refine (Qz.calls k _ _ bx t105 _ ?ai ?ah A4.out).mono ?_); (case ai => exact (Kd.Qh ji.out HB.out)); (case ah => exact ax.out); rintro e w17 ⟨ja, rfl, ho0, hb⟩; refine ⟨_, rfl, ?_⟩; have bn := aa.mk (Kd.YE (Kd.U6 ho0 (Kd.S_lt aM.out)) (Qe bB)); replace aM := aa.mk (Kd.ZY aM.out (Kd.U7 ho0) hb); replace ab := aa.mk (Ql ab.out hb); replace HB := aa.mk (Qc bB hb); (try clear hb); (try clear hb2); (try clear hk); (try clear hi); (try clear ho0)) | ((with_reducible refine Qf (f := 20) rfl ?_); refine QE (some 15) rfl rfl Try.func20 (by kernel_rfl) rfl #[.slice A1 l1.length q1.length] rfl hA ?_; (with_reducible refine (Q0.calls _ _ q1 t108 _ ?ai ?ah A5.out).mono ?_); (case ai => exact (Kd.Qh HQ1.out HB.out)); (case ah => exact HC1.out); rintro e w18 ⟨e6, rfl, ho0, hb⟩; refine ⟨_, rfl, ?_⟩; replace aM := aa.mk (Kd.ZY aM.out (Kd.QY ho0) hb); replace bn := aa.mk (Kd.ZY bn.out (Kd.QY ho0) hb); have bl := aa.mk (Kd.Zb ho0 (Qe bB)); replace ab := aa.mk (Ql ab.out hb); replace HB := aa.mk (Qc bB hb); (try clear hb); (try clear hb2); (try clear hk); (try clear hi); (try clear ho0); have jI : w18.cell? ⟨ag, 0, none⟩ = some (.slice ak ae.length bE.length) := (Qb ab.out 0).trans rfl; have jH : w18.cell? ⟨ag, 1, none⟩ = some (.slice aj af.length bx.length) := (Qb ab.out 1).trans rfl; have jC := Qa ab.out 0; have jB := Qa ab.out 1) | ((with_reducible refine Qf (f := 28) rfl ?_); refine QE (some 18) rfl rfl Try.func28 (by kernel_rfl) rfl #[.agg #[.slice ak ae.length bE.length, .slice aj af.length bx.length], .slice A1 l1.length q1.length] rfl hA ?_; (with_reducible refine (Qs.calls k _ _ ae _ _ af _ _ l1 true _ ?ai ?ah ?aq ?ao ?aK ?aJ A6.out).mono ?_); (case ai => exact (Kd.Qh av.out HB.out)); (case ah => exact aw.out); (case aq => exact (Kd.Qh ay.out HB.out)); (case ao => exact ax.out); (case aK => exact (Kd.Qh HR1.out HB.out)); (case aJ => exact HC1.out); rintro e w20 ⟨rfl, hb⟩; refine ⟨_, rfl, ?_⟩; replace aM := aa.mk (Kd.YF aM.out hb); replace bn := aa.mk (Kd.YF bn.out hb); replace bl := aa.mk (Kd.Zf bl.out hb); replace ab := aa.mk (Ql ab.out hb); replace HB := aa.mk (Qc bB hb); (try clear hb); (try clear hb2); (try clear hk); (try clear hi); have iu : w20.cell? ⟨ag, 0, none⟩ = some (.slice ak ae.length bE.length) := (Qb ab.out 0).trans rfl; have ir : w20.cell? ⟨ag, 1, none⟩ = some (.slice aj af.length bx.length) := (Qb ab.out 1).trans rfl; have il := Qa ab.out 0; have ik := Qa ab.out 1; obtain ⟨gU, gQ, mU⟩ := Kd.Vr aM.out; subst mU) | (go_at_call 19; (with_reducible refine (Qq.calls k _ _ t102 _ _ bE true _ ?ai ?ah ?aq ?ao A8.out).mono ?_); (case ai => exact (Kd.Ye aM.out).2.2); (case ah => exact (Kd.Ye aM.out).2.1); (case aq => exact (Kd.Qh iP.out HB.out)); (case ao => exact aw.out); rintro e w' ⟨rfl, ⟨nd, rfl⟩⟩; obtain ⟨hY, gP, mw⟩ := Kd.Vr bn.out; subst mw) | (go_at_call 19; (with_reducible refine (Qq.calls k _ _ t105 _ _ bx true _ ?ai ?ah ?aq ?ao A10.out).mono ?_); (case ai => exact (Kd.Ye bn.out).2.2); (case ah => exact (Kd.Ye bn.out).2.1); (case aq => repeat (first | exact (Kd.Qh ji.out bB) | (with_reducible refine Kd.C_alloc ?_ _) | (with_reducible refine Kd.Zu ?_ _) | (with_reducible refine Kd.C_drew ?_))); (case ao => exact ax.out); rintro e w' ⟨rfl, ⟨nd, rfl⟩⟩; obtain ⟨gT, gB, kx⟩ := Kd.Q9 bl.out; subst kx) | (go_at_call 22; (with_reducible refine (Qw.calls k _ _ t108 _ _ q1 t114 _ ?ai ?ah ?aq ?ao A12.out).mono ?_); (case ai => exact (Kd.QH bl.out).2.2); (case ah => exact (Kd.QH bl.out).2.1); (case aq => repeat (first | exact (Kd.Qh HQ1.out bB) | (with_reducible refine Kd.C_alloc ?_ _) | (with_reducible refine Kd.Zu ?_ _) | (with_reducible refine Kd.C_drew ?_))); (case ao => exact HC1.out); rintro e w' ⟨rfl, ⟨nd, rfl⟩⟩))
    go_ret; exact ⟨by first | rfl | (simp [Qk, Qj] <;> rfl) | (simp [*, Qk, Qj] <;> rfl), bB⟩
   ·replace c11 := Bool.eq_false_iff.mpr c11; subst c11; have H1 : (some false) = some r := by rw [if_neg (show ¬ (false = true) by decide)] at H; exact H
    clear H; have H := H1; clear H1; obtain rfl := Option.some.inj H; go_enter Try.func10, Try.ntmps10; go_wp2_with (first | ((with_reducible refine QM (N := 2) rfl ?_); refine QU ?hg (N := 2) ?hd (cs := #[.slice ak ae.length bE.length, .slice aj af.length bx.length]) (t := 24) ?hr ?_; (case hd => rfl); (case hg => rfl); (case hr => first | (go_simp; done) | (go_simp; rfl)); intro ag hg w25 hbox hb; have ab := aa.mk (hbox); have ba := aa.mk ((by rw [hg]; exact (Qe bB) : w.heap.size ≤ ag)); have aN := aa.mk ((by rw [hg]; exact (Qe bB) : w.heap.size ≤ ag)); replace HB := aa.mk (Qc bB hb); clear hb hbox hg; have gr : w25.cell? ⟨ag, 0, none⟩ = some (.slice ak ae.length bE.length) := (Qb ab.out 0).trans rfl; have gp : w25.cell? ⟨ag, 1, none⟩ = some (.slice aj af.length bx.length) := (Qb ab.out 1).trans rfl; have gf := Qa ab.out 0; have fZ := Qa ab.out 1) | ((with_reducible refine Qf (f := 17) rfl ?_); refine QE (some 10) rfl rfl Try.func17 (by kernel_rfl) rfl #[.slice ak ae.length bE.length] rfl hA ?_; (with_reducible refine (Qz.calls k _ _ bE t102 _ ?ai ?ah A3.out).mono ?_); (case ai => exact (Kd.Qh iP.out HB.out)); (case ah => exact aw.out); rintro e w27 ⟨hG, rfl, ho0, hb⟩; refine ⟨_, rfl, ?_⟩; have aM := aa.mk (Kd.YE ho0 (Qe bB)); replace ab := aa.mk (Ql ab.out hb); replace HB := aa.mk (Qc bB hb); (try clear hb); (try clear hb2); (try clear hk); (try clear hi); (try clear ho0); have oG : w27.cell? ⟨ag, 0, none⟩ = some (.slice ak ae.length bE.length) := (Qb ab.out 0).trans rfl; have oF : w27.cell? ⟨ag, 1, none⟩ = some (.slice aj af.length bx.length) := (Qb ab.out 1).trans rfl; have nZ := Qa ab.out 0; have nY := Qa ab.out 1) | ((with_reducible refine Qf (f := 17) rfl ?_); refine QE (some 13) rfl rfl Try.func17 (by kernel_rfl) rfl #[.slice aj af.length bx.length] rfl hA ?_; (with_reducible refine (Qz.calls k _ _ bx t105 _ ?ai ?ah A4.out).mono ?_); (case ai => exact (Kd.Qh ji.out HB.out)); (case ah => exact ax.out); rintro e w29 ⟨ja, rfl, ho0, hb⟩; refine ⟨_, rfl, ?_⟩; have bn := aa.mk (Kd.YE (Kd.U6 ho0 (Kd.S_lt aM.out)) (Qe bB)); replace aM := aa.mk (Kd.ZY aM.out (Kd.U7 ho0) hb); replace ab := aa.mk (Ql ab.out hb); replace HB := aa.mk (Qc bB hb); (try clear hb); (try clear hb2); (try clear hk); (try clear hi); (try clear ho0)) | ((with_reducible refine Qf (f := 20) rfl ?_); refine QE (some 15) rfl rfl Try.func20 (by kernel_rfl) rfl #[.slice A1 l1.length q1.length] rfl hA ?_; (with_reducible refine (Q0.calls _ _ q1 t108 _ ?ai ?ah A5.out).mono ?_); (case ai => exact (Kd.Qh HQ1.out HB.out)); (case ah => exact HC1.out); rintro e w30 ⟨e6, rfl, ho0, hb⟩; refine ⟨_, rfl, ?_⟩; replace aM := aa.mk (Kd.ZY aM.out (Kd.QY ho0) hb); replace bn := aa.mk (Kd.ZY bn.out (Kd.QY ho0) hb); have bl := aa.mk (Kd.Zb ho0 (Qe bB)); replace ab := aa.mk (Ql ab.out hb); replace HB := aa.mk (Qc bB hb); (try clear hb); (try clear hb2); (try clear hk); (try clear hi); (try clear ho0); have lV : w30.cell? ⟨ag, 0, none⟩ = some (.slice ak ae.length bE.length) := (Qb ab.out 0).trans rfl; have lU : w30.cell? ⟨ag, 1, none⟩ = some (.slice aj af.length bx.length) := (Qb ab.out 1).trans rfl; have lN := Qa ab.out 0; have lM := Qa ab.out 1) | ((with_reducible refine Qf (f := 28) rfl ?_); refine QE (some 18) rfl rfl Try.func28 (by kernel_rfl) rfl #[.agg #[.slice ak ae.length bE.length, .slice aj af.length bx.length], .slice A1 l1.length q1.length] rfl hA ?_; (with_reducible refine (Qs.calls k _ _ ae _ _ af _ _ l1 true _ ?ai ?ah ?aq ?ao ?aK ?aJ A6.out).mono ?_); (case ai => exact (Kd.Qh av.out HB.out)); (case ah => exact aw.out); (case aq => exact (Kd.Qh ay.out HB.out)); (case ao => exact ax.out); (case aK => exact (Kd.Qh HR1.out HB.out)); (case aJ => exact HC1.out); rintro e w32 ⟨rfl, hb⟩; refine ⟨_, rfl, ?_⟩; replace aM := aa.mk (Kd.YF aM.out hb); replace bn := aa.mk (Kd.YF bn.out hb); replace bl := aa.mk (Kd.Zf bl.out hb); replace ab := aa.mk (Ql ab.out hb); replace HB := aa.mk (Qc bB hb); (try clear hb); (try clear hb2); (try clear hk); (try clear hi); have oC : w32.cell? ⟨ag, 0, none⟩ = some (.slice ak ae.length bE.length) := (Qb ab.out 0).trans rfl; have oB : w32.cell? ⟨ag, 1, none⟩ = some (.slice aj af.length bx.length) := (Qb ab.out 1).trans rfl; have nV := Qa ab.out 0; have nU := Qa ab.out 1; obtain ⟨sq, rz, mS⟩ := Kd.Vr aM.out; subst mS) | (go_at_call 19; (with_reducible refine (Qq.calls k _ _ t102 _ _ bE true _ ?ai ?ah ?aq ?ao A8.out).mono ?_); (case ai => exact (Kd.Ye aM.out).2.2); (case ah => exact (Kd.Ye aM.out).2.1); (case aq => exact (Kd.Qh iP.out HB.out)); (case ao => exact aw.out); rintro e w' ⟨rfl, ⟨nd, rfl⟩⟩; obtain ⟨vo, uS, qy⟩ := Kd.Vr bn.out; subst qy) | (go_at_call 19; (with_reducible refine (Qq.calls k _ _ t105 _ _ bx false _ ?ai ?ah ?aq ?ao A10.out).mono ?_); (case ai => exact (Kd.Ye bn.out).2.2); (case ah => exact (Kd.Ye bn.out).2.1); (case aq => repeat (first | exact (Kd.Qh ji.out bB) | (with_reducible refine Kd.C_alloc ?_ _) | (with_reducible refine Kd.Zu ?_ _) | (with_reducible refine Kd.C_drew ?_))); (case ao => exact ax.out); rintro e w' ⟨rfl, ⟨nd, rfl⟩⟩))
    go_ret; exact ⟨by first | rfl | (simp [Qk, Qj] <;> rfl) | (simp [*, Qk, Qj] <;> rfl), bB⟩
  ·replace c9 := Bool.eq_false_iff.mpr c9; subst c9; have H1 : (some false) = some r := by rw [if_neg (show ¬ (false = true) by decide)] at H; exact H
   clear H; have H := H1; clear H1; obtain rfl := Option.some.inj H; go_enter Try.func10, Try.ntmps10; go_wp2_with (first | ((with_reducible refine QM (N := 2) rfl ?_); refine QU ?hg (N := 2) ?hd (cs := #[.slice ak ae.length bE.length, .slice aj af.length bx.length]) (t := 24) ?hr ?_; (case hd => rfl); (case hg => rfl); (case hr => first | (go_simp; done) | (go_simp; rfl)); intro ag hg w36 hbox hb; have ab := aa.mk (hbox); have ba := aa.mk ((by rw [hg]; exact (Qe bB) : w.heap.size ≤ ag)); have aN := aa.mk ((by rw [hg]; exact (Qe bB) : w.heap.size ≤ ag)); replace HB := aa.mk (Qc bB hb); clear hb hbox hg; have ox : w36.cell? ⟨ag, 0, none⟩ = some (.slice ak ae.length bE.length) := (Qb ab.out 0).trans rfl; have ow : w36.cell? ⟨ag, 1, none⟩ = some (.slice aj af.length bx.length) := (Qb ab.out 1).trans rfl; have nR := Qa ab.out 0; have nQ := Qa ab.out 1) | ((with_reducible refine Qf (f := 17) rfl ?_); refine QE (some 10) rfl rfl Try.func17 (by kernel_rfl) rfl #[.slice ak ae.length bE.length] rfl hA ?_; (with_reducible refine (Qz.calls k _ _ bE t102 _ ?ai ?ah A3.out).mono ?_); (case ai => exact (Kd.Qh iP.out HB.out)); (case ah => exact aw.out); rintro e w38 ⟨hG, rfl, ho0, hb⟩; refine ⟨_, rfl, ?_⟩; have aM := aa.mk (Kd.YE ho0 (Qe bB)); replace ab := aa.mk (Ql ab.out hb); replace HB := aa.mk (Qc bB hb); (try clear hb); (try clear hb2); (try clear hk); (try clear hi); (try clear ho0); have ot : w38.cell? ⟨ag, 0, none⟩ = some (.slice ak ae.length bE.length) := (Qb ab.out 0).trans rfl; have oq : w38.cell? ⟨ag, 1, none⟩ = some (.slice aj af.length bx.length) := (Qb ab.out 1).trans rfl; have nN := Qa ab.out 0; have nM := Qa ab.out 1) | ((with_reducible refine Qf (f := 17) rfl ?_); refine QE (some 13) rfl rfl Try.func17 (by kernel_rfl) rfl #[.slice aj af.length bx.length] rfl hA ?_; (with_reducible refine (Qz.calls k _ _ bx t105 _ ?ai ?ah A4.out).mono ?_); (case ai => exact (Kd.Qh ji.out HB.out)); (case ah => exact ax.out); rintro e w40 ⟨ja, rfl, ho0, hb⟩; refine ⟨_, rfl, ?_⟩; have bn := aa.mk (Kd.YE (Kd.U6 ho0 (Kd.S_lt aM.out)) (Qe bB)); replace aM := aa.mk (Kd.ZY aM.out (Kd.U7 ho0) hb); replace ab := aa.mk (Ql ab.out hb); replace HB := aa.mk (Qc bB hb); (try clear hb); (try clear hb2); (try clear hk); (try clear hi); (try clear ho0)) | ((with_reducible refine Qf (f := 20) rfl ?_); refine QE (some 15) rfl rfl Try.func20 (by kernel_rfl) rfl #[.slice A1 l1.length q1.length] rfl hA ?_; (with_reducible refine (Q0.calls _ _ q1 t108 _ ?ai ?ah A5.out).mono ?_); (case ai => exact (Kd.Qh HQ1.out HB.out)); (case ah => exact HC1.out); rintro e w41 ⟨e6, rfl, ho0, hb⟩; refine ⟨_, rfl, ?_⟩; replace aM := aa.mk (Kd.ZY aM.out (Kd.QY ho0) hb); replace bn := aa.mk (Kd.ZY bn.out (Kd.QY ho0) hb); have bl := aa.mk (Kd.Zb ho0 (Qe bB)); replace ab := aa.mk (Ql ab.out hb); replace HB := aa.mk (Qc bB hb); (try clear hb); (try clear hb2); (try clear hk); (try clear hi); (try clear ho0); have tA : w41.cell? ⟨ag, 0, none⟩ = some (.slice ak ae.length bE.length) := (Qb ab.out 0).trans rfl; have tx : w41.cell? ⟨ag, 1, none⟩ = some (.slice aj af.length bx.length) := (Qb ab.out 1).trans rfl; have s9 := Qa ab.out 0; have s8 := Qa ab.out 1) | ((with_reducible refine Qf (f := 28) rfl ?_); refine QE (some 18) rfl rfl Try.func28 (by kernel_rfl) rfl #[.agg #[.slice ak ae.length bE.length, .slice aj af.length bx.length], .slice A1 l1.length q1.length] rfl hA ?_; (with_reducible refine (Qs.calls k _ _ ae _ _ af _ _ l1 true _ ?ai ?ah ?aq ?ao ?aK ?aJ A6.out).mono ?_); (case ai => exact (Kd.Qh av.out HB.out)); (case ah => exact aw.out); (case aq => exact (Kd.Qh ay.out HB.out)); (case ao => exact ax.out); (case aK => exact (Kd.Qh HR1.out HB.out)); (case aJ => exact HC1.out); rintro e w43 ⟨rfl, hb⟩; refine ⟨_, rfl, ?_⟩; replace aM := aa.mk (Kd.YF aM.out hb); replace bn := aa.mk (Kd.YF bn.out hb); replace bl := aa.mk (Kd.Zf bl.out hb); replace ab := aa.mk (Ql ab.out hb); replace HB := aa.mk (Qc bB hb); (try clear hb); (try clear hb2); (try clear hk); (try clear hi); have tw : w43.cell? ⟨ag, 0, none⟩ = some (.slice ak ae.length bE.length) := (Qb ab.out 0).trans rfl; have tv : w43.cell? ⟨ag, 1, none⟩ = some (.slice aj af.length bx.length) := (Qb ab.out 1).trans rfl; have sZ := Qa ab.out 0; have sY := Qa ab.out 1; obtain ⟨sk, ru, mR⟩ := Kd.Vr aM.out; subst mR) | (go_at_call 19; (with_reducible refine (Qq.calls k _ _ t102 _ _ bE false _ ?ai ?ah ?aq ?ao A8.out).mono ?_); (case ai => exact (Kd.Ye aM.out).2.2); (case ah => exact (Kd.Ye aM.out).2.1); (case aq => exact (Kd.Qh iP.out HB.out)); (case ao => exact aw.out); rintro e w' ⟨rfl, ⟨nd, rfl⟩⟩))
   go_ret; exact ⟨by first | rfl | (simp [Qk, Qj] <;> rfl) | (simp [*, Qk, Qj] <;> rfl), bB⟩
 ·replace c7 := Bool.eq_false_iff.mpr c7; subst c7; have H1 : (some false) = some r := by rw [if_neg (show ¬ (false = true) by decide)] at H; exact H
  clear H; have H := H1; clear H1; obtain rfl := Option.some.inj H; go_enter Try.func10, Try.ntmps10; go_wp2_with (first | ((with_reducible refine QM (N := 2) rfl ?_); refine QU ?hg (N := 2) ?hd (cs := #[.slice ak ae.length bE.length, .slice aj af.length bx.length]) (t := 24) ?hr ?_; (case hd => rfl); (case hg => rfl); (case hr => first | (go_simp; done) | (go_simp; rfl)); intro ag hg w46 hbox hb; have ab := aa.mk (hbox); have ba := aa.mk ((by rw [hg]; exact (Qe bB) : w.heap.size ≤ ag)); have aN := aa.mk ((by rw [hg]; exact (Qe bB) : w.heap.size ≤ ag)); replace HB := aa.mk (Qc bB hb); clear hb hbox hg; have oe : w46.cell? ⟨ag, 0, none⟩ = some (.slice ak ae.length bE.length) := (Qb ab.out 0).trans rfl; have od : w46.cell? ⟨ag, 1, none⟩ = some (.slice aj af.length bx.length) := (Qb ab.out 1).trans rfl; have nH := Qa ab.out 0; have nG := Qa ab.out 1) | ((with_reducible refine Qf (f := 17) rfl ?_); refine QE (some 10) rfl rfl Try.func17 (by kernel_rfl) rfl #[.slice ak ae.length bE.length] rfl hA ?_; (with_reducible refine (Qz.calls k _ _ bE t102 _ ?ai ?ah A3.out).mono ?_); (case ai => exact (Kd.Qh iP.out HB.out)); (case ah => exact aw.out); rintro e w48 ⟨hG, rfl, ho0, hb⟩; refine ⟨_, rfl, ?_⟩; have aM := aa.mk (Kd.YE ho0 (Qe bB)); replace ab := aa.mk (Ql ab.out hb); replace HB := aa.mk (Qc bB hb); (try clear hb); (try clear hb2); (try clear hk); (try clear hi); (try clear ho0); have tp : w48.cell? ⟨ag, 0, none⟩ = some (.slice ak ae.length bE.length) := (Qb ab.out 0).trans rfl; have tn : w48.cell? ⟨ag, 1, none⟩ = some (.slice aj af.length bx.length) := (Qb ab.out 1).trans rfl; have sT := Qa ab.out 0; have sS := Qa ab.out 1) | ((with_reducible refine Qf (f := 17) rfl ?_); refine QE (some 13) rfl rfl Try.func17 (by kernel_rfl) rfl #[.slice aj af.length bx.length] rfl hA ?_; (with_reducible refine (Qz.calls k _ _ bx t105 _ ?ai ?ah A4.out).mono ?_); (case ai => exact (Kd.Qh ji.out HB.out)); (case ah => exact ax.out); rintro e w50 ⟨ja, rfl, ho0, hb⟩; refine ⟨_, rfl, ?_⟩; have bn := aa.mk (Kd.YE (Kd.U6 ho0 (Kd.S_lt aM.out)) (Qe bB)); replace aM := aa.mk (Kd.ZY aM.out (Kd.U7 ho0) hb); replace ab := aa.mk (Ql ab.out hb); replace HB := aa.mk (Qc bB hb); (try clear hb); (try clear hb2); (try clear hk); (try clear hi); (try clear ho0)) | ((with_reducible refine Qf (f := 20) rfl ?_); refine QE (some 15) rfl rfl Try.func20 (by kernel_rfl) rfl #[.slice A1 l1.length q1.length] rfl hA ?_; (with_reducible refine (Q0.calls _ _ q1 t108 _ ?ai ?ah A5.out).mono ?_); (case ai => exact (Kd.Qh HQ1.out HB.out)); (case ah => exact HC1.out); rintro e w51 ⟨e6, rfl, ho0, hb⟩; refine ⟨_, rfl, ?_⟩; replace aM := aa.mk (Kd.ZY aM.out (Kd.QY ho0) hb); replace bn := aa.mk (Kd.ZY bn.out (Kd.QY ho0) hb); have bl := aa.mk (Kd.Zb ho0 (Qe bB)); replace ab := aa.mk (Ql ab.out hb); replace HB := aa.mk (Qc bB hb); (try clear hb); (try clear hb2); (try clear hk); (try clear hi); (try clear ho0); have oa : w51.cell? ⟨ag, 0, none⟩ = some (.slice ak ae.length bE.length) := (Qb ab.out 0).trans rfl; have n9 : w51.cell? ⟨ag, 1, none⟩ = some (.slice aj af.length bx.length) := (Qb ab.out 1).trans rfl; have nF := Qa ab.out 0; have nE := Qa ab.out 1) | ((with_reducible refine Qf (f := 28) rfl ?_); refine QE (some 18) rfl rfl Try.func28 (by kernel_rfl) rfl #[.agg #[.slice ak ae.length bE.length, .slice aj af.length bx.length], .slice A1 l1.length q1.length] rfl hA ?_; (with_reducible refine (Qs.calls k _ _ ae _ _ af _ _ l1 false _ ?ai ?ah ?aq ?ao ?aK ?aJ A6.out).mono ?_); (case ai => exact (Kd.Qh av.out HB.out)); (case ah => exact aw.out); (case aq => exact (Kd.Qh ay.out HB.out)); (case ao => exact ax.out); (case aK => exact (Kd.Qh HR1.out HB.out)); (case aJ => exact HC1.out); rintro e w53 ⟨rfl, hb⟩; refine ⟨_, rfl, ?_⟩; replace aM := aa.mk (Kd.YF aM.out hb); replace bn := aa.mk (Kd.YF bn.out hb); replace bl := aa.mk (Kd.Zf bl.out hb); replace ab := aa.mk (Ql ab.out hb); replace HB := aa.mk (Qc bB hb); (try clear hb); (try clear hb2); (try clear hk); (try clear hi)))
  go_ret; exact ⟨by first | rfl | (simp [Qk, Qj] <;> rfl) | (simp [*, Qk, Qj] <;> rfl), bB⟩
end Go.Proofs.Ytdneelgnmnpanaa.P
end
section
namespace Go.Proofs.Ytdneelgnmnpanaa.P
open Go.RowKit Go.Proofs.YtdneelgnmnpanaaW.PrintWords
theorem ZC {n m : Nat} (h : n < m) (hm : m ≤ 9223372036854775807) : wrap64 ((n : Int) + 1) = ((n + 1 : Nat) : Int) := by
  rw [wrp (by omega) (by omega)]; omega
theorem rdn (l : List Int) (n : Nat) : rd l (n : Int) = l.getD n 0 := by simp [rd]
theorem rdL (l : List (List Int)) (n : Nat) : Qt l (n : Int) = l.getD n [] := by simp [Qt]
theorem rdL0 (l : List (List Int)) : Qt l 0 = l.getD 0 [] := rdL l 0
theorem Q8 {α : Type} (l : List α) (n : Nat) (d : α) (h : n < l.length) : l.getD n d = l[n] := by
  rw [List.getD_eq_getElem?_getD, List.getElem?_eq_getElem h]; rfl
def Sh (I O : List (List Int)) : Prop := I.length ≤ 50 ∧ O.length ≤ 50 ∧ ∀ r ∈ I ++ O, r.length ≤ 50
theorem long_l1 (I O : List (List Int)) (hO : O.length ≤ 50) : ∀ (d n : Nat), n + d = O.length → ∃ b, Ev (fun k => Qy.l1 k (n : Int) I O) b ∧ (b = false → ∀ r ∈ O.drop n, r.length ≤ 50) := by
  intro d; induction d with
  | zero =>
    intro n hn; refine ⟨false, Ev.step (fun k => by rw [Qy.l1]) ?_, fun _ => by rw [List.drop_eq_nil_of_le (by omega)]; simp⟩; simp only [show ¬ ((n : Int) < (O.length : Int)) by omega, if_false]; exact Ev.now _
  | succ d ih =>
    intro n hn; have hlt : n < O.length := by omega
    obtain ⟨b, hb, hf⟩ := ih (n + 1) (by omega); by_cases hl : ((O.getD n []).length : Int) > 50
    · refine ⟨true, Ev.step (fun k => by rw [Qy.l1]) ?_, fun h => by cases h⟩; simp only [show ((n : Int) < (O.length : Int)) by omega, show (0 : Int) ≤ (n : Int) by omega, if_true, rdL, hl]; exact Ev.now _
    · refine ⟨b, Ev.step (fun k => by rw [Qy.l1]) ?_, fun h => ?_⟩
      · simp only [show ((n : Int) < (O.length : Int)) by omega, show (0 : Int) ≤ (n : Int) by omega, if_true, rdL, hl, if_false]; rw [ZC (m := O.length) hlt (by omega)]; exact hb
      · rw [List.drop_eq_getElem_cons hlt]; intro r hr; rcases List.mem_cons.1 hr with rfl | hr
        · rw [Q8 _ _ _ hlt] at hl; omega
        · exact hf h r hr
theorem long_l0 (I O : List (List Int)) (hI : I.length ≤ 50) (hO : O.length ≤ 50) : ∀ (d n : Nat), n + d = I.length → ∃ b, Ev (fun k => Qy.l0 k (n : Int) I O) b ∧ (b = false → (∀ r ∈ I.drop n, r.length ≤ 50) ∧ ∀ r ∈ O, r.length ≤ 50) := by
  intro d; induction d with
  | zero =>
    intro n hn; obtain ⟨b, hb, hf⟩ := long_l1 I O hO O.length 0 (by omega); refine ⟨b, Ev.step (fun k => by rw [Qy.l0]) ?_, fun h => ⟨by rw [List.drop_eq_nil_of_le (by omega)]; simp, by have := hf h; rwa [List.drop_zero] at this⟩⟩; simp only [show ¬ ((n : Int) < (I.length : Int)) by omega, if_false]; exact hb
  | succ d ih =>
    intro n hn; have hlt : n < I.length := by omega
    obtain ⟨b, hb, hf⟩ := ih (n + 1) (by omega); by_cases hl : ((I.getD n []).length : Int) > 50
    · refine ⟨true, Ev.step (fun k => by rw [Qy.l0]) ?_, fun h => by cases h⟩; simp only [show ((n : Int) < (I.length : Int)) by omega, show (0 : Int) ≤ (n : Int) by omega, if_true, rdL, hl]; exact Ev.now _
    · refine ⟨b, Ev.step (fun k => by rw [Qy.l0]) ?_, fun h => ⟨?_, (hf h).2⟩⟩
      · simp only [show ((n : Int) < (I.length : Int)) by omega, show (0 : Int) ≤ (n : Int) by omega, if_true, rdL, hl, if_false]; rw [ZC (m := I.length) hlt (by omega)]; exact hb
      · rw [List.drop_eq_getElem_cons hlt]; intro r hr; rcases List.mem_cons.1 hr with rfl | hr
        · rw [Q8 _ _ _ hlt] at hl; omega
        · exact (hf h).1 r hr
theorem long_ev (I O : List (List Int)) : ∃ b, Ev (fun k => Qy.f k I O) b ∧ (b = false → Sh I O) := by
  unfold Qy.f; by_cases h1 : (I.length : Int) > 50
  · refine ⟨true, ?_, fun h => by cases h⟩; simp only [h1, if_true]; refine Ev.step (fun k => by rw [Qy.j0]) ?_; simp only [if_true]; exact Ev.now _
  · by_cases h2 : (O.length : Int) > 50
    · refine ⟨true, ?_, fun h => by cases h⟩; simp only [h1, if_false, h2, decide_true]; refine Ev.step (fun k => by rw [Qy.j0]) ?_; simp only [if_true]; exact Ev.now _
    · obtain ⟨b, hb, hf⟩ := long_l0 I O (by omega) (by omega) I.length 0 (by omega); refine ⟨b, ?_, fun h => ⟨by omega, by omega, fun r hr => ?_⟩⟩
      · simp only [h1, if_false, h2, decide_false]; refine Ev.step (fun k => by rw [Qy.j0]) ?_; simp only [Bool.false_eq_true, if_false]; exact hb
      · have := hf h; rw [List.drop_zero] at this; rcases List.mem_append.1 hr with hr | hr
        · exact this.1 r hr
        · exact this.2 r hr
def inR (lo hi : Int) (l : List Int) : Bool := l.all fun x => decide (lo ≤ x ∧ x ≤ hi)
def okr (n : Nat) (c : List Int) : Bool := decide (c.length = n) && (inR 0 9 c && !c.all (fun x => decide (x = 0)))
def vsz (I O : List (List Int)) : Bool := decide (1 ≤ I.length ∧ I.length ≤ 3) && (decide (1 ≤ O.length ∧ O.length ≤ 3) && decide (1 ≤ (I.getD 0 []).length ∧ (I.getD 0 []).length ≤ 4))
def vl (I O : List (List Int)) : Int := if vsz I O = true ∧ (I ++ O).all (okr (I.getD 0 []).length) = true then 0 else 1
theorem all_eq (l : List Int) (a lo hi : Int) (h : l.length ≤ 1000) : Zd.f l a lo hi = some (decide ((l.length : Int) = a) && inR lo hi l) := by
  unfold Zd.f; rw [if_pos h]; congr 2; unfold inR; induction l with
  | nil => rfl
  | cons x l ih =>
    rw [List.any_cons, List.all_cons, Bool.not_or, ih (by simp at h; omega)]; simp [bad]
theorem rwithin (n lo hi : Int) : QF.f n lo hi = some (decide (lo ≤ n ∧ n ≤ hi)) := by
  unfold QF.f; by_cases h : n ≥ lo
  · simp [h]
  · simp [h]
theorem max_l0 (c : List Int) (hc : c.length ≤ 1000) : ∀ (d n : Nat) (m : Int), n + d = c.length → Ev (fun k => Qr.l0 k c m (n : Int)) ((c.drop n).foldl mx m) := by
  intro d; induction d with
  | zero =>
    intro n m hn; refine Ev.step (fun k => by rw [Qr.l0]) ?_; simp only [show ¬ ((n : Int) < (c.length : Int)) by omega, if_false]; rw [List.drop_eq_nil_of_le (by omega)]; exact Ev.now _
  | succ d ih =>
    intro n m hn; have hlt : n < c.length := by omega
    refine Ev.step (fun k => by rw [Qr.l0]) ?_; simp only [show ((n : Int) < (c.length : Int)) by omega, show (0 : Int) ≤ (n : Int) by omega, if_true, rdn]; rw [ZC (m := c.length) hlt (by omega), List.drop_eq_getElem_cons hlt, List.foldl_cons, Q8 _ _ _ hlt]; exact ih (n + 1) _ (by omega)
theorem max_ev (c : List Int) (hc : c.length ≤ 1000) (h1 : 1 ≤ c.length) : Ev (fun k => Qr.f k c) ((c.drop 1).foldl mx (c.getD 0 0)) := by
  unfold Qr.f; simp only [show ¬ ((c.length : Int) < 1) by omega, if_false]; refine Ev.step (fun k => by rw [Qr.j0]) ?_; simp only [show (0 : Int) < (c.length : Int) by omega, if_true]; have := max_l0 c hc (c.length - 1) 1 (rd c 0) (by omega); rw [show rd c 0 = c.getD 0 0 from rdn c 0] at this ⊢; exact this
theorem max_zero : ∀ (l : List Int) (m : Int), 0 ≤ m → (∀ x ∈ l, 0 ≤ x) → (l.foldl mx m = 0 ↔ m = 0 ∧ ∀ x ∈ l, x = 0)
  | [], m, _, _ => by simp
  | x :: l, m, hm, h => by
    have hx := h x (List.mem_cons_self ..); rw [List.foldl_cons, max_zero l (mx m x) (by unfold mx; split <;> omega) (fun y hy => h y (List.mem_cons_of_mem _ hy))]; have : mx m x = 0 ↔ m = 0 ∧ x = 0 := by unfold mx; split <;> omega
    rw [this]; simp [and_assoc]
theorem val_l0 (I O : List (List Int)) (hI : 0 < I.length) (hn1 : 1 ≤ (I.getD 0 []).length) (L : List (List Int)) (hL : L.length ≤ 1000) (hr : ∀ r ∈ L, r.length ≤ 50) : ∀ (d n : Nat), n + d = L.length →
    Ev (fun k => Qg.l0 k L (L.length : Int) (n : Int) I O) (if (L.drop n).all (okr (I.getD 0 []).length) = true then 0 else 1) := by
  intro d; induction d with
  | zero =>
    intro n hn; refine Ev.step (fun k => by rw [Qg.l0]) ?_; simp only [show ¬ ((n : Int) < (L.length : Int)) by omega, if_false]; rw [List.drop_eq_nil_of_le (by omega)]; exact Ev.now _
  | succ d ih =>
    intro n hn; have hlt : n < L.length := by omega
    have hrl := hr _ (List.getElem_mem hlt); refine Ev.step (fun k => by rw [Qg.l0]) ?_; simp only [show ((n : Int) < (L.length : Int)) by omega, show (0 : Int) ≤ (n : Int) by omega, show (0 : Int) < (I.length : Int) by omega, if_true, rdL, rdL0]; rw [List.drop_eq_getElem_cons hlt, List.all_cons, Q8 L n _ hlt, ZC (m := L.length) hlt (by omega)]; generalize L[n] = c at hrl; refine Ev.bind (Ev.congr (fun k => all_eq c _ 0 9 (by omega)) (Ev.now _)) ?_; unfold okr; rw [show decide ((c.length : Int) = ((I.getD 0 []).length : Int)) = decide (c.length = (I.getD 0 []).length) from by congr 1; exact propext (by omega)]; by_cases h1 : c.length = (I.getD 0 []).length
    · by_cases h2 : inR 0 9 c = true
      · simp only [h1, h2, decide_true, Bool.true_and, if_true]; refine Ev.bind (max_ev c (by omega) (by omega)) ?_; have hpos : ∀ x ∈ c, 0 ≤ x := fun x hx => (of_decide_eq_true (List.all_eq_true.1 h2 x hx)).1
        have hc0 : 0 < c.length := by omega
        have hz := max_zero (c.drop 1) (c.getD 0 0) (by rw [Q8 c 0 _ hc0]; exact hpos _ (List.getElem_mem hc0)) (fun x hx => hpos x (List.mem_of_mem_drop hx)); have hall : c.all (fun x => decide (x = 0)) = true ↔ c.getD 0 0 = 0 ∧ ∀ x ∈ c.drop 1, x = 0 := by
          rw [Q8 c 0 _ hc0]; constructor
          · intro h; have h' := fun x hx => of_decide_eq_true (List.all_eq_true.1 h x hx)
            exact ⟨h' _ (List.getElem_mem hc0), fun x hx => h' x (List.mem_of_mem_drop hx)⟩
          · rintro ⟨ha, hb⟩; refine List.all_eq_true.2 fun x hx => decide_eq_true ?_
            have hcd : c = c[0] :: c.drop 1 := by
              have := List.drop_eq_getElem_cons hc0; rwa [List.drop_zero] at this
            rw [hcd] at hx; rcases List.mem_cons.1 hx with rfl | hx
            · exact ha
            · exact hb x hx
        by_cases h3 : (c.drop 1).foldl mx (c.getD 0 0) = 0
        · have h4 := hall.2 (hz.1 h3); simp only [h3, h4, if_true, Bool.not_true, Bool.false_and, Bool.false_eq_true, if_false]; exact Ev.now _
        · have h4 : c.all (fun x => decide (x = 0)) = false := by
            cases hq : c.all (fun x => decide (x = 0)) with
            | true => exact absurd (hz.2 (hall.1 hq)) h3
            | false => rfl
          simp only [h3, h4, if_false, Bool.not_false, Bool.true_and]; exact ih (n + 1) (by omega)
      · simp only [h1, Bool.not_eq_true] at h2 ⊢; simp only [h2, decide_true, Bool.true_and, Bool.false_and, Bool.false_eq_true, if_false]; exact Ev.now _
    · simp only [h1, decide_false, Bool.false_and, Bool.false_eq_true, if_false]; exact Ev.now _
theorem val_ev {I O : List (List Int)} (h : Sh I O) : Ev (fun k => Qg.f k I O) (vl I O) := by
  obtain ⟨s1, s2, s3⟩ := h; unfold Qg.f vl vsz; have hno : ∀ (k : Nat), Qg.j0 (k + 1) true I O = some 1 := fun k => by rw [Qg.j0]; rfl
  have hnoE : Ev (fun k => Qg.j0 k true I O) 1 := Ev.step hno (Ev.now _); refine Ev.bind (Ev.congr (fun k => within _ 1 3) (Ev.now _)) ?_; by_cases h1 : 1 ≤ I.length ∧ I.length ≤ 3
  · have h1' : (1 : Int) ≤ (I.length : Int) ∧ (I.length : Int) ≤ 3 := by omega
    simp only [h1, h1', and_self, decide_true, if_true, Bool.true_and]; refine Ev.bind (Ev.congr (fun k => within _ 1 3) (Ev.now _)) ?_; by_cases h2 : 1 ≤ O.length ∧ O.length ≤ 3
    · have h2' : (1 : Int) ≤ (O.length : Int) ∧ (O.length : Int) ≤ 3 := by omega
      simp only [h2, h2', and_self, decide_true, if_true, Bool.true_and, show (0 : Int) < (I.length : Int) by omega, rdL0]; refine Ev.bind (Ev.congr (fun k => within _ 1 4) (Ev.now _)) ?_; by_cases h3 : 1 ≤ (I.getD 0 []).length ∧ (I.getD 0 []).length ≤ 4
      · have h3' : (1 : Int) ≤ ((I.getD 0 []).length : Int) ∧ ((I.getD 0 []).length : Int) ≤ 4 := by omega
        simp only [h3, h3', and_self, decide_true, Bool.not_true, true_and]; refine Ev.step (fun k => by rw [Qg.j0]) ?_; simp only [Bool.false_eq_true, if_false]; have hcc : Q5.f I O = some (I ++ O) := by unfold Q5.f; rw [if_pos (by omega)]
        simp only [hcc, Option.bind_some]; have := val_l0 I O (by omega) h3.1 (I ++ O) (by simp; omega) s3 (I ++ O).length 0 (by omega); rw [List.drop_zero] at this; exact this
      · have h3' : ¬ ((1 : Int) ≤ ((I.getD 0 []).length : Int) ∧ ((I.getD 0 []).length : Int) ≤ 4) := by omega
        simp only [h3, h3', decide_false, Bool.not_false, Bool.false_eq_true, false_and, if_false]; exact hnoE
    · have h2' : ¬ ((1 : Int) ≤ (O.length : Int) ∧ (O.length : Int) ≤ 3) := by omega
      simp only [h2, h2', decide_false, Bool.false_eq_true, if_false, Bool.false_and, false_and]; exact hnoE
  · have h1' : ¬ ((1 : Int) ≤ (I.length : Int) ∧ (I.length : Int) ≤ 3) := by omega
    simp only [h1, h1', decide_false, Bool.false_eq_true, if_false, Bool.false_and, false_and]; exact hnoE
theorem keepInts (q : List Int) (h : q.length * 8 ≤ reachBytes) : Q0.f q = some q := by
  have : reachBytes < 2 ^ 47 := reachBytes_lt; unfold Q0.f; simp only [Option.bind_some, List.length_nil, List.nil_append]; rw [if_pos (by omega)]
theorem keptInts_l (q : List Int) (h : q.length ≤ 9223372036854775807) : ∀ d n : Nat, n + d = q.length → Ev (fun k => Qw.l0 k q q (n : Int)) true := by
  intro d; induction d with
  | zero =>
    intro n hn; refine Ev.step (fun k => by rw [Qw.l0]) ?_; simp only [show ¬ ((n : Int) < (q.length : Int)) by omega, if_false]; exact Ev.now _
  | succ d ih =>
    intro n hn; refine Ev.step (fun k => by rw [Qw.l0]) ?_; simp only [show ((n : Int) < (q.length : Int)) by omega, show (0 : Int) ≤ (n : Int) by omega, if_true]; rw [ZC (m := q.length) (by omega) h]; exact ih (n + 1) (by omega)
theorem keptInts (q : List Int) (h : q.length * 8 ≤ reachBytes) : Ev (fun k => Qw.f k q q) true := by
  have : reachBytes < 2 ^ 47 := reachBytes_lt; unfold Qw.f; simp only [if_true]; exact keptInts_l q (by omega) q.length 0 (by omega)
theorem keepTable_l (Q : List (List Int)) (h : Q.length * 24 ≤ reachBytes) (hq : ∀ q ∈ Q, q.length * 8 ≤ reachBytes) : ∀ (d n : Nat) (out : List (List Int)), n + d = Q.length → out.length ≤ n → Ev (fun k => Qz.l0 k Q out (n : Int)) (out ++ Q.drop n) := by
  have hr : reachBytes < 2 ^ 47 := reachBytes_lt; intro d; induction d with
  | zero =>
    intro n out hn ho; refine Ev.step (fun k => by rw [Qz.l0]) ?_; simp only [show ¬ ((n : Int) < (Q.length : Int)) by omega, if_false]; rw [List.drop_eq_nil_of_le (by omega), List.append_nil]; exact Ev.now _
  | succ d ih =>
    intro n out hn ho; have hlt : n < Q.length := by omega
    refine Ev.step (fun k => by rw [Qz.l0]) ?_; simp only [show ((n : Int) < (Q.length : Int)) by omega, show (0 : Int) ≤ (n : Int) by omega, if_true, rdL, Q8 Q n _ hlt, keepInts _ (hq _ (List.getElem_mem hlt)), Option.bind_some, show out.length < 5864062014805 by omega]; rw [ZC (m := Q.length) hlt (by omega), List.drop_eq_getElem_cons hlt]; have := ih (n + 1) (out ++ [Q[n]]) (by omega) (by simp; omega); rw [List.append_assoc] at this; exact this
theorem keepTable (Q : List (List Int)) (h : Q.length * 24 ≤ reachBytes) (hq : ∀ q ∈ Q, q.length * 8 ≤ reachBytes) : Ev (fun k => Qz.f k Q) Q := by
  unfold Qz.f; have := keepTable_l Q h hq Q.length 0 [] (by omega) (by simp); rw [List.drop_zero, List.nil_append] at this; exact this
theorem keptTable_l (Q : List (List Int)) (h : Q.length * 24 ≤ reachBytes) (hq : ∀ q ∈ Q, q.length * 8 ≤ reachBytes) : ∀ d n : Nat, n + d = Q.length → Ev (fun k => Qq.l0 k Q Q (n : Int)) true := by
  have hr : reachBytes < 2 ^ 47 := reachBytes_lt; intro d; induction d with
  | zero =>
    intro n hn; refine Ev.step (fun k => by rw [Qq.l0]) ?_; simp only [show ¬ ((n : Int) < (Q.length : Int)) by omega, if_false]; exact Ev.now _
  | succ d ih =>
    intro n hn; have hlt : n < Q.length := by omega
    refine Ev.step (fun k => by rw [Qq.l0]) ?_; simp only [show ((n : Int) < (Q.length : Int)) by omega, show (0 : Int) ≤ (n : Int) by omega, if_true, rdL, Q8 Q n _ hlt]; refine Ev.bind (keptInts _ (hq _ (List.getElem_mem hlt))) ?_; simp only [if_true]; rw [ZC (m := Q.length) hlt (by omega)]; exact ih (n + 1) (by omega)
theorem keptTable (Q : List (List Int)) (h : Q.length * 24 ≤ reachBytes) (hq : ∀ q ∈ Q, q.length * 8 ≤ reachBytes) : Ev (fun k => Qq.f k Q Q) true := by
  unfold Qq.f; simp only [if_true]; exact keptTable_l Q h hq Q.length 0 (by omega)
theorem sum_zero : ∀ (l : List Int), (∀ x ∈ l, 0 ≤ x) → 0 ≤ l.sum ∧ (l.sum = 0 ↔ ∀ x ∈ l, x = 0)
  | [], _ => by simp
  | x :: l, h => by
    have hx := h x (List.mem_cons_self ..); obtain ⟨h1, h2⟩ := sum_zero l (fun y hy => h y (List.mem_cons_of_mem _ hy)); rw [List.sum_cons]; refine ⟨by omega, ?_⟩; rw [List.forall_mem_cons, ← h2]; omega
theorem rval_l1 (I O : List (List Int)) (L : List (List Int)) (n : Nat) (hn : n < L.length) (hr : L[n].length ≤ 50) (R : Int) (hR : Ev (fun k => Qd.l0 k L (wrap64 ((n : Int) + 1)) I O) R) : ∀ (d j : Nat) (s : Int), j + d = L[n].length → 0 ≤ s → s ≤ 9 * (j : Int) →
    Ev (fun k => Qd.l1 k L (n : Int) s (j : Int) I O) (if inR 0 9 (L[n].drop j) = true then (if s + (L[n].drop j).sum = 0 then 1 else R) else 1) := by
  intro d; induction d with
  | zero =>
    intro j s hj h0 h9; refine Ev.step (fun k => by rw [Qd.l1]) ?_; simp only [show (0 : Int) ≤ (n : Int) by omega, show (n : Int) < (L.length : Int) by omega, if_true, rdL, Q8 L n _ hn, show ¬ ((j : Int) < (L[n].length : Int)) by omega, if_false]; rw [List.drop_eq_nil_of_le (by omega)]; simp only [inR, List.all_nil, if_true, List.sum_nil, Int.add_zero]; by_cases h : s = 0
    · simp only [h, if_true]; exact Ev.now _
    · simp only [h, if_false]; exact hR
  | succ d ih =>
    intro j s hj h0 h9; have hlt : j < L[n].length := by omega
    refine Ev.step (fun k => by rw [Qd.l1]) ?_; simp only [show (0 : Int) ≤ (n : Int) by omega, show (n : Int) < (L.length : Int) by omega, if_true, rdL, Q8 L n _ hn, show ((j : Int) < (L[n].length : Int)) by omega, show (0 : Int) ≤ (j : Int) by omega, rdn, Q8 L[n] j _ hlt]; refine Ev.bind (Ev.congr (fun k => rwithin _ 0 9) (Ev.now _)) ?_; rw [List.drop_eq_getElem_cons hlt, ZC (m := L[n].length) hlt (by omega)]; by_cases h : 0 ≤ L[n][j] ∧ L[n][j] ≤ 9
    · rw [wrp (x := s + L[n][j]) (by omega) (by omega)]; have := ih (j + 1) (s + L[n][j]) (by omega) (by omega) (by omega); simp only [h, and_self, decide_true, if_true, inR, List.all_cons, Bool.true_and, List.sum_cons, ← Int.add_assoc]; exact this
    · simp only [h, decide_false, Bool.false_eq_true, if_false, inR, List.all_cons, Bool.false_and]; exact Ev.now _
theorem rval_l0 (I O : List (List Int)) (hI : 0 < I.length) (L : List (List Int)) (hL : L.length ≤ 1000) (hr : ∀ r ∈ L, r.length ≤ 50) : ∀ (d n : Nat), n + d = L.length →
    Ev (fun k => Qd.l0 k L (n : Int) I O) (if (L.drop n).all (okr (I.getD 0 []).length) = true then 0 else 1) := by
  intro d; induction d with
  | zero =>
    intro n hn; refine Ev.step (fun k => by rw [Qd.l0]) ?_; simp only [show ¬ ((n : Int) < (L.length : Int)) by omega, if_false]; rw [List.drop_eq_nil_of_le (by omega)]; exact Ev.now _
  | succ d ih =>
    intro n hn; have hlt : n < L.length := by omega
    have hrl := hr _ (List.getElem_mem hlt); have h1 := rval_l1 I O L n hlt hrl _ (by rw [ZC (m := L.length) hlt (by omega)]; exact ih (n + 1) (by omega)) L[n].length 0 0 (by omega) (by omega) (by omega); refine Ev.step (fun k => by rw [Qd.l0]) ?_; simp only [show ((n : Int) < (L.length : Int)) by omega, show (0 : Int) ≤ (n : Int) by omega, show (0 : Int) < (I.length : Int) by omega, if_true, rdL, rdL0]; rw [List.drop_eq_getElem_cons hlt, List.all_cons, Q8 L n _ hlt]; rw [List.drop_zero, Int.zero_add] at h1; unfold okr; by_cases c1 : L[n].length = (I.getD 0 []).length
    · simp only [show ((L[n].length : Int) = ((I.getD 0 []).length : Int)) by omega, if_true, c1, decide_true, Bool.true_and]; by_cases c2 : inR 0 9 L[n] = true
      · have hpos : ∀ x ∈ L[n], 0 ≤ x := fun x hx => (of_decide_eq_true (List.all_eq_true.1 c2 x hx)).1
        obtain ⟨-, hz⟩ := sum_zero _ hpos; simp only [c2, if_true] at h1; simp only [c2, Bool.true_and]; by_cases c3 : L[n].sum = 0
        · have c4 : L[n].all (fun x => decide (x = 0)) = true := List.all_eq_true.2 fun x hx => decide_eq_true (hz.1 c3 x hx)
          simp only [c3, if_true] at h1; simp only [c4, Bool.not_true, Bool.false_and, Bool.false_eq_true, if_false]; exact h1
        · have c4 : L[n].all (fun x => decide (x = 0)) = false := by
            cases hq : L[n].all (fun x => decide (x = 0)) with
            | true => exact absurd (hz.2 (fun x hx => of_decide_eq_true (List.all_eq_true.1 hq x hx))) c3
            | false => rfl
          simp only [c3, if_false] at h1; simp only [c4, Bool.not_false, Bool.true_and]; exact h1
      · simp only [c2, if_false] at h1; rw [Bool.not_eq_true] at c2; simp only [c2, Bool.false_and, Bool.false_eq_true, if_false]; exact h1
    · simp only [show ¬ ((L[n].length : Int) = ((I.getD 0 []).length : Int)) by omega, if_false, c1, decide_false, Bool.false_and, Bool.false_eq_true]; exact Ev.now _
theorem rval_ev {I O : List (List Int)} (h : Sh I O) : Ev (fun k => Qd.f k I O) (vl I O) := by
  obtain ⟨s1, s2, s3⟩ := h; unfold Qd.f vl vsz; have hnoE : Ev (fun k => Qd.j0 k true I O) 1 := Ev.step (fun k => by rw [Qd.j0]) (by simp only [if_true]; exact Ev.now _); refine Ev.bind (Ev.congr (fun k => rwithin _ 1 3) (Ev.now _)) ?_; by_cases h1 : 1 ≤ I.length ∧ I.length ≤ 3
  · have h1' : (1 : Int) ≤ (I.length : Int) ∧ (I.length : Int) ≤ 3 := by omega
    simp only [h1, h1', and_self, decide_true, if_true, Bool.true_and]; refine Ev.bind (Ev.congr (fun k => rwithin _ 1 3) (Ev.now _)) ?_; by_cases h2 : 1 ≤ O.length ∧ O.length ≤ 3
    · have h2' : (1 : Int) ≤ (O.length : Int) ∧ (O.length : Int) ≤ 3 := by omega
      simp only [h2, h2', and_self, decide_true, if_true, Bool.true_and, show (0 : Int) < (I.length : Int) by omega, rdL0]; refine Ev.bind (Ev.congr (fun k => rwithin _ 1 4) (Ev.now _)) ?_; by_cases h3 : 1 ≤ (I.getD 0 []).length ∧ (I.getD 0 []).length ≤ 4
      · have h3' : (1 : Int) ≤ ((I.getD 0 []).length : Int) ∧ ((I.getD 0 []).length : Int) ≤ 4 := by omega
        simp only [h3, h3', and_self, decide_true, Bool.not_true, true_and]; refine Ev.step (fun k => by rw [Qd.j0]) ?_; simp only [Bool.false_eq_true, if_false, Option.bind_some, List.length_nil, List.nil_append, show 0 + I.length < 5864062014805 by omega, show I.length + O.length < 5864062014805 by omega, if_true]; have := rval_l0 I O (by omega) (I ++ O) (by simp; omega) s3 (I ++ O).length 0 (by omega); rw [List.drop_zero] at this; exact this
      · have h3' : ¬ ((1 : Int) ≤ ((I.getD 0 []).length : Int) ∧ ((I.getD 0 []).length : Int) ≤ 4) := by omega
        simp only [h3, h3', decide_false, Bool.not_false, Bool.false_eq_true, false_and, if_false]; exact hnoE
    · have h2' : ¬ ((1 : Int) ≤ (O.length : Int) ∧ (O.length : Int) ≤ 3) := by omega
      simp only [h2, h2', decide_false, Bool.false_eq_true, if_false, Bool.false_and, false_and]; exact hnoE
  · have h1' : ¬ ((1 : Int) ≤ (I.length : Int) ∧ (I.length : Int) ≤ 3) := by omega
    simp only [h1, h1', decide_false, Bool.false_eq_true, if_false, Bool.false_and, false_and]; exact hnoE
theorem islist_l0 (l : List Int) (lo hi : Int) (hl : l.length ≤ 1000) : ∀ (d n : Nat), n + d = l.length → Ev (fun k => QT.l0 k l (l.length : Int) lo hi (n : Int)) (inR lo hi (l.drop n)) := by
  intro d; induction d with
  | zero =>
    intro n hn; refine Ev.step (fun k => by rw [QT.l0]) ?_; simp only [show ¬ ((n : Int) < (l.length : Int)) by omega, if_false]; rw [List.drop_eq_nil_of_le (by omega)]; exact Ev.now _
  | succ d ih =>
    intro n hn; have hlt : n < l.length := by omega
    refine Ev.step (fun k => by rw [QT.l0]) ?_; simp only [show ((n : Int) < (l.length : Int)) by omega, show (0 : Int) ≤ (n : Int) by omega, if_true, rdn, Q8 l n _ hlt]; refine Ev.bind (Ev.congr (fun k => rwithin _ lo hi) (Ev.now _)) ?_; rw [List.drop_eq_getElem_cons hlt, ZC (m := l.length) hlt (by omega)]; unfold inR; rw [List.all_cons]; by_cases h : lo ≤ l[n] ∧ l[n] ≤ hi
    · simp only [h, and_self, decide_true, if_true, Bool.true_and]; exact ih (n + 1) (by omega)
    · simp only [h, decide_false, Bool.false_eq_true, if_false, Bool.false_and]; exact Ev.now _
theorem islist_ev (l : List Int) (a lo hi : Int) (hl : l.length ≤ 1000) : Ev (fun k => QT.f k l a lo hi) (decide ((l.length : Int) = a) && inR lo hi l) := by
  unfold QT.f; by_cases h : (l.length : Int) = a
  · subst h; simp only [if_true, decide_true, Bool.true_and]; have := islist_l0 l lo hi hl l.length 0 (by omega); rw [List.drop_zero] at this; exact this
  · simp only [h, if_false, decide_false, Bool.false_and]; exact Ev.now _
def lerr (n : Nat) (lo hi : Int) (l : List Int) : Int := if l.length = n ∧ inR lo hi l = true then 0 else 1
theorem lerr_of (l : List Int) (n : Nat) (lo hi : Int) (a : Int) (ha : a = (n : Int)) : (if (decide ((l.length : Int) = a) && inR lo hi l) = true then (some (0 : Int)) else some 1) = some (lerr n lo hi l) := by
  subst ha; unfold lerr; by_cases h : l.length = n
  · subst h; cases inR lo hi l <;> simp
  · have : ¬ ((l.length : Int) = (n : Int)) := by omega
    simp [h, this]
def wg (I O : List (List Int)) (t : List Int) : Int := if vl I O = 0 then lerr (I.getD 0 []).length (-1000000) 1000000 t else vl I O
theorem ZV {I O : List (List Int)} (h : vl I O = 0) : 1 ≤ I.length ∧ I.length ≤ 3 ∧ 1 ≤ O.length ∧ O.length ≤ 3 ∧ 1 ≤ (I.getD 0 []).length ∧ (I.getD 0 []).length ≤ 4 ∧ ∀ c ∈ I ++ O, c.length = (I.getD 0 []).length ∧ ∀ x ∈ c, 0 ≤ x ∧ x ≤ 9 := by
  unfold vl at h; split at h
  case isFalse => cases h
  rename_i hc
  obtain ⟨h1, h2⟩ := hc; unfold vsz at h1; simp only [Bool.and_eq_true, decide_eq_true_eq] at h1; refine ⟨h1.1.1, h1.1.2, h1.2.1.1, h1.2.1.2, h1.2.2.1, h1.2.2.2, fun c hcm => ?_⟩; have := List.all_eq_true.1 h2 c hcm; unfold okr at this; simp only [Bool.and_eq_true, decide_eq_true_eq] at this; exact ⟨this.1, fun x hx => of_decide_eq_true (List.all_eq_true.1 this.2.1 x hx)⟩
theorem weighted_ev {I O : List (List Int)} (h : Sh I O) (t : List Int) (ht : t.length ≤ 1000) : Ev (fun k => Zi.f k I O t) (wg I O t) := by
  unfold Zi.f wg; refine Ev.bind (val_ev h) ?_; by_cases c : vl I O = 0
  · have hs := ZV c; simp only [c, if_true, show (0 : Int) < (I.length : Int) by omega, rdL0, all_eq t _ _ _ ht, Option.bind_some]; exact Ev.congr (fun k => lerr_of t (I.getD 0 []).length _ _ _ rfl) (Ev.now _)
  · simp only [c, if_false]; exact Ev.now _
theorem lerr_zero {n : Nat} {lo hi : Int} {l : List Int} (h : lerr n lo hi l = 0) : l.length = n ∧ ∀ x ∈ l, lo ≤ x ∧ x ≤ hi := by
  unfold lerr at h; split at h
  case isFalse => cases h
  rename_i hc
  exact ⟨hc.1, fun x hx => of_decide_eq_true (List.all_eq_true.1 hc.2 x hx)⟩
theorem UN {I O : List (List Int)} {t : List Int} (h : wg I O t = 0) : vl I O = 0 ∧ t.length = (I.getD 0 []).length ∧ ∀ x ∈ t, -1000000 ≤ x ∧ x ≤ 1000000 := by
  unfold wg at h; split at h
  · rename_i hv
    exact ⟨hv, lerr_zero h⟩
  · rename_i hv
    exact absurd h hv
theorem many_eq (l : List Int) : Zr.f l = some (decide ((l.length : Int) > 100)) := by
  unfold Zr.f; rfl
def wdot : Int → List Int → List Int → Int
  | s, x :: c, y :: w => wdot (wrap64 (s + wrap64 (x * y))) c w
  | s, _, _ => s
theorem weigh_l1 (w : List Int) (L : List (List Int)) (n : Nat) (out c : List Int) (hcw : c.length = w.length) (hc : c.length ≤ 1000) (ho : out.length ≤ 1000) (R : List Int) : ∀ (d j : Nat) (s : Int), j + d = c.length →
    Ev (fun k => QJ.l0 k w (out ++ [wdot s (c.drop j) (w.drop j)]) L (L.length : Int) (wrap64 ((n : Int) + 1))) R →
    Ev (fun k => QJ.l1 k w out s L (L.length : Int) (n : Int) c (c.length : Int) (j : Int)) R := by
  intro d; induction d with
  | zero =>
    intro j s hj h; refine Ev.step (fun k => by rw [QJ.l1]) ?_; rw [List.drop_eq_nil_of_le (by omega)] at h; simp only [show ¬ ((j : Int) < (c.length : Int)) by omega, if_false, show out.length < 17592186044416 by omega, if_true]; exact h
  | succ d ih =>
    intro j s hj h; have hlt : j < c.length := by omega
    have hlw : j < w.length := by omega
    refine Ev.step (fun k => by rw [QJ.l1]) ?_; rw [List.drop_eq_getElem_cons hlt, List.drop_eq_getElem_cons hlw, wdot] at h; simp only [show ((j : Int) < (c.length : Int)) by omega, show (0 : Int) ≤ (j : Int) by omega, show ((j : Int) < (w.length : Int)) by omega, if_true, rdn, Q8 c j _ hlt, Q8 w j _ hlw]; rw [ZC (m := c.length) hlt (by omega)]; exact ih (j + 1) _ (by omega) h
theorem weigh_l0 (w : List Int) (L : List (List Int)) (hL : L.length ≤ 500) (hw : w.length ≤ 1000) (hc : ∀ c ∈ L, c.length = w.length) : ∀ (d n : Nat) (out : List Int), n + d = L.length → out.length ≤ n → Ev (fun k => QJ.l0 k w out L (L.length : Int) (n : Int)) (out ++ (L.drop n).map (fun c => wdot 0 c w)) := by
  intro d; induction d with
  | zero =>
    intro n out hn ho; refine Ev.step (fun k => by rw [QJ.l0]) ?_; simp only [show ¬ ((n : Int) < (L.length : Int)) by omega, if_false]; rw [List.drop_eq_nil_of_le (by omega), List.map_nil, List.append_nil]; exact Ev.now _
  | succ d ih =>
    intro n out hn ho; have hlt : n < L.length := by omega
    refine Ev.step (fun k => by rw [QJ.l0]) ?_; simp only [show ((n : Int) < (L.length : Int)) by omega, show (0 : Int) ≤ (n : Int) by omega, if_true, rdL, Q8 L n _ hlt]; have hl := hc _ (List.getElem_mem hlt); have := weigh_l1 w L n out L[n] hl (by omega) (by omega) (out ++ (L.drop n).map (fun c => wdot 0 c w)) L[n].length 0 0 (by omega) (by
      rw [ZC (m := L.length) hlt (by omega), List.drop_zero, List.drop_zero, List.drop_eq_getElem_cons hlt, List.map_cons]; have := ih (n + 1) (out ++ [wdot 0 L[n] w]) (by omega) (by simp; omega); rw [List.append_assoc] at this; exact this)
    exact this
theorem weigh_ev {I O : List (List Int)} (h : vl I O = 0) (w : List Int) (hw : w.length = (I.getD 0 []).length) : Ev (fun k => QJ.f k I O w) ((I ++ O).map (fun c => wdot 0 c w)) := by
  obtain ⟨s1, s2, s3, s4, s5, s6, s7⟩ := ZV h; unfold QJ.f; have hcc : Q5.f I O = some (I ++ O) := by unfold Q5.f; rw [if_pos (by omega)]
  simp only [hcc, Option.bind_some]; have := weigh_l0 w (I ++ O) (by simp; omega) (by omega) (fun c hc => by rw [(s7 c hc).1, hw]) (I ++ O).length 0 [] (by omega) (by simp); rw [List.drop_zero, List.nil_append] at this; exact this
def zs (n : Nat) : List Int := List.replicate n 0
def dot : List Int → List Int → Int
  | x :: c, y :: w => x * y + dot c w
  | _, _ => 0
theorem UY (w : List Int) : dot [] w = 0 := by rw [dot]; intros; contradiction
theorem dot_nil2 (c : List Int) : dot c [] = 0 := by cases c <;> (rw [dot]; intros; contradiction)
theorem mulb {x y : Int} {A B : Nat} (hx : x.natAbs ≤ A) (hy : y.natAbs ≤ B) : (x * y).natAbs ≤ A * B := by
  rw [Int.natAbs_mul]; exact Nat.mul_le_mul hx hy
def Atoms (c : List Int) : Prop := ∀ x ∈ c, 0 ≤ x ∧ x ≤ 9
def Coefs (c : List Int) : Prop := ∀ x ∈ c, -1000000 ≤ x ∧ x ≤ 1000000
theorem UL : ∀ (c w : List Int), Atoms c → Coefs w → (dot c w).natAbs ≤ 9000000 * c.length
  | [], w, _, _ => by rw [UY]; simp
  | x :: c, [], _, _ => by rw [dot_nil2]; simp
  | x :: c, y :: w, h, k => by
    have h1 := h x (List.mem_cons_self ..); have h2 := k y (List.mem_cons_self ..); have h3 := mulb (x := x) (y := y) (A := 9) (B := 1000000) (by omega) (by omega); have h4 := UL c w (fun z hz => h z (List.mem_cons_of_mem _ hz)) (fun z hz => k z (List.mem_cons_of_mem _ hz)); rw [dot, List.length_cons]; omega
theorem wdot_eq : ∀ (c w : List Int) (s : Int), Atoms c → Coefs w → s.natAbs + 9000000 * c.length ≤ 4611686018427387904 → wdot s c w = s + dot c w
  | [], w, s, _, _, _ => by rw [UY, wdot, Int.add_zero]; all_goals (intro _ _ _ _ p q; first | (cases p; done) | (cases q; done))
  | x :: c, [], s, _, _, _ => by rw [dot_nil2, wdot, Int.add_zero]; all_goals (intro _ _ _ _ p q; first | (cases p; done) | (cases q; done))
  | x :: c, y :: w, s, h, k, hb => by
    have h1 := h x (List.mem_cons_self ..); have h2 := k y (List.mem_cons_self ..); have h3 := mulb (x := x) (y := y) (A := 9) (B := 1000000) (by omega) (by omega); rw [List.length_cons] at hb; rw [wdot, wrp (x := x * y) (by omega) (by omega), wrp (x := s + x * y) (by omega) (by omega), wdot_eq c w (s + x * y) (fun z hz => h z (List.mem_cons_of_mem _ hz)) (fun z hz => k z (List.mem_cons_of_mem _ hz)) (by omega), dot]; omega
theorem Vp {c : List Int} (h : Atoms c) (e : Nat) : 0 ≤ c.getD e 0 ∧ c.getD e 0 ≤ 9 := by
  by_cases hl : e < c.length
  · rw [Q8 c e _ hl]; exact h _ (List.getElem_mem hl)
  · rw [List.getD_eq_getElem?_getD, List.getElem?_eq_none (by omega)]; simp
def negc (c : List Int) : List Int := c.map fun x => wrap64 (-x)
theorem VP {c : List Int} (h : Atoms c) (e : Nat) : (negc c).getD e 0 = -c.getD e 0 := by
  unfold negc; by_cases hl : e < c.length
  · rw [Q8 _ e _ (by simpa using hl), Q8 c e _ hl, List.getElem_map]; have := h _ (List.getElem_mem hl); exact wrp (by omega) (by omega)
  · rw [List.getD_eq_getElem?_getD, List.getElem?_eq_none (by simpa using hl), List.getD_eq_getElem?_getD, List.getElem?_eq_none (by omega)]; simp
def cols (I O : List (List Int)) : List (List Int) := I ++ O.map negc
theorem min_l0 (c : List Int) (hc : c.length ≤ 1000) : ∀ (d n : Nat) (m : Int), n + d = c.length → Ev (fun k => Qi.l0 k c m (n : Int)) ((c.drop n).foldl mn m) := by
  intro d; induction d with
  | zero =>
    intro n m hn; refine Ev.step (fun k => by rw [Qi.l0]) ?_; simp only [show ¬ ((n : Int) < (c.length : Int)) by omega, if_false]; rw [List.drop_eq_nil_of_le (by omega)]; exact Ev.now _
  | succ d ih =>
    intro n m hn; have hlt : n < c.length := by omega
    refine Ev.step (fun k => by rw [Qi.l0]) ?_; simp only [show ((n : Int) < (c.length : Int)) by omega, show (0 : Int) ≤ (n : Int) by omega, if_true, rdn]; rw [ZC (m := c.length) hlt (by omega), List.drop_eq_getElem_cons hlt, List.foldl_cons, Q8 _ _ _ hlt]; exact ih (n + 1) _ (by omega)
theorem min_ev (c : List Int) (hc : c.length ≤ 1000) (h1 : 1 ≤ c.length) : Ev (fun k => Qi.f k c) ((c.drop 1).foldl mn (c.getD 0 0)) := by
  unfold Qi.f; simp only [show ¬ ((c.length : Int) < 1) by omega, if_false]; refine Ev.step (fun k => by rw [Qi.j0]) ?_; simp only [show (0 : Int) < (c.length : Int) by omega, if_true]; have := min_l0 c hc (c.length - 1) 1 (rd c 0) (by omega); rw [show rd c 0 = c.getD 0 0 from rdn c 0] at this ⊢; exact this
theorem le_mn (r a b : Int) : r ≤ mn a b ↔ r ≤ a ∧ r ≤ b := by
  unfold mn; split <;> omega
theorem min_pos : ∀ (l : List Int) (m : Int), 1 ≤ l.foldl mn m ↔ 1 ≤ m ∧ ∀ x ∈ l, 1 ≤ x
  | [], m => by simp
  | y :: l, m => by
    rw [List.foldl_cons, min_pos l (mn m y), le_mn]; constructor
    · rintro ⟨⟨a, b⟩, c⟩; exact ⟨a, fun x hx => by rcases List.mem_cons.1 hx with rfl | hx; exact b; exact c x hx⟩
    · rintro ⟨a, c⟩; exact ⟨⟨a, c y (List.mem_cons_self ..)⟩, fun x hx => c x (List.mem_cons_of_mem _ hx)⟩
def pos (t : List Int) : Bool := t.all fun x => decide (1 ≤ x)
theorem min_pos2 (c : List Int) (h1 : 1 ≤ c.length) : (c.drop 1).foldl mn (c.getD 0 0) ≤ 0 ↔ ¬ pos c = true := by
  have h := min_pos (c.drop 1) (c.getD 0 0); have h2 : pos c = true ↔ 1 ≤ (c.drop 1).foldl mn (c.getD 0 0) := by
    rw [h]; cases c with
    | nil => simp at h1
    | cons a c => simp [pos]
  rw [h2]; omega
def shl (r : Int) : List Int → List Int → Int → List Int
  | a :: s, t :: ts, i => if a < (r + 1) * t then i :: shl r s ts (i + 1) else shl r s ts (i + 1)
  | _, _, _ => []
theorem rweighed_ev {I O : List (List Int)} (h : Sh I O) (t : List Int) (ht : t.length ≤ 1000) : Ev (fun k => Zp.f k I O t) (wg I O t) := by
  unfold Zp.f wg; refine Ev.bind (rval_ev h) ?_; by_cases c : vl I O = 0
  · have hs := ZV c; simp only [c, if_true, show (0 : Int) < (I.length : Int) by omega, rdL0]; refine Ev.bind (islist_ev t _ _ _ ht) ?_; exact Ev.congr (fun k => lerr_of t (I.getD 0 []).length _ _ _ rfl) (Ev.now _)
  · simp only [c, if_false]; exact Ev.now _
theorem rweigh_l1 (w : List Int) (L : List (List Int)) (n : Nat) (hn : n < L.length) (out : List Int) (hcw : L[n].length = w.length) (hc : w.length ≤ 1000) (ho : out.length ≤ 1000) (R : List Int) : ∀ (d j : Nat) (s : Int), j + d = w.length →
    Ev (fun k => Qo.l0 k w L (out ++ [wdot s (L[n].drop j) (w.drop j)]) (wrap64 ((n : Int) + 1))) R →
    Ev (fun k => Qo.l1 k w L out (n : Int) s (j : Int)) R := by
  intro d; induction d with
  | zero =>
    intro j s hj h; refine Ev.step (fun k => by rw [Qo.l1]) ?_; rw [List.drop_eq_nil_of_le (by omega)] at h; simp only [show ¬ ((j : Int) < (w.length : Int)) by omega, if_false, show out.length < 17592186044416 by omega, if_true]; exact h
  | succ d ih =>
    intro j s hj h; have hlw : j < w.length := by omega
    have hlt : j < L[n].length := by omega
    refine Ev.step (fun k => by rw [Qo.l1]) ?_; rw [List.drop_eq_getElem_cons hlt, List.drop_eq_getElem_cons hlw, wdot, Int.mul_comm] at h; simp only [show ((j : Int) < (w.length : Int)) by omega, show (0 : Int) ≤ (j : Int) by omega, show (0 : Int) ≤ (n : Int) by omega, show ((n : Int) < (L.length : Int)) by omega, rdL, Q8 L n _ hn, show ((j : Int) < (L[n].length : Int)) by omega, if_true, rdn, Q8 L[n] j _ hlt, Q8 w j _ hlw]; rw [ZC (m := w.length) hlw (by omega)]; exact ih (j + 1) _ (by omega) h
theorem rweigh_l0 (w : List Int) (L : List (List Int)) (hL : L.length ≤ 500) (hw : w.length ≤ 1000) (hc : ∀ c ∈ L, c.length = w.length) : ∀ (d n : Nat) (out : List Int), n + d = L.length → out.length ≤ n → Ev (fun k => Qo.l0 k w L out (n : Int)) (out ++ (L.drop n).map (fun c => wdot 0 c w)) := by
  intro d; induction d with
  | zero =>
    intro n out hn ho; refine Ev.step (fun k => by rw [Qo.l0]) ?_; simp only [show ¬ ((n : Int) < (L.length : Int)) by omega, if_false]; rw [List.drop_eq_nil_of_le (by omega), List.map_nil, List.append_nil]; exact Ev.now _
  | succ d ih =>
    intro n out hn ho; have hlt : n < L.length := by omega
    refine Ev.step (fun k => by rw [Qo.l0]) ?_; simp only [show ((n : Int) < (L.length : Int)) by omega, if_true]; have hl := hc _ (List.getElem_mem hlt); have := rweigh_l1 w L n hlt out hl (by omega) (by omega) (out ++ (L.drop n).map (fun c => wdot 0 c w)) w.length 0 0 (by omega) (by
      rw [ZC (m := L.length) hlt (by omega), List.drop_zero, List.drop_zero, List.drop_eq_getElem_cons hlt, List.map_cons]; have := ih (n + 1) (out ++ [wdot 0 L[n] w]) (by omega) (by simp; omega); rw [List.append_assoc] at this; exact this)
    exact this
theorem rweigh_ev {I O : List (List Int)} (h : vl I O = 0) (w : List Int) (hw : w.length = (I.getD 0 []).length) : Ev (fun k => Qo.f k I O w) ((I ++ O).map (fun c => wdot 0 c w)) := by
  obtain ⟨s1, s2, s3, s4, s5, s6, s7⟩ := ZV h; unfold Qo.f; simp only [Option.bind_some, List.length_nil, List.nil_append, show 0 + I.length < 5864062014805 by omega, show I.length + O.length < 5864062014805 by omega, if_true]; have := rweigh_l0 w (I ++ O) (by simp; omega) (by omega) (fun c hc => by rw [(s7 c hc).1, hw]) (I ++ O).length 0 [] (by omega) (by simp); rw [List.drop_zero, List.nil_append] at this; exact this
theorem V6 : Ev (fun k => QQ.f k) true := Ev.of (fun k => QQ.mono k) (k := 40) (by decide +kernel)
end Go.Proofs.Ytdneelgnmnpanaa.P
end
section
namespace Go.Proofs.Det
variable {K : Type}
def sgn (f : List (K → Int) → Int) (j : K) : List (K → Int) → List (K → Int) → Int
  | _, [] => 0
  | pre, v :: post => v j * f (pre ++ post) - sgn f j (pre ++ [v]) post
def det : List K → List (K → Int) → Int
  | [], _ => 1
  | j :: J, I => sgn (det J) j [] I
def comb (a : Int) (u : K → Int) (b : Int) (v : K → Int) : K → Int := fun j => a * u j + b * v j
def Lin (n : Nat) (f : List (K → Int) → Int) : Prop := ∀ p q u v a b, p.length + q.length + 1 = n → f (p ++ comb a u b v :: q) = a * f (p ++ u :: q) + b * f (p ++ v :: q)
def Alt (n : Nat) (f : List (K → Int) → Int) : Prop := ∀ p q u, p.length + q.length + 2 = n → f (p ++ u :: u :: q) = 0
theorem VB {n : Nat} {f : List (K → Int) → Int} (h : Lin n f) (j : K) : ∀ (post p q : List (K → Int)) (u v : K → Int) (a b : Int), p.length + q.length + 1 + post.length = n + 1 → sgn f j (p ++ comb a u b v :: q) post = a * sgn f j (p ++ u :: q) post + b * sgn f j (p ++ v :: q) post
  | [], p, q, u, v, a, b, _ => by simp [sgn]
  | w :: post, p, q, u, v, a, b, e => by
    simp only [List.length_cons] at e; have ih := VB h j post p (q ++ [w]) u v a b (by simp; omega); have h1 := h p (q ++ post) u v a b (by simp; omega); simp only [sgn, List.append_assoc, List.cons_append]; rw [ih, h1]; grind
theorem sgn_lin {n : Nat} {f : List (K → Int) → Int} (h : Lin n f) (j : K) : ∀ (p pre q : List (K → Int)) (u v : K → Int) (a b : Int), pre.length + p.length + q.length + 1 = n + 1 → sgn f j pre (p ++ comb a u b v :: q) = a * sgn f j pre (p ++ u :: q) + b * sgn f j pre (p ++ v :: q)
  | [], pre, q, u, v, a, b, e => by
    have h1 := VB h j q pre [] u v a b (by simp at e ⊢; omega); simp only [List.nil_append, sgn]; rw [h1]; simp only [comb]; grind
  | w :: p, pre, q, u, v, a, b, e => by
    simp only [List.length_cons] at e; have ih := sgn_lin h j p (pre ++ [w]) q u v a b (by simp; omega); have h1 := h (pre ++ p) q u v a b (by simp; omega); simp only [List.append_assoc] at h1; simp only [List.cons_append, sgn]; rw [ih, h1]; grind
theorem YS : ∀ J : List K, Lin J.length (det J)
  | [] => fun p q u v a b e => by simp at e
  | j :: J => fun p q u v a b e => sgn_lin (YS J) j p [] q u v a b (by simp at e ⊢; omega)
theorem VC {n : Nat} {f : List (K → Int) → Int} (h : Alt n f) (j : K) : ∀ (post p q : List (K → Int)) (u : K → Int), p.length + q.length + 2 + post.length = n + 1 → sgn f j (p ++ u :: u :: q) post = 0
  | [], p, q, u, _ => rfl
  | w :: post, p, q, u, e => by
    simp only [List.length_cons] at e; have ih := VC h j post p (q ++ [w]) u (by simp; omega); have h1 := h p (q ++ post) u (by simp; omega); simp only [sgn, List.append_assoc, List.cons_append]; rw [ih, h1]; simp
theorem sgn_alt {n : Nat} {f : List (K → Int) → Int} (h : Alt n f) (j : K) : ∀ (p pre q : List (K → Int)) (u : K → Int), pre.length + p.length + q.length + 2 = n + 1 → sgn f j pre (p ++ u :: u :: q) = 0
  | [], pre, q, u, e => by
    have h1 := VC h j q pre [] u (by simp at e ⊢; omega); simp only [List.nil_append, sgn, List.append_assoc, List.singleton_append]; rw [h1]; omega
  | w :: p, pre, q, u, e => by
    simp only [List.length_cons] at e; have ih := sgn_alt h j p (pre ++ [w]) q u (by simp; omega); have h1 := h (pre ++ p) q u (by simp; omega); simp only [List.append_assoc] at h1; simp only [List.cons_append, sgn]; rw [ih, h1]; simp
theorem VS : ∀ J : List K, Alt J.length (det J)
  | [] => fun p q u e => by simp at e
  | j :: J => fun p q u e => sgn_alt (VS J) j p [] q u (by simp at e ⊢; omega)
theorem swap {n : Nat} {f : List (K → Int) → Int} (hl : Lin n f) (ha : Alt n f) (p q : List (K → Int)) (u v : K → Int) (e : p.length + q.length + 2 = n) : f (p ++ u :: v :: q) = - f (p ++ v :: u :: q) := by
  have h0 := ha p q (comb 1 u 1 v) e; have h1 := hl p (comb 1 u 1 v :: q) u v 1 1 (by simp; omega); have h2 := hl (p ++ [u]) q u v 1 1 (by simp; omega); have h3 := hl (p ++ [v]) q u v 1 1 (by simp; omega); have h4 := ha p q u e; have h5 := ha p q v e; simp only [List.append_assoc, List.singleton_append] at h2 h3; rw [h1, h2, h3, h4, h5] at h0; omega
theorem Vg {n : Nat} {f : List (K → Int) → Int} (hl : Lin n f) (ha : Alt n f) : ∀ (q p r : List (K → Int)) (u : K → Int), p.length + q.length + r.length + 2 = n → f (p ++ u :: (q ++ u :: r)) = 0
  | [], p, r, u, e => ha p r u (by simp at e; omega)
  | w :: q, p, r, u, e => by
    simp only [List.length_cons] at e; have h1 := swap hl ha p (q ++ u :: r) u w (by simp; omega); have ih := Vg hl ha q (p ++ [w]) r u (by simp; omega); simp only [List.append_assoc, List.singleton_append] at ih; rw [List.cons_append, h1, ih]; rfl
theorem zero_row {n : Nat} {f : List (K → Int) → Int} (hl : Lin n f) (p q : List (K → Int)) (e : p.length + q.length + 1 = n) : f (p ++ (fun _ => 0) :: q) = 0 := by
  have h := hl p q (fun _ => 0) (fun _ => 0) 0 0 e; rw [show comb 0 (fun _ => 0) 0 (fun _ => 0) = (fun _ : K => (0 : Int)) from by funext j; simp [comb]] at h; omega
inductive Gen (S : (K → Int) → Prop) : (K → Int) → Prop
  | base {v} : S v → Gen S v
  | zero : Gen S (fun _ => 0)
  | comb {u v} (a b : Int) : Gen S u → Gen S v → Gen S (comb a u b v)
  | quot {u v} (d : Int) : d ≠ 0 → Gen S u → (∀ j, u j = d * v j) → Gen S v
theorem UI {S S' : (K → Int) → Prop} (h : ∀ v, S v → Gen S' v) {v : K → Int} (hv : Gen S v) : Gen S' v := by
  induction hv with
  | base h1 => exact h _ h1
  | zero => exact .zero
  | comb a b _ _ h1 h2 => exact .comb a b h1 h2
  | quot d hd _ e h1 => exact .quot d hd h1 e
theorem Ub {S : (K → Int) → Prop} (g : (K → Int) → Int) (hg : ∀ a u b v, g (comb a u b v) = a * g u + b * g v) (h : ∀ v, S v → g v = 0) {v : K → Int} (hv : Gen S v) : g v = 0 := by
  have h0 : g (fun _ => 0) = 0 := by
    have := hg 0 (fun _ => 0) 0 (fun _ => 0); rw [show comb 0 (fun _ => 0) 0 (fun _ => 0) = (fun _ : K => (0 : Int)) from by funext j; simp [comb]] at this; omega
  induction hv with
  | base h1 => exact h _ h1
  | zero => exact h0
  | comb a b _ _ h1 h2 => rw [hg, h1, h2]; simp
  | @quot u v d hd _ e h1 =>
    have h2 : u = comb d v 0 v := by funext j; simp [comb, e j]
    rw [h2, hg] at h1; have : d * g v = 0 := by omega
    rcases Int.mul_eq_zero.1 this with h3 | h3
    · exact absurd h3 hd
    · exact h3
theorem Ua {n : Nat} {f : List (K → Int) → Int} (hl : Lin n f) {S : (K → Int) → Prop} (h : ∀ I : List (K → Int), I.length = n → (∀ v ∈ I, S v) → f I = 0) : ∀ (p q : List (K → Int)), p.length + q.length = n → (∀ v ∈ p, Gen S v) → (∀ v ∈ q, S v) → f (p ++ q) = 0 := by
  intro p; induction hp : p.length generalizing p with
  | zero =>
    intro q e _ hq; rw [List.eq_nil_of_length_eq_zero hp, List.nil_append]; exact h q (by omega) hq
  | succ k ih =>
    intro q e hpg hq; obtain ⟨p', w, rfl⟩ : ∃ p' w, p = p' ++ [w] := ⟨p.dropLast, p.getLast (by intro h0; rw [h0] at hp; simp at hp), (List.dropLast_concat_getLast _).symm⟩; have hk : p'.length = k := by simpa using hp
    rw [List.append_assoc, List.singleton_append]; refine Ub (S := S) (fun v => f (p' ++ v :: q)) (fun a u b v => hl p' q u v a b (by omega)) (fun v hv => ?_) (hpg w (by simp)); have := ih p' hk (v :: q) (by simp; omega) (fun x hx => hpg x (by simp [hx])) (fun x hx => by
      rcases List.mem_cons.1 hx with rfl | hx
      · exact hv
      · exact hq x hx)
    exact this
variable {K : Type}
def Van (r : Nat) (S : (K → Int) → Prop) : Prop := ∀ J : List K, J.length = r → ∀ I : List (K → Int), I.length = r → (∀ v ∈ I, S v) → det J I = 0
theorem van_gen {r : Nat} {S S' : (K → Int) → Prop} (h : Van r S) (hg : ∀ v, S' v → Gen S v) : Van r S' := by
  intro J hJ I hI hv; have hl := YS J; rw [hJ] at hl; have := Ua hl (S := S) (fun I hI hv => h J hJ I hI hv) I [] (by simpa using hI) (fun v hv' => hg v (hv v hv')) (by simp); simpa using this
theorem sgn_zero (f : List (K → Int) → Int) (j : K) : ∀ (post pre : List (K → Int)), (∀ v ∈ post, v j = 0) → sgn f j pre post = 0
  | [], _, _ => rfl
  | v :: post, pre, h => by
    rw [sgn, h v (List.mem_cons_self ..), sgn_zero f j post _ (fun u hu => h u (List.mem_cons_of_mem _ hu))]; simp
def Steps : List K → List (K → Int) → Prop
  | [], [] => True
  | j :: J, v :: R => v j ≠ 0 ∧ (∀ u ∈ R, u j = 0) ∧ Steps J R
  | _, _ => False
theorem Uy : ∀ (J : List K) (R : List (K → Int)), Steps J R → det J R ≠ 0
  | [], [], _ => by simp [det]
  | [], _ :: _, h => h.elim
  | _ :: _, [], h => h.elim
  | j :: J, v :: R, h => by
    obtain ⟨h1, h2, h3⟩ := h; rw [det, sgn, List.nil_append, List.nil_append, sgn_zero _ _ _ _ h2, Int.sub_zero]; exact Int.mul_ne_zero h1 (Uy J R h3)
theorem Yy : ∀ (r : Nat) (l : List Nat), l.Nodup → (∀ x ∈ l, x < r) → l.length ≤ r
  | 0, l, _, h => by
    cases l with
    | nil => simp
    | cons x t => have := h x (List.mem_cons_self ..); omega
  | r + 1, l, hn, h => by
    by_cases c : r ∈ l
    · have h1 := Yy r (l.erase r) (hn.erase r) (fun x hx => by
        have h2 := (hn.mem_erase_iff).1 hx; have := h x h2.2; have := h2.1; omega)
      rw [List.length_erase_of_mem c] at h1; omega
    · have := Yy r l hn (fun x hx => by
        have h1 := h x hx; have : x ≠ r := fun e => c (e ▸ hx)
        omega)
      omega
theorem Yf : ∀ (l : List Nat), ¬ l.Nodup → ∃ p a q s, l = p ++ a :: (q ++ a :: s)
  | [], h => (h List.nodup_nil).elim
  | x :: t, h => by
    by_cases c : x ∈ t
    · obtain ⟨q, s, e⟩ := List.append_of_mem c; exact ⟨[], x, q, s, by rw [e]; rfl⟩
    · obtain ⟨p, a, q, s, e⟩ := Yf t (fun hn => h (List.nodup_cons.2 ⟨c, hn⟩)); exact ⟨x :: p, a, q, s, by rw [e]; rfl⟩
theorem van_short (R : List (K → Int)) : Van (R.length + 1) (fun v => v ∈ R) := by
  intro J hJ I hI hv; obtain ⟨l, hl, hI2⟩ : ∃ l : List Nat, (∀ x ∈ l, x < R.length) ∧ I = l.map (fun x => R.getD x (fun _ => 0)) := by
    clear hI; induction I with
    | nil => exact ⟨[], by simp, rfl⟩
    | cons v I ih =>
      obtain ⟨l, h1, h2⟩ := ih (fun u hu => hv u (List.mem_cons_of_mem _ hu)); obtain ⟨n, hn, e⟩ := List.getElem_of_mem (hv v (List.mem_cons_self ..)); refine ⟨n :: l, fun x hx => ?_, ?_⟩
      · rcases List.mem_cons.1 hx with rfl | hx
        · exact hn
        · exact h1 x hx
      · rw [List.map_cons, ← h2, List.getD_eq_getElem?_getD, List.getElem?_eq_getElem hn, e]; rfl
  have hll : l.length = R.length + 1 := by rw [hI2] at hI; simpa using hI
  obtain ⟨p, a, q, s, e⟩ := Yf l (fun hn => by have := Yy R.length l hn hl; omega); rw [hI2, e]; simp only [List.map_append, List.map_cons]; have h1 := YS J; have h2 := VS J; rw [hJ] at h1 h2; refine Vg h1 h2 _ _ _ _ ?_; rw [e] at hll; simp at hll ⊢; omega
theorem van_up {r : Nat} {S : (K → Int) → Prop} (h : Van r S) : Van (r + 1) S := by
  intro J hJ I hI hv; match J, hJ with
  | j :: J, hJ =>
    have : ∀ (post pre : List (K → Int)), pre.length + post.length = r + 1 → (∀ v ∈ pre, S v) → (∀ v ∈ post, S v) → sgn (det J) j pre post = 0 := by
      intro post; induction post with
      | nil => intros; rfl
      | cons v post ih =>
        intro pre e h1 h2; rw [sgn, ih (pre ++ [v]) (by simp at e ⊢; omega) (fun u hu => by
          rcases List.mem_append.1 hu with hu | hu
          · exact h1 u hu
          · rw [List.mem_singleton.1 hu]; exact h2 v (List.mem_cons_self ..)) (fun u hu => h2 u (List.mem_cons_of_mem _ hu)),
          h J (by simpa using hJ) (pre ++ post) (by simp at e ⊢; omega) (fun u hu => by
          rcases List.mem_append.1 hu with hu | hu
          · exact h1 u hu
          · exact h2 u (List.mem_cons_of_mem _ hu))]
        simp
    exact this I [] (by simpa using hI) (by simp) hv
end Go.Proofs.Det
end
