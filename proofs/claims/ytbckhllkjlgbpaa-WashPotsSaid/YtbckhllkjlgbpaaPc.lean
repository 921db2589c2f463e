/- Ytbckhllkjlgbpaa: functions of the translation as Lean functions, with their contracts; written by a program of the session. -/
import Derived.Test.YtbckhllkjlgbpaaP0
import Derived.Test.YtbckhllkjlgbpaaPa
namespace Go.Proofs.Ytbckhllkjlgbpaa.P
open Go.RowKit Go.Proofs.YtbckhllkjlgbpaaW.PrintWords Go.Proofs.YtbckhllkjlgbpaaW.PrintLast Go.Proofs.YtbckhllkjlgbpaaW.PrintMore
attribute [local go_sem] max2_int min2_int max_two min_two max_three min_three max_four min_four   -- for this text's walks alone
set_option linter.unusedVariables false
set_option linter.unusedSimpArgs false

/-! ### wash_pour: function 83 -/
def wash_pour.l0 : Nat → List (S107) → List (S58) → Int → Int → Option ((List (S107)))
  | 0, _, _, _, _ => none
  | k + 1, x3, x6, x7, x8 => if x8 < x7 then (if 0 ≤ x8 then (if x8 < (x6.length : Int) then ((wash_ratio.f k ((rd_T58 x6 x8).f1) 1).bind fun bt103 => (if x3.length < 4398046511104 then (wash_pour.l0 k (x3 ++ [(⟨(⟨(rd_T58 x6 x8).f0, (rd_T58 x6 x8).f1⟩ : S58), (⟨bt103.1, bt103.2⟩ : S30)⟩ : S107)]) x6 x7 (wrap64 (x8 + 1))) else (none))) else (none)) else (none)) else (some x3)
def wash_pour.f (k : Nat) (l0 : List (S58)) : Option ((List (S107))) := wash_pour.l0 k ([] : List (S107)) l0 (l0.length : Int) 0
theorem wash_pour.mono_l : ∀ k, (∀ y0 y1 y2 y3, LeO (wash_pour.l0 k y0 y1 y2 y3) (wash_pour.l0 (k + 1) y0 y1 y2 y3))
  | 0 => fun _ _ _ _ r h => by simp [wash_pour.l0] at h
  | k + 1 => by
    have ih0 := wash_pour.mono_l k
    · intro y0 y1 y2 y3
      unfold wash_pour.l0
      repeat' first
      | (with_reducible exact ih0 _ _ _ _)
      | (with_reducible exact wash_ratio.mono _ _ _)
      | (with_reducible exact LeO.refl _)
      | (with_reducible exact LeO.none _)
      | (with_reducible refine LeO.ite ?_ ?_)
      | (with_reducible refine LeO.bind ?_ (fun _ => ?_))
      | exact ih0 _ _ _ _
      | exact wash_ratio.mono _ _ _
      | exact LeO.none _
      | refine LeO.ite ?_ ?_
      | refine LeO.bind ?_ (fun _ => ?_)
theorem wash_pour.mono : ∀ a0 k, LeO (wash_pour.f k a0) (wash_pour.f (k + 1) a0) := by
  intro a0 k
  have ih0 := wash_pour.mono_l k
  unfold wash_pour.f
  repeat' first
      | (with_reducible exact ih0 _ _ _ _)
      | (with_reducible exact wash_ratio.mono _ _ _)
      | (with_reducible exact LeO.refl _)
      | (with_reducible exact LeO.none _)
      | (with_reducible refine LeO.ite ?_ ?_)
      | (with_reducible refine LeO.bind ?_ (fun _ => ?_))
      | exact ih0 _ _ _ _
      | exact wash_ratio.mono _ _ _
      | exact LeO.none _
      | refine LeO.ite ?_ ?_
      | refine LeO.bind ?_ (fun _ => ?_)
def wash_pour.T5 : Bool × List (List Nat × List Nat) := (true, [([], []), ([], []), ([], []), ([2], [2]), ([3], [3]), ([1, 4], [1, 4]), ([5], [5]), ([0, 6, 4], [0, 6]), ([7, 7, 0, 1, 2, 3, 4, 5, 6, 7], [0, 7])])
def wash_pour.B5 : List Nat := [0, 0, 0, 4, 12, 30, 62, 127, 255]
theorem wash_pour.tab5 : rtab .any (opsOf Try.f83 5) = wash_pour.T5 := by kernel_rfl
theorem wash_pour.bits5 : waitsOk wash_pour.T5.2 wash_pour.B5 = true := by kernel_rfl
set_option maxHeartbeats 8000000 in
set_option maxRecDepth 100000 in
theorem wash_pour.calls (k : Nat) (A0 : Option Addr) (c0 : Nat) (l0 : List (S58)) (r : List (S107)) (w : World) (hr0 : Kd.C k58 w A0 l0.length l0) (hc0 : l0.length ≤ c0) (h : wash_pour.f k l0 = some r) :
    Calls Try.prog 83 #[.slice A0 l0.length c0] w fun e w' => ∃ v0_ : Value, e = .returned (v0_) ∧ Kd.R k107 107 w' w.heap.size (fun _ => True) v0_ r ∧ Below w.heap.size w w' := by
  have hu58 := Try.underlying58
  have hu107 := Try.underlying107
  have HR0 := Aside0.mk hr0
  have HC0 := Aside0.mk hc0
  clear hr0 hc0
  have HB := Aside0.mk (Below.refl w.heap.size w)
  have H : (wash_pour.l0 k ([] : List (S107)) l0 (l0.length : Int) 0) = some r := h
  clear h
  have H' := Aside0.mk H
  clear H
  go_enter Try.func83, Try.ntmps83
  go_wp2
  go_loopg [3, 8] k (fun kq v3 v8 w' => ∃ (x3_1 : List (S107)) (x8_1 : Int), v8 = .int .i64 x8_1 ∧ Aside0 (wash_pour.l0 kq x3_1 l0 (l0.length : Int) x8_1 = some r) ∧ Aside0 (kq ≤ k) ∧ Aside0 (Kd.R k107 107 w' w.heap.size (fun _ => True) v3 x3_1) ∧ Aside0 (Below w.heap.size w w'))
  case atStart => exact ⟨(([] : List (S107))), (0), (by first | rfl | (simp; done) | (simp [*]; done)), H', ⟨Nat.le_refl _⟩, ⟨by first | exact Kd.R_nil _ _ _ _ _ | exact Kd.N_nil _ _ _ _ _ | exact Kd.V_nil _ _ _ _ _ | exact Kd.Q_nil _ _ _ _ _ | exact Kd.S_nil _ _ _ _ _⟩, ⟨by repeat (first | (with_reducible first | exact HB.out | apply below_alloc | apply pw_below_drewN | apply below_drew1) | exact HB.out)⟩⟩
  case round =>
    clear H'
    obtain ⟨x3_1, x8_1, rfl, HA, HK1, HO_3, HB⟩ := hrel
    cases gk with
    | zero => exact absurd HA.out (by simp [wash_pour.l0])
    | succ k1 =>
      have H := HA.out
      clear HA
      simp only [wash_pour.l0] at H
      by_cases c2 : x8_1 < (l0.length : Int)
      · rw [if_pos c2] at H
        have c2b0 : decide (x8_1 < (l0.length : Int)) = true := decide_eq_true c2
        clear c2
        by_cases c3 : 0 ≤ x8_1
        · rw [if_pos c3] at H
          have c3b0 : decide (0 ≤ x8_1) = true := decide_eq_true c3
          clear c3
          by_cases c4 : x8_1 < (l0.length : Int)
          · rw [if_pos c4] at H
            have c4b0 : decide (x8_1 < (l0.length : Int)) = true := decide_eq_true c4
            clear c4
            replace H := Option.bind_eq_some_iff.mp H
            obtain ⟨⟨t103, t104⟩, A50, H⟩ := H
            replace H : (if x3_1.length < 4398046511104 then (wash_pour.l0 k1 (x3_1 ++ [(⟨(⟨(rd_T58 l0 x8_1).f0, (rd_T58 l0 x8_1).f1⟩ : S58), (⟨t103, t104⟩ : S30)⟩ : S107)]) l0 (l0.length : Int) (wrap64 (x8_1 + 1))) else (none)) = some r := H
            have A5 := Aside0.mk A50
            clear A50
            by_cases c6 : x3_1.length < 4398046511104
            · rw [if_pos c6] at H
              have LMc6 := Aside0.mk c6
              clear c6
              obtain ⟨y105, hy105⟩ : ∃ y_ : List (S107), y_ = (x3_1 ++ [(⟨(⟨(rd_T58 l0 x8_1).f0, (rd_T58 l0 x8_1).f1⟩ : S58), (⟨t103, t104⟩ : S30)⟩ : S107)]) := ⟨_, rfl⟩
              replace H : (wash_pour.l0 k1 y105 l0 (l0.length : Int) (wrap64 (x8_1 + 1))) = some r := by first | (rw [hy105]; with_reducible exact H) | (have H2_ := (Option.bind_some _ _).symm.trans H; rw [hy105]; with_reducible exact H2_) | (have H2_ := (Option.bind_some _ _).symm.trans H; with_reducible exact H2_) | with_reducible exact H | (rw [hy105]; exact H) | exact H
              have Ny105 := Aside0.mk hy105
              clear hy105
              have H' := Aside0.mk H
              clear H
              have p101 : 0 ≤ (x8_1 : Int) := of_decide_eq_true (by first | (with_reducible assumption) | assumption)
              have q101 : x8_1 < (l0.length : Int) := of_decide_eq_true (by first | (with_reducible assumption) | assumption)
              obtain ⟨ad101, e101, hx101_0, hx101_1⟩ := at_T58 HR0.out x8_1 p101 q101
              cases e101
              replace hx101_0 := (HB.out.cell (World.block_lt_of_cell? w _ hx101_0)).trans hx101_0
              replace hx101_1 := (HB.out.cell (World.block_lt_of_cell? w _ hx101_1)).trans hx101_1
              replace p101 := eq_true p101
              replace q101 := eq_true q101
              try go_wp2_with (first | ((with_reducible refine gate_dst (N := 5) rfl ?_); refine box_event ?hg (N := 5) ?hd (cs := #[.int .i64 0, .int .i64 0]) (t := 58) ?hr ?_; (case hd => rfl); (case hg => rfl); (case hr => first | (go_simp; done) | (go_simp; rfl)); intro gb102 hg w7 hbox hb; have n0_ := Aside0.mk (Kd.R_below (by (with_reducible repeat (first | apply Kd.R_alloc | apply Kd.R_drewN | apply Kd.R_drew)); exact HO_3.out) hb); have n1_ := Aside0.mk (below_step (by repeat (first | (with_reducible first | exact HB.out | apply below_alloc | apply pw_below_drewN | apply below_drew1) | exact HB.out)) hb); have n2_ := Aside0.mk (hbox); have n3_ := Aside0.mk ((by rw [hg]; exact (below_size (by repeat (first | (with_reducible first | exact HB.out | apply below_alloc | apply pw_below_drewN | apply below_drew1) | exact HB.out))) : w.heap.size ≤ gb102)); have n4_ := Aside0.mk ((by rw [hg]; exact (below_size (by repeat (first | (with_reducible first | exact HB.out | apply below_alloc | apply pw_below_drewN | apply below_drew1) | exact HB.out))) : w.heap.size ≤ gb102)); clear HO_3; clear HB; have HO_3 := n0_; have HB := n1_; have BK102 := n2_; have GW102 := n3_; have GE102 := n4_; clear n0_ n1_ n2_ n3_ n4_; clear hb hbox hg; have hcz8_0 : w7.cell? ⟨gb102, 0, none⟩ = some (.int .i64 0) := (blk_cell BK102.out 0).trans rfl; have hcz8_1 : w7.cell? ⟨gb102, 1, none⟩ = some (.int .i64 0) := (blk_cell BK102.out 1).trans rfl; have hfz8_0 := blk_frozen BK102.out 0; have hfz8_1 := blk_frozen BK102.out 1))
              have n0_ : Aside0 (Kd.R k107 107 ((w7.setCell ⟨gb102, 0, none⟩ (.int .i64 ((rd_T58 l0 x8_1).f0))).setCell ⟨gb102, 1, none⟩ (.int .i64 ((rd_T58 l0 x8_1).f1))) w.heap.size (fun _ => True) u3 x3_1) := ⟨by (with_reducible repeat (first | apply Kd.R_alloc | apply Kd.R_drewN | apply Kd.R_drew)); exact Kd.R_mono (Kd.R_far (p := ⟨gb102, 1, none⟩) (Kd.R_far (p := ⟨gb102, 0, none⟩) (Kd.R_types HO_3.out BK102.out (by decide)) (fun _ hk => hk.2) (.int .i64 ((rd_T58 l0 x8_1).f0))) (fun _ hk => hk.2) (.int .i64 ((rd_T58 l0 x8_1).f1))) (fun _ hk => trivial)⟩
              have n1_ : Aside0 (((w7.setCell ⟨gb102, 0, none⟩ (.int .i64 ((rd_T58 l0 x8_1).f0))).setCell ⟨gb102, 1, none⟩ (.int .i64 ((rd_T58 l0 x8_1).f1))).heap[gb102]? = some (.cells #[.int .i64 ((rd_T58 l0 x8_1).f0), .int .i64 ((rd_T58 l0 x8_1).f1)] 58 (0, 0))) := ⟨by (with_reducible repeat (first | refine blk_drewN ?_ _ | refine blk_drew ?_ | refine blk_alloc ?_ _)); refine blk_put (cs := #[.int .i64 ((rd_T58 l0 x8_1).f0), .int .i64 0]) ?_ 1 _ rfl; (with_reducible repeat (first | refine blk_drewN ?_ _ | refine blk_drew ?_ | refine blk_alloc ?_ _)); refine blk_put (cs := #[.int .i64 0, .int .i64 0]) ?_ 0 _ rfl; (with_reducible repeat (first | refine blk_drewN ?_ _ | refine blk_drew ?_ | refine blk_alloc ?_ _)); exact BK102.out⟩
              have n2_ : Aside0 (Below w.heap.size w ((w7.setCell ⟨gb102, 0, none⟩ (.int .i64 ((rd_T58 l0 x8_1).f0))).setCell ⟨gb102, 1, none⟩ (.int .i64 ((rd_T58 l0 x8_1).f1)))) := ⟨by repeat (first | (with_reducible first | exact HB.out | apply below_alloc | apply pw_below_drewN | apply below_drew1 | refine below_set ?_ GE102.out) | exact HB.out)⟩
              (try clear HO_3)
              (try clear BK102)
              (try clear HB)
              generalize ((w7.setCell ⟨gb102, 0, none⟩ (.int .i64 ((rd_T58 l0 x8_1).f0))).setCell ⟨gb102, 1, none⟩ (.int .i64 ((rd_T58 l0 x8_1).f1))) = w9 at n0_ n1_ n2_ ⊢
              have HO_3 := n0_
              have BK102 := n1_
              have HB := n2_
              clear n0_ n1_ n2_
              have n0_ := Aside0.mk (Kd.R_drew HO_3.out)
              have n1_ := Aside0.mk (blk_drew BK102.out)
              have n2_ := Aside0.mk (below_drew1 HB.out)
              clear HO_3
              clear BK102
              clear HB
              have HO_3 := n0_
              have BK102 := n1_
              have HB := n2_
              clear n0_ n1_ n2_
              refine start_ (n := 9) (S := fun w' => w'.cell? ⟨gb102, 0, none⟩ = some (.int .i64 ((rd_T58 l0 x8_1).f0)) ∧ w'.cell? ⟨gb102, 1, none⟩ = some (.int .i64 ((rd_T58 l0 x8_1).f1))) (ds := []) #[false, false, false, false, false, false, false, false, false] (by kernel_rfl) rfl rfl ⟨(blk_cell BK102.out 0).trans rfl, (blk_cell BK102.out 1).trans rfl⟩ (fun hHeld => ?_); refine with_tabW wash_pour.tab5 wash_pour.bits5 (fun HT_ HW_ => ?_)
              generalize w9.drew = w10 at HO_3 BK102 HB hHeld ⊢
              refine pure_ (i := 0) (N := some 12) (v := ?_) (a' := ?_) #[true, false, false, false, false, false, false, false, false] rfl rfl (any_of HT_.out (by kernel_rfl)) (fun _ _ _ h => h) (Or.inl ⟨by rfl, ?_⟩) ?_ ?_
              rotate_left
              · intro w'
                go_simp
                with_reducible rfl
              rotate_left
              · simp only [Act.put, List.setIfInBounds_toArray, List.set_cons_zero, List.set_cons_succ, i64_w, i32_w]
                rfl
              refine pure_ (i := 2) (N := some 14) (v := ?_) (a' := ?_) #[true, false, true, false, false, false, false, false, false] rfl rfl (any_of HT_.out (by kernel_rfl)) (fun _ _ _ h => h) (Or.inl ⟨by rfl, ?_⟩) ?_ ?_
              rotate_left
              · intro w'
                go_simp
                with_reducible rfl
              rotate_left
              · simp only [Act.put, List.setIfInBounds_toArray, List.set_cons_zero, List.set_cons_succ, i64_w, i32_w]
                rfl
              refine take_ (i := 1) (N := some 13) (v := ?_) (a' := ?_) #[true, true, true, false, false, false, false, false, false] rfl rfl (take_ofW HT_.out HW_.out (by kernel_rfl)) (fun _ _ _ h => h) (Or.inl ⟨by rfl, ?_⟩) hHeld ?_ ?_
              rotate_left
              · rintro w' ⟨s0, s1⟩
                go_simp
                with_reducible rfl
              rotate_left
              · simp only [Act.put, List.setIfInBounds_toArray, List.set_cons_zero, List.set_cons_succ, i64_w, i32_w]
                rfl
              refine take_ (i := 3) (N := some 15) (v := ?_) (a' := ?_) #[true, true, true, true, false, false, false, false, false] rfl rfl (take_ofW HT_.out HW_.out (by kernel_rfl)) (fun _ _ _ h => h) (Or.inl ⟨by rfl, ?_⟩) hHeld ?_ ?_
              rotate_left
              · rintro w' ⟨s0, s1⟩
                go_simp
                with_reducible rfl
              rotate_left
              · simp only [Act.put, List.setIfInBounds_toArray, List.set_cons_zero, List.set_cons_succ, i64_w, i32_w]
                rfl
              refine one_ (i := 4) (N := some 16) #[true, true, true, true, true, false, false, false, false] rfl rfl (one_of HT_.out (by kernel_rfl)) (by decide) (fun K hK => ?_)
              refine goes_ Try.func52 (by kernel_rfl) rfl #[.int .i64 ((rd_T58 l0 x8_1).f1), .int .i64 1] (by rfl) rfl rfl (by (try simp only [List.map_toArray, List.map_cons, List.map_nil]); first | done | rfl | (simp only [List.length_drop, List.length_take]; rfl)) ?_
              with_reducible refine (wash_ratio.calls k1 ((rd_T58 l0 x8_1).f1) 1 t103 t104 _ A5.out).mono ?_
              rintro e w11 ⟨rfl, hb⟩
              refine ⟨_, rfl, ?_⟩
              have n0_ := Aside0.mk (Kd.R_below (by (with_reducible repeat (first | apply Kd.R_alloc | apply Kd.R_drewN | apply Kd.R_drew)); exact HO_3.out) hb)
              have n1_ := Aside0.mk (blk_below (g := gb102) (o := .cells #[.int .i64 ((rd_T58 l0 x8_1).f0), .int .i64 ((rd_T58 l0 x8_1).f1)] 58 (0, 0)) (by (with_reducible repeat (first | refine blk_drewN ?_ _ | refine blk_drew ?_ | refine blk_alloc ?_ _)); exact BK102.out) hb)
              have n2_ := Aside0.mk (below_step (by repeat (first | (with_reducible first | exact HB.out | apply below_alloc | apply pw_below_drewN | apply below_drew1 | refine below_set ?_ GE102.out) | exact HB.out)) hb)
              clear HO_3
              clear BK102
              clear HB
              have HO_3 := n0_
              have BK102 := n1_
              have HB := n2_
              clear n0_ n1_ n2_
              (try clear hb)
              (try clear hb2)
              (try clear hk)
              (try clear hi)
              refine hK.out _ _ ⟨(blk_cell BK102.out 0).trans rfl, (blk_cell BK102.out 1).trans rfl⟩ (fun hHeld => ?_)
              clear hK K
              refine norm_ (a' := ?_) ?_ ?_
              rotate_left
              · show Act.put _ (some 16) _ = _
                simp only [Act.put, List.setIfInBounds_toArray, List.set_cons_zero, List.set_cons_succ, i64_w, i32_w]
                rfl
              refine pure_ (i := 5) (N := some 17) (v := ?_) (a' := ?_) #[true, true, true, true, true, true, false, false, false] rfl rfl (any_of HT_.out (by kernel_rfl)) (fun _ _ _ h => h) (Or.inl ⟨by rfl, ?_⟩) ?_ ?_
              rotate_left
              · intro w'
                go_simp
                with_reducible rfl
              rotate_left
              · simp only [Act.put, List.setIfInBounds_toArray, List.set_cons_zero, List.set_cons_succ, i64_w, i32_w]
                rfl
              refine one_ (i := 6) (N := some 18) #[true, true, true, true, true, true, true, false, false] rfl rfl (one_of HT_.out (by kernel_rfl)) (by decide) (fun K hK => ?_)
              refine value_ (w1 := ?_) (v := ?_) (by rfl) rfl ?_ ?_
              rotate_left 2
              · go_simp
                constructor
                · rfl
                · rfl
              refine hK.out _ _ ⟨(blk_cell (blk_alloc BK102.out _) 0).trans rfl, (blk_cell (blk_alloc BK102.out _) 1).trans rfl⟩ (fun hHeld => ?_)
              clear hK K
              refine norm_ (a' := ?_) ?_ ?_
              rotate_left
              · show Act.put _ (some 18) _ = _
                simp only [Act.put, List.setIfInBounds_toArray, List.set_cons_zero, List.set_cons_succ, i64_w, i32_w]
                rfl
              refine one_ (i := 7) (N := some 19) #[true, true, true, true, true, true, true, true, false] rfl rfl (one_of HT_.out (by kernel_rfl)) (by decide) (fun K hK => ?_)
              refine Kd.R_append_step k107 (w0 := w) w.heap.size (by rfl) (.tmp 12) (.tmp 18) 89 107 (.agg #[(.int .i64 0), (.int .i64 0), (.int .i64 0), (.int .i64 0)]) 32 rfl Try.underlying89 info107 rfl (by decide) (by omega) u3 x3_1 (⟨(⟨(rd_T58 l0 x8_1).f0, (rd_T58 l0 x8_1).f1⟩ : S58), (⟨t103, t104⟩ : S30)⟩ : S107) [.int .i64 ((rd_T58 l0 x8_1).f0), .int .i64 ((rd_T58 l0 x8_1).f1), .int .i64 t103, .int .i64 t104] (fun _ => True) (fun _ => False) rfl rfl ?aP (fun _ hk => hk.elim) ?aF ?aO ?aB ?aS ?aL ?_
              (case aP => exact k107_mkM _ _ _ (⟨(⟨(rd_T58 l0 x8_1).f0, (rd_T58 l0 x8_1).f1⟩ : S58), (⟨t103, t104⟩ : S30)⟩ : S107))
              (case aB => exact (by repeat (first | (with_reducible first | exact HB.out | apply below_alloc | apply pw_below_drewN | apply below_drew1 | refine below_set ?_ GE102.out) | exact HB.out)))
              (case aF => exact (fun _ _ => trivial))
              (case aO => exact (by (with_reducible repeat (first | apply Kd.R_alloc | apply Kd.R_drewN | apply Kd.R_drew)); exact HO_3.out))
              (case aS => exact (below_size (by repeat (first | (with_reducible first | exact HB.out | apply below_alloc | apply pw_below_drewN | apply below_drew1 | refine below_set ?_ GE102.out) | exact HB.out))))
              (case aL => have := LMc6.out; omega)
              intro v106 w12 ho hb hg hat
              rw [← Ny105.out] at ho
              have n0_ := Aside0.mk (blk_grown (g := gb102) (o := .cells #[.int .i64 ((rd_T58 l0 x8_1).f0), .int .i64 ((rd_T58 l0 x8_1).f1)] 58 (0, 0)) (by (with_reducible repeat (first | refine blk_drewN ?_ _ | refine blk_drew ?_ | refine blk_alloc ?_ _)); exact BK102.out) hg (Kd.R_ne HO_3.out BK102.out (by decide)))
              have n1_ := Aside0.mk (hb)
              have n2_ := Aside0.mk (ho)
              clear BK102
              clear HB
              clear HO_3
              have BK102 := n0_
              have HB := n1_
              have HO107 := n2_
              clear n0_ n1_ n2_
              clear ho hb hg hat
              refine hK.out _ _ ⟨(blk_cell BK102.out 0).trans rfl, (blk_cell BK102.out 1).trans rfl⟩ (fun hHeld => ?_)
              clear hK K
              refine norm_ (a' := ?_) ?_ ?_
              rotate_left
              · show Act.put _ (some 19) _ = _
                simp only [Act.put, List.setIfInBounds_toArray, List.set_cons_zero, List.set_cons_succ, i64_w, i32_w]
                rfl
              refine pure_ (i := 8) (N := some 3) (v := ?_) (a' := ?_) #[true, true, true, true, true, true, true, true, true] rfl rfl (any_of HT_.out (by kernel_rfl)) (fun _ _ _ h => h) (Or.inl ⟨by rfl, ?_⟩) ?_ ?_
              rotate_left
              · intro w'
                go_simp
                with_reducible rfl
              rotate_left
              · simp only [Act.put, List.setIfInBounds_toArray, List.set_cons_zero, List.set_cons_succ, i64_w, i32_w]
                rfl
              refine done_ (done_of HT_.out (by kernel_rfl)) ?_
              try go_wp2
              go_roundg k1
              case measure => have := HK1.out; omega
              case rel => exact ⟨(y105), (wrap64 (x8_1 + 1)), (by first | rfl | (simp; done) | (simp [*]; done)), H', ⟨by have := HK1.out; omega⟩, ⟨by (with_reducible repeat (first | apply Kd.R_alloc | apply Kd.R_drewN | apply Kd.R_drew)); exact HO107.out⟩, ⟨by repeat (first | (with_reducible first | exact HB.out | apply below_alloc | apply pw_below_drewN | apply below_drew1 | refine below_set ?_ GE102.out) | exact HB.out)⟩⟩
            · rw [if_neg c6] at H
              exact absurd H (by simp)
          · rw [if_neg c4] at H
            exact absurd H (by simp)
        · rw [if_neg c3] at H
          exact absurd H (by simp)
      · rw [if_neg c2] at H
        have c2b0 : decide (x8_1 < (l0.length : Int)) = false := decide_eq_false c2
        clear c2
        obtain rfl := Option.some.inj H
        go_wp2
        go_ret
        exact ⟨_, by first | rfl | (simp [errW_none, errW_some] <;> rfl) | (simp [*, errW_none, errW_some] <;> rfl), by (with_reducible repeat (first | apply Kd.R_alloc | apply Kd.R_drewN | apply Kd.R_drew)); exact HO_3.out, by repeat (first | (with_reducible first | exact HB.out | apply below_alloc | apply pw_below_drewN | apply below_drew1) | exact HB.out)⟩

/-! ### wash_settle: function 84 -/
def wash_settle.l0 : Nat → List (S107) → Int → Int → List (S30) → Int → Int → Option ((List (S30)) × (List (S107)))
  | 0, _, _, _, _, _, _ => none
  | k + 1, x0, x1, x2, x7, x12, x13 => if x13 < x12 then (if 0 ≤ x13 then (if x13 < (x0.length : Int) then ((wash_ratio.f k (wrap64 (((rd_T107 x0 x13).f1.f0) * (mn (wrap64 (((rd_T107 x0 x13).f0.f0) * x1)) x2))) (wrap64 (((rd_T107 x0 x13).f1.f1) * x2))).bind fun bt103 => (if x7.length < 8796093022208 then ((wash_ratio.f k (wrap64 (((rd_T107 x0 x13).f1.f0) * (wrap64 (x2 - (mn (wrap64 (((rd_T107 x0 x13).f0.f0) * x1)) x2))))) (wrap64 (((rd_T107 x0 x13).f1.f1) * x2))).bind fun bt108 => (wash_settle.l0 k (x0.set (x13 : Int).toNat (⟨(⟨(rd_T107 x0 x13).f0.f0, (rd_T107 x0 x13).f0.f1⟩ : S58), (⟨bt108.1, bt108.2⟩ : S30)⟩ : S107)) x1 x2 (x7 ++ [(⟨bt103.1, bt103.2⟩ : S30)]) x12 (wrap64 (x13 + 1)))) else (none))) else (none)) else (none)) else (some (x7, x0))
def wash_settle.f (k : Nat) (l0 : List (S107)) (a1 : Int) (a2 : Int) : Option ((List (S30)) × (List (S107))) := wash_settle.l0 k l0 a1 a2 ([] : List (S30)) (l0.length : Int) 0
theorem wash_settle.mono_l : ∀ k, (∀ y0 y1 y2 y3 y4 y5, LeO (wash_settle.l0 k y0 y1 y2 y3 y4 y5) (wash_settle.l0 (k + 1) y0 y1 y2 y3 y4 y5))
  | 0 => fun _ _ _ _ _ _ r h => by simp [wash_settle.l0] at h
  | k + 1 => by
    have ih0 := wash_settle.mono_l k
    · intro y0 y1 y2 y3 y4 y5
      unfold wash_settle.l0
      repeat' first
      | (with_reducible exact ih0 _ _ _ _ _ _)
      | (with_reducible exact wash_ratio.mono _ _ _)
      | (with_reducible exact LeO.refl _)
      | (with_reducible exact LeO.none _)
      | (with_reducible refine LeO.ite ?_ ?_)
      | (with_reducible refine LeO.bind ?_ (fun _ => ?_))
      | exact ih0 _ _ _ _ _ _
      | exact wash_ratio.mono _ _ _
      | exact LeO.none _
      | refine LeO.ite ?_ ?_
      | refine LeO.bind ?_ (fun _ => ?_)
theorem wash_settle.mono : ∀ a0 a1 a2 k, LeO (wash_settle.f k a0 a1 a2) (wash_settle.f (k + 1) a0 a1 a2) := by
  intro a0 a1 a2 k
  have ih0 := wash_settle.mono_l k
  unfold wash_settle.f
  repeat' first
      | (with_reducible exact ih0 _ _ _ _ _ _)
      | (with_reducible exact wash_ratio.mono _ _ _)
      | (with_reducible exact LeO.refl _)
      | (with_reducible exact LeO.none _)
      | (with_reducible refine LeO.ite ?_ ?_)
      | (with_reducible refine LeO.bind ?_ (fun _ => ?_))
      | exact ih0 _ _ _ _ _ _
      | exact wash_ratio.mono _ _ _
      | exact LeO.none _
      | refine LeO.ite ?_ ?_
      | refine LeO.bind ?_ (fun _ => ?_)
set_option maxHeartbeats 8000000 in
set_option maxRecDepth 100000 in
theorem wash_settle.calls (k : Nat) (P0_ : Nat → Prop) (u9000_ : Value) (l0 : List (S107)) (a1 : Int) (a2 : Int) (r1 : List (S30)) (r2 : List (S107)) (w0 w : World) (hB : Below w0.heap.size w0 w) (ho0 : Kd.R k107 107 w w0.heap.size P0_ u9000_ l0) (h : wash_settle.f k l0 a1 a2 = some (r1, r2)) :
    Calls Try.prog 84 #[u9000_, .int .i64 a1, .int .i64 a2] w fun e w' => ∃ v0_ : Value, e = .returned (v0_) ∧ Kd.R k30 30 w' w0.heap.size (fun k_ => (P0_ k_ ∨ w.heap.size ≤ k_)) v0_ r1 ∧ Kd.R k107 107 w' w0.heap.size (fun k_ => (P0_ k_ ∨ w.heap.size ≤ k_)) u9000_ r2 ∧ Below w0.heap.size w0 w' ∧ Kept w w' (fun k_ => P0_ k_) := by
  have hu107 := Try.underlying107
  have hu30 := Try.underlying30
  have HO0 := Aside0.mk (show Kd.R k107 107 w w0.heap.size (fun k_ => (P0_ k_ ∨ w.heap.size ≤ k_)) u9000_ l0 from Kd.R_mono ho0 (fun k_ hk => (.inl hk)))
  have HK := Aside0.mk (Kept.refl w (fun k_ => P0_ k_))
  have HW0 := Aside0.mk hB.size
  have HB := Aside0.mk hB
  clear hB
  have H : (wash_settle.l0 k l0 a1 a2 ([] : List (S30)) (l0.length : Int) 0) = some (r1, r2) := h
  clear h
  have H' := Aside0.mk H
  clear H
  obtain ⟨Ao4, co4, eo4⟩ := Kd.R_slice HO0.out
  subst eo4
  go_enter Try.func84, Try.ntmps84
  go_wp2
  go_loopg [7, 13] k (fun kq v7 v13 w' => ∃ (x0_1 : List (S107)) (x7_1 : List (S30)) (x13_1 : Int), v13 = .int .i64 x13_1 ∧ Aside0 (wash_settle.l0 kq x0_1 a1 a2 x7_1 (l0.length : Int) x13_1 = some (r1, r2)) ∧ Aside0 (kq ≤ k) ∧ Aside0 (Kd.R k107 107 w' w0.heap.size (fun k_ => (P0_ k_ ∨ w.heap.size ≤ k_)) (.slice Ao4 l0.length co4) x0_1) ∧ Aside0 (Kd.R k30 30 w' w0.heap.size (fun k_ => (P0_ k_ ∨ w.heap.size ≤ k_)) v7 x7_1) ∧ Aside0 (Kept w w' (fun k_ => P0_ k_)) ∧ Aside0 (Below w0.heap.size w0 w'))
  case atStart => exact ⟨(l0), (([] : List (S30))), (0), (by first | rfl | (simp; done) | (simp [*]; done)), H', ⟨Nat.le_refl _⟩, ⟨by (with_reducible repeat (first | apply Kd.R_alloc | apply Kd.R_drewN | apply Kd.R_drew)); exact HO0.out⟩, ⟨by first | exact Kd.R_nil _ _ _ _ _ | exact Kd.N_nil _ _ _ _ _ | exact Kd.V_nil _ _ _ _ _ | exact Kd.Q_nil _ _ _ _ _ | exact Kd.S_nil _ _ _ _ _⟩, ⟨by repeat (first | (with_reducible first | exact HK.out | apply Kept.alloc | apply Kept.drewN | apply Kept.drew) | exact HK.out)⟩, ⟨by repeat (first | (with_reducible first | exact HB.out | apply below_alloc | apply pw_below_drewN | apply below_drew1) | exact HB.out)⟩⟩
  case round =>
    clear H'
    try clear p2
    obtain ⟨x0_1, x7_1, x13_1, rfl, HA, HK1, HO_0, HO_7, HK, HB⟩ := hrel
    have hl0_1 := (Kd.R_reads' HO_0.out).1
    rw [hl0_1] at HO_0
    (try simp only [hl0_1])
    (try simp only [hl0_1] at HO_7)
    cases gk with
    | zero => exact absurd HA.out (by simp [wash_settle.l0])
    | succ k1 =>
      have H := HA.out
      clear HA
      simp only [wash_settle.l0] at H
      by_cases c5 : x13_1 < (l0.length : Int)
      · rw [if_pos c5] at H
        have c5b0 : decide (x13_1 < (l0.length : Int)) = true := decide_eq_true c5
        clear c5
        by_cases c6 : 0 ≤ x13_1
        · rw [if_pos c6] at H
          have c6b0 : decide (0 ≤ x13_1) = true := decide_eq_true c6
          clear c6
          by_cases c7 : x13_1 < (x0_1.length : Int)
          · rw [if_pos c7] at H
            have c7b0 : decide (x13_1 < (x0_1.length : Int)) = true := decide_eq_true c7
            clear c7
            obtain ⟨ji8, hji8⟩ : ∃ j_ : Int, (mn (wrap64 (((rd_T107 x0_1 x13_1).f0.f0) * a1)) a2) = j_ := ⟨_, rfl⟩
            replace H : ((wash_ratio.f k1 (wrap64 (((rd_T107 x0_1 x13_1).f1.f0) * (ji8))) (wrap64 (((rd_T107 x0_1 x13_1).f1.f1) * a2))).bind fun bt103 => (if x7_1.length < 8796093022208 then ((wash_ratio.f k1 (wrap64 (((rd_T107 x0_1 x13_1).f1.f0) * (wrap64 (a2 - (ji8))))) (wrap64 (((rd_T107 x0_1 x13_1).f1.f1) * a2))).bind fun bt108 => (wash_settle.l0 k1 (x0_1.set (x13_1 : Int).toNat (⟨(⟨(rd_T107 x0_1 x13_1).f0.f0, (rd_T107 x0_1 x13_1).f0.f1⟩ : S58), (⟨bt108.1, bt108.2⟩ : S30)⟩ : S107)) a1 a2 (x7_1 ++ [(⟨bt103.1, bt103.2⟩ : S30)]) (l0.length : Int) (wrap64 (x13_1 + 1)))) else (none))) = some (r1, r2) := by first | (rw [hji8] at H; exact H) | (simp only [hji8] at H ⊢; exact H)
            have hji8_ : (if a2 < (wrap64 (((rd_T107 x0_1 x13_1).f0.f0) * a1)) then a2 else (wrap64 (((rd_T107 x0_1 x13_1).f0.f0) * a1))) = ji8 := hji8
            replace H := Option.bind_eq_some_iff.mp H
            obtain ⟨⟨t103, t104⟩, A90, H⟩ := H
            replace H : (if x7_1.length < 8796093022208 then ((wash_ratio.f k1 (wrap64 (((rd_T107 x0_1 x13_1).f1.f0) * (wrap64 (a2 - (ji8))))) (wrap64 (((rd_T107 x0_1 x13_1).f1.f1) * a2))).bind fun bt108 => (wash_settle.l0 k1 (x0_1.set (x13_1 : Int).toNat (⟨(⟨(rd_T107 x0_1 x13_1).f0.f0, (rd_T107 x0_1 x13_1).f0.f1⟩ : S58), (⟨bt108.1, bt108.2⟩ : S30)⟩ : S107)) a1 a2 (x7_1 ++ [(⟨t103, t104⟩ : S30)]) (l0.length : Int) (wrap64 (x13_1 + 1)))) else (none)) = some (r1, r2) := H
            have A9 := Aside0.mk A90
            clear A90
            by_cases c10 : x7_1.length < 8796093022208
            · rw [if_pos c10] at H
              have LMc10 := Aside0.mk c10
              clear c10
              obtain ⟨y105, hy105⟩ : ∃ y_ : List (S30), y_ = (x7_1 ++ [(⟨t103, t104⟩ : S30)]) := ⟨_, rfl⟩
              replace H : ((wash_ratio.f k1 (wrap64 (((rd_T107 x0_1 x13_1).f1.f0) * (wrap64 (a2 - (ji8))))) (wrap64 (((rd_T107 x0_1 x13_1).f1.f1) * a2))).bind fun bt108 => (wash_settle.l0 k1 (x0_1.set (x13_1 : Int).toNat (⟨(⟨(rd_T107 x0_1 x13_1).f0.f0, (rd_T107 x0_1 x13_1).f0.f1⟩ : S58), (⟨bt108.1, bt108.2⟩ : S30)⟩ : S107)) a1 a2 y105 (l0.length : Int) (wrap64 (x13_1 + 1)))) = some (r1, r2) := by first | (rw [hy105]; with_reducible exact H) | (have H2_ := (Option.bind_some _ _).symm.trans H; rw [hy105]; with_reducible exact H2_) | (have H2_ := (Option.bind_some _ _).symm.trans H; with_reducible exact H2_) | with_reducible exact H | (rw [hy105]; exact H) | exact H
              have Ny105 := Aside0.mk hy105
              clear hy105
              replace H := Option.bind_eq_some_iff.mp H
              obtain ⟨⟨t108, t109⟩, A110, H⟩ := H
              replace H : (wash_settle.l0 k1 (x0_1.set (x13_1 : Int).toNat (⟨(⟨(rd_T107 x0_1 x13_1).f0.f0, (rd_T107 x0_1 x13_1).f0.f1⟩ : S58), (⟨t108, t109⟩ : S30)⟩ : S107)) a1 a2 y105 (l0.length : Int) (wrap64 (x13_1 + 1))) = some (r1, r2) := H
              have A11 := Aside0.mk A110
              clear A110
              obtain ⟨y110, hy110⟩ : ∃ y_ : List (S107), y_ = (x0_1.set (x13_1 : Int).toNat (⟨(⟨(rd_T107 x0_1 x13_1).f0.f0, (rd_T107 x0_1 x13_1).f0.f1⟩ : S58), (⟨t108, t109⟩ : S30)⟩ : S107)) := ⟨_, rfl⟩
              replace H : (wash_settle.l0 k1 y110 a1 a2 y105 (l0.length : Int) (wrap64 (x13_1 + 1))) = some (r1, r2) := by first | (rw [hy110]; with_reducible exact H) | (have H2_ := (Option.bind_some _ _).symm.trans H; rw [hy110]; with_reducible exact H2_) | (have H2_ := (Option.bind_some _ _).symm.trans H; with_reducible exact H2_) | with_reducible exact H | (rw [hy110]; exact H) | exact H
              have Ny110 := Aside0.mk hy110
              clear hy110
              have H' := Aside0.mk H
              clear H
              have p101 : 0 ≤ (x13_1 : Int) := of_decide_eq_true (by first | (with_reducible assumption) | assumption)
              have q101 : x13_1 < (x0_1.length : Int) := of_decide_eq_true (by first | (with_reducible assumption) | assumption)
              obtain ⟨ad101, e101, hx101_0, hx101_1, hx101_2, hx101_3⟩ := at_T107 (Kd.R_reads' HO_0.out).2.2 x13_1 p101 q101
              cases e101
              replace p101 := eq_true p101
              replace q101 := eq_true q101
              go_wp2_with (first | ((with_reducible refine gate_dst (N := 9) rfl ?_); refine box_event ?hg (N := 9) ?hd (cs := #[.int .i64 0, .int .i64 0, .int .i64 0, .int .i64 0]) (t := 107) ?hr ?_; (case hd => rfl); (case hg => rfl); (case hr => first | (go_simp; done) | (go_simp; rfl)); intro gb102 hg w13 hbox hb; have n0_ := Aside0.mk (Kd.R_below (Kd.R_elderB (by (with_reducible repeat (first | apply Kd.R_alloc | apply Kd.R_drewN | apply Kd.R_drew)); exact HO_0.out) gb102 (Nat.le_of_eq hg.symm)) hb); have n1_ := Aside0.mk (Kd.R_below (by (with_reducible repeat (first | apply Kd.R_alloc | apply Kd.R_drewN | apply Kd.R_drew)); exact HO_7.out) hb); have n2_ := Aside0.mk (Kept.below (S := (fun k_ => P0_ k_)) (by repeat (first | (with_reducible first | exact HK.out | apply Kept.alloc | apply Kept.drewN | apply Kept.drew) | exact HK.out)) hb); have n3_ := Aside0.mk (below_step (by repeat (first | (with_reducible first | exact HB.out | apply below_alloc | apply pw_below_drewN | apply below_drew1) | exact HB.out)) hb); have n4_ := Aside0.mk (hbox); have n5_ := Aside0.mk ((by rw [hg]; exact (by first | exact HK.out.1 | exact (show Kept w _ (fun k_ => P0_ k_) from by repeat (first | (with_reducible first | exact HK.out | apply Kept.alloc | apply Kept.drewN | apply Kept.drew) | exact HK.out)).1) : w.heap.size ≤ gb102)); have n6_ := Aside0.mk ((by rw [hg]; exact (below_size (by repeat (first | (with_reducible first | exact HB.out | apply below_alloc | apply pw_below_drewN | apply below_drew1) | exact HB.out))) : w0.heap.size ≤ gb102)); clear HO_0; clear HO_7; clear HK; clear HB; have HO_0 := n0_; have HO_7 := n1_; have HK := n2_; have HB := n3_; have BK102 := n4_; have GW102 := n5_; have GE102 := n6_; clear n0_ n1_ n2_ n3_ n4_ n5_ n6_; clear hb hbox hg; have hcz14_0 : w13.cell? ⟨gb102, 0, none⟩ = some (.int .i64 0) := (blk_cell BK102.out 0).trans rfl; have hcz14_1 : w13.cell? ⟨gb102, 1, none⟩ = some (.int .i64 0) := (blk_cell BK102.out 1).trans rfl; have hcz14_2 : w13.cell? ⟨gb102, 2, none⟩ = some (.int .i64 0) := (blk_cell BK102.out 2).trans rfl; have hcz14_3 : w13.cell? ⟨gb102, 3, none⟩ = some (.int .i64 0) := (blk_cell BK102.out 3).trans rfl; have hfz14_0 := blk_frozen BK102.out 0; have hfz14_1 := blk_frozen BK102.out 1; have hfz14_2 := blk_frozen BK102.out 2; have hfz14_3 := blk_frozen BK102.out 3) | ((with_reducible refine gate_callee (f := 52) rfl ?_); refine goesL_ (some 36) rfl rfl Try.func52 (by kernel_rfl) rfl #[.int .i64 (wrap64 (((rd_T107 x0_1 x13_1).f1.f0) * (ji8))), .int .i64 (wrap64 (((rd_T107 x0_1 x13_1).f1.f1) * a2))] rfl (by (try simp only [List.map_toArray, List.map_cons, List.map_nil]); first | done | (simp only [hji8]; rfl) | rfl | (simp only [List.length_drop, List.length_take]; rfl)) ?_; (with_reducible refine (wash_ratio.calls k1 (wrap64 (((rd_T107 x0_1 x13_1).f1.f0) * (ji8))) (wrap64 (((rd_T107 x0_1 x13_1).f1.f1) * a2)) t103 t104 _ A9.out).mono ?_); rintro e w15 ⟨rfl, hb⟩; refine ⟨_, rfl, ?_⟩; have n0_ := Aside0.mk (Kd.R_below (by (with_reducible repeat (first | apply Kd.R_alloc | apply Kd.R_drewN | apply Kd.R_drew)); exact (Kd.R_mono (Kd.R_far (p := ⟨gb102, 3, none⟩) (Kd.R_far (p := ⟨gb102, 2, none⟩) (Kd.R_far (p := ⟨gb102, 1, none⟩) (Kd.R_far (p := ⟨gb102, 0, none⟩) (Kd.R_mono HO_0.out (fun k_ hk => (⟨hk, hk.2⟩ : _ ∧ k_ ≠ gb102))) (fun _ hk => hk.2) (.int .i64 ((rd_T107 x0_1 x13_1).f0.f0))) (fun _ hk => hk.2) (.int .i64 ((rd_T107 x0_1 x13_1).f0.f1))) (fun _ hk => hk.2) (.int .i64 ((rd_T107 x0_1 x13_1).f1.f0))) (fun _ hk => hk.2) (.int .i64 ((rd_T107 x0_1 x13_1).f1.f1))) (fun _ h_ => h_.1))) hb); have n1_ := Aside0.mk (Kd.R_below (by (with_reducible repeat (first | apply Kd.R_alloc | apply Kd.R_drewN | apply Kd.R_drew)); exact (Kd.R_mono (Kd.R_far (p := ⟨gb102, 3, none⟩) (Kd.R_far (p := ⟨gb102, 2, none⟩) (Kd.R_far (p := ⟨gb102, 1, none⟩) (Kd.R_far (p := ⟨gb102, 0, none⟩) (Kd.R_types HO_7.out BK102.out (by decide)) (fun _ hk => hk.2) (.int .i64 ((rd_T107 x0_1 x13_1).f0.f0))) (fun _ hk => hk.2) (.int .i64 ((rd_T107 x0_1 x13_1).f0.f1))) (fun _ hk => hk.2) (.int .i64 ((rd_T107 x0_1 x13_1).f1.f0))) (fun _ hk => hk.2) (.int .i64 ((rd_T107 x0_1 x13_1).f1.f1))) (fun _ h_ => h_.1))) hb); have n2_ := Aside0.mk (blk_below (g := gb102) (o := .cells #[.int .i64 ((rd_T107 x0_1 x13_1).f0.f0), .int .i64 ((rd_T107 x0_1 x13_1).f0.f1), .int .i64 ((rd_T107 x0_1 x13_1).f1.f0), .int .i64 ((rd_T107 x0_1 x13_1).f1.f1)] 107 (0, 0)) (by (with_reducible repeat (first | refine blk_drewN ?_ _ | refine blk_drew ?_ | refine blk_alloc ?_ _)); refine blk_put (cs := #[.int .i64 ((rd_T107 x0_1 x13_1).f0.f0), .int .i64 ((rd_T107 x0_1 x13_1).f0.f1), .int .i64 ((rd_T107 x0_1 x13_1).f1.f0), .int .i64 0]) ?_ 3 _ rfl; (with_reducible repeat (first | refine blk_drewN ?_ _ | refine blk_drew ?_ | refine blk_alloc ?_ _)); refine blk_put (cs := #[.int .i64 ((rd_T107 x0_1 x13_1).f0.f0), .int .i64 ((rd_T107 x0_1 x13_1).f0.f1), .int .i64 0, .int .i64 0]) ?_ 2 _ rfl; (with_reducible repeat (first | refine blk_drewN ?_ _ | refine blk_drew ?_ | refine blk_alloc ?_ _)); refine blk_put (cs := #[.int .i64 ((rd_T107 x0_1 x13_1).f0.f0), .int .i64 0, .int .i64 0, .int .i64 0]) ?_ 1 _ rfl; (with_reducible repeat (first | refine blk_drewN ?_ _ | refine blk_drew ?_ | refine blk_alloc ?_ _)); refine blk_put (cs := #[.int .i64 0, .int .i64 0, .int .i64 0, .int .i64 0]) ?_ 0 _ rfl; (with_reducible repeat (first | refine blk_drewN ?_ _ | refine blk_drew ?_ | refine blk_alloc ?_ _)); exact BK102.out) hb); have n3_ := Aside0.mk (Kept.below (S := (fun k_ => P0_ k_)) (by repeat (first | (with_reducible first | exact HK.out | apply Kept.alloc | apply Kept.drewN | apply Kept.drew | refine Kept.setCell ?_ (.inr GW102.out) _) | exact HK.out)) hb); have n4_ := Aside0.mk (below_step (by repeat (first | (with_reducible first | exact HB.out | apply below_alloc | apply pw_below_drewN | apply below_drew1 | refine below_set ?_ GE102.out) | exact HB.out)) hb); clear HO_0; clear HO_7; clear BK102; clear HK; clear HB; have HO_0 := n0_; have HO_7 := n1_; have BK102 := n2_; have HK := n3_; have HB := n4_; clear n0_ n1_ n2_ n3_ n4_; (try clear hb); (try clear hb2); (try clear hk); (try clear hi)) | ((with_reducible refine gate_builtin (b := .append) (xs := #[.tmp 25, .tmp 37]) rfl ?_); at_builtin; refine Kd.R_append k30 (w0 := w0) w0.heap.size rfl (.tmp 25) (.tmp 37) 50 30 (.agg #[(.int .i64 0), (.int .i64 0)]) 16 rfl Try.underlying50 info30 rfl (by decide) (by omega) u7 x7_1 (⟨t103, t104⟩ : S30) [.int .i64 t103, .int .i64 t104] (fun k_ => (P0_ k_ ∨ w.heap.size ≤ k_)) (fun _ => False) rfl rfl ?aP (fun _ hk => hk.elim) ?aF ?aO ?aB ?aS ?aL ?_; (case aP => exact k30_mkM _ _ _ (⟨t103, t104⟩ : S30)); (case aB => exact (by repeat (first | (with_reducible first | exact HB.out | apply below_alloc | apply pw_below_drewN | apply below_drew1 | refine below_set ?_ GE102.out) | exact HB.out))); (case aF => exact (fun k_ hk => (.inr (Nat.le_trans (by first | exact HK.out.1 | exact (show Kept w _ (fun k_ => P0_ k_) from by repeat (first | (with_reducible first | exact HK.out | apply Kept.alloc | apply Kept.drewN | apply Kept.drew | refine Kept.setCell ?_ (.inr GW102.out) _) | exact HK.out)).1) hk)))); (case aO => exact (by (with_reducible repeat (first | apply Kd.R_alloc | apply Kd.R_drewN | apply Kd.R_drew)); exact HO_7.out)); (case aS => exact (below_size (by repeat (first | (with_reducible first | exact HB.out | apply below_alloc | apply pw_below_drewN | apply below_drew1 | refine below_set ?_ GE102.out) | exact HB.out)))); (case aL => have := LMc10.out; omega); intro v106 w16 ho hb hg hat; rw [← Ny105.out] at ho; have n0_ := Aside0.mk (Kd.R_over' (by (with_reducible repeat (first | apply Kd.R_alloc | apply Kd.R_drewN | apply Kd.R_drew)); exact HO_0.out) (Kd.R_typed (by (with_reducible repeat (first | apply Kd.R_alloc | apply Kd.R_drewN | apply Kd.R_drew)); exact HO_7.out)) (by decide) hg); have n1_ := Aside0.mk (blk_grown (g := gb102) (o := .cells #[.int .i64 ((rd_T107 x0_1 x13_1).f0.f0), .int .i64 ((rd_T107 x0_1 x13_1).f0.f1), .int .i64 ((rd_T107 x0_1 x13_1).f1.f0), .int .i64 ((rd_T107 x0_1 x13_1).f1.f1)] 107 (0, 0)) (by (with_reducible repeat (first | refine blk_drewN ?_ _ | refine blk_drew ?_ | refine blk_alloc ?_ _)); exact BK102.out) hg (Kd.R_ne HO_7.out BK102.out (by decide))); have n2_ := Aside0.mk (hb); have n3_ := Aside0.mk (Kept.of_grown (S := (fun k_ => P0_ k_)) hg (by repeat (first | (with_reducible first | exact HK.out | apply Kept.alloc | apply Kept.drewN | apply Kept.drew | refine Kept.setCell ?_ (.inr GW102.out) _) | exact HK.out)) (fun k_ e_ => (HO_7.out.1 k_ e_))); have n4_ := Aside0.mk (ho); clear HO_0; clear BK102; clear HB; clear HK; clear HO_7; have HO_0 := n0_; have BK102 := n1_; have HB := n2_; have HK := n3_; have HO107 := n4_; clear n0_ n1_ n2_ n3_ n4_; clear ho hb hg hat; have hcz17_0 : w16.cell? ⟨gb102, 0, none⟩ = some (.int .i64 ((rd_T107 x0_1 x13_1).f0.f0)) := (blk_cell BK102.out 0).trans rfl; have hcz17_1 : w16.cell? ⟨gb102, 1, none⟩ = some (.int .i64 ((rd_T107 x0_1 x13_1).f0.f1)) := (blk_cell BK102.out 1).trans rfl; have hcz17_2 : w16.cell? ⟨gb102, 2, none⟩ = some (.int .i64 ((rd_T107 x0_1 x13_1).f1.f0)) := (blk_cell BK102.out 2).trans rfl; have hcz17_3 : w16.cell? ⟨gb102, 3, none⟩ = some (.int .i64 ((rd_T107 x0_1 x13_1).f1.f1)) := (blk_cell BK102.out 3).trans rfl; have hfz17_0 := blk_frozen BK102.out 0; have hfz17_1 := blk_frozen BK102.out 1; have hfz17_2 := blk_frozen BK102.out 2; have hfz17_3 := blk_frozen BK102.out 3) | ((with_reducible refine gate_callee (f := 52) rfl ?_); refine goesL_ (some 53) rfl rfl Try.func52 (by kernel_rfl) rfl #[.int .i64 (wrap64 (((rd_T107 x0_1 x13_1).f1.f0) * (wrap64 (a2 - (ji8))))), .int .i64 (wrap64 (((rd_T107 x0_1 x13_1).f1.f1) * a2))] rfl (by (try simp only [List.map_toArray, List.map_cons, List.map_nil]); first | done | (simp only [hji8]; rfl) | rfl | (simp only [List.length_drop, List.length_take]; rfl)) ?_; (with_reducible refine (wash_ratio.calls k1 (wrap64 (((rd_T107 x0_1 x13_1).f1.f0) * (wrap64 (a2 - (ji8))))) (wrap64 (((rd_T107 x0_1 x13_1).f1.f1) * a2)) t108 t109 _ A11.out).mono ?_); rintro e w18 ⟨rfl, hb⟩; refine ⟨_, rfl, ?_⟩; have n0_ := Aside0.mk (Kd.R_below (by (with_reducible repeat (first | apply Kd.R_alloc | apply Kd.R_drewN | apply Kd.R_drew)); exact HO_0.out) hb); have n1_ := Aside0.mk (Kd.R_below (by (with_reducible repeat (first | apply Kd.R_alloc | apply Kd.R_drewN | apply Kd.R_drew)); exact HO107.out) hb); have n2_ := Aside0.mk (blk_below (g := gb102) (o := .cells #[.int .i64 ((rd_T107 x0_1 x13_1).f0.f0), .int .i64 ((rd_T107 x0_1 x13_1).f0.f1), .int .i64 ((rd_T107 x0_1 x13_1).f1.f0), .int .i64 ((rd_T107 x0_1 x13_1).f1.f1)] 107 (0, 0)) (by (with_reducible repeat (first | refine blk_drewN ?_ _ | refine blk_drew ?_ | refine blk_alloc ?_ _)); exact BK102.out) hb); have n3_ := Aside0.mk (Kept.below (S := (fun k_ => P0_ k_)) (by repeat (first | (with_reducible first | exact HK.out | apply Kept.alloc | apply Kept.drewN | apply Kept.drew | refine Kept.setCell ?_ (.inr GW102.out) _) | exact HK.out)) hb); have n4_ := Aside0.mk (below_step (by repeat (first | (with_reducible first | exact HB.out | apply below_alloc | apply pw_below_drewN | apply below_drew1 | refine below_set ?_ GE102.out) | exact HB.out)) hb); clear HO_0; clear HO107; clear BK102; clear HK; clear HB; have HO_0 := n0_; have HO107 := n1_; have BK102 := n2_; have HK := n3_; have HB := n4_; clear n0_ n1_ n2_ n3_ n4_; (try clear hb); (try clear hb2); (try clear hk); (try clear hi); have p12 : 0 ≤ (x13_1 : Int) := of_decide_eq_true (by first | (with_reducible assumption) | assumption); have q12 : (x13_1 : Int) < ((x0_1.length : Int) : Int) := of_decide_eq_true (by first | (with_reducible assumption) | assumption); obtain ⟨go12, co12, eo12, gb12, gl12, cl12, HG12⟩ := Kd.R_form HO_0.out (by omega); (first | cases eo12 | (injection eo12 with ea_ en_ ec_; (first | subst ea_ | (injection ea_ with ea_; subst ea_)); subst ec_; clear en_)); have GB12 := Aside0.mk gb12; have GG12 := Aside0.mk HG12; clear gb12 gl12 HG12; have HMgo12 := Aside0.mk (show (P0_ go12 ∨ w.heap.size ≤ go12) from (HO_0.out.1 _ rfl).1); (first | simp only [add_plain] at hx101_0 | skip); (first | simp only [add_plain] at hx101_1 | skip); (first | simp only [add_plain] at hx101_2 | skip); (first | simp only [add_plain] at hx101_3 | skip); obtain ⟨ce12, hcl12, hM12, hcc12, hfr12⟩ := Kd.R_elem HO_0.out z107 (x13_1 : Int) p12 q12; obtain rfl := k107_openM hM12; have hx12_0 : w18.cell? ⟨go12, (x13_1 : Int).toNat * 4, none⟩ = some (.int .i64 ((rd_T107 x0_1 x13_1).f0.f0)) := hcc12 0 _ rfl; have hx12_1 : w18.cell? ⟨go12, (x13_1 : Int).toNat * 4 + 1, none⟩ = some (.int .i64 ((rd_T107 x0_1 x13_1).f0.f1)) := hcc12 1 _ rfl; have hx12_2 : w18.cell? ⟨go12, (x13_1 : Int).toNat * 4 + 2, none⟩ = some (.int .i64 ((rd_T107 x0_1 x13_1).f1.f0)) := hcc12 2 _ rfl; have hx12_3 : w18.cell? ⟨go12, (x13_1 : Int).toNat * 4 + 3, none⟩ = some (.int .i64 ((rd_T107 x0_1 x13_1).f1.f1)) := hcc12 3 _ rfl; have hf12_0 : w18.frozen? ⟨go12, (x13_1 : Int).toNat * 4, none⟩ = false := hfr12 0; have hf12_1 : w18.frozen? ⟨go12, (x13_1 : Int).toNat * 4 + 1, none⟩ = false := hfr12 1; have hf12_2 : w18.frozen? ⟨go12, (x13_1 : Int).toNat * 4 + 2, none⟩ = false := hfr12 2; have hf12_3 : w18.frozen? ⟨go12, (x13_1 : Int).toNat * 4 + 3, none⟩ = false := hfr12 3; clear hcl12 hcc12 hfr12 hM12; replace p12 := eq_true p12; replace q12 := eq_true q12; have HX19 := Aside0.mk (show Kd.R k107 107 w18 w0.heap.size (fun k_ => (P0_ k_ ∨ w.heap.size ≤ k_) ∧ k_ ≠ gb102) (.slice (some ⟨go12, 0, none⟩) x0_1.length co4) x0_1 from (by (with_reducible repeat (first | apply Kd.R_alloc | apply Kd.R_drewN | apply Kd.R_drew)); exact HO_0.out)); obtain ⟨ce19, hcl19, hM19, hcc19, hfr19⟩ := Kd.R_elem HX19.out z107 (x13_1 : Int) (of_decide_eq_true (by first | (with_reducible assumption) | assumption)) (by have h_ : (x13_1 : Int) < ((x0_1.length : Int) : Int) := of_decide_eq_true (by first | (with_reducible assumption) | assumption); first | exact h_ | (have e_ := (Kd.R_reads' HO_0.out).1; omega) | simpa using h_); obtain rfl := k107_openM hM19; have HP19 := Kd.R_seg HX19.out (x13_1 : Int) (of_decide_eq_true (by first | (with_reducible assumption) | assumption)) (by have h_ : (x13_1 : Int) < ((x0_1.length : Int) : Int) := of_decide_eq_true (by first | (with_reducible assumption) | assumption); first | exact h_ | (have e_ := (Kd.R_reads' HO_0.out).1; omega) | simpa using h_) (seg := [.int .i64 t108, .int .i64 t109]) (j := 2) hcl19 hcc19 (show 4 ≤ 4 from by decide) (x' := (⟨(⟨(rd_T107 x0_1 x13_1).f0.f0, (rd_T107 x0_1 x13_1).f0.f1⟩ : S58), (⟨t108, t109⟩ : S30)⟩ : S107)) (k107_mkM _ _ _ (⟨(⟨(rd_T107 x0_1 x13_1).f0.f0, (rd_T107 x0_1 x13_1).f0.f1⟩ : S58), (⟨t108, t109⟩ : S30)⟩ : S107) ) (fun _ hk => hk); have hx19_2 := hcc19 2 _ rfl; (try simp only [show (k107).sz = 4 from rfl, Nat.mul_one, Nat.add_zero] at hx19_2); have hf19_2 := hfr19 2; (try simp only [show (k107).sz = 4 from rfl, Nat.mul_one, Nat.add_zero] at hf19_2); have hx19_3 := hcc19 3 _ rfl; (try simp only [show (k107).sz = 4 from rfl, Nat.mul_one, Nat.add_zero] at hx19_3); have hf19_3 := hfr19 3; (try simp only [show (k107).sz = 4 from rfl, Nat.mul_one, Nat.add_zero] at hf19_3); clear hcl19 hcc19 hfr19 hM19) | ((with_reducible refine gate_store (t := 30) (p := 55) rfl ?_); refine store_event (t := 30) (p := 55) (v := ?vo_w20) (w1 := ((w18.setCell ⟨go12, (x13_1 : Int).toNat * 4 + 2, none⟩ (.int .i64 t108)).setCell ⟨go12, (x13_1 : Int).toNat * 4 + 3, none⟩ (.int .i64 t109))) ?hg ?ho ?hn ?hr ?_; (case ho => rfl); (case hg => rfl); (case hn => rfl); (case hr => first | (go_simp; done) | (go_simp; rfl)); intro w20 hw; have hg : w18.grownBy w20 (some go12) := (by rw [hw]; exact HP19.2); have hp_ : Kd.R k107 107 w20 w0.heap.size (fun k_ => (P0_ k_ ∨ w.heap.size ≤ k_) ∧ k_ ≠ gb102) (.slice (some ⟨go12, 0, none⟩) x0_1.length co4) y110 := (by rw [hw, Ny110.out]; exact HP19.1); clear HP19; have n0_ := Aside0.mk (hp_); have n1_ := Aside0.mk (blk_grown (g := gb102) (o := .cells #[.int .i64 ((rd_T107 x0_1 x13_1).f0.f0), .int .i64 ((rd_T107 x0_1 x13_1).f0.f1), .int .i64 ((rd_T107 x0_1 x13_1).f1.f0), .int .i64 ((rd_T107 x0_1 x13_1).f1.f1)] 107 (0, 0)) (by (with_reducible repeat (first | refine blk_drewN ?_ _ | refine blk_drew ?_ | refine blk_alloc ?_ _)); exact BK102.out) hg (Kd.R_away HO_0.out (fun _ hk => hk.2))); have n2_ := Aside0.mk (Kd.R_over' (v := (.slice (some ⟨go12, 0, none⟩) x0_1.length co4)) (by (with_reducible repeat (first | apply Kd.R_alloc | apply Kd.R_drewN | apply Kd.R_drew)); exact HO107.out) (Kd.R_typed HO_0.out) (by decide) hg); have n3_ := Aside0.mk ((by rw [hw]; exact below_set (below_set (HB.out) GB12.out) GB12.out : Below w0.heap.size w0 w20)); have n4_ := Aside0.mk (Kept.of_grown (S := (fun k_ => P0_ k_)) hg (by repeat (first | (with_reducible first | exact HK.out | apply Kept.alloc | apply Kept.drewN | apply Kept.drew | refine Kept.setCell ?_ (.inr GW102.out) _) | exact HK.out)) (fun k_ e_ => (HO_0.out.1 k_ e_).1)); clear HO_0; clear BK102; clear HO107; clear HB; clear HK; have HO_0 := n0_; have BK102 := n1_; have HO107 := n2_; have HB := n3_; have HK := n4_; clear n0_ n1_ n2_ n3_ n4_; clear hg hw hp_))
              (try simp only [← hl0_1])
              go_roundg k1
              case measure => have := HK1.out; omega
              case rel => exact ⟨(y110), (y105), (wrap64 (x13_1 + 1)), (by first | rfl | (simp; done) | (simp [*]; done)), H', ⟨by have := HK1.out; omega⟩, ⟨by (try simp only [hl0_1]); (with_reducible repeat (first | apply Kd.R_alloc | apply Kd.R_drewN | apply Kd.R_drew)); exact Kd.R_mono HO_0.out (fun _ hk => hk.1)⟩, ⟨by (try simp only [hl0_1]); (with_reducible repeat (first | apply Kd.R_alloc | apply Kd.R_drewN | apply Kd.R_drew)); exact HO107.out⟩, ⟨by repeat (first | (with_reducible first | exact HK.out | apply Kept.alloc | apply Kept.drewN | apply Kept.drew | refine Kept.setCell ?_ (.inr GW102.out) _) | exact HK.out)⟩, ⟨by repeat (first | (with_reducible first | exact HB.out | apply below_alloc | apply pw_below_drewN | apply below_drew1 | refine below_set ?_ GE102.out) | exact HB.out)⟩⟩
            · rw [if_neg c10] at H
              exact absurd H (by simp)
          · rw [if_neg c7] at H
            exact absurd H (by simp)
        · rw [if_neg c6] at H
          exact absurd H (by simp)
      · rw [if_neg c5] at H
        have c5b0 : decide (x13_1 < (l0.length : Int)) = false := decide_eq_false c5
        (try rw [hl0_1] at c5b0)
        clear c5
        simp only [Option.some.injEq, Prod.mk.injEq] at H
        obtain ⟨rfl, rfl⟩ := H
        go_wp2
        go_ret
        exact ⟨_, by first | rfl | (simp [errW_none, errW_some] <;> rfl) | (simp [*, errW_none, errW_some] <;> rfl), by (with_reducible repeat (first | apply Kd.R_alloc | apply Kd.R_drewN | apply Kd.R_drew)); exact HO_7.out, (by first | exact (by (with_reducible repeat (first | apply Kd.R_alloc | apply Kd.R_drewN | apply Kd.R_drew)); exact HO_0.out) | (simp only [hl0_1]; exact (by (with_reducible repeat (first | apply Kd.R_alloc | apply Kd.R_drewN | apply Kd.R_drew)); exact HO_0.out))), by repeat (first | (with_reducible first | exact HB.out | apply below_alloc | apply pw_below_drewN | apply below_drew1) | exact HB.out), by repeat (first | (with_reducible first | exact HK.out | apply Kept.alloc | apply Kept.drewN | apply Kept.drew) | exact HK.out)⟩

/-! ### wash_lefts: function 85 -/
def wash_lefts.l0 : Nat → List (S30) → List (S107) → Int → Int → Option ((List (S30)))
  | 0, _, _, _, _ => none
  | k + 1, x3, x6, x7, x8 => if x8 < x7 then (if 0 ≤ x8 then (if x8 < (x6.length : Int) then (if x3.length < 8796093022208 then (wash_lefts.l0 k (x3 ++ [(⟨(rd_T107 x6 x8).f1.f0, (rd_T107 x6 x8).f1.f1⟩ : S30)]) x6 x7 (wrap64 (x8 + 1))) else (none)) else (none)) else (none)) else (some x3)
def wash_lefts.f (k : Nat) (l0 : List (S107)) : Option ((List (S30))) := wash_lefts.l0 k ([] : List (S30)) l0 (l0.length : Int) 0
theorem wash_lefts.mono_l : ∀ k, (∀ y0 y1 y2 y3, LeO (wash_lefts.l0 k y0 y1 y2 y3) (wash_lefts.l0 (k + 1) y0 y1 y2 y3))
  | 0 => fun _ _ _ _ r h => by simp [wash_lefts.l0] at h
  | k + 1 => by
    have ih0 := wash_lefts.mono_l k
    · intro y0 y1 y2 y3
      unfold wash_lefts.l0
      repeat' first
      | (with_reducible exact ih0 _ _ _ _)
      | (with_reducible exact LeO.refl _)
      | (with_reducible exact LeO.none _)
      | (with_reducible refine LeO.ite ?_ ?_)
      | (with_reducible refine LeO.bind ?_ (fun _ => ?_))
      | exact ih0 _ _ _ _
      | exact LeO.none _
      | refine LeO.ite ?_ ?_
      | refine LeO.bind ?_ (fun _ => ?_)
theorem wash_lefts.mono : ∀ a0 k, LeO (wash_lefts.f k a0) (wash_lefts.f (k + 1) a0) := by
  intro a0 k
  have ih0 := wash_lefts.mono_l k
  unfold wash_lefts.f
  repeat' first
      | (with_reducible exact ih0 _ _ _ _)
      | (with_reducible exact LeO.refl _)
      | (with_reducible exact LeO.none _)
      | (with_reducible refine LeO.ite ?_ ?_)
      | (with_reducible refine LeO.bind ?_ (fun _ => ?_))
      | exact ih0 _ _ _ _
      | exact LeO.none _
      | refine LeO.ite ?_ ?_
      | refine LeO.bind ?_ (fun _ => ?_)
set_option maxHeartbeats 8000000 in
set_option maxRecDepth 100000 in
theorem wash_lefts.calls (k : Nat) (A0 : Option Addr) (c0 : Nat) (l0 : List (S107)) (r : List (S30)) (w : World) (hr0 : Kd.C k107 w A0 l0.length l0) (hc0 : l0.length ≤ c0) (h : wash_lefts.f k l0 = some r) :
    Calls Try.prog 85 #[.slice A0 l0.length c0] w fun e w' => ∃ v0_ : Value, e = .returned (v0_) ∧ Kd.R k30 30 w' w.heap.size (fun _ => True) v0_ r ∧ Below w.heap.size w w' := by
  have hu107 := Try.underlying107
  have hu30 := Try.underlying30
  have HR0 := Aside0.mk hr0
  have HC0 := Aside0.mk hc0
  clear hr0 hc0
  have HB := Aside0.mk (Below.refl w.heap.size w)
  have H : (wash_lefts.l0 k ([] : List (S30)) l0 (l0.length : Int) 0) = some r := h
  clear h
  have H' := Aside0.mk H
  clear H
  go_enter Try.func85, Try.ntmps85
  go_wp2
  go_loopg [3, 8] k (fun kq v3 v8 w' => ∃ (x3_1 : List (S30)) (x8_1 : Int), v8 = .int .i64 x8_1 ∧ Aside0 (wash_lefts.l0 kq x3_1 l0 (l0.length : Int) x8_1 = some r) ∧ Aside0 (kq ≤ k) ∧ Aside0 (Kd.R k30 30 w' w.heap.size (fun _ => True) v3 x3_1) ∧ Aside0 (Below w.heap.size w w'))
  case atStart => exact ⟨(([] : List (S30))), (0), (by first | rfl | (simp; done) | (simp [*]; done)), H', ⟨Nat.le_refl _⟩, ⟨by first | exact Kd.R_nil _ _ _ _ _ | exact Kd.N_nil _ _ _ _ _ | exact Kd.V_nil _ _ _ _ _ | exact Kd.Q_nil _ _ _ _ _ | exact Kd.S_nil _ _ _ _ _⟩, ⟨by repeat (first | (with_reducible first | exact HB.out | apply below_alloc | apply pw_below_drewN | apply below_drew1) | exact HB.out)⟩⟩
  case round =>
    clear H'
    obtain ⟨x3_1, x8_1, rfl, HA, HK1, HO_3, HB⟩ := hrel
    cases gk with
    | zero => exact absurd HA.out (by simp [wash_lefts.l0])
    | succ k1 =>
      have H := HA.out
      clear HA
      simp only [wash_lefts.l0] at H
      by_cases c2 : x8_1 < (l0.length : Int)
      · rw [if_pos c2] at H
        have c2b0 : decide (x8_1 < (l0.length : Int)) = true := decide_eq_true c2
        clear c2
        by_cases c3 : 0 ≤ x8_1
        · rw [if_pos c3] at H
          have c3b0 : decide (0 ≤ x8_1) = true := decide_eq_true c3
          clear c3
          by_cases c4 : x8_1 < (l0.length : Int)
          · rw [if_pos c4] at H
            have c4b0 : decide (x8_1 < (l0.length : Int)) = true := decide_eq_true c4
            clear c4
            by_cases c5 : x3_1.length < 8796093022208
            · rw [if_pos c5] at H
              have LMc5 := Aside0.mk c5
              clear c5
              obtain ⟨y103, hy103⟩ : ∃ y_ : List (S30), y_ = (x3_1 ++ [(⟨(rd_T107 l0 x8_1).f1.f0, (rd_T107 l0 x8_1).f1.f1⟩ : S30)]) := ⟨_, rfl⟩
              replace H : (wash_lefts.l0 k1 y103 l0 (l0.length : Int) (wrap64 (x8_1 + 1))) = some r := by first | (rw [hy103]; with_reducible exact H) | (have H2_ := (Option.bind_some _ _).symm.trans H; rw [hy103]; with_reducible exact H2_) | (have H2_ := (Option.bind_some _ _).symm.trans H; with_reducible exact H2_) | with_reducible exact H | (rw [hy103]; exact H) | exact H
              have Ny103 := Aside0.mk hy103
              clear hy103
              have H' := Aside0.mk H
              clear H
              have p101 : 0 ≤ (x8_1 : Int) := of_decide_eq_true (by first | (with_reducible assumption) | assumption)
              have q101 : x8_1 < (l0.length : Int) := of_decide_eq_true (by first | (with_reducible assumption) | assumption)
              obtain ⟨ad101, e101, hx101_0, hx101_1, hx101_2, hx101_3⟩ := at_T107 HR0.out x8_1 p101 q101
              cases e101
              replace hx101_0 := (HB.out.cell (World.block_lt_of_cell? w _ hx101_0)).trans hx101_0
              replace hx101_1 := (HB.out.cell (World.block_lt_of_cell? w _ hx101_1)).trans hx101_1
              replace hx101_2 := (HB.out.cell (World.block_lt_of_cell? w _ hx101_2)).trans hx101_2
              replace hx101_3 := (HB.out.cell (World.block_lt_of_cell? w _ hx101_3)).trans hx101_3
              replace p101 := eq_true p101
              replace q101 := eq_true q101
              go_wp2_with (first | ((with_reducible refine gate_dst (N := 5) rfl ?_); refine box_event ?hg (N := 5) ?hd (cs := #[.int .i64 0, .int .i64 0, .int .i64 0, .int .i64 0]) (t := 107) ?hr ?_; (case hd => rfl); (case hg => rfl); (case hr => first | (go_simp; done) | (go_simp; rfl)); intro gb102 hg w6 hbox hb; have n0_ := Aside0.mk (Kd.R_below (by (with_reducible repeat (first | apply Kd.R_alloc | apply Kd.R_drewN | apply Kd.R_drew)); exact HO_3.out) hb); have n1_ := Aside0.mk (below_step (by repeat (first | (with_reducible first | exact HB.out | apply below_alloc | apply pw_below_drewN | apply below_drew1) | exact HB.out)) hb); have n2_ := Aside0.mk (hbox); have n3_ := Aside0.mk ((by rw [hg]; exact (below_size (by repeat (first | (with_reducible first | exact HB.out | apply below_alloc | apply pw_below_drewN | apply below_drew1) | exact HB.out))) : w.heap.size ≤ gb102)); have n4_ := Aside0.mk ((by rw [hg]; exact (below_size (by repeat (first | (with_reducible first | exact HB.out | apply below_alloc | apply pw_below_drewN | apply below_drew1) | exact HB.out))) : w.heap.size ≤ gb102)); clear HO_3; clear HB; have HO_3 := n0_; have HB := n1_; have BK102 := n2_; have GW102 := n3_; have GE102 := n4_; clear n0_ n1_ n2_ n3_ n4_; clear hb hbox hg; have hcz7_0 : w6.cell? ⟨gb102, 0, none⟩ = some (.int .i64 0) := (blk_cell BK102.out 0).trans rfl; have hcz7_1 : w6.cell? ⟨gb102, 1, none⟩ = some (.int .i64 0) := (blk_cell BK102.out 1).trans rfl; have hcz7_2 : w6.cell? ⟨gb102, 2, none⟩ = some (.int .i64 0) := (blk_cell BK102.out 2).trans rfl; have hcz7_3 : w6.cell? ⟨gb102, 3, none⟩ = some (.int .i64 0) := (blk_cell BK102.out 3).trans rfl; have hfz7_0 := blk_frozen BK102.out 0; have hfz7_1 := blk_frozen BK102.out 1; have hfz7_2 := blk_frozen BK102.out 2; have hfz7_3 := blk_frozen BK102.out 3) | ((with_reducible refine gate_builtin (b := .append) (xs := #[.tmp 12, .tmp 15]) rfl ?_); at_builtin; refine Kd.R_append k30 (w0 := w) w.heap.size rfl (.tmp 12) (.tmp 15) 50 30 (.agg #[(.int .i64 0), (.int .i64 0)]) 16 rfl Try.underlying50 info30 rfl (by decide) (by omega) u3 x3_1 (⟨(rd_T107 l0 x8_1).f1.f0, (rd_T107 l0 x8_1).f1.f1⟩ : S30) [.int .i64 ((rd_T107 l0 x8_1).f1.f0), .int .i64 ((rd_T107 l0 x8_1).f1.f1)] (fun _ => True) (fun _ => False) rfl (by first | (go_simp; done) | (go_simp; rfl)) ?aP (fun _ hk => hk.elim) ?aF ?aO ?aB ?aS ?aL ?_; (case aP => exact k30_mkM _ _ _ (⟨(rd_T107 l0 x8_1).f1.f0, (rd_T107 l0 x8_1).f1.f1⟩ : S30)); (case aB => exact (by repeat (first | (with_reducible first | exact HB.out | apply below_alloc | apply pw_below_drewN | apply below_drew1 | refine below_set ?_ GE102.out) | exact HB.out))); (case aF => exact (fun _ _ => trivial)); (case aO => exact (by (with_reducible repeat (first | apply Kd.R_alloc | apply Kd.R_drewN | apply Kd.R_drew)); exact Kd.R_mono (Kd.R_far (p := ⟨gb102, 3, none⟩) (Kd.R_far (p := ⟨gb102, 2, none⟩) (Kd.R_far (p := ⟨gb102, 1, none⟩) (Kd.R_far (p := ⟨gb102, 0, none⟩) (Kd.R_types HO_3.out BK102.out (by decide)) (fun _ hk => hk.2) (.int .i64 ((rd_T107 l0 x8_1).f0.f0))) (fun _ hk => hk.2) (.int .i64 ((rd_T107 l0 x8_1).f0.f1))) (fun _ hk => hk.2) (.int .i64 ((rd_T107 l0 x8_1).f1.f0))) (fun _ hk => hk.2) (.int .i64 ((rd_T107 l0 x8_1).f1.f1))) (fun _ hk => trivial))); (case aS => exact (below_size (by repeat (first | (with_reducible first | exact HB.out | apply below_alloc | apply pw_below_drewN | apply below_drew1 | refine below_set ?_ GE102.out) | exact HB.out)))); (case aL => have := LMc5.out; omega); intro v104 w8 ho hb hg hat; rw [← Ny103.out] at ho; have n0_ := Aside0.mk (blk_grown (g := gb102) (o := .cells #[.int .i64 ((rd_T107 l0 x8_1).f0.f0), .int .i64 ((rd_T107 l0 x8_1).f0.f1), .int .i64 ((rd_T107 l0 x8_1).f1.f0), .int .i64 ((rd_T107 l0 x8_1).f1.f1)] 107 (0, 0)) (by (with_reducible repeat (first | refine blk_drewN ?_ _ | refine blk_drew ?_ | refine blk_alloc ?_ _)); refine blk_put (cs := #[.int .i64 ((rd_T107 l0 x8_1).f0.f0), .int .i64 ((rd_T107 l0 x8_1).f0.f1), .int .i64 ((rd_T107 l0 x8_1).f1.f0), .int .i64 0]) ?_ 3 _ rfl; (with_reducible repeat (first | refine blk_drewN ?_ _ | refine blk_drew ?_ | refine blk_alloc ?_ _)); refine blk_put (cs := #[.int .i64 ((rd_T107 l0 x8_1).f0.f0), .int .i64 ((rd_T107 l0 x8_1).f0.f1), .int .i64 0, .int .i64 0]) ?_ 2 _ rfl; (with_reducible repeat (first | refine blk_drewN ?_ _ | refine blk_drew ?_ | refine blk_alloc ?_ _)); refine blk_put (cs := #[.int .i64 ((rd_T107 l0 x8_1).f0.f0), .int .i64 0, .int .i64 0, .int .i64 0]) ?_ 1 _ rfl; (with_reducible repeat (first | refine blk_drewN ?_ _ | refine blk_drew ?_ | refine blk_alloc ?_ _)); refine blk_put (cs := #[.int .i64 0, .int .i64 0, .int .i64 0, .int .i64 0]) ?_ 0 _ rfl; (with_reducible repeat (first | refine blk_drewN ?_ _ | refine blk_drew ?_ | refine blk_alloc ?_ _)); exact BK102.out) hg (Kd.R_ne HO_3.out BK102.out (by decide))); have n1_ := Aside0.mk (hb); have n2_ := Aside0.mk (ho); clear BK102; clear HB; clear HO_3; have BK102 := n0_; have HB := n1_; have HO105 := n2_; clear n0_ n1_ n2_; clear ho hb hg hat))
              go_roundg k1
              case measure => have := HK1.out; omega
              case rel => exact ⟨(y103), (wrap64 (x8_1 + 1)), (by first | rfl | (simp; done) | (simp [*]; done)), H', ⟨by have := HK1.out; omega⟩, ⟨by (with_reducible repeat (first | apply Kd.R_alloc | apply Kd.R_drewN | apply Kd.R_drew)); exact HO105.out⟩, ⟨by repeat (first | (with_reducible first | exact HB.out | apply below_alloc | apply pw_below_drewN | apply below_drew1 | refine below_set ?_ GE102.out) | exact HB.out)⟩⟩
            · rw [if_neg c5] at H
              exact absurd H (by simp)
          · rw [if_neg c4] at H
            exact absurd H (by simp)
        · rw [if_neg c3] at H
          exact absurd H (by simp)
      · rw [if_neg c2] at H
        have c2b0 : decide (x8_1 < (l0.length : Int)) = false := decide_eq_false c2
        clear c2
        obtain rfl := Option.some.inj H
        go_wp2
        go_ret
        exact ⟨_, by first | rfl | (simp [errW_none, errW_some] <;> rfl) | (simp [*, errW_none, errW_some] <;> rfl), by (with_reducible repeat (first | apply Kd.R_alloc | apply Kd.R_drewN | apply Kd.R_drew)); exact HO_3.out, by repeat (first | (with_reducible first | exact HB.out | apply below_alloc | apply pw_below_drewN | apply below_drew1) | exact HB.out)⟩

end Go.Proofs.Ytbckhllkjlgbpaa.P
