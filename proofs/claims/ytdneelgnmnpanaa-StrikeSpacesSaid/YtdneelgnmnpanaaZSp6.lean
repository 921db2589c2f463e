/- What the claim's last text wants, part 6: functions of the translation as Lean functions with their contracts, and plain theorems; no conditions beyond those that each theorem names. -/
import Derived.Test.YtdneelgnmnpanaaZSp5
section
namespace Go.Proofs.Ytdneelgnmnpanaa.P
open Go.RowKit Go.Proofs.YtdneelgnmnpanaaW.PrintWords Go.Proofs.YtdneelgnmnpanaaW.PrintLast Go.Proofs.YtdneelgnmnpanaaW.PrintMore
attribute [local go_sem] max2_int min2_int max_two min_two max_three min_three max_four min_four   -- for this text's walks alone
set_option linter.unusedVariables false
set_option linter.unusedSimpArgs false
def verditerref04_choose.l0 : Nat → Int → Int → List Int → Int → Option (List Int)
 | 0, _, _, _, _ => none
 | k + 1, x0, x1, x5, x6 => if 0 ≤ (IntKind.u64.wrap (x0)) then (if x6 < (shl .i64 1 (IntKind.u64.wrap (x0))) then ((verditerref04_list.f k x6).bind fun t101 => (if (t101.length : Int) = x1 then (if x5.length < 17592186044416 then (verditerref04_choose.l0 k x0 x1 (x5 ++ [x6]) (wrap64 (x6 + 1))) else (none)) else (verditerref04_choose.l0 k x0 x1 x5 (wrap64 (x6 + 1))))) else (some x5)) else (none)
def verditerref04_choose.f (k : Nat) (a0 : Int) (a1 : Int) : Option (List Int) := verditerref04_choose.l0 k a0 a1 ([] : List Int) 0
theorem verditerref04_choose.mono_l : ∀ k, (∀ y0 y1 y2 y3, LeO (verditerref04_choose.l0 k y0 y1 y2 y3) (verditerref04_choose.l0 (k + 1) y0 y1 y2 y3))
 | 0 => fun _ _ _ _ r h => by simp [verditerref04_choose.l0] at h
 | k + 1 => by
  have ih0 := verditerref04_choose.mono_l k
  ·
   intro y0 y1 y2 y3
   unfold verditerref04_choose.l0
   repeat' first
   | (with_reducible exact ih0 _ _ _ _)
   | (with_reducible exact verditerref04_list.mono _ _)
   | (with_reducible exact LeO.refl _)
   | (with_reducible exact LeO.none _)
   | (with_reducible refine LeO.ite ?_ ?_)
   | (with_reducible refine LeO.bind ?_ (fun _ => ?_))
   | exact ih0 _ _ _ _
   | exact verditerref04_list.mono _ _
   | exact LeO.none _
   | refine LeO.ite ?_ ?_
   | refine LeO.bind ?_ (fun _ => ?_)
theorem verditerref04_choose.mono : ∀ a0 a1 k, LeO (verditerref04_choose.f k a0 a1) (verditerref04_choose.f (k + 1) a0 a1) := by
 intro a0 a1 k
 have ih0 := verditerref04_choose.mono_l k
 unfold verditerref04_choose.f
 repeat' first
   | (with_reducible exact ih0 _ _ _ _)
   | (with_reducible exact verditerref04_list.mono _ _)
   | (with_reducible exact LeO.refl _)
   | (with_reducible exact LeO.none _)
   | (with_reducible refine LeO.ite ?_ ?_)
   | (with_reducible refine LeO.bind ?_ (fun _ => ?_))
   | exact ih0 _ _ _ _
   | exact verditerref04_list.mono _ _
   | exact LeO.none _
   | refine LeO.ite ?_ ?_
   | refine LeO.bind ?_ (fun _ => ?_)
set_option maxHeartbeats 8000000 in
set_option maxRecDepth 100000 in
theorem verditerref04_choose.calls (k : Nat) (a0 : Int) (a1 : Int) (r : List Int) (w : World) (h : verditerref04_choose.f k a0 a1 = some r) :
  Calls Try.prog 123 #[.int .i64 a0, .int .i64 a1] w fun e w' => ∃ v0_ : Value, e = .returned (v0_) ∧ Kd.R (Kd.int .i64) 3 w' w.heap.size (fun _ => True) v0_ r ∧ Below w.heap.size w w' := by
 have HB := Aside0.mk (Below.refl w.heap.size w)
 have H : (verditerref04_choose.l0 k a0 a1 ([] : List Int) 0) = some r := h
 clear h
 have H' := Aside0.mk H
 clear H
 go_enter Try.func123, Try.ntmps123
 go_wp2
 go_loopg [5, 6] k (fun kq v5 v6 w' => ∃ (x5_1 : List Int) (x6_1 : Int), v6 = .int .i64 x6_1 ∧ Aside0 (verditerref04_choose.l0 kq a0 a1 x5_1 x6_1 = some r) ∧ Aside0 (kq ≤ k) ∧ Aside0 (Kd.R (Kd.int .i64) 3 w' w.heap.size (fun _ => True) v5 x5_1) ∧ Aside0 (Below w.heap.size w w'))
 case atStart => exact ⟨(([] : List Int)), (0), (by first | rfl | (simp; done) | (simp [*]; done)), H', ⟨Nat.le_refl _⟩, ⟨by first | exact Kd.R_nil _ _ _ _ _ | exact Kd.N_nil _ _ _ _ _ | exact Kd.V_nil _ _ _ _ _ | exact Kd.Q_nil _ _ _ _ _ | exact Kd.S_nil _ _ _ _ _⟩, ⟨bB⟩⟩
 case round =>
  clear H'
  try clear c1
  try clear p2
  obtain ⟨x5_1, x6_1, rfl, HA, HK1, HO_5, HB⟩ := hrel
  cases gk with
  | zero => exact absurd HA.out (by simp [verditerref04_choose.l0])
  | succ k1 =>
   have H := HA.out
   clear HA
   simp only [verditerref04_choose.l0] at H
   obtain ⟨ji3, hji3⟩ : ∃ j_ : Int, (IntKind.u64.wrap (a0)) = j_ := ⟨_, rfl⟩
   replace H : (if 0 ≤ (ji3) then (if x6_1 < (shl .i64 1 (ji3)) then ((verditerref04_list.f k1 x6_1).bind fun t101 => (if (t101.length : Int) = a1 then (if x5_1.length < 17592186044416 then (verditerref04_choose.l0 k1 a0 a1 (x5_1 ++ [x6_1]) (wrap64 (x6_1 + 1))) else (none)) else (verditerref04_choose.l0 k1 a0 a1 x5_1 (wrap64 (x6_1 + 1))))) else (some x5_1)) else (none)) = some r := by first | (rw [hji3] at H; exact H) | (simp only [hji3] at H ⊢; exact H)
   by_cases c4 : 0 ≤ (ji3)
   ·
    rw [if_pos c4] at H
    have c4b0 := eq_true c4
    have c4b1 : decide (0 ≤ (ji3)) = true := decide_eq_true c4
    clear c4
    obtain ⟨ji5, hji5⟩ : ∃ j_ : Int, (shl .i64 1 (ji3)) = j_ := ⟨_, rfl⟩
    replace H : (if x6_1 < (ji5) then ((verditerref04_list.f k1 x6_1).bind fun t101 => (if (t101.length : Int) = a1 then (if x5_1.length < 17592186044416 then (verditerref04_choose.l0 k1 a0 a1 (x5_1 ++ [x6_1]) (wrap64 (x6_1 + 1))) else (none)) else (verditerref04_choose.l0 k1 a0 a1 x5_1 (wrap64 (x6_1 + 1))))) else (some x5_1)) = some r := by first | (rw [hji5] at H; exact H) | (simp only [hji5] at H ⊢; exact H)
    have hji5_ : (IntKind.i64.wrap (1 * 2 ^ min (ji3).toNat 64)) = ji5 := hji5
    have hji5z : (ji3) ≤ 64 → (IntKind.i64.wrap (1 * 2 ^ (ji3).toNat)) = ji5 := shl_small hji5
    have hji5u : (IntKind.i64.wrap (2 ^ min (ji3).toNat 64)) = ji5 := by have h_ := hji5_; rw [Int.one_mul] at h_; exact h_
    have hji5v : (ji3) ≤ 64 → (IntKind.i64.wrap (2 ^ (ji3).toNat)) = ji5 := fun hle_ => by have h_ := hji5z hle_; rw [Int.one_mul] at h_; exact h_
    have hji5y : (wrap64 (1 * 2 ^ min (ji3).toNat 64)) = ji5 := (i64_w _).symm.trans hji5_
    have hji5x : (ji3) ≤ 64 → (wrap64 (1 * 2 ^ (ji3).toNat)) = ji5 := fun h_ => (i64_w _).symm.trans (hji5z h_)
    by_cases c6 : x6_1 < (ji5)
    ·
     rw [if_pos c6] at H
     have c6b0 : decide (x6_1 < (ji5)) = true := decide_eq_true c6
     clear c6
     replace H := Option.bind_eq_some_iff.mp H
     obtain ⟨t101, A70, H⟩ := H
     replace H : (if (t101.length : Int) = a1 then (if x5_1.length < 17592186044416 then (verditerref04_choose.l0 k1 a0 a1 (x5_1 ++ [x6_1]) (wrap64 (x6_1 + 1))) else (none)) else (verditerref04_choose.l0 k1 a0 a1 x5_1 (wrap64 (x6_1 + 1)))) = some r := H
     have A7 := Aside0.mk A70
     clear A70
     by_cases c8 : (t101.length : Int) = a1
     ·
      rw [if_pos c8] at H
      have c8b0 : ((t101.length : Int) == a1) = true := beq_iff_eq.mpr c8
      have c8b1 : ((t101.length : Int) != a1) = false := bne_eq_false_iff_eq.mpr c8
      clear c8
      by_cases c9 : x5_1.length < 17592186044416
      ·
       rw [if_pos c9] at H
       have LMc9 := Aside0.mk c9
       clear c9
       obtain ⟨y104, hy104⟩ : ∃ y_ : List Int, y_ = (x5_1 ++ [x6_1]) := ⟨_, rfl⟩
       replace H : (verditerref04_choose.l0 k1 a0 a1 y104 (wrap64 (x6_1 + 1))) = some r := by first | (rw [hy104]; with_reducible exact H) | (have H2_ := (Option.bind_some _ _).symm.trans H; rw [hy104]; with_reducible exact H2_) | (have H2_ := (Option.bind_some _ _).symm.trans H; with_reducible exact H2_) | with_reducible exact H | (rw [hy104]; exact H) | exact H
       have Ny104 := Aside0.mk hy104
       clear hy104
       have H' := Aside0.mk H
       clear H
       go_wp2_with (first | ((with_reducible refine gate_callee (f := 103) rfl ?_); refine goesL_ (some 15) rfl rfl Try.func103 (by kernel_rfl) rfl #[.int .i64 x6_1] rfl hA ?_; (with_reducible refine (verditerref04_list.calls k1 x6_1 t101 _ A7.out).mono ?_); rintro e w10 ⟨v102, rfl, ho0, hb⟩; refine ⟨_, rfl, ?_⟩; have n0_ := Aside0.mk (Kd.R_elder' HO_5.out (Kd.R_base ho0) hb); have n1_ := Aside0.mk (Kd.R_lower (Kd.R_new' ho0 (Kd.R_lt HO_5.out)) (below_size bB)); have n2_ := Aside0.mk (below_step bB hb); clear HO_5; clear HB; have HO_5 := n0_; have HO103 := n1_; have HB := n2_; clear n0_ n1_ n2_; (try clear hb); (try clear hb2); (try clear hk); (try clear hi); (try clear ho0); obtain ⟨Ao11, co11, eo11⟩ := Kd.R_slice HO103.out; subst eo11) | ((with_reducible refine gate_builtin (b := .append) (xs := #[.tmp 19, .tmp 21]) rfl ?_); at_builtin; refine Kd.R_append (Kd.int .i64) (w0 := w) w.heap.size rfl (.tmp 19) (.tmp 21) 28 3 (.int .i64 0) 8 rfl Try.underlying28 info3 rfl (by decide) (by omega) u5 x5_1 x6_1 [.int .i64 x6_1] (fun k_ => some k_ ≠ (.slice Ao11 t101.length co11 : Value).ownBlock) (fun _ => False) rfl rfl ?aP (fun _ hk => hk.elim) ?aF ?aO ?aB ?aS ?aL ?_; (case aP => exact rfl); (case aB => exact bB); (case aF => exact (fun k_ hk => Kd.fresh' (Kd.R_lt HO103.out) k_ hk)); (case aO => exact (by (with_reducible repeat (first | apply Kd.R_alloc | apply Kd.R_drewN | apply Kd.R_drew)); exact Kd.R_mono HO_5.out (fun _ hk => hk.2))); (case aS => exact (below_size bB)); (case aL => have := LMc9.out; omega); intro v105 w12 ho hb hg hat; rw [← Ny104.out] at ho; have n0_ := Aside0.mk (Kd.R_after (ok := (fun _ => True)) HO103.out hg hat); have n1_ := Aside0.mk (hb); have n2_ := Aside0.mk (ho); clear HO103; clear HB; clear HO_5; have HO103 := n0_; have HB := n1_; have HO106 := n2_; clear n0_ n1_ n2_; clear ho hb hg hat))
       go_roundg k1
       case measure => have := HK1.out; omega
       case rel => exact ⟨(y104), (wrap64 (x6_1 + 1)), (by first | rfl | (simp; done) | (simp [*]; done)), H', ⟨by have := HK1.out; omega⟩, ⟨by (with_reducible repeat (first | apply Kd.R_alloc | apply Kd.R_drewN | apply Kd.R_drew)); exact Kd.R_mono HO106.out (fun _ hk => trivial)⟩, ⟨bB⟩⟩
      ·
       rw [if_neg c9] at H
       exact absurd H (by simp)
     ·
      rw [if_neg c8] at H
      have c8b0 : ((t101.length : Int) == a1) = false := beq_eq_false_iff_ne.mpr c8
      have c8b1 : ((t101.length : Int) != a1) = true := bne_iff_ne.mpr c8
      have H' := Aside0.mk H
      clear H
      go_wp2_with (first | ((with_reducible refine gate_callee (f := 103) rfl ?_); refine goesL_ (some 15) rfl rfl Try.func103 (by kernel_rfl) rfl #[.int .i64 x6_1] rfl hA ?_; (with_reducible refine (verditerref04_list.calls k1 x6_1 t101 _ A7.out).mono ?_); rintro e w13 ⟨v102, rfl, ho0, hb⟩; refine ⟨_, rfl, ?_⟩; have n0_ := Aside0.mk (Kd.R_elder' HO_5.out (Kd.R_base ho0) hb); have n1_ := Aside0.mk (Kd.R_lower (Kd.R_new' ho0 (Kd.R_lt HO_5.out)) (below_size bB)); have n2_ := Aside0.mk (below_step bB hb); clear HO_5; clear HB; have HO_5 := n0_; have HO103 := n1_; have HB := n2_; clear n0_ n1_ n2_; (try clear hb); (try clear hb2); (try clear hk); (try clear hi); (try clear ho0); obtain ⟨Ao14, co14, eo14⟩ := Kd.R_slice HO103.out; subst eo14))
      go_roundg k1
      case measure => have := HK1.out; omega
      case rel => exact ⟨(x5_1), (wrap64 (x6_1 + 1)), (by first | rfl | (simp; done) | (simp [*]; done)), H', ⟨by have := HK1.out; omega⟩, ⟨by (with_reducible repeat (first | apply Kd.R_alloc | apply Kd.R_drewN | apply Kd.R_drew)); exact Kd.R_mono HO_5.out (fun _ hk => trivial)⟩, ⟨bB⟩⟩
    ·
     rw [if_neg c6] at H
     have c6b0 : decide (x6_1 < (ji5)) = false := decide_eq_false c6
     clear c6
     obtain rfl := Option.some.inj H
     go_wp2
     go_ret
     exact ⟨_, by first | rfl | (simp [errW_none, errW_some] <;> rfl) | (simp only [← hji3, ← hji5]; first | rfl | (simp [errW_none, errW_some] <;> rfl)) | (simp [*, errW_none, errW_some] <;> rfl), by (with_reducible repeat (first | apply Kd.R_alloc | apply Kd.R_drewN | apply Kd.R_drew)); exact HO_5.out, bB⟩
   ·
    rw [if_neg c4] at H
    exact absurd H (by simp)
end Go.Proofs.Ytdneelgnmnpanaa.P
end
section
namespace Go.Proofs.Ytdneelgnmnpanaa.P
open Go.RowKit Go.Proofs.YtdneelgnmnpanaaW.PrintWords
set_option linter.unusedVariables false
set_option maxRecDepth 100000
def bits (m : Nat) : List Nat := (List.range 6).filter fun i => m.testBit i
def chs (n r : Nat) : List Nat := (List.range (2 ^ n)).filter fun m => (bits m).length == r
def toI (l : List Nat) : List Int := l.map fun e : Nat => (e : Int)
theorem list_dec : ∀ m : Nat, m < 64 → verditerref04_list.f 10 (m : Int) = some (toI (bits m)) := by decide +kernel
theorem choose_dec : ∀ n : Nat, n < 7 → ∀ r : Nat, r < 7 → verditerref04_choose.f 80 (n : Int) (r : Int) = some (toI (chs n r)) := by decide +kernel
theorem list_ev {m : Nat} (h : m < 64) : Ev (fun k => verditerref04_list.f k (m : Int)) (toI (bits m)) := Ev.of (fun k => verditerref04_list.mono _ k) (k := 10) (list_dec m h)
theorem choose_ev {n r : Nat} (h : n < 7) (h2 : r < 7) : Ev (fun k => verditerref04_choose.f k (n : Int) (r : Int)) (toI (chs n r)) := Ev.of (fun k => verditerref04_choose.mono _ _ k) (k := 80) (choose_dec n h r h2)
def msk (l : List Nat) : Nat := (l.map fun i => 2 ^ i).sum
def subs : List Nat → List (List Nat)
  | [] => [[]]
  | a :: l => subs l ++ (subs l).map (a :: ·)
theorem mem_subs {l r : List Nat} (h : l.Sublist r) : l ∈ subs r := by
  induction h with
  | slnil => simp [subs]
  | cons a _ ih => exact List.mem_append_left _ ih
  | cons_cons a _ ih => exact List.mem_append_right _ (List.mem_map.2 ⟨_, ih, rfl⟩)
theorem sub_of_inc : ∀ (d a : Nat) (l : List Nat), l.Pairwise (· < ·) → (∀ x ∈ l, a ≤ x ∧ x < a + d) → l.Sublist (List.range' a d)
  | _, _, [], _, _ => List.nil_sublist _
  | 0, a, x :: l, _, h => by
    have := h x (List.mem_cons_self ..)
    omega
  | d + 1, a, x :: l, hp, h => by
    rw [List.range'_succ]
    have hx := h x (List.mem_cons_self ..)
    rw [List.pairwise_cons] at hp
    by_cases c : x = a
    · subst c
      exact (sub_of_inc d (x + 1) l hp.2 (fun y hy => by have := hp.1 y hy; have := h y (List.mem_cons_of_mem _ hy); omega)).cons_cons x
    · refine .cons a (sub_of_inc d (a + 1) (x :: l) (List.pairwise_cons.2 hp) (fun y hy => ?_))
      have h1 := h y hy
      rcases List.mem_cons.1 hy with rfl | hy
      · omega
      · have := hp.1 y hy
        omega
theorem subs_dec : ∀ n : Nat, n < 7 → ∀ l ∈ subs (List.range n), msk l < 2 ^ n ∧ bits (msk l) = l := by decide +kernel
theorem bits_lt_dec : ∀ n : Nat, n < 7 → ∀ m : Nat, m < 2 ^ n → ∀ i ∈ bits m, i < n := by decide +kernel
theorem bits_inc_dec : ∀ m : Nat, m < 64 → (bits m).Pairwise (· < ·) := by decide +kernel
theorem inc_chs {n : Nat} (h : n < 7) {l : List Nat} (hp : l.Pairwise (· < ·)) (hb : ∀ x ∈ l, x < n) : msk l ∈ chs n l.length ∧ bits (msk l) = l := by
  have hm := mem_subs (sub_of_inc n 0 l hp (fun x hx => ⟨Nat.zero_le _, by have := hb x hx; omega⟩))
  rw [← List.range_eq_range'] at hm
  obtain ⟨h1, h2⟩ := subs_dec n h l hm
  exact ⟨List.mem_filter.2 ⟨List.mem_range.2 h1, by rw [h2]; exact beq_self_eq_true _⟩, h2⟩
theorem chs_mem {n r m : Nat} (h : n < 7) (hm : m ∈ chs n r) : m < 64 ∧ (bits m).length = r ∧ (bits m).Pairwise (· < ·) ∧ ∀ i ∈ bits m, i < n := by
  obtain ⟨h1, h2⟩ := List.mem_filter.1 hm
  have h3 := List.mem_range.1 h1
  have h4 : 2 ^ n ≤ 2 ^ 6 := Nat.pow_le_pow_right (by omega) (by omega)
  have h5 : m < 64 := by omega
  exact ⟨h5, eq_of_beq h2, bits_inc_dec m h5, bits_lt_dec n h m h3⟩
end Go.Proofs.Ytdneelgnmnpanaa.P
end
section
namespace Go.Proofs.Ytdneelgnmnpanaa.P
open Go.RowKit Go.Proofs.YtdneelgnmnpanaaW.PrintWords Go.Proofs.YtdneelgnmnpanaaW.PrintLast Go.Proofs.YtdneelgnmnpanaaW.PrintMore
attribute [local go_sem] max2_int min2_int max_two min_two max_three min_three max_four min_four   -- for this text's walks alone
set_option linter.unusedVariables false
set_option linter.unusedSimpArgs false
def verditerref04_pick.l0 : Nat → List (List Int) → List Int → List (List Int) → Int → Option ((List (List Int)))
 | 0, _, _, _, _ => none
 | k + 1, x0, x1, x5, x6 => if x6 < (x1.length : Int) then (if 0 ≤ x6 then (if 0 ≤ (rd x1 x6) then (if (rd x1 x6) < (x0.length : Int) then (if x5.length < 5864062014805 then (verditerref04_pick.l0 k x0 x1 (x5 ++ [rd_L1 x0 (rd x1 x6)]) (wrap64 (x6 + 1))) else (none)) else (none)) else (none)) else (none)) else (some x5)
def verditerref04_pick.f (k : Nat) (l0 : List (List Int)) (l1 : List Int) : Option ((List (List Int))) := verditerref04_pick.l0 k l0 l1 ([] : List (List Int)) 0
set_option maxHeartbeats 8000000 in
set_option maxRecDepth 100000 in
theorem verditerref04_pick.calls (k : Nat) (P0_ : Nat → Prop) (A0 : Option Addr) (c0 : Nat) (l0 : List (List Int)) (A1 : Option Addr) (c1 : Nat) (l1 : List Int) (r : List (List Int)) (w : World) (hs0 : Kd.V (Kd.slice 3 (Kd.int .i64)) 28 w w.heap.size (fun k_ => P0_ k_) (.slice A0 l0.length c0) l0) (hr1 : Kd.C (Kd.int .i64) w A1 l1.length l1) (hc1 : l1.length ≤ c1) (h : verditerref04_pick.f k l0 l1 = some r) :
  Calls Try.prog 102 #[.slice A0 l0.length c0, .slice A1 l1.length c1] w fun e w' => ∃ v0_ : Value, e = .returned (v0_) ∧ Kd.N (Kd.slice 3 (Kd.int .i64)) 28 w' w.heap.size (fun k_ => (P0_ k_ ∨ w.heap.size ≤ k_)) v0_ r ∧ Below w.heap.size w w' := by
 have HO0 := Aside0.mk (show Kd.V (Kd.slice 3 (Kd.int .i64)) 28 w w.heap.size (fun k_ => (P0_ k_ ∨ w.heap.size ≤ k_)) (.slice A0 l0.length c0) l0 from Kd.V_mono hs0 (fun k_ hk => .inl hk))
 have HR1 := Aside0.mk hr1
 have HC1 := Aside0.mk hc1
 clear hr1 hc1
 have HB := Aside0.mk (Below.refl w.heap.size w)
 have H : (verditerref04_pick.l0 k l0 l1 ([] : List (List Int)) 0) = some r := h
 clear h
 have H' := Aside0.mk H
 clear H
 go_enter Try.func102, Try.ntmps102
 go_wp2
 go_loopg [5, 6] k (fun kq v5 v6 w' => ∃ (x5_1 : List (List Int)) (x6_1 : Int), v6 = .int .i64 x6_1 ∧ Aside0 (verditerref04_pick.l0 kq l0 l1 x5_1 x6_1 = some r) ∧ Aside0 (kq ≤ k) ∧ Aside0 (Kd.V (Kd.slice 3 (Kd.int .i64)) 28 w' w.heap.size (fun k_ => (P0_ k_ ∨ w.heap.size ≤ k_) ∧ some k_ ≠ (v5 : Value).ownBlock) (.slice A0 l0.length c0) l0) ∧ Aside0 (Kd.N (Kd.slice 3 (Kd.int .i64)) 28 w' w.heap.size (fun k_ => (P0_ k_ ∨ w.heap.size ≤ k_)) v5 x5_1) ∧ Aside0 (Below w.heap.size w w'))
 case atStart => exact ⟨(([] : List (List Int))), (0), (by first | rfl | (simp; done) | (simp [*]; done)), H', ⟨Nat.le_refl _⟩, ⟨by (with_reducible repeat (first | apply Kd.V_alloc | apply Kd.V_drewN | apply Kd.V_drew)); exact Kd.V_mono HO0.out (fun _ hk => ⟨hk, (by simp [Value.ownBlock])⟩)⟩, ⟨by first | exact Kd.S_nil _ _ _ _ _ | exact Kd.N_nil _ _ _ _ _ | exact Kd.V_nil _ _ _ _ _ | exact Kd.Q_nil _ _ _ _ _ | exact Kd.R_nil _ _ _ _ _⟩, ⟨bB⟩⟩
 case round =>
  clear H'
  try clear c1
  try clear p2
  obtain ⟨x5_1, x6_1, rfl, HA, HK1, HO_0, HO_5, HB⟩ := hrel
  cases gk with
  | zero => exact absurd HA.out (by simp [verditerref04_pick.l0])
  | succ k1 =>
   have H := HA.out
   clear HA
   simp only [verditerref04_pick.l0] at H
   by_cases c3 : x6_1 < (l1.length : Int)
   ·
    rw [if_pos c3] at H
    have c3b0 : decide (x6_1 < (l1.length : Int)) = true := decide_eq_true c3
    clear c3
    by_cases c4 : 0 ≤ x6_1
    ·
     rw [if_pos c4] at H
     have c4b0 : decide (0 ≤ x6_1) = true := decide_eq_true c4
     clear c4
     by_cases c5 : 0 ≤ (rd l1 x6_1)
     ·
      rw [if_pos c5] at H
      have c5b0 : decide (0 ≤ (rd l1 x6_1)) = true := decide_eq_true c5
      clear c5
      by_cases c6 : (rd l1 x6_1) < (l0.length : Int)
      ·
       rw [if_pos c6] at H
       have c6b0 : decide ((rd l1 x6_1) < (l0.length : Int)) = true := decide_eq_true c6
       clear c6
       by_cases c7 : x5_1.length < 5864062014805
       ·
        rw [if_pos c7] at H
        have LMc7 := Aside0.mk c7
        clear c7
        obtain ⟨y103, hy103⟩ : ∃ y_ : List (List Int), y_ = (x5_1 ++ [rd_L1 l0 (rd l1 x6_1)]) := ⟨_, rfl⟩
        replace H : (verditerref04_pick.l0 k1 l0 l1 y103 (wrap64 (x6_1 + 1))) = some r := by first | (rw [hy103]; with_reducible exact H) | (have H2_ := (Option.bind_some _ _).symm.trans H; rw [hy103]; with_reducible exact H2_) | (have H2_ := (Option.bind_some _ _).symm.trans H; with_reducible exact H2_) | with_reducible exact H | (rw [hy103]; exact H) | exact H
        have Ny103 := Aside0.mk hy103
        clear hy103
        have H' := Aside0.mk H
        clear H
        have p101 : 0 ≤ (x6_1 : Int) := of_decide_eq_true (by assumption)
        have q101 : x6_1 < (l1.length : Int) := of_decide_eq_true (by assumption)
        obtain ⟨ad101, e101, hx101_0⟩ := Kd.at_int HR1.out x6_1 p101 q101
        cases e101
        replace hx101_0 := (HB.out.cell (World.block_lt_of_cell? w _ hx101_0)).trans hx101_0
        replace p101 := eq_true p101
        replace q101 := eq_true q101
        have p102 : 0 ≤ ((rd l1 x6_1) : Int) := of_decide_eq_true (by assumption)
        have q102 : (rd l1 x6_1) < (l0.length : Int) := of_decide_eq_true (by assumption)
        obtain ⟨ad102, A102_0, c102_0, e102, hx102_0, hl102_0, hi102_0⟩ := at_L1 (Kd.V_reads' HO_0.out).2.2 (rd l1 x6_1) p102 q102
        cases e102
        obtain ⟨ce102, hce102, hMe102, hcc102⟩ := Kd.V_get HO_0.out [] (rd l1 x6_1) p102 (by first | exact q102 | exact of_decide_eq_true (by assumption) | (have e_ := (Kd.V_reads' HO_0.out).1; omega))
        obtain ⟨ua102_0, uc102_0, rfl, ul102_0, ge102_0⟩ := Kd.FK_slice_open hMe102
        have hv102_0 := hcc102 0 _ rfl
        rw [Nat.add_zero, show ((Kd.slice 3 (Kd.int .i64))).sz = 1 from rfl, Nat.mul_one] at hv102_0
        replace hv102_0 := Option.some.inj (hv102_0.symm.trans hx102_0)
        injection hv102_0 with hva_ hvn_ hvc_
        rw [hva_] at ge102_0
        rw [hvc_] at ul102_0
        have HL102_0 := Aside0.mk (show Kd.V (Kd.int .i64) 3 _ w.heap.size _ _ (rd_L1 l0 (rd l1 x6_1)) from Kd.V_mk ul102_0 ge102_0)
        clear hva_ hvn_ hvc_ ge102_0 ul102_0
        clear hcc102 hce102
        have HR102_0 := Aside0.mk hi102_0
        have HC102_0 := Aside0.mk hl102_0
        clear hi102_0 hl102_0
        replace p102 := eq_true p102
        replace q102 := eq_true q102
        go_wp2_with (first | ((with_reducible refine gate_builtin (b := .append) (xs := #[.tmp 13, .tmp 21]) rfl ?_); at_builtin; refine Kd.N_append (Kd.slice 3 (Kd.int .i64)) (w0 := w) w.heap.size rfl (.tmp 13) (.tmp 21) 22 28 (.slice none 0 0) 24 rfl Try.underlying22 info28 rfl (by decide) (by omega) u5 x5_1 (rd_L1 l0 (rd l1 x6_1)) [.slice A102_0 (rd_L1 l0 (rd l1 x6_1)).length c102_0] (fun k_ => (P0_ k_ ∨ w.heap.size ≤ k_)) (fun k_ => ((fun k_ => (P0_ k_ ∨ w.heap.size ≤ k_))) k_ ∧ some k_ ≠ (u5 : Value).ownBlock) rfl rfl ?aP (fun _ hk => hk) ?aF ?aO ?aB ?aS ?aL ?_; (case aP => exact (Kd.FK_slice_mk (Kd.V_reads' (Kd.V_mono (ok' := (fun k_ => ((fun k_ => (P0_ k_ ∨ w.heap.size ≤ k_))) k_ ∧ some k_ ≠ (u5 : Value).ownBlock)) (HL102_0.out) (fun k_ hk => ⟨hk.1, hk.2⟩))).2.1 (Kd.V_F (Kd.V_mono (ok' := (fun k_ => ((fun k_ => (P0_ k_ ∨ w.heap.size ≤ k_))) k_ ∧ some k_ ≠ (u5 : Value).ownBlock)) (HL102_0.out) (fun k_ hk => ⟨hk.1, hk.2⟩))))); (case aB => exact bB); (case aF => exact (fun k_ hk => (.inr (Nat.le_trans (below_size bB) hk)))); (case aO => exact HO_5.out); (case aS => exact (below_size bB)); (case aL => have := LMc7.out; omega); intro v104 w8 ho hb hg hat; rw [← Ny103.out] at ho; have n0_ := Aside0.mk (Kd.V_afterv (ok := (fun k_ => (P0_ k_ ∨ w.heap.size ≤ k_))) HO_0.out hg hat); have n1_ := Aside0.mk (Kd.V_afterv (ok := (fun k_ => (P0_ k_ ∨ w.heap.size ≤ k_))) HL102_0.out hg hat); have n2_ := Aside0.mk (hb); have n3_ := Aside0.mk (ho); clear HO_0; clear HL102_0; clear HB; clear HO_5; have HO_0 := n0_; have HL102_0 := n1_; have HB := n2_; have HO105 := n3_; clear n0_ n1_ n2_ n3_; clear ho hb hg hat))
        go_roundg k1
        case measure => have := HK1.out; omega
        case rel => exact ⟨(y103), (wrap64 (x6_1 + 1)), (by first | rfl | (simp; done) | (simp [*]; done)), H', ⟨by have := HK1.out; omega⟩, ⟨by (with_reducible repeat (first | apply Kd.V_alloc | apply Kd.V_drewN | apply Kd.V_drew)); exact HO_0.out⟩, ⟨by (with_reducible repeat (first | apply Kd.N_alloc | apply Kd.N_drewN | apply Kd.N_drew)); exact HO105.out⟩, ⟨bB⟩⟩
       ·
        rw [if_neg c7] at H
        exact absurd H (by simp)
      ·
       rw [if_neg c6] at H
       exact absurd H (by simp)
     ·
      rw [if_neg c5] at H
      exact absurd H (by simp)
    ·
     rw [if_neg c4] at H
     exact absurd H (by simp)
   ·
    rw [if_neg c3] at H
    have c3b0 : decide (x6_1 < (l1.length : Int)) = false := decide_eq_false c3
    clear c3
    obtain rfl := Option.some.inj H
    go_wp2
    go_ret
    exact ⟨_, by first | rfl | (simp [errW_none, errW_some] <;> rfl) | (simp [*, errW_none, errW_some] <;> rfl), by (with_reducible repeat (first | apply Kd.N_alloc | apply Kd.N_drewN | apply Kd.N_drew)); exact HO_5.out, bB⟩
end Go.Proofs.Ytdneelgnmnpanaa.P
end
section
namespace Go.Proofs.Ytdneelgnmnpanaa.P
open Go.RowKit Go.Proofs.YtdneelgnmnpanaaW.PrintWords Go.Proofs.YtdneelgnmnpanaaW.PrintLast Go.Proofs.YtdneelgnmnpanaaW.PrintMore
attribute [local go_sem] max2_int min2_int max_two min_two max_three min_three max_four min_four   -- for this text's walks alone
set_option linter.unusedVariables false
set_option linter.unusedSimpArgs false
def verditerref04_lines.l0 : Nat → List (List Int) → List Int → Int → Option (List Int)
 | 0, _, _, _ => none
 | k + 1, x0, x3, x4 => if 0 < (x0.length : Int) then (if x4 < ((rd_L1 x0 0).length : Int) then (if x3.length < 17592186044416 then (verditerref04_lines.l0 k x0 (x3 ++ [x4]) (wrap64 (x4 + 1))) else (none)) else (some x3)) else (none)
def verditerref04_lines.f (k : Nat) (l0 : List (List Int)) : Option (List Int) := verditerref04_lines.l0 k l0 ([] : List Int) 0
set_option maxHeartbeats 8000000 in
set_option maxRecDepth 100000 in
theorem verditerref04_lines.calls (k : Nat) (A0 : Option Addr) (c0 : Nat) (l0 : List (List Int)) (r : List Int) (w : World) (hr0 : Kd.C (Kd.slice 3 (Kd.int .i64)) w A0 l0.length l0) (hc0 : l0.length ≤ c0) (h : verditerref04_lines.f k l0 = some r) :
  Calls Try.prog 98 #[.slice A0 l0.length c0] w fun e w' => ∃ v0_ : Value, e = .returned (v0_) ∧ Kd.R (Kd.int .i64) 3 w' w.heap.size (fun _ => True) v0_ r ∧ Below w.heap.size w w' := by
 have HR0 := Aside0.mk hr0
 have HC0 := Aside0.mk hc0
 clear hr0 hc0
 have HB := Aside0.mk (Below.refl w.heap.size w)
 have H : (verditerref04_lines.l0 k l0 ([] : List Int) 0) = some r := h
 clear h
 have H' := Aside0.mk H
 clear H
 go_enter Try.func98, Try.ntmps98
 go_wp2
 go_loopg [3, 4] k (fun kq v3 v4 w' => ∃ (x3_1 : List Int) (x4_1 : Int), v4 = .int .i64 x4_1 ∧ Aside0 (verditerref04_lines.l0 kq l0 x3_1 x4_1 = some r) ∧ Aside0 (kq ≤ k) ∧ Aside0 (Kd.R (Kd.int .i64) 3 w' w.heap.size (fun _ => True) v3 x3_1) ∧ Aside0 (Below w.heap.size w w'))
 case atStart => exact ⟨(([] : List Int)), (0), (by first | rfl | (simp; done) | (simp [*]; done)), H', ⟨Nat.le_refl _⟩, ⟨by first | exact Kd.R_nil _ _ _ _ _ | exact Kd.N_nil _ _ _ _ _ | exact Kd.V_nil _ _ _ _ _ | exact Kd.Q_nil _ _ _ _ _ | exact Kd.S_nil _ _ _ _ _⟩, ⟨bB⟩⟩
 case round =>
  clear H'
  obtain ⟨x3_1, x4_1, rfl, HA, HK1, HO_3, HB⟩ := hrel
  cases gk with
  | zero => exact absurd HA.out (by simp [verditerref04_lines.l0])
  | succ k1 =>
   have H := HA.out
   clear HA
   simp only [verditerref04_lines.l0] at H
   by_cases c2 : 0 < (l0.length : Int)
   ·
    rw [if_pos c2] at H
    have c2b0 : decide (0 < (l0.length : Int)) = true := decide_eq_true c2
    have c2b1 : decide (0 < l0.length) = true := decide_eq_true (by omega)
    clear c2
    by_cases c3 : x4_1 < ((rd_L1 l0 0).length : Int)
    ·
     rw [if_pos c3] at H
     have c3b0 : decide (x4_1 < ((rd_L1 l0 0).length : Int)) = true := decide_eq_true c3
     clear c3
     by_cases c4 : x3_1.length < 17592186044416
     ·
      rw [if_pos c4] at H
      have LMc4 := Aside0.mk c4
      clear c4
      obtain ⟨y102, hy102⟩ : ∃ y_ : List Int, y_ = (x3_1 ++ [x4_1]) := ⟨_, rfl⟩
      replace H : (verditerref04_lines.l0 k1 l0 y102 (wrap64 (x4_1 + 1))) = some r := by first | (rw [hy102]; with_reducible exact H) | (have H2_ := (Option.bind_some _ _).symm.trans H; rw [hy102]; with_reducible exact H2_) | (have H2_ := (Option.bind_some _ _).symm.trans H; with_reducible exact H2_) | with_reducible exact H | (rw [hy102]; exact H) | exact H
      have Ny102 := Aside0.mk hy102
      clear hy102
      have H' := Aside0.mk H
      clear H
      have p101 : 0 ≤ (0 : Int) := (by omega)
      have q101 : 0 < (l0.length : Int) := of_decide_eq_true (by assumption)
      obtain ⟨ad101, A101_0, c101_0, e101, hx101_0, hl101_0, hi101_0⟩ := at_L1 HR0.out 0 p101 q101
      cases e101
      have qi101 : (0 < l0.length) = True := eq_true (by omega)
      (try rw [show ((0 : Int)).toNat = 0 from rfl] at hx101_0)
      (try rw [Addr.add_zero'] at hx101_0)
      replace hx101_0 := (HB.out.cell (World.block_lt_of_cell? w _ hx101_0)).trans hx101_0
      have HR101_0 := Aside0.mk hi101_0
      have HC101_0 := Aside0.mk hl101_0
      clear hi101_0 hl101_0
      replace p101 := eq_true p101
      replace q101 := eq_true q101
      go_wp2_with (first | ((with_reducible refine gate_builtin (b := .append) (xs := #[.tmp 13, .tmp 15]) rfl ?_); at_builtin; refine Kd.R_append (Kd.int .i64) (w0 := w) w.heap.size rfl (.tmp 13) (.tmp 15) 28 3 (.int .i64 0) 8 rfl Try.underlying28 info3 rfl (by decide) (by omega) u3 x3_1 x4_1 [.int .i64 x4_1] (fun _ => True) (fun _ => False) rfl rfl ?aP (fun _ hk => hk.elim) ?aF ?aO ?aB ?aS ?aL ?_; (case aP => exact rfl); (case aB => exact bB); (case aF => exact (fun _ _ => trivial)); (case aO => exact HO_3.out); (case aS => exact (below_size bB)); (case aL => have := LMc4.out; omega); intro v103 w5 ho hb hg hat; rw [← Ny102.out] at ho; have n0_ := Aside0.mk (hb); have n1_ := Aside0.mk (ho); clear HB; clear HO_3; have HB := n0_; have HO104 := n1_; clear n0_ n1_; clear ho hb hg hat))
      go_roundg k1
      case measure => have := HK1.out; omega
      case rel => exact ⟨(y102), (wrap64 (x4_1 + 1)), (by first | rfl | (simp; done) | (simp [*]; done)), H', ⟨by have := HK1.out; omega⟩, ⟨by (with_reducible repeat (first | apply Kd.R_alloc | apply Kd.R_drewN | apply Kd.R_drew)); exact HO104.out⟩, ⟨bB⟩⟩
     ·
      rw [if_neg c4] at H
      exact absurd H (by simp)
    ·
     rw [if_neg c3] at H
     have c3b0 : decide (x4_1 < ((rd_L1 l0 0).length : Int)) = false := decide_eq_false c3
     clear c3
     obtain rfl := Option.some.inj H
     have p101 : 0 ≤ (0 : Int) := (by omega)
     have q101 : 0 < (l0.length : Int) := of_decide_eq_true (by assumption)
     obtain ⟨ad101, A101_0, c101_0, e101, hx101_0, hl101_0, hi101_0⟩ := at_L1 HR0.out 0 p101 q101
     cases e101
     have qi101 : (0 < l0.length) = True := eq_true (by omega)
     (try rw [show ((0 : Int)).toNat = 0 from rfl] at hx101_0)
     (try rw [Addr.add_zero'] at hx101_0)
     replace hx101_0 := (HB.out.cell (World.block_lt_of_cell? w _ hx101_0)).trans hx101_0
     have HR101_0 := Aside0.mk hi101_0
     have HC101_0 := Aside0.mk hl101_0
     clear hi101_0 hl101_0
     replace p101 := eq_true p101
     replace q101 := eq_true q101
     go_wp2
     go_ret
     exact ⟨_, by first | rfl | (simp [errW_none, errW_some] <;> rfl) | (simp [*, errW_none, errW_some] <;> rfl), by (with_reducible repeat (first | apply Kd.R_alloc | apply Kd.R_drewN | apply Kd.R_drew)); exact HO_3.out, bB⟩
   ·
    rw [if_neg c2] at H
    exact absurd H (by simp)
end Go.Proofs.Ytdneelgnmnpanaa.P
end
section
namespace Go.Proofs.Ytdneelgnmnpanaa.P
open Go.RowKit Go.Proofs.YtdneelgnmnpanaaW.PrintWords Go.Proofs.Det
set_option linter.unusedVariables false
set_option linter.unusedSimpArgs false
theorem sgn_map {K L : Type} (g : K → L) (f : List (L → Int) → Int) (f' : List (K → Int) → Int) (h : ∀ R, f R = f' (R.map fun v => v ∘ g)) (j : K) : ∀ (post pre : List (L → Int)), sgn f (g j) pre post = sgn f' j (pre.map fun v => v ∘ g) (post.map fun v => v ∘ g)
  | [], pre => by rw [sgn, List.map_nil, sgn]
  | v :: post, pre => by
    rw [sgn, List.map_cons, sgn, h, sgn_map g f f' h j post (pre ++ [v]), List.map_append, List.map_append]
    rfl
theorem det_map {K L : Type} (g : K → L) : ∀ (J : List K) (I : List (L → Int)), det (J.map g) I = det J (I.map fun v => v ∘ g)
  | [], I => by rw [List.map_nil, det, det]
  | j :: J, I => by
    rw [List.map_cons, det, det, sgn_map g _ _ (fun R => det_map g J R) j I []]
    rfl
theorem pick_l0 (X : List (List Int)) (js : List Nat) (hj : ∀ e ∈ js, e < X.length) (h6 : js.length ≤ 1000) : ∀ (d n : Nat) (out : List (List Int)), n + d = js.length → out.length = n →
    Ev (fun k => verditerref04_pick.l0 k X (js.map fun e : Nat => (e : Int)) out (n : Int)) (out ++ (js.drop n).map fun e => X.getD e []) := by
  intro d
  induction d with
  | zero =>
    intro n out hn ho
    refine Ev.step (fun k => by rw [verditerref04_pick.l0]) ?_
    rw [List.drop_eq_nil_of_le (by omega)]
    simp only [List.length_map, show ¬ ((n : Int) < (js.length : Int)) by omega, if_false, List.map_nil, List.append_nil]
    exact Ev.now _
  | succ d ih =>
    intro n out hn ho
    have h1 : n < js.length := by omega
    have he := hj _ (List.getElem_mem h1)
    have hat : (js.map fun e : Nat => (e : Int)).getD n 0 = (js[n] : Int) := by
      rw [getD_at _ n _ (by simpa using h1), List.getElem_map]
    refine Ev.step (fun k => by rw [verditerref04_pick.l0]) ?_
    rw [List.drop_eq_getElem_cons h1, List.map_cons]
    simp only [List.length_map, show ((n : Int) < (js.length : Int)) by omega, show (0 : Int) ≤ (n : Int) by omega, if_true, rdn, hat, show (0 : Int) ≤ (js[n] : Int) by omega, show ((js[n] : Int) < (X.length : Int)) by omega, show out.length < 5864062014805 by omega, rdL]
    rw [wr_succ (m := js.length) h1 (by omega)]
    have := ih (n + 1) (out ++ [X.getD js[n] []]) (by omega) (by simp; omega)
    rw [List.append_assoc] at this
    exact this
theorem pick_ev (X : List (List Int)) (js : List Nat) (hj : ∀ e ∈ js, e < X.length) (h6 : js.length ≤ 1000) : Ev (fun k => verditerref04_pick.f k X (js.map fun e : Nat => (e : Int))) (js.map fun e => X.getD e []) := by
  unfold verditerref04_pick.f
  have := pick_l0 X js hj h6 js.length 0 [] (by omega) rfl
  rw [List.drop_zero, List.nil_append] at this
  exact this
theorem lines_l0 (X : List (List Int)) (m : Nat) (h0 : 0 < X.length) (hm : (X.getD 0 []).length = m) (h4 : m ≤ 1000) : ∀ (d n : Nat), n + d = m →
    Ev (fun k => verditerref04_lines.l0 k X ((List.range n).map fun e : Nat => (e : Int)) (n : Int)) ((List.range m).map fun e : Nat => (e : Int)) := by
  intro d
  induction d with
  | zero =>
    intro n hn
    have hnm : n = m := by omega
    refine Ev.step (fun k => by rw [verditerref04_lines.l0]) ?_
    simp only [show (0 : Int) < (X.length : Int) by omega, if_true, rdL0, hm, show ¬ ((n : Int) < (m : Int)) by omega, if_false]
    rw [hnm]
    exact Ev.now _
  | succ d ih =>
    intro n hn
    refine Ev.step (fun k => by rw [verditerref04_lines.l0]) ?_
    simp only [show (0 : Int) < (X.length : Int) by omega, if_true, rdL0, hm, show ((n : Int) < (m : Int)) by omega, List.length_map, List.length_range, show n < 17592186044416 by omega]
    rw [wr_succ (m := m) (by omega) (by omega)]
    have := ih (n + 1) (by omega)
    rw [List.range_succ, List.map_append] at this
    exact this
theorem lines_ev (X : List (List Int)) (m : Nat) (h0 : 0 < X.length) (hm : (X.getD 0 []).length = m) (h4 : m ≤ 1000) : Ev (fun k => verditerref04_lines.f k X) ((List.range m).map fun e : Nat => (e : Int)) := by
  unfold verditerref04_lines.f
  have := lines_l0 X m h0 hm h4 m 0 (by omega)
  exact this
end Go.Proofs.Ytdneelgnmnpanaa.P
end
section
namespace Go.Proofs.Ytdneelgnmnpanaa.P
open Go.RowKit Go.Proofs.YtdneelgnmnpanaaW.PrintWords Go.Proofs.YtdneelgnmnpanaaW.PrintLast Go.Proofs.YtdneelgnmnpanaaW.PrintMore
attribute [local go_sem] max2_int min2_int max_two min_two max_three min_three max_four min_four   -- for this text's walks alone
set_option linter.unusedVariables false
set_option linter.unusedSimpArgs false
mutual
def verditerref04_rank.l0 : Nat → List (List Int) → List Int → Int → Option (Int)
 | 0, _, _, _ => none
 | k + 1, x0, x1, x5 => if x5 > 0 then ((verditerref04_choose.f k (x0.length : Int) x5).bind fun t101 => ((verditerref04_choose.f k (x1.length : Int) x5).bind fun t104 => (verditerref04_rank.l1 k x0 x1 x5 t101 t104 0))) else (some 0)
def verditerref04_rank.l1 : Nat → List (List Int) → List Int → Int → List Int → List Int → Int → Option (Int)
 | 0, _, _, _, _, _, _ => none
 | k + 1, x0, x1, x5, x6, x7, x8 => if x8 < (x6.length : Int) then (verditerref04_rank.l2 k x0 x1 x5 x6 x7 x8 0) else (verditerref04_rank.l0 k x0 x1 (wrap64 (x5 - 1)))
def verditerref04_rank.l2 : Nat → List (List Int) → List Int → Int → List Int → List Int → Int → Int → Option (Int)
 | 0, _, _, _, _, _, _, _ => none
 | k + 1, x0, x1, x5, x6, x7, x8, x9 => if x9 < (x7.length : Int) then (if 0 ≤ x9 then ((verditerref04_list.f k (rd x7 x9)).bind fun t108 => (verditerref04_rank.l3 k x0 x1 x5 x6 x7 x8 x9 ([] : List Int) t108 (t108.length : Int) 0)) else (none)) else (verditerref04_rank.l1 k x0 x1 x5 x6 x7 (wrap64 (x8 + 1)))
def verditerref04_rank.l3 : Nat → List (List Int) → List Int → Int → List Int → List Int → Int → Int → List Int → List Int → Int → Int → Option (Int)
 | 0, _, _, _, _, _, _, _, _, _, _, _ => none
 | k + 1, x0, x1, x5, x6, x7, x8, x9, x10, x46, x47, x48 => if x48 < x47 then (if 0 ≤ x48 then (if x48 < (x46.length : Int) then (if 0 ≤ (rd x46 x48) then (if (rd x46 x48) < (x1.length : Int) then (if x10.length < 17592186044416 then (verditerref04_rank.l3 k x0 x1 x5 x6 x7 x8 x9 (x10 ++ [rd x1 (rd x46 x48)]) x46 x47 (wrap64 (x48 + 1))) else (none)) else (none)) else (none)) else (none)) else (none)) else (if 0 ≤ x8 then (if x8 < (x6.length : Int) then ((verditerref04_list.f k (rd x6 x8)).bind fun t117 => ((verditerref04_pick.f k x0 t117).bind fun t120 => ((verditerref04_determinant.f k t120 x10).bind fun t123 => (if t123 = 0 then (verditerref04_rank.l2 k x0 x1 x5 x6 x7 x8 (wrap64 (x9 + 1))) else (some x5))))) else (none)) else (none))
end
def verditerref04_rank.f (k : Nat) (l0 : List (List Int)) (l1 : List Int) : Option (Int) := verditerref04_rank.l0 k l0 l1 (mn (l0.length : Int) (l1.length : Int))
set_option maxHeartbeats 8000000 in
set_option maxRecDepth 100000 in
theorem verditerref04_rank.calls (k : Nat) (A0 : Option Addr) (c0 : Nat) (l0 : List (List Int)) (A1 : Option Addr) (c1 : Nat) (l1 : List Int) (r : Int) (w : World) (hr0 : Kd.C (Kd.slice 3 (Kd.int .i64)) w A0 l0.length l0) (hc0 : l0.length ≤ c0) (hr1 : Kd.C (Kd.int .i64) w A1 l1.length l1) (hc1 : l1.length ≤ c1) (h : verditerref04_rank.f k l0 l1 = some r) :
  Calls Try.prog 97 #[.slice A0 l0.length c0, .slice A1 l1.length c1] w fun e w' => e = .returned (.int .i64 r) ∧ Below w.heap.size w w' := by
 have HR0 := Aside0.mk hr0
 have HC0 := Aside0.mk hc0
 clear hr0 hc0
 have HR1 := Aside0.mk hr1
 have HC1 := Aside0.mk hc1
 clear hr1 hc1
 have HB := Aside0.mk (Below.refl w.heap.size w)
 have H : (verditerref04_rank.l0 k l0 l1 (mn (l0.length : Int) (l1.length : Int))) = some r := h
 clear h
 obtain ⟨ji3, hji3⟩ : ∃ j_ : Int, (mn (l0.length : Int) (l1.length : Int)) = j_ := ⟨_, rfl⟩
 replace H : (verditerref04_rank.l0 k l0 l1 ji3) = some r := by first | (rw [hji3] at H; exact H) | (simp only [hji3] at H ⊢; exact H)
 (try (have hji3l : 0 ≤ ji3 := by (rw [← hji3]; unfold mn; (repeat' split) <;> omega)))
 (try (have hji3m : 0 ≤ ji3 := by omega))
 have hji3_ : (if (l1.length : Int) < (l0.length : Int) then (l1.length : Int) else (l0.length : Int)) = ji3 := hji3
 have H' := Aside0.mk H
 clear H
 go_enter Try.func97, Try.ntmps97
 go_wp2
 all_goals (
 go_loopg [5] k (fun kq v5 w' => ∃ (x5_1 : Int), v5 = .int .i64 x5_1 ∧ Aside0 (verditerref04_rank.l0 kq l0 l1 x5_1 = some r) ∧ Aside0 (kq ≤ k) ∧ Aside0 (Below w.heap.size w w'))
 case atStart => exact ⟨(ji3), (by first | rfl | (simp; done) | (congr 1; rw [← hji3]; unfold mn; split <;> omega) | (simp [*]; done)), H', ⟨Nat.le_refl _⟩, ⟨bB⟩⟩
 case round =>
  clear H'
  try clear c1
  try clear p2
  obtain ⟨x5_1, rfl, HA, HK1, HB⟩ := hrel
  cases gk with
  | zero => exact absurd HA.out (by simp [verditerref04_rank.l0])
  | succ k1 =>
   have H := HA.out
   clear HA
   simp only [verditerref04_rank.l0] at H
   by_cases c4 : x5_1 > 0
   ·
    rw [if_pos c4] at H
    have c4b0 : decide (0 < x5_1) = true := decide_eq_true c4
    clear c4
    replace H := Option.bind_eq_some_iff.mp H
    obtain ⟨t101, A50, H⟩ := H
    replace H : ((verditerref04_choose.f k1 (l1.length : Int) x5_1).bind fun t104 => (verditerref04_rank.l1 k1 l0 l1 x5_1 t101 t104 0)) = some r := H
    have A5 := Aside0.mk A50
    clear A50
    replace H := Option.bind_eq_some_iff.mp H
    obtain ⟨t104, A60, H⟩ := H
    replace H : (verditerref04_rank.l1 k1 l0 l1 x5_1 t101 t104 0) = some r := H
    have A6 := Aside0.mk A60
    clear A60
    have H' := Aside0.mk H
    clear H
    go_wp2_with (first | ((with_reducible refine gate_callee (f := 123) rfl ?_); refine goesL_ (some 25) rfl rfl Try.func123 (by kernel_rfl) rfl #[.int .i64 (l0.length : Int), .int .i64 x5_1] rfl hA ?_; (with_reducible refine (verditerref04_choose.calls k1 (l0.length : Int) x5_1 t101 _ A5.out).mono ?_); rintro e w7 ⟨v102, rfl, ho0, hb⟩; refine ⟨_, rfl, ?_⟩; have n0_ := Aside0.mk (Kd.R_lower ho0 (below_size bB)); have n1_ := Aside0.mk (below_step bB hb); clear HB; have HO103 := n0_; have HB := n1_; clear n0_ n1_; (try clear hb); (try clear hb2); (try clear hk); (try clear hi); (try clear ho0)) | ((with_reducible refine gate_callee (f := 123) rfl ?_); refine goesL_ (some 29) rfl rfl Try.func123 (by kernel_rfl) rfl #[.int .i64 (l1.length : Int), .int .i64 x5_1] rfl hA ?_; (with_reducible refine (verditerref04_choose.calls k1 (l1.length : Int) x5_1 t104 _ A6.out).mono ?_); rintro e w8 ⟨v105, rfl, ho0, hb⟩; refine ⟨_, rfl, ?_⟩; have n0_ := Aside0.mk (Kd.R_elder' HO103.out (Kd.R_base ho0) hb); have n1_ := Aside0.mk (Kd.R_lower (Kd.R_new' ho0 (Kd.R_lt HO103.out)) (below_size bB)); have n2_ := Aside0.mk (below_step bB hb); clear HO103; clear HB; have HO103 := n0_; have HO106 := n1_; have HB := n2_; clear n0_ n1_ n2_; (try clear hb); (try clear hb2); (try clear hk); (try clear hi); (try clear ho0)))
    go_loopg [8] k1 (fun kq v8 w' => ∃ (x8_2 : Int), v8 = .int .i64 x8_2 ∧ Aside0 (verditerref04_rank.l1 kq l0 l1 x5_1 t101 t104 x8_2 = some r) ∧ Aside0 (kq ≤ k1) ∧ Aside0 (Kd.R (Kd.int .i64) 3 w' w.heap.size (fun k_ => some k_ ≠ (v105 : Value).ownBlock) v102 t101) ∧ Aside0 (Kd.R (Kd.int .i64) 3 w' w.heap.size (fun k_ => some k_ ≠ (v102 : Value).ownBlock) v105 t104) ∧ Aside0 (Below w.heap.size w w'))
    case atStart => exact ⟨(0), (by first | rfl | (simp; done) | (simp [*]; done)), H', ⟨Nat.le_refl _⟩, ⟨by (with_reducible repeat (first | apply Kd.R_alloc | apply Kd.R_drewN | apply Kd.R_drew)); exact Kd.R_mono HO103.out (fun _ hk => hk.2)⟩, ⟨by (with_reducible repeat (first | apply Kd.R_alloc | apply Kd.R_drewN | apply Kd.R_drew)); exact Kd.R_mono HO106.out (fun _ hk => hk.2)⟩, ⟨bB⟩⟩
    case round =>
     clear H'
     try clear c1
     try clear p2
     try clear c4
     try clear c4b0
     try clear p2
     obtain ⟨x8_2, rfl, HA, HK2, HO_6, HO_7, HB⟩ := hrel
     cases gk with
     | zero => exact absurd HA.out (by simp [verditerref04_rank.l1])
     | succ k2 =>
      have H := HA.out
      clear HA
      simp only [verditerref04_rank.l1] at H
      by_cases c9 : x8_2 < (t101.length : Int)
      ·
       rw [if_pos c9] at H
       have c9b0 : decide (x8_2 < (t101.length : Int)) = true := decide_eq_true c9
       clear c9
       have H' := Aside0.mk H
       clear H
       obtain ⟨Ao10, co10, eo10⟩ := Kd.R_slice HO_6.out
       subst eo10
       go_wp2
       go_loopg [9] k2 (fun kq v9 w' => ∃ (x9_3 : Int), v9 = .int .i64 x9_3 ∧ Aside0 (verditerref04_rank.l2 kq l0 l1 x5_1 t101 t104 x8_2 x9_3 = some r) ∧ Aside0 (kq ≤ k2) ∧ Aside0 (Kd.R (Kd.int .i64) 3 w' w.heap.size (fun k_ => some k_ ≠ (v105 : Value).ownBlock) (.slice Ao10 t101.length co10) t101) ∧ Aside0 (Kd.R (Kd.int .i64) 3 w' w.heap.size (fun k_ => some k_ ≠ ((.slice Ao10 t101.length co10) : Value).ownBlock) v105 t104) ∧ Aside0 (Below w.heap.size w w'))
       case atStart => exact ⟨(0), (by first | rfl | (simp; done) | (simp [*]; done)), H', ⟨Nat.le_refl _⟩, ⟨by (with_reducible repeat (first | apply Kd.R_alloc | apply Kd.R_drewN | apply Kd.R_drew)); exact HO_6.out⟩, ⟨by (with_reducible repeat (first | apply Kd.R_alloc | apply Kd.R_drewN | apply Kd.R_drew)); exact HO_7.out⟩, ⟨bB⟩⟩
       case round =>
        clear H'
        try clear c1
        try clear p2
        try clear c4
        try clear c4b0
        try clear c9
        try clear c9b0
        try clear p2
        obtain ⟨x9_3, rfl, HA, HK3, HO_6, HO_7, HB⟩ := hrel
        cases gk with
        | zero => exact absurd HA.out (by simp [verditerref04_rank.l2])
        | succ k3 =>
         have H := HA.out
         clear HA
         simp only [verditerref04_rank.l2] at H
         by_cases c11 : x9_3 < (t104.length : Int)
         ·
          rw [if_pos c11] at H
          have c11b0 : decide (x9_3 < (t104.length : Int)) = true := decide_eq_true c11
          clear c11
          by_cases c12 : 0 ≤ x9_3
          ·
           rw [if_pos c12] at H
           have c12b0 : decide (0 ≤ x9_3) = true := decide_eq_true c12
           clear c12
           replace H := Option.bind_eq_some_iff.mp H
           obtain ⟨t108, A130, H⟩ := H
           replace H : (verditerref04_rank.l3 k3 l0 l1 x5_1 t101 t104 x8_2 x9_3 ([] : List Int) t108 (t108.length : Int) 0) = some r := H
           have A13 := Aside0.mk A130
           clear A130
           have H' := Aside0.mk H
           clear H
           obtain ⟨Ao14, co14, eo14⟩ := Kd.R_slice HO_7.out
           subst eo14
           have p107 : 0 ≤ (x9_3 : Int) := of_decide_eq_true (by assumption)
           have q107 : x9_3 < (t104.length : Int) := of_decide_eq_true (by assumption)
           obtain ⟨ad107, e107, hx107_0⟩ := Kd.at_int (Kd.R_reads' HO_7.out).2.2 x9_3 p107 q107
           cases e107
           replace p107 := eq_true p107
           replace q107 := eq_true q107
           go_wp2_with (first | ((with_reducible refine gate_callee (f := 103) rfl ?_); refine goesL_ (some 46) rfl rfl Try.func103 (by kernel_rfl) rfl #[.int .i64 (rd t104 x9_3)] rfl hA ?_; (with_reducible refine (verditerref04_list.calls k3 (rd t104 x9_3) t108 _ A13.out).mono ?_); rintro e w15 ⟨v109, rfl, ho0, hb⟩; refine ⟨_, rfl, ?_⟩; have n0_ := Aside0.mk (Kd.R_elder' HO_6.out (Kd.R_base ho0) hb); have n1_ := Aside0.mk (Kd.R_elder' HO_7.out (Kd.R_base ho0) hb); have n2_ := Aside0.mk (Kd.R_lower (Kd.R_new' (Kd.R_new' ho0 (Kd.R_lt HO_6.out)) (Kd.R_lt HO_7.out)) (below_size bB)); have n3_ := Aside0.mk (below_step bB hb); clear HO_6; clear HO_7; clear HB; have HO_6 := n0_; have HO_7 := n1_; have HO110 := n2_; have HB := n3_; clear n0_ n1_ n2_ n3_; (try clear hb); (try clear hb2); (try clear hk); (try clear hi); (try clear ho0); obtain ⟨Ao16, co16, eo16⟩ := Kd.R_slice HO110.out; subst eo16))
           go_loopg [10, 48] k3 (fun kq v10 v48 w' => ∃ (x10_4 : List Int) (x48_4 : Int), v48 = .int .i64 x48_4 ∧ Aside0 (verditerref04_rank.l3 kq l0 l1 x5_1 t101 t104 x8_2 x9_3 x10_4 t108 (t108.length : Int) x48_4 = some r) ∧ Aside0 (kq ≤ k3) ∧ Aside0 (Kd.R (Kd.int .i64) 3 w' w.heap.size (fun k_ => some k_ ≠ ((.slice (some ad107) t104.length co14) : Value).ownBlock ∧ some k_ ≠ (v10 : Value).ownBlock ∧ some k_ ≠ ((.slice Ao16 t108.length co16) : Value).ownBlock) (.slice Ao10 t101.length co10) t101) ∧ Aside0 (Kd.R (Kd.int .i64) 3 w' w.heap.size (fun k_ => some k_ ≠ ((.slice Ao10 t101.length co10) : Value).ownBlock ∧ some k_ ≠ (v10 : Value).ownBlock ∧ some k_ ≠ ((.slice Ao16 t108.length co16) : Value).ownBlock) (.slice (some ad107) t104.length co14) t104) ∧ Aside0 (Kd.R (Kd.int .i64) 3 w' w.heap.size (fun k_ => some k_ ≠ ((.slice Ao10 t101.length co10) : Value).ownBlock ∧ some k_ ≠ ((.slice (some ad107) t104.length co14) : Value).ownBlock ∧ some k_ ≠ ((.slice Ao16 t108.length co16) : Value).ownBlock) v10 x10_4) ∧ Aside0 (Kd.R (Kd.int .i64) 3 w' w.heap.size (fun k_ => some k_ ≠ ((.slice Ao10 t101.length co10) : Value).ownBlock ∧ some k_ ≠ ((.slice (some ad107) t104.length co14) : Value).ownBlock ∧ some k_ ≠ (v10 : Value).ownBlock) (.slice Ao16 t108.length co16) t108) ∧ Aside0 (Below w.heap.size w w'))
           case atStart => exact ⟨(([] : List Int)), (0), (by first | rfl | (simp; done) | (simp [*]; done)), H', ⟨Nat.le_refl _⟩, ⟨by (with_reducible repeat (first | apply Kd.R_alloc | apply Kd.R_drewN | apply Kd.R_drew)); exact Kd.R_mono HO_6.out (fun _ hk => ⟨hk.1, ⟨(by simp [Value.ownBlock]), hk.2⟩⟩)⟩, ⟨by (with_reducible repeat (first | apply Kd.R_alloc | apply Kd.R_drewN | apply Kd.R_drew)); exact Kd.R_mono HO_7.out (fun _ hk => ⟨hk.1, ⟨(by simp [Value.ownBlock]), hk.2⟩⟩)⟩, ⟨by first | exact Kd.R_nil _ _ _ _ _ | exact Kd.N_nil _ _ _ _ _ | exact Kd.V_nil _ _ _ _ _ | exact Kd.Q_nil _ _ _ _ _ | exact Kd.S_nil _ _ _ _ _⟩, ⟨by (with_reducible repeat (first | apply Kd.R_alloc | apply Kd.R_drewN | apply Kd.R_drew)); exact Kd.R_mono HO110.out (fun _ hk => ⟨hk.1.2, ⟨hk.2, (by simp [Value.ownBlock])⟩⟩)⟩, ⟨bB⟩⟩
           case round =>
            clear H'
            try clear c1
            try clear p1
            try clear q1
            try clear hx1
            try clear p2
            try clear c4
            try clear c4b0
            try clear c9
            try clear c9b0
            try clear c10
            try clear p10
            try clear q10
            try clear hx10
            try clear c11
            try clear c11b0
            try clear c12
            try clear c12b0
            try clear hx107_0
            try clear p107
            try clear p2
            try clear q107
            obtain ⟨x10_4, x48_4, rfl, HA, HK4, HO_6, HO_7, HO_10, HO_46, HB⟩ := hrel
            cases gk with
            | zero => exact absurd HA.out (by simp [verditerref04_rank.l3])
            | succ k4 =>
             have H := HA.out
             clear HA
             simp only [verditerref04_rank.l3] at H
             by_cases c17 : x48_4 < (t108.length : Int)
             ·
              rw [if_pos c17] at H
              have c17b0 : decide (x48_4 < (t108.length : Int)) = true := decide_eq_true c17
              clear c17
              by_cases c18 : 0 ≤ x48_4
              ·
               rw [if_pos c18] at H
               have c18b0 : decide (0 ≤ x48_4) = true := decide_eq_true c18
               clear c18
               by_cases c19 : x48_4 < (t108.length : Int)
               ·
                rw [if_pos c19] at H
                have c19b0 : decide (x48_4 < (t108.length : Int)) = true := decide_eq_true c19
                clear c19
                by_cases c20 : 0 ≤ (rd t108 x48_4)
                ·
                 rw [if_pos c20] at H
                 have c20b0 : decide (0 ≤ (rd t108 x48_4)) = true := decide_eq_true c20
                 clear c20
                 by_cases c21 : (rd t108 x48_4) < (l1.length : Int)
                 ·
                  rw [if_pos c21] at H
                  have c21b0 : decide ((rd t108 x48_4) < (l1.length : Int)) = true := decide_eq_true c21
                  clear c21
                  by_cases c22 : x10_4.length < 17592186044416
                  ·
                   rw [if_pos c22] at H
                   have LMc22 := Aside0.mk c22
                   clear c22
                   obtain ⟨y113, hy113⟩ : ∃ y_ : List Int, y_ = (x10_4 ++ [rd l1 (rd t108 x48_4)]) := ⟨_, rfl⟩
                   replace H : (verditerref04_rank.l3 k4 l0 l1 x5_1 t101 t104 x8_2 x9_3 y113 t108 (t108.length : Int) (wrap64 (x48_4 + 1))) = some r := by first | (rw [hy113]; with_reducible exact H) | (have H2_ := (Option.bind_some _ _).symm.trans H; rw [hy113]; with_reducible exact H2_) | (have H2_ := (Option.bind_some _ _).symm.trans H; with_reducible exact H2_) | with_reducible exact H | (rw [hy113]; exact H) | exact H
                   have Ny113 := Aside0.mk hy113
                   clear hy113
                   have H' := Aside0.mk H
                   clear H
                   have p111 : 0 ≤ (x48_4 : Int) := of_decide_eq_true (by assumption)
                   have q111 : x48_4 < (t108.length : Int) := of_decide_eq_true (by assumption)
                   obtain ⟨ad111, e111, hx111_0⟩ := Kd.at_int (Kd.R_reads' HO_46.out).2.2 x48_4 p111 q111
                   cases e111
                   replace p111 := eq_true p111
                   replace q111 := eq_true q111
                   have p112 : 0 ≤ ((rd t108 x48_4) : Int) := of_decide_eq_true (by assumption)
                   have q112 : (rd t108 x48_4) < (l1.length : Int) := of_decide_eq_true (by assumption)
                   obtain ⟨ad112, e112, hx112_0⟩ := Kd.at_int HR1.out (rd t108 x48_4) p112 q112
                   cases e112
                   replace hx112_0 := (HB.out.cell (World.block_lt_of_cell? w _ hx112_0)).trans hx112_0
                   replace p112 := eq_true p112
                   replace q112 := eq_true q112
                   go_wp2_with (first | ((with_reducible refine gate_builtin (b := .append) (xs := #[.tmp 52, .tmp 57]) rfl ?_); at_builtin; refine Kd.R_append (Kd.int .i64) (w0 := w) w.heap.size rfl (.tmp 52) (.tmp 57) 28 3 (.int .i64 0) 8 rfl Try.underlying28 info3 rfl (by decide) (by omega) u10 x10_4 (rd l1 (rd t108 x48_4)) [.int .i64 (rd l1 (rd t108 x48_4))] (fun k_ => some k_ ≠ (.slice Ao10 t101.length co10 : Value).ownBlock ∧ some k_ ≠ (.slice (some ad107) t104.length co14 : Value).ownBlock ∧ some k_ ≠ (.slice (some ad111) t108.length co16 : Value).ownBlock) (fun _ => False) rfl rfl ?aP (fun _ hk => hk.elim) ?aF ?aO ?aB ?aS ?aL ?_; (case aP => exact rfl); (case aB => exact bB); (case aF => exact (fun k_ hk => ⟨Kd.fresh' (Kd.R_lt HO_6.out) k_ hk, Kd.fresh' (Kd.R_lt HO_7.out) k_ hk, Kd.fresh' (Kd.R_lt HO_46.out) k_ hk⟩)); (case aO => exact HO_10.out); (case aS => exact (below_size bB)); (case aL => have := LMc22.out; omega); intro v114 w23 ho hb hg hat; rw [← Ny113.out] at ho; have n0_ := Aside0.mk (Kd.R_after (ok := (fun k_ => some k_ ≠ (.slice (some ad107) t104.length co14 : Value).ownBlock ∧ some k_ ≠ (.slice (some ad111) t108.length co16 : Value).ownBlock)) (by (with_reducible repeat (first | apply Kd.R_alloc | apply Kd.R_drewN | apply Kd.R_drew)); exact Kd.R_mono HO_6.out (fun _ hk => ⟨⟨hk.1, hk.2.2⟩, hk.2.1⟩)) hg hat); have n1_ := Aside0.mk (Kd.R_after (ok := (fun k_ => some k_ ≠ (.slice Ao10 t101.length co10 : Value).ownBlock ∧ some k_ ≠ (.slice (some ad111) t108.length co16 : Value).ownBlock)) (by (with_reducible repeat (first | apply Kd.R_alloc | apply Kd.R_drewN | apply Kd.R_drew)); exact Kd.R_mono HO_7.out (fun _ hk => ⟨⟨hk.1, hk.2.2⟩, hk.2.1⟩)) hg hat); have n2_ := Aside0.mk (Kd.R_after (ok := (fun k_ => some k_ ≠ (.slice Ao10 t101.length co10 : Value).ownBlock ∧ some k_ ≠ (.slice (some ad107) t104.length co14 : Value).ownBlock)) (by (with_reducible repeat (first | apply Kd.R_alloc | apply Kd.R_drewN | apply Kd.R_drew)); exact Kd.R_mono HO_46.out (fun _ hk => ⟨⟨hk.1, hk.2.1⟩, hk.2.2⟩)) hg hat); have n3_ := Aside0.mk (hb); have n4_ := Aside0.mk (ho); clear HO_6; clear HO_7; clear HO_46; clear HB; clear HO_10; have HO_6 := n0_; have HO_7 := n1_; have HO_46 := n2_; have HB := n3_; have HO115 := n4_; clear n0_ n1_ n2_ n3_ n4_; clear ho hb hg hat))
                   go_roundg k4
                   case measure => have := HK1.out; have := HK2.out; have := HK3.out; have := HK4.out; omega
                   case rel => exact ⟨(y113), (wrap64 (x48_4 + 1)), (by first | rfl | (simp; done) | (simp [*]; done)), H', ⟨by have := HK1.out; have := HK2.out; have := HK3.out; have := HK4.out; omega⟩, ⟨by (with_reducible repeat (first | apply Kd.R_alloc | apply Kd.R_drewN | apply Kd.R_drew)); exact Kd.R_mono HO_6.out (fun _ hk => ⟨hk.1.1, ⟨hk.2, hk.1.2⟩⟩)⟩, ⟨by (with_reducible repeat (first | apply Kd.R_alloc | apply Kd.R_drewN | apply Kd.R_drew)); exact Kd.R_mono HO_7.out (fun _ hk => ⟨hk.1.1, ⟨hk.2, hk.1.2⟩⟩)⟩, ⟨by (with_reducible repeat (first | apply Kd.R_alloc | apply Kd.R_drewN | apply Kd.R_drew)); exact HO115.out⟩, ⟨by (with_reducible repeat (first | apply Kd.R_alloc | apply Kd.R_drewN | apply Kd.R_drew)); exact Kd.R_mono HO_46.out (fun _ hk => ⟨hk.1.1, ⟨hk.1.2, hk.2⟩⟩)⟩, ⟨bB⟩⟩
                  ·
                   rw [if_neg c22] at H
                   exact absurd H (by simp)
                 ·
                  rw [if_neg c21] at H
                  exact absurd H (by simp)
                ·
                 rw [if_neg c20] at H
                 exact absurd H (by simp)
               ·
                rw [if_neg c19] at H
                exact absurd H (by simp)
              ·
               rw [if_neg c18] at H
               exact absurd H (by simp)
             ·
              rw [if_neg c17] at H
              have c17b0 : decide (x48_4 < (t108.length : Int)) = false := decide_eq_false c17
              clear c17
              by_cases c24 : 0 ≤ x8_2
              ·
               rw [if_pos c24] at H
               have c24b0 : decide (0 ≤ x8_2) = true := decide_eq_true c24
               clear c24
               by_cases c25 : x8_2 < (t101.length : Int)
               ·
                rw [if_pos c25] at H
                have c25b0 : decide (x8_2 < (t101.length : Int)) = true := decide_eq_true c25
                clear c25
                replace H := Option.bind_eq_some_iff.mp H
                obtain ⟨t117, A260, H⟩ := H
                replace H : ((verditerref04_pick.f k4 l0 t117).bind fun t120 => ((verditerref04_determinant.f k4 t120 x10_4).bind fun t123 => (if t123 = 0 then (verditerref04_rank.l2 k4 l0 l1 x5_1 t101 t104 x8_2 (wrap64 (x9_3 + 1))) else (some x5_1)))) = some r := H
                have A26 := Aside0.mk A260
                clear A260
                replace H := Option.bind_eq_some_iff.mp H
                obtain ⟨t120, A270, H⟩ := H
                replace H : ((verditerref04_determinant.f k4 t120 x10_4).bind fun t123 => (if t123 = 0 then (verditerref04_rank.l2 k4 l0 l1 x5_1 t101 t104 x8_2 (wrap64 (x9_3 + 1))) else (some x5_1))) = some r := H
                have A27 := Aside0.mk A270
                clear A270
                replace H := Option.bind_eq_some_iff.mp H
                obtain ⟨t123, A280, H⟩ := H
                replace H : (if t123 = 0 then (verditerref04_rank.l2 k4 l0 l1 x5_1 t101 t104 x8_2 (wrap64 (x9_3 + 1))) else (some x5_1)) = some r := H
                have A28 := Aside0.mk A280
                clear A280
                by_cases c29 : t123 = 0
                ·
                 rw [if_pos c29] at H
                 have c29b0 : (t123 == 0) = true := beq_iff_eq.mpr c29
                 have c29b1 : (t123 != 0) = false := bne_eq_false_iff_eq.mpr c29
                 clear c29
                 have H' := Aside0.mk H
                 clear H
                 have p116 : 0 ≤ (x8_2 : Int) := of_decide_eq_true (by assumption)
                 have q116 : x8_2 < (t101.length : Int) := of_decide_eq_true (by assumption)
                 obtain ⟨ad116, e116, hx116_0⟩ := Kd.at_int (Kd.R_reads' HO_6.out).2.2 x8_2 p116 q116
                 cases e116
                 replace p116 := eq_true p116
                 replace q116 := eq_true q116
                 go_wp2_with (first | ((with_reducible refine gate_callee (f := 103) rfl ?_); refine goesL_ (some 65) rfl rfl Try.func103 (by kernel_rfl) rfl #[.int .i64 (rd t101 x8_2)] rfl hA ?_; (with_reducible refine (verditerref04_list.calls k4 (rd t101 x8_2) t117 _ A26.out).mono ?_); rintro e w30 ⟨v118, rfl, ho0, hb⟩; refine ⟨_, rfl, ?_⟩; have n0_ := Aside0.mk (Kd.R_elder' HO_6.out (Kd.R_base ho0) hb); have n1_ := Aside0.mk (Kd.R_elder' HO_7.out (Kd.R_base ho0) hb); have n2_ := Aside0.mk (Kd.R_elder' HO_10.out (Kd.R_base ho0) hb); have n3_ := Aside0.mk (Kd.R_elder' HO_46.out (Kd.R_base ho0) hb); have n4_ := Aside0.mk (Kd.R_lower (Kd.R_new' (Kd.R_new' (Kd.R_new' (Kd.R_new' ho0 (Kd.R_lt HO_6.out)) (Kd.R_lt HO_7.out)) (Kd.R_lt HO_10.out)) (Kd.R_lt HO_46.out)) (below_size bB)); have n5_ := Aside0.mk (below_step bB hb); clear HO_6; clear HO_7; clear HO_10; clear HO_46; clear HB; have HO_6 := n0_; have HO_7 := n1_; have HO_10 := n2_; have HO_46 := n3_; have HO119 := n4_; have HB := n5_; clear n0_ n1_ n2_ n3_ n4_ n5_; (try clear hb); (try clear hb2); (try clear hk); (try clear hi); (try clear ho0); obtain ⟨Ao31, co31, eo31⟩ := Kd.R_slice HO119.out; subst eo31) | ((with_reducible refine gate_callee (f := 102) rfl ?_); refine goesL_ (some 66) rfl rfl Try.func102 (by kernel_rfl) rfl #[.slice A0 l0.length c0, .slice Ao31 t117.length co31] rfl hA ?_; (with_reducible refine (verditerref04_pick.calls k4 (fun k_ => k_ < w.heap.size) _ _ l0 _ _ t117 t120 _ ?side1 ?side2 ?side3 A27.out).mono ?_); (case side1 => exact Kd.V_mk HC0.out (Kd.F_below (Kd.C_F (Kd.heap_slice 3 (Kd.heap_int .i64)) HR0.out) bB)); (case side2 => exact (Kd.R_reads' HO119.out).2.2); (case side3 => exact (Kd.R_reads' HO119.out).2.1); rintro e w32 ⟨v121, rfl, ho0, hb⟩; refine ⟨_, rfl, ?_⟩; have n0_ := Aside0.mk (Kd.R_below HO_6.out hb); have n1_ := Aside0.mk (Kd.R_below HO_7.out hb); have n2_ := Aside0.mk (Kd.R_below HO_10.out hb); have n3_ := Aside0.mk (Kd.R_below HO_46.out hb); have n4_ := Aside0.mk (Kd.R_below HO119.out hb); have n5_ := Aside0.mk (Kd.N_lower (Kd.N_mono (ok' := fun k_ => some k_ ≠ (.slice (some ad116) t101.length co10 : Value).ownBlock ∧ some k_ ≠ (.slice (some ad107) t104.length co14 : Value).ownBlock ∧ some k_ ≠ (u10 : Value).ownBlock ∧ some k_ ≠ (.slice Ao16 t108.length co16 : Value).ownBlock ∧ some k_ ≠ (.slice Ao31 t117.length co31 : Value).ownBlock) ho0 (fun k_ hk_ => ⟨Or.elim hk_ (fun hs_ => fun e_ => Nat.not_le.2 hs_ (Kd.R_base HO_6.out k_ e_.symm)) (fun hn_ => (Kd.fresh' (Kd.R_lt HO_6.out) k_ hn_)), Or.elim hk_ (fun hs_ => fun e_ => Nat.not_le.2 hs_ (Kd.R_base HO_7.out k_ e_.symm)) (fun hn_ => (Kd.fresh' (Kd.R_lt HO_7.out) k_ hn_)), Or.elim hk_ (fun hs_ => fun e_ => Nat.not_le.2 hs_ (Kd.R_base HO_10.out k_ e_.symm)) (fun hn_ => (Kd.fresh' (Kd.R_lt HO_10.out) k_ hn_)), Or.elim hk_ (fun hs_ => fun e_ => Nat.not_le.2 hs_ (Kd.R_base HO_46.out k_ e_.symm)) (fun hn_ => (Kd.fresh' (Kd.R_lt HO_46.out) k_ hn_)), Or.elim hk_ (fun hs_ => fun e_ => Nat.not_le.2 hs_ (Kd.R_base HO119.out k_ e_.symm)) (fun hn_ => (Kd.fresh' (Kd.R_lt HO119.out) k_ hn_))⟩)) (below_size bB)); have n6_ := Aside0.mk (below_step bB hb); clear HO_6; clear HO_7; clear HO_10; clear HO_46; clear HO119; clear HB; have HO_6 := n0_; have HO_7 := n1_; have HO_10 := n2_; have HO_46 := n3_; have HO119 := n4_; have HO122 := n5_; have HB := n6_; clear n0_ n1_ n2_ n3_ n4_ n5_ n6_; (try clear hb); (try clear hb2); (try clear hk); (try clear hi); (try clear ho0); obtain ⟨Ao33, co33, eo33⟩ := Kd.N_slice HO122.out; subst eo33; obtain ⟨Ao34, co34, eo34⟩ := Kd.R_slice HO_10.out; subst eo34) | ((with_reducible refine gate_callee (f := 124) rfl ?_); refine goesL_ (some 68) rfl rfl Try.func124 (by kernel_rfl) rfl #[.slice Ao33 t120.length co33, .slice Ao34 x10_4.length co34] rfl hA ?_; (with_reducible refine (verditerref04_determinant.calls k4 _ _ t120 _ _ x10_4 t123 _ ?side1 ?side2 ?side3 ?side4 A28.out).mono ?_); (case side1 => exact (Kd.N_reads' HO122.out).2.2); (case side2 => exact (Kd.N_reads' HO122.out).2.1); (case side3 => exact (Kd.R_reads' HO_10.out).2.2); (case side4 => exact (Kd.R_reads' HO_10.out).2.1); rintro e w35 ⟨rfl, hb⟩; refine ⟨_, rfl, ?_⟩; have n0_ := Aside0.mk (Kd.R_below HO_6.out hb); have n1_ := Aside0.mk (Kd.R_below HO_7.out hb); have n2_ := Aside0.mk (Kd.R_below HO_10.out hb); have n3_ := Aside0.mk (Kd.R_below HO_46.out hb); have n4_ := Aside0.mk (Kd.R_below HO119.out hb); have n5_ := Aside0.mk (Kd.N_below HO122.out hb); have n6_ := Aside0.mk (below_step bB hb); clear HO_6; clear HO_7; clear HO_10; clear HO_46; clear HO119; clear HO122; clear HB; have HO_6 := n0_; have HO_7 := n1_; have HO_10 := n2_; have HO_46 := n3_; have HO119 := n4_; have HO122 := n5_; have HB := n6_; clear n0_ n1_ n2_ n3_ n4_ n5_ n6_; (try clear hb); (try clear hb2); (try clear hk); (try clear hi)))
                 go_roundg k4
                 case measure => have := HK1.out; have := HK2.out; have := HK3.out; have := HK4.out; omega
                 case rel => exact ⟨(wrap64 (x9_3 + 1)), (by first | rfl | (simp; done) | (simp [*]; done)), H', ⟨by have := HK1.out; have := HK2.out; have := HK3.out; have := HK4.out; omega⟩, ⟨by (with_reducible repeat (first | apply Kd.R_alloc | apply Kd.R_drewN | apply Kd.R_drew)); exact Kd.R_mono HO_6.out (fun _ hk => hk.1.1)⟩, ⟨by (with_reducible repeat (first | apply Kd.R_alloc | apply Kd.R_drewN | apply Kd.R_drew)); exact Kd.R_mono HO_7.out (fun _ hk => hk.1.1)⟩, ⟨bB⟩⟩
                ·
                 rw [if_neg c29] at H
                 have c29b0 : (t123 == 0) = false := beq_eq_false_iff_ne.mpr c29
                 have c29b1 : (t123 != 0) = true := bne_iff_ne.mpr c29
                 obtain rfl := Option.some.inj H
                 have p116 : 0 ≤ (x8_2 : Int) := of_decide_eq_true (by assumption)
                 have q116 : x8_2 < (t101.length : Int) := of_decide_eq_true (by assumption)
                 obtain ⟨ad116, e116, hx116_0⟩ := Kd.at_int (Kd.R_reads' HO_6.out).2.2 x8_2 p116 q116
                 cases e116
                 replace p116 := eq_true p116
                 replace q116 := eq_true q116
                 go_wp2_with (first | ((with_reducible refine gate_callee (f := 103) rfl ?_); refine goesL_ (some 65) rfl rfl Try.func103 (by kernel_rfl) rfl #[.int .i64 (rd t101 x8_2)] rfl hA ?_; (with_reducible refine (verditerref04_list.calls k4 (rd t101 x8_2) t117 _ A26.out).mono ?_); rintro e w36 ⟨v118, rfl, ho0, hb⟩; refine ⟨_, rfl, ?_⟩; have n0_ := Aside0.mk (Kd.R_elder' HO_6.out (Kd.R_base ho0) hb); have n1_ := Aside0.mk (Kd.R_elder' HO_7.out (Kd.R_base ho0) hb); have n2_ := Aside0.mk (Kd.R_elder' HO_10.out (Kd.R_base ho0) hb); have n3_ := Aside0.mk (Kd.R_elder' HO_46.out (Kd.R_base ho0) hb); have n4_ := Aside0.mk (Kd.R_lower (Kd.R_new' (Kd.R_new' (Kd.R_new' (Kd.R_new' ho0 (Kd.R_lt HO_6.out)) (Kd.R_lt HO_7.out)) (Kd.R_lt HO_10.out)) (Kd.R_lt HO_46.out)) (below_size bB)); have n5_ := Aside0.mk (below_step bB hb); clear HO_6; clear HO_7; clear HO_10; clear HO_46; clear HB; have HO_6 := n0_; have HO_7 := n1_; have HO_10 := n2_; have HO_46 := n3_; have HO119 := n4_; have HB := n5_; clear n0_ n1_ n2_ n3_ n4_ n5_; (try clear hb); (try clear hb2); (try clear hk); (try clear hi); (try clear ho0); obtain ⟨Ao37, co37, eo37⟩ := Kd.R_slice HO119.out; subst eo37) | ((with_reducible refine gate_callee (f := 102) rfl ?_); refine goesL_ (some 66) rfl rfl Try.func102 (by kernel_rfl) rfl #[.slice A0 l0.length c0, .slice Ao37 t117.length co37] rfl hA ?_; (with_reducible refine (verditerref04_pick.calls k4 (fun k_ => k_ < w.heap.size) _ _ l0 _ _ t117 t120 _ ?side1 ?side2 ?side3 A27.out).mono ?_); (case side1 => exact Kd.V_mk HC0.out (Kd.F_below (Kd.C_F (Kd.heap_slice 3 (Kd.heap_int .i64)) HR0.out) bB)); (case side2 => exact (Kd.R_reads' HO119.out).2.2); (case side3 => exact (Kd.R_reads' HO119.out).2.1); rintro e w38 ⟨v121, rfl, ho0, hb⟩; refine ⟨_, rfl, ?_⟩; have n0_ := Aside0.mk (Kd.R_below HO_6.out hb); have n1_ := Aside0.mk (Kd.R_below HO_7.out hb); have n2_ := Aside0.mk (Kd.R_below HO_10.out hb); have n3_ := Aside0.mk (Kd.R_below HO_46.out hb); have n4_ := Aside0.mk (Kd.R_below HO119.out hb); have n5_ := Aside0.mk (Kd.N_lower (Kd.N_mono (ok' := fun k_ => some k_ ≠ (.slice (some ad116) t101.length co10 : Value).ownBlock ∧ some k_ ≠ (.slice (some ad107) t104.length co14 : Value).ownBlock ∧ some k_ ≠ (u10 : Value).ownBlock ∧ some k_ ≠ (.slice Ao16 t108.length co16 : Value).ownBlock ∧ some k_ ≠ (.slice Ao37 t117.length co37 : Value).ownBlock) ho0 (fun k_ hk_ => ⟨Or.elim hk_ (fun hs_ => fun e_ => Nat.not_le.2 hs_ (Kd.R_base HO_6.out k_ e_.symm)) (fun hn_ => (Kd.fresh' (Kd.R_lt HO_6.out) k_ hn_)), Or.elim hk_ (fun hs_ => fun e_ => Nat.not_le.2 hs_ (Kd.R_base HO_7.out k_ e_.symm)) (fun hn_ => (Kd.fresh' (Kd.R_lt HO_7.out) k_ hn_)), Or.elim hk_ (fun hs_ => fun e_ => Nat.not_le.2 hs_ (Kd.R_base HO_10.out k_ e_.symm)) (fun hn_ => (Kd.fresh' (Kd.R_lt HO_10.out) k_ hn_)), Or.elim hk_ (fun hs_ => fun e_ => Nat.not_le.2 hs_ (Kd.R_base HO_46.out k_ e_.symm)) (fun hn_ => (Kd.fresh' (Kd.R_lt HO_46.out) k_ hn_)), Or.elim hk_ (fun hs_ => fun e_ => Nat.not_le.2 hs_ (Kd.R_base HO119.out k_ e_.symm)) (fun hn_ => (Kd.fresh' (Kd.R_lt HO119.out) k_ hn_))⟩)) (below_size bB)); have n6_ := Aside0.mk (below_step bB hb); clear HO_6; clear HO_7; clear HO_10; clear HO_46; clear HO119; clear HB; have HO_6 := n0_; have HO_7 := n1_; have HO_10 := n2_; have HO_46 := n3_; have HO119 := n4_; have HO122 := n5_; have HB := n6_; clear n0_ n1_ n2_ n3_ n4_ n5_ n6_; (try clear hb); (try clear hb2); (try clear hk); (try clear hi); (try clear ho0); obtain ⟨Ao39, co39, eo39⟩ := Kd.N_slice HO122.out; subst eo39; obtain ⟨Ao40, co40, eo40⟩ := Kd.R_slice HO_10.out; subst eo40) | ((with_reducible refine gate_callee (f := 124) rfl ?_); refine goesL_ (some 68) rfl rfl Try.func124 (by kernel_rfl) rfl #[.slice Ao39 t120.length co39, .slice Ao40 x10_4.length co40] rfl hA ?_; (with_reducible refine (verditerref04_determinant.calls k4 _ _ t120 _ _ x10_4 t123 _ ?side1 ?side2 ?side3 ?side4 A28.out).mono ?_); (case side1 => exact (Kd.N_reads' HO122.out).2.2); (case side2 => exact (Kd.N_reads' HO122.out).2.1); (case side3 => exact (Kd.R_reads' HO_10.out).2.2); (case side4 => exact (Kd.R_reads' HO_10.out).2.1); rintro e w41 ⟨rfl, hb⟩; refine ⟨_, rfl, ?_⟩; have n0_ := Aside0.mk (Kd.R_below HO_6.out hb); have n1_ := Aside0.mk (Kd.R_below HO_7.out hb); have n2_ := Aside0.mk (Kd.R_below HO_10.out hb); have n3_ := Aside0.mk (Kd.R_below HO_46.out hb); have n4_ := Aside0.mk (Kd.R_below HO119.out hb); have n5_ := Aside0.mk (Kd.N_below HO122.out hb); have n6_ := Aside0.mk (below_step bB hb); clear HO_6; clear HO_7; clear HO_10; clear HO_46; clear HO119; clear HO122; clear HB; have HO_6 := n0_; have HO_7 := n1_; have HO_10 := n2_; have HO_46 := n3_; have HO119 := n4_; have HO122 := n5_; have HB := n6_; clear n0_ n1_ n2_ n3_ n4_ n5_ n6_; (try clear hb); (try clear hb2); (try clear hk); (try clear hi)))
                 go_ret
                 exact ⟨by first | rfl | (simp [errW_none, errW_some] <;> rfl) | (simp only [← hji3]; first | rfl | (simp [errW_none, errW_some] <;> rfl)) | (simp [*, errW_none, errW_some] <;> rfl), bB⟩
               ·
                rw [if_neg c25] at H
                exact absurd H (by simp)
              ·
               rw [if_neg c24] at H
               exact absurd H (by simp)
          ·
           rw [if_neg c12] at H
           exact absurd H (by simp)
         ·
          rw [if_neg c11] at H
          have c11b0 : decide (x9_3 < (t104.length : Int)) = false := decide_eq_false c11
          clear c11
          have H' := Aside0.mk H
          clear H
          obtain ⟨Ao42, co42, eo42⟩ := Kd.R_slice HO_7.out
          subst eo42
          go_wp2
          go_roundg k3
          case measure => have := HK1.out; have := HK2.out; have := HK3.out; omega
          case rel => exact ⟨(wrap64 (x8_2 + 1)), (by first | rfl | (simp; done) | (simp [*]; done)), H', ⟨by have := HK1.out; have := HK2.out; have := HK3.out; omega⟩, ⟨by (with_reducible repeat (first | apply Kd.R_alloc | apply Kd.R_drewN | apply Kd.R_drew)); exact HO_6.out⟩, ⟨by (with_reducible repeat (first | apply Kd.R_alloc | apply Kd.R_drewN | apply Kd.R_drew)); exact HO_7.out⟩, ⟨bB⟩⟩
      ·
       rw [if_neg c9] at H
       have c9b0 : decide (x8_2 < (t101.length : Int)) = false := decide_eq_false c9
       clear c9
       have H' := Aside0.mk H
       clear H
       obtain ⟨Ao43, co43, eo43⟩ := Kd.R_slice HO_6.out
       subst eo43
       go_wp2
       go_roundg k2
       case measure => have := HK1.out; have := HK2.out; omega
       case rel => exact ⟨(wrap64 (x5_1 - 1)), (by first | rfl | (simp; done) | (simp [*]; done)), H', ⟨by have := HK1.out; have := HK2.out; omega⟩, ⟨bB⟩⟩
   ·
    rw [if_neg c4] at H
    have c4b0 : decide (0 < x5_1) = false := decide_eq_false c4
    clear c4
    obtain rfl := Option.some.inj H
    go_wp2
    go_ret
    exact ⟨by first | rfl | (simp [errW_none, errW_some] <;> rfl) | (simp only [← hji3]; first | rfl | (simp [errW_none, errW_some] <;> rfl)) | (simp [*, errW_none, errW_some] <;> rfl), bB⟩
 )
end Go.Proofs.Ytdneelgnmnpanaa.P
end
section
namespace Go.Proofs.Ytdneelgnmnpanaa.P
open Go.RowKit Go.Proofs.YtdneelgnmnpanaaW.PrintWords Go.Proofs.Det
set_option linter.unusedVariables false
set_option linter.unusedSimpArgs false
def mnr (X : List (List Int)) (js : List Nat) (c q : Nat) : Int := det ((bits c).map fun e => X.getD e []) (((bits q).map fun e => js.getD e 0).map el)
theorem rr_l3 (X : List (List Int)) (js : List Nat) (r c : Nat) (cs rs : List Int) (i j : Int) (q : Nat) (hq : (bits q).length ≤ 1000) (hql : ∀ e ∈ bits q, e < js.length) (R : Int)
    (hend : Ev (fun k => verditerref04_rank.l3 k X (toI js) r cs rs i j (toI ((bits q).map fun e => js.getD e 0)) (toI (bits q)) ((bits q).length : Int) ((bits q).length : Int)) R) : ∀ (d t : Nat), t + d = (bits q).length →
    Ev (fun k => verditerref04_rank.l3 k X (toI js) r cs rs i j (toI (((bits q).take t).map fun e => js.getD e 0)) (toI (bits q)) ((bits q).length : Int) (t : Int)) R := by
  intro d
  induction d with
  | zero =>
    intro t ht
    rw [List.take_of_length_le (by omega), show t = (bits q).length by omega]
    exact hend
  | succ d ih =>
    intro t ht
    have h1 : t < (bits q).length := by omega
    have he := hql _ (List.getElem_mem h1)
    have hat : (toI (bits q)).getD t 0 = ((bits q)[t] : Int) := by
      rw [getD_at _ t _ (by simpa [toI] using h1)]
      simp only [toI, List.getElem_map]
    have hat2 : (toI js).getD (bits q)[t] 0 = ((js.getD (bits q)[t] 0 : Nat) : Int) := by
      rw [getD_at _ _ _ (by simpa [toI] using he), getD_at _ _ _ he]
      simp only [toI, List.getElem_map]
    have hl1 : (toI (bits q)).length = (bits q).length := by simp [toI]
    have hl2 : (toI js).length = js.length := by simp [toI]
    have hl3 : (toI (((bits q).take t).map fun e => js.getD e 0)).length = t := by simp [toI]; omega
    refine Ev.step (fun k => by rw [verditerref04_rank.l3]) ?_
    simp only [show ((t : Int) < ((bits q).length : Int)) by omega, show (0 : Int) ≤ (t : Int) by omega, if_true, hl1, rdn, hat, show (0 : Int) ≤ ((bits q)[t] : Int) by omega, hl2, show (((bits q)[t] : Int) < (js.length : Int)) by omega, hl3, show t < 17592186044416 by omega, hat2]
    rw [wr_succ (m := (bits q).length) h1 (by omega)]
    have e1 : toI (((bits q).take t).map fun e => js.getD e 0) ++ [((js.getD (bits q)[t] 0 : Nat) : Int)] = toI (((bits q).take (t + 1)).map fun e => js.getD e 0) := by
      unfold toI
      rw [List.take_succ_eq_append_getElem h1, List.map_append, List.map_append]
      rfl
    rw [e1]
    exact ih (t + 1) (by omega)
theorem rr_end (X : List (List Int)) (js : List Nat) (m r c q : Nat) (hjm : js.length = m) (hn : X.length < 7) (hm : m < 7) (h4 : r ≤ 4) (hX : Small X js) (hc : c ∈ chs X.length r) (hq : q ∈ chs m r) (cs rs : List Int) (i : Nat) (j : Int) (hi : i < cs.length) (hci : cs.getD i 0 = (c : Int)) (R : Int)
    (h : (mnr X js c q = 0 ∧ Ev (fun k => verditerref04_rank.l2 k X (toI js) r cs rs (i : Int) (wrap64 (j + 1))) R) ∨ (mnr X js c q ≠ 0 ∧ R = r)) :
    Ev (fun k => verditerref04_rank.l3 k X (toI js) r cs rs (i : Int) j (toI ((bits q).map fun e => js.getD e 0)) (toI (bits q)) ((bits q).length : Int) ((bits q).length : Int)) R := by
  obtain ⟨c1, c2, c3, c4⟩ := chs_mem hn hc
  obtain ⟨q1, q2, q3, q4⟩ := chs_mem hm hq
  refine Ev.step (fun k => by rw [verditerref04_rank.l3]) ?_
  have hlt : ¬ (((bits q).length : Int) < ((bits q).length : Int)) := by omega
  have hi0 : (0 : Int) ≤ (i : Int) := by omega
  have hi1 : ((i : Int) < (cs.length : Int)) := by omega
  simp only [hlt, if_false, hi0, hi1, if_true, rdn, hci]
  refine Ev.bind (list_ev c1) ?_
  refine Ev.bind (pick_ev X (bits c) c4 (by omega)) ?_
  have hsm : Small ((bits c).map fun e => X.getD e []) ((bits q).map fun e => js.getD e 0) := fun d hd e he => by
    obtain ⟨x, hx, rfl⟩ := List.mem_map.1 hd
    obtain ⟨y, hy, rfl⟩ := List.mem_map.1 he
    rw [getD_at X x _ (c4 x hx), getD_at js y _ (by rw [hjm]; exact q4 y hy)]
    exact hX _ (List.getElem_mem _) _ (List.getElem_mem _)
  have hdet := det_ev ((bits c).map fun e => X.getD e []) ((bits q).map fun e => js.getD e 0) (by rw [List.length_map, List.length_map, c2, q2]) (by rw [List.length_map, c2]; exact h4) hsm
  refine Ev.bind hdet ?_
  rcases h with ⟨h0, h1⟩ | ⟨h0, rfl⟩
  · unfold mnr at h0
    simp only [h0, if_true]
    exact h1
  · unfold mnr at h0
    simp only [h0, if_false]
    exact Ev.now _
theorem chs_len (n r : Nat) (h : n < 7) : (chs n r).length ≤ 64 := by
  unfold chs
  refine Nat.le_trans (List.length_filter_le _ _) ?_
  rw [List.length_range]
  exact Nat.le_trans (Nat.pow_le_pow_right (by omega) (show n ≤ 6 by omega)) (by decide)
theorem toI_at (l : List Nat) (i : Nat) (h : i < l.length) : (toI l).getD i 0 = (l[i] : Int) := by
  rw [getD_at _ i _ (by simpa [toI] using h)]
  simp only [toI, List.getElem_map]
theorem toI_len (l : List Nat) : (toI l).length = l.length := by simp [toI]
theorem rr_l2 (X : List (List Int)) (js : List Nat) (m r c : Nat) (hjm : js.length = m) (hn : X.length < 7) (hm : m < 7) (h4 : r ≤ 4) (hX : Small X js) (hc : c ∈ chs X.length r) (i : Nat) (hi : i < (chs X.length r).length) (hci : (chs X.length r)[i] = c) (R : Int) : ∀ (d j : Nat), j + d = (chs m r).length →
    ((∀ q ∈ (chs m r).drop j, mnr X js c q = 0) → Ev (fun k => verditerref04_rank.l1 k X (toI js) r (toI (chs X.length r)) (toI (chs m r)) (wrap64 ((i : Int) + 1))) R) →
    ((∃ q ∈ (chs m r).drop j, mnr X js c q ≠ 0) → R = r) →
    Ev (fun k => verditerref04_rank.l2 k X (toI js) r (toI (chs X.length r)) (toI (chs m r)) (i : Int) (j : Int)) R := by
  have h64 := chs_len m r hm
  intro d
  induction d with
  | zero =>
    intro j hj hgo _
    refine Ev.step (fun k => by rw [verditerref04_rank.l2]) ?_
    have f1 : ¬ ((j : Int) < ((chs m r).length : Int)) := by omega
    simp only [toI_len, f1, if_false]
    exact hgo (by rw [List.drop_eq_nil_of_le (by omega)]; simp)
  | succ d ih =>
    intro j hj hgo hno
    have h1 : j < (chs m r).length := by omega
    have hq : (chs m r)[j] ∈ chs m r := List.getElem_mem h1
    obtain ⟨q1, q2, q3, q4⟩ := chs_mem hm hq
    rw [List.drop_eq_getElem_cons h1] at hgo hno
    refine Ev.step (fun k => by rw [verditerref04_rank.l2]) ?_
    have f1 : ((j : Int) < ((chs m r).length : Int)) := by omega
    have f2 : (0 : Int) ≤ (j : Int) := by omega
    simp only [toI_len, f1, f2, if_true, rdn, toI_at _ j h1]
    refine Ev.bind (list_ev q1) ?_
    simp only [toI_len]
    refine rr_l3 X js r c _ _ _ _ (chs m r)[j] (by omega) (fun e he => by rw [hjm]; exact q4 e he) R ?_ (bits (chs m r)[j]).length 0 (by omega)
    refine rr_end X js m r c (chs m r)[j] hjm hn hm h4 hX hc hq _ _ i _ (by rw [toI_len]; exact hi) (by rw [toI_at _ i hi, hci]) R ?_
    by_cases hz : mnr X js c (chs m r)[j] = 0
    · refine .inl ⟨hz, ?_⟩
      rw [wr_succ (m := (chs m r).length) h1 (by omega)]
      refine ih (j + 1) (by omega) (fun hall => hgo (fun q hq => ?_)) (fun hex => hno ?_)
      · rcases List.mem_cons.1 hq with rfl | hq
        · exact hz
        · exact hall q hq
      · obtain ⟨q, hq, hne⟩ := hex
        exact ⟨q, List.mem_cons_of_mem _ hq, hne⟩
    · exact .inr ⟨hz, hno ⟨_, List.mem_cons_self .., hz⟩⟩
theorem rr_l1 (X : List (List Int)) (js : List Nat) (m r : Nat) (hjm : js.length = m) (hn : X.length < 7) (hm : m < 7) (h4 : r ≤ 4) (hX : Small X js) (R : Int) : ∀ (d i : Nat), i + d = (chs X.length r).length →
    ((∀ c ∈ (chs X.length r).drop i, ∀ q ∈ chs m r, mnr X js c q = 0) → Ev (fun k => verditerref04_rank.l0 k X (toI js) (wrap64 ((r : Int) - 1))) R) →
    ((∃ c ∈ (chs X.length r).drop i, ∃ q ∈ chs m r, mnr X js c q ≠ 0) → R = r) →
    Ev (fun k => verditerref04_rank.l1 k X (toI js) r (toI (chs X.length r)) (toI (chs m r)) (i : Int)) R := by
  have h64 := chs_len X.length r hn
  intro d
  induction d with
  | zero =>
    intro i hi hgo _
    refine Ev.step (fun k => by rw [verditerref04_rank.l1]) ?_
    have f1 : ¬ ((i : Int) < ((chs X.length r).length : Int)) := by omega
    simp only [toI_len, f1, if_false]
    exact hgo (by rw [List.drop_eq_nil_of_le (by omega)]; simp)
  | succ d ih =>
    intro i hi hgo hno
    have h1 : i < (chs X.length r).length := by omega
    rw [List.drop_eq_getElem_cons h1] at hgo hno
    refine Ev.step (fun k => by rw [verditerref04_rank.l1]) ?_
    have f1 : ((i : Int) < ((chs X.length r).length : Int)) := by omega
    simp only [toI_len, f1, if_true]
    refine rr_l2 X js m r (chs X.length r)[i] hjm hn hm h4 hX (List.getElem_mem h1) i h1 rfl R (chs m r).length 0 (by omega) (fun hall => ?_) (fun hex => hno ?_)
    · rw [wr_succ (m := (chs X.length r).length) h1 (by omega)]
      rw [List.drop_zero] at hall
      refine ih (i + 1) (by omega) (fun hall2 => hgo (fun c hc => ?_)) (fun hex => hno ?_)
      · rcases List.mem_cons.1 hc with rfl | hc
        · exact hall
        · exact hall2 c hc
      · obtain ⟨c, hc, hne⟩ := hex
        exact ⟨c, List.mem_cons_of_mem _ hc, hne⟩
    · rw [List.drop_zero] at hex
      exact ⟨_, List.mem_cons_self .., hex⟩
theorem rr_l0 (X : List (List Int)) (js : List Nat) (m : Nat) (hjm : js.length = m) (hn : X.length < 7) (hm : m < 7) (hX : Small X js) (R : Nat) (hnz : R = 0 ∨ ∃ c ∈ chs X.length R, ∃ q ∈ chs m R, mnr X js c q ≠ 0) : ∀ (r : Nat), R ≤ r → r ≤ 4 → (∀ r', R < r' → r' ≤ r → ∀ c ∈ chs X.length r', ∀ q ∈ chs m r', mnr X js c q = 0) →
    Ev (fun k => verditerref04_rank.l0 k X (toI js) (r : Int)) (R : Int)
  | 0, h0, _, _ => by
    refine Ev.step (fun k => by rw [verditerref04_rank.l0]) ?_
    have f1 : ¬ (((0 : Nat) : Int) > 0) := by omega
    simp only [f1, if_false]
    rw [show R = 0 by omega]
    exact Ev.now _
  | r + 1, hr, h4, hz => by
    refine Ev.step (fun k => by rw [verditerref04_rank.l0]) ?_
    have f1 : (((r + 1 : Nat) : Int) > 0) := by omega
    simp only [f1, if_true, toI_len, hjm]
    refine Ev.bind (choose_ev hn (by omega)) ?_
    refine Ev.bind (choose_ev hm (by omega)) ?_
    refine rr_l1 X js m (r + 1) hjm hn hm h4 hX R (chs X.length (r + 1)).length 0 (by omega) (fun hall => ?_) (fun hex => ?_)
    · rw [show wrap64 (((r + 1 : Nat) : Int) - 1) = (r : Int) by rw [wrp (by omega) (by omega)]; omega]
      rw [List.drop_zero] at hall
      have hRr : R ≤ r := by
        by_cases c : R ≤ r
        · exact c
        · exfalso
          rcases hnz with h | ⟨c1, hc1, q1, hq1, hne⟩
          · omega
          · rw [show R = r + 1 by omega] at hc1 hq1
            exact hne (hall c1 hc1 q1 hq1)
      exact rr_l0 X js m hjm hn hm hX R hnz r hRr (by omega) (fun r' h1 h2 => hz r' h1 (by omega))
    · rw [List.drop_zero] at hex
      obtain ⟨c1, hc1, q1, hq1, hne⟩ := hex
      by_cases c : R = r + 1
      · rw [c]
      · exact absurd (hz (r + 1) (by omega) (Nat.le_refl _) c1 hc1 q1 hq1) hne
end Go.Proofs.Ytdneelgnmnpanaa.P
end
section
namespace Go.Proofs.Det
def Prp (n : Nat) (u w : Nat → Int) : Prop := ∀ j, j < n → ∀ k, k < n → w j * u k = w k * u j
end Go.Proofs.Det
end
section
namespace Go.Proofs.Det
def dt : Nat → (Nat → Int) → (Nat → Int) → Int
  | 0, _, _ => 0
  | m + 1, y, a => dt m y a + y m * a m
theorem dot_comb (m : Nat) (y : Nat → Int) (p q : Int) (u v : Nat → Int) : dt m y (comb p u q v) = p * dt m y u + q * dt m y v := by
  induction m with
  | zero => simp [dt]
  | succ m ih =>
    rw [dt, dt, dt, ih]
    simp only [comb]
    grind
theorem dot_comm (m : Nat) (y a : Nat → Int) : dt m y a = dt m a y := by
  induction m with
  | zero => rfl
  | succ m ih => rw [dt, dt, ih, Int.mul_comm]
end Go.Proofs.Det
end
section
namespace Go.Proofs.Det
set_option linter.unusedVariables false
theorem dot_at0 : ∀ (n : Nat) (r v : Nat → Int), (∀ j, j < n → r j * v j = 0) → dt n r v = 0
  | 0, _, _, _ => rfl
  | n + 1, r, v, h => by rw [dt, dot_at0 n r v (fun j hj => h j (by omega)), h n (by omega)]; rfl
theorem dot_at1 : ∀ (n : Nat) (r v : Nat → Int) (c : Nat), c < n → (∀ j, j < n → j ≠ c → r j * v j = 0) → dt n r v = r c * v c
  | 0, _, _, c, h, _ => by omega
  | n + 1, r, v, c, hc, h => by
    rw [dt]
    by_cases e : c = n
    · rw [dot_at0 n r v (fun j hj => h j (by omega) (by omega)), e]
      omega
    · rw [dot_at1 n r v c (by omega) (fun j hj => h j (by omega)), h n (by omega) (by omega)]
      omega
theorem dot_at2 : ∀ (n : Nat) (r v : Nat → Int) (c f : Nat), c < n → f < n → c ≠ f → (∀ j, j < n → j ≠ c → j ≠ f → r j * v j = 0) → dt n r v = r c * v c + r f * v f
  | 0, _, _, c, _, h, _, _, _ => by omega
  | n + 1, r, v, c, f, hc, hf, hne, h => by
    rw [dt]
    by_cases e : c = n
    · rw [dot_at1 n r v f (by omega) (fun j hj h2 => h j (by omega) (by omega) h2), e]
      omega
    · by_cases e2 : f = n
      · rw [dot_at1 n r v c (by omega) (fun j hj h2 => h j (by omega) h2 (by omega)), e2]
      · rw [dot_at2 n r v c f (by omega) (by omega) hne (fun j hj => h j (by omega)), h n (by omega) (by omega) (by omega)]
        omega
def Ker (n : Nat) (S : (Nat → Int) → Prop) (v : Nat → Int) : Prop := ∀ r, S r → dt n r v = 0
theorem ker_gen {n : Nat} {S S' : (Nat → Int) → Prop} (h : ∀ r, S r → Gen S' r) {v : Nat → Int} (hv : Ker n S' v) : Ker n S v := fun r hr =>
  gen_orth (fun r => dt n r v) (fun a u b w => by rw [dot_comm, dot_comb, dot_comm n v u, dot_comm n v w]) hv (h r hr)
def Gnr (n : Nat) (V : (Nat → Int) → Prop) (v : Nat → Int) : Prop := V v ∧ (∃ j, j < n ∧ v j ≠ 0) ∧ ∀ w, V w → Prp n v w
theorem gnr_iff {n : Nat} {V W : (Nat → Int) → Prop} (h : ∀ v, V v ↔ W v) {v : Nat → Int} (hv : Gnr n V v) : Gnr n W v := ⟨(h v).1 hv.1, hv.2.1, fun w hw => hv.2.2 w ((h w).2 hw)⟩
structure Ech (n : Nat) (A : Nat → Nat → Int) (Q : List Nat) : Prop where
  inc : Q.Pairwise (· < ·)
  lt : ∀ q ∈ Q, q < n
  piv : ∀ a c : Nat, Q[a]? = some c → A a c ≠ 0
  zer : ∀ a c : Nat, Q[a]? = some c → ∀ b, b ≠ a → A b c = 0
  low : ∀ b, Q.length ≤ b → ∀ c, c < n → A b c = 0
def Rws (A : Nat → Nat → Int) (r : Nat → Int) : Prop := ∃ b, r = A b
theorem nodup_sub : ∀ (l r : List Nat), l.Nodup → (∀ x ∈ l, x ∈ r) → l.length ≤ r.length
  | [], _, _, _ => by simp
  | a :: l, r, hn, h => by
    rw [List.nodup_cons] at hn
    have h1 := nodup_sub l (r.erase a) hn.2 (fun x hx => by
      have := h x (List.mem_cons_of_mem _ hx)
      exact (List.mem_erase_of_ne (fun e => hn.1 (by rw [← e]; exact hx))).2 this)
    have ha := h a (List.mem_cons_self ..)
    rw [List.length_erase_of_mem ha] at h1
    have := List.length_pos_of_mem ha
    rw [List.length_cons]
    omega
namespace Ech
variable {n : Nat} {A : Nat → Nat → Int} {Q : List Nat}
theorem nodup (h : Ech n A Q) : Q.Nodup := h.inc.imp (fun h => by omega)
theorem miss (h : Ech n A Q) (hl : Q.length < n) : ∃ f, f < n ∧ f ∉ Q := by
  by_cases c : ∃ f, f < n ∧ f ∉ Q
  · exact c
  · have := nodup_sub (List.range n) Q List.nodup_range (fun x hx => by
      by_cases c2 : x ∈ Q
      · exact c2
      · exact absurd ⟨x, List.mem_range.1 hx, c2⟩ c)
    rw [List.length_range] at this
    omega
theorem miss2 (h : Ech n A Q) (hl : Q.length + 1 < n) {f : Nat} : ∃ g, g < n ∧ g ∉ Q ∧ g ≠ f := by
  by_cases c : ∃ g, g < n ∧ g ∉ Q ∧ g ≠ f
  · exact c
  · have := nodup_sub (List.range n) (f :: Q) List.nodup_range (fun x hx => by
      by_cases c3 : x = f
      · rw [c3]; exact List.mem_cons_self ..
      · by_cases c2 : x ∈ Q
        · exact List.mem_cons_of_mem _ c2
        · exact absurd ⟨x, List.mem_range.1 hx, c2, c3⟩ c)
    rw [List.length_range, List.length_cons] at this
    omega
theorem cover (h : Ech n A Q) (hl : Q.length + 1 = n) {f : Nat} (hf : f < n) (hfQ : f ∉ Q) {j : Nat} (hj : j < n) : j ∈ Q ∨ j = f := by
  by_cases c : j ∈ Q
  · exact .inl c
  · by_cases c2 : j = f
    · exact .inr c2
    · have := nodup_le n (j :: f :: Q) (by
        rw [List.nodup_cons, List.nodup_cons]
        exact ⟨fun hm => by rcases List.mem_cons.1 hm with e | e; exact c2 e; exact c e, hfQ, h.nodup⟩) (fun x hx => by
        rcases List.mem_cons.1 hx with rfl | hx
        · exact hj
        · rcases List.mem_cons.1 hx with rfl | hx
          · exact hf
          · exact h.lt x hx)
      simp only [List.length_cons] at this
      omega
theorem full (h : Ech n A Q) (hl : Q.length = n) {j : Nat} (hj : j < n) : j ∈ Q := by
  by_cases c : j ∈ Q
  · exact c
  · have := nodup_le n (j :: Q) (by rw [List.nodup_cons]; exact ⟨c, h.nodup⟩) (fun x hx => by
      rcases List.mem_cons.1 hx with rfl | hx
      · exact hj
      · exact h.lt x hx)
    simp only [List.length_cons] at this
    omega
theorem len_le (h : Ech n A Q) : Q.length ≤ n := nodup_le n Q h.nodup h.lt
theorem same (h : Ech n A Q) {a b c : Nat} (ha : Q[a]? = some c) (hb : Q[b]? = some c) : a = b := by
  by_cases e : a = b
  · exact e
  · exact absurd (h.zer a c ha b (fun x => e x.symm)) (h.piv b c hb)
theorem idx {j : Nat} (hj : j ∈ Q) : ∃ a : Nat, Q[a]? = some j := by
  obtain ⟨a, ha, e⟩ := List.getElem_of_mem hj
  exact ⟨a, by rw [List.getElem?_eq_getElem ha, e]⟩
theorem ker1 (h : Ech n A Q) {f : Nat} (hf : f < n) (hfQ : f ∉ Q) {v : Nat → Int} (hz : ∀ j, j < n → j ∉ Q → j ≠ f → v j = 0) (hv : ∀ a c : Nat, Q[a]? = some c → A a c * v c + A a f * v f = 0) : Ker n (Rws A) v := by
  rintro r ⟨b, rfl⟩
  by_cases hb : b < Q.length
  · have hq : Q[b]? = some Q[b] := List.getElem?_eq_getElem hb
    have hm : Q[b] ∈ Q := List.getElem_mem hb
    rw [dot_at2 n (A b) v Q[b] f (h.lt _ hm) hf (fun e => hfQ (e ▸ hm)) (fun j hj h1 h2 => ?_)]
    · exact hv b _ hq
    · by_cases c : j ∈ Q
      · obtain ⟨a, ha⟩ := idx c
        rw [h.zer a j ha b (fun e => h1 (by rw [← e] at ha; rw [hq] at ha; exact (Option.some.inj ha).symm))]
        simp
      · rw [hz j hj c h2]
        simp
  · exact dot_at0 n (A b) v (fun j hj => by rw [h.low b (by omega) j hj]; simp)
theorem ker_at (h : Ech n A Q) (hl : Q.length + 1 = n) {f : Nat} (hf : f < n) (hfQ : f ∉ Q) {v : Nat → Int} (hv : Ker n (Rws A) v) {a c : Nat} (ha : Q[a]? = some c) : A a c * v c + A a f * v f = 0 := by
  have hm : c ∈ Q := List.mem_of_getElem? ha
  have := hv (A a) ⟨a, rfl⟩
  rw [dot_at2 n (A a) v c f (h.lt _ hm) hf (fun e => hfQ (e ▸ hm)) (fun j hj h1 h2 => ?_)] at this
  · exact this
  · rcases h.cover hl hf hfQ hj with c | c
    · obtain ⟨b, hb⟩ := idx c
      rw [h.zer b j hb a (fun e => h1 (by rw [e] at ha; rw [ha] at hb; exact (Option.some.inj hb).symm))]
      simp
    · exact absurd c h2
theorem gnr1 (h : Ech n A Q) (hl : Q.length + 1 = n) {f : Nat} (hf : f < n) (hfQ : f ∉ Q) {v : Nat → Int} (hv : Ker n (Rws A) v) (hvf : v f ≠ 0) : Gnr n (Ker n (Rws A)) v := by
  refine ⟨hv, ⟨f, hf, hvf⟩, fun w hw => ?_⟩
  have key : ∀ j, j < n → w j * v f = w f * v j := fun j hj => by
    rcases h.cover hl hf hfQ hj with c | c
    · obtain ⟨a, ha⟩ := idx c
      have h1 := h.ker_at hl hf hfQ hv ha
      have h2 := h.ker_at hl hf hfQ hw ha
      refine Int.eq_of_mul_eq_mul_left (h.piv a j ha) ?_
      rw [← Int.mul_assoc, show A a j * w j = -(A a f * w f) by omega, show A a j * (w f * v j) = w f * (A a j * v j) by grind, show A a j * v j = -(A a f * v f) by omega]
      grind
    · rw [c]
  intro j hj k hk
  refine Int.eq_of_mul_eq_mul_right hvf ?_
  rw [show w j * v k * v f = w j * v f * v k by grind, show w k * v j * v f = w k * v f * v j by grind, key j hj, key k hk]
  grind
theorem prod : ∀ (l : List Int), (∀ x ∈ l, x ≠ 0) → ∃ L : Int, L ≠ 0 ∧ ∀ x ∈ l, x ∣ L
  | [], _ => ⟨1, by omega, by simp⟩
  | a :: l, h => by
    obtain ⟨L, h1, h2⟩ := prod l (fun x hx => h x (List.mem_cons_of_mem _ hx))
    refine ⟨a * L, Int.mul_ne_zero (h a (List.mem_cons_self ..)) h1, fun x hx => ?_⟩
    rcases List.mem_cons.1 hx with rfl | hx
    · exact ⟨L, rfl⟩
    · exact Int.dvd_mul_of_dvd_right (h2 x hx)
theorem pivs (h : Ech n A Q) : ∃ L : Int, L ≠ 0 ∧ ∀ a c : Nat, Q[a]? = some c → A a c ∣ L := by
  obtain ⟨L, h1, h2⟩ := prod ((List.range Q.length).map fun a => A a (Q.getD a 0)) (fun x hx => by
    obtain ⟨a, ha, rfl⟩ := List.mem_map.1 hx
    have hl := List.mem_range.1 ha
    refine h.piv a _ ?_
    rw [List.getD_eq_getElem?_getD, List.getElem?_eq_getElem hl]
    rfl)
  refine ⟨L, h1, fun a c ha => h2 _ (List.mem_map.2 ⟨a, List.mem_range.2 ?_, ?_⟩)⟩
  · exact (List.getElem?_eq_some_iff.1 ha).1
  · rw [List.getD_eq_getElem?_getD, ha]
    rfl
theorem ker_free (h : Ech n A Q) {f : Nat} (hf : f < n) (hfQ : f ∉ Q) : ∃ v, Ker n (Rws A) v ∧ v f ≠ 0 ∧ ∀ j, j < n → j ∉ Q → j ≠ f → v j = 0 := by
  obtain ⟨L, hL, hd⟩ := h.pivs
  let v : Nat → Int := fun j => if j = f then L else if j ∈ Q then -(A (Q.idxOf j) f) * (L / A (Q.idxOf j) j) else 0
  have hvf : v f = L := if_pos rfl
  refine ⟨v, h.ker1 hf hfQ (fun j hj h1 h2 => by show (if j = f then L else if j ∈ Q then _ else 0) = 0; rw [if_neg h2, if_neg h1]) (fun a c ha => ?_), by rw [hvf]; exact hL, fun j hj h1 h2 => by show (if j = f then L else if j ∈ Q then _ else 0) = 0; rw [if_neg h2, if_neg h1]⟩
  have hm : c ∈ Q := List.mem_of_getElem? ha
  have hcf : c ≠ f := fun e => hfQ (e ▸ hm)
  have hi : Q[Q.idxOf c]? = some c := by
    have := List.idxOf_lt_length_iff.2 hm
    rw [List.getElem?_eq_getElem this, List.getElem_idxOf this]
  have e := h.same hi ha
  have hvc : v c = -(A a f) * (L / A a c) := by
    show (if c = f then L else if c ∈ Q then -(A (Q.idxOf c) f) * (L / A (Q.idxOf c) c) else 0) = _
    rw [if_neg hcf, if_pos hm, e]
  rw [hvc, hvf]
  have := Int.mul_ediv_cancel' (hd a c ha)
  rw [show A a c * (-(A a f) * (L / A a c)) = -(A a f) * (A a c * (L / A a c)) by grind, this, Int.neg_mul]
  omega
theorem gnr_iff_len (h : Ech n A Q) : (∃ v, Gnr n (Ker n (Rws A)) v) ↔ Q.length + 1 = n := by
  constructor
  · rintro ⟨v, hv, ⟨j, hj, hj0⟩, hp⟩
    have hle := h.len_le
    by_cases c1 : Q.length = n
    · exfalso
      obtain ⟨a, ha⟩ := idx (h.full c1 hj)
      have := hv (A a) ⟨a, rfl⟩
      rw [dot_at1 n (A a) v j hj (fun k hk hne => by
        obtain ⟨b, hb⟩ := idx (h.full c1 hk)
        rw [h.zer b k hb a (fun e => hne (by rw [e] at ha; rw [ha] at hb; exact (Option.some.inj hb).symm))]
        simp)] at this
      rcases Int.mul_eq_zero.1 this with e | e
      · exact h.piv a j ha e
      · exact hj0 e
    · by_cases c2 : Q.length + 1 = n
      · exact c2
      · exfalso
        obtain ⟨f, hf, hfQ⟩ := h.miss (by omega)
        obtain ⟨g, hg, hgQ, hne⟩ := h.miss2 (by omega) (f := f)
        obtain ⟨u, u1, u2, u3⟩ := h.ker_free hf hfQ
        obtain ⟨w, w1, w2, w3⟩ := h.ker_free hg hgQ
        have e1 := hp u u1 f hf g hg
        rw [u3 g hg hgQ hne, Int.zero_mul] at e1
        have vg : v g = 0 := by
          rcases Int.mul_eq_zero.1 e1 with e | e
          · exact absurd e u2
          · exact e
        have e2 := hp w w1 g hg j hj
        rw [vg, Int.mul_zero] at e2
        rcases Int.mul_eq_zero.1 e2 with e | e
        · exact w2 e
        · exact hj0 e
  · intro hl
    obtain ⟨f, hf, hfQ⟩ := h.miss (by omega)
    obtain ⟨v, h1, h2, h3⟩ := h.ker_free hf hfQ
    exact ⟨v, h.gnr1 hl hf hfQ h1 h2⟩
end Ech
end Go.Proofs.Det
end
section
namespace Go.Proofs.Det
variable {K : Type}
def csg (g : List K → Int) (u : K → Int) : List K → List K → Int
  | _, [] => 0
  | pre, j :: post => u j * g (pre ++ post) - csg g u (pre ++ [j]) post
theorem csg_zero (u : K → Int) : ∀ (post pre : List K), csg (fun _ => 0) u pre post = 0
  | [], _ => rfl
  | k :: post, pre => by
    rw [csg, csg_zero u post]
    simp
theorem csg_sub (g h : List K → Int) (a : Int) (u : K → Int) : ∀ (post pre : List K), csg (fun J => a * g J - h J) u pre post = a * csg g u pre post - csg h u pre post
  | [], _ => by simp [csg]
  | k :: post, pre => by
    rw [csg, csg, csg, csg_sub g h a u post]
    grind
theorem exch (u : K → Int) (j : K) (J : List K) (hJ : ∀ R : List (K → Int), R.length + 1 = J.length → det J (u :: R) = csg (fun J' => det J' R) u [] J) : ∀ (q p : List (K → Int)), p.length + q.length = J.length →
    sgn (det J) j (u :: p) q = csg (fun J' => sgn (det J') j p q) u [] J
  | [], p, _ => by
    simp only [sgn]
    rw [csg_zero]
  | v :: q, p, e => by
    simp only [List.length_cons] at e
    have ih := exch u j J hJ q (p ++ [v]) (by simp; omega)
    simp only [sgn, List.cons_append] at ih ⊢
    rw [ih, hJ (p ++ q) (by simp; omega), csg_sub (fun J' => det J' (p ++ q)) (fun J' => sgn (det J') j (p ++ [v]) q)]
end Go.Proofs.Det
end
section
namespace Go.Proofs.Det
set_option linter.unusedVariables false
def but (n c : Nat) : List Nat := List.range' 0 c ++ List.range' (c + 1) (n - c - 1)
end Go.Proofs.Det
end
section
namespace Go.Proofs.Ytdneelgnmnpanaa.P
open Go.RowKit Go.Proofs.YtdneelgnmnpanaaW.PrintWords Go.Proofs.Det
set_option linter.unusedVariables false
section
variable {s : Nat → Int} {M0 M : List (List Int)} {Q : List Nat} {n : Nat}
def Wid (n : Nat) (M0 : List (List Int)) : Prop := ∀ b j, n ≤ j → (lineAt M0 b).getD j 0 = 0
theorem Inv.ech (h : Inv s M0 6 M Q) (hn : n ≤ 6) (hz : Wid n M0) : Ech n (fun b => fn (lineAt M b)) Q where
  inc := h.inc
  lt q hq := by
    by_cases c : q < n
    · exact c
    · obtain ⟨a, ha⟩ := Ech.idx hq
      exact absurd (h.col (fun b => hz b q (by omega)) a) (h.piv a q ha)
  piv := h.piv
  zer := h.zer
  low b hb c hc := h.low b hb c (by omega)
theorem Inv.ker (h : Inv s M0 6 M Q) (v : Nat → Int) : Ker n (Rws fun b => fn (lineAt M b)) v ↔ Ker n (Sp M0) v :=
  ⟨fun hv => ker_gen (S' := Sp M) (fun r hr => by obtain ⟨b, rfl⟩ := hr; exact h.g2 b) hv, fun hv => ker_gen (S := Sp M) (fun r hr => by obtain ⟨b, rfl⟩ := hr; exact h.g1 b) hv⟩
theorem Inv.one (h : Inv s M0 6 M Q) (hn : n ≤ 6) (hz : Wid n M0) : (∃ v, Gnr n (Ker n (Sp M0)) v) ↔ Q.length + 1 = n := by
  rw [← (h.ech hn hz).gnr_iff_len]
  exact ⟨fun ⟨v, hv⟩ => ⟨v, gnr_iff (fun v => (h.ker v).symm) hv⟩, fun ⟨v, hv⟩ => ⟨v, gnr_iff (fun v => h.ker v) hv⟩⟩
theorem Inv.four (h : Inv s M0 6 M Q) (h4 : Four M0) : Q.length ≤ 4 := by
  rcases h4 with h4 | h4
  · have := h.ql
    have := h.len
    omega
  · exact (h.ech (n := 4) (by omega) h4).len_le
end
end Go.Proofs.Ytdneelgnmnpanaa.P
end
section
namespace Go.Proofs.Ytdneelgnmnpanaa.P
open Go.RowKit Go.Proofs.YtdneelgnmnpanaaW.PrintWords Go.Proofs.Det
set_option linter.unusedVariables false
structure Lns (X : List (List Int)) (js : List Nat) (M0 : List (List Int)) : Prop where
  len : M0.length = js.length
  six : Six M0
  fn : ∀ k, k < js.length → fn (lineAt M0 k) = el (js.getD k 0) ∘ fun j => X.getD j []
section
variable {X : List (List Int)} {js : List Nat} {M0 M : List (List Int)} {s : Nat → Int} {Q : List Nat}
theorem Lns.wid (h : Lns X js M0) : Wid X.length M0 := fun b j hj => by
  by_cases hb : b < js.length
  · have := congrFun (h.fn b hb) j
    refine Eq.trans this ?_
    show (X.getD j []).getD (js.getD b 0) 0 = 0
    rw [List.getD_eq_getElem?_getD (l := X), List.getElem?_eq_none hj]
    rfl
  · rw [lineAt_none M0 b (by have := h.len; omega)]
    rfl
theorem mnr_eq (h : Lns X js M0) (c q : Nat) (hq : ∀ e ∈ bits q, e < js.length) : mnr X js c q = det (bits c) ((bits q).map fun k => Go.Proofs.Ytdneelgnmnpanaa.P.fn (lineAt M0 k)) := by
  unfold mnr
  rw [det_map, List.map_map, List.map_map]
  congr 1
  refine List.map_congr_left fun k hk => ?_
  exact (h.fn k (hq k hk)).symm
theorem rank_ev (h : Lns X js M0) (hi : Inv s M0 6 M Q) (hn : X.length < 7) (hm : js.length ≤ 4) (hX : Small X js) : Ev (fun k => verditerref04_rank.f k X (toI js)) (Q.length : Int) := by
  unfold verditerref04_rank.f
  have he := hi.ech (n := X.length) (by omega) h.wid
  have hql := he.len_le
  have hqm : Q.length ≤ js.length := by have := hi.ql; have := hi.len; have := h.len; omega
  rw [toI_len, show mn (X.length : Int) (js.length : Int) = ((min X.length js.length : Nat) : Int) by unfold mn; split <;> omega]
  refine rr_l0 X js js.length rfl hn (by omega) hX Q.length ?_ _ (by omega) (by omega) (fun r' h1 h2 c hc q hq => ?_)
  · by_cases h0 : Q.length = 0
    · exact .inl h0
    · right
      obtain ⟨l, l1, l2, l3, l4⟩ := inv_minor hi
      obtain ⟨c1, c2⟩ := inc_chs (n := X.length) (by omega) hi.inc he.lt
      obtain ⟨q1, q2⟩ := inc_chs (n := js.length) (by omega) l1 (fun x hx => by rw [← h.len]; exact l2 x hx)
      refine ⟨msk Q, c1, msk l, by rw [l3] at q1; exact q1, ?_⟩
      rw [mnr_eq h _ _ (fun e he => by rw [q2] at he; rw [← h.len]; exact l2 e he), c2, q2]
      exact l4
  · obtain ⟨_, c2, _, c4⟩ := chs_mem (n := X.length) (by omega) hc
    obtain ⟨_, q2, _, q4⟩ := chs_mem (n := js.length) (by omega) hq
    rw [mnr_eq h c q q4]
    have hV := inv_van hi (r' - (Q.length + 1))
    rw [show Q.length + 1 + (r' - (Q.length + 1)) = r' by omega] at hV
    refine hV _ c2 _ (by rw [List.length_map, q2]) (fun v hv => ?_)
    obtain ⟨k, -, rfl⟩ := List.mem_map.1 hv
    exact ⟨k, rfl⟩
end
end Go.Proofs.Ytdneelgnmnpanaa.P
end
section
namespace Go.Proofs.Ytdneelgnmnpanaa.P
open Go.RowKit Go.Proofs.YtdneelgnmnpanaaW.PrintWords
set_option linter.unusedVariables false
set_option linter.unusedSimpArgs false
theorem sum_zero : ∀ (l : List Int), (∀ x ∈ l, 0 ≤ x) → 0 ≤ l.sum ∧ (l.sum = 0 ↔ ∀ x ∈ l, x = 0)
  | [], _ => by simp
  | x :: l, h => by
    have hx := h x (List.mem_cons_self ..)
    obtain ⟨h1, h2⟩ := sum_zero l (fun y hy => h y (List.mem_cons_of_mem _ hy))
    rw [List.sum_cons]
    refine ⟨by omega, ?_⟩
    rw [List.forall_mem_cons, ← h2]
    omega
theorem rval_l1 (I O : List (List Int)) (L : List (List Int)) (n : Nat) (hn : n < L.length) (hr : L[n].length ≤ 50) (R : Int) (hR : Ev (fun k => verditerref04_Validate.l0 k L (wrap64 ((n : Int) + 1)) I O) R) : ∀ (d j : Nat) (s : Int), j + d = L[n].length → 0 ≤ s → s ≤ 9 * (j : Int) →
    Ev (fun k => verditerref04_Validate.l1 k L (n : Int) s (j : Int) I O) (if inR 0 9 (L[n].drop j) = true then (if s + (L[n].drop j).sum = 0 then 1 else R) else 1) := by
  intro d
  induction d with
  | zero =>
    intro j s hj h0 h9
    refine Ev.step (fun k => by rw [verditerref04_Validate.l1]) ?_
    simp only [show (0 : Int) ≤ (n : Int) by omega, show (n : Int) < (L.length : Int) by omega, if_true, rdL, getD_at L n _ hn, show ¬ ((j : Int) < (L[n].length : Int)) by omega, if_false]
    rw [List.drop_eq_nil_of_le (by omega)]
    simp only [inR, List.all_nil, if_true, List.sum_nil, Int.add_zero]
    by_cases h : s = 0
    · simp only [h, if_true]
      exact Ev.now _
    · simp only [h, if_false]
      exact hR
  | succ d ih =>
    intro j s hj h0 h9
    have hlt : j < L[n].length := by omega
    refine Ev.step (fun k => by rw [verditerref04_Validate.l1]) ?_
    simp only [show (0 : Int) ≤ (n : Int) by omega, show (n : Int) < (L.length : Int) by omega, if_true, rdL, getD_at L n _ hn, show ((j : Int) < (L[n].length : Int)) by omega, show (0 : Int) ≤ (j : Int) by omega, rdn, getD_at L[n] j _ hlt]
    refine Ev.bind (Ev.congr (fun k => rwithin _ 0 9) (Ev.now _)) ?_
    rw [List.drop_eq_getElem_cons hlt, wr_succ (m := L[n].length) hlt (by omega)]
    by_cases h : 0 ≤ L[n][j] ∧ L[n][j] ≤ 9
    · rw [wrp (x := s + L[n][j]) (by omega) (by omega)]
      have := ih (j + 1) (s + L[n][j]) (by omega) (by omega) (by omega)
      simp only [h, and_self, decide_true, if_true, inR, List.all_cons, Bool.true_and, List.sum_cons, ← Int.add_assoc]
      exact this
    · simp only [h, decide_false, Bool.false_eq_true, if_false, inR, List.all_cons, Bool.false_and]
      exact Ev.now _
theorem rval_l0 (I O : List (List Int)) (hI : 0 < I.length) (L : List (List Int)) (hL : L.length ≤ 1000) (hr : ∀ r ∈ L, r.length ≤ 50) : ∀ (d n : Nat), n + d = L.length →
    Ev (fun k => verditerref04_Validate.l0 k L (n : Int) I O) (if (L.drop n).all (okr (I.getD 0 []).length) = true then 0 else 1) := by
  intro d
  induction d with
  | zero =>
    intro n hn
    refine Ev.step (fun k => by rw [verditerref04_Validate.l0]) ?_
    simp only [show ¬ ((n : Int) < (L.length : Int)) by omega, if_false]
    rw [List.drop_eq_nil_of_le (by omega)]
    exact Ev.now _
  | succ d ih =>
    intro n hn
    have hlt : n < L.length := by omega
    have hrl := hr _ (List.getElem_mem hlt)
    have h1 := rval_l1 I O L n hlt hrl _ (by rw [wr_succ (m := L.length) hlt (by omega)]; exact ih (n + 1) (by omega)) L[n].length 0 0 (by omega) (by omega) (by omega)
    refine Ev.step (fun k => by rw [verditerref04_Validate.l0]) ?_
    simp only [show ((n : Int) < (L.length : Int)) by omega, show (0 : Int) ≤ (n : Int) by omega, show (0 : Int) < (I.length : Int) by omega, if_true, rdL, rdL0]
    rw [List.drop_eq_getElem_cons hlt, List.all_cons, getD_at L n _ hlt]
    rw [List.drop_zero, Int.zero_add] at h1
    unfold okr
    by_cases c1 : L[n].length = (I.getD 0 []).length
    · simp only [show ((L[n].length : Int) = ((I.getD 0 []).length : Int)) by omega, if_true, c1, decide_true, Bool.true_and]
      by_cases c2 : inR 0 9 L[n] = true
      · have hpos : ∀ x ∈ L[n], 0 ≤ x := fun x hx => (of_decide_eq_true (List.all_eq_true.1 c2 x hx)).1
        obtain ⟨-, hz⟩ := sum_zero _ hpos
        simp only [c2, if_true] at h1
        simp only [c2, Bool.true_and]
        by_cases c3 : L[n].sum = 0
        · have c4 : L[n].all (fun x => decide (x = 0)) = true := List.all_eq_true.2 fun x hx => decide_eq_true (hz.1 c3 x hx)
          simp only [c3, if_true] at h1
          simp only [c4, Bool.not_true, Bool.false_and, Bool.false_eq_true, if_false]
          exact h1
        · have c4 : L[n].all (fun x => decide (x = 0)) = false := by
            cases hq : L[n].all (fun x => decide (x = 0)) with
            | true => exact absurd (hz.2 (fun x hx => of_decide_eq_true (List.all_eq_true.1 hq x hx))) c3
            | false => rfl
          simp only [c3, if_false] at h1
          simp only [c4, Bool.not_false, Bool.true_and]
          exact h1
      · simp only [c2, if_false] at h1
        rw [Bool.not_eq_true] at c2
        simp only [c2, Bool.false_and, Bool.false_eq_true, if_false]
        exact h1
    · simp only [show ¬ ((L[n].length : Int) = ((I.getD 0 []).length : Int)) by omega, if_false, c1, decide_false, Bool.false_and, Bool.false_eq_true]
      exact Ev.now _
theorem rval_ev {I O : List (List Int)} (h : Sh I O) : Ev (fun k => verditerref04_Validate.f k I O) (vl I O) := by
  obtain ⟨s1, s2, s3⟩ := h
  unfold verditerref04_Validate.f vl vsz
  have hnoE : Ev (fun k => verditerref04_Validate.j0 k true I O) 1 := Ev.step (fun k => by rw [verditerref04_Validate.j0]) (by simp only [if_true]; exact Ev.now _)
  refine Ev.bind (Ev.congr (fun k => rwithin _ 1 3) (Ev.now _)) ?_
  by_cases h1 : 1 ≤ I.length ∧ I.length ≤ 3
  · have h1' : (1 : Int) ≤ (I.length : Int) ∧ (I.length : Int) ≤ 3 := by omega
    simp only [h1, h1', and_self, decide_true, if_true, Bool.true_and]
    refine Ev.bind (Ev.congr (fun k => rwithin _ 1 3) (Ev.now _)) ?_
    by_cases h2 : 1 ≤ O.length ∧ O.length ≤ 3
    · have h2' : (1 : Int) ≤ (O.length : Int) ∧ (O.length : Int) ≤ 3 := by omega
      simp only [h2, h2', and_self, decide_true, if_true, Bool.true_and, show (0 : Int) < (I.length : Int) by omega, rdL0]
      refine Ev.bind (Ev.congr (fun k => rwithin _ 1 4) (Ev.now _)) ?_
      by_cases h3 : 1 ≤ (I.getD 0 []).length ∧ (I.getD 0 []).length ≤ 4
      · have h3' : (1 : Int) ≤ ((I.getD 0 []).length : Int) ∧ ((I.getD 0 []).length : Int) ≤ 4 := by omega
        simp only [h3, h3', and_self, decide_true, Bool.not_true, true_and]
        refine Ev.step (fun k => by rw [verditerref04_Validate.j0]) ?_
        simp only [Bool.false_eq_true, if_false, Option.bind_some, List.length_nil, List.nil_append, show 0 + I.length < 5864062014805 by omega, show I.length + O.length < 5864062014805 by omega, if_true]
        have := rval_l0 I O (by omega) (I ++ O) (by simp; omega) s3 (I ++ O).length 0 (by omega)
        rw [List.drop_zero] at this
        exact this
      · have h3' : ¬ ((1 : Int) ≤ ((I.getD 0 []).length : Int) ∧ ((I.getD 0 []).length : Int) ≤ 4) := by omega
        simp only [h3, h3', decide_false, Bool.not_false, Bool.false_eq_true, false_and, if_false]
        exact hnoE
    · have h2' : ¬ ((1 : Int) ≤ (O.length : Int) ∧ (O.length : Int) ≤ 3) := by omega
      simp only [h2, h2', decide_false, Bool.false_eq_true, if_false, Bool.false_and, false_and]
      exact hnoE
  · have h1' : ¬ ((1 : Int) ≤ (I.length : Int) ∧ (I.length : Int) ≤ 3) := by omega
    simp only [h1, h1', decide_false, Bool.false_eq_true, if_false, Bool.false_and, false_and]
    exact hnoE
theorem vl_size {I O : List (List Int)} (h : vl I O = 0) : 1 ≤ I.length ∧ I.length ≤ 3 ∧ 1 ≤ O.length ∧ O.length ≤ 3 ∧ 1 ≤ (I.getD 0 []).length ∧ (I.getD 0 []).length ≤ 4 ∧ ∀ c ∈ I ++ O, c.length = (I.getD 0 []).length ∧ ∀ x ∈ c, 0 ≤ x ∧ x ≤ 9 := by
  unfold vl at h
  split at h
  case isFalse => cases h
  rename_i hc
  obtain ⟨h1, h2⟩ := hc
  unfold vsz at h1
  simp only [Bool.and_eq_true, decide_eq_true_eq] at h1
  refine ⟨h1.1.1, h1.1.2, h1.2.1.1, h1.2.1.2, h1.2.2.1, h1.2.2.2, fun c hcm => ?_⟩
  have := List.all_eq_true.1 h2 c hcm
  unfold okr at this
  simp only [Bool.and_eq_true, decide_eq_true_eq] at this
  exact ⟨this.1, fun x hx => of_decide_eq_true (List.all_eq_true.1 this.2.1 x hx)⟩
end Go.Proofs.Ytdneelgnmnpanaa.P
end
section
namespace Go.Proofs.Ytdneelgnmnpanaa.P
open Go.RowKit Go.Proofs.YtdneelgnmnpanaaW.PrintWords
set_option linter.unusedVariables false
set_option linter.unusedSimpArgs false
def zs (n : Nat) : List Int := List.replicate n 0
end Go.Proofs.Ytdneelgnmnpanaa.P
end
section
namespace Go.Proofs.Ytdneelgnmnpanaa.P
open Go.RowKit Go.Proofs.YtdneelgnmnpanaaW.PrintWords
set_option linter.unusedVariables false
set_option linter.unusedSimpArgs false
def Atoms (c : List Int) : Prop := ∀ x ∈ c, 0 ≤ x ∧ x ≤ 9
end Go.Proofs.Ytdneelgnmnpanaa.P
end
section
namespace Go.Proofs.Ytdneelgnmnpanaa.P
open Go.RowKit Go.Proofs.YtdneelgnmnpanaaW.PrintWords Go.Proofs.YtdneelgnmnpanaaW.PrintLast Go.Proofs.YtdneelgnmnpanaaW.PrintMore
attribute [local go_sem] max2_int min2_int max_two min_two max_three min_three max_four min_four   -- for this text's walks alone
set_option linter.unusedVariables false
set_option linter.unusedSimpArgs false
mutual
def verditerref04_Columns.l0 : Nat → List (List Int) → Int → List (List Int) → List (List Int) → Option ((List (List Int)))
 | 0, _, _, _, _ => none
 | k + 1, x3, x4, x102000, x102001 => if x4 < (x102000.length : Int) then ((some (([] : List Int) : List Int)).bind fun y102 => (if 0 ≤ x4 then (if y102.length + (rd_L1 x102000 x4).length < 17592186044416 then (if x3.length < 5864062014805 then (verditerref04_Columns.l0 k (x3 ++ [(y102 ++ (rd_L1 x102000 x4))]) (wrap64 (x4 + 1)) x102000 x102001) else (none)) else (none)) else (none))) else (verditerref04_Columns.l1 k x3 0 x102000 x102001)
def verditerref04_Columns.l1 : Nat → List (List Int) → Int → List (List Int) → List (List Int) → Option ((List (List Int)))
 | 0, _, _, _, _ => none
 | k + 1, x3, x5, x102000, x102001 => if x5 < (x102001.length : Int) then (verditerref04_Columns.l2 k x3 x5 ([] : List Int) 0 x102000 x102001) else (some x3)
def verditerref04_Columns.l2 : Nat → List (List Int) → Int → List Int → Int → List (List Int) → List (List Int) → Option ((List (List Int)))
 | 0, _, _, _, _, _, _ => none
 | k + 1, x3, x5, x6, x7, x102000, x102001 => if 0 ≤ x5 then (if x5 < (x102001.length : Int) then (if x7 < ((rd_L1 x102001 x5).length : Int) then (if 0 ≤ x7 then (if x6.length < 17592186044416 then (verditerref04_Columns.l2 k x3 x5 (x6 ++ [wrap64 (-(rd (rd_L1 x102001 x5) x7))]) (wrap64 (x7 + 1)) x102000 x102001) else (none)) else (none)) else (if x3.length < 5864062014805 then (verditerref04_Columns.l1 k (x3 ++ [x6]) (wrap64 (x5 + 1)) x102000 x102001) else (none))) else (none)) else (none)
end
def verditerref04_Columns.f (k : Nat) (l0_0 : List (List Int)) (l0_1 : List (List Int)) : Option ((List (List Int))) := verditerref04_Columns.l0 k ([] : List (List Int)) 0 l0_0 l0_1
set_option maxHeartbeats 8000000 in
set_option maxRecDepth 100000 in
theorem verditerref04_Columns.calls (k : Nat) (A0_0 : Option Addr) (c0_0 : Nat) (l0_0 : List (List Int)) (A0_1 : Option Addr) (c0_1 : Nat) (l0_1 : List (List Int)) (r : List (List Int)) (w : World) (hr0_0 : Kd.C (Kd.slice 3 (Kd.int .i64)) w A0_0 l0_0.length l0_0) (hc0_0 : l0_0.length ≤ c0_0) (hr0_1 : Kd.C (Kd.slice 3 (Kd.int .i64)) w A0_1 l0_1.length l0_1) (hc0_1 : l0_1.length ≤ c0_1) (h : verditerref04_Columns.f k l0_0 l0_1 = some r) :
  Calls Try.prog 96 #[.agg #[.slice A0_0 l0_0.length c0_0, .slice A0_1 l0_1.length c0_1]] w fun e w' => ∃ v0_ : Value, e = .returned (v0_) ∧ Kd.S (Kd.slice 3 (Kd.int .i64)) 28 w' w.heap.size (fun _ => True) v0_ r ∧ Below w.heap.size w w' := by
 have hu24 := Try.underlying24
 have HR0_0 := Aside0.mk hr0_0
 have HC0_0 := Aside0.mk hc0_0
 clear hr0_0 hc0_0
 have HR0_1 := Aside0.mk hr0_1
 have HC0_1 := Aside0.mk hc0_1
 clear hr0_1 hc0_1
 have HB := Aside0.mk (Below.refl w.heap.size w)
 have H : (verditerref04_Columns.l0 k ([] : List (List Int)) 0 l0_0 l0_1) = some r := h
 clear h
 have H' := Aside0.mk H
 clear H
 go_enter Try.func96, Try.ntmps96
 go_wp2_with (first | ((with_reducible refine gate_dst (N := 1) rfl ?_); refine box_event ?hg (N := 1) ?hd (cs := #[.slice A0_0 l0_0.length c0_0, .slice A0_1 l0_1.length c0_1]) (t := 24) ?hr ?_; (case hd => rfl); (case hg => rfl); (case hr => first | (go_simp; done) | (go_simp; rfl)); intro gb101 hg w2 hbox hb; have n0_ := Aside0.mk (below_step bB hb); have n1_ := Aside0.mk (hbox); have n2_ := Aside0.mk ((by rw [hg]; exact (below_size bB) : w.heap.size ≤ gb101)); have n3_ := Aside0.mk ((by rw [hg]; exact (below_size bB) : w.heap.size ≤ gb101)); clear HB; have HB := n0_; have BK101 := n1_; have GW101 := n2_; have GE101 := n3_; clear n0_ n1_ n2_ n3_; clear hb hbox hg))
 go_loopg [3, 4] k (fun kq v3 v4 w' => ∃ (x3_1 : List (List Int)) (x4_1 : Int), v4 = .int .i64 x4_1 ∧ Aside0 (verditerref04_Columns.l0 kq x3_1 x4_1 l0_0 l0_1 = some r) ∧ Aside0 (kq ≤ k) ∧ Aside0 (Kd.S (Kd.slice 3 (Kd.int .i64)) 28 w' w.heap.size (fun _ => True) v3 x3_1) ∧ Aside0 (w'.heap[gb101]? = some (.cells #[(.slice A0_0 l0_0.length c0_0), (.slice A0_1 l0_1.length c0_1)] 24 (0, 0))) ∧ Aside0 (Below w.heap.size w w'))
 case atStart => exact ⟨(([] : List (List Int))), (0), (by first | rfl | (simp; done) | (simp [*]; done)), H', ⟨Nat.le_refl _⟩, ⟨by first | exact Kd.S_nil _ _ _ _ _ | exact Kd.N_nil _ _ _ _ _ | exact Kd.V_nil _ _ _ _ _ | exact Kd.Q_nil _ _ _ _ _ | exact Kd.R_nil _ _ _ _ _⟩, ⟨by (with_reducible repeat (first | refine blk_drewN ?_ _ | refine blk_drew ?_ | refine blk_alloc ?_ _)); exact BK101.out⟩, ⟨bB⟩⟩
 case round =>
  clear H'
  try clear p2
  obtain ⟨x3_1, x4_1, rfl, HA, HK1, HO_3, BK101, HB⟩ := hrel
  cases gk with
  | zero => exact absurd HA.out (by simp [verditerref04_Columns.l0])
  | succ k1 =>
   have H := HA.out
   clear HA
   simp only [verditerref04_Columns.l0] at H
   by_cases c3 : x4_1 < (l0_0.length : Int)
   ·
    rw [if_pos c3] at H
    have c3b0 : decide (x4_1 < (l0_0.length : Int)) = true := decide_eq_true c3
    clear c3
    obtain ⟨y102, hy102⟩ : ∃ y_ : List Int, y_ = (([] : List Int)) := ⟨_, rfl⟩
    replace H : (if 0 ≤ x4_1 then (if y102.length + (rd_L1 l0_0 x4_1).length < 17592186044416 then (if x3_1.length < 5864062014805 then (verditerref04_Columns.l0 k1 (x3_1 ++ [(y102 ++ (rd_L1 l0_0 x4_1))]) (wrap64 (x4_1 + 1)) l0_0 l0_1) else (none)) else (none)) else (none)) = some r := by first | (rw [hy102]; with_reducible exact H) | (have H2_ := (Option.bind_some _ _).symm.trans H; rw [hy102]; with_reducible exact H2_) | (have H2_ := (Option.bind_some _ _).symm.trans H; with_reducible exact H2_) | with_reducible exact H | (rw [hy102]; exact H) | exact H
    have Ny102 := Aside0.mk hy102
    clear hy102
    by_cases c4 : 0 ≤ x4_1
    ·
     rw [if_pos c4] at H
     have c4b0 : decide (0 ≤ x4_1) = true := decide_eq_true c4
     clear c4
     by_cases c5 : y102.length + (rd_L1 l0_0 x4_1).length < 17592186044416
     ·
      rw [if_pos c5] at H
      have LMc5 := Aside0.mk c5
      clear c5
      obtain ⟨y106, hy106⟩ : ∃ y_ : List Int, y_ = (y102 ++ (rd_L1 l0_0 x4_1)) := ⟨_, rfl⟩
      replace H : (if x3_1.length < 5864062014805 then (verditerref04_Columns.l0 k1 (x3_1 ++ [y106]) (wrap64 (x4_1 + 1)) l0_0 l0_1) else (none)) = some r := by first | (rw [hy106]; with_reducible exact H) | (have H2_ := (Option.bind_some _ _).symm.trans H; rw [hy106]; with_reducible exact H2_) | (have H2_ := (Option.bind_some _ _).symm.trans H; with_reducible exact H2_) | with_reducible exact H | (rw [hy106]; exact H) | exact H
      have Ny106 := Aside0.mk hy106
      clear hy106
      by_cases c6 : x3_1.length < 5864062014805
      ·
       rw [if_pos c6] at H
       have LMc6 := Aside0.mk c6
       clear c6
       obtain ⟨y109, hy109⟩ : ∃ y_ : List (List Int), y_ = (x3_1 ++ [y106]) := ⟨_, rfl⟩
       replace H : (verditerref04_Columns.l0 k1 y109 (wrap64 (x4_1 + 1)) l0_0 l0_1) = some r := by first | (rw [hy109]; with_reducible exact H) | (have H2_ := (Option.bind_some _ _).symm.trans H; rw [hy109]; with_reducible exact H2_) | (have H2_ := (Option.bind_some _ _).symm.trans H; with_reducible exact H2_) | with_reducible exact H | (rw [hy109]; exact H) | exact H
       have Ny109 := Aside0.mk hy109
       clear hy109
       have H' := Aside0.mk H
       clear H
       have hcz7_0 : wr.cell? ⟨gb101, 0, none⟩ = some (.slice A0_0 l0_0.length c0_0) := (blk_cell BK101.out 0).trans rfl
       have hcz7_1 : wr.cell? ⟨gb101, 1, none⟩ = some (.slice A0_1 l0_1.length c0_1) := (blk_cell BK101.out 1).trans rfl
       have hfz7_0 := blk_frozen BK101.out 0
       have hfz7_1 := blk_frozen BK101.out 1
       go_wp2_with (first | ((with_reducible refine gate_dst (N := 16) rfl ?_); refine Kd.R_lit (Kd.int .i64) _ 3 ?hg (N := 16) ?hd (xs := ([] : List Int)) (inner := []) (ok := fun _ => True) (okp := fun _ => True) ?hr ?hp (fun _ hk => hk) trivial (Below.refl _ _) (Nat.le_refl _) (by simp) ?_; (case hd => rfl); (case hg => rfl); (case hr => first | (go_simp; done) | (go_simp; rfl)); (case hp => exact (Reps.none _ _)); intro v103 w8 ho9 hb hg_ hnew_; clear hg_ hnew_; (first | rw [← Ny102.out] at ho9 | (simp only [Int.reduceToNat] at ho9; rw [← Ny102.out] at ho9)); have n0_ := Aside0.mk (Kd.S_elder' HO_3.out (Kd.R_base ho9) hb); have n1_ := Aside0.mk (Kd.R_lower ho9 (below_size bB)); have n2_ := Aside0.mk (blk_below BK101.out hb); have n3_ := Aside0.mk (below_step bB hb); clear HO_3; clear BK101; clear HB; have HO_3 := n0_; have HO104 := n1_; have BK101 := n2_; have HB := n3_; clear n0_ n1_ n2_ n3_; clear hb ho9; have hcz10_0 : w8.cell? ⟨gb101, 0, none⟩ = some (.slice A0_0 l0_0.length c0_0) := (blk_cell BK101.out 0).trans rfl; have hcz10_1 : w8.cell? ⟨gb101, 1, none⟩ = some (.slice A0_1 l0_1.length c0_1) := (blk_cell BK101.out 1).trans rfl; have hfz10_0 := blk_frozen BK101.out 0; have hfz10_1 := blk_frozen BK101.out 1; have p105 : 0 ≤ (x4_1 : Int) := of_decide_eq_true (by assumption); have q105 : x4_1 < (l0_0.length : Int) := of_decide_eq_true (by assumption); obtain ⟨ad105, A105_0, c105_0, e105, hx105_0, hl105_0, hi105_0⟩ := at_L1 HR0_0.out x4_1 p105 q105; cases e105; replace hx105_0 := (HB.out.cell (World.block_lt_of_cell? w _ hx105_0)).trans hx105_0; have HR105_0 := Aside0.mk hi105_0; have HC105_0 := Aside0.mk hl105_0; clear hi105_0 hl105_0; replace p105 := eq_true p105; replace q105 := eq_true q105) | ((with_reducible refine gate_builtin (b := .append) (xs := #[.tmp 16, .tmp 21]) rfl ?_); at_builtin; refine Kd.R_append_rows (Kd.int .i64) (w0 := w) w.heap.size rfl (.tmp 16) (.tmp 21) 28 3 (.int .i64 0) 8 rfl Try.underlying28 info3 rfl (by decide) (by omega) v103 y102 (rd_L1 l0_0 x4_1) _ _ _ (fun _ => True) (fun _ => False) rfl rfl ?aO ?aR (fun _ _ h => h) (fun _ h => h.elim) ?aF ?aB ?aS ?aL ?_; (case aR => exact (Kd.C_below HR105_0.out HB.out)); (case aB => exact bB); (case aF => exact (fun _ _ => trivial)); (case aO => exact HO104.out); (case aS => exact (below_size bB)); (case aL => have := LMc5.out; omega); intro v107 w11 ho hb hg hat; rw [← Ny106.out] at ho; have n0_ := Aside0.mk (Kd.S_after (ok := (fun _ => True)) HO_3.out hg hat); have n1_ := Aside0.mk (blk_grown (g := gb101) (o := .cells #[.slice (some ad105) l0_0.length c0_0, .slice A0_1 l0_1.length c0_1] 24 (0, 0)) (by (with_reducible repeat (first | refine blk_drewN ?_ _ | refine blk_drew ?_ | refine blk_alloc ?_ _)); exact BK101.out) hg (Kd.R_ne HO104.out BK101.out (by decide))); have n2_ := Aside0.mk (hb); have n3_ := Aside0.mk (ho); clear HO_3; clear BK101; clear HB; clear HO104; have HO_3 := n0_; have BK101 := n1_; have HB := n2_; have HO108 := n3_; clear n0_ n1_ n2_ n3_; clear ho hb hg hat; obtain ⟨Ao13, co13, eo13⟩ := Kd.R_slice HO108.out; subst eo13) | ((with_reducible refine gate_builtin (b := .append) (xs := #[.tmp 15, .tmp 23]) rfl ?_); at_builtin; refine Kd.S_append (Kd.slice 3 (Kd.int .i64)) (w0 := w) w.heap.size rfl (.tmp 15) (.tmp 23) 22 28 (.slice none 0 0) 24 rfl Try.underlying22 info28 rfl (by decide) (by omega) u3 x3_1 y106 [.slice Ao13 y106.length co13] (fun _ => True) (fun k_ => some k_ = (.slice Ao13 y106.length co13 : Value).ownBlock) rfl rfl ?aP (fun k_ hk_ => ((Kd.R_mono (ok' := fun k_ => ((fun _ => True)) k_ ∧ some k_ ≠ (u3 : Value).ownBlock) (Kd.R_apart' (HO108.out) (Kd.S_typed HO_3.out) (by decide)) (fun k_ hk => ⟨trivial, hk.2⟩))).1 k_ hk_.symm) ?aF ?aO ?aB ?aS ?aL ?_; (case aP => exact Kd.M_row (Kd.R_mono (Kd.R_tight rfl (Kd.R_mono (ok' := fun k_ => ((fun _ => True)) k_ ∧ some k_ ≠ (u3 : Value).ownBlock) (Kd.R_apart' (HO108.out) (Kd.S_typed HO_3.out) (by decide)) (fun k_ hk => ⟨trivial, hk.2⟩))) (fun _ h_ => h_))); (case aB => exact bB); (case aF => exact (fun _ _ => trivial)); (case aO => exact (by (with_reducible repeat (first | apply Kd.S_alloc | apply Kd.S_drewN | apply Kd.S_drew)); exact Kd.S_mono HO_3.out (fun k_ hk => ⟨trivial, fun e_ => hk.2 e_⟩))); (case aS => exact (below_size bB)); (case aL => have := LMc6.out; omega); intro v110 w12 ho hb hg hat; rw [← Ny109.out] at ho; have n0_ := Aside0.mk (blk_grown (g := gb101) (o := .cells #[.slice (some ad105) l0_0.length c0_0, .slice A0_1 l0_1.length c0_1] 24 (0, 0)) (by (with_reducible repeat (first | refine blk_drewN ?_ _ | refine blk_drew ?_ | refine blk_alloc ?_ _)); exact BK101.out) hg (Kd.S_ne HO_3.out BK101.out (by decide))); have n1_ := Aside0.mk (hb); have n2_ := Aside0.mk (ho); clear BK101; clear HB; clear HO_3; clear HO108; have BK101 := n0_; have HB := n1_; have HO111 := n2_; clear n0_ n1_ n2_; clear ho hb hg hat))
       go_roundg k1
       case measure => have := HK1.out; omega
       case rel => exact ⟨(y109), (wrap64 (x4_1 + 1)), (by first | rfl | (simp; done) | (simp [*]; done)), H', ⟨by have := HK1.out; omega⟩, ⟨by (with_reducible repeat (first | apply Kd.S_alloc | apply Kd.S_drewN | apply Kd.S_drew)); exact HO111.out⟩, ⟨by (with_reducible repeat (first | refine blk_drewN ?_ _ | refine blk_drew ?_ | refine blk_alloc ?_ _)); exact BK101.out⟩, ⟨bB⟩⟩
      ·
       rw [if_neg c6] at H
       exact absurd H (by simp)
     ·
      rw [if_neg c5] at H
      exact absurd H (by simp)
    ·
     rw [if_neg c4] at H
     exact absurd H (by simp)
   ·
    rw [if_neg c3] at H
    have c3b0 : decide (x4_1 < (l0_0.length : Int)) = false := decide_eq_false c3
    clear c3
    have H' := Aside0.mk H
    clear H
    have hcz14_0 : wr.cell? ⟨gb101, 0, none⟩ = some (.slice A0_0 l0_0.length c0_0) := (blk_cell BK101.out 0).trans rfl
    have hcz14_1 : wr.cell? ⟨gb101, 1, none⟩ = some (.slice A0_1 l0_1.length c0_1) := (blk_cell BK101.out 1).trans rfl
    have hfz14_0 := blk_frozen BK101.out 0
    have hfz14_1 := blk_frozen BK101.out 1
    go_wp2
    go_loopg [3, 5] k1 (fun kq v3 v5 w' => ∃ (x3_2 : List (List Int)) (x5_2 : Int), v5 = .int .i64 x5_2 ∧ Aside0 (verditerref04_Columns.l1 kq x3_2 x5_2 l0_0 l0_1 = some r) ∧ Aside0 (kq ≤ k1) ∧ Aside0 (Kd.S (Kd.slice 3 (Kd.int .i64)) 28 w' w.heap.size (fun _ => True) v3 x3_2) ∧ Aside0 (w'.heap[gb101]? = some (.cells #[(.slice A0_0 l0_0.length c0_0), (.slice A0_1 l0_1.length c0_1)] 24 (0, 0))) ∧ Aside0 (Below w.heap.size w w'))
    case atStart => exact ⟨(x3_1), (0), (by first | rfl | (simp; done) | (simp [*]; done)), H', ⟨Nat.le_refl _⟩, ⟨by (with_reducible repeat (first | apply Kd.S_alloc | apply Kd.S_drewN | apply Kd.S_drew)); exact HO_3.out⟩, ⟨by (with_reducible repeat (first | refine blk_drewN ?_ _ | refine blk_drew ?_ | refine blk_alloc ?_ _)); exact BK101.out⟩, ⟨bB⟩⟩
    case round =>
     clear H'
     try clear c1
     try clear p1
     try clear q1
     try clear hx1
     try clear p2
     try clear c3
     try clear c3b0
     try clear c4
     try clear c4b0
     try clear c5
     try clear c6
     try clear p6
     try clear c9
     try clear c10
     try clear p10
     try clear q10
     try clear hx10
     try clear hcz10_0
     try clear hcz10_1
     try clear hcz14_0
     try clear hcz14_1
     try clear hcz7_0
     try clear hcz7_1
     try clear hfz10_0
     try clear hfz10_1
     try clear hfz14_0
     try clear hfz14_1
     try clear hfz7_0
     try clear hfz7_1
     try clear hx105_0
     try clear p105
     try clear p2
     try clear q105
     obtain ⟨x3_2, x5_2, rfl, HA, HK2, HO_3, BK101, HB⟩ := hrel
     cases gk with
     | zero => exact absurd HA.out (by simp [verditerref04_Columns.l1])
     | succ k2 =>
      have H := HA.out
      clear HA
      simp only [verditerref04_Columns.l1] at H
      by_cases c15 : x5_2 < (l0_1.length : Int)
      ·
       rw [if_pos c15] at H
       have c15b0 : decide (x5_2 < (l0_1.length : Int)) = true := decide_eq_true c15
       clear c15
       have H' := Aside0.mk H
       clear H
       have hcz16_0 : wr.cell? ⟨gb101, 0, none⟩ = some (.slice A0_0 l0_0.length c0_0) := (blk_cell BK101.out 0).trans rfl
       have hcz16_1 : wr.cell? ⟨gb101, 1, none⟩ = some (.slice A0_1 l0_1.length c0_1) := (blk_cell BK101.out 1).trans rfl
       have hfz16_0 := blk_frozen BK101.out 0
       have hfz16_1 := blk_frozen BK101.out 1
       go_wp2
       go_loopg [6, 7] k2 (fun kq v6 v7 w' => ∃ (x6_3 : List Int) (x7_3 : Int), v7 = .int .i64 x7_3 ∧ Aside0 (verditerref04_Columns.l2 kq x3_2 x5_2 x6_3 x7_3 l0_0 l0_1 = some r) ∧ Aside0 (kq ≤ k2) ∧ Aside0 (Kd.S (Kd.slice 3 (Kd.int .i64)) 28 w' w.heap.size (fun k_ => some k_ ≠ (v6 : Value).ownBlock) u3 x3_2) ∧ Aside0 (Kd.R (Kd.int .i64) 3 w' w.heap.size (fun _ => True) v6 x6_3) ∧ Aside0 (w'.heap[gb101]? = some (.cells #[(.slice A0_0 l0_0.length c0_0), (.slice A0_1 l0_1.length c0_1)] 24 (0, 0))) ∧ Aside0 (Below w.heap.size w w'))
       case atStart => exact ⟨(([] : List Int)), (0), (by first | rfl | (simp; done) | (simp [*]; done)), H', ⟨Nat.le_refl _⟩, ⟨by (with_reducible repeat (first | apply Kd.S_alloc | apply Kd.S_drewN | apply Kd.S_drew)); exact Kd.S_mono HO_3.out (fun _ hk => (by simp [Value.ownBlock]))⟩, ⟨by first | exact Kd.R_nil _ _ _ _ _ | exact Kd.N_nil _ _ _ _ _ | exact Kd.V_nil _ _ _ _ _ | exact Kd.Q_nil _ _ _ _ _ | exact Kd.S_nil _ _ _ _ _⟩, ⟨by (with_reducible repeat (first | refine blk_drewN ?_ _ | refine blk_drew ?_ | refine blk_alloc ?_ _)); exact BK101.out⟩, ⟨bB⟩⟩
       case round =>
        clear H'
        try clear c1
        try clear p1
        try clear q1
        try clear hx1
        try clear p2
        try clear c3
        try clear c3b0
        try clear c4
        try clear c4b0
        try clear c5
        try clear c6
        try clear p6
        try clear c9
        try clear c10
        try clear p10
        try clear q10
        try clear hx10
        try clear c15
        try clear c15b0
        try clear hcz10_0
        try clear hcz10_1
        try clear hcz14_0
        try clear hcz14_1
        try clear hcz16_0
        try clear hcz16_1
        try clear hcz7_0
        try clear hcz7_1
        try clear hfz10_0
        try clear hfz10_1
        try clear hfz14_0
        try clear hfz14_1
        try clear hfz16_0
        try clear hfz16_1
        try clear hfz7_0
        try clear hfz7_1
        try clear hx105_0
        try clear p1
        try clear p10
        try clear p105
        try clear p2
        try clear p6
        try clear q1
        try clear q10
        try clear q105
        obtain ⟨x6_3, x7_3, rfl, HA, HK3, HO_3, HO_6, BK101, HB⟩ := hrel
        cases gk with
        | zero => exact absurd HA.out (by simp [verditerref04_Columns.l2])
        | succ k3 =>
         have H := HA.out
         clear HA
         simp only [verditerref04_Columns.l2] at H
         by_cases c17 : 0 ≤ x5_2
         ·
          rw [if_pos c17] at H
          have c17b0 : decide (0 ≤ x5_2) = true := decide_eq_true c17
          clear c17
          by_cases c18 : x5_2 < (l0_1.length : Int)
          ·
           rw [if_pos c18] at H
           have c18b0 : decide (x5_2 < (l0_1.length : Int)) = true := decide_eq_true c18
           clear c18
           by_cases c19 : x7_3 < ((rd_L1 l0_1 x5_2).length : Int)
           ·
            rw [if_pos c19] at H
            have c19b0 : decide (x7_3 < ((rd_L1 l0_1 x5_2).length : Int)) = true := decide_eq_true c19
            clear c19
            by_cases c20 : 0 ≤ x7_3
            ·
             rw [if_pos c20] at H
             have c20b0 : decide (0 ≤ x7_3) = true := decide_eq_true c20
             clear c20
             by_cases c21 : x6_3.length < 17592186044416
             ·
              rw [if_pos c21] at H
              have LMc21 := Aside0.mk c21
              clear c21
              obtain ⟨y115, hy115⟩ : ∃ y_ : List Int, y_ = (x6_3 ++ [wrap64 (-(rd (rd_L1 l0_1 x5_2) x7_3))]) := ⟨_, rfl⟩
              replace H : (verditerref04_Columns.l2 k3 x3_2 x5_2 y115 (wrap64 (x7_3 + 1)) l0_0 l0_1) = some r := by first | (rw [hy115]; with_reducible exact H) | (have H2_ := (Option.bind_some _ _).symm.trans H; rw [hy115]; with_reducible exact H2_) | (have H2_ := (Option.bind_some _ _).symm.trans H; with_reducible exact H2_) | with_reducible exact H | (rw [hy115]; exact H) | exact H
              have Ny115 := Aside0.mk hy115
              clear hy115
              have H' := Aside0.mk H
              clear H
              have hcz22_0 : wr.cell? ⟨gb101, 0, none⟩ = some (.slice A0_0 l0_0.length c0_0) := (blk_cell BK101.out 0).trans rfl
              have hcz22_1 : wr.cell? ⟨gb101, 1, none⟩ = some (.slice A0_1 l0_1.length c0_1) := (blk_cell BK101.out 1).trans rfl
              have hfz22_0 := blk_frozen BK101.out 0
              have hfz22_1 := blk_frozen BK101.out 1
              have p112 : 0 ≤ (x5_2 : Int) := of_decide_eq_true (by assumption)
              have q112 : x5_2 < (l0_1.length : Int) := of_decide_eq_true (by assumption)
              obtain ⟨ad112, A112_0, c112_0, e112, hx112_0, hl112_0, hi112_0⟩ := at_L1 HR0_1.out x5_2 p112 q112
              cases e112
              replace hx112_0 := (HB.out.cell (World.block_lt_of_cell? w _ hx112_0)).trans hx112_0
              have HR112_0 := Aside0.mk hi112_0
              have HC112_0 := Aside0.mk hl112_0
              clear hi112_0 hl112_0
              replace p112 := eq_true p112
              replace q112 := eq_true q112
              have p113 : 0 ≤ (x5_2 : Int) := of_decide_eq_true (by assumption)
              have q113 : x5_2 < (l0_1.length : Int) := of_decide_eq_true (by assumption)
              obtain ⟨ad113, A113_0, c113_0, e113, hx113_0, hl113_0, hi113_0⟩ := at_L1 HR0_1.out x5_2 p113 q113
              obtain rfl : ad112 = ad113 := (by injection e113)
              replace hx113_0 := (HB.out.cell (World.block_lt_of_cell? w _ hx113_0)).trans hx113_0
              have HR113_0 := Aside0.mk hi113_0
              have HC113_0 := Aside0.mk hl113_0
              clear hi113_0 hl113_0
              replace p113 := eq_true p113
              replace q113 := eq_true q113
              have ea_ := Option.some.inj (hx112_0.symm.trans hx113_0)
              injection ea_ with ea_ en_ ec_
              subst ea_
              subst ec_
              clear en_
              have p114 : 0 ≤ (x7_3 : Int) := of_decide_eq_true (by assumption)
              have q114 : x7_3 < ((rd_L1 l0_1 x5_2).length : Int) := of_decide_eq_true (by assumption)
              obtain ⟨ad114, e114, hx114_0⟩ := Kd.at_int HR113_0.out x7_3 p114 q114
              cases e114
              replace hx114_0 := (HB.out.cell (World.block_lt_of_cell? w _ hx114_0)).trans hx114_0
              replace p114 := eq_true p114
              replace q114 := eq_true q114
              go_wp2_with (first | ((with_reducible refine gate_builtin (b := .append) (xs := #[.tmp 42, .tmp 52]) rfl ?_); at_builtin; refine Kd.R_append (Kd.int .i64) (w0 := w) w.heap.size rfl (.tmp 42) (.tmp 52) 28 3 (.int .i64 0) 8 rfl Try.underlying28 info3 rfl (by decide) (by omega) u6 x6_3 (wrap64 (-(rd (rd_L1 l0_1 x5_2) x7_3))) [.int .i64 (wrap64 (-(rd (rd_L1 l0_1 x5_2) x7_3)))] (fun _ => True) (fun _ => False) rfl rfl ?aP (fun _ hk => hk.elim) ?aF ?aO ?aB ?aS ?aL ?_; (case aP => exact rfl); (case aB => exact bB); (case aF => exact (fun _ _ => trivial)); (case aO => exact HO_6.out); (case aS => exact (below_size bB)); (case aL => have := LMc21.out; omega); intro v116 w23 ho hb hg hat; rw [← Ny115.out] at ho; have n0_ := Aside0.mk (Kd.S_after (ok := (fun _ => True)) (by (with_reducible repeat (first | apply Kd.S_alloc | apply Kd.S_drewN | apply Kd.S_drew)); exact Kd.S_mono HO_3.out (fun _ hk => ⟨trivial, hk⟩)) hg hat); have n1_ := Aside0.mk (blk_grown (g := gb101) (o := .cells #[.slice A0_0 l0_0.length c0_0, .slice (some ad112) l0_1.length c0_1] 24 (0, 0)) (by (with_reducible repeat (first | refine blk_drewN ?_ _ | refine blk_drew ?_ | refine blk_alloc ?_ _)); exact BK101.out) hg (Kd.R_ne HO_6.out BK101.out (by decide))); have n2_ := Aside0.mk (hb); have n3_ := Aside0.mk (ho); clear HO_3; clear BK101; clear HB; clear HO_6; have HO_3 := n0_; have BK101 := n1_; have HB := n2_; have HO117 := n3_; clear n0_ n1_ n2_ n3_; clear ho hb hg hat))
              go_roundg k3
              case measure => have := HK1.out; have := HK2.out; have := HK3.out; omega
              case rel => exact ⟨(y115), (wrap64 (x7_3 + 1)), (by first | rfl | (simp; done) | (simp [*]; done)), H', ⟨by have := HK1.out; have := HK2.out; have := HK3.out; omega⟩, ⟨by (with_reducible repeat (first | apply Kd.S_alloc | apply Kd.S_drewN | apply Kd.S_drew)); exact Kd.S_mono HO_3.out (fun _ hk => hk.2)⟩, ⟨by (with_reducible repeat (first | apply Kd.R_alloc | apply Kd.R_drewN | apply Kd.R_drew)); exact HO117.out⟩, ⟨by (with_reducible repeat (first | refine blk_drewN ?_ _ | refine blk_drew ?_ | refine blk_alloc ?_ _)); exact BK101.out⟩, ⟨bB⟩⟩
             ·
              rw [if_neg c21] at H
              exact absurd H (by simp)
            ·
             rw [if_neg c20] at H
             exact absurd H (by simp)
           ·
            rw [if_neg c19] at H
            have c19b0 : decide (x7_3 < ((rd_L1 l0_1 x5_2).length : Int)) = false := decide_eq_false c19
            clear c19
            by_cases c24 : x3_2.length < 5864062014805
            ·
             rw [if_pos c24] at H
             have LMc24 := Aside0.mk c24
             clear c24
             obtain ⟨y118, hy118⟩ : ∃ y_ : List (List Int), y_ = (x3_2 ++ [x6_3]) := ⟨_, rfl⟩
             replace H : (verditerref04_Columns.l1 k3 y118 (wrap64 (x5_2 + 1)) l0_0 l0_1) = some r := by first | (rw [hy118]; with_reducible exact H) | (have H2_ := (Option.bind_some _ _).symm.trans H; rw [hy118]; with_reducible exact H2_) | (have H2_ := (Option.bind_some _ _).symm.trans H; with_reducible exact H2_) | with_reducible exact H | (rw [hy118]; exact H) | exact H
             have Ny118 := Aside0.mk hy118
             clear hy118
             have H' := Aside0.mk H
             clear H
             have hcz25_0 : wr.cell? ⟨gb101, 0, none⟩ = some (.slice A0_0 l0_0.length c0_0) := (blk_cell BK101.out 0).trans rfl
             have hcz25_1 : wr.cell? ⟨gb101, 1, none⟩ = some (.slice A0_1 l0_1.length c0_1) := (blk_cell BK101.out 1).trans rfl
             have hfz25_0 := blk_frozen BK101.out 0
             have hfz25_1 := blk_frozen BK101.out 1
             have p112 : 0 ≤ (x5_2 : Int) := of_decide_eq_true (by assumption)
             have q112 : x5_2 < (l0_1.length : Int) := of_decide_eq_true (by assumption)
             obtain ⟨ad112, A112_0, c112_0, e112, hx112_0, hl112_0, hi112_0⟩ := at_L1 HR0_1.out x5_2 p112 q112
             cases e112
             replace hx112_0 := (HB.out.cell (World.block_lt_of_cell? w _ hx112_0)).trans hx112_0
             have HR112_0 := Aside0.mk hi112_0
             have HC112_0 := Aside0.mk hl112_0
             clear hi112_0 hl112_0
             replace p112 := eq_true p112
             replace q112 := eq_true q112
             obtain ⟨Ao27, co27, eo27⟩ := Kd.R_slice HO_6.out
             subst eo27
             go_wp2_with (first | ((with_reducible refine gate_builtin (b := .append) (xs := #[.tmp 54, .tmp 56]) rfl ?_); at_builtin; refine Kd.S_append (Kd.slice 3 (Kd.int .i64)) (w0 := w) w.heap.size rfl (.tmp 54) (.tmp 56) 22 28 (.slice none 0 0) 24 rfl Try.underlying22 info28 rfl (by decide) (by omega) u3 x3_2 x6_3 [.slice Ao27 x6_3.length co27] (fun _ => True) (fun k_ => some k_ = (.slice Ao27 x6_3.length co27 : Value).ownBlock) rfl rfl ?aP (fun k_ hk_ => ((Kd.R_mono (ok' := fun k_ => ((fun _ => True)) k_ ∧ some k_ ≠ (u3 : Value).ownBlock) (Kd.R_apart' (HO_6.out) (Kd.S_typed HO_3.out) (by decide)) (fun k_ hk => ⟨trivial, hk.2⟩))).1 k_ hk_.symm) ?aF ?aO ?aB ?aS ?aL ?_; (case aP => exact Kd.M_row (Kd.R_mono (Kd.R_tight rfl (Kd.R_mono (ok' := fun k_ => ((fun _ => True)) k_ ∧ some k_ ≠ (u3 : Value).ownBlock) (Kd.R_apart' (HO_6.out) (Kd.S_typed HO_3.out) (by decide)) (fun k_ hk => ⟨trivial, hk.2⟩))) (fun _ h_ => h_))); (case aB => exact bB); (case aF => exact (fun _ _ => trivial)); (case aO => exact (by (with_reducible repeat (first | apply Kd.S_alloc | apply Kd.S_drewN | apply Kd.S_drew)); exact Kd.S_mono HO_3.out (fun k_ hk => ⟨trivial, fun e_ => hk e_⟩))); (case aS => exact (below_size bB)); (case aL => have := LMc24.out; omega); intro v119 w26 ho hb hg hat; rw [← Ny118.out] at ho; have n0_ := Aside0.mk (blk_grown (g := gb101) (o := .cells #[.slice A0_0 l0_0.length c0_0, .slice (some ad112) l0_1.length c0_1] 24 (0, 0)) (by (with_reducible repeat (first | refine blk_drewN ?_ _ | refine blk_drew ?_ | refine blk_alloc ?_ _)); exact BK101.out) hg (Kd.S_ne HO_3.out BK101.out (by decide))); have n1_ := Aside0.mk (hb); have n2_ := Aside0.mk (ho); clear BK101; clear HB; clear HO_3; clear HO_6; have BK101 := n0_; have HB := n1_; have HO120 := n2_; clear n0_ n1_ n2_; clear ho hb hg hat))
             go_roundg k3
             case measure => have := HK1.out; have := HK2.out; have := HK3.out; omega
             case rel => exact ⟨(y118), (wrap64 (x5_2 + 1)), (by first | rfl | (simp; done) | (simp [*]; done)), H', ⟨by have := HK1.out; have := HK2.out; have := HK3.out; omega⟩, ⟨by (with_reducible repeat (first | apply Kd.S_alloc | apply Kd.S_drewN | apply Kd.S_drew)); exact HO120.out⟩, ⟨by (with_reducible repeat (first | refine blk_drewN ?_ _ | refine blk_drew ?_ | refine blk_alloc ?_ _)); exact BK101.out⟩, ⟨bB⟩⟩
            ·
             rw [if_neg c24] at H
             exact absurd H (by simp)
          ·
           rw [if_neg c18] at H
           exact absurd H (by simp)
         ·
          rw [if_neg c17] at H
          exact absurd H (by simp)
      ·
       rw [if_neg c15] at H
       have c15b0 : decide (x5_2 < (l0_1.length : Int)) = false := decide_eq_false c15
       clear c15
       obtain rfl := Option.some.inj H
       have hcz28_0 : wr.cell? ⟨gb101, 0, none⟩ = some (.slice A0_0 l0_0.length c0_0) := (blk_cell BK101.out 0).trans rfl
       have hcz28_1 : wr.cell? ⟨gb101, 1, none⟩ = some (.slice A0_1 l0_1.length c0_1) := (blk_cell BK101.out 1).trans rfl
       have hfz28_0 := blk_frozen BK101.out 0
       have hfz28_1 := blk_frozen BK101.out 1
       go_wp2
       go_ret
       exact ⟨_, by first | rfl | (simp [errW_none, errW_some] <;> rfl) | (simp [*, errW_none, errW_some] <;> rfl), by (with_reducible repeat (first | apply Kd.S_alloc | apply Kd.S_drewN | apply Kd.S_drew)); exact HO_3.out, bB⟩
end Go.Proofs.Ytdneelgnmnpanaa.P
end
section
namespace Go.Proofs.Ytdneelgnmnpanaa.P
open Go.RowKit Go.Proofs.YtdneelgnmnpanaaW.PrintWords
set_option linter.unusedVariables false
set_option linter.unusedSimpArgs false
theorem atom_at {c : List Int} (h : Atoms c) (e : Nat) : 0 ≤ c.getD e 0 ∧ c.getD e 0 ≤ 9 := by
  by_cases hl : e < c.length
  · rw [getD_at c e _ hl]
    exact h _ (List.getElem_mem hl)
  · rw [List.getD_eq_getElem?_getD, List.getElem?_eq_none (by omega)]
    simp
def negc (c : List Int) : List Int := c.map fun x => wrap64 (-x)
theorem negc_at {c : List Int} (h : Atoms c) (e : Nat) : (negc c).getD e 0 = -c.getD e 0 := by
  unfold negc
  by_cases hl : e < c.length
  · rw [getD_at _ e _ (by simpa using hl), getD_at c e _ hl, List.getElem_map]
    have := h _ (List.getElem_mem hl)
    exact wrp (by omega) (by omega)
  · rw [List.getD_eq_getElem?_getD, List.getElem?_eq_none (by simpa using hl), List.getD_eq_getElem?_getD, List.getElem?_eq_none (by omega)]
    simp
theorem cols_l2 (I O : List (List Int)) (out : List (List Int)) (n : Nat) (hn : n < O.length) (hc : O[n].length ≤ 1000) (ho : out.length ≤ 1000) (R : List (List Int)) : ∀ (d j : Nat) (s : List Int), j + d = O[n].length → s.length ≤ j →
    Ev (fun k => verditerref04_Columns.l1 k (out ++ [s ++ negc (O[n].drop j)]) (wrap64 ((n : Int) + 1)) I O) R → Ev (fun k => verditerref04_Columns.l2 k out (n : Int) s (j : Int) I O) R := by
  intro d
  induction d with
  | zero =>
    intro j s hj hs h
    refine Ev.step (fun k => by rw [verditerref04_Columns.l2]) ?_
    rw [List.drop_eq_nil_of_le (by omega)] at h
    simp only [show (0 : Int) ≤ (n : Int) by omega, show ((n : Int) < (O.length : Int)) by omega, if_true, rdL, getD_at O n _ hn, show ¬ ((j : Int) < (O[n].length : Int)) by omega, if_false, show out.length < 5864062014805 by omega]
    simpa [negc] using h
  | succ d ih =>
    intro j s hj hs h
    have hlt : j < O[n].length := by omega
    refine Ev.step (fun k => by rw [verditerref04_Columns.l2]) ?_
    rw [List.drop_eq_getElem_cons hlt] at h
    simp only [show (0 : Int) ≤ (n : Int) by omega, show ((n : Int) < (O.length : Int)) by omega, if_true, rdL, getD_at O n _ hn, show ((j : Int) < (O[n].length : Int)) by omega, show (0 : Int) ≤ (j : Int) by omega, show s.length < 17592186044416 by omega, rdn, getD_at O[n] j _ hlt]
    rw [wr_succ (m := O[n].length) hlt (by omega)]
    refine ih (j + 1) (s ++ [wrap64 (-O[n][j])]) (by omega) (by simp; omega) ?_
    rw [List.append_assoc]
    exact h
theorem cols_l1 (I O : List (List Int)) (hO : O.length ≤ 500) (hc : ∀ c ∈ O, c.length ≤ 1000) : ∀ (d n : Nat) (out : List (List Int)), n + d = O.length → out.length ≤ 500 + n → Ev (fun k => verditerref04_Columns.l1 k out (n : Int) I O) (out ++ (O.drop n).map negc) := by
  intro d
  induction d with
  | zero =>
    intro n out hn ho
    refine Ev.step (fun k => by rw [verditerref04_Columns.l1]) ?_
    simp only [show ¬ ((n : Int) < (O.length : Int)) by omega, if_false]
    rw [List.drop_eq_nil_of_le (by omega), List.map_nil, List.append_nil]
    exact Ev.now _
  | succ d ih =>
    intro n out hn ho
    have hlt : n < O.length := by omega
    refine Ev.step (fun k => by rw [verditerref04_Columns.l1]) ?_
    simp only [show ((n : Int) < (O.length : Int)) by omega, if_true]
    rw [List.drop_eq_getElem_cons hlt, List.map_cons]
    refine cols_l2 I O out n hlt (hc _ (List.getElem_mem hlt)) (by omega) _ O[n].length 0 [] (by omega) (by simp) ?_
    rw [wr_succ (m := O.length) hlt (by omega), List.drop_zero, List.nil_append]
    have := ih (n + 1) (out ++ [negc O[n]]) (by omega) (by simp; omega)
    rw [List.append_assoc] at this
    exact this
theorem cols_l0 (I O : List (List Int)) (hI : I.length ≤ 500) (hc : ∀ c ∈ I, c.length ≤ 1000) (R : List (List Int)) : ∀ (d n : Nat) (out : List (List Int)), n + d = I.length → out.length ≤ n → Ev (fun k => verditerref04_Columns.l1 k (out ++ I.drop n) 0 I O) R → Ev (fun k => verditerref04_Columns.l0 k out (n : Int) I O) R := by
  intro d
  induction d with
  | zero =>
    intro n out hn ho h
    refine Ev.step (fun k => by rw [verditerref04_Columns.l0]) ?_
    rw [List.drop_eq_nil_of_le (by omega), List.append_nil] at h
    simp only [show ¬ ((n : Int) < (I.length : Int)) by omega, if_false]
    exact h
  | succ d ih =>
    intro n out hn ho h
    have hlt : n < I.length := by omega
    have hl := hc _ (List.getElem_mem hlt)
    refine Ev.step (fun k => by rw [verditerref04_Columns.l0]) ?_
    rw [List.drop_eq_getElem_cons hlt] at h
    simp only [show ((n : Int) < (I.length : Int)) by omega, if_true, Option.bind_some, show (0 : Int) ≤ (n : Int) by omega, rdL, getD_at I n _ hlt, List.length_nil, show 0 + I[n].length < 17592186044416 by omega, show out.length < 5864062014805 by omega, List.nil_append]
    rw [wr_succ (m := I.length) hlt (by omega)]
    refine ih (n + 1) (out ++ [I[n]]) (by omega) (by simp; omega) ?_
    rw [List.append_assoc]
    exact h
def cols (I O : List (List Int)) : List (List Int) := I ++ O.map negc
theorem cols_ev {I O : List (List Int)} (h : vl I O = 0) : Ev (fun k => verditerref04_Columns.f k I O) (cols I O) := by
  obtain ⟨s1, s2, s3, s4, s5, s6, s7⟩ := vl_size h
  unfold verditerref04_Columns.f
  refine cols_l0 I O (by omega) (fun c hc => by have := (s7 c (List.mem_append_left _ hc)).1; omega) _ I.length 0 [] (by omega) (by simp) ?_
  rw [List.drop_zero, List.nil_append]
  have := cols_l1 I O (by omega) (fun c hc => by have := (s7 c (List.mem_append_right _ hc)).1; omega) O.length 0 I (by omega) (by omega)
  rw [List.drop_zero] at this
  exact this
end Go.Proofs.Ytdneelgnmnpanaa.P
end
section
namespace Go.Proofs.Ytdneelgnmnpanaa.P
open Go.RowKit Go.Proofs.YtdneelgnmnpanaaW.PrintWords Go.Proofs.Det
set_option linter.unusedVariables false
theorem getD_map0 (l : List (List Int)) (k j : Nat) : (l.map fun c => c.getD k 0).getD j 0 = (l.getD j []).getD k 0 := by
  rw [List.getD_eq_getElem?_getD, List.getElem?_map, List.getD_eq_getElem?_getD (l := l)]
  cases l[j]? <;> simp
theorem lineOf_cols (I O : List (List Int)) (hO : ∀ c ∈ O, Atoms c) (k : Nat) : I.map (fun c => c.getD k 0) ++ O.map (fun c => wrap64 (-(c.getD k 0))) = (cols I O).map fun c => c.getD k 0 := by
  unfold cols
  rw [List.map_append, List.map_map]
  congr 1
  refine List.map_congr_left fun c hc => ?_
  show wrap64 (-(c.getD k 0)) = (negc c).getD k 0
  have := atom_at (hO c hc) k
  rw [negc_at (hO c hc), wrp (by omega) (by omega)]
theorem pad_getD (l : List Int) (j : Nat) : (pad l).getD j 0 = l.getD j 0 := by
  unfold pad
  by_cases h : j < l.length
  · rw [List.getD_eq_getElem?_getD, List.getElem?_append_left h, List.getD_eq_getElem?_getD]
  · rw [getD_none (l := l) (by omega), List.getD_eq_getElem?_getD, List.getElem?_append_right (by omega), List.getElem?_replicate]
    split <;> rfl
theorem line_fn (I O : List (List Int)) (hO : ∀ c ∈ O, Atoms c) (k : Nat) : fn (lineOf I O k) = el k ∘ fun j => (cols I O).getD j [] := by
  funext j
  show (lineOf I O k).getD j 0 = ((cols I O).getD j []).getD k 0
  unfold lineOf
  rw [pad_getD, lineOf_cols I O hO k, getD_map0]
end Go.Proofs.Ytdneelgnmnpanaa.P
end
section
namespace Go.Proofs.Ytdneelgnmnpanaa.P
open Go.RowKit Go.Proofs.YtdneelgnmnpanaaW.PrintWords Go.Proofs.Det
set_option linter.unusedVariables false
def csn (n : Nat) (j : Nat) : Int := if j < n then 1 else -1
theorem csn_one (n j : Nat) : csn n j = 1 ∨ csn n j = -1 := by
  unfold csn
  split
  · exact .inl rfl
  · exact .inr rfl
theorem line_small (I O : List (List Int)) (hI : ∀ c ∈ I, Atoms c) (hO : ∀ c ∈ O, Atoms c) (k j : Nat) : 0 ≤ csn I.length j * (lineOf I O k).getD j 0 ∧ ((lineOf I O k).getD j 0).natAbs ≤ 9 := by
  have h1 : (lineOf I O k).getD j 0 = ((cols I O).getD j []).getD k 0 := congrFun (line_fn I O hO k) j
  rw [h1]
  unfold cols csn
  by_cases c : j < I.length
  · rw [if_pos c, getD_at _ j _ (by simp; omega), List.getElem_append_left c]
    have := atom_at (hI _ (List.getElem_mem c)) k
    omega
  · rw [if_neg c]
    by_cases c2 : j < I.length + O.length
    · rw [getD_at _ j _ (by simp; omega), List.getElem_append_right (by omega), List.getElem_map]
      have hm : O[j - I.length]'(by omega) ∈ O := List.getElem_mem _
      have := atom_at (hO _ hm) k
      rw [negc_at (hO _ hm)]
      omega
    · rw [show (I ++ O.map negc).getD j [] = [] by rw [List.getD_eq_getElem?_getD, List.getElem?_eq_none (by simp; omega)]; rfl]
      simp
end Go.Proofs.Ytdneelgnmnpanaa.P
end
section
namespace Go.Proofs.Ytdneelgnmnpanaa.P
open Go.RowKit Go.Proofs.YtdneelgnmnpanaaW.PrintWords Go.Proofs.Det
set_option linter.unusedVariables false
def ml (I O : List (List Int)) : List (List Int) := (List.range (I.getD 0 []).length).map (lineOf I O)
def rkL (M0 : List (List Int)) : Nat := match red M0 with | some (_, P) => P.length | none => 0
theorem vl_atoms {I O : List (List Int)} (h : vl I O = 0) : (∀ c ∈ I, Atoms c) ∧ ∀ c ∈ O, Atoms c := by
  obtain ⟨-, -, -, -, -, -, h7⟩ := vl_size h
  exact ⟨fun c hc => (h7 c (List.mem_append_left _ hc)).2, fun c hc => (h7 c (List.mem_append_right _ hc)).2⟩
theorem cols_length (I O : List (List Int)) : (cols I O).length = I.length + O.length := by simp [cols]
theorem ml_length (I O : List (List Int)) : (ml I O).length = (I.getD 0 []).length := by simp [ml]
theorem ml_at (I O : List (List Int)) (k : Nat) (h : k < (I.getD 0 []).length) : lineAt (ml I O) k = lineOf I O k := by
  rw [lineAt_eq _ k (by rw [ml_length]; exact h)]
  simp [ml]
theorem ml_six {I O : List (List Int)} (h : vl I O = 0) : Six (ml I O) := fun r hr => by
  obtain ⟨k, -, rfl⟩ := List.mem_map.1 hr
  obtain ⟨-, h2, -, h4, -⟩ := vl_size h
  exact pad_length (by simp; omega)
theorem ml_lns {I O : List (List Int)} (h : vl I O = 0) : Lns (cols I O) (List.range (I.getD 0 []).length) (ml I O) where
  len := by rw [ml_length, List.length_range]
  six := ml_six h
  fn k hk := by
    rw [List.length_range] at hk
    rw [ml_at I O k hk, line_fn I O (vl_atoms h).2, getD_at _ _ _ (by rw [List.length_range]; exact hk), List.getElem_range]
theorem cols_small {I O : List (List Int)} (h : vl I O = 0) : Small (cols I O) (List.range (I.getD 0 []).length) := fun c hc e he => by
  obtain ⟨-, -, -, -, -, -, h7⟩ := vl_size h
  obtain ⟨a1, a2⟩ := vl_atoms h
  have he := List.mem_range.1 he
  rcases List.mem_append.1 hc with hc | hc
  · have := atom_at (a1 c hc) e
    exact ⟨by rw [(h7 c (List.mem_append_left _ hc)).1]; exact he, by omega⟩
  · obtain ⟨d, hd, rfl⟩ := List.mem_map.1 hc
    have := atom_at (a2 d hd) e
    rw [negc_at (a2 d hd)]
    refine ⟨?_, by omega⟩
    unfold negc
    rw [List.length_map, (h7 d (List.mem_append_right _ hd)).1]
    exact he
theorem ml_inv {I O : List (List Int)} (h : vl I O = 0) : ∃ M Q, red (ml I O) = some (M, Q.map (fun x : Nat => (x : Int))) ∧ Inv (csn I.length) (ml I O) 6 M Q := by
  obtain ⟨-, h2, -, h4, h5, h6, h7⟩ := vl_size h
  obtain ⟨a1, a2⟩ := vl_atoms h
  refine red_inv (csn_one I.length) (.inl (by rw [ml_length]; omega)) (ml_six h) (fun b j => ?_) (fun b => ?_)
  · by_cases hb : b < (I.getD 0 []).length
    · rw [ml_at I O b hb]
      exact (line_small I O a1 a2 b j).2
    · rw [lineAt_none _ _ (by rw [ml_length]; omega)]
      simp
  · refine ⟨1, .inl rfl, fun j => ?_⟩
    rw [Int.one_mul]
    by_cases hb : b < (I.getD 0 []).length
    · rw [ml_at I O b hb]
      exact (line_small I O a1 a2 b j).1
    · rw [lineAt_none _ _ (by rw [ml_length]; omega)]
      simp
theorem rkL_eq {M0 M : List (List Int)} {Q : List Nat} (h : red M0 = some (M, Q.map (fun x : Nat => (x : Int)))) : rkL M0 = Q.length := by
  unfold rkL
  rw [h]
  simp
theorem l6_map (M : List (List Int)) (h : Six M) : (M.map mk6).map L6 = M := by
  rw [List.map_map]
  refine Eq.trans (List.map_congr_left fun r hr => ?_) (List.map_id _)
  exact L6_mk6 (h r hr)
theorem red_ev (M0 : List (List Int)) (h6 : Six M0) (h0 : 0 < M0.length) (h4 : M0.length < 1000) : strike_reduced.f (M0.map mk6) = (red M0).map fun x => ((x.1.take x.2.length).map mk6, x.2) := by
  unfold strike_reduced.f
  rw [if_pos ⟨by simpa using h0, by simpa using h4⟩, l6_map M0 h6]
theorem rkl_ev {M0 M : List (List Int)} {Q : List Nat} (h6 : Six M0) (h0 : 0 < M0.length) (h4 : M0.length < 1000) (h : red M0 = some (M, Q.map (fun x : Nat => (x : Int)))) : strike_rank.f (M0.map mk6) = some (Q.length : Int) := by
  unfold strike_rank.f
  rw [red_ev M0 h6 h0 h4, h]
  simp
theorem lines_mk {I O : List (List Int)} (h : vl I O = 0) : strike_lines.f I O = some ((ml I O).map mk6) := by
  obtain ⟨h1, h2, h3, h4, h5, h6, h7⟩ := vl_size h
  unfold strike_lines.f
  rw [rdL0, if_pos ⟨by omega, by omega, ⟨by omega, h6⟩, fun r hr => by rw [(h7 r hr).1]; exact Nat.le_refl _⟩]
  simp [ml]
def spc (I O : List (List Int)) : Int × Int := if vl I O = 0 then ((I.length + O.length : Nat) - (rkL (ml I O) : Int), 0) else (0, vl I O)
theorem spc_rank {I O : List (List Int)} (h : vl I O = 0) : rkL (ml I O) ≤ (I.getD 0 []).length ∧ rkL (ml I O) ≤ I.length + O.length := by
  obtain ⟨M, Q, h1, h2⟩ := ml_inv h
  rw [rkL_eq h1]
  have := h2.ql
  have := h2.len
  rw [ml_length] at this
  have he := (h2.ech (n := (cols I O).length) (by rw [cols_length]; have := vl_size h; omega) (ml_lns h).wid).len_le
  rw [cols_length] at he
  omega
end Go.Proofs.Ytdneelgnmnpanaa.P
end
section
namespace Go.Proofs.Ytdneelgnmnpanaa.P
open Go.RowKit Go.Proofs.YtdneelgnmnpanaaW.PrintWords Go.Proofs.YtdneelgnmnpanaaW.PrintLast Go.Proofs.YtdneelgnmnpanaaW.PrintMore
attribute [local go_sem] max2_int min2_int max_two min_two max_three min_three max_four min_four   -- for this text's walks alone
set_option linter.unusedVariables false
set_option linter.unusedSimpArgs false
def verditerref04_Space.f (k : Nat) (l0_0 : List (List Int)) (l0_1 : List (List Int)) : Option (Int × Int) := (verditerref04_Validate.f k l0_0 l0_1).bind fun t102 => (if t102 = 0 then ((verditerref04_Columns.f k l0_0 l0_1).bind fun t103 => ((verditerref04_lines.f k t103).bind fun t106 => ((verditerref04_rank.f k t103 t106).bind fun t109 => (some (wrap64 ((t103.length : Int) - t109), 0))))) else (some (0, t102)))
set_option maxHeartbeats 8000000 in
set_option maxRecDepth 100000 in
theorem verditerref04_Space.calls (k : Nat) (A0_0 : Option Addr) (c0_0 : Nat) (l0_0 : List (List Int)) (A0_1 : Option Addr) (c0_1 : Nat) (l0_1 : List (List Int)) (r1 : Int) (r2 : Int) (w : World) (hr0_0 : Kd.C (Kd.slice 3 (Kd.int .i64)) w A0_0 l0_0.length l0_0) (hc0_0 : l0_0.length ≤ c0_0) (hr0_1 : Kd.C (Kd.slice 3 (Kd.int .i64)) w A0_1 l0_1.length l0_1) (hc0_1 : l0_1.length ≤ c0_1) (h : verditerref04_Space.f k l0_0 l0_1 = some (r1, r2)) :
  Calls Try.prog 54 #[.agg #[.slice A0_0 l0_0.length c0_0, .slice A0_1 l0_1.length c0_1]] w fun e w' => e = .returned (.tuple #[.int .i64 r1, .int .i64 r2]) ∧ Below w.heap.size w w' := by
 have hu24 := Try.underlying24
 have HR0_0 := Aside0.mk hr0_0
 have HC0_0 := Aside0.mk hc0_0
 clear hr0_0 hc0_0
 have HR0_1 := Aside0.mk hr0_1
 have HC0_1 := Aside0.mk hc0_1
 clear hr0_1 hc0_1
 have HB := Aside0.mk (Below.refl w.heap.size w)
 have H : ((verditerref04_Validate.f k l0_0 l0_1).bind fun t102 => (if t102 = 0 then ((verditerref04_Columns.f k l0_0 l0_1).bind fun t103 => ((verditerref04_lines.f k t103).bind fun t106 => ((verditerref04_rank.f k t103 t106).bind fun t109 => (some (wrap64 ((t103.length : Int) - t109), 0))))) else (some (0, t102)))) = some (r1, r2) := h
 clear h
 replace H := Option.bind_eq_some_iff.mp H
 obtain ⟨t102, A20, H⟩ := H
 replace H : (if t102 = 0 then ((verditerref04_Columns.f k l0_0 l0_1).bind fun t103 => ((verditerref04_lines.f k t103).bind fun t106 => ((verditerref04_rank.f k t103 t106).bind fun t109 => (some (wrap64 ((t103.length : Int) - t109), 0))))) else (some (0, t102))) = some (r1, r2) := H
 have A2 := Aside0.mk A20
 clear A20
 by_cases c3 : t102 = 0
 ·
  rw [if_pos c3] at H
  have c3b0 : (t102 == 0) = true := beq_iff_eq.mpr c3
  have c3b1 : (t102 != 0) = false := bne_eq_false_iff_eq.mpr c3
  clear c3
  replace H := Option.bind_eq_some_iff.mp H
  obtain ⟨t103, A40, H⟩ := H
  replace H : ((verditerref04_lines.f k t103).bind fun t106 => ((verditerref04_rank.f k t103 t106).bind fun t109 => (some (wrap64 ((t103.length : Int) - t109), 0)))) = some (r1, r2) := H
  have A4 := Aside0.mk A40
  clear A40
  replace H := Option.bind_eq_some_iff.mp H
  obtain ⟨t106, A50, H⟩ := H
  replace H : ((verditerref04_rank.f k t103 t106).bind fun t109 => (some (wrap64 ((t103.length : Int) - t109), 0))) = some (r1, r2) := H
  have A5 := Aside0.mk A50
  clear A50
  replace H := Option.bind_eq_some_iff.mp H
  obtain ⟨t109, A60, H⟩ := H
  replace H : (some (wrap64 ((t103.length : Int) - t109), 0)) = some (r1, r2) := H
  have A6 := Aside0.mk A60
  clear A60
  simp only [Option.some.injEq, Prod.mk.injEq] at H
  obtain ⟨rfl, rfl⟩ := H
  go_enter Try.func54, Try.ntmps54
  go_wp2_with (first | ((with_reducible refine gate_dst (N := 1) rfl ?_); refine box_event ?hg (N := 1) ?hd (cs := #[.slice A0_0 l0_0.length c0_0, .slice A0_1 l0_1.length c0_1]) (t := 24) ?hr ?_; (case hd => rfl); (case hg => rfl); (case hr => first | (go_simp; done) | (go_simp; rfl)); intro gb101 hg w7 hbox hb; have n0_ := Aside0.mk (below_step bB hb); have n1_ := Aside0.mk (hbox); have n2_ := Aside0.mk ((by rw [hg]; exact (below_size bB) : w.heap.size ≤ gb101)); have n3_ := Aside0.mk ((by rw [hg]; exact (below_size bB) : w.heap.size ≤ gb101)); clear HB; have HB := n0_; have BK101 := n1_; have GW101 := n2_; have GE101 := n3_; clear n0_ n1_ n2_ n3_; clear hb hbox hg; have hcz8_0 : w7.cell? ⟨gb101, 0, none⟩ = some (.slice A0_0 l0_0.length c0_0) := (blk_cell BK101.out 0).trans rfl; have hcz8_1 : w7.cell? ⟨gb101, 1, none⟩ = some (.slice A0_1 l0_1.length c0_1) := (blk_cell BK101.out 1).trans rfl; have hfz8_0 := blk_frozen BK101.out 0; have hfz8_1 := blk_frozen BK101.out 1) | ((with_reducible refine gate_callee (f := 55) rfl ?_); refine goesL_ (some 7) rfl rfl Try.func55 (by kernel_rfl) rfl #[.agg #[.slice A0_0 l0_0.length c0_0, .slice A0_1 l0_1.length c0_1]] rfl hA ?_; (with_reducible refine (verditerref04_Validate.calls k (fun k_ => k_ < w.heap.size) _ _ l0_0 (fun k_ => k_ < w.heap.size) _ _ l0_1 t102 _ ?side1 ?side2 A2.out).mono ?_); (case side1 => exact Kd.V_mk HC0_0.out (Kd.F_below (Kd.C_F (Kd.heap_slice 3 (Kd.heap_int .i64)) HR0_0.out) bB)); (case side2 => exact Kd.V_mk HC0_1.out (Kd.F_below (Kd.C_F (Kd.heap_slice 3 (Kd.heap_int .i64)) HR0_1.out) bB)); rintro e w9 ⟨rfl, hb⟩; refine ⟨_, rfl, ?_⟩; have n0_ := Aside0.mk (blk_below BK101.out hb); have n1_ := Aside0.mk (below_step bB hb); clear BK101; clear HB; have BK101 := n0_; have HB := n1_; clear n0_ n1_; (try clear hb); (try clear hb2); (try clear hk); (try clear hi); have hcz10_0 : w9.cell? ⟨gb101, 0, none⟩ = some (.slice A0_0 l0_0.length c0_0) := (blk_cell BK101.out 0).trans rfl; have hcz10_1 : w9.cell? ⟨gb101, 1, none⟩ = some (.slice A0_1 l0_1.length c0_1) := (blk_cell BK101.out 1).trans rfl; have hfz10_0 := blk_frozen BK101.out 0; have hfz10_1 := blk_frozen BK101.out 1) | ((with_reducible refine gate_callee (f := 96) rfl ?_); refine goesL_ (some 12) rfl rfl Try.func96 (by kernel_rfl) rfl #[.agg #[.slice A0_0 l0_0.length c0_0, .slice A0_1 l0_1.length c0_1]] rfl hA ?_; (with_reducible refine (verditerref04_Columns.calls k _ _ l0_0 _ _ l0_1 t103 _ ?side1 ?side2 ?side3 ?side4 A4.out).mono ?_); (case side1 => exact (Kd.C_below HR0_0.out HB.out)); (case side2 => exact HC0_0.out); (case side3 => exact (Kd.C_below HR0_1.out HB.out)); (case side4 => exact HC0_1.out); rintro e w11 ⟨v104, rfl, ho0, hb⟩; refine ⟨_, rfl, ?_⟩; have n0_ := Aside0.mk (Kd.S_lower ho0 (below_size bB)); have n1_ := Aside0.mk (blk_below BK101.out hb); have n2_ := Aside0.mk (below_step bB hb); clear BK101; clear HB; have HO105 := n0_; have BK101 := n1_; have HB := n2_; clear n0_ n1_ n2_; (try clear hb); (try clear hb2); (try clear hk); (try clear hi); (try clear ho0); obtain ⟨Ao12, co12, eo12⟩ := Kd.S_slice HO105.out; subst eo12) | ((with_reducible refine gate_callee (f := 98) rfl ?_); refine goesL_ (some 17) rfl rfl Try.func98 (by kernel_rfl) rfl #[.slice Ao12 t103.length co12] rfl hA ?_; (with_reducible refine (verditerref04_lines.calls k _ _ t103 t106 _ ?side1 ?side2 A5.out).mono ?_); (case side1 => exact (Kd.S_reads' HO105.out).2.2); (case side2 => exact (Kd.S_reads' HO105.out).2.1); rintro e w13 ⟨v107, rfl, ho0, hb⟩; refine ⟨_, rfl, ?_⟩; have n0_ := Aside0.mk (Kd.S_elder' HO105.out (Kd.R_base ho0) hb); have n1_ := Aside0.mk (Kd.R_lower ho0 (below_size bB)); have n2_ := Aside0.mk (blk_below BK101.out hb); have n3_ := Aside0.mk (below_step bB hb); clear HO105; clear BK101; clear HB; have HO105 := n0_; have HO108 := n1_; have BK101 := n2_; have HB := n3_; clear n0_ n1_ n2_ n3_; (try clear hb); (try clear hb2); (try clear hk); (try clear hi); (try clear ho0); obtain ⟨Ao14, co14, eo14⟩ := Kd.R_slice HO108.out; subst eo14) | ((with_reducible refine gate_callee (f := 97) rfl ?_); refine goesL_ (some 18) rfl rfl Try.func97 (by kernel_rfl) rfl #[.slice Ao12 t103.length co12, .slice Ao14 t106.length co14] rfl hA ?_; (with_reducible refine (verditerref04_rank.calls k _ _ t103 _ _ t106 t109 _ ?side1 ?side2 ?side3 ?side4 A6.out).mono ?_); (case side1 => exact (Kd.S_reads' HO105.out).2.2); (case side2 => exact (Kd.S_reads' HO105.out).2.1); (case side3 => exact (Kd.R_reads' HO108.out).2.2); (case side4 => exact (Kd.R_reads' HO108.out).2.1); rintro e w15 ⟨rfl, hb⟩; refine ⟨_, rfl, ?_⟩; have n0_ := Aside0.mk (Kd.S_below HO105.out hb); have n1_ := Aside0.mk (Kd.R_below HO108.out hb); have n2_ := Aside0.mk (blk_below BK101.out hb); have n3_ := Aside0.mk (below_step bB hb); clear HO105; clear HO108; clear BK101; clear HB; have HO105 := n0_; have HO108 := n1_; have BK101 := n2_; have HB := n3_; clear n0_ n1_ n2_ n3_; (try clear hb); (try clear hb2); (try clear hk); (try clear hi)))
  go_ret2
  exact ⟨by first | rfl | (simp [errW_none, errW_some] <;> rfl) | (simp [*, errW_none, errW_some] <;> rfl), bB⟩
 ·
  rw [if_neg c3] at H
  have c3b0 : (t102 == 0) = false := beq_eq_false_iff_ne.mpr c3
  have c3b1 : (t102 != 0) = true := bne_iff_ne.mpr c3
  simp only [Option.some.injEq, Prod.mk.injEq] at H
  obtain ⟨rfl, rfl⟩ := H
  go_enter Try.func54, Try.ntmps54
  go_wp2_with (first | ((with_reducible refine gate_dst (N := 1) rfl ?_); refine box_event ?hg (N := 1) ?hd (cs := #[.slice A0_0 l0_0.length c0_0, .slice A0_1 l0_1.length c0_1]) (t := 24) ?hr ?_; (case hd => rfl); (case hg => rfl); (case hr => first | (go_simp; done) | (go_simp; rfl)); intro gb101 hg w16 hbox hb; have n0_ := Aside0.mk (below_step bB hb); have n1_ := Aside0.mk (hbox); have n2_ := Aside0.mk ((by rw [hg]; exact (below_size bB) : w.heap.size ≤ gb101)); have n3_ := Aside0.mk ((by rw [hg]; exact (below_size bB) : w.heap.size ≤ gb101)); clear HB; have HB := n0_; have BK101 := n1_; have GW101 := n2_; have GE101 := n3_; clear n0_ n1_ n2_ n3_; clear hb hbox hg; have hcz17_0 : w16.cell? ⟨gb101, 0, none⟩ = some (.slice A0_0 l0_0.length c0_0) := (blk_cell BK101.out 0).trans rfl; have hcz17_1 : w16.cell? ⟨gb101, 1, none⟩ = some (.slice A0_1 l0_1.length c0_1) := (blk_cell BK101.out 1).trans rfl; have hfz17_0 := blk_frozen BK101.out 0; have hfz17_1 := blk_frozen BK101.out 1) | ((with_reducible refine gate_callee (f := 55) rfl ?_); refine goesL_ (some 7) rfl rfl Try.func55 (by kernel_rfl) rfl #[.agg #[.slice A0_0 l0_0.length c0_0, .slice A0_1 l0_1.length c0_1]] rfl hA ?_; (with_reducible refine (verditerref04_Validate.calls k (fun k_ => k_ < w.heap.size) _ _ l0_0 (fun k_ => k_ < w.heap.size) _ _ l0_1 t102 _ ?side1 ?side2 A2.out).mono ?_); (case side1 => exact Kd.V_mk HC0_0.out (Kd.F_below (Kd.C_F (Kd.heap_slice 3 (Kd.heap_int .i64)) HR0_0.out) bB)); (case side2 => exact Kd.V_mk HC0_1.out (Kd.F_below (Kd.C_F (Kd.heap_slice 3 (Kd.heap_int .i64)) HR0_1.out) bB)); rintro e w18 ⟨rfl, hb⟩; refine ⟨_, rfl, ?_⟩; have n0_ := Aside0.mk (blk_below BK101.out hb); have n1_ := Aside0.mk (below_step bB hb); clear BK101; clear HB; have BK101 := n0_; have HB := n1_; clear n0_ n1_; (try clear hb); (try clear hb2); (try clear hk); (try clear hi)))
  go_ret2
  exact ⟨by first | rfl | (simp [errW_none, errW_some] <;> rfl) | (simp [*, errW_none, errW_some] <;> rfl), bB⟩
end Go.Proofs.Ytdneelgnmnpanaa.P
end
section
namespace Go.Proofs.Ytdneelgnmnpanaa.P
open Go.RowKit Go.Proofs.YtdneelgnmnpanaaW.PrintWords Go.Proofs.YtdneelgnmnpanaaW.PrintLast Go.Proofs.YtdneelgnmnpanaaW.PrintMore
attribute [local go_sem] max2_int min2_int max_two min_two max_three min_three max_four min_four   -- for this text's walks alone
set_option linter.unusedVariables false
set_option linter.unusedSimpArgs false
def strike_Space.f (k : Nat) (l0_0 : List (List Int)) (l0_1 : List (List Int)) : Option (Int × Int) := (strike_Validate.f k l0_0 l0_1).bind fun t102 => (if t102 = 0 then ((strike_compounds.f l0_0 l0_1).bind fun t103 => ((strike_lines.f l0_0 l0_1).bind fun t104 => ((strike_rank.f t104).bind fun t107 => (some (wrap64 (t103 - t107), 0))))) else (some (0, t102)))
def strike_Space.T4 : Bool × List (List Nat × List Nat) := (true, [([], []), ([0], [0]), ([], []), ([2, 1], [2]), ([3, 3], [3]), ([1, 4], [1, 4]), ([5, 4, 0, 1, 2, 3, 4, 5], [5]), ([6, 0, 1, 2, 3, 4, 5, 6], [])])
def strike_Space.B4 : List Nat := [0, 1, 0, 7, 15, 31, 63, 127]
theorem strike_Space.tab4 : rtab .any (opsOf Try.f35 4) = strike_Space.T4 := by kernel_rfl
theorem strike_Space.bits4 : waitsOk strike_Space.T4.2 strike_Space.B4 = true := by kernel_rfl
set_option maxHeartbeats 8000000 in
set_option maxRecDepth 100000 in
theorem strike_Space.calls (k : Nat) (A0_0 : Option Addr) (c0_0 : Nat) (l0_0 : List (List Int)) (A0_1 : Option Addr) (c0_1 : Nat) (l0_1 : List (List Int)) (r1 : Int) (r2 : Int) (w : World) (hr0_0 : Kd.C (Kd.slice 3 (Kd.int .i64)) w A0_0 l0_0.length l0_0) (hc0_0 : l0_0.length ≤ c0_0) (hr0_1 : Kd.C (Kd.slice 3 (Kd.int .i64)) w A0_1 l0_1.length l0_1) (hc0_1 : l0_1.length ≤ c0_1) (h : strike_Space.f k l0_0 l0_1 = some (r1, r2)) :
  Calls Try.prog 35 #[.agg #[.slice A0_0 l0_0.length c0_0, .slice A0_1 l0_1.length c0_1]] w fun e w' => e = .returned (.tuple #[.int .i64 r1, .int .i64 r2]) ∧ Below w.heap.size w w' := by
 have hu24 := Try.underlying24
 have HR0_0 := Aside0.mk hr0_0
 have HC0_0 := Aside0.mk hc0_0
 clear hr0_0 hc0_0
 have HR0_1 := Aside0.mk hr0_1
 have HC0_1 := Aside0.mk hc0_1
 clear hr0_1 hc0_1
 have HB := Aside0.mk (Below.refl w.heap.size w)
 have H : ((strike_Validate.f k l0_0 l0_1).bind fun t102 => (if t102 = 0 then ((strike_compounds.f l0_0 l0_1).bind fun t103 => ((strike_lines.f l0_0 l0_1).bind fun t104 => ((strike_rank.f t104).bind fun t107 => (some (wrap64 (t103 - t107), 0))))) else (some (0, t102)))) = some (r1, r2) := h
 clear h
 replace H := Option.bind_eq_some_iff.mp H
 obtain ⟨t102, A20, H⟩ := H
 replace H : (if t102 = 0 then ((strike_compounds.f l0_0 l0_1).bind fun t103 => ((strike_lines.f l0_0 l0_1).bind fun t104 => ((strike_rank.f t104).bind fun t107 => (some (wrap64 (t103 - t107), 0))))) else (some (0, t102))) = some (r1, r2) := H
 have A2 := Aside0.mk A20
 clear A20
 by_cases c3 : t102 = 0
 ·
  rw [if_pos c3] at H
  have c3b0 : (t102 == 0) = true := beq_iff_eq.mpr c3
  have c3b1 : (t102 != 0) = false := bne_eq_false_iff_eq.mpr c3
  clear c3
  replace H := Option.bind_eq_some_iff.mp H
  obtain ⟨t103, A40, H⟩ := H
  replace H : ((strike_lines.f l0_0 l0_1).bind fun t104 => ((strike_rank.f t104).bind fun t107 => (some (wrap64 (t103 - t107), 0)))) = some (r1, r2) := H
  have A4 := Aside0.mk A40
  clear A40
  replace H := Option.bind_eq_some_iff.mp H
  obtain ⟨t104, A50, H⟩ := H
  replace H : ((strike_rank.f t104).bind fun t107 => (some (wrap64 (t103 - t107), 0))) = some (r1, r2) := H
  have A5 := Aside0.mk A50
  clear A50
  replace H := Option.bind_eq_some_iff.mp H
  obtain ⟨t107, A60, H⟩ := H
  replace H : (some (wrap64 (t103 - t107), 0)) = some (r1, r2) := H
  have A6 := Aside0.mk A60
  clear A60
  simp only [Option.some.injEq, Prod.mk.injEq] at H
  obtain ⟨rfl, rfl⟩ := H
  go_enter Try.func35, Try.ntmps35
  try go_wp2_with (first | ((with_reducible refine gate_dst (N := 1) rfl ?_); refine box_event ?hg (N := 1) ?hd (cs := #[.slice A0_0 l0_0.length c0_0, .slice A0_1 l0_1.length c0_1]) (t := 24) ?hr ?_; (case hd => rfl); (case hg => rfl); (case hr => first | (go_simp; done) | (go_simp; rfl)); intro gb101 hg w7 hbox hb; have n0_ := Aside0.mk (below_step bB hb); have n1_ := Aside0.mk (hbox); have n2_ := Aside0.mk ((by rw [hg]; exact (below_size bB) : w.heap.size ≤ gb101)); have n3_ := Aside0.mk ((by rw [hg]; exact (below_size bB) : w.heap.size ≤ gb101)); clear HB; have HB := n0_; have BK101 := n1_; have GW101 := n2_; have GE101 := n3_; clear n0_ n1_ n2_ n3_; clear hb hbox hg; have hcz8_0 : w7.cell? ⟨gb101, 0, none⟩ = some (.slice A0_0 l0_0.length c0_0) := (blk_cell BK101.out 0).trans rfl; have hcz8_1 : w7.cell? ⟨gb101, 1, none⟩ = some (.slice A0_1 l0_1.length c0_1) := (blk_cell BK101.out 1).trans rfl; have hfz8_0 := blk_frozen BK101.out 0; have hfz8_1 := blk_frozen BK101.out 1) | ((with_reducible refine gate_callee (f := 38) rfl ?_); refine goesL_ (some 6) rfl rfl Try.func38 (by kernel_rfl) rfl #[.agg #[.slice A0_0 l0_0.length c0_0, .slice A0_1 l0_1.length c0_1]] rfl hA ?_; (with_reducible refine (strike_Validate.calls k _ _ l0_0 _ _ l0_1 t102 _ ?side1 ?side2 ?side3 ?side4 A2.out).mono ?_); (case side1 => exact (Kd.C_below HR0_0.out HB.out)); (case side2 => exact HC0_0.out); (case side3 => exact (Kd.C_below HR0_1.out HB.out)); (case side4 => exact HC0_1.out); rintro e w9 ⟨rfl, hb⟩; refine ⟨_, rfl, ?_⟩; have n0_ := Aside0.mk (blk_below BK101.out hb); have n1_ := Aside0.mk (below_step bB hb); clear BK101; clear HB; have BK101 := n0_; have HB := n1_; clear n0_ n1_; (try clear hb); (try clear hb2); (try clear hk); (try clear hi)))
  have n0_ := Aside0.mk (blk_drew BK101.out)
  have n1_ := Aside0.mk (below_drew1 HB.out)
  clear BK101
  clear HB
  have BK101 := n0_
  have HB := n1_
  clear n0_ n1_
  refine start_ (n := 8) (S := fun w' => w'.cell? ⟨gb101, 0, none⟩ = some (.slice A0_0 l0_0.length c0_0) ∧ w'.cell? ⟨gb101, 1, none⟩ = some (.slice A0_1 l0_1.length c0_1)) (ds := []) #[false, false, false, false, false, false, false, false] (by kernel_rfl) rfl rfl ⟨(blk_cell BK101.out 0).trans rfl, (blk_cell BK101.out 1).trans rfl⟩ (fun hHeld => ?_); refine with_tabW strike_Space.tab4 strike_Space.bits4 (fun HT_ HW_ => ?_)
  generalize w9.drew = w10 at BK101 HB hHeld ⊢
  refine take_ (i := 0) (N := some 10) (v := ?_) (a' := ?_) #[true, false, false, false, false, false, false, false] rfl rfl (take_ofW HT_.out HW_.out (by kernel_rfl)) (fun _ _ _ h => h) (Or.inl ⟨by rfl, ?_⟩) hHeld ?_ ?_
  rotate_left
  ·
   rintro w' ⟨s0, s1⟩
   go_simp
   with_reducible rfl
  rotate_left
  ·
   simp only [Act.put, List.setIfInBounds_toArray, List.set_cons_zero, List.set_cons_succ, i64_w, i32_w]
   rfl
  refine take_ (i := 2) (N := some 12) (v := ?_) (a' := ?_) #[true, false, true, false, false, false, false, false] rfl rfl (take_ofW HT_.out HW_.out (by kernel_rfl)) (fun _ _ _ h => h) (Or.inl ⟨by rfl, ?_⟩) hHeld ?_ ?_
  rotate_left
  ·
   rintro w' ⟨s0, s1⟩
   go_simp
   with_reducible rfl
  rotate_left
  ·
   simp only [Act.put, List.setIfInBounds_toArray, List.set_cons_zero, List.set_cons_succ, i64_w, i32_w]
   rfl
  refine one_ (i := 1) (N := some 11) #[true, true, true, false, false, false, false, false] rfl rfl (one_of HT_.out (by kernel_rfl)) (by decide) (fun K hK => ?_)
  refine goes_ Try.func71 (by kernel_rfl) rfl #[.agg #[.slice A0_0 l0_0.length c0_0, .slice A0_1 l0_1.length c0_1]] (by rfl) rfl rfl hA ?_
  with_reducible refine (strike_compounds.calls _ _ l0_0 _ _ l0_1 t103 _ ?side1 ?side2 ?side3 ?side4 A4.out).mono ?_
  (case side1 => exact (Kd.C_below HR0_0.out HB.out))
  (case side2 => exact HC0_0.out)
  (case side3 => exact (Kd.C_below HR0_1.out HB.out))
  (case side4 => exact HC0_1.out)
  rintro e w11 ⟨rfl, hb⟩
  refine ⟨_, rfl, ?_⟩
  have n0_ := Aside0.mk (blk_below BK101.out hb)
  have n1_ := Aside0.mk (below_step bB hb)
  clear BK101
  clear HB
  have BK101 := n0_
  have HB := n1_
  clear n0_ n1_
  (try clear hb)
  (try clear hb2)
  (try clear hk)
  (try clear hi)
  refine hK.out _ _ ⟨(blk_cell BK101.out 0).trans rfl, (blk_cell BK101.out 1).trans rfl⟩ (fun hHeld => ?_)
  clear hK K
  refine norm_ (a' := ?_) ?_ ?_
  rotate_left
  ·
   show Act.put _ (some 11) _ = _
   simp only [Act.put, List.setIfInBounds_toArray, List.set_cons_zero, List.set_cons_succ, i64_w, i32_w]
   rfl
  refine one_ (i := 3) (N := some 13) #[true, true, true, true, false, false, false, false] rfl rfl (one_of HT_.out (by kernel_rfl)) (by decide) (fun K hK => ?_)
  refine goes_ Try.func73 (by kernel_rfl) rfl #[.agg #[.slice A0_0 l0_0.length c0_0, .slice A0_1 l0_1.length c0_1]] (by rfl) rfl rfl hA ?_
  with_reducible refine (strike_lines.calls _ _ l0_0 _ _ l0_1 t104 _ ?side1 ?side2 ?side3 ?side4 A5.out).mono ?_
  (case side1 => exact (Kd.C_below HR0_0.out HB.out))
  (case side2 => exact HC0_0.out)
  (case side3 => exact (Kd.C_below HR0_1.out HB.out))
  (case side4 => exact HC0_1.out)
  rintro e w12 ⟨v105, rfl, ho0, hb⟩
  refine ⟨_, rfl, ?_⟩
  have n0_ := Aside0.mk (Kd.R_lower ho0 (below_size bB))
  have n1_ := Aside0.mk (blk_below BK101.out hb)
  have n2_ := Aside0.mk (below_step bB hb)
  clear BK101
  clear HB
  have HO106 := n0_
  have BK101 := n1_
  have HB := n2_
  clear n0_ n1_ n2_
  (try clear hb)
  (try clear hb2)
  (try clear hk)
  (try clear hi)
  (try clear ho0)
  obtain ⟨Ao13, co13, eo13⟩ := Kd.R_slice HO106.out
  (first | subst eo13 | (injection eo13 with f1_ f2_ f3_; have f4_ := f1_.symm; have f5_ := f3_.symm; clear f1_ f2_ f3_; subst f4_; subst f5_))
  refine hK.out _ _ ⟨(blk_cell BK101.out 0).trans rfl, (blk_cell BK101.out 1).trans rfl⟩ (fun hHeld => ?_)
  clear hK K
  refine norm_ (a' := ?_) ?_ ?_
  rotate_left
  ·
   show Act.put _ (some 13) _ = _
   simp only [Act.put, List.setIfInBounds_toArray, List.set_cons_zero, List.set_cons_succ, i64_w, i32_w]
   rfl
  refine one_ (i := 4) (N := some 14) #[true, true, true, true, true, false, false, false] rfl rfl (one_of HT_.out (by kernel_rfl)) (by decide) (fun K hK => ?_)
  refine goes_ Try.func72 (by kernel_rfl) rfl #[.slice Ao13 t104.length co13] (by rfl) rfl rfl hA ?_
  with_reducible refine (strike_rank.calls _ _ t104 t107 _ ?side1 ?side2 A6.out).mono ?_
  (case side1 => exact (Kd.R_reads' HO106.out).2.2)
  (case side2 => exact (Kd.R_reads' HO106.out).2.1)
  rintro e w14 ⟨rfl, hb⟩
  refine ⟨_, rfl, ?_⟩
  have n0_ := Aside0.mk (Kd.R_below HO106.out hb)
  have n1_ := Aside0.mk (blk_below BK101.out hb)
  have n2_ := Aside0.mk (below_step bB hb)
  clear HO106
  clear BK101
  clear HB
  have HO106 := n0_
  have BK101 := n1_
  have HB := n2_
  clear n0_ n1_ n2_
  (try clear hb)
  (try clear hb2)
  (try clear hk)
  (try clear hi)
  refine hK.out _ _ ⟨(blk_cell BK101.out 0).trans rfl, (blk_cell BK101.out 1).trans rfl⟩ (fun hHeld => ?_)
  clear hK K
  refine norm_ (a' := ?_) ?_ ?_
  rotate_left
  ·
   show Act.put _ (some 14) _ = _
   simp only [Act.put, List.setIfInBounds_toArray, List.set_cons_zero, List.set_cons_succ, i64_w, i32_w]
   rfl
  refine pure_ (i := 5) (N := some 15) (v := ?_) (a' := ?_) #[true, true, true, true, true, true, false, false] rfl rfl (any_of HT_.out (by kernel_rfl)) (fun _ _ _ h => h) (Or.inl ⟨by rfl, ?_⟩) ?_ ?_
  rotate_left
  ·
   intro w'
   go_simp
   with_reducible rfl
  rotate_left
  ·
   simp only [Act.put, List.setIfInBounds_toArray, List.set_cons_zero, List.set_cons_succ, i64_w, i32_w]
   rfl
  refine pure_ (i := 6) (N := some 2) (v := ?_) (a' := ?_) #[true, true, true, true, true, true, true, false] rfl rfl (any_of HT_.out (by kernel_rfl)) (fun _ _ _ h => h) (Or.inl ⟨by rfl, ?_⟩) ?_ ?_
  rotate_left
  ·
   intro w'
   go_simp
   with_reducible rfl
  rotate_left
  ·
   simp only [Act.put, List.setIfInBounds_toArray, List.set_cons_zero, List.set_cons_succ, i64_w, i32_w]
   rfl
  refine pure_ (i := 7) (N := some 3) (v := ?_) (a' := ?_) #[true, true, true, true, true, true, true, true] rfl rfl (any_of HT_.out (by kernel_rfl)) (fun _ _ _ h => h) (Or.inl ⟨by rfl, ?_⟩) ?_ ?_
  rotate_left
  ·
   intro w'
   go_simp
   with_reducible rfl
  rotate_left
  ·
   simp only [Act.put, List.setIfInBounds_toArray, List.set_cons_zero, List.set_cons_succ, i64_w, i32_w]
   rfl
  refine done_ (done_of HT_.out (by kernel_rfl)) ?_
  try go_wp2
  go_ret2
  exact ⟨by first | rfl | (simp [errW_none, errW_some] <;> rfl) | (simp [*, errW_none, errW_some] <;> rfl), bB⟩
 ·
  rw [if_neg c3] at H
  have c3b0 : (t102 == 0) = false := beq_eq_false_iff_ne.mpr c3
  have c3b1 : (t102 != 0) = true := bne_iff_ne.mpr c3
  simp only [Option.some.injEq, Prod.mk.injEq] at H
  obtain ⟨rfl, rfl⟩ := H
  go_enter Try.func35, Try.ntmps35
  go_wp2_with (first | ((with_reducible refine gate_dst (N := 1) rfl ?_); refine box_event ?hg (N := 1) ?hd (cs := #[.slice A0_0 l0_0.length c0_0, .slice A0_1 l0_1.length c0_1]) (t := 24) ?hr ?_; (case hd => rfl); (case hg => rfl); (case hr => first | (go_simp; done) | (go_simp; rfl)); intro gb101 hg w15 hbox hb; have n0_ := Aside0.mk (below_step bB hb); have n1_ := Aside0.mk (hbox); have n2_ := Aside0.mk ((by rw [hg]; exact (below_size bB) : w.heap.size ≤ gb101)); have n3_ := Aside0.mk ((by rw [hg]; exact (below_size bB) : w.heap.size ≤ gb101)); clear HB; have HB := n0_; have BK101 := n1_; have GW101 := n2_; have GE101 := n3_; clear n0_ n1_ n2_ n3_; clear hb hbox hg; have hcz16_0 : w15.cell? ⟨gb101, 0, none⟩ = some (.slice A0_0 l0_0.length c0_0) := (blk_cell BK101.out 0).trans rfl; have hcz16_1 : w15.cell? ⟨gb101, 1, none⟩ = some (.slice A0_1 l0_1.length c0_1) := (blk_cell BK101.out 1).trans rfl; have hfz16_0 := blk_frozen BK101.out 0; have hfz16_1 := blk_frozen BK101.out 1) | ((with_reducible refine gate_callee (f := 38) rfl ?_); refine goesL_ (some 6) rfl rfl Try.func38 (by kernel_rfl) rfl #[.agg #[.slice A0_0 l0_0.length c0_0, .slice A0_1 l0_1.length c0_1]] rfl hA ?_; (with_reducible refine (strike_Validate.calls k _ _ l0_0 _ _ l0_1 t102 _ ?side1 ?side2 ?side3 ?side4 A2.out).mono ?_); (case side1 => exact (Kd.C_below HR0_0.out HB.out)); (case side2 => exact HC0_0.out); (case side3 => exact (Kd.C_below HR0_1.out HB.out)); (case side4 => exact HC0_1.out); rintro e w17 ⟨rfl, hb⟩; refine ⟨_, rfl, ?_⟩; have n0_ := Aside0.mk (blk_below BK101.out hb); have n1_ := Aside0.mk (below_step bB hb); clear BK101; clear HB; have BK101 := n0_; have HB := n1_; clear n0_ n1_; (try clear hb); (try clear hb2); (try clear hk); (try clear hi)))
  go_ret2
  exact ⟨by first | rfl | (simp [errW_none, errW_some] <;> rfl) | (simp [*, errW_none, errW_some] <;> rfl), bB⟩
end Go.Proofs.Ytdneelgnmnpanaa.P
end
section
namespace Go.Proofs.Ytdneelgnmnpanaa.P
open Go.RowKit Go.Proofs.YtdneelgnmnpanaaW.PrintWords Go.Proofs.Det
set_option linter.unusedVariables false
theorem compounds_eq (I O : List (List Int)) (h : I.length + O.length ≤ 6) : strike_compounds.f I O = some ((I.length + O.length : Nat) : Int) := by
  unfold strike_compounds.f
  rw [wrp (by omega) (by omega)]
  congr 1
theorem Space_ev {I O : List (List Int)} (h : Sh I O) : Ev (fun k => strike_Space.f k I O) (spc I O) := by
  unfold strike_Space.f spc
  refine Ev.bind (val_ev h) ?_
  by_cases c : vl I O = 0
  · simp only [c, if_true]
    obtain ⟨h1, h2, h3, h4, h5, h6, h7⟩ := vl_size c
    obtain ⟨M, Q, e, hi⟩ := ml_inv c
    have hr := spc_rank c
    rw [compounds_eq I O (by omega), lines_mk c]
    simp only [Option.bind_some]
    rw [rkl_ev (ml_six c) (by rw [ml_length]; omega) (by rw [ml_length]; omega) e, ← rkL_eq e]
    simp only [Option.bind_some]
    rw [wrp (by omega) (by omega)]
    exact Ev.now _
  · simp only [c, if_false]
    exact Ev.now _
theorem rSpace_ev {I O : List (List Int)} (h : Sh I O) : Ev (fun k => verditerref04_Space.f k I O) (spc I O) := by
  unfold verditerref04_Space.f spc
  refine Ev.bind (rval_ev h) ?_
  by_cases c : vl I O = 0
  · simp only [c, if_true]
    obtain ⟨h1, h2, h3, h4, h5, h6, h7⟩ := vl_size c
    obtain ⟨M, Q, e, hi⟩ := ml_inv c
    have hr := spc_rank c
    refine Ev.bind (cols_ev c) ?_
    have hl := lines_ev (cols I O) (I.getD 0 []).length (by rw [cols_length]; omega) (by
      unfold cols
      rw [List.getD_eq_getElem?_getD, List.getElem?_append_left (by omega), ← List.getD_eq_getElem?_getD]) (by omega)
    refine Ev.bind hl ?_
    have hk := rank_ev (ml_lns c) hi (by rw [cols_length]; omega) (by rw [List.length_range]; exact h6) (cols_small c)
    refine Ev.bind hk ?_
    rw [← rkL_eq e, cols_length, wrp (by omega) (by omega)]
    exact Ev.now _
  · simp only [c, if_false]
    exact Ev.now _
end Go.Proofs.Ytdneelgnmnpanaa.P
end
section
namespace Go.Proofs.Ytdneelgnmnpanaa.P
open Go.RowKit Go.Proofs.YtdneelgnmnpanaaW.PrintWords
theorem known_ev : Ev (fun k => verditerlaw04_known.f k) true := Ev.of (fun k => verditerlaw04_known.mono k) (k := 40) (by decide +kernel)
end Go.Proofs.Ytdneelgnmnpanaa.P
end
