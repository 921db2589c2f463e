/- Ytdneelgnmnpanaa: functions of the translation as Lean functions, with their contracts; written by a program of the session. -/
import Derived.Test.YtdneelgnmnpanaaP0
import Derived.Test.YtdneelgnmnpanaaP50
import Derived.Test.YtdneelgnmnpanaaP52
import Derived.Test.YtdneelgnmnpanaaP53
import Derived.Test.YtdneelgnmnpanaaPa
namespace Go.Proofs.Ytdneelgnmnpanaa.P
open Go.RowKit Go.Proofs.YtdneelgnmnpanaaW.PrintWords Go.Proofs.YtdneelgnmnpanaaW.PrintLast Go.Proofs.YtdneelgnmnpanaaW.PrintMore
attribute [local go_sem] max2_int min2_int max_two min_two max_three min_three max_four min_four   -- for this text's walks alone
set_option linter.unusedVariables false
set_option linter.unusedSimpArgs false

/-! ### verditerlaw04_strikeBalances: function 23 -/
mutual
def verditerlaw04_strikeBalances.j0 : Nat → List Int → List Int → Bool → List (List Int) → List (List Int) → Option (Bool)
 | 0, _, _, _, _, _ => none
 | k + 1, x1, x2, x26, x102000, x102001 => if x26 = true then ((verditerlaw04_known.f k).bind fun t105 => (some t105)) else ((verditerref04_Balances.f k x102000 x102001 x1).bind fun bt106 => ((strike_Balances.f k x102000 x102001 x1).bind fun bt108 => (if (bt108.1 != bt106.1) = true then (verditerlaw04_strikeBalances.j1 k x1 x2 bt108.1 true x102000 x102001) else (verditerlaw04_strikeBalances.j1 k x1 x2 bt108.1 (bt108.2 != bt106.2) x102000 x102001))))
def verditerlaw04_strikeBalances.j1 : Nat → List Int → List Int → Bool → Bool → List (List Int) → List (List Int) → Option (Bool)
 | 0, _, _, _, _, _, _ => none
 | k + 1, x1, x2, x9, x47, x102000, x102001 => if x47 = true then (some false) else ((strike_Balances.f k x102000 x102001 x2).bind fun bt110 => (if x9 = true then (if bt110.1 = true then (if bt110.2 = 0 then (verditerlaw04_strikeBalances.j2 k x1 x2 ((x1.length : Int) != (x2.length : Int)) x102000 x102001) else (verditerlaw04_strikeBalances.j2 k x1 x2 true x102000 x102001)) else (verditerlaw04_strikeBalances.j2 k x1 x2 true x102000 x102001)) else (verditerlaw04_strikeBalances.j2 k x1 x2 true x102000 x102001)))
def verditerlaw04_strikeBalances.j2 : Nat → List Int → List Int → Bool → List (List Int) → List (List Int) → Option (Bool)
 | 0, _, _, _, _, _ => none
 | k + 1, x1, x2, x70, x102000, x102001 => if x70 = true then ((verditerlaw04_known.f k).bind fun t112 => (some t112)) else (verditerlaw04_strikeBalances.l0 k x1 x2 ([] : List Int) 0 x102000 x102001)
def verditerlaw04_strikeBalances.l0 : Nat → List Int → List Int → List Int → Int → List (List Int) → List (List Int) → Option (Bool)
 | 0, _, _, _, _, _, _ => none
 | k + 1, x1, x2, x13, x14, x102000, x102001 => if x14 < (x1.length : Int) then (if 0 ≤ x14 then (if x14 < (x2.length : Int) then (if (wrap64 ((rd x1 x14) + (rd x2 x14))) > 1000000 then ((verditerlaw04_known.f k).bind fun t115 => (some t115)) else (if (wrap64 ((rd x1 x14) + (rd x2 x14))) < (-1000000) then ((verditerlaw04_known.f k).bind fun t118 => (some t118)) else (if x13.length < 17592186044416 then (verditerlaw04_strikeBalances.l0 k x1 x2 (x13 ++ [wrap64 ((rd x1 x14) + (rd x2 x14))]) (wrap64 (x14 + 1)) x102000 x102001) else (none)))) else (none)) else (none)) else ((strike_Balances.f k x102000 x102001 x13).bind fun bt124 => (if bt124.2 = 0 then (if bt124.1 = true then ((verditerlaw04_known.f k).bind fun t126 => (some t126)) else (some false)) else (some false)))
end
def verditerlaw04_strikeBalances.f (k : Nat) (l0_0 : List (List Int)) (l0_1 : List (List Int)) (l1 : List Int) (l2 : List Int) : Option (Bool) := (verditerlaw04_Long.f k l0_0 l0_1).bind fun t102 => (if t102 = true then (verditerlaw04_strikeBalances.j0 k l1 l2 true l0_0 l0_1) else ((verditerlaw04_many.f l1).bind fun t103 => (if t103 = true then (verditerlaw04_strikeBalances.j0 k l1 l2 true l0_0 l0_1) else ((verditerlaw04_many.f l2).bind fun t104 => (verditerlaw04_strikeBalances.j0 k l1 l2 t104 l0_0 l0_1)))))
def verditerlaw04_strikeBalances.T14 : Bool × List (List Nat × List Nat) := (true, [([], []), ([], []), ([0, 1], [0, 1]), ([2], [2]), ([], []), ([], []), ([4, 5], [4, 5]), ([6], [6]), ([3, 7], [3, 7]), ([8], [8]), ([9], [9]), ([10], [10]), ([10], [10]), ([11, 12, 10], [10, 11, 12]), ([13, 10], [10, 13]), ([10], [10]), ([10], [10]), ([15, 16, 10], [10, 15, 16]), ([17, 10], [10, 17]), ([14, 18, 10], [10, 14, 18]), ([19, 10], [10, 19]), ([10, 20], [10, 20])])
def verditerlaw04_strikeBalances.B14 : List Nat := [0, 0, 3, 7, 0, 0, 48, 112, 255, 511, 1023, 2047, 2047, 8191, 16383, 2047, 2047, 100351, 231423, 524287, 1048575, 2097151]
theorem verditerlaw04_strikeBalances.tab14 : rtab .any (opsOf Try.f23 14) = verditerlaw04_strikeBalances.T14 := by kernel_rfl
theorem verditerlaw04_strikeBalances.bits14 : waitsOk verditerlaw04_strikeBalances.T14.2 verditerlaw04_strikeBalances.B14 = true := by kernel_rfl
def verditerlaw04_strikeBalances.T16 : Bool × List (List Nat × List Nat) := (true, [([], []), ([], []), ([], []), ([1, 2], [1, 2]), ([3], [3]), ([], []), ([], []), ([5, 6], [5, 6]), ([7], [7]), ([4, 8], [4, 8]), ([9], [9]), ([0, 10], [0, 10]), ([11, 11, 0, 1, 2, 3, 4, 5, 6, 7, 8, 9, 10, 11], [0, 11])])
def verditerlaw04_strikeBalances.B16 : List Nat := [0, 0, 0, 6, 14, 0, 0, 96, 224, 510, 1022, 2047, 4095]
theorem verditerlaw04_strikeBalances.tab16 : rtab .any (opsOf Try.f23 16) = verditerlaw04_strikeBalances.T16 := by kernel_rfl
theorem verditerlaw04_strikeBalances.bits16 : waitsOk verditerlaw04_strikeBalances.T16.2 verditerlaw04_strikeBalances.B16 = true := by kernel_rfl
set_option maxHeartbeats 8000000 in
set_option maxRecDepth 100000 in
theorem verditerlaw04_strikeBalances.calls (k : Nat) (A0_0 : Option Addr) (c0_0 : Nat) (l0_0 : List (List Int)) (A0_1 : Option Addr) (c0_1 : Nat) (l0_1 : List (List Int)) (A1 : Option Addr) (c1 : Nat) (l1 : List Int) (A2 : Option Addr) (c2 : Nat) (l2 : List Int) (r : Bool) (w : World) (hr0_0 : Kd.C (Kd.slice 3 (Kd.int .i64)) w A0_0 l0_0.length l0_0) (hc0_0 : l0_0.length ≤ c0_0) (hr0_1 : Kd.C (Kd.slice 3 (Kd.int .i64)) w A0_1 l0_1.length l0_1) (hc0_1 : l0_1.length ≤ c0_1) (hr1 : Kd.C (Kd.int .i64) w A1 l1.length l1) (hc1 : l1.length ≤ c1) (hr2 : Kd.C (Kd.int .i64) w A2 l2.length l2) (hc2 : l2.length ≤ c2) (h : verditerlaw04_strikeBalances.f k l0_0 l0_1 l1 l2 = some r) :
  Calls Try.prog 23 #[.agg #[.slice A0_0 l0_0.length c0_0, .slice A0_1 l0_1.length c0_1], .slice A1 l1.length c1, .slice A2 l2.length c2] w fun e w' => e = .returned (.bool r) ∧ Below w.heap.size w w' := by
 have hu24 := Try.underlying24
 have HR0_0 := Aside0.mk hr0_0
 have HC0_0 := Aside0.mk hc0_0
 clear hr0_0 hc0_0
 have HR0_1 := Aside0.mk hr0_1
 have HC0_1 := Aside0.mk hc0_1
 clear hr0_1 hc0_1
 have HR1 := Aside0.mk hr1
 have HC1 := Aside0.mk hc1
 clear hr1 hc1
 have HR2 := Aside0.mk hr2
 have HC2 := Aside0.mk hc2
 clear hr2 hc2
 have HB := Aside0.mk (Below.refl w.heap.size w)
 have H : ((verditerlaw04_Long.f k l0_0 l0_1).bind fun t102 => (if t102 = true then (verditerlaw04_strikeBalances.j0 k l1 l2 true l0_0 l0_1) else ((verditerlaw04_many.f l1).bind fun t103 => (if t103 = true then (verditerlaw04_strikeBalances.j0 k l1 l2 true l0_0 l0_1) else ((verditerlaw04_many.f l2).bind fun t104 => (verditerlaw04_strikeBalances.j0 k l1 l2 t104 l0_0 l0_1)))))) = some r := h
 clear h
 have HC4 := Aside0.mk H
 clear H
 go_enter Try.func23, Try.ntmps23
 go_upto_region 1 with (first | ((with_reducible refine gate_dst (N := 3) rfl ?_); (try (refine gate_guard (by rfl) ?_; dsimp only)); refine box_event ?hg (N := 3) ?hd (cs := #[.slice A0_0 l0_0.length c0_0, .slice A0_1 l0_1.length c0_1]) (t := 24) ?hr ?_; (case hd => rfl); (case hg => rfl); (case hr => first | (go_simp; done) | (go_simp; rfl)); intro gb101 hg w5 hbox hb; have n0_ := Aside0.mk (below_step bB hb); have n1_ := Aside0.mk (hbox); have n2_ := Aside0.mk ((by rw [hg]; exact (below_size bB) : w.heap.size ≤ gb101)); have n3_ := Aside0.mk ((by rw [hg]; exact (below_size bB) : w.heap.size ≤ gb101)); clear HB; have HB := n0_; have BK101 := n1_; have GW101 := n2_; have GE101 := n3_; clear n0_ n1_ n2_ n3_; clear hb hbox hg))
 (try simp only [Act.put, List.setIfInBounds_toArray, List.set_cons_zero, List.set_cons_succ])
 go_cut [26] (fun v26 wc => ∃ (kq : Nat) (x26_3 : Bool), v26 = .bool x26_3 ∧ Aside0 (verditerlaw04_strikeBalances.j0 kq l1 l2 x26_3 l0_0 l0_1 = some r) ∧ Aside0 (kq ≤ k) ∧ Aside0 (wc.heap[gb101]? = some (.cells #[(.slice A0_0 l0_0.length c0_0), (.slice A0_1 l0_1.length c0_1)] 24 (0, 0))) ∧ Aside0 (Below w.heap.size w wc))
 case first =>
  have H := HC4.out
  clear HC4
  replace H := Option.bind_eq_some_iff.mp H
  obtain ⟨t102, A60, H⟩ := H
  replace H : (if t102 = true then (verditerlaw04_strikeBalances.j0 k l1 l2 true l0_0 l0_1) else ((verditerlaw04_many.f l1).bind fun t103 => (if t103 = true then (verditerlaw04_strikeBalances.j0 k l1 l2 true l0_0 l0_1) else ((verditerlaw04_many.f l2).bind fun t104 => (verditerlaw04_strikeBalances.j0 k l1 l2 t104 l0_0 l0_1))))) = some r := H
  have A6 := Aside0.mk A60
  clear A60
  by_cases c7 : t102 = true
  ·
   subst c7
   have H1 : (verditerlaw04_strikeBalances.j0 k l1 l2 true l0_0 l0_1) = some r := by rw [if_pos rfl] at H; exact H
   clear H
   have H := H1
   clear H1
   have H' := Aside0.mk H
   clear H
   have hcz8_0 : w5.cell? ⟨gb101, 0, none⟩ = some (.slice A0_0 l0_0.length c0_0) := (blk_cell BK101.out 0).trans rfl
   have hcz8_1 : w5.cell? ⟨gb101, 1, none⟩ = some (.slice A0_1 l0_1.length c0_1) := (blk_cell BK101.out 1).trans rfl
   have hfz8_0 := blk_frozen BK101.out 0
   have hfz8_1 := blk_frozen BK101.out 1
   go_wp2_with (first | ((with_reducible refine gate_callee (f := 36) rfl ?_); refine goesL_ (some 18) rfl rfl Try.func36 (by kernel_rfl) rfl #[.agg #[.slice A0_0 l0_0.length c0_0, .slice A0_1 l0_1.length c0_1]] rfl hA ?_; (with_reducible refine (verditerlaw04_Long.calls k _ _ l0_0 _ _ l0_1 true _ ?side1 ?side2 ?side3 ?side4 A6.out).mono ?_); (case side1 => exact (Kd.C_below HR0_0.out HB.out)); (case side2 => exact HC0_0.out); (case side3 => exact (Kd.C_below HR0_1.out HB.out)); (case side4 => exact HC0_1.out); rintro e w9 ⟨rfl, hb⟩; refine ⟨_, rfl, ?_⟩; have n0_ := Aside0.mk (blk_below BK101.out hb); have n1_ := Aside0.mk (below_step bB hb); clear BK101; clear HB; have BK101 := n0_; have HB := n1_; clear n0_ n1_; (try clear hb); (try clear hb2); (try clear hk); (try clear hi)))
   go_meet
   case rel => exact ⟨_, (true), (by first | rfl | (simp; done) | (simp [*]; done)), H', ⟨by first | omega | exact Nat.le_refl _⟩, ⟨by (with_reducible repeat (first | refine blk_drewN ?_ _ | refine blk_drew ?_ | refine blk_alloc ?_ _)); exact BK101.out⟩, ⟨bB⟩⟩
  ·
   replace c7 := Bool.eq_false_iff.mpr c7
   subst c7
   have H1 : ((verditerlaw04_many.f l1).bind fun t103 => (if t103 = true then (verditerlaw04_strikeBalances.j0 k l1 l2 true l0_0 l0_1) else ((verditerlaw04_many.f l2).bind fun t104 => (verditerlaw04_strikeBalances.j0 k l1 l2 t104 l0_0 l0_1)))) = some r := by rw [if_neg (show ¬ (false = true) by decide)] at H; exact H
   clear H
   have H := H1
   clear H1
   replace H := Option.bind_eq_some_iff.mp H
   obtain ⟨t103, A100, H⟩ := H
   replace H : (if t103 = true then (verditerlaw04_strikeBalances.j0 k l1 l2 true l0_0 l0_1) else ((verditerlaw04_many.f l2).bind fun t104 => (verditerlaw04_strikeBalances.j0 k l1 l2 t104 l0_0 l0_1))) = some r := H
   have A10 := Aside0.mk A100
   clear A100
   by_cases c11 : t103 = true
   ·
    subst c11
    have H1 : (verditerlaw04_strikeBalances.j0 k l1 l2 true l0_0 l0_1) = some r := by rw [if_pos rfl] at H; exact H
    clear H
    have H := H1
    clear H1
    have H' := Aside0.mk H
    clear H
    have hcz12_0 : w5.cell? ⟨gb101, 0, none⟩ = some (.slice A0_0 l0_0.length c0_0) := (blk_cell BK101.out 0).trans rfl
    have hcz12_1 : w5.cell? ⟨gb101, 1, none⟩ = some (.slice A0_1 l0_1.length c0_1) := (blk_cell BK101.out 1).trans rfl
    have hfz12_0 := blk_frozen BK101.out 0
    have hfz12_1 := blk_frozen BK101.out 1
    go_wp2_with (first | ((with_reducible refine gate_callee (f := 36) rfl ?_); refine goesL_ (some 18) rfl rfl Try.func36 (by kernel_rfl) rfl #[.agg #[.slice A0_0 l0_0.length c0_0, .slice A0_1 l0_1.length c0_1]] rfl hA ?_; (with_reducible refine (verditerlaw04_Long.calls k _ _ l0_0 _ _ l0_1 false _ ?side1 ?side2 ?side3 ?side4 A6.out).mono ?_); (case side1 => exact (Kd.C_below HR0_0.out HB.out)); (case side2 => exact HC0_0.out); (case side3 => exact (Kd.C_below HR0_1.out HB.out)); (case side4 => exact HC0_1.out); rintro e w13 ⟨rfl, hb⟩; refine ⟨_, rfl, ?_⟩; have n0_ := Aside0.mk (blk_below BK101.out hb); have n1_ := Aside0.mk (below_step bB hb); clear BK101; clear HB; have BK101 := n0_; have HB := n1_; clear n0_ n1_; (try clear hb); (try clear hb2); (try clear hk); (try clear hi)) | (go_at_call 49; (with_reducible refine (verditerlaw04_many.calls _ _ l1 true _ ?side1 ?side2 A10.out).mono ?_); (case side1 => exact (Kd.C_below HR1.out HB.out)); (case side2 => exact HC1.out); rintro e w' ⟨rfl, ⟨nd, rfl⟩⟩))
    go_meet
    case rel => exact ⟨_, (true), (by first | rfl | (simp; done) | (simp [*]; done)), H', ⟨by first | omega | exact Nat.le_refl _⟩, ⟨by (with_reducible repeat (first | refine blk_drewN ?_ _ | refine blk_drew ?_ | refine blk_alloc ?_ _)); exact BK101.out⟩, ⟨bB⟩⟩
   ·
    replace c11 := Bool.eq_false_iff.mpr c11
    subst c11
    have H1 : ((verditerlaw04_many.f l2).bind fun t104 => (verditerlaw04_strikeBalances.j0 k l1 l2 t104 l0_0 l0_1)) = some r := by rw [if_neg (show ¬ (false = true) by decide)] at H; exact H
    clear H
    have H := H1
    clear H1
    replace H := Option.bind_eq_some_iff.mp H
    obtain ⟨t104, A140, H⟩ := H
    replace H : (verditerlaw04_strikeBalances.j0 k l1 l2 t104 l0_0 l0_1) = some r := H
    have A14 := Aside0.mk A140
    clear A140
    have H' := Aside0.mk H
    clear H
    have hcz15_0 : w5.cell? ⟨gb101, 0, none⟩ = some (.slice A0_0 l0_0.length c0_0) := (blk_cell BK101.out 0).trans rfl
    have hcz15_1 : w5.cell? ⟨gb101, 1, none⟩ = some (.slice A0_1 l0_1.length c0_1) := (blk_cell BK101.out 1).trans rfl
    have hfz15_0 := blk_frozen BK101.out 0
    have hfz15_1 := blk_frozen BK101.out 1
    go_wp2_with (first | ((with_reducible refine gate_callee (f := 36) rfl ?_); refine goesL_ (some 18) rfl rfl Try.func36 (by kernel_rfl) rfl #[.agg #[.slice A0_0 l0_0.length c0_0, .slice A0_1 l0_1.length c0_1]] rfl hA ?_; (with_reducible refine (verditerlaw04_Long.calls k _ _ l0_0 _ _ l0_1 false _ ?side1 ?side2 ?side3 ?side4 A6.out).mono ?_); (case side1 => exact (Kd.C_below HR0_0.out HB.out)); (case side2 => exact HC0_0.out); (case side3 => exact (Kd.C_below HR0_1.out HB.out)); (case side4 => exact HC0_1.out); rintro e w16 ⟨rfl, hb⟩; refine ⟨_, rfl, ?_⟩; have n0_ := Aside0.mk (blk_below BK101.out hb); have n1_ := Aside0.mk (below_step bB hb); clear BK101; clear HB; have BK101 := n0_; have HB := n1_; clear n0_ n1_; (try clear hb); (try clear hb2); (try clear hk); (try clear hi)) | (go_at_call 49; (with_reducible refine (verditerlaw04_many.calls _ _ l1 false _ ?side1 ?side2 A10.out).mono ?_); (case side1 => exact (Kd.C_below HR1.out HB.out)); (case side2 => exact HC1.out); rintro e w' ⟨rfl, ⟨nd, rfl⟩⟩) | (go_at_call 49; (with_reducible refine (verditerlaw04_many.calls _ _ l2 t104 _ ?side1 ?side2 A14.out).mono ?_); (case side1 => repeat (first | exact (Kd.C_below HR2.out bB) | (with_reducible refine Kd.C_alloc ?_ _) | (with_reducible refine Kd.C_drewN ?_ _) | (with_reducible refine Kd.C_drew ?_))); (case side2 => exact HC2.out); rintro e w' ⟨rfl, ⟨nd, rfl⟩⟩))
    go_meet
    case rel => exact ⟨_, (t104), (by first | rfl | (simp; done) | (simp [*]; done)), H', ⟨by first | omega | exact Nat.le_refl _⟩, ⟨by (with_reducible repeat (first | refine blk_drewN ?_ _ | refine blk_drew ?_ | refine blk_alloc ?_ _)); exact BK101.out⟩, ⟨bB⟩⟩
 case rest =>
  clear HC4
  try clear c1
  try clear c2
  try clear p2
  try clear c3
  try clear c7
  try clear c11
  try clear hcz12_0
  try clear hcz12_1
  try clear hcz15_0
  try clear hcz15_1
  try clear hcz8_0
  try clear hcz8_1
  try clear hfz12_0
  try clear hfz12_1
  try clear hfz15_0
  try clear hfz15_1
  try clear hfz8_0
  try clear hfz8_1
  obtain ⟨kq, x26_3, rfl, HA, HJ3, BK101, HB⟩ := hcut
  cases kq with
  | zero => exact absurd HA.out (by simp [verditerlaw04_strikeBalances.j0])
  | succ kj3 =>
   have H := HA.out
   clear HA
   simp only [verditerlaw04_strikeBalances.j0] at H
   by_cases c17 : x26_3 = true
   ·
    subst c17
    have H1 : ((verditerlaw04_known.f kj3).bind fun t105 => (some t105)) = some r := by rw [if_pos rfl] at H; exact H
    clear H
    have H := H1
    clear H1
    replace H := Option.bind_eq_some_iff.mp H
    obtain ⟨t105, A180, H⟩ := H
    replace H : (some t105) = some r := H
    have A18 := Aside0.mk A180
    clear A180
    obtain rfl := Option.some.inj H
    go_wp2_with (first | ((with_reducible refine gate_callee (f := 50) rfl ?_); refine goesL_ (some 27) rfl rfl Try.func50 (by kernel_rfl) rfl #[] rfl hA ?_; (with_reducible refine (verditerlaw04_known.calls kj3  t105 _ A18.out).mono ?_); rintro e w19 ⟨rfl, hb⟩; refine ⟨_, rfl, ?_⟩; have n0_ := Aside0.mk (blk_below BK101.out hb); have n1_ := Aside0.mk (below_step bB hb); clear BK101; clear HB; have BK101 := n0_; have HB := n1_; clear n0_ n1_; (try clear hb); (try clear hb2); (try clear hk); (try clear hi)))
    go_ret
    exact ⟨by first | rfl | (simp [errW_none, errW_some] <;> rfl) | (simp [*, errW_none, errW_some] <;> rfl), bB⟩
   ·
    replace c17 := Bool.eq_false_iff.mpr c17
    subst c17
    have H1 : ((verditerref04_Balances.f kj3 l0_0 l0_1 l1).bind fun bt106 => ((strike_Balances.f kj3 l0_0 l0_1 l1).bind fun bt108 => (if (bt108.1 != bt106.1) = true then (verditerlaw04_strikeBalances.j1 kj3 l1 l2 bt108.1 true l0_0 l0_1) else (verditerlaw04_strikeBalances.j1 kj3 l1 l2 bt108.1 (bt108.2 != bt106.2) l0_0 l0_1)))) = some r := by rw [if_neg (show ¬ (false = true) by decide)] at H; exact H
    clear H
    have H := H1
    clear H1
    replace H := Option.bind_eq_some_iff.mp H
    obtain ⟨⟨t106, t107⟩, A200, H⟩ := H
    replace H : ((strike_Balances.f kj3 l0_0 l0_1 l1).bind fun bt108 => (if (bt108.1 != t106) = true then (verditerlaw04_strikeBalances.j1 kj3 l1 l2 bt108.1 true l0_0 l0_1) else (verditerlaw04_strikeBalances.j1 kj3 l1 l2 bt108.1 (bt108.2 != t107) l0_0 l0_1))) = some r := H
    have A20 := Aside0.mk A200
    clear A200
    replace H := Option.bind_eq_some_iff.mp H
    obtain ⟨⟨t108, t109⟩, A210, H⟩ := H
    replace H : (if (t108 != t106) = true then (verditerlaw04_strikeBalances.j1 kj3 l1 l2 t108 true l0_0 l0_1) else (verditerlaw04_strikeBalances.j1 kj3 l1 l2 t108 (t109 != t107) l0_0 l0_1)) = some r := H
    have A21 := Aside0.mk A210
    clear A210
    have HC22 := Aside0.mk H
    clear H
    have hcz23_0 : wc.cell? ⟨gb101, 0, none⟩ = some (.slice A0_0 l0_0.length c0_0) := (blk_cell BK101.out 0).trans rfl
    have hcz23_1 : wc.cell? ⟨gb101, 1, none⟩ = some (.slice A0_1 l0_1.length c0_1) := (blk_cell BK101.out 1).trans rfl
    have hfz23_0 := blk_frozen BK101.out 0
    have hfz23_1 := blk_frozen BK101.out 1
    go_upto_region 5 with (first | ((with_reducible refine gate_callee (f := 52) rfl ?_); refine goesL_ (some 31) rfl rfl Try.func52 (by kernel_rfl) rfl #[.agg #[.slice A0_0 l0_0.length c0_0, .slice A0_1 l0_1.length c0_1], .slice A1 l1.length c1] rfl hA ?_; (with_reducible refine (verditerref04_Balances.calls kj3 _ _ l0_0 _ _ l0_1 _ _ l1 t106 t107 _ ?side1 ?side2 ?side3 ?side4 ?side5 ?side6 A20.out).mono ?_); (case side1 => exact (Kd.C_below HR0_0.out HB.out)); (case side2 => exact HC0_0.out); (case side3 => exact (Kd.C_below HR0_1.out HB.out)); (case side4 => exact HC0_1.out); (case side5 => exact (Kd.C_below HR1.out HB.out)); (case side6 => exact HC1.out); rintro e w24 ⟨rfl, hb⟩; refine ⟨_, rfl, ?_⟩; have n0_ := Aside0.mk (blk_below BK101.out hb); have n1_ := Aside0.mk (below_step bB hb); clear BK101; clear HB; have BK101 := n0_; have HB := n1_; clear n0_ n1_; (try clear hb); (try clear hb2); (try clear hk); (try clear hi); have hcz25_0 : w24.cell? ⟨gb101, 0, none⟩ = some (.slice A0_0 l0_0.length c0_0) := (blk_cell BK101.out 0).trans rfl; have hcz25_1 : w24.cell? ⟨gb101, 1, none⟩ = some (.slice A0_1 l0_1.length c0_1) := (blk_cell BK101.out 1).trans rfl; have hfz25_0 := blk_frozen BK101.out 0; have hfz25_1 := blk_frozen BK101.out 1) | ((with_reducible refine gate_callee (f := 53) rfl ?_); refine goesL_ (some 37) rfl rfl Try.func53 (by kernel_rfl) rfl #[.agg #[.slice A0_0 l0_0.length c0_0, .slice A0_1 l0_1.length c0_1], .slice A1 l1.length c1] rfl hA ?_; (with_reducible refine (strike_Balances.calls kj3 _ _ l0_0 _ _ l0_1 _ _ l1 t108 t109 _ ?side1 ?side2 ?side3 ?side4 ?side5 ?side6 A21.out).mono ?_); (case side1 => exact (Kd.C_below HR0_0.out HB.out)); (case side2 => exact HC0_0.out); (case side3 => exact (Kd.C_below HR0_1.out HB.out)); (case side4 => exact HC0_1.out); (case side5 => exact (Kd.C_below HR1.out HB.out)); (case side6 => exact HC1.out); rintro e w26 ⟨rfl, hb⟩; refine ⟨_, rfl, ?_⟩; have n0_ := Aside0.mk (blk_below BK101.out hb); have n1_ := Aside0.mk (below_step bB hb); clear BK101; clear HB; have BK101 := n0_; have HB := n1_; clear n0_ n1_; (try clear hb); (try clear hb2); (try clear hk); (try clear hi)))
    (try simp only [Act.put, List.setIfInBounds_toArray, List.set_cons_zero, List.set_cons_succ])
    go_cut [47] (fun v47 wc => ∃ (kq : Nat) (x47_21 : Bool), v47 = .bool x47_21 ∧ Aside0 (verditerlaw04_strikeBalances.j1 kq l1 l2 t108 x47_21 l0_0 l0_1 = some r) ∧ Aside0 (kq ≤ kj3) ∧ Aside0 (wc.heap[gb101]? = some (.cells #[(.slice A0_0 l0_0.length c0_0), (.slice A0_1 l0_1.length c0_1)] 24 (0, 0))) ∧ Aside0 (Below w.heap.size w wc))
    case first =>
     have H := HC22.out
     clear HC22
     by_cases c27 : (t108 != t106) = true
     ·
      rw [if_pos c27] at H
      have c27b0 : (t108 != t106) = true := c27
      (try (have c27b1 : decide (t108 = t106) = false := by simpa using c27))
      (try (have c27b2 : (t108 == t106) = false := by simpa using c27))
      (try (have c27b3 : ¬ (t108 = t106) := by simpa using c27))
      clear c27
      (first | rw [c27b0] | (simp only [i64_w, i32_w]; rw [c27b0]) | skip)
      have H' := Aside0.mk H
      clear H
      go_wp2
      go_meet
      case rel => exact ⟨_, (true), (by first | rfl | (simp; done) | (simp [*]; done)), H', ⟨by have := HJ3.out; first | omega | exact Nat.le_refl _⟩, ⟨by (with_reducible repeat (first | refine blk_drewN ?_ _ | refine blk_drew ?_ | refine blk_alloc ?_ _)); exact BK101.out⟩, ⟨bB⟩⟩
     ·
      rw [if_neg c27] at H
      have c27b0 : (t108 != t106) = false := by simpa using c27
      (try (have c27b1 : decide (t108 = t106) = true := by simpa using c27))
      (try (have c27b2 : (t108 == t106) = true := by simpa using c27))
      clear c27
      (first | rw [c27b0] | (simp only [i64_w, i32_w]; rw [c27b0]) | skip)
      have H' := Aside0.mk H
      clear H
      go_wp2
      go_meet
      case rel => exact ⟨_, ((t109 != t107)), (by first | rfl | (simp; done) | (simp [*]; done)), H', ⟨by have := HJ3.out; first | omega | exact Nat.le_refl _⟩, ⟨by (with_reducible repeat (first | refine blk_drewN ?_ _ | refine blk_drew ?_ | refine blk_alloc ?_ _)); exact BK101.out⟩, ⟨bB⟩⟩
    case rest =>
     clear HC22
     try clear c1
     try clear c2
     try clear p2
     try clear c3
     try clear c5
     try clear c7
     try clear c11
     try clear c17
     try clear c23
     try clear c27
     try clear c27b0
     try clear c27b1
     try clear c27b2
     try clear hcz12_0
     try clear hcz12_1
     try clear hcz15_0
     try clear hcz15_1
     try clear hcz23_0
     try clear hcz23_1
     try clear hcz25_0
     try clear hcz25_1
     try clear hcz8_0
     try clear hcz8_1
     try clear hfz12_0
     try clear hfz12_1
     try clear hfz15_0
     try clear hfz15_1
     try clear hfz23_0
     try clear hfz23_1
     try clear hfz25_0
     try clear hfz25_1
     try clear hfz8_0
     try clear hfz8_1
     try clear p2
     obtain ⟨kq, x47_21, rfl, HA, HJ21, BK101, HB⟩ := hcut
     cases kq with
     | zero => exact absurd HA.out (by simp [verditerlaw04_strikeBalances.j1])
     | succ kj21 =>
      have H := HA.out
      clear HA
      simp only [verditerlaw04_strikeBalances.j1] at H
      by_cases c28 : x47_21 = true
      ·
       subst c28
       have H1 : (some false) = some r := by rw [if_pos rfl] at H; exact H
       clear H
       have H := H1
       clear H1
       obtain rfl := Option.some.inj H
       go_wp2
       go_ret
       exact ⟨by first | rfl | (simp [errW_none, errW_some] <;> rfl) | (simp [*, errW_none, errW_some] <;> rfl), bB⟩
      ·
       replace c28 := Bool.eq_false_iff.mpr c28
       subst c28
       have H1 : ((strike_Balances.f kj21 l0_0 l0_1 l2).bind fun bt110 => (if t108 = true then (if bt110.1 = true then (if bt110.2 = 0 then (verditerlaw04_strikeBalances.j2 kj21 l1 l2 ((l1.length : Int) != (l2.length : Int)) l0_0 l0_1) else (verditerlaw04_strikeBalances.j2 kj21 l1 l2 true l0_0 l0_1)) else (verditerlaw04_strikeBalances.j2 kj21 l1 l2 true l0_0 l0_1)) else (verditerlaw04_strikeBalances.j2 kj21 l1 l2 true l0_0 l0_1))) = some r := by rw [if_neg (show ¬ (false = true) by decide)] at H; exact H
       clear H
       have H := H1
       clear H1
       replace H := Option.bind_eq_some_iff.mp H
       obtain ⟨⟨t110, t111⟩, A290, H⟩ := H
       replace H : (if t108 = true then (if t110 = true then (if t111 = 0 then (verditerlaw04_strikeBalances.j2 kj21 l1 l2 ((l1.length : Int) != (l2.length : Int)) l0_0 l0_1) else (verditerlaw04_strikeBalances.j2 kj21 l1 l2 true l0_0 l0_1)) else (verditerlaw04_strikeBalances.j2 kj21 l1 l2 true l0_0 l0_1)) else (verditerlaw04_strikeBalances.j2 kj21 l1 l2 true l0_0 l0_1)) = some r := H
       have A29 := Aside0.mk A290
       clear A290
       have HC30 := Aside0.mk H
       clear H
       have hcz31_0 : wc.cell? ⟨gb101, 0, none⟩ = some (.slice A0_0 l0_0.length c0_0) := (blk_cell BK101.out 0).trans rfl
       have hcz31_1 : wc.cell? ⟨gb101, 1, none⟩ = some (.slice A0_1 l0_1.length c0_1) := (blk_cell BK101.out 1).trans rfl
       have hfz31_0 := blk_frozen BK101.out 0
       have hfz31_1 := blk_frozen BK101.out 1
       go_upto_region 8 with (first | ((with_reducible refine gate_callee (f := 53) rfl ?_); refine goesL_ (some 51) rfl rfl Try.func53 (by kernel_rfl) rfl #[.agg #[.slice A0_0 l0_0.length c0_0, .slice A0_1 l0_1.length c0_1], .slice A2 l2.length c2] rfl hA ?_; (with_reducible refine (strike_Balances.calls kj21 _ _ l0_0 _ _ l0_1 _ _ l2 t110 t111 _ ?side1 ?side2 ?side3 ?side4 ?side5 ?side6 A29.out).mono ?_); (case side1 => exact (Kd.C_below HR0_0.out HB.out)); (case side2 => exact HC0_0.out); (case side3 => exact (Kd.C_below HR0_1.out HB.out)); (case side4 => exact HC0_1.out); (case side5 => exact (Kd.C_below HR2.out HB.out)); (case side6 => exact HC2.out); rintro e w32 ⟨rfl, hb⟩; refine ⟨_, rfl, ?_⟩; have n0_ := Aside0.mk (blk_below BK101.out hb); have n1_ := Aside0.mk (below_step bB hb); clear BK101; clear HB; have BK101 := n0_; have HB := n1_; clear n0_ n1_; (try clear hb); (try clear hb2); (try clear hk); (try clear hi)))
       (try simp only [Act.put, List.setIfInBounds_toArray, List.set_cons_zero, List.set_cons_succ])
       go_cut [70] (fun v70 wc => ∃ (kq : Nat) (x70_29 : Bool), v70 = .bool x70_29 ∧ Aside0 (verditerlaw04_strikeBalances.j2 kq l1 l2 x70_29 l0_0 l0_1 = some r) ∧ Aside0 (kq ≤ kj21) ∧ Aside0 (wc.heap[gb101]? = some (.cells #[(.slice A0_0 l0_0.length c0_0), (.slice A0_1 l0_1.length c0_1)] 24 (0, 0))) ∧ Aside0 (Below w.heap.size w wc))
       case first =>
        have H := HC30.out
        clear HC30
        by_cases c33 : t108 = true
        ·
         subst c33
         have H1 : (if t110 = true then (if t111 = 0 then (verditerlaw04_strikeBalances.j2 kj21 l1 l2 ((l1.length : Int) != (l2.length : Int)) l0_0 l0_1) else (verditerlaw04_strikeBalances.j2 kj21 l1 l2 true l0_0 l0_1)) else (verditerlaw04_strikeBalances.j2 kj21 l1 l2 true l0_0 l0_1)) = some r := by rw [if_pos rfl] at H; exact H
         clear H
         have H := H1
         clear H1
         by_cases c34 : t110 = true
         ·
          subst c34
          have H1 : (if t111 = 0 then (verditerlaw04_strikeBalances.j2 kj21 l1 l2 ((l1.length : Int) != (l2.length : Int)) l0_0 l0_1) else (verditerlaw04_strikeBalances.j2 kj21 l1 l2 true l0_0 l0_1)) = some r := by rw [if_pos rfl] at H; exact H
          clear H
          have H := H1
          clear H1
          by_cases c35 : t111 = 0
          ·
           rw [if_pos c35] at H
           have c35b0 : (t111 == 0) = true := beq_iff_eq.mpr c35
           have c35b1 : (t111 != 0) = false := bne_eq_false_iff_eq.mpr c35
           clear c35
           (first | rw [c35b0] | (simp only [i64_w, i32_w]; rw [c35b0]) | skip)
           have H' := Aside0.mk H
           clear H
           go_wp2
           go_meet
           case rel => exact ⟨_, (((l1.length : Int) != (l2.length : Int))), (by first | rfl | (simp; done) | (simp [*]; done)), H', ⟨by have := HJ3.out; have := HJ21.out; first | omega | exact Nat.le_refl _⟩, ⟨by (with_reducible repeat (first | refine blk_drewN ?_ _ | refine blk_drew ?_ | refine blk_alloc ?_ _)); exact BK101.out⟩, ⟨bB⟩⟩
          ·
           rw [if_neg c35] at H
           have c35b0 : (t111 == 0) = false := beq_eq_false_iff_ne.mpr c35
           have c35b1 : (t111 != 0) = true := bne_iff_ne.mpr c35
           (first | rw [c35b0] | (simp only [i64_w, i32_w]; rw [c35b0]) | skip)
           have H' := Aside0.mk H
           clear H
           go_wp2
           go_meet
           case rel => exact ⟨_, (true), (by first | rfl | (simp; done) | (simp [*]; done)), H', ⟨by have := HJ3.out; have := HJ21.out; first | omega | exact Nat.le_refl _⟩, ⟨by (with_reducible repeat (first | refine blk_drewN ?_ _ | refine blk_drew ?_ | refine blk_alloc ?_ _)); exact BK101.out⟩, ⟨bB⟩⟩
         ·
          replace c34 := Bool.eq_false_iff.mpr c34
          subst c34
          have H1 : (verditerlaw04_strikeBalances.j2 kj21 l1 l2 true l0_0 l0_1) = some r := by rw [if_neg (show ¬ (false = true) by decide)] at H; exact H
          clear H
          have H := H1
          clear H1
          have H' := Aside0.mk H
          clear H
          go_wp2
          go_meet
          case rel => exact ⟨_, (true), (by first | rfl | (simp; done) | (simp [*]; done)), H', ⟨by have := HJ3.out; have := HJ21.out; first | omega | exact Nat.le_refl _⟩, ⟨by (with_reducible repeat (first | refine blk_drewN ?_ _ | refine blk_drew ?_ | refine blk_alloc ?_ _)); exact BK101.out⟩, ⟨bB⟩⟩
        ·
         replace c33 := Bool.eq_false_iff.mpr c33
         subst c33
         have H1 : (verditerlaw04_strikeBalances.j2 kj21 l1 l2 true l0_0 l0_1) = some r := by rw [if_neg (show ¬ (false = true) by decide)] at H; exact H
         clear H
         have H := H1
         clear H1
         have H' := Aside0.mk H
         clear H
         go_wp2
         go_meet
         case rel => exact ⟨_, (true), (by first | rfl | (simp; done) | (simp [*]; done)), H', ⟨by have := HJ3.out; have := HJ21.out; first | omega | exact Nat.le_refl _⟩, ⟨by (with_reducible repeat (first | refine blk_drewN ?_ _ | refine blk_drew ?_ | refine blk_alloc ?_ _)); exact BK101.out⟩, ⟨bB⟩⟩
       case rest =>
        clear HC30
        try clear c1
        try clear c2
        try clear p2
        try clear c3
        try clear c5
        try clear c7
        try clear c11
        try clear c17
        try clear c23
        try clear c27
        try clear c27b0
        try clear c27b1
        try clear c27b2
        try clear c28
        try clear c33
        try clear c34
        try clear c35
        try clear c35b0
        try clear c35b1
        try clear hcz12_0
        try clear hcz12_1
        try clear hcz15_0
        try clear hcz15_1
        try clear hcz23_0
        try clear hcz23_1
        try clear hcz25_0
        try clear hcz25_1
        try clear hcz31_0
        try clear hcz31_1
        try clear hcz8_0
        try clear hcz8_1
        try clear hfz12_0
        try clear hfz12_1
        try clear hfz15_0
        try clear hfz15_1
        try clear hfz23_0
        try clear hfz23_1
        try clear hfz25_0
        try clear hfz25_1
        try clear hfz31_0
        try clear hfz31_1
        try clear hfz8_0
        try clear hfz8_1
        try clear p2
        obtain ⟨kq, x70_29, rfl, HA, HJ29, BK101, HB⟩ := hcut
        cases kq with
        | zero => exact absurd HA.out (by simp [verditerlaw04_strikeBalances.j2])
        | succ kj29 =>
         have H := HA.out
         clear HA
         simp only [verditerlaw04_strikeBalances.j2] at H
         by_cases c36 : x70_29 = true
         ·
          subst c36
          have H1 : ((verditerlaw04_known.f kj29).bind fun t112 => (some t112)) = some r := by rw [if_pos rfl] at H; exact H
          clear H
          have H := H1
          clear H1
          replace H := Option.bind_eq_some_iff.mp H
          obtain ⟨t112, A370, H⟩ := H
          replace H : (some t112) = some r := H
          have A37 := Aside0.mk A370
          clear A370
          obtain rfl := Option.some.inj H
          go_wp2_with (first | ((with_reducible refine gate_callee (f := 50) rfl ?_); refine goesL_ (some 71) rfl rfl Try.func50 (by kernel_rfl) rfl #[] rfl hA ?_; (with_reducible refine (verditerlaw04_known.calls kj29  t112 _ A37.out).mono ?_); rintro e w38 ⟨rfl, hb⟩; refine ⟨_, rfl, ?_⟩; have n0_ := Aside0.mk (blk_below BK101.out hb); have n1_ := Aside0.mk (below_step bB hb); clear BK101; clear HB; have BK101 := n0_; have HB := n1_; clear n0_ n1_; (try clear hb); (try clear hb2); (try clear hk); (try clear hi)))
          go_ret
          exact ⟨by first | rfl | (simp [errW_none, errW_some] <;> rfl) | (simp [*, errW_none, errW_some] <;> rfl), bB⟩
         ·
          replace c36 := Bool.eq_false_iff.mpr c36
          subst c36
          have H1 : (verditerlaw04_strikeBalances.l0 kj29 l1 l2 ([] : List Int) 0 l0_0 l0_1) = some r := by rw [if_neg (show ¬ (false = true) by decide)] at H; exact H
          clear H
          have H := H1
          clear H1
          have H' := Aside0.mk H
          clear H
          go_wp2
          go_loopg [13, 14] kj29 (fun kq v13 v14 w' => ∃ (x13_4 : List Int) (x14_4 : Int), v14 = .int .i64 x14_4 ∧ Aside0 (verditerlaw04_strikeBalances.l0 kq l1 l2 x13_4 x14_4 l0_0 l0_1 = some r) ∧ Aside0 (kq ≤ kj29) ∧ Aside0 (Kd.R (Kd.int .i64) 3 w' w.heap.size (fun _ => True) v13 x13_4) ∧ Aside0 (w'.heap[gb101]? = some (.cells #[(.slice A0_0 l0_0.length c0_0), (.slice A0_1 l0_1.length c0_1)] 24 (0, 0))) ∧ Aside0 (Below w.heap.size w w'))
          case atStart => exact ⟨(([] : List Int)), (0), (by first | rfl | (simp; done) | (simp [*]; done)), H', ⟨Nat.le_refl _⟩, ⟨by first | exact Kd.R_nil _ _ _ _ _ | exact Kd.N_nil _ _ _ _ _ | exact Kd.V_nil _ _ _ _ _ | exact Kd.Q_nil _ _ _ _ _ | exact Kd.S_nil _ _ _ _ _⟩, ⟨by (with_reducible repeat (first | refine blk_drewN ?_ _ | refine blk_drew ?_ | refine blk_alloc ?_ _)); exact BK101.out⟩, ⟨bB⟩⟩
          case round =>
           clear H'
           try clear c1
           try clear c2
           try clear p2
           try clear c3
           try clear c5
           try clear c7
           try clear c11
           try clear c17
           try clear c23
           try clear c27
           try clear c27b0
           try clear c27b1
           try clear c27b2
           try clear c28
           try clear c33
           try clear c34
           try clear c35
           try clear c35b0
           try clear c35b1
           try clear c36
           try clear hcz12_0
           try clear hcz12_1
           try clear hcz15_0
           try clear hcz15_1
           try clear hcz23_0
           try clear hcz23_1
           try clear hcz25_0
           try clear hcz25_1
           try clear hcz31_0
           try clear hcz31_1
           try clear hcz8_0
           try clear hcz8_1
           try clear hfz12_0
           try clear hfz12_1
           try clear hfz15_0
           try clear hfz15_1
           try clear hfz23_0
           try clear hfz23_1
           try clear hfz25_0
           try clear hfz25_1
           try clear hfz31_0
           try clear hfz31_1
           try clear hfz8_0
           try clear hfz8_1
           try clear p2
           obtain ⟨x13_4, x14_4, rfl, HA, HK4, HO_13, BK101, HB⟩ := hrel
           cases gk with
           | zero => exact absurd HA.out (by simp [verditerlaw04_strikeBalances.l0])
           | succ k4 =>
            have H := HA.out
            clear HA
            simp only [verditerlaw04_strikeBalances.l0] at H
            by_cases c39 : x14_4 < (l1.length : Int)
            ·
             rw [if_pos c39] at H
             have c39b0 : decide (x14_4 < (l1.length : Int)) = true := decide_eq_true c39
             clear c39
             by_cases c40 : 0 ≤ x14_4
             ·
              rw [if_pos c40] at H
              have c40b0 : decide (0 ≤ x14_4) = true := decide_eq_true c40
              clear c40
              by_cases c41 : x14_4 < (l2.length : Int)
              ·
               rw [if_pos c41] at H
               have c41b0 : decide (x14_4 < (l2.length : Int)) = true := decide_eq_true c41
               clear c41
               by_cases c42 : (wrap64 ((rd l1 x14_4) + (rd l2 x14_4))) > 1000000
               ·
                rw [if_pos c42] at H
                have c42b0 : decide (1000000 < (wrap64 ((rd l1 x14_4) + (rd l2 x14_4)))) = true := decide_eq_true c42
                clear c42
                replace H := Option.bind_eq_some_iff.mp H
                obtain ⟨t115, A430, H⟩ := H
                replace H : (some t115) = some r := H
                have A43 := Aside0.mk A430
                clear A430
                obtain rfl := Option.some.inj H
                try go_wp2
                have n0_ := Aside0.mk (Kd.R_drew HO_13.out)
                have n1_ := Aside0.mk (blk_drew BK101.out)
                have n2_ := Aside0.mk (below_drew1 HB.out)
                clear HO_13
                clear BK101
                clear HB
                have HO_13 := n0_
                have BK101 := n1_
                have HB := n2_
                clear n0_ n1_ n2_
                have p113 : 0 ≤ (x14_4 : Int) := of_decide_eq_true (by assumption)
                have q113 : x14_4 < (l1.length : Int) := of_decide_eq_true (by assumption)
                obtain ⟨ad113, e113, hx113_0⟩ := Kd.at_int HR1.out x14_4 p113 q113
                have hw113_0 := hx113_0
                cases e113
                replace hx113_0 := (HB.out.cell (World.block_lt_of_cell? w _ hx113_0)).trans hx113_0
                replace p113 := eq_true p113
                replace q113 := eq_true q113
                have p114 : 0 ≤ (x14_4 : Int) := of_decide_eq_true (by assumption)
                have q114 : x14_4 < (l2.length : Int) := of_decide_eq_true (by assumption)
                obtain ⟨ad114, e114, hx114_0⟩ := Kd.at_int HR2.out x14_4 p114 q114
                have hw114_0 := hx114_0
                cases e114
                replace hx114_0 := (HB.out.cell (World.block_lt_of_cell? w _ hx114_0)).trans hx114_0
                replace p114 := eq_true p114
                replace q114 := eq_true q114
                refine start_ (n := 22) (S := fun w' => w'.cell? (ad113.add (x14_4).toNat) = some (.int .i64 (rd l1 x14_4)) ∧ w'.cell? (ad114.add (x14_4).toNat) = some (.int .i64 (rd l2 x14_4))) (ds := []) #[false, false, false, false, false, false, false, false, false, false, false, false, false, false, false, false, false, false, false, false, false, false] (by kernel_rfl) rfl rfl ⟨((HB.out.cell (World.block_lt_of_cell? w _ hw113_0)).trans hw113_0), ((HB.out.cell (World.block_lt_of_cell? w _ hw114_0)).trans hw114_0)⟩ (fun hHeld => ?_); refine with_tabW verditerlaw04_strikeBalances.tab14 verditerlaw04_strikeBalances.bits14 (fun HT_ HW_ => ?_)
                generalize wr.drew = w44 at HO_13 BK101 HB hx113_0 hx114_0 hHeld ⊢
                refine pure_ (i := 0) (N := some 78) (v := ?_) (a' := ?_) #[true, false, false, false, false, false, false, false, false, false, false, false, false, false, false, false, false, false, false, false, false, false] rfl rfl (any_of HT_.out (by kernel_rfl)) (fun _ _ _ h => h) (Or.inl ⟨by rfl, ?_⟩) ?_ ?_
                rotate_left
                ·
                 intro w'
                 go_simp
                 with_reducible rfl
                rotate_left
                ·
                 simp only [Act.put, List.setIfInBounds_toArray, List.set_cons_zero, List.set_cons_succ, i64_w, i32_w]
                 rfl
                refine pure_ (i := 1) (N := some 79) (v := ?_) (a' := ?_) #[true, true, false, false, false, false, false, false, false, false, false, false, false, false, false, false, false, false, false, false, false, false] rfl rfl (any_of HT_.out (by kernel_rfl)) (fun _ _ _ h => h) (Or.inl ⟨by rfl, ?_⟩) ?_ ?_
                rotate_left
                ·
                 intro w'
                 go_simp
                 with_reducible rfl
                rotate_left
                ·
                 simp only [Act.put, List.setIfInBounds_toArray, List.set_cons_zero, List.set_cons_succ, i64_w, i32_w]
                 rfl
                refine pure_ (i := 2) (N := some 80) (v := ?_) (a' := ?_) #[true, true, true, false, false, false, false, false, false, false, false, false, false, false, false, false, false, false, false, false, false, false] rfl rfl (any_of HT_.out (by kernel_rfl)) (fun _ _ _ h => h) (Or.inl ⟨by rfl, ?_⟩) ?_ ?_
                rotate_left
                ·
                 intro w'
                 go_simp
                 with_reducible rfl
                rotate_left
                ·
                 simp only [Act.put, List.setIfInBounds_toArray, List.set_cons_zero, List.set_cons_succ, i64_w, i32_w]
                 rfl
                refine pure_ (i := 4) (N := some 82) (v := ?_) (a' := ?_) #[true, true, true, false, true, false, false, false, false, false, false, false, false, false, false, false, false, false, false, false, false, false] rfl rfl (any_of HT_.out (by kernel_rfl)) (fun _ _ _ h => h) (Or.inl ⟨by rfl, ?_⟩) ?_ ?_
                rotate_left
                ·
                 intro w'
                 go_simp
                 with_reducible rfl
                rotate_left
                ·
                 simp only [Act.put, List.setIfInBounds_toArray, List.set_cons_zero, List.set_cons_succ, i64_w, i32_w]
                 rfl
                refine pure_ (i := 5) (N := some 83) (v := ?_) (a' := ?_) #[true, true, true, false, true, true, false, false, false, false, false, false, false, false, false, false, false, false, false, false, false, false] rfl rfl (any_of HT_.out (by kernel_rfl)) (fun _ _ _ h => h) (Or.inl ⟨by rfl, ?_⟩) ?_ ?_
                rotate_left
                ·
                 intro w'
                 go_simp
                 with_reducible rfl
                rotate_left
                ·
                 simp only [Act.put, List.setIfInBounds_toArray, List.set_cons_zero, List.set_cons_succ, i64_w, i32_w]
                 rfl
                refine pure_ (i := 6) (N := some 84) (v := ?_) (a' := ?_) #[true, true, true, false, true, true, true, false, false, false, false, false, false, false, false, false, false, false, false, false, false, false] rfl rfl (any_of HT_.out (by kernel_rfl)) (fun _ _ _ h => h) (Or.inl ⟨by rfl, ?_⟩) ?_ ?_
                rotate_left
                ·
                 intro w'
                 go_simp
                 with_reducible rfl
                rotate_left
                ·
                 simp only [Act.put, List.setIfInBounds_toArray, List.set_cons_zero, List.set_cons_succ, i64_w, i32_w]
                 rfl
                refine take_ (i := 3) (N := some 81) (v := ?_) (a' := ?_) #[true, true, true, true, true, true, true, false, false, false, false, false, false, false, false, false, false, false, false, false, false, false] rfl rfl (take_ofW HT_.out HW_.out (by kernel_rfl)) (fun _ _ _ h => h) (Or.inl ⟨by rfl, ?_⟩) hHeld ?_ ?_
                rotate_left
                ·
                 rintro w' ⟨s0, s1⟩
                 go_simp
                 with_reducible rfl
                rotate_left
                ·
                 simp only [Act.put, List.setIfInBounds_toArray, List.set_cons_zero, List.set_cons_succ, i64_w, i32_w]
                 rfl
                refine take_ (i := 7) (N := some 85) (v := ?_) (a' := ?_) #[true, true, true, true, true, true, true, true, false, false, false, false, false, false, false, false, false, false, false, false, false, false] rfl rfl (take_ofW HT_.out HW_.out (by kernel_rfl)) (fun _ _ _ h => h) (Or.inl ⟨by rfl, ?_⟩) hHeld ?_ ?_
                rotate_left
                ·
                 rintro w' ⟨s0, s1⟩
                 go_simp
                 with_reducible rfl
                rotate_left
                ·
                 simp only [Act.put, List.setIfInBounds_toArray, List.set_cons_zero, List.set_cons_succ, i64_w, i32_w]
                 rfl
                refine pure_ (i := 8) (N := some 86) (v := ?_) (a' := ?_) #[true, true, true, true, true, true, true, true, true, false, false, false, false, false, false, false, false, false, false, false, false, false] rfl rfl (any_of HT_.out (by kernel_rfl)) (fun _ _ _ h => h) (Or.inl ⟨by rfl, ?_⟩) ?_ ?_
                rotate_left
                ·
                 intro w'
                 go_simp
                 with_reducible rfl
                rotate_left
                ·
                 simp only [Act.put, List.setIfInBounds_toArray, List.set_cons_zero, List.set_cons_succ, i64_w, i32_w]
                 rfl
                refine pure_ (i := 9) (N := some 87) (v := ?_) (a' := ?_) #[true, true, true, true, true, true, true, true, true, true, false, false, false, false, false, false, false, false, false, false, false, false] rfl rfl (any_of HT_.out (by kernel_rfl)) (fun _ _ _ h => h) (Or.inl ⟨by rfl, ?_⟩) ?_ ?_
                rotate_left
                ·
                 intro w'
                 go_simp
                 with_reducible rfl
                rotate_left
                ·
                 simp only [Act.put, List.setIfInBounds_toArray, List.set_cons_zero, List.set_cons_succ, i64_w, i32_w]
                 rfl
                refine pure_ (i := 10) (N := some 88) (v := ?_) (a' := ?_) #[true, true, true, true, true, true, true, true, true, true, true, false, false, false, false, false, false, false, false, false, false, false] rfl rfl (any_of HT_.out (by kernel_rfl)) (fun _ _ _ h => h) (Or.inl ⟨by rfl, ?_⟩) ?_ ?_
                rotate_left
                ·
                 intro w'
                 go_simp
                 with_reducible rfl
                rotate_left
                ·
                 simp only [Act.put, List.setIfInBounds_toArray, List.set_cons_zero, List.set_cons_succ, i64_w, i32_w]
                 rfl
                refine pure_ (i := 11) (N := some 89) (v := undef) (a' := ?_) #[true, true, true, true, true, true, true, true, true, true, true, true, false, false, false, false, false, false, false, false, false, false] rfl rfl (any_of HT_.out (by kernel_rfl)) (fun _ _ _ h => h) (Or.inr ⟨by rfl, rfl⟩) ?_ ?_
                rotate_left
                ·
                 simp only [Act.put, List.setIfInBounds_toArray, List.set_cons_zero, List.set_cons_succ, i64_w, i32_w]
                 rfl
                refine pure_ (i := 12) (N := some 90) (v := undef) (a' := ?_) #[true, true, true, true, true, true, true, true, true, true, true, true, true, false, false, false, false, false, false, false, false, false] rfl rfl (any_of HT_.out (by kernel_rfl)) (fun _ _ _ h => h) (Or.inr ⟨by rfl, rfl⟩) ?_ ?_
                rotate_left
                ·
                 simp only [Act.put, List.setIfInBounds_toArray, List.set_cons_zero, List.set_cons_succ, i64_w, i32_w]
                 rfl
                refine pure_ (i := 13) (N := some 91) (v := undef) (a' := ?_) #[true, true, true, true, true, true, true, true, true, true, true, true, true, true, false, false, false, false, false, false, false, false] rfl rfl (any_of HT_.out (by kernel_rfl)) (fun _ _ _ h => h) (Or.inr ⟨by rfl, rfl⟩) ?_ ?_
                rotate_left
                ·
                 simp only [Act.put, List.setIfInBounds_toArray, List.set_cons_zero, List.set_cons_succ, i64_w, i32_w]
                 rfl
                refine pure_ (i := 14) (N := some 92) (v := undef) (a' := ?_) #[true, true, true, true, true, true, true, true, true, true, true, true, true, true, true, false, false, false, false, false, false, false] rfl rfl (any_of HT_.out (by kernel_rfl)) (fun _ _ _ h => h) (Or.inr ⟨by rfl, rfl⟩) ?_ ?_
                rotate_left
                ·
                 simp only [Act.put, List.setIfInBounds_toArray, List.set_cons_zero, List.set_cons_succ, i64_w, i32_w]
                 rfl
                refine pure_ (i := 15) (N := some 93) (v := undef) (a' := ?_) #[true, true, true, true, true, true, true, true, true, true, true, true, true, true, true, true, false, false, false, false, false, false] rfl rfl (any_of HT_.out (by kernel_rfl)) (fun _ _ _ h => h) (Or.inr ⟨by rfl, rfl⟩) ?_ ?_
                rotate_left
                ·
                 simp only [Act.put, List.setIfInBounds_toArray, List.set_cons_zero, List.set_cons_succ, i64_w, i32_w]
                 rfl
                refine pure_ (i := 16) (N := some 94) (v := undef) (a' := ?_) #[true, true, true, true, true, true, true, true, true, true, true, true, true, true, true, true, true, false, false, false, false, false] rfl rfl (any_of HT_.out (by kernel_rfl)) (fun _ _ _ h => h) (Or.inr ⟨by rfl, rfl⟩) ?_ ?_
                rotate_left
                ·
                 simp only [Act.put, List.setIfInBounds_toArray, List.set_cons_zero, List.set_cons_succ, i64_w, i32_w]
                 rfl
                refine pure_ (i := 17) (N := some 95) (v := undef) (a' := ?_) #[true, true, true, true, true, true, true, true, true, true, true, true, true, true, true, true, true, true, false, false, false, false] rfl rfl (any_of HT_.out (by kernel_rfl)) (fun _ _ _ h => h) (Or.inr ⟨by rfl, rfl⟩) ?_ ?_
                rotate_left
                ·
                 simp only [Act.put, List.setIfInBounds_toArray, List.set_cons_zero, List.set_cons_succ, i64_w, i32_w]
                 rfl
                refine pure_ (i := 18) (N := some 96) (v := undef) (a' := ?_) #[true, true, true, true, true, true, true, true, true, true, true, true, true, true, true, true, true, true, true, false, false, false] rfl rfl (any_of HT_.out (by kernel_rfl)) (fun _ _ _ h => h) (Or.inr ⟨by rfl, rfl⟩) ?_ ?_
                rotate_left
                ·
                 simp only [Act.put, List.setIfInBounds_toArray, List.set_cons_zero, List.set_cons_succ, i64_w, i32_w]
                 rfl
                refine pure_ (i := 19) (N := some 97) (v := undef) (a' := ?_) #[true, true, true, true, true, true, true, true, true, true, true, true, true, true, true, true, true, true, true, true, false, false] rfl rfl (any_of HT_.out (by kernel_rfl)) (fun _ _ _ h => h) (Or.inr ⟨by rfl, rfl⟩) ?_ ?_
                rotate_left
                ·
                 simp only [Act.put, List.setIfInBounds_toArray, List.set_cons_zero, List.set_cons_succ, i64_w, i32_w]
                 rfl
                refine pure_ (i := 20) (N := some 98) (v := undef) (a' := ?_) #[true, true, true, true, true, true, true, true, true, true, true, true, true, true, true, true, true, true, true, true, true, false] rfl rfl (any_of HT_.out (by kernel_rfl)) (fun _ _ _ h => h) (Or.inr ⟨by rfl, rfl⟩) ?_ ?_
                rotate_left
                ·
                 simp only [Act.put, List.setIfInBounds_toArray, List.set_cons_zero, List.set_cons_succ, i64_w, i32_w]
                 rfl
                refine pure_ (i := 21) (N := some 99) (v := ?_) (a' := ?_) #[true, true, true, true, true, true, true, true, true, true, true, true, true, true, true, true, true, true, true, true, true, true] rfl rfl (any_of HT_.out (by kernel_rfl)) (fun _ _ _ h => h) (Or.inl ⟨by rfl, ?_⟩) ?_ ?_
                rotate_left
                ·
                 intro w'
                 go_simp
                 with_reducible rfl
                rotate_left
                ·
                 simp only [Act.put, List.setIfInBounds_toArray, List.set_cons_zero, List.set_cons_succ, i64_w, i32_w]
                 rfl
                refine done_ (done_of HT_.out (by kernel_rfl)) ?_
                try go_wp2_with (first | ((with_reducible refine gate_callee (f := 50) rfl ?_); refine goesL_ (some 100) rfl rfl Try.func50 (by kernel_rfl) rfl #[] rfl hA ?_; (with_reducible refine (verditerlaw04_known.calls k4  t115 _ A43.out).mono ?_); rintro e w45 ⟨rfl, hb⟩; refine ⟨_, rfl, ?_⟩; have n0_ := Aside0.mk (Kd.R_below HO_13.out hb); have n1_ := Aside0.mk (blk_below BK101.out hb); have n2_ := Aside0.mk (below_step bB hb); clear HO_13; clear BK101; clear HB; have HO_13 := n0_; have BK101 := n1_; have HB := n2_; clear n0_ n1_ n2_; (try clear hb); (try clear hb2); (try clear hk); (try clear hi)))
                go_ret
                exact ⟨by first | rfl | (simp [errW_none, errW_some] <;> rfl) | (simp [*, errW_none, errW_some] <;> rfl), bB⟩
               ·
                rw [if_neg c42] at H
                have c42b0 : decide (1000000 < (wrap64 ((rd l1 x14_4) + (rd l2 x14_4)))) = false := decide_eq_false c42
                clear c42
                by_cases c46 : (wrap64 ((rd l1 x14_4) + (rd l2 x14_4))) < (-1000000)
                ·
                 rw [if_pos c46] at H
                 have c46b0 : decide ((wrap64 ((rd l1 x14_4) + (rd l2 x14_4))) < (-1000000)) = true := decide_eq_true c46
                 clear c46
                 replace H := Option.bind_eq_some_iff.mp H
                 obtain ⟨t118, A470, H⟩ := H
                 replace H : (some t118) = some r := H
                 have A47 := Aside0.mk A470
                 clear A470
                 obtain rfl := Option.some.inj H
                 try go_wp2
                 have n0_ := Aside0.mk (Kd.R_drew HO_13.out)
                 have n1_ := Aside0.mk (blk_drew BK101.out)
                 have n2_ := Aside0.mk (below_drew1 HB.out)
                 clear HO_13
                 clear BK101
                 clear HB
                 have HO_13 := n0_
                 have BK101 := n1_
                 have HB := n2_
                 clear n0_ n1_ n2_
                 have p113 : 0 ≤ (x14_4 : Int) := of_decide_eq_true (by assumption)
                 have q113 : x14_4 < (l1.length : Int) := of_decide_eq_true (by assumption)
                 obtain ⟨ad113, e113, hx113_0⟩ := Kd.at_int HR1.out x14_4 p113 q113
                 have hw113_0 := hx113_0
                 cases e113
                 replace hx113_0 := (HB.out.cell (World.block_lt_of_cell? w _ hx113_0)).trans hx113_0
                 replace p113 := eq_true p113
                 replace q113 := eq_true q113
                 have p114 : 0 ≤ (x14_4 : Int) := of_decide_eq_true (by assumption)
                 have q114 : x14_4 < (l2.length : Int) := of_decide_eq_true (by assumption)
                 obtain ⟨ad114, e114, hx114_0⟩ := Kd.at_int HR2.out x14_4 p114 q114
                 have hw114_0 := hx114_0
                 cases e114
                 replace hx114_0 := (HB.out.cell (World.block_lt_of_cell? w _ hx114_0)).trans hx114_0
                 replace p114 := eq_true p114
                 replace q114 := eq_true q114
                 have p116 : 0 ≤ (x14_4 : Int) := of_decide_eq_true (by assumption)
                 have q116 : x14_4 < (l1.length : Int) := of_decide_eq_true (by assumption)
                 obtain ⟨ad116, e116, hx116_0⟩ := Kd.at_int HR1.out x14_4 p116 q116
                 have hw116_0 := hx116_0
                 obtain rfl : ad113 = ad116 := (by injection e116)
                 replace hx116_0 := (HB.out.cell (World.block_lt_of_cell? w _ hx116_0)).trans hx116_0
                 replace p116 := eq_true p116
                 replace q116 := eq_true q116
                 have p117 : 0 ≤ (x14_4 : Int) := of_decide_eq_true (by assumption)
                 have q117 : x14_4 < (l2.length : Int) := of_decide_eq_true (by assumption)
                 obtain ⟨ad117, e117, hx117_0⟩ := Kd.at_int HR2.out x14_4 p117 q117
                 have hw117_0 := hx117_0
                 obtain rfl : ad114 = ad117 := (by injection e117)
                 replace hx117_0 := (HB.out.cell (World.block_lt_of_cell? w _ hx117_0)).trans hx117_0
                 replace p117 := eq_true p117
                 replace q117 := eq_true q117
                 refine start_ (n := 22) (S := fun w' => w'.cell? (ad113.add (x14_4).toNat) = some (.int .i64 (rd l1 x14_4)) ∧ w'.cell? (ad114.add (x14_4).toNat) = some (.int .i64 (rd l2 x14_4)) ∧ w'.cell? (ad113.add (x14_4).toNat) = some (.int .i64 (rd l1 x14_4)) ∧ w'.cell? (ad114.add (x14_4).toNat) = some (.int .i64 (rd l2 x14_4))) (ds := []) #[false, false, false, false, false, false, false, false, false, false, false, false, false, false, false, false, false, false, false, false, false, false] (by kernel_rfl) rfl rfl ⟨((HB.out.cell (World.block_lt_of_cell? w _ hw113_0)).trans hw113_0), ((HB.out.cell (World.block_lt_of_cell? w _ hw114_0)).trans hw114_0), ((HB.out.cell (World.block_lt_of_cell? w _ hw116_0)).trans hw116_0), ((HB.out.cell (World.block_lt_of_cell? w _ hw117_0)).trans hw117_0)⟩ (fun hHeld => ?_); refine with_tabW verditerlaw04_strikeBalances.tab14 verditerlaw04_strikeBalances.bits14 (fun HT_ HW_ => ?_)
                 generalize wr.drew = w48 at HO_13 BK101 HB hx113_0 hx114_0 hx116_0 hx117_0 hHeld ⊢
                 refine pure_ (i := 0) (N := some 78) (v := ?_) (a' := ?_) #[true, false, false, false, false, false, false, false, false, false, false, false, false, false, false, false, false, false, false, false, false, false] rfl rfl (any_of HT_.out (by kernel_rfl)) (fun _ _ _ h => h) (Or.inl ⟨by rfl, ?_⟩) ?_ ?_
                 rotate_left
                 ·
                  intro w'
                  go_simp
                  with_reducible rfl
                 rotate_left
                 ·
                  simp only [Act.put, List.setIfInBounds_toArray, List.set_cons_zero, List.set_cons_succ, i64_w, i32_w]
                  rfl
                 refine pure_ (i := 1) (N := some 79) (v := ?_) (a' := ?_) #[true, true, false, false, false, false, false, false, false, false, false, false, false, false, false, false, false, false, false, false, false, false] rfl rfl (any_of HT_.out (by kernel_rfl)) (fun _ _ _ h => h) (Or.inl ⟨by rfl, ?_⟩) ?_ ?_
                 rotate_left
                 ·
                  intro w'
                  go_simp
                  with_reducible rfl
                 rotate_left
                 ·
                  simp only [Act.put, List.setIfInBounds_toArray, List.set_cons_zero, List.set_cons_succ, i64_w, i32_w]
                  rfl
                 refine pure_ (i := 2) (N := some 80) (v := ?_) (a' := ?_) #[true, true, true, false, false, false, false, false, false, false, false, false, false, false, false, false, false, false, false, false, false, false] rfl rfl (any_of HT_.out (by kernel_rfl)) (fun _ _ _ h => h) (Or.inl ⟨by rfl, ?_⟩) ?_ ?_
                 rotate_left
                 ·
                  intro w'
                  go_simp
                  with_reducible rfl
                 rotate_left
                 ·
                  simp only [Act.put, List.setIfInBounds_toArray, List.set_cons_zero, List.set_cons_succ, i64_w, i32_w]
                  rfl
                 refine pure_ (i := 4) (N := some 82) (v := ?_) (a' := ?_) #[true, true, true, false, true, false, false, false, false, false, false, false, false, false, false, false, false, false, false, false, false, false] rfl rfl (any_of HT_.out (by kernel_rfl)) (fun _ _ _ h => h) (Or.inl ⟨by rfl, ?_⟩) ?_ ?_
                 rotate_left
                 ·
                  intro w'
                  go_simp
                  with_reducible rfl
                 rotate_left
                 ·
                  simp only [Act.put, List.setIfInBounds_toArray, List.set_cons_zero, List.set_cons_succ, i64_w, i32_w]
                  rfl
                 refine pure_ (i := 5) (N := some 83) (v := ?_) (a' := ?_) #[true, true, true, false, true, true, false, false, false, false, false, false, false, false, false, false, false, false, false, false, false, false] rfl rfl (any_of HT_.out (by kernel_rfl)) (fun _ _ _ h => h) (Or.inl ⟨by rfl, ?_⟩) ?_ ?_
                 rotate_left
                 ·
                  intro w'
                  go_simp
                  with_reducible rfl
                 rotate_left
                 ·
                  simp only [Act.put, List.setIfInBounds_toArray, List.set_cons_zero, List.set_cons_succ, i64_w, i32_w]
                  rfl
                 refine pure_ (i := 6) (N := some 84) (v := ?_) (a' := ?_) #[true, true, true, false, true, true, true, false, false, false, false, false, false, false, false, false, false, false, false, false, false, false] rfl rfl (any_of HT_.out (by kernel_rfl)) (fun _ _ _ h => h) (Or.inl ⟨by rfl, ?_⟩) ?_ ?_
                 rotate_left
                 ·
                  intro w'
                  go_simp
                  with_reducible rfl
                 rotate_left
                 ·
                  simp only [Act.put, List.setIfInBounds_toArray, List.set_cons_zero, List.set_cons_succ, i64_w, i32_w]
                  rfl
                 refine take_ (i := 3) (N := some 81) (v := ?_) (a' := ?_) #[true, true, true, true, true, true, true, false, false, false, false, false, false, false, false, false, false, false, false, false, false, false] rfl rfl (take_ofW HT_.out HW_.out (by kernel_rfl)) (fun _ _ _ h => h) (Or.inl ⟨by rfl, ?_⟩) hHeld ?_ ?_
                 rotate_left
                 ·
                  rintro w' ⟨s0, s1, s2, s3⟩
                  go_simp
                  with_reducible rfl
                 rotate_left
                 ·
                  simp only [Act.put, List.setIfInBounds_toArray, List.set_cons_zero, List.set_cons_succ, i64_w, i32_w]
                  rfl
                 refine take_ (i := 7) (N := some 85) (v := ?_) (a' := ?_) #[true, true, true, true, true, true, true, true, false, false, false, false, false, false, false, false, false, false, false, false, false, false] rfl rfl (take_ofW HT_.out HW_.out (by kernel_rfl)) (fun _ _ _ h => h) (Or.inl ⟨by rfl, ?_⟩) hHeld ?_ ?_
                 rotate_left
                 ·
                  rintro w' ⟨s0, s1, s2, s3⟩
                  go_simp
                  with_reducible rfl
                 rotate_left
                 ·
                  simp only [Act.put, List.setIfInBounds_toArray, List.set_cons_zero, List.set_cons_succ, i64_w, i32_w]
                  rfl
                 refine pure_ (i := 8) (N := some 86) (v := ?_) (a' := ?_) #[true, true, true, true, true, true, true, true, true, false, false, false, false, false, false, false, false, false, false, false, false, false] rfl rfl (any_of HT_.out (by kernel_rfl)) (fun _ _ _ h => h) (Or.inl ⟨by rfl, ?_⟩) ?_ ?_
                 rotate_left
                 ·
                  intro w'
                  go_simp
                  with_reducible rfl
                 rotate_left
                 ·
                  simp only [Act.put, List.setIfInBounds_toArray, List.set_cons_zero, List.set_cons_succ, i64_w, i32_w]
                  rfl
                 refine pure_ (i := 9) (N := some 87) (v := ?_) (a' := ?_) #[true, true, true, true, true, true, true, true, true, true, false, false, false, false, false, false, false, false, false, false, false, false] rfl rfl (any_of HT_.out (by kernel_rfl)) (fun _ _ _ h => h) (Or.inl ⟨by rfl, ?_⟩) ?_ ?_
                 rotate_left
                 ·
                  intro w'
                  go_simp
                  with_reducible rfl
                 rotate_left
                 ·
                  simp only [Act.put, List.setIfInBounds_toArray, List.set_cons_zero, List.set_cons_succ, i64_w, i32_w]
                  rfl
                 refine pure_ (i := 10) (N := some 88) (v := ?_) (a' := ?_) #[true, true, true, true, true, true, true, true, true, true, true, false, false, false, false, false, false, false, false, false, false, false] rfl rfl (any_of HT_.out (by kernel_rfl)) (fun _ _ _ h => h) (Or.inl ⟨by rfl, ?_⟩) ?_ ?_
                 rotate_left
                 ·
                  intro w'
                  go_simp
                  with_reducible rfl
                 rotate_left
                 ·
                  simp only [Act.put, List.setIfInBounds_toArray, List.set_cons_zero, List.set_cons_succ, i64_w, i32_w]
                  rfl
                 refine pure_ (i := 11) (N := some 89) (v := ?_) (a' := ?_) #[true, true, true, true, true, true, true, true, true, true, true, true, false, false, false, false, false, false, false, false, false, false] rfl rfl (any_of HT_.out (by kernel_rfl)) (fun _ _ _ h => h) (Or.inl ⟨by rfl, ?_⟩) ?_ ?_
                 rotate_left
                 ·
                  intro w'
                  go_simp
                  with_reducible rfl
                 rotate_left
                 ·
                  simp only [Act.put, List.setIfInBounds_toArray, List.set_cons_zero, List.set_cons_succ, i64_w, i32_w]
                  rfl
                 refine pure_ (i := 12) (N := some 90) (v := ?_) (a' := ?_) #[true, true, true, true, true, true, true, true, true, true, true, true, true, false, false, false, false, false, false, false, false, false] rfl rfl (any_of HT_.out (by kernel_rfl)) (fun _ _ _ h => h) (Or.inl ⟨by rfl, ?_⟩) ?_ ?_
                 rotate_left
                 ·
                  intro w'
                  go_simp
                  with_reducible rfl
                 rotate_left
                 ·
                  simp only [Act.put, List.setIfInBounds_toArray, List.set_cons_zero, List.set_cons_succ, i64_w, i32_w]
                  rfl
                 refine pure_ (i := 13) (N := some 91) (v := ?_) (a' := ?_) #[true, true, true, true, true, true, true, true, true, true, true, true, true, true, false, false, false, false, false, false, false, false] rfl rfl (any_of HT_.out (by kernel_rfl)) (fun _ _ _ h => h) (Or.inl ⟨by rfl, ?_⟩) ?_ ?_
                 rotate_left
                 ·
                  intro w'
                  go_simp
                  with_reducible rfl
                 rotate_left
                 ·
                  simp only [Act.put, List.setIfInBounds_toArray, List.set_cons_zero, List.set_cons_succ, i64_w, i32_w]
                  rfl
                 refine pure_ (i := 15) (N := some 93) (v := ?_) (a' := ?_) #[true, true, true, true, true, true, true, true, true, true, true, true, true, true, false, true, false, false, false, false, false, false] rfl rfl (any_of HT_.out (by kernel_rfl)) (fun _ _ _ h => h) (Or.inl ⟨by rfl, ?_⟩) ?_ ?_
                 rotate_left
                 ·
                  intro w'
                  go_simp
                  with_reducible rfl
                 rotate_left
                 ·
                  simp only [Act.put, List.setIfInBounds_toArray, List.set_cons_zero, List.set_cons_succ, i64_w, i32_w]
                  rfl
                 refine pure_ (i := 16) (N := some 94) (v := ?_) (a' := ?_) #[true, true, true, true, true, true, true, true, true, true, true, true, true, true, false, true, true, false, false, false, false, false] rfl rfl (any_of HT_.out (by kernel_rfl)) (fun _ _ _ h => h) (Or.inl ⟨by rfl, ?_⟩) ?_ ?_
                 rotate_left
                 ·
                  intro w'
                  go_simp
                  with_reducible rfl
                 rotate_left
                 ·
                  simp only [Act.put, List.setIfInBounds_toArray, List.set_cons_zero, List.set_cons_succ, i64_w, i32_w]
                  rfl
                 refine pure_ (i := 17) (N := some 95) (v := ?_) (a' := ?_) #[true, true, true, true, true, true, true, true, true, true, true, true, true, true, false, true, true, true, false, false, false, false] rfl rfl (any_of HT_.out (by kernel_rfl)) (fun _ _ _ h => h) (Or.inl ⟨by rfl, ?_⟩) ?_ ?_
                 rotate_left
                 ·
                  intro w'
                  go_simp
                  with_reducible rfl
                 rotate_left
                 ·
                  simp only [Act.put, List.setIfInBounds_toArray, List.set_cons_zero, List.set_cons_succ, i64_w, i32_w]
                  rfl
                 refine take_ (i := 14) (N := some 92) (v := ?_) (a' := ?_) #[true, true, true, true, true, true, true, true, true, true, true, true, true, true, true, true, true, true, false, false, false, false] rfl rfl (take_ofW HT_.out HW_.out (by kernel_rfl)) (fun _ _ _ h => h) (Or.inl ⟨by rfl, ?_⟩) hHeld ?_ ?_
                 rotate_left
                 ·
                  rintro w' ⟨s0, s1, s2, s3⟩
                  go_simp
                  with_reducible rfl
                 rotate_left
                 ·
                  simp only [Act.put, List.setIfInBounds_toArray, List.set_cons_zero, List.set_cons_succ, i64_w, i32_w]
                  rfl
                 refine take_ (i := 18) (N := some 96) (v := ?_) (a' := ?_) #[true, true, true, true, true, true, true, true, true, true, true, true, true, true, true, true, true, true, true, false, false, false] rfl rfl (take_ofW HT_.out HW_.out (by kernel_rfl)) (fun _ _ _ h => h) (Or.inl ⟨by rfl, ?_⟩) hHeld ?_ ?_
                 rotate_left
                 ·
                  rintro w' ⟨s0, s1, s2, s3⟩
                  go_simp
                  with_reducible rfl
                 rotate_left
                 ·
                  simp only [Act.put, List.setIfInBounds_toArray, List.set_cons_zero, List.set_cons_succ, i64_w, i32_w]
                  rfl
                 refine pure_ (i := 19) (N := some 97) (v := ?_) (a' := ?_) #[true, true, true, true, true, true, true, true, true, true, true, true, true, true, true, true, true, true, true, true, false, false] rfl rfl (any_of HT_.out (by kernel_rfl)) (fun _ _ _ h => h) (Or.inl ⟨by rfl, ?_⟩) ?_ ?_
                 rotate_left
                 ·
                  intro w'
                  go_simp
                  with_reducible rfl
                 rotate_left
                 ·
                  simp only [Act.put, List.setIfInBounds_toArray, List.set_cons_zero, List.set_cons_succ, i64_w, i32_w]
                  rfl
                 refine pure_ (i := 20) (N := some 98) (v := ?_) (a' := ?_) #[true, true, true, true, true, true, true, true, true, true, true, true, true, true, true, true, true, true, true, true, true, false] rfl rfl (any_of HT_.out (by kernel_rfl)) (fun _ _ _ h => h) (Or.inl ⟨by rfl, ?_⟩) ?_ ?_
                 rotate_left
                 ·
                  intro w'
                  go_simp
                  with_reducible rfl
                 rotate_left
                 ·
                  simp only [Act.put, List.setIfInBounds_toArray, List.set_cons_zero, List.set_cons_succ, i64_w, i32_w]
                  rfl
                 refine pure_ (i := 21) (N := some 99) (v := ?_) (a' := ?_) #[true, true, true, true, true, true, true, true, true, true, true, true, true, true, true, true, true, true, true, true, true, true] rfl rfl (any_of HT_.out (by kernel_rfl)) (fun _ _ _ h => h) (Or.inl ⟨by rfl, ?_⟩) ?_ ?_
                 rotate_left
                 ·
                  intro w'
                  go_simp
                  with_reducible rfl
                 rotate_left
                 ·
                  simp only [Act.put, List.setIfInBounds_toArray, List.set_cons_zero, List.set_cons_succ, i64_w, i32_w]
                  rfl
                 refine done_ (done_of HT_.out (by kernel_rfl)) ?_
                 try go_wp2_with (first | ((with_reducible refine gate_callee (f := 50) rfl ?_); refine goesL_ (some 100) rfl rfl Try.func50 (by kernel_rfl) rfl #[] rfl hA ?_; (with_reducible refine (verditerlaw04_known.calls k4  t118 _ A47.out).mono ?_); rintro e w49 ⟨rfl, hb⟩; refine ⟨_, rfl, ?_⟩; have n0_ := Aside0.mk (Kd.R_below HO_13.out hb); have n1_ := Aside0.mk (blk_below BK101.out hb); have n2_ := Aside0.mk (below_step bB hb); clear HO_13; clear BK101; clear HB; have HO_13 := n0_; have BK101 := n1_; have HB := n2_; clear n0_ n1_ n2_; (try clear hb); (try clear hb2); (try clear hk); (try clear hi)))
                 go_ret
                 exact ⟨by first | rfl | (simp [errW_none, errW_some] <;> rfl) | (simp [*, errW_none, errW_some] <;> rfl), bB⟩
                ·
                 rw [if_neg c46] at H
                 have c46b0 : decide ((wrap64 ((rd l1 x14_4) + (rd l2 x14_4))) < (-1000000)) = false := decide_eq_false c46
                 clear c46
                 by_cases c50 : x13_4.length < 17592186044416
                 ·
                  rw [if_pos c50] at H
                  have LMc50 := Aside0.mk c50
                  clear c50
                  obtain ⟨y121, hy121⟩ : ∃ y_ : List Int, y_ = (x13_4 ++ [wrap64 ((rd l1 x14_4) + (rd l2 x14_4))]) := ⟨_, rfl⟩
                  replace H : (verditerlaw04_strikeBalances.l0 k4 l1 l2 y121 (wrap64 (x14_4 + 1)) l0_0 l0_1) = some r := by first | (rw [hy121]; with_reducible exact H) | (have H2_ := (Option.bind_some _ _).symm.trans H; rw [hy121]; with_reducible exact H2_) | (have H2_ := (Option.bind_some _ _).symm.trans H; with_reducible exact H2_) | with_reducible exact H | (rw [hy121]; exact H) | exact H
                  have Ny121 := Aside0.mk hy121
                  clear hy121
                  have H' := Aside0.mk H
                  clear H
                  try go_wp2
                  have n0_ := Aside0.mk (Kd.R_drew HO_13.out)
                  have n1_ := Aside0.mk (blk_drew BK101.out)
                  have n2_ := Aside0.mk (below_drew1 HB.out)
                  clear HO_13
                  clear BK101
                  clear HB
                  have HO_13 := n0_
                  have BK101 := n1_
                  have HB := n2_
                  clear n0_ n1_ n2_
                  have p113 : 0 ≤ (x14_4 : Int) := of_decide_eq_true (by assumption)
                  have q113 : x14_4 < (l1.length : Int) := of_decide_eq_true (by assumption)
                  obtain ⟨ad113, e113, hx113_0⟩ := Kd.at_int HR1.out x14_4 p113 q113
                  have hw113_0 := hx113_0
                  cases e113
                  replace hx113_0 := (HB.out.cell (World.block_lt_of_cell? w _ hx113_0)).trans hx113_0
                  replace p113 := eq_true p113
                  replace q113 := eq_true q113
                  have p114 : 0 ≤ (x14_4 : Int) := of_decide_eq_true (by assumption)
                  have q114 : x14_4 < (l2.length : Int) := of_decide_eq_true (by assumption)
                  obtain ⟨ad114, e114, hx114_0⟩ := Kd.at_int HR2.out x14_4 p114 q114
                  have hw114_0 := hx114_0
                  cases e114
                  replace hx114_0 := (HB.out.cell (World.block_lt_of_cell? w _ hx114_0)).trans hx114_0
                  replace p114 := eq_true p114
                  replace q114 := eq_true q114
                  have p116 : 0 ≤ (x14_4 : Int) := of_decide_eq_true (by assumption)
                  have q116 : x14_4 < (l1.length : Int) := of_decide_eq_true (by assumption)
                  obtain ⟨ad116, e116, hx116_0⟩ := Kd.at_int HR1.out x14_4 p116 q116
                  have hw116_0 := hx116_0
                  obtain rfl : ad113 = ad116 := (by injection e116)
                  replace hx116_0 := (HB.out.cell (World.block_lt_of_cell? w _ hx116_0)).trans hx116_0
                  replace p116 := eq_true p116
                  replace q116 := eq_true q116
                  have p117 : 0 ≤ (x14_4 : Int) := of_decide_eq_true (by assumption)
                  have q117 : x14_4 < (l2.length : Int) := of_decide_eq_true (by assumption)
                  obtain ⟨ad117, e117, hx117_0⟩ := Kd.at_int HR2.out x14_4 p117 q117
                  have hw117_0 := hx117_0
                  obtain rfl : ad114 = ad117 := (by injection e117)
                  replace hx117_0 := (HB.out.cell (World.block_lt_of_cell? w _ hx117_0)).trans hx117_0
                  replace p117 := eq_true p117
                  replace q117 := eq_true q117
                  refine start_ (n := 22) (S := fun w' => w'.cell? (ad113.add (x14_4).toNat) = some (.int .i64 (rd l1 x14_4)) ∧ w'.cell? (ad114.add (x14_4).toNat) = some (.int .i64 (rd l2 x14_4)) ∧ w'.cell? (ad113.add (x14_4).toNat) = some (.int .i64 (rd l1 x14_4)) ∧ w'.cell? (ad114.add (x14_4).toNat) = some (.int .i64 (rd l2 x14_4))) (ds := []) #[false, false, false, false, false, false, false, false, false, false, false, false, false, false, false, false, false, false, false, false, false, false] (by kernel_rfl) rfl rfl ⟨((HB.out.cell (World.block_lt_of_cell? w _ hw113_0)).trans hw113_0), ((HB.out.cell (World.block_lt_of_cell? w _ hw114_0)).trans hw114_0), ((HB.out.cell (World.block_lt_of_cell? w _ hw116_0)).trans hw116_0), ((HB.out.cell (World.block_lt_of_cell? w _ hw117_0)).trans hw117_0)⟩ (fun hHeld => ?_); refine with_tabW verditerlaw04_strikeBalances.tab14 verditerlaw04_strikeBalances.bits14 (fun HT_ HW_ => ?_)
                  generalize wr.drew = w51 at HO_13 BK101 HB hx113_0 hx114_0 hx116_0 hx117_0 hHeld ⊢
                  refine pure_ (i := 0) (N := some 78) (v := ?_) (a' := ?_) #[true, false, false, false, false, false, false, false, false, false, false, false, false, false, false, false, false, false, false, false, false, false] rfl rfl (any_of HT_.out (by kernel_rfl)) (fun _ _ _ h => h) (Or.inl ⟨by rfl, ?_⟩) ?_ ?_
                  rotate_left
                  ·
                   intro w'
                   go_simp
                   with_reducible rfl
                  rotate_left
                  ·
                   simp only [Act.put, List.setIfInBounds_toArray, List.set_cons_zero, List.set_cons_succ, i64_w, i32_w]
                   rfl
                  refine pure_ (i := 1) (N := some 79) (v := ?_) (a' := ?_) #[true, true, false, false, false, false, false, false, false, false, false, false, false, false, false, false, false, false, false, false, false, false] rfl rfl (any_of HT_.out (by kernel_rfl)) (fun _ _ _ h => h) (Or.inl ⟨by rfl, ?_⟩) ?_ ?_
                  rotate_left
                  ·
                   intro w'
                   go_simp
                   with_reducible rfl
                  rotate_left
                  ·
                   simp only [Act.put, List.setIfInBounds_toArray, List.set_cons_zero, List.set_cons_succ, i64_w, i32_w]
                   rfl
                  refine pure_ (i := 2) (N := some 80) (v := ?_) (a' := ?_) #[true, true, true, false, false, false, false, false, false, false, false, false, false, false, false, false, false, false, false, false, false, false] rfl rfl (any_of HT_.out (by kernel_rfl)) (fun _ _ _ h => h) (Or.inl ⟨by rfl, ?_⟩) ?_ ?_
                  rotate_left
                  ·
                   intro w'
                   go_simp
                   with_reducible rfl
                  rotate_left
                  ·
                   simp only [Act.put, List.setIfInBounds_toArray, List.set_cons_zero, List.set_cons_succ, i64_w, i32_w]
                   rfl
                  refine pure_ (i := 4) (N := some 82) (v := ?_) (a' := ?_) #[true, true, true, false, true, false, false, false, false, false, false, false, false, false, false, false, false, false, false, false, false, false] rfl rfl (any_of HT_.out (by kernel_rfl)) (fun _ _ _ h => h) (Or.inl ⟨by rfl, ?_⟩) ?_ ?_
                  rotate_left
                  ·
                   intro w'
                   go_simp
                   with_reducible rfl
                  rotate_left
                  ·
                   simp only [Act.put, List.setIfInBounds_toArray, List.set_cons_zero, List.set_cons_succ, i64_w, i32_w]
                   rfl
                  refine pure_ (i := 5) (N := some 83) (v := ?_) (a' := ?_) #[true, true, true, false, true, true, false, false, false, false, false, false, false, false, false, false, false, false, false, false, false, false] rfl rfl (any_of HT_.out (by kernel_rfl)) (fun _ _ _ h => h) (Or.inl ⟨by rfl, ?_⟩) ?_ ?_
                  rotate_left
                  ·
                   intro w'
                   go_simp
                   with_reducible rfl
                  rotate_left
                  ·
                   simp only [Act.put, List.setIfInBounds_toArray, List.set_cons_zero, List.set_cons_succ, i64_w, i32_w]
                   rfl
                  refine pure_ (i := 6) (N := some 84) (v := ?_) (a' := ?_) #[true, true, true, false, true, true, true, false, false, false, false, false, false, false, false, false, false, false, false, false, false, false] rfl rfl (any_of HT_.out (by kernel_rfl)) (fun _ _ _ h => h) (Or.inl ⟨by rfl, ?_⟩) ?_ ?_
                  rotate_left
                  ·
                   intro w'
                   go_simp
                   with_reducible rfl
                  rotate_left
                  ·
                   simp only [Act.put, List.setIfInBounds_toArray, List.set_cons_zero, List.set_cons_succ, i64_w, i32_w]
                   rfl
                  refine take_ (i := 3) (N := some 81) (v := ?_) (a' := ?_) #[true, true, true, true, true, true, true, false, false, false, false, false, false, false, false, false, false, false, false, false, false, false] rfl rfl (take_ofW HT_.out HW_.out (by kernel_rfl)) (fun _ _ _ h => h) (Or.inl ⟨by rfl, ?_⟩) hHeld ?_ ?_
                  rotate_left
                  ·
                   rintro w' ⟨s0, s1, s2, s3⟩
                   go_simp
                   with_reducible rfl
                  rotate_left
                  ·
                   simp only [Act.put, List.setIfInBounds_toArray, List.set_cons_zero, List.set_cons_succ, i64_w, i32_w]
                   rfl
                  refine take_ (i := 7) (N := some 85) (v := ?_) (a' := ?_) #[true, true, true, true, true, true, true, true, false, false, false, false, false, false, false, false, false, false, false, false, false, false] rfl rfl (take_ofW HT_.out HW_.out (by kernel_rfl)) (fun _ _ _ h => h) (Or.inl ⟨by rfl, ?_⟩) hHeld ?_ ?_
                  rotate_left
                  ·
                   rintro w' ⟨s0, s1, s2, s3⟩
                   go_simp
                   with_reducible rfl
                  rotate_left
                  ·
                   simp only [Act.put, List.setIfInBounds_toArray, List.set_cons_zero, List.set_cons_succ, i64_w, i32_w]
                   rfl
                  refine pure_ (i := 8) (N := some 86) (v := ?_) (a' := ?_) #[true, true, true, true, true, true, true, true, true, false, false, false, false, false, false, false, false, false, false, false, false, false] rfl rfl (any_of HT_.out (by kernel_rfl)) (fun _ _ _ h => h) (Or.inl ⟨by rfl, ?_⟩) ?_ ?_
                  rotate_left
                  ·
                   intro w'
                   go_simp
                   with_reducible rfl
                  rotate_left
                  ·
                   simp only [Act.put, List.setIfInBounds_toArray, List.set_cons_zero, List.set_cons_succ, i64_w, i32_w]
                   rfl
                  refine pure_ (i := 9) (N := some 87) (v := ?_) (a' := ?_) #[true, true, true, true, true, true, true, true, true, true, false, false, false, false, false, false, false, false, false, false, false, false] rfl rfl (any_of HT_.out (by kernel_rfl)) (fun _ _ _ h => h) (Or.inl ⟨by rfl, ?_⟩) ?_ ?_
                  rotate_left
                  ·
                   intro w'
                   go_simp
                   with_reducible rfl
                  rotate_left
                  ·
                   simp only [Act.put, List.setIfInBounds_toArray, List.set_cons_zero, List.set_cons_succ, i64_w, i32_w]
                   rfl
                  refine pure_ (i := 10) (N := some 88) (v := ?_) (a' := ?_) #[true, true, true, true, true, true, true, true, true, true, true, false, false, false, false, false, false, false, false, false, false, false] rfl rfl (any_of HT_.out (by kernel_rfl)) (fun _ _ _ h => h) (Or.inl ⟨by rfl, ?_⟩) ?_ ?_
                  rotate_left
                  ·
                   intro w'
                   go_simp
                   with_reducible rfl
                  rotate_left
                  ·
                   simp only [Act.put, List.setIfInBounds_toArray, List.set_cons_zero, List.set_cons_succ, i64_w, i32_w]
                   rfl
                  refine pure_ (i := 11) (N := some 89) (v := ?_) (a' := ?_) #[true, true, true, true, true, true, true, true, true, true, true, true, false, false, false, false, false, false, false, false, false, false] rfl rfl (any_of HT_.out (by kernel_rfl)) (fun _ _ _ h => h) (Or.inl ⟨by rfl, ?_⟩) ?_ ?_
                  rotate_left
                  ·
                   intro w'
                   go_simp
                   with_reducible rfl
                  rotate_left
                  ·
                   simp only [Act.put, List.setIfInBounds_toArray, List.set_cons_zero, List.set_cons_succ, i64_w, i32_w]
                   rfl
                  refine pure_ (i := 12) (N := some 90) (v := ?_) (a' := ?_) #[true, true, true, true, true, true, true, true, true, true, true, true, true, false, false, false, false, false, false, false, false, false] rfl rfl (any_of HT_.out (by kernel_rfl)) (fun _ _ _ h => h) (Or.inl ⟨by rfl, ?_⟩) ?_ ?_
                  rotate_left
                  ·
                   intro w'
                   go_simp
                   with_reducible rfl
                  rotate_left
                  ·
                   simp only [Act.put, List.setIfInBounds_toArray, List.set_cons_zero, List.set_cons_succ, i64_w, i32_w]
                   rfl
                  refine pure_ (i := 13) (N := some 91) (v := ?_) (a' := ?_) #[true, true, true, true, true, true, true, true, true, true, true, true, true, true, false, false, false, false, false, false, false, false] rfl rfl (any_of HT_.out (by kernel_rfl)) (fun _ _ _ h => h) (Or.inl ⟨by rfl, ?_⟩) ?_ ?_
                  rotate_left
                  ·
                   intro w'
                   go_simp
                   with_reducible rfl
                  rotate_left
                  ·
                   simp only [Act.put, List.setIfInBounds_toArray, List.set_cons_zero, List.set_cons_succ, i64_w, i32_w]
                   rfl
                  refine pure_ (i := 15) (N := some 93) (v := ?_) (a' := ?_) #[true, true, true, true, true, true, true, true, true, true, true, true, true, true, false, true, false, false, false, false, false, false] rfl rfl (any_of HT_.out (by kernel_rfl)) (fun _ _ _ h => h) (Or.inl ⟨by rfl, ?_⟩) ?_ ?_
                  rotate_left
                  ·
                   intro w'
                   go_simp
                   with_reducible rfl
                  rotate_left
                  ·
                   simp only [Act.put, List.setIfInBounds_toArray, List.set_cons_zero, List.set_cons_succ, i64_w, i32_w]
                   rfl
                  refine pure_ (i := 16) (N := some 94) (v := ?_) (a' := ?_) #[true, true, true, true, true, true, true, true, true, true, true, true, true, true, false, true, true, false, false, false, false, false] rfl rfl (any_of HT_.out (by kernel_rfl)) (fun _ _ _ h => h) (Or.inl ⟨by rfl, ?_⟩) ?_ ?_
                  rotate_left
                  ·
                   intro w'
                   go_simp
                   with_reducible rfl
                  rotate_left
                  ·
                   simp only [Act.put, List.setIfInBounds_toArray, List.set_cons_zero, List.set_cons_succ, i64_w, i32_w]
                   rfl
                  refine pure_ (i := 17) (N := some 95) (v := ?_) (a' := ?_) #[true, true, true, true, true, true, true, true, true, true, true, true, true, true, false, true, true, true, false, false, false, false] rfl rfl (any_of HT_.out (by kernel_rfl)) (fun _ _ _ h => h) (Or.inl ⟨by rfl, ?_⟩) ?_ ?_
                  rotate_left
                  ·
                   intro w'
                   go_simp
                   with_reducible rfl
                  rotate_left
                  ·
                   simp only [Act.put, List.setIfInBounds_toArray, List.set_cons_zero, List.set_cons_succ, i64_w, i32_w]
                   rfl
                  refine take_ (i := 14) (N := some 92) (v := ?_) (a' := ?_) #[true, true, true, true, true, true, true, true, true, true, true, true, true, true, true, true, true, true, false, false, false, false] rfl rfl (take_ofW HT_.out HW_.out (by kernel_rfl)) (fun _ _ _ h => h) (Or.inl ⟨by rfl, ?_⟩) hHeld ?_ ?_
                  rotate_left
                  ·
                   rintro w' ⟨s0, s1, s2, s3⟩
                   go_simp
                   with_reducible rfl
                  rotate_left
                  ·
                   simp only [Act.put, List.setIfInBounds_toArray, List.set_cons_zero, List.set_cons_succ, i64_w, i32_w]
                   rfl
                  refine take_ (i := 18) (N := some 96) (v := ?_) (a' := ?_) #[true, true, true, true, true, true, true, true, true, true, true, true, true, true, true, true, true, true, true, false, false, false] rfl rfl (take_ofW HT_.out HW_.out (by kernel_rfl)) (fun _ _ _ h => h) (Or.inl ⟨by rfl, ?_⟩) hHeld ?_ ?_
                  rotate_left
                  ·
                   rintro w' ⟨s0, s1, s2, s3⟩
                   go_simp
                   with_reducible rfl
                  rotate_left
                  ·
                   simp only [Act.put, List.setIfInBounds_toArray, List.set_cons_zero, List.set_cons_succ, i64_w, i32_w]
                   rfl
                  refine pure_ (i := 19) (N := some 97) (v := ?_) (a' := ?_) #[true, true, true, true, true, true, true, true, true, true, true, true, true, true, true, true, true, true, true, true, false, false] rfl rfl (any_of HT_.out (by kernel_rfl)) (fun _ _ _ h => h) (Or.inl ⟨by rfl, ?_⟩) ?_ ?_
                  rotate_left
                  ·
                   intro w'
                   go_simp
                   with_reducible rfl
                  rotate_left
                  ·
                   simp only [Act.put, List.setIfInBounds_toArray, List.set_cons_zero, List.set_cons_succ, i64_w, i32_w]
                   rfl
                  refine pure_ (i := 20) (N := some 98) (v := ?_) (a' := ?_) #[true, true, true, true, true, true, true, true, true, true, true, true, true, true, true, true, true, true, true, true, true, false] rfl rfl (any_of HT_.out (by kernel_rfl)) (fun _ _ _ h => h) (Or.inl ⟨by rfl, ?_⟩) ?_ ?_
                  rotate_left
                  ·
                   intro w'
                   go_simp
                   with_reducible rfl
                  rotate_left
                  ·
                   simp only [Act.put, List.setIfInBounds_toArray, List.set_cons_zero, List.set_cons_succ, i64_w, i32_w]
                   rfl
                  refine pure_ (i := 21) (N := some 99) (v := ?_) (a' := ?_) #[true, true, true, true, true, true, true, true, true, true, true, true, true, true, true, true, true, true, true, true, true, true] rfl rfl (any_of HT_.out (by kernel_rfl)) (fun _ _ _ h => h) (Or.inl ⟨by rfl, ?_⟩) ?_ ?_
                  rotate_left
                  ·
                   intro w'
                   go_simp
                   with_reducible rfl
                  rotate_left
                  ·
                   simp only [Act.put, List.setIfInBounds_toArray, List.set_cons_zero, List.set_cons_succ, i64_w, i32_w]
                   rfl
                  refine done_ (done_of HT_.out (by kernel_rfl)) ?_
                  try go_wp2
                  have n0_ := Aside0.mk (Kd.R_drew HO_13.out)
                  have n1_ := Aside0.mk (blk_drew BK101.out)
                  have n2_ := Aside0.mk (below_drew1 HB.out)
                  clear HO_13
                  clear BK101
                  clear HB
                  have HO_13 := n0_
                  have BK101 := n1_
                  have HB := n2_
                  clear n0_ n1_ n2_
                  have p119 : 0 ≤ (x14_4 : Int) := of_decide_eq_true (by assumption)
                  have q119 : x14_4 < (l1.length : Int) := of_decide_eq_true (by assumption)
                  obtain ⟨ad119, e119, hx119_0⟩ := Kd.at_int HR1.out x14_4 p119 q119
                  have hw119_0 := hx119_0
                  obtain rfl : ad113 = ad119 := (by injection e119)
                  replace hx119_0 := (HB.out.cell (World.block_lt_of_cell? w _ hx119_0)).trans hx119_0
                  replace p119 := eq_true p119
                  replace q119 := eq_true q119
                  have p120 : 0 ≤ (x14_4 : Int) := of_decide_eq_true (by assumption)
                  have q120 : x14_4 < (l2.length : Int) := of_decide_eq_true (by assumption)
                  obtain ⟨ad120, e120, hx120_0⟩ := Kd.at_int HR2.out x14_4 p120 q120
                  have hw120_0 := hx120_0
                  obtain rfl : ad114 = ad120 := (by injection e120)
                  replace hx120_0 := (HB.out.cell (World.block_lt_of_cell? w _ hx120_0)).trans hx120_0
                  replace p120 := eq_true p120
                  replace q120 := eq_true q120
                  refine start_ (n := 13) (S := fun w' => w'.cell? (ad113.add (x14_4).toNat) = some (.int .i64 (rd l1 x14_4)) ∧ w'.cell? (ad114.add (x14_4).toNat) = some (.int .i64 (rd l2 x14_4))) (ds := []) #[false, false, false, false, false, false, false, false, false, false, false, false, false] (by kernel_rfl) rfl rfl ⟨((HB.out.cell (World.block_lt_of_cell? w _ hw119_0)).trans hw119_0), ((HB.out.cell (World.block_lt_of_cell? w _ hw120_0)).trans hw120_0)⟩ (fun hHeld => ?_); refine with_tabW verditerlaw04_strikeBalances.tab16 verditerlaw04_strikeBalances.bits16 (fun HT_ HW_ => ?_)
                  generalize w51.drew = w52 at HO_13 BK101 HB hx119_0 hx120_0 hHeld ⊢
                  refine pure_ (i := 0) (N := some 101) (v := ?_) (a' := ?_) #[true, false, false, false, false, false, false, false, false, false, false, false, false] rfl rfl (any_of HT_.out (by kernel_rfl)) (fun _ _ _ h => h) (Or.inl ⟨by rfl, ?_⟩) ?_ ?_
                  rotate_left
                  ·
                   intro w'
                   go_simp
                   with_reducible rfl
                  rotate_left
                  ·
                   simp only [Act.put, List.setIfInBounds_toArray, List.set_cons_zero, List.set_cons_succ, i64_w, i32_w]
                   rfl
                  refine pure_ (i := 1) (N := some 102) (v := ?_) (a' := ?_) #[true, true, false, false, false, false, false, false, false, false, false, false, false] rfl rfl (any_of HT_.out (by kernel_rfl)) (fun _ _ _ h => h) (Or.inl ⟨by rfl, ?_⟩) ?_ ?_
                  rotate_left
                  ·
                   intro w'
                   go_simp
                   with_reducible rfl
                  rotate_left
                  ·
                   simp only [Act.put, List.setIfInBounds_toArray, List.set_cons_zero, List.set_cons_succ, i64_w, i32_w]
                   rfl
                  refine pure_ (i := 2) (N := some 103) (v := ?_) (a' := ?_) #[true, true, true, false, false, false, false, false, false, false, false, false, false] rfl rfl (any_of HT_.out (by kernel_rfl)) (fun _ _ _ h => h) (Or.inl ⟨by rfl, ?_⟩) ?_ ?_
                  rotate_left
                  ·
                   intro w'
                   go_simp
                   with_reducible rfl
                  rotate_left
                  ·
                   simp only [Act.put, List.setIfInBounds_toArray, List.set_cons_zero, List.set_cons_succ, i64_w, i32_w]
                   rfl
                  refine pure_ (i := 3) (N := some 104) (v := ?_) (a' := ?_) #[true, true, true, true, false, false, false, false, false, false, false, false, false] rfl rfl (any_of HT_.out (by kernel_rfl)) (fun _ _ _ h => h) (Or.inl ⟨by rfl, ?_⟩) ?_ ?_
                  rotate_left
                  ·
                   intro w'
                   go_simp
                   with_reducible rfl
                  rotate_left
                  ·
                   simp only [Act.put, List.setIfInBounds_toArray, List.set_cons_zero, List.set_cons_succ, i64_w, i32_w]
                   rfl
                  refine pure_ (i := 5) (N := some 106) (v := ?_) (a' := ?_) #[true, true, true, true, false, true, false, false, false, false, false, false, false] rfl rfl (any_of HT_.out (by kernel_rfl)) (fun _ _ _ h => h) (Or.inl ⟨by rfl, ?_⟩) ?_ ?_
                  rotate_left
                  ·
                   intro w'
                   go_simp
                   with_reducible rfl
                  rotate_left
                  ·
                   simp only [Act.put, List.setIfInBounds_toArray, List.set_cons_zero, List.set_cons_succ, i64_w, i32_w]
                   rfl
                  refine pure_ (i := 6) (N := some 107) (v := ?_) (a' := ?_) #[true, true, true, true, false, true, true, false, false, false, false, false, false] rfl rfl (any_of HT_.out (by kernel_rfl)) (fun _ _ _ h => h) (Or.inl ⟨by rfl, ?_⟩) ?_ ?_
                  rotate_left
                  ·
                   intro w'
                   go_simp
                   with_reducible rfl
                  rotate_left
                  ·
                   simp only [Act.put, List.setIfInBounds_toArray, List.set_cons_zero, List.set_cons_succ, i64_w, i32_w]
                   rfl
                  refine pure_ (i := 7) (N := some 108) (v := ?_) (a' := ?_) #[true, true, true, true, false, true, true, true, false, false, false, false, false] rfl rfl (any_of HT_.out (by kernel_rfl)) (fun _ _ _ h => h) (Or.inl ⟨by rfl, ?_⟩) ?_ ?_
                  rotate_left
                  ·
                   intro w'
                   go_simp
                   with_reducible rfl
                  rotate_left
                  ·
                   simp only [Act.put, List.setIfInBounds_toArray, List.set_cons_zero, List.set_cons_succ, i64_w, i32_w]
                   rfl
                  refine take_ (i := 4) (N := some 105) (v := ?_) (a' := ?_) #[true, true, true, true, true, true, true, true, false, false, false, false, false] rfl rfl (take_ofW HT_.out HW_.out (by kernel_rfl)) (fun _ _ _ h => h) (Or.inl ⟨by rfl, ?_⟩) hHeld ?_ ?_
                  rotate_left
                  ·
                   rintro w' ⟨s0, s1⟩
                   go_simp
                   with_reducible rfl
                  rotate_left
                  ·
                   simp only [Act.put, List.setIfInBounds_toArray, List.set_cons_zero, List.set_cons_succ, i64_w, i32_w]
                   rfl
                  refine take_ (i := 8) (N := some 109) (v := ?_) (a' := ?_) #[true, true, true, true, true, true, true, true, true, false, false, false, false] rfl rfl (take_ofW HT_.out HW_.out (by kernel_rfl)) (fun _ _ _ h => h) (Or.inl ⟨by rfl, ?_⟩) hHeld ?_ ?_
                  rotate_left
                  ·
                   rintro w' ⟨s0, s1⟩
                   go_simp
                   with_reducible rfl
                  rotate_left
                  ·
                   simp only [Act.put, List.setIfInBounds_toArray, List.set_cons_zero, List.set_cons_succ, i64_w, i32_w]
                   rfl
                  refine pure_ (i := 9) (N := some 110) (v := ?_) (a' := ?_) #[true, true, true, true, true, true, true, true, true, true, false, false, false] rfl rfl (any_of HT_.out (by kernel_rfl)) (fun _ _ _ h => h) (Or.inl ⟨by rfl, ?_⟩) ?_ ?_
                  rotate_left
                  ·
                   intro w'
                   go_simp
                   with_reducible rfl
                  rotate_left
                  ·
                   simp only [Act.put, List.setIfInBounds_toArray, List.set_cons_zero, List.set_cons_succ, i64_w, i32_w]
                   rfl
                  refine one_ (i := 10) (N := some 111) #[true, true, true, true, true, true, true, true, true, true, true, false, false] rfl rfl (one_of HT_.out (by kernel_rfl)) (by decide) (fun K hK => ?_)
                  refine value_ (w1 := ?_) (v := ?_) (by rfl) rfl ?_ ?_
                  rotate_left 2
                  ·
                   go_simp
                   constructor
                   ·
                    rfl
                   ·
                    rfl
                  refine hK.out _ _ ⟨(World.cell?_alloc_lt _ _ _ (World.block_lt_of_cell? _ _ (((HB.out.cell (World.block_lt_of_cell? w _ hw119_0)).trans hw119_0)))).trans (((HB.out.cell (World.block_lt_of_cell? w _ hw119_0)).trans hw119_0)), (World.cell?_alloc_lt _ _ _ (World.block_lt_of_cell? _ _ (((HB.out.cell (World.block_lt_of_cell? w _ hw120_0)).trans hw120_0)))).trans (((HB.out.cell (World.block_lt_of_cell? w _ hw120_0)).trans hw120_0))⟩ (fun hHeld => ?_)
                  clear hK K
                  refine norm_ (a' := ?_) ?_ ?_
                  rotate_left
                  ·
                   show Act.put _ (some 111) _ = _
                   simp only [Act.put, List.setIfInBounds_toArray, List.set_cons_zero, List.set_cons_succ, i64_w, i32_w]
                   rfl
                  refine one_ (i := 11) (N := some 112) #[true, true, true, true, true, true, true, true, true, true, true, true, false] rfl rfl (one_of HT_.out (by kernel_rfl)) (by decide) (fun K hK => ?_)
                  refine Kd.R_append_step (Kd.int .i64) (w0 := w) w.heap.size (by rfl) (.tmp 101) (.tmp 111) 28 3 (.int .i64 0) 8 rfl Try.underlying28 info3 rfl (by decide) (by omega) u13 x13_4 (wrap64 ((rd l1 x14_4) + (rd l2 x14_4))) [.int .i64 (wrap64 ((rd l1 x14_4) + (rd l2 x14_4)))] (fun _ => True) (fun _ => False) rfl rfl ?aP (fun _ hk => hk.elim) ?aF ?aO ?aB ?aS ?aL ?_
                  (case aP => exact rfl)
                  (case aB => exact bB)
                  (case aF => exact (fun _ _ => trivial))
                  (case aO => exact HO_13.out)
                  (case aS => exact (below_size bB))
                  (case aL => have := LMc50.out; omega)
                  intro v122 w53 ho hb hg hat
                  rw [← Ny121.out] at ho
                  have n0_ := Aside0.mk (blk_grown (g := gb101) (o := .cells #[.slice A0_0 l0_0.length c0_0, .slice A0_1 l0_1.length c0_1] 24 (0, 0)) (by (with_reducible repeat (first | refine blk_drewN ?_ _ | refine blk_drew ?_ | refine blk_alloc ?_ _)); exact BK101.out) hg (Kd.R_ne HO_13.out BK101.out (by decide)))
                  have n1_ := Aside0.mk (hb)
                  have n2_ := Aside0.mk (ho)
                  clear BK101
                  clear HB
                  clear HO_13
                  have BK101 := n0_
                  have HB := n1_
                  have HO123 := n2_
                  clear n0_ n1_ n2_
                  clear ho hb hg hat
                  refine hK.out _ _ ⟨((HB.out.cell (World.block_lt_of_cell? w _ hw119_0)).trans hw119_0), ((HB.out.cell (World.block_lt_of_cell? w _ hw120_0)).trans hw120_0)⟩ (fun hHeld => ?_)
                  clear hK K
                  refine norm_ (a' := ?_) ?_ ?_
                  rotate_left
                  ·
                   show Act.put _ (some 112) _ = _
                   simp only [Act.put, List.setIfInBounds_toArray, List.set_cons_zero, List.set_cons_succ, i64_w, i32_w]
                   rfl
                  refine pure_ (i := 12) (N := some 13) (v := ?_) (a' := ?_) #[true, true, true, true, true, true, true, true, true, true, true, true, true] rfl rfl (any_of HT_.out (by kernel_rfl)) (fun _ _ _ h => h) (Or.inl ⟨by rfl, ?_⟩) ?_ ?_
                  rotate_left
                  ·
                   intro w'
                   go_simp
                   with_reducible rfl
                  rotate_left
                  ·
                   simp only [Act.put, List.setIfInBounds_toArray, List.set_cons_zero, List.set_cons_succ, i64_w, i32_w]
                   rfl
                  refine done_ (done_of HT_.out (by kernel_rfl)) ?_
                  try go_wp2
                  go_roundg k4
                  case measure => have := HJ3.out; have := HJ21.out; have := HJ29.out; have := HK4.out; omega
                  case rel => exact ⟨(y121), (wrap64 (x14_4 + 1)), (by first | rfl | (simp; done) | (simp [*]; done)), H', ⟨by have := HJ3.out; have := HJ21.out; have := HJ29.out; have := HK4.out; omega⟩, ⟨by (with_reducible repeat (first | apply Kd.R_alloc | apply Kd.R_drewN | apply Kd.R_drew)); exact HO123.out⟩, ⟨by (with_reducible repeat (first | refine blk_drewN ?_ _ | refine blk_drew ?_ | refine blk_alloc ?_ _)); exact BK101.out⟩, ⟨bB⟩⟩
                 ·
                  rw [if_neg c50] at H
                  exact absurd H (by simp)
              ·
               rw [if_neg c41] at H
               exact absurd H (by simp)
             ·
              rw [if_neg c40] at H
              exact absurd H (by simp)
            ·
             rw [if_neg c39] at H
             have c39b0 : decide (x14_4 < (l1.length : Int)) = false := decide_eq_false c39
             clear c39
             replace H := Option.bind_eq_some_iff.mp H
             obtain ⟨⟨t124, t125⟩, A540, H⟩ := H
             replace H : (if t125 = 0 then (if t124 = true then ((verditerlaw04_known.f k4).bind fun t126 => (some t126)) else (some false)) else (some false)) = some r := H
             have A54 := Aside0.mk A540
             clear A540
             by_cases c55 : t125 = 0
             ·
              rw [if_pos c55] at H
              have c55b0 : (t125 == 0) = true := beq_iff_eq.mpr c55
              have c55b1 : (t125 != 0) = false := bne_eq_false_iff_eq.mpr c55
              clear c55
              by_cases c56 : t124 = true
              ·
               subst c56
               have H1 : ((verditerlaw04_known.f k4).bind fun t126 => (some t126)) = some r := by rw [if_pos rfl] at H; exact H
               clear H
               have H := H1
               clear H1
               replace H := Option.bind_eq_some_iff.mp H
               obtain ⟨t126, A570, H⟩ := H
               replace H : (some t126) = some r := H
               have A57 := Aside0.mk A570
               clear A570
               obtain rfl := Option.some.inj H
               have hcz58_0 : wr.cell? ⟨gb101, 0, none⟩ = some (.slice A0_0 l0_0.length c0_0) := (blk_cell BK101.out 0).trans rfl
               have hcz58_1 : wr.cell? ⟨gb101, 1, none⟩ = some (.slice A0_1 l0_1.length c0_1) := (blk_cell BK101.out 1).trans rfl
               have hfz58_0 := blk_frozen BK101.out 0
               have hfz58_1 := blk_frozen BK101.out 1
               obtain ⟨Ao59, co59, eo59⟩ := Kd.R_slice HO_13.out
               subst eo59
               go_wp2_with (first | ((with_reducible refine gate_callee (f := 53) rfl ?_); refine goesL_ (some 116) rfl rfl Try.func53 (by kernel_rfl) rfl #[.agg #[.slice A0_0 l0_0.length c0_0, .slice A0_1 l0_1.length c0_1], .slice Ao59 x13_4.length co59] rfl hA ?_; (with_reducible refine (strike_Balances.calls k4 _ _ l0_0 _ _ l0_1 _ _ x13_4 true t125 _ ?side1 ?side2 ?side3 ?side4 ?side5 ?side6 A54.out).mono ?_); (case side1 => exact (Kd.C_below HR0_0.out HB.out)); (case side2 => exact HC0_0.out); (case side3 => exact (Kd.C_below HR0_1.out HB.out)); (case side4 => exact HC0_1.out); (case side5 => exact (Kd.R_reads' HO_13.out).2.2); (case side6 => exact (Kd.R_reads' HO_13.out).2.1); rintro e w60 ⟨rfl, hb⟩; refine ⟨_, rfl, ?_⟩; have n0_ := Aside0.mk (Kd.R_below HO_13.out hb); have n1_ := Aside0.mk (blk_below BK101.out hb); have n2_ := Aside0.mk (below_step bB hb); clear HO_13; clear BK101; clear HB; have HO_13 := n0_; have BK101 := n1_; have HB := n2_; clear n0_ n1_ n2_; (try clear hb); (try clear hb2); (try clear hk); (try clear hi)) | (go_at_call 50; (with_reducible refine (verditerlaw04_known.calls k4  t126 _ A57.out).mono ?_); rintro e w61 ⟨rfl, hb⟩; have n0_ := Aside0.mk (Kd.R_below HO_13.out hb); have n1_ := Aside0.mk (blk_below BK101.out hb); have n2_ := Aside0.mk (below_step bB hb); clear HO_13; clear BK101; clear HB; have HO_13 := n0_; have BK101 := n1_; have HB := n2_; clear n0_ n1_ n2_; (try clear hb); (try clear hb2); (try clear hk); (try clear hi)))
               go_ret
               exact ⟨by first | rfl | (simp [errW_none, errW_some] <;> rfl) | (simp [*, errW_none, errW_some] <;> rfl), bB⟩
              ·
               replace c56 := Bool.eq_false_iff.mpr c56
               subst c56
               have H1 : (some false) = some r := by rw [if_neg (show ¬ (false = true) by decide)] at H; exact H
               clear H
               have H := H1
               clear H1
               obtain rfl := Option.some.inj H
               have hcz62_0 : wr.cell? ⟨gb101, 0, none⟩ = some (.slice A0_0 l0_0.length c0_0) := (blk_cell BK101.out 0).trans rfl
               have hcz62_1 : wr.cell? ⟨gb101, 1, none⟩ = some (.slice A0_1 l0_1.length c0_1) := (blk_cell BK101.out 1).trans rfl
               have hfz62_0 := blk_frozen BK101.out 0
               have hfz62_1 := blk_frozen BK101.out 1
               obtain ⟨Ao63, co63, eo63⟩ := Kd.R_slice HO_13.out
               subst eo63
               go_wp2_with (first | ((with_reducible refine gate_callee (f := 53) rfl ?_); refine goesL_ (some 116) rfl rfl Try.func53 (by kernel_rfl) rfl #[.agg #[.slice A0_0 l0_0.length c0_0, .slice A0_1 l0_1.length c0_1], .slice Ao63 x13_4.length co63] rfl hA ?_; (with_reducible refine (strike_Balances.calls k4 _ _ l0_0 _ _ l0_1 _ _ x13_4 false t125 _ ?side1 ?side2 ?side3 ?side4 ?side5 ?side6 A54.out).mono ?_); (case side1 => exact (Kd.C_below HR0_0.out HB.out)); (case side2 => exact HC0_0.out); (case side3 => exact (Kd.C_below HR0_1.out HB.out)); (case side4 => exact HC0_1.out); (case side5 => exact (Kd.R_reads' HO_13.out).2.2); (case side6 => exact (Kd.R_reads' HO_13.out).2.1); rintro e w64 ⟨rfl, hb⟩; refine ⟨_, rfl, ?_⟩; have n0_ := Aside0.mk (Kd.R_below HO_13.out hb); have n1_ := Aside0.mk (blk_below BK101.out hb); have n2_ := Aside0.mk (below_step bB hb); clear HO_13; clear BK101; clear HB; have HO_13 := n0_; have BK101 := n1_; have HB := n2_; clear n0_ n1_ n2_; (try clear hb); (try clear hb2); (try clear hk); (try clear hi)))
               go_ret
               exact ⟨by first | rfl | (simp [errW_none, errW_some] <;> rfl) | (simp [*, errW_none, errW_some] <;> rfl), bB⟩
             ·
              rw [if_neg c55] at H
              have c55b0 : (t125 == 0) = false := beq_eq_false_iff_ne.mpr c55
              have c55b1 : (t125 != 0) = true := bne_iff_ne.mpr c55
              obtain rfl := Option.some.inj H
              have hcz65_0 : wr.cell? ⟨gb101, 0, none⟩ = some (.slice A0_0 l0_0.length c0_0) := (blk_cell BK101.out 0).trans rfl
              have hcz65_1 : wr.cell? ⟨gb101, 1, none⟩ = some (.slice A0_1 l0_1.length c0_1) := (blk_cell BK101.out 1).trans rfl
              have hfz65_0 := blk_frozen BK101.out 0
              have hfz65_1 := blk_frozen BK101.out 1
              obtain ⟨Ao66, co66, eo66⟩ := Kd.R_slice HO_13.out
              subst eo66
              go_wp2_with (first | ((with_reducible refine gate_callee (f := 53) rfl ?_); refine goesL_ (some 116) rfl rfl Try.func53 (by kernel_rfl) rfl #[.agg #[.slice A0_0 l0_0.length c0_0, .slice A0_1 l0_1.length c0_1], .slice Ao66 x13_4.length co66] rfl hA ?_; (with_reducible refine (strike_Balances.calls k4 _ _ l0_0 _ _ l0_1 _ _ x13_4 t124 t125 _ ?side1 ?side2 ?side3 ?side4 ?side5 ?side6 A54.out).mono ?_); (case side1 => exact (Kd.C_below HR0_0.out HB.out)); (case side2 => exact HC0_0.out); (case side3 => exact (Kd.C_below HR0_1.out HB.out)); (case side4 => exact HC0_1.out); (case side5 => exact (Kd.R_reads' HO_13.out).2.2); (case side6 => exact (Kd.R_reads' HO_13.out).2.1); rintro e w67 ⟨rfl, hb⟩; refine ⟨_, rfl, ?_⟩; have n0_ := Aside0.mk (Kd.R_below HO_13.out hb); have n1_ := Aside0.mk (blk_below BK101.out hb); have n2_ := Aside0.mk (below_step bB hb); clear HO_13; clear BK101; clear HB; have HO_13 := n0_; have BK101 := n1_; have HB := n2_; clear n0_ n1_ n2_; (try clear hb); (try clear hb2); (try clear hk); (try clear hi)))
              go_ret
              exact ⟨by first | rfl | (simp [errW_none, errW_some] <;> rfl) | (simp [*, errW_none, errW_some] <;> rfl), bB⟩

end Go.Proofs.Ytdneelgnmnpanaa.P
