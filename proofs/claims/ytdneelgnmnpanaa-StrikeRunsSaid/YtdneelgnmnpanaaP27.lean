/- Ytdneelgnmnpanaa: functions of the translation as Lean functions, with their contracts; written by a program of the session. -/
import Derived.Test.YtdneelgnmnpanaaP0
import Derived.Test.YtdneelgnmnpanaaP47
import Derived.Test.YtdneelgnmnpanaaP50
import Derived.Test.YtdneelgnmnpanaaP58
import Derived.Test.YtdneelgnmnpanaaPa
import Derived.Test.YtdneelgnmnpanaaPs
namespace Go.Proofs.Ytdneelgnmnpanaa.P
open Go.RowKit Go.Proofs.YtdneelgnmnpanaaW.PrintWords Go.Proofs.YtdneelgnmnpanaaW.PrintLast Go.Proofs.YtdneelgnmnpanaaW.PrintMore
attribute [local go_sem] max2_int min2_int max_two min_two max_three min_three max_four min_four   -- for this text's walks alone
set_option linter.unusedVariables false
set_option linter.unusedSimpArgs false

/-! ### verditerlaw04_strikeRuns: function 27 -/
mutual
def verditerlaw04_strikeRuns.j0 : Nat → Bool → List (List Int) → List (List Int) → List Int → List Int → Int → Option (Bool)
 | 0, _, _, _, _, _, _ => none
 | k + 1, x25, x102000, x102001, x103000, x103001, x103002 => if x25 = true then ((verditerlaw04_known.f k).bind fun t106 => (some t106)) else ((verditerref04_Run.f k x102000 x102001 x103000 x103001 x103002).bind fun bt107 => ((strike_Run.f k x102000 x102001 x103000 x103001 x103002).bind fun bt114 => (if bt114.2.2 = bt107.2.2 then ((verditerref04_SameInts.f k bt114.1 bt107.1).bind fun t121 => (if t121 = true then ((verditerref04_SameInts.f k bt114.2.1 bt107.2.1).bind fun t122 => (verditerlaw04_strikeRuns.j1 k bt114.2.2 (!t122) x102000 x102001 x103000 x103001 x103002)) else (verditerlaw04_strikeRuns.j1 k bt114.2.2 true x102000 x102001 x103000 x103001 x103002))) else (verditerlaw04_strikeRuns.j1 k bt114.2.2 true x102000 x102001 x103000 x103001 x103002))))
def verditerlaw04_strikeRuns.j1 : Nat → Int → Bool → List (List Int) → List (List Int) → List Int → List Int → Int → Option (Bool)
 | 0, _, _, _, _, _, _, _ => none
 | k + 1, x10, x65, x102000, x102001, x103000, x103001, x103002 => if x65 = true then (some false) else ((strike_Limit.f k x102000 x102001 x103000 x103001).bind fun bt123 => (if bt123.2.2 = 0 then (if x103002 < 0 then (verditerlaw04_strikeRuns.j2 k x10 bt123.1 true x103000 x103001 x103002) else (verditerlaw04_strikeRuns.j2 k x10 bt123.1 (decide (x103002 > 1000)) x103000 x103001 x103002)) else (verditerlaw04_strikeRuns.j2 k x10 bt123.1 true x103000 x103001 x103002)))
def verditerlaw04_strikeRuns.j2 : Nat → Int → Int → Bool → List Int → List Int → Int → Option (Bool)
 | 0, _, _, _, _, _, _ => none
 | k + 1, x10, x11, x87, x103000, x103001, x103002 => if x87 = true then ((verditerlaw04_known.f k).bind fun t128 => (some t128)) else (if ((x10 == 0) == (decide (x103002 ≤ x11))) = true then ((verditerlaw04_known.f k).bind fun t129 => (some t129)) else (some false))
end
def verditerlaw04_strikeRuns.f (k : Nat) (l0_0 : List (List Int)) (l0_1 : List (List Int)) (l1_0 : List Int) (l1_1 : List Int) (a1_2 : Int) : Option (Bool) := (verditerlaw04_Long.f k l0_0 l0_1).bind fun t103 => (if t103 = true then (verditerlaw04_strikeRuns.j0 k true l0_0 l0_1 l1_0 l1_1 a1_2) else ((verditerlaw04_many.f l1_0).bind fun t104 => (if t104 = true then (verditerlaw04_strikeRuns.j0 k true l0_0 l0_1 l1_0 l1_1 a1_2) else ((verditerlaw04_many.f l1_1).bind fun t105 => (verditerlaw04_strikeRuns.j0 k t105 l0_0 l0_1 l1_0 l1_1 a1_2)))))
set_option maxHeartbeats 8000000 in
set_option maxRecDepth 100000 in
theorem verditerlaw04_strikeRuns.calls (k : Nat) (A0_0 : Option Addr) (c0_0 : Nat) (l0_0 : List (List Int)) (A0_1 : Option Addr) (c0_1 : Nat) (l0_1 : List (List Int)) (A1_0 : Option Addr) (c1_0 : Nat) (l1_0 : List Int) (A1_1 : Option Addr) (c1_1 : Nat) (l1_1 : List Int) (a1_2 : Int) (r : Bool) (w : World) (hr0_0 : Kd.C (Kd.slice 3 (Kd.int .i64)) w A0_0 l0_0.length l0_0) (hc0_0 : l0_0.length ≤ c0_0) (hr0_1 : Kd.C (Kd.slice 3 (Kd.int .i64)) w A0_1 l0_1.length l0_1) (hc0_1 : l0_1.length ≤ c0_1) (hr1_0 : Kd.C (Kd.int .i64) w A1_0 l1_0.length l1_0) (hc1_0 : l1_0.length ≤ c1_0) (hr1_1 : Kd.C (Kd.int .i64) w A1_1 l1_1.length l1_1) (hc1_1 : l1_1.length ≤ c1_1) (h : verditerlaw04_strikeRuns.f k l0_0 l0_1 l1_0 l1_1 a1_2 = some r) :
  Calls Try.prog 27 #[.agg #[.slice A0_0 l0_0.length c0_0, .slice A0_1 l0_1.length c0_1], .agg #[.slice A1_0 l1_0.length c1_0, .slice A1_1 l1_1.length c1_1, .int .i64 a1_2]] w fun e w' => e = .returned (.bool r) ∧ Below w.heap.size w w' := by
 have hu24 := Try.underlying24
 have hu30 := Try.underlying30
 have HR0_0 := Aside0.mk hr0_0
 have HC0_0 := Aside0.mk hc0_0
 clear hr0_0 hc0_0
 have HR0_1 := Aside0.mk hr0_1
 have HC0_1 := Aside0.mk hc0_1
 clear hr0_1 hc0_1
 have HR1_0 := Aside0.mk hr1_0
 have HC1_0 := Aside0.mk hc1_0
 clear hr1_0 hc1_0
 have HR1_1 := Aside0.mk hr1_1
 have HC1_1 := Aside0.mk hc1_1
 clear hr1_1 hc1_1
 have HB := Aside0.mk (Below.refl w.heap.size w)
 have H : ((verditerlaw04_Long.f k l0_0 l0_1).bind fun t103 => (if t103 = true then (verditerlaw04_strikeRuns.j0 k true l0_0 l0_1 l1_0 l1_1 a1_2) else ((verditerlaw04_many.f l1_0).bind fun t104 => (if t104 = true then (verditerlaw04_strikeRuns.j0 k true l0_0 l0_1 l1_0 l1_1 a1_2) else ((verditerlaw04_many.f l1_1).bind fun t105 => (verditerlaw04_strikeRuns.j0 k t105 l0_0 l0_1 l1_0 l1_1 a1_2)))))) = some r := h
 clear h
 have HC3 := Aside0.mk H
 clear H
 go_enter Try.func27, Try.ntmps27
 go_upto_region 1 with (first | ((with_reducible refine gate_dst (N := 2) rfl ?_); refine box_event ?hg (N := 2) ?hd (cs := #[.slice A0_0 l0_0.length c0_0, .slice A0_1 l0_1.length c0_1]) (t := 24) ?hr ?_; (case hd => rfl); (case hg => rfl); (case hr => first | (go_simp; done) | (go_simp; rfl)); intro gb101 hg w4 hbox hb; have n0_ := Aside0.mk (below_step bB hb); have n1_ := Aside0.mk (hbox); have n2_ := Aside0.mk ((by rw [hg]; exact (below_size bB) : w.heap.size ≤ gb101)); have n3_ := Aside0.mk ((by rw [hg]; exact (below_size bB) : w.heap.size ≤ gb101)); clear HB; have HB := n0_; have BK101 := n1_; have GW101 := n2_; have GE101 := n3_; clear n0_ n1_ n2_ n3_; clear hb hbox hg) | ((with_reducible refine gate_dst (N := 3) rfl ?_); refine box_event ?hg (N := 3) ?hd (cs := #[.slice A1_0 l1_0.length c1_0, .slice A1_1 l1_1.length c1_1, .int .i64 a1_2]) (t := 30) ?hr ?_; (case hd => rfl); (case hg => rfl); (case hr => first | (go_simp; done) | (go_simp; rfl)); intro gb102 hg w5 hbox hb; have n0_ := Aside0.mk (blk_below BK101.out hb); have n1_ := Aside0.mk (below_step bB hb); have n2_ := Aside0.mk (hbox); have n3_ := Aside0.mk ((by rw [hg]; exact (below_size bB) : w.heap.size ≤ gb102)); have n4_ := Aside0.mk ((by rw [hg]; exact (below_size bB) : w.heap.size ≤ gb102)); have n5_ := Aside0.mk ((by rw [hg]; exact Nat.ne_of_lt (blk_lt (g := gb101) (o := .cells #[.slice A0_0 l0_0.length c0_0, .slice A0_1 l0_1.length c0_1] 24 (0, 0)) (by (with_reducible repeat (first | refine blk_drewN ?_ _ | refine blk_drew ?_ | refine blk_alloc ?_ _)); exact BK101.out)) : gb101 ≠ gb102)); have n6_ := Aside0.mk ((by rw [hg]; exact Nat.ne_of_gt (blk_lt (g := gb101) (o := .cells #[.slice A0_0 l0_0.length c0_0, .slice A0_1 l0_1.length c0_1] 24 (0, 0)) (by (with_reducible repeat (first | refine blk_drewN ?_ _ | refine blk_drew ?_ | refine blk_alloc ?_ _)); exact BK101.out)) : gb102 ≠ gb101)); clear BK101; clear HB; have BK101 := n0_; have HB := n1_; have BK102 := n2_; have GW102 := n3_; have GE102 := n4_; have NB101_102 := n5_; have NB102_101 := n6_; clear n0_ n1_ n2_ n3_ n4_ n5_ n6_; clear hb hbox hg))
 (try simp only [Act.put, List.setIfInBounds_toArray, List.set_cons_zero, List.set_cons_succ])
 go_cut [25] (fun v25 wc => ∃ (kq : Nat) (x25_2 : Bool), v25 = .bool x25_2 ∧ Aside0 (verditerlaw04_strikeRuns.j0 kq x25_2 l0_0 l0_1 l1_0 l1_1 a1_2 = some r) ∧ Aside0 (kq ≤ k) ∧ Aside0 (wc.heap[gb101]? = some (.cells #[(.slice A0_0 l0_0.length c0_0), (.slice A0_1 l0_1.length c0_1)] 24 (0, 0))) ∧ Aside0 (wc.heap[gb102]? = some (.cells #[(.slice A1_0 l1_0.length c1_0), (.slice A1_1 l1_1.length c1_1), .int .i64 a1_2] 30 (0, 0))) ∧ Aside0 (Below w.heap.size w wc))
 case first =>
  have H := HC3.out
  clear HC3
  replace H := Option.bind_eq_some_iff.mp H
  obtain ⟨t103, A60, H⟩ := H
  replace H : (if t103 = true then (verditerlaw04_strikeRuns.j0 k true l0_0 l0_1 l1_0 l1_1 a1_2) else ((verditerlaw04_many.f l1_0).bind fun t104 => (if t104 = true then (verditerlaw04_strikeRuns.j0 k true l0_0 l0_1 l1_0 l1_1 a1_2) else ((verditerlaw04_many.f l1_1).bind fun t105 => (verditerlaw04_strikeRuns.j0 k t105 l0_0 l0_1 l1_0 l1_1 a1_2))))) = some r := H
  have A6 := Aside0.mk A60
  clear A60
  by_cases c7 : t103 = true
  ·
   subst c7
   have H1 : (verditerlaw04_strikeRuns.j0 k true l0_0 l0_1 l1_0 l1_1 a1_2) = some r := by rw [if_pos rfl] at H; exact H
   clear H
   have H := H1
   clear H1
   have H' := Aside0.mk H
   clear H
   have hnb8 := NB101_102.out
   have hnc8 := NB102_101.out
   have hcz9_0 : w5.cell? ⟨gb101, 0, none⟩ = some (.slice A0_0 l0_0.length c0_0) := (blk_cell BK101.out 0).trans rfl
   have hcz9_1 : w5.cell? ⟨gb101, 1, none⟩ = some (.slice A0_1 l0_1.length c0_1) := (blk_cell BK101.out 1).trans rfl
   have hfz9_0 := blk_frozen BK101.out 0
   have hfz9_1 := blk_frozen BK101.out 1
   go_wp2_with (first | ((with_reducible refine gate_callee (f := 36) rfl ?_); refine goesL_ (some 15) rfl rfl Try.func36 (by kernel_rfl) rfl #[.agg #[.slice A0_0 l0_0.length c0_0, .slice A0_1 l0_1.length c0_1]] rfl hA ?_; (with_reducible refine (verditerlaw04_Long.calls k _ _ l0_0 _ _ l0_1 true _ ?side1 ?side2 ?side3 ?side4 A6.out).mono ?_); (case side1 => exact (Kd.C_below HR0_0.out HB.out)); (case side2 => exact HC0_0.out); (case side3 => exact (Kd.C_below HR0_1.out HB.out)); (case side4 => exact HC0_1.out); rintro e w10 ⟨rfl, hb⟩; refine ⟨_, rfl, ?_⟩; have n0_ := Aside0.mk (blk_below BK101.out hb); have n1_ := Aside0.mk (blk_below BK102.out hb); have n2_ := Aside0.mk (below_step bB hb); clear BK101; clear BK102; clear HB; have BK101 := n0_; have BK102 := n1_; have HB := n2_; clear n0_ n1_ n2_; (try clear hb); (try clear hb2); (try clear hk); (try clear hi)))
   go_meet
   case rel => exact ⟨_, (true), (by first | rfl | (simp; done) | (simp [*]; done)), H', ⟨by first | omega | exact Nat.le_refl _⟩, ⟨by (with_reducible repeat (first | refine blk_drewN ?_ _ | refine blk_drew ?_ | refine blk_alloc ?_ _)); exact BK101.out⟩, ⟨by (with_reducible repeat (first | refine blk_drewN ?_ _ | refine blk_drew ?_ | refine blk_alloc ?_ _)); exact BK102.out⟩, ⟨bB⟩⟩
  ·
   replace c7 := Bool.eq_false_iff.mpr c7
   subst c7
   have H1 : ((verditerlaw04_many.f l1_0).bind fun t104 => (if t104 = true then (verditerlaw04_strikeRuns.j0 k true l0_0 l0_1 l1_0 l1_1 a1_2) else ((verditerlaw04_many.f l1_1).bind fun t105 => (verditerlaw04_strikeRuns.j0 k t105 l0_0 l0_1 l1_0 l1_1 a1_2)))) = some r := by rw [if_neg (show ¬ (false = true) by decide)] at H; exact H
   clear H
   have H := H1
   clear H1
   replace H := Option.bind_eq_some_iff.mp H
   obtain ⟨t104, A110, H⟩ := H
   replace H : (if t104 = true then (verditerlaw04_strikeRuns.j0 k true l0_0 l0_1 l1_0 l1_1 a1_2) else ((verditerlaw04_many.f l1_1).bind fun t105 => (verditerlaw04_strikeRuns.j0 k t105 l0_0 l0_1 l1_0 l1_1 a1_2))) = some r := H
   have A11 := Aside0.mk A110
   clear A110
   by_cases c12 : t104 = true
   ·
    subst c12
    have H1 : (verditerlaw04_strikeRuns.j0 k true l0_0 l0_1 l1_0 l1_1 a1_2) = some r := by rw [if_pos rfl] at H; exact H
    clear H
    have H := H1
    clear H1
    have H' := Aside0.mk H
    clear H
    have hnb13 := NB101_102.out
    have hnc13 := NB102_101.out
    have hcz14_0 : w5.cell? ⟨gb101, 0, none⟩ = some (.slice A0_0 l0_0.length c0_0) := (blk_cell BK101.out 0).trans rfl
    have hcz14_1 : w5.cell? ⟨gb101, 1, none⟩ = some (.slice A0_1 l0_1.length c0_1) := (blk_cell BK101.out 1).trans rfl
    have hfz14_0 := blk_frozen BK101.out 0
    have hfz14_1 := blk_frozen BK101.out 1
    go_wp2_with (first | ((with_reducible refine gate_callee (f := 36) rfl ?_); refine goesL_ (some 15) rfl rfl Try.func36 (by kernel_rfl) rfl #[.agg #[.slice A0_0 l0_0.length c0_0, .slice A0_1 l0_1.length c0_1]] rfl hA ?_; (with_reducible refine (verditerlaw04_Long.calls k _ _ l0_0 _ _ l0_1 false _ ?side1 ?side2 ?side3 ?side4 A6.out).mono ?_); (case side1 => exact (Kd.C_below HR0_0.out HB.out)); (case side2 => exact HC0_0.out); (case side3 => exact (Kd.C_below HR0_1.out HB.out)); (case side4 => exact HC0_1.out); rintro e w15 ⟨rfl, hb⟩; refine ⟨_, rfl, ?_⟩; have n0_ := Aside0.mk (blk_below BK101.out hb); have n1_ := Aside0.mk (blk_below BK102.out hb); have n2_ := Aside0.mk (below_step bB hb); clear BK101; clear BK102; clear HB; have BK101 := n0_; have BK102 := n1_; have HB := n2_; clear n0_ n1_ n2_; (try clear hb); (try clear hb2); (try clear hk); (try clear hi); have hcz16_0 : w15.cell? ⟨gb102, 0, none⟩ = some (.slice A1_0 l1_0.length c1_0) := (blk_cell BK102.out 0).trans rfl; have hcz16_1 : w15.cell? ⟨gb102, 1, none⟩ = some (.slice A1_1 l1_1.length c1_1) := (blk_cell BK102.out 1).trans rfl; have hcz16_2 : w15.cell? ⟨gb102, 2, none⟩ = some (.int .i64 a1_2) := (blk_cell BK102.out 2).trans rfl; have hfz16_0 := blk_frozen BK102.out 0; have hfz16_1 := blk_frozen BK102.out 1; have hfz16_2 := blk_frozen BK102.out 2) | (go_at_call 49; (with_reducible refine (verditerlaw04_many.calls _ _ l1_0 true _ ?side1 ?side2 A11.out).mono ?_); (case side1 => exact (Kd.C_below HR1_0.out HB.out)); (case side2 => exact HC1_0.out); rintro e w' ⟨rfl, ⟨nd, rfl⟩⟩))
    go_meet
    case rel => exact ⟨_, (true), (by first | rfl | (simp; done) | (simp [*]; done)), H', ⟨by first | omega | exact Nat.le_refl _⟩, ⟨by (with_reducible repeat (first | refine blk_drewN ?_ _ | refine blk_drew ?_ | refine blk_alloc ?_ _)); exact BK101.out⟩, ⟨by (with_reducible repeat (first | refine blk_drewN ?_ _ | refine blk_drew ?_ | refine blk_alloc ?_ _)); exact BK102.out⟩, ⟨bB⟩⟩
   ·
    replace c12 := Bool.eq_false_iff.mpr c12
    subst c12
    have H1 : ((verditerlaw04_many.f l1_1).bind fun t105 => (verditerlaw04_strikeRuns.j0 k t105 l0_0 l0_1 l1_0 l1_1 a1_2)) = some r := by rw [if_neg (show ¬ (false = true) by decide)] at H; exact H
    clear H
    have H := H1
    clear H1
    replace H := Option.bind_eq_some_iff.mp H
    obtain ⟨t105, A170, H⟩ := H
    replace H : (verditerlaw04_strikeRuns.j0 k t105 l0_0 l0_1 l1_0 l1_1 a1_2) = some r := H
    have A17 := Aside0.mk A170
    clear A170
    have H' := Aside0.mk H
    clear H
    have hnb18 := NB101_102.out
    have hnc18 := NB102_101.out
    have hcz19_0 : w5.cell? ⟨gb101, 0, none⟩ = some (.slice A0_0 l0_0.length c0_0) := (blk_cell BK101.out 0).trans rfl
    have hcz19_1 : w5.cell? ⟨gb101, 1, none⟩ = some (.slice A0_1 l0_1.length c0_1) := (blk_cell BK101.out 1).trans rfl
    have hfz19_0 := blk_frozen BK101.out 0
    have hfz19_1 := blk_frozen BK101.out 1
    go_wp2_with (first | ((with_reducible refine gate_callee (f := 36) rfl ?_); refine goesL_ (some 15) rfl rfl Try.func36 (by kernel_rfl) rfl #[.agg #[.slice A0_0 l0_0.length c0_0, .slice A0_1 l0_1.length c0_1]] rfl hA ?_; (with_reducible refine (verditerlaw04_Long.calls k _ _ l0_0 _ _ l0_1 false _ ?side1 ?side2 ?side3 ?side4 A6.out).mono ?_); (case side1 => exact (Kd.C_below HR0_0.out HB.out)); (case side2 => exact HC0_0.out); (case side3 => exact (Kd.C_below HR0_1.out HB.out)); (case side4 => exact HC0_1.out); rintro e w20 ⟨rfl, hb⟩; refine ⟨_, rfl, ?_⟩; have n0_ := Aside0.mk (blk_below BK101.out hb); have n1_ := Aside0.mk (blk_below BK102.out hb); have n2_ := Aside0.mk (below_step bB hb); clear BK101; clear BK102; clear HB; have BK101 := n0_; have BK102 := n1_; have HB := n2_; clear n0_ n1_ n2_; (try clear hb); (try clear hb2); (try clear hk); (try clear hi); have hcz21_0 : w20.cell? ⟨gb102, 0, none⟩ = some (.slice A1_0 l1_0.length c1_0) := (blk_cell BK102.out 0).trans rfl; have hcz21_1 : w20.cell? ⟨gb102, 1, none⟩ = some (.slice A1_1 l1_1.length c1_1) := (blk_cell BK102.out 1).trans rfl; have hcz21_2 : w20.cell? ⟨gb102, 2, none⟩ = some (.int .i64 a1_2) := (blk_cell BK102.out 2).trans rfl; have hfz21_0 := blk_frozen BK102.out 0; have hfz21_1 := blk_frozen BK102.out 1; have hfz21_2 := blk_frozen BK102.out 2) | (go_at_call 49; (with_reducible refine (verditerlaw04_many.calls _ _ l1_0 false _ ?side1 ?side2 A11.out).mono ?_); (case side1 => exact (Kd.C_below HR1_0.out HB.out)); (case side2 => exact HC1_0.out); rintro e w' ⟨rfl, ⟨nd, rfl⟩⟩) | (go_at_call 49; (with_reducible refine (verditerlaw04_many.calls _ _ l1_1 t105 _ ?side1 ?side2 A17.out).mono ?_); (case side1 => repeat (first | exact (Kd.C_below HR1_1.out bB) | (with_reducible refine Kd.C_alloc ?_ _) | (with_reducible refine Kd.C_drewN ?_ _) | (with_reducible refine Kd.C_drew ?_))); (case side2 => exact HC1_1.out); rintro e w' ⟨rfl, ⟨nd, rfl⟩⟩))
    go_meet
    case rel => exact ⟨_, (t105), (by first | rfl | (simp; done) | (simp [*]; done)), H', ⟨by first | omega | exact Nat.le_refl _⟩, ⟨by (with_reducible repeat (first | refine blk_drewN ?_ _ | refine blk_drew ?_ | refine blk_alloc ?_ _)); exact BK101.out⟩, ⟨by (with_reducible repeat (first | refine blk_drewN ?_ _ | refine blk_drew ?_ | refine blk_alloc ?_ _)); exact BK102.out⟩, ⟨bB⟩⟩
 case rest =>
  clear HC3
  try clear c1
  try clear c2
  try clear p2
  try clear c3
  try clear c7
  try clear c8
  try clear c12
  try clear c13
  try clear c18
  try clear hcz14_0
  try clear hcz14_1
  try clear hcz16_0
  try clear hcz16_1
  try clear hcz16_2
  try clear hcz19_0
  try clear hcz19_1
  try clear hcz21_0
  try clear hcz21_1
  try clear hcz21_2
  try clear hcz9_0
  try clear hcz9_1
  try clear hfz14_0
  try clear hfz14_1
  try clear hfz16_0
  try clear hfz16_1
  try clear hfz16_2
  try clear hfz19_0
  try clear hfz19_1
  try clear hfz21_0
  try clear hfz21_1
  try clear hfz21_2
  try clear hfz9_0
  try clear hfz9_1
  obtain ⟨kq, x25_2, rfl, HA, HJ2, BK101, BK102, HB⟩ := hcut
  cases kq with
  | zero => exact absurd HA.out (by simp [verditerlaw04_strikeRuns.j0])
  | succ kj2 =>
   have H := HA.out
   clear HA
   simp only [verditerlaw04_strikeRuns.j0] at H
   by_cases c22 : x25_2 = true
   ·
    subst c22
    have H1 : ((verditerlaw04_known.f kj2).bind fun t106 => (some t106)) = some r := by rw [if_pos rfl] at H; exact H
    clear H
    have H := H1
    clear H1
    replace H := Option.bind_eq_some_iff.mp H
    obtain ⟨t106, A230, H⟩ := H
    replace H : (some t106) = some r := H
    have A23 := Aside0.mk A230
    clear A230
    obtain rfl := Option.some.inj H
    go_wp2_with (first | ((with_reducible refine gate_callee (f := 50) rfl ?_); refine goesL_ (some 26) rfl rfl Try.func50 (by kernel_rfl) rfl #[] rfl hA ?_; (with_reducible refine (verditerlaw04_known.calls kj2  t106 _ A23.out).mono ?_); rintro e w24 ⟨rfl, hb⟩; refine ⟨_, rfl, ?_⟩; have n0_ := Aside0.mk (blk_below BK101.out hb); have n1_ := Aside0.mk (blk_below BK102.out hb); have n2_ := Aside0.mk (below_step bB hb); clear BK101; clear BK102; clear HB; have BK101 := n0_; have BK102 := n1_; have HB := n2_; clear n0_ n1_ n2_; (try clear hb); (try clear hb2); (try clear hk); (try clear hi)))
    go_ret
    exact ⟨by first | rfl | (simp [errW_none, errW_some] <;> rfl) | (simp [*, errW_none, errW_some] <;> rfl), bB⟩
   ·
    replace c22 := Bool.eq_false_iff.mpr c22
    subst c22
    have H1 : ((verditerref04_Run.f kj2 l0_0 l0_1 l1_0 l1_1 a1_2).bind fun bt107 => ((strike_Run.f kj2 l0_0 l0_1 l1_0 l1_1 a1_2).bind fun bt114 => (if bt114.2.2 = bt107.2.2 then ((verditerref04_SameInts.f kj2 bt114.1 bt107.1).bind fun t121 => (if t121 = true then ((verditerref04_SameInts.f kj2 bt114.2.1 bt107.2.1).bind fun t122 => (verditerlaw04_strikeRuns.j1 kj2 bt114.2.2 (!t122) l0_0 l0_1 l1_0 l1_1 a1_2)) else (verditerlaw04_strikeRuns.j1 kj2 bt114.2.2 true l0_0 l0_1 l1_0 l1_1 a1_2))) else (verditerlaw04_strikeRuns.j1 kj2 bt114.2.2 true l0_0 l0_1 l1_0 l1_1 a1_2)))) = some r := by rw [if_neg (show ¬ (false = true) by decide)] at H; exact H
    clear H
    have H := H1
    clear H1
    replace H := Option.bind_eq_some_iff.mp H
    obtain ⟨⟨t107, t110, t113⟩, A250, H⟩ := H
    replace H : ((strike_Run.f kj2 l0_0 l0_1 l1_0 l1_1 a1_2).bind fun bt114 => (if bt114.2.2 = t113 then ((verditerref04_SameInts.f kj2 bt114.1 t107).bind fun t121 => (if t121 = true then ((verditerref04_SameInts.f kj2 bt114.2.1 t110).bind fun t122 => (verditerlaw04_strikeRuns.j1 kj2 bt114.2.2 (!t122) l0_0 l0_1 l1_0 l1_1 a1_2)) else (verditerlaw04_strikeRuns.j1 kj2 bt114.2.2 true l0_0 l0_1 l1_0 l1_1 a1_2))) else (verditerlaw04_strikeRuns.j1 kj2 bt114.2.2 true l0_0 l0_1 l1_0 l1_1 a1_2))) = some r := H
    have A25 := Aside0.mk A250
    clear A250
    replace H := Option.bind_eq_some_iff.mp H
    obtain ⟨⟨t114, t117, t120⟩, A260, H⟩ := H
    replace H : (if t120 = t113 then ((verditerref04_SameInts.f kj2 t114 t107).bind fun t121 => (if t121 = true then ((verditerref04_SameInts.f kj2 t117 t110).bind fun t122 => (verditerlaw04_strikeRuns.j1 kj2 t120 (!t122) l0_0 l0_1 l1_0 l1_1 a1_2)) else (verditerlaw04_strikeRuns.j1 kj2 t120 true l0_0 l0_1 l1_0 l1_1 a1_2))) else (verditerlaw04_strikeRuns.j1 kj2 t120 true l0_0 l0_1 l1_0 l1_1 a1_2)) = some r := H
    have A26 := Aside0.mk A260
    clear A260
    have HC27 := Aside0.mk H
    clear H
    have hnb28 := NB101_102.out
    have hnc28 := NB102_101.out
    have hcz29_0 : wc.cell? ⟨gb101, 0, none⟩ = some (.slice A0_0 l0_0.length c0_0) := (blk_cell BK101.out 0).trans rfl
    have hcz29_1 : wc.cell? ⟨gb101, 1, none⟩ = some (.slice A0_1 l0_1.length c0_1) := (blk_cell BK101.out 1).trans rfl
    have hfz29_0 := blk_frozen BK101.out 0
    have hfz29_1 := blk_frozen BK101.out 1
    have hcz30_0 : wc.cell? ⟨gb102, 0, none⟩ = some (.slice A1_0 l1_0.length c1_0) := (blk_cell BK102.out 0).trans rfl
    have hcz30_1 : wc.cell? ⟨gb102, 1, none⟩ = some (.slice A1_1 l1_1.length c1_1) := (blk_cell BK102.out 1).trans rfl
    have hcz30_2 : wc.cell? ⟨gb102, 2, none⟩ = some (.int .i64 a1_2) := (blk_cell BK102.out 2).trans rfl
    have hfz30_0 := blk_frozen BK102.out 0
    have hfz30_1 := blk_frozen BK102.out 1
    have hfz30_2 := blk_frozen BK102.out 2
    go_upto_region 5 with (first | ((with_reducible refine gate_callee (f := 58) rfl ?_); refine goesL_ (some 35) rfl rfl Try.func58 (by kernel_rfl) rfl #[.agg #[.slice A0_0 l0_0.length c0_0, .slice A0_1 l0_1.length c0_1], .slice A1_0 l1_0.length c1_0, .slice A1_1 l1_1.length c1_1, .int .i64 a1_2] rfl hA ?_; (with_reducible refine (verditerref04_Run.calls kj2 _ _ l0_0 _ _ l0_1 _ _ l1_0 _ _ l1_1 a1_2 t107 t110 t113 _ ?side1 ?side2 ?side3 ?side4 ?side5 ?side6 ?side7 ?side8 A25.out).mono ?_); (case side1 => exact (Kd.C_below HR0_0.out HB.out)); (case side2 => exact HC0_0.out); (case side3 => exact (Kd.C_below HR0_1.out HB.out)); (case side4 => exact HC0_1.out); (case side5 => exact (Kd.C_below HR1_0.out HB.out)); (case side6 => exact HC1_0.out); (case side7 => exact (Kd.C_below HR1_1.out HB.out)); (case side8 => exact HC1_1.out); rintro e w31 ⟨v108, v111, rfl, ho0, ho1, hb⟩; refine ⟨_, rfl, ?_⟩; have n0_ := Aside0.mk (Kd.R_lower ho0 (below_size bB)); have n1_ := Aside0.mk (Kd.R_lower ho1 (below_size bB)); have n2_ := Aside0.mk (blk_below BK101.out hb); have n3_ := Aside0.mk (blk_below BK102.out hb); have n4_ := Aside0.mk (below_step bB hb); clear BK101; clear BK102; clear HB; have HO109 := n0_; have HO112 := n1_; have BK101 := n2_; have BK102 := n3_; have HB := n4_; clear n0_ n1_ n2_ n3_ n4_; (try clear hb); (try clear hb2); (try clear hk); (try clear hi); (try clear ho0); (try clear ho1); have hcz32_0 : w31.cell? ⟨gb101, 0, none⟩ = some (.slice A0_0 l0_0.length c0_0) := (blk_cell BK101.out 0).trans rfl; have hcz32_1 : w31.cell? ⟨gb101, 1, none⟩ = some (.slice A0_1 l0_1.length c0_1) := (blk_cell BK101.out 1).trans rfl; have hfz32_0 := blk_frozen BK101.out 0; have hfz32_1 := blk_frozen BK101.out 1; have hcz33_0 : w31.cell? ⟨gb102, 0, none⟩ = some (.slice A1_0 l1_0.length c1_0) := (blk_cell BK102.out 0).trans rfl; have hcz33_1 : w31.cell? ⟨gb102, 1, none⟩ = some (.slice A1_1 l1_1.length c1_1) := (blk_cell BK102.out 1).trans rfl; have hcz33_2 : w31.cell? ⟨gb102, 2, none⟩ = some (.int .i64 a1_2) := (blk_cell BK102.out 2).trans rfl; have hfz33_0 := blk_frozen BK102.out 0; have hfz33_1 := blk_frozen BK102.out 1; have hfz33_2 := blk_frozen BK102.out 2) | ((with_reducible refine gate_callee (f := 47) rfl ?_); refine goesL_ (some 47) rfl rfl Try.func47 (by kernel_rfl) rfl #[.agg #[.slice A0_0 l0_0.length c0_0, .slice A0_1 l0_1.length c0_1], .slice A1_0 l1_0.length c1_0, .slice A1_1 l1_1.length c1_1, .int .i64 a1_2] rfl hA ?_; (with_reducible refine (strike_Run.calls kj2 _ _ l0_0 _ _ l0_1 _ _ l1_0 _ _ l1_1 a1_2 t114 t117 t120 _ ?side1 ?side2 ?side3 ?side4 ?side5 ?side6 ?side7 ?side8 A26.out).mono ?_); (case side1 => exact (Kd.C_below HR0_0.out HB.out)); (case side2 => exact HC0_0.out); (case side3 => exact (Kd.C_below HR0_1.out HB.out)); (case side4 => exact HC0_1.out); (case side5 => exact (Kd.C_below HR1_0.out HB.out)); (case side6 => exact HC1_0.out); (case side7 => exact (Kd.C_below HR1_1.out HB.out)); (case side8 => exact HC1_1.out); rintro e w34 ⟨v115, v118, rfl, ho0, ho1, hb⟩; refine ⟨_, rfl, ?_⟩; have n0_ := Aside0.mk (Kd.R_mono (Kd.R_told (Kd.R_told (Kd.R_old HO109.out hb) (Kd.R_base ho0)) (Kd.R_base ho1)) (fun _ h_ => h_.1)); have n1_ := Aside0.mk (Kd.R_mono (Kd.R_told (Kd.R_told (Kd.R_old HO112.out hb) (Kd.R_base ho0)) (Kd.R_base ho1)) (fun _ h_ => h_.1)); have n2_ := Aside0.mk (Kd.R_lower (Kd.R_new' (Kd.R_new' ho0 (Kd.R_lt HO109.out)) (Kd.R_lt HO112.out)) (below_size bB)); have n3_ := Aside0.mk (Kd.R_lower (Kd.R_new' (Kd.R_new' ho1 (Kd.R_lt HO109.out)) (Kd.R_lt HO112.out)) (below_size bB)); have n4_ := Aside0.mk (blk_below BK101.out hb); have n5_ := Aside0.mk (blk_below BK102.out hb); have n6_ := Aside0.mk (below_step bB hb); clear HO109; clear HO112; clear BK101; clear BK102; clear HB; have HO109 := n0_; have HO112 := n1_; have HO116 := n2_; have HO119 := n3_; have BK101 := n4_; have BK102 := n5_; have HB := n6_; clear n0_ n1_ n2_ n3_ n4_ n5_ n6_; (try clear hb); (try clear hb2); (try clear hk); (try clear hi); (try clear ho0); (try clear ho1)))
    (try simp only [Act.put, List.setIfInBounds_toArray, List.set_cons_zero, List.set_cons_succ])
    go_cut [65] (fun v65 wc => ∃ (kq : Nat) (x65_26 : Bool), v65 = .bool x65_26 ∧ Aside0 (verditerlaw04_strikeRuns.j1 kq t120 x65_26 l0_0 l0_1 l1_0 l1_1 a1_2 = some r) ∧ Aside0 (kq ≤ kj2) ∧ Aside0 (wc.heap[gb101]? = some (.cells #[(.slice A0_0 l0_0.length c0_0), (.slice A0_1 l0_1.length c0_1)] 24 (0, 0))) ∧ Aside0 (wc.heap[gb102]? = some (.cells #[(.slice A1_0 l1_0.length c1_0), (.slice A1_1 l1_1.length c1_1), .int .i64 a1_2] 30 (0, 0))) ∧ Aside0 (Below w.heap.size w wc))
    case first =>
     have H := HC27.out
     clear HC27
     by_cases c35 : t120 = t113
     ·
      rw [if_pos c35] at H
      have c35b0 : (t120 == t113) = true := beq_iff_eq.mpr c35
      have c35b1 : (t120 != t113) = false := bne_eq_false_iff_eq.mpr c35
      clear c35
      (first | rw [c35b0] | (simp only [i64_w, i32_w]; rw [c35b0]) | skip)
      replace H := Option.bind_eq_some_iff.mp H
      obtain ⟨t121, A360, H⟩ := H
      replace H : (if t121 = true then ((verditerref04_SameInts.f kj2 t117 t110).bind fun t122 => (verditerlaw04_strikeRuns.j1 kj2 t120 (!t122) l0_0 l0_1 l1_0 l1_1 a1_2)) else (verditerlaw04_strikeRuns.j1 kj2 t120 true l0_0 l0_1 l1_0 l1_1 a1_2)) = some r := H
      have A36 := Aside0.mk A360
      clear A360
      by_cases c37 : t121 = true
      ·
       subst c37
       have H1 : ((verditerref04_SameInts.f kj2 t117 t110).bind fun t122 => (verditerlaw04_strikeRuns.j1 kj2 t120 (!t122) l0_0 l0_1 l1_0 l1_1 a1_2)) = some r := by rw [if_pos rfl] at H; exact H
       clear H
       have H := H1
       clear H1
       replace H := Option.bind_eq_some_iff.mp H
       obtain ⟨t122, A380, H⟩ := H
       replace H : (verditerlaw04_strikeRuns.j1 kj2 t120 (!t122) l0_0 l0_1 l1_0 l1_1 a1_2) = some r := H
       have A38 := Aside0.mk A380
       clear A380
       have H' := Aside0.mk H
       clear H
       obtain ⟨Ao39, co39, eo39⟩ := Kd.R_slice HO116.out
       subst eo39
       obtain ⟨Ao40, co40, eo40⟩ := Kd.R_slice HO109.out
       subst eo40
       go_wp2_with (first | (go_at_call 45; (with_reducible refine (verditerref04_SameInts.calls kj2 _ _ t114 _ _ t107 true _ ?side1 ?side2 ?side3 ?side4 A36.out).mono ?_); (case side1 => exact (Kd.R_reads' HO116.out).2.2); (case side2 => exact (Kd.R_reads' HO116.out).2.1); (case side3 => exact (Kd.R_reads' HO109.out).2.2); (case side4 => exact (Kd.R_reads' HO109.out).2.1); rintro e w' ⟨rfl, ⟨nd, rfl⟩⟩; obtain ⟨Ao41, co41, eo41⟩ := Kd.R_slice HO119.out; subst eo41; obtain ⟨Ao42, co42, eo42⟩ := Kd.R_slice HO112.out; subst eo42) | (go_at_call 45; (with_reducible refine (verditerref04_SameInts.calls kj2 _ _ t117 _ _ t110 t122 _ ?side1 ?side2 ?side3 ?side4 A38.out).mono ?_); (case side1 => exact (Kd.R_reads' HO119.out).2.2); (case side2 => exact (Kd.R_reads' HO119.out).2.1); (case side3 => exact (Kd.R_reads' HO112.out).2.2); (case side4 => exact (Kd.R_reads' HO112.out).2.1); rintro e w' ⟨rfl, ⟨nd, rfl⟩⟩))
       go_meet
       case rel => exact ⟨_, (!t122), (by first | rfl | (simp; done) | (simp [*]; done)), H', ⟨by have := HJ2.out; first | omega | exact Nat.le_refl _⟩, ⟨by (with_reducible repeat (first | refine blk_drewN ?_ _ | refine blk_drew ?_ | refine blk_alloc ?_ _)); exact BK101.out⟩, ⟨by (with_reducible repeat (first | refine blk_drewN ?_ _ | refine blk_drew ?_ | refine blk_alloc ?_ _)); exact BK102.out⟩, ⟨bB⟩⟩
      ·
       replace c37 := Bool.eq_false_iff.mpr c37
       subst c37
       have H1 : (verditerlaw04_strikeRuns.j1 kj2 t120 true l0_0 l0_1 l1_0 l1_1 a1_2) = some r := by rw [if_neg (show ¬ (false = true) by decide)] at H; exact H
       clear H
       have H := H1
       clear H1
       have H' := Aside0.mk H
       clear H
       obtain ⟨Ao43, co43, eo43⟩ := Kd.R_slice HO116.out
       subst eo43
       obtain ⟨Ao44, co44, eo44⟩ := Kd.R_slice HO109.out
       subst eo44
       go_wp2_with (first | (go_at_call 45; (with_reducible refine (verditerref04_SameInts.calls kj2 _ _ t114 _ _ t107 false _ ?side1 ?side2 ?side3 ?side4 A36.out).mono ?_); (case side1 => exact (Kd.R_reads' HO116.out).2.2); (case side2 => exact (Kd.R_reads' HO116.out).2.1); (case side3 => exact (Kd.R_reads' HO109.out).2.2); (case side4 => exact (Kd.R_reads' HO109.out).2.1); rintro e w' ⟨rfl, ⟨nd, rfl⟩⟩))
       go_meet
       case rel => exact ⟨_, (true), (by first | rfl | (simp; done) | (simp [*]; done)), H', ⟨by have := HJ2.out; first | omega | exact Nat.le_refl _⟩, ⟨by (with_reducible repeat (first | refine blk_drewN ?_ _ | refine blk_drew ?_ | refine blk_alloc ?_ _)); exact BK101.out⟩, ⟨by (with_reducible repeat (first | refine blk_drewN ?_ _ | refine blk_drew ?_ | refine blk_alloc ?_ _)); exact BK102.out⟩, ⟨bB⟩⟩
     ·
      rw [if_neg c35] at H
      have c35b0 : (t120 == t113) = false := beq_eq_false_iff_ne.mpr c35
      have c35b1 : (t120 != t113) = true := bne_iff_ne.mpr c35
      (first | rw [c35b0] | (simp only [i64_w, i32_w]; rw [c35b0]) | skip)
      have H' := Aside0.mk H
      clear H
      go_wp2
      go_meet
      case rel => exact ⟨_, (true), (by first | rfl | (simp; done) | (simp [*]; done)), H', ⟨by have := HJ2.out; first | omega | exact Nat.le_refl _⟩, ⟨by (with_reducible repeat (first | refine blk_drewN ?_ _ | refine blk_drew ?_ | refine blk_alloc ?_ _)); exact BK101.out⟩, ⟨by (with_reducible repeat (first | refine blk_drewN ?_ _ | refine blk_drew ?_ | refine blk_alloc ?_ _)); exact BK102.out⟩, ⟨bB⟩⟩
    case rest =>
     clear HC27
     try clear c1
     try clear c2
     try clear p2
     try clear c3
     try clear c4
     try clear c5
     try clear c7
     try clear c8
     try clear c12
     try clear c13
     try clear c18
     try clear c22
     try clear c27
     try clear c28
     try clear c35
     try clear c35b0
     try clear c35b1
     try clear c36
     try clear c37
     try clear hcz14_0
     try clear hcz14_1
     try clear hcz16_0
     try clear hcz16_1
     try clear hcz16_2
     try clear hcz19_0
     try clear hcz19_1
     try clear hcz21_0
     try clear hcz21_1
     try clear hcz21_2
     try clear hcz29_0
     try clear hcz29_1
     try clear hcz30_0
     try clear hcz30_1
     try clear hcz30_2
     try clear hcz32_0
     try clear hcz32_1
     try clear hcz33_0
     try clear hcz33_1
     try clear hcz33_2
     try clear hcz9_0
     try clear hcz9_1
     try clear hfz14_0
     try clear hfz14_1
     try clear hfz16_0
     try clear hfz16_1
     try clear hfz16_2
     try clear hfz19_0
     try clear hfz19_1
     try clear hfz21_0
     try clear hfz21_1
     try clear hfz21_2
     try clear hfz29_0
     try clear hfz29_1
     try clear hfz30_0
     try clear hfz30_1
     try clear hfz30_2
     try clear hfz32_0
     try clear hfz32_1
     try clear hfz33_0
     try clear hfz33_1
     try clear hfz33_2
     try clear hfz9_0
     try clear hfz9_1
     try clear p2
     obtain ⟨kq, x65_26, rfl, HA, HJ26, BK101, BK102, HB⟩ := hcut
     cases kq with
     | zero => exact absurd HA.out (by simp [verditerlaw04_strikeRuns.j1])
     | succ kj26 =>
      have H := HA.out
      clear HA
      simp only [verditerlaw04_strikeRuns.j1] at H
      by_cases c45 : x65_26 = true
      ·
       subst c45
       have H1 : (some false) = some r := by rw [if_pos rfl] at H; exact H
       clear H
       have H := H1
       clear H1
       obtain rfl := Option.some.inj H
       go_wp2
       go_ret
       exact ⟨by first | rfl | (simp [errW_none, errW_some] <;> rfl) | (simp [*, errW_none, errW_some] <;> rfl), bB⟩
      ·
       replace c45 := Bool.eq_false_iff.mpr c45
       subst c45
       have H1 : ((strike_Limit.f kj26 l0_0 l0_1 l1_0 l1_1).bind fun bt123 => (if bt123.2.2 = 0 then (if a1_2 < 0 then (verditerlaw04_strikeRuns.j2 kj26 t120 bt123.1 true l1_0 l1_1 a1_2) else (verditerlaw04_strikeRuns.j2 kj26 t120 bt123.1 (decide (a1_2 > 1000)) l1_0 l1_1 a1_2)) else (verditerlaw04_strikeRuns.j2 kj26 t120 bt123.1 true l1_0 l1_1 a1_2))) = some r := by rw [if_neg (show ¬ (false = true) by decide)] at H; exact H
       clear H
       have H := H1
       clear H1
       replace H := Option.bind_eq_some_iff.mp H
       obtain ⟨⟨t123, t124, t127⟩, A460, H⟩ := H
       replace H : (if t127 = 0 then (if a1_2 < 0 then (verditerlaw04_strikeRuns.j2 kj26 t120 t123 true l1_0 l1_1 a1_2) else (verditerlaw04_strikeRuns.j2 kj26 t120 t123 (decide (a1_2 > 1000)) l1_0 l1_1 a1_2)) else (verditerlaw04_strikeRuns.j2 kj26 t120 t123 true l1_0 l1_1 a1_2)) = some r := H
       have A46 := Aside0.mk A460
       clear A460
       have HC47 := Aside0.mk H
       clear H
       have hnb48 := NB101_102.out
       have hnc48 := NB102_101.out
       have hcz49_0 : wc.cell? ⟨gb101, 0, none⟩ = some (.slice A0_0 l0_0.length c0_0) := (blk_cell BK101.out 0).trans rfl
       have hcz49_1 : wc.cell? ⟨gb101, 1, none⟩ = some (.slice A0_1 l0_1.length c0_1) := (blk_cell BK101.out 1).trans rfl
       have hfz49_0 := blk_frozen BK101.out 0
       have hfz49_1 := blk_frozen BK101.out 1
       have hcz50_0 : wc.cell? ⟨gb102, 0, none⟩ = some (.slice A1_0 l1_0.length c1_0) := (blk_cell BK102.out 0).trans rfl
       have hcz50_1 : wc.cell? ⟨gb102, 1, none⟩ = some (.slice A1_1 l1_1.length c1_1) := (blk_cell BK102.out 1).trans rfl
       have hcz50_2 : wc.cell? ⟨gb102, 2, none⟩ = some (.int .i64 a1_2) := (blk_cell BK102.out 2).trans rfl
       have hfz50_0 := blk_frozen BK102.out 0
       have hfz50_1 := blk_frozen BK102.out 1
       have hfz50_2 := blk_frozen BK102.out 2
       go_upto_region 8 with (first | ((with_reducible refine gate_callee (f := 46) rfl ?_); refine goesL_ (some 72) rfl rfl Try.func46 (by kernel_rfl) rfl #[.agg #[.slice A0_0 l0_0.length c0_0, .slice A0_1 l0_1.length c0_1], .slice A1_0 l1_0.length c1_0, .slice A1_1 l1_1.length c1_1] rfl hA ?_; (with_reducible refine (strike_Limit.calls kj26 _ _ l0_0 _ _ l0_1 _ _ l1_0 _ _ l1_1 t123 t124 t127 _ ?side1 ?side2 ?side3 ?side4 ?side5 ?side6 ?side7 ?side8 A46.out).mono ?_); (case side1 => exact (Kd.C_below HR0_0.out HB.out)); (case side2 => exact HC0_0.out); (case side3 => exact (Kd.C_below HR0_1.out HB.out)); (case side4 => exact HC0_1.out); (case side5 => exact (Kd.C_below HR1_0.out HB.out)); (case side6 => exact HC1_0.out); (case side7 => exact (Kd.C_below HR1_1.out HB.out)); (case side8 => exact HC1_1.out); rintro e w51 ⟨v125, rfl, ho0, hb⟩; refine ⟨_, rfl, ?_⟩; have n0_ := Aside0.mk (Kd.R_lower ho0 (below_size bB)); have n1_ := Aside0.mk (blk_below BK101.out hb); have n2_ := Aside0.mk (blk_below BK102.out hb); have n3_ := Aside0.mk (below_step bB hb); clear BK101; clear BK102; clear HB; have HO126 := n0_; have BK101 := n1_; have BK102 := n2_; have HB := n3_; clear n0_ n1_ n2_ n3_; (try clear hb); (try clear hb2); (try clear hk); (try clear hi); (try clear ho0)))
       (try simp only [Act.put, List.setIfInBounds_toArray, List.set_cons_zero, List.set_cons_succ])
       go_cut [87] (fun v87 wc => ∃ (kq : Nat) (x87_46 : Bool), v87 = .bool x87_46 ∧ Aside0 (verditerlaw04_strikeRuns.j2 kq t120 t123 x87_46 l1_0 l1_1 a1_2 = some r) ∧ Aside0 (kq ≤ kj26) ∧ Aside0 (wc.heap[gb101]? = some (.cells #[(.slice A0_0 l0_0.length c0_0), (.slice A0_1 l0_1.length c0_1)] 24 (0, 0))) ∧ Aside0 (wc.heap[gb102]? = some (.cells #[(.slice A1_0 l1_0.length c1_0), (.slice A1_1 l1_1.length c1_1), .int .i64 a1_2] 30 (0, 0))) ∧ Aside0 (Below w.heap.size w wc))
       case first =>
        have H := HC47.out
        clear HC47
        by_cases c52 : t127 = 0
        ·
         rw [if_pos c52] at H
         have c52b0 : (t127 == 0) = true := beq_iff_eq.mpr c52
         have c52b1 : (t127 != 0) = false := bne_eq_false_iff_eq.mpr c52
         clear c52
         (first | rw [c52b0] | (simp only [i64_w, i32_w]; rw [c52b0]) | skip)
         by_cases c53 : a1_2 < 0
         ·
          rw [if_pos c53] at H
          have c53b0 : decide (a1_2 < 0) = true := decide_eq_true c53
          clear c53
          have H' := Aside0.mk H
          clear H
          have hnb54 := NB102_101.out
          have hnc54 := NB101_102.out
          have hcz55_0 : w51.cell? ⟨gb102, 0, none⟩ = some (.slice A1_0 l1_0.length c1_0) := (blk_cell BK102.out 0).trans rfl
          have hcz55_1 : w51.cell? ⟨gb102, 1, none⟩ = some (.slice A1_1 l1_1.length c1_1) := (blk_cell BK102.out 1).trans rfl
          have hcz55_2 : w51.cell? ⟨gb102, 2, none⟩ = some (.int .i64 a1_2) := (blk_cell BK102.out 2).trans rfl
          have hfz55_0 := blk_frozen BK102.out 0
          have hfz55_1 := blk_frozen BK102.out 1
          have hfz55_2 := blk_frozen BK102.out 2
          go_wp2
          go_meet
          case rel => exact ⟨_, (true), (by first | rfl | (simp; done) | (simp [*]; done)), H', ⟨by have := HJ2.out; have := HJ26.out; first | omega | exact Nat.le_refl _⟩, ⟨by (with_reducible repeat (first | refine blk_drewN ?_ _ | refine blk_drew ?_ | refine blk_alloc ?_ _)); exact BK101.out⟩, ⟨by (with_reducible repeat (first | refine blk_drewN ?_ _ | refine blk_drew ?_ | refine blk_alloc ?_ _)); exact BK102.out⟩, ⟨bB⟩⟩
         ·
          rw [if_neg c53] at H
          have c53b0 : decide (a1_2 < 0) = false := decide_eq_false c53
          clear c53
          have H' := Aside0.mk H
          clear H
          have hnb56 := NB102_101.out
          have hnc56 := NB101_102.out
          have hcz57_0 : w51.cell? ⟨gb102, 0, none⟩ = some (.slice A1_0 l1_0.length c1_0) := (blk_cell BK102.out 0).trans rfl
          have hcz57_1 : w51.cell? ⟨gb102, 1, none⟩ = some (.slice A1_1 l1_1.length c1_1) := (blk_cell BK102.out 1).trans rfl
          have hcz57_2 : w51.cell? ⟨gb102, 2, none⟩ = some (.int .i64 a1_2) := (blk_cell BK102.out 2).trans rfl
          have hfz57_0 := blk_frozen BK102.out 0
          have hfz57_1 := blk_frozen BK102.out 1
          have hfz57_2 := blk_frozen BK102.out 2
          go_wp2
          go_meet
          case rel => exact ⟨_, (decide (a1_2 > 1000)), (by first | rfl | (simp; done) | (simp [*]; done)), H', ⟨by have := HJ2.out; have := HJ26.out; first | omega | exact Nat.le_refl _⟩, ⟨by (with_reducible repeat (first | refine blk_drewN ?_ _ | refine blk_drew ?_ | refine blk_alloc ?_ _)); exact BK101.out⟩, ⟨by (with_reducible repeat (first | refine blk_drewN ?_ _ | refine blk_drew ?_ | refine blk_alloc ?_ _)); exact BK102.out⟩, ⟨bB⟩⟩
        ·
         rw [if_neg c52] at H
         have c52b0 : (t127 == 0) = false := beq_eq_false_iff_ne.mpr c52
         have c52b1 : (t127 != 0) = true := bne_iff_ne.mpr c52
         (first | rw [c52b0] | (simp only [i64_w, i32_w]; rw [c52b0]) | skip)
         have H' := Aside0.mk H
         clear H
         go_wp2
         go_meet
         case rel => exact ⟨_, (true), (by first | rfl | (simp; done) | (simp [*]; done)), H', ⟨by have := HJ2.out; have := HJ26.out; first | omega | exact Nat.le_refl _⟩, ⟨by (with_reducible repeat (first | refine blk_drewN ?_ _ | refine blk_drew ?_ | refine blk_alloc ?_ _)); exact BK101.out⟩, ⟨by (with_reducible repeat (first | refine blk_drewN ?_ _ | refine blk_drew ?_ | refine blk_alloc ?_ _)); exact BK102.out⟩, ⟨bB⟩⟩
       case rest =>
        clear HC47
        try clear c1
        try clear c2
        try clear p2
        try clear c3
        try clear c4
        try clear c5
        try clear c7
        try clear c8
        try clear c12
        try clear c13
        try clear c18
        try clear c22
        try clear c27
        try clear c28
        try clear c35
        try clear c35b0
        try clear c35b1
        try clear c36
        try clear c37
        try clear c45
        try clear c46
        try clear c47
        try clear c48
        try clear c50
        try clear c52
        try clear c52b0
        try clear c52b1
        try clear c53
        try clear c53b0
        try clear c54
        try clear c56
        try clear hcz14_0
        try clear hcz14_1
        try clear hcz16_0
        try clear hcz16_1
        try clear hcz16_2
        try clear hcz19_0
        try clear hcz19_1
        try clear hcz21_0
        try clear hcz21_1
        try clear hcz21_2
        try clear hcz29_0
        try clear hcz29_1
        try clear hcz30_0
        try clear hcz30_1
        try clear hcz30_2
        try clear hcz32_0
        try clear hcz32_1
        try clear hcz33_0
        try clear hcz33_1
        try clear hcz33_2
        try clear hcz49_0
        try clear hcz49_1
        try clear hcz50_0
        try clear hcz50_1
        try clear hcz50_2
        try clear hcz55_0
        try clear hcz55_1
        try clear hcz55_2
        try clear hcz57_0
        try clear hcz57_1
        try clear hcz57_2
        try clear hcz9_0
        try clear hcz9_1
        try clear hfz14_0
        try clear hfz14_1
        try clear hfz16_0
        try clear hfz16_1
        try clear hfz16_2
        try clear hfz19_0
        try clear hfz19_1
        try clear hfz21_0
        try clear hfz21_1
        try clear hfz21_2
        try clear hfz29_0
        try clear hfz29_1
        try clear hfz30_0
        try clear hfz30_1
        try clear hfz30_2
        try clear hfz32_0
        try clear hfz32_1
        try clear hfz33_0
        try clear hfz33_1
        try clear hfz33_2
        try clear hfz49_0
        try clear hfz49_1
        try clear hfz50_0
        try clear hfz50_1
        try clear hfz50_2
        try clear hfz55_0
        try clear hfz55_1
        try clear hfz55_2
        try clear hfz57_0
        try clear hfz57_1
        try clear hfz57_2
        try clear hfz9_0
        try clear hfz9_1
        try clear p2
        obtain ⟨kq, x87_46, rfl, HA, HJ46, BK101, BK102, HB⟩ := hcut
        cases kq with
        | zero => exact absurd HA.out (by simp [verditerlaw04_strikeRuns.j2])
        | succ kj46 =>
         have H := HA.out
         clear HA
         simp only [verditerlaw04_strikeRuns.j2] at H
         by_cases c58 : x87_46 = true
         ·
          subst c58
          have H1 : ((verditerlaw04_known.f kj46).bind fun t128 => (some t128)) = some r := by rw [if_pos rfl] at H; exact H
          clear H
          have H := H1
          clear H1
          replace H := Option.bind_eq_some_iff.mp H
          obtain ⟨t128, A590, H⟩ := H
          replace H : (some t128) = some r := H
          have A59 := Aside0.mk A590
          clear A590
          obtain rfl := Option.some.inj H
          go_wp2_with (first | ((with_reducible refine gate_callee (f := 50) rfl ?_); refine goesL_ (some 88) rfl rfl Try.func50 (by kernel_rfl) rfl #[] rfl hA ?_; (with_reducible refine (verditerlaw04_known.calls kj46  t128 _ A59.out).mono ?_); rintro e w60 ⟨rfl, hb⟩; refine ⟨_, rfl, ?_⟩; have n0_ := Aside0.mk (blk_below BK101.out hb); have n1_ := Aside0.mk (blk_below BK102.out hb); have n2_ := Aside0.mk (below_step bB hb); clear BK101; clear BK102; clear HB; have BK101 := n0_; have BK102 := n1_; have HB := n2_; clear n0_ n1_ n2_; (try clear hb); (try clear hb2); (try clear hk); (try clear hi)))
          go_ret
          exact ⟨by first | rfl | (simp [errW_none, errW_some] <;> rfl) | (simp [*, errW_none, errW_some] <;> rfl), bB⟩
         ·
          replace c58 := Bool.eq_false_iff.mpr c58
          subst c58
          have H1 : (if ((t120 == 0) == (decide (a1_2 ≤ t123))) = true then ((verditerlaw04_known.f kj46).bind fun t129 => (some t129)) else (some false)) = some r := by rw [if_neg (show ¬ (false = true) by decide)] at H; exact H
          clear H
          have H := H1
          clear H1
          by_cases c61 : ((t120 == 0) == (decide (a1_2 ≤ t123))) = true
          ·
           rw [if_pos c61] at H
           have c61b0 : ((t120 == 0) == (decide (a1_2 ≤ t123))) = true := c61
           (try (have c61b1 : decide ((t120 == 0) = (decide (a1_2 ≤ t123))) = true := by simpa using c61))
           (try (have c61b2 : ((t120 == 0) == (decide (a1_2 ≤ t123))) = true := by simpa using c61))
           clear c61
           replace H := Option.bind_eq_some_iff.mp H
           obtain ⟨t129, A620, H⟩ := H
           replace H : (some t129) = some r := H
           have A62 := Aside0.mk A620
           clear A620
           obtain rfl := Option.some.inj H
           have hnb63 := NB102_101.out
           have hnc63 := NB101_102.out
           have hcz64_0 : wc.cell? ⟨gb102, 0, none⟩ = some (.slice A1_0 l1_0.length c1_0) := (blk_cell BK102.out 0).trans rfl
           have hcz64_1 : wc.cell? ⟨gb102, 1, none⟩ = some (.slice A1_1 l1_1.length c1_1) := (blk_cell BK102.out 1).trans rfl
           have hcz64_2 : wc.cell? ⟨gb102, 2, none⟩ = some (.int .i64 a1_2) := (blk_cell BK102.out 2).trans rfl
           have hfz64_0 := blk_frozen BK102.out 0
           have hfz64_1 := blk_frozen BK102.out 1
           have hfz64_2 := blk_frozen BK102.out 2
           go_wp2_with (first | (go_at_call 50; (with_reducible refine (verditerlaw04_known.calls kj46  t129 _ A62.out).mono ?_); rintro e w65 ⟨rfl, hb⟩; have n0_ := Aside0.mk (blk_below BK101.out hb); have n1_ := Aside0.mk (blk_below BK102.out hb); have n2_ := Aside0.mk (below_step bB hb); clear BK101; clear BK102; clear HB; have BK101 := n0_; have BK102 := n1_; have HB := n2_; clear n0_ n1_ n2_; (try clear hb); (try clear hb2); (try clear hk); (try clear hi)))
           go_ret
           exact ⟨by first | rfl | (simp [errW_none, errW_some] <;> rfl) | (simp [*, errW_none, errW_some] <;> rfl), bB⟩
          ·
           rw [if_neg c61] at H
           have c61b0 : ((t120 == 0) == (decide (a1_2 ≤ t123))) = false := by simpa using c61
           (try (have c61b1 : decide ((t120 == 0) = (decide (a1_2 ≤ t123))) = false := by simpa using c61))
           (try (have c61b2 : ((t120 == 0) == (decide (a1_2 ≤ t123))) = false := by simpa using c61))
           (try (have c61b3 : ¬ ((t120 == 0) = (decide (a1_2 ≤ t123))) := by simpa using c61))
           clear c61
           obtain rfl := Option.some.inj H
           have hnb66 := NB102_101.out
           have hnc66 := NB101_102.out
           have hcz67_0 : wc.cell? ⟨gb102, 0, none⟩ = some (.slice A1_0 l1_0.length c1_0) := (blk_cell BK102.out 0).trans rfl
           have hcz67_1 : wc.cell? ⟨gb102, 1, none⟩ = some (.slice A1_1 l1_1.length c1_1) := (blk_cell BK102.out 1).trans rfl
           have hcz67_2 : wc.cell? ⟨gb102, 2, none⟩ = some (.int .i64 a1_2) := (blk_cell BK102.out 2).trans rfl
           have hfz67_0 := blk_frozen BK102.out 0
           have hfz67_1 := blk_frozen BK102.out 1
           have hfz67_2 := blk_frozen BK102.out 2
           go_wp2
           go_ret
           exact ⟨by first | rfl | (simp [errW_none, errW_some] <;> rfl) | (simp [*, errW_none, errW_some] <;> rfl), bB⟩

end Go.Proofs.Ytdneelgnmnpanaa.P
