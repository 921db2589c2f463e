/- Ytdneelgnmnpanaa: functions of the translation as Lean functions, with their contracts; written by a program of the session. -/
import Derived.Test.YtdneelgnmnpanaaP0
import Derived.Test.YtdneelgnmnpanaaP50
import Derived.Test.YtdneelgnmnpanaaP53
import Derived.Test.YtdneelgnmnpanaaPa
import Derived.Test.YtdneelgnmnpanaaPs
import Derived.Test.YtdneelgnmnpanaaPv
namespace Go.Proofs.Ytdneelgnmnpanaa.P
open Go.RowKit Go.Proofs.YtdneelgnmnpanaaW.PrintWords Go.Proofs.YtdneelgnmnpanaaW.PrintLast Go.Proofs.YtdneelgnmnpanaaW.PrintMore
attribute [local go_sem] max2_int min2_int max_two min_two max_three min_three max_four min_four   -- for this text's walks alone
set_option linter.unusedVariables false
set_option linter.unusedSimpArgs false

/-! ### verditerlaw04_strikeKeeps: function 26 -/
mutual
def verditerlaw04_strikeKeeps.j0 : Nat → List Int → List Int → Bool → List (List Int) → List (List Int) → Option (Bool)
 | 0, _, _, _, _, _ => none
 | k + 1, x1, x2, x25, x102000, x102001 => if x25 = true then ((verditerlaw04_known.f k).bind fun t105 => (some t105)) else ((strike_Balances.f k x102000 x102001 x2).bind fun bt106 => ((strike_Weigh.f k x102000 x102001 x1).bind fun bt108 => ((strike_Elements.f k x102000 x102001 x2).bind fun bt112 => (if bt106.2 = 0 then (if bt112.2.2 = 0 then ((verditerref04_SameInts.f k bt112.1 bt112.2.1).bind fun t120 => (verditerlaw04_strikeKeeps.j1 k x2 bt106.1 bt108.1 bt108.2 (bt106.1 != t120) x102000 x102001)) else (verditerlaw04_strikeKeeps.j1 k x2 bt106.1 bt108.1 bt108.2 true x102000 x102001)) else ((verditerlaw04_known.f k).bind fun t119 => (some t119))))))
def verditerlaw04_strikeKeeps.j1 : Nat → List Int → Bool → List Int → Int → Bool → List (List Int) → List (List Int) → Option (Bool)
 | 0, _, _, _, _, _, _, _ => none
 | k + 1, x2, x7, x9, x10, x57, x102000, x102001 => if x57 = true then (some false) else (if x7 = true then (verditerlaw04_strikeKeeps.j2 k x2 x9 (x10 != 0) x102000 x102001) else (verditerlaw04_strikeKeeps.j2 k x2 x9 true x102000 x102001))
def verditerlaw04_strikeKeeps.j2 : Nat → List Int → List Int → Bool → List (List Int) → List (List Int) → Option (Bool)
 | 0, _, _, _, _, _ => none
 | k + 1, x2, x9, x63, x102000, x102001 => if x63 = true then ((verditerlaw04_known.f k).bind fun t121 => (some t121)) else (if (x9.length : Int) = (x2.length : Int) then (verditerlaw04_strikeKeeps.l0 k x2 x9 0 0 x102000 x102001) else (some false))
def verditerlaw04_strikeKeeps.l0 : Nat → List Int → List Int → Int → Int → List (List Int) → List (List Int) → Option (Bool)
 | 0, _, _, _, _, _, _ => none
 | k + 1, x2, x9, x14, x15, x102000, x102001 => if x15 < (x9.length : Int) then (if 0 ≤ x15 then (if (rd x9 x15) > 4294967296 then (verditerlaw04_strikeKeeps.j4 k x2 x9 x14 x15 true x102000 x102001) else (verditerlaw04_strikeKeeps.j4 k x2 x9 x14 x15 (decide ((rd x9 x15) < (-4294967296))) x102000 x102001)) else (none)) else (if x14 = 0 then ((verditerlaw04_known.f k).bind fun t122 => (some t122)) else (some false))
def verditerlaw04_strikeKeeps.j4 : Nat → List Int → List Int → Int → Int → Bool → List (List Int) → List (List Int) → Option (Bool)
 | 0, _, _, _, _, _, _, _ => none
 | k + 1, x2, x9, x14, x15, x87, x102000, x102001 => if x87 = true then (some false) else (if x15 < (x102000.length : Int) then (if 0 ≤ x15 then (if x15 < (x9.length : Int) then (if x15 < (x2.length : Int) then (verditerlaw04_strikeKeeps.l0 k x2 x9 (wrap64 (x14 + (wrap64 ((rd x9 x15) * (rd x2 x15))))) (wrap64 (x15 + 1)) x102000 x102001) else (none)) else (none)) else (none)) else (if 0 ≤ x15 then (if x15 < (x9.length : Int) then (if x15 < (x2.length : Int) then (verditerlaw04_strikeKeeps.l0 k x2 x9 (wrap64 (x14 - (wrap64 ((rd x9 x15) * (rd x2 x15))))) (wrap64 (x15 + 1)) x102000 x102001) else (none)) else (none)) else (none)))
end
def verditerlaw04_strikeKeeps.f (k : Nat) (l0_0 : List (List Int)) (l0_1 : List (List Int)) (l1 : List Int) (l2 : List Int) : Option (Bool) := (verditerlaw04_Long.f k l0_0 l0_1).bind fun t102 => (if t102 = true then (verditerlaw04_strikeKeeps.j0 k l1 l2 true l0_0 l0_1) else ((verditerlaw04_many.f l1).bind fun t103 => (if t103 = true then (verditerlaw04_strikeKeeps.j0 k l1 l2 true l0_0 l0_1) else ((verditerlaw04_many.f l2).bind fun t104 => (verditerlaw04_strikeKeeps.j0 k l1 l2 t104 l0_0 l0_1)))))
set_option maxHeartbeats 8000000 in
set_option maxRecDepth 100000 in
theorem verditerlaw04_strikeKeeps.calls (k : Nat) (A0_0 : Option Addr) (c0_0 : Nat) (l0_0 : List (List Int)) (A0_1 : Option Addr) (c0_1 : Nat) (l0_1 : List (List Int)) (A1 : Option Addr) (c1 : Nat) (l1 : List Int) (A2 : Option Addr) (c2 : Nat) (l2 : List Int) (r : Bool) (w : World) (hr0_0 : Kd.C (Kd.slice 3 (Kd.int .i64)) w A0_0 l0_0.length l0_0) (hc0_0 : l0_0.length ≤ c0_0) (hr0_1 : Kd.C (Kd.slice 3 (Kd.int .i64)) w A0_1 l0_1.length l0_1) (hc0_1 : l0_1.length ≤ c0_1) (hr1 : Kd.C (Kd.int .i64) w A1 l1.length l1) (hc1 : l1.length ≤ c1) (hr2 : Kd.C (Kd.int .i64) w A2 l2.length l2) (hc2 : l2.length ≤ c2) (h : verditerlaw04_strikeKeeps.f k l0_0 l0_1 l1 l2 = some r) :
  Calls Try.prog 26 #[.agg #[.slice A0_0 l0_0.length c0_0, .slice A0_1 l0_1.length c0_1], .slice A1 l1.length c1, .slice A2 l2.length c2] w fun e w' => e = .returned (.bool r) ∧ Below w.heap.size w w' := by
 have hu24 := Try.underlying24
 have HR0_0 := Aside0.mk hr0_0
 have HC0_0 := Aside0.mk hc0_0
 clear hr0_0 hc0_0
 have HR0_1 := Aside0.mk hr0_1
 have HC0_1 := Aside0.mk hc0_1
 clear hr0_1 hc0_1
 have HR1 := Aside0.mk hr1
 have HC1 := Aside0.mk hc1
 clear hr1 hc1
 have HR2 := Aside0.mk hr2
 have HC2 := Aside0.mk hc2
 clear hr2 hc2
 have HB := Aside0.mk (Below.refl w.heap.size w)
 have H : ((verditerlaw04_Long.f k l0_0 l0_1).bind fun t102 => (if t102 = true then (verditerlaw04_strikeKeeps.j0 k l1 l2 true l0_0 l0_1) else ((verditerlaw04_many.f l1).bind fun t103 => (if t103 = true then (verditerlaw04_strikeKeeps.j0 k l1 l2 true l0_0 l0_1) else ((verditerlaw04_many.f l2).bind fun t104 => (verditerlaw04_strikeKeeps.j0 k l1 l2 t104 l0_0 l0_1)))))) = some r := h
 clear h
 have HC4 := Aside0.mk H
 clear H
 go_enter Try.func26, Try.ntmps26
 go_upto_region 1 with (first | ((with_reducible refine gate_dst (N := 3) rfl ?_); refine box_event ?hg (N := 3) ?hd (cs := #[.slice A0_0 l0_0.length c0_0, .slice A0_1 l0_1.length c0_1]) (t := 24) ?hr ?_; (case hd => rfl); (case hg => rfl); (case hr => first | (go_simp; done) | (go_simp; rfl)); intro gb101 hg w5 hbox hb; have n0_ := Aside0.mk (below_step bB hb); have n1_ := Aside0.mk (hbox); have n2_ := Aside0.mk ((by rw [hg]; exact (below_size bB) : w.heap.size ≤ gb101)); have n3_ := Aside0.mk ((by rw [hg]; exact (below_size bB) : w.heap.size ≤ gb101)); clear HB; have HB := n0_; have BK101 := n1_; have GW101 := n2_; have GE101 := n3_; clear n0_ n1_ n2_ n3_; clear hb hbox hg))
 repeat (go_quiet (first | ((with_reducible refine gate_dst (N := 3) rfl ?_); refine box_event ?hg (N := 3) ?hd (cs := #[.slice A0_0 l0_0.length c0_0, .slice A0_1 l0_1.length c0_1]) (t := 24) ?hr ?_; (case hd => rfl); (case hg => rfl); (case hr => first | (go_simp; done) | (go_simp; rfl)); intro gb101 hg w5 hbox hb; have n0_ := Aside0.mk (below_step bB hb); have n1_ := Aside0.mk (hbox); have n2_ := Aside0.mk ((by rw [hg]; exact (below_size bB) : w.heap.size ≤ gb101)); have n3_ := Aside0.mk ((by rw [hg]; exact (below_size bB) : w.heap.size ≤ gb101)); clear HB; have HB := n0_; have BK101 := n1_; have GW101 := n2_; have GE101 := n3_; clear n0_ n1_ n2_ n3_; clear hb hbox hg)); go_upto_region 1 with (first | ((with_reducible refine gate_dst (N := 3) rfl ?_); refine box_event ?hg (N := 3) ?hd (cs := #[.slice A0_0 l0_0.length c0_0, .slice A0_1 l0_1.length c0_1]) (t := 24) ?hr ?_; (case hd => rfl); (case hg => rfl); (case hr => first | (go_simp; done) | (go_simp; rfl)); intro gb101 hg w5 hbox hb; have n0_ := Aside0.mk (below_step bB hb); have n1_ := Aside0.mk (hbox); have n2_ := Aside0.mk ((by rw [hg]; exact (below_size bB) : w.heap.size ≤ gb101)); have n3_ := Aside0.mk ((by rw [hg]; exact (below_size bB) : w.heap.size ≤ gb101)); clear HB; have HB := n0_; have BK101 := n1_; have GW101 := n2_; have GE101 := n3_; clear n0_ n1_ n2_ n3_; clear hb hbox hg)))
 (try simp only [Act.put, List.setIfInBounds_toArray, List.set_cons_zero, List.set_cons_succ])
 go_cut [25] (fun v25 wc => ∃ (kq : Nat) (x25_3 : Bool), v25 = .bool x25_3 ∧ Aside0 (verditerlaw04_strikeKeeps.j0 kq l1 l2 x25_3 l0_0 l0_1 = some r) ∧ Aside0 (kq ≤ k) ∧ Aside0 (wc.heap[gb101]? = some (.cells #[(.slice A0_0 l0_0.length c0_0), (.slice A0_1 l0_1.length c0_1)] 24 (0, 0))) ∧ Aside0 (Below w.heap.size w wc))
 case first =>
  have H := HC4.out
  clear HC4
  replace H := Option.bind_eq_some_iff.mp H
  obtain ⟨t102, A60, H⟩ := H
  replace H : (if t102 = true then (verditerlaw04_strikeKeeps.j0 k l1 l2 true l0_0 l0_1) else ((verditerlaw04_many.f l1).bind fun t103 => (if t103 = true then (verditerlaw04_strikeKeeps.j0 k l1 l2 true l0_0 l0_1) else ((verditerlaw04_many.f l2).bind fun t104 => (verditerlaw04_strikeKeeps.j0 k l1 l2 t104 l0_0 l0_1))))) = some r := H
  have A6 := Aside0.mk A60
  clear A60
  by_cases c7 : t102 = true
  ·
   subst c7
   have H1 : (verditerlaw04_strikeKeeps.j0 k l1 l2 true l0_0 l0_1) = some r := by rw [if_pos rfl] at H; exact H
   clear H
   have H := H1
   clear H1
   have H' := Aside0.mk H
   clear H
   have hcz8_0 : w5.cell? ⟨gb101, 0, none⟩ = some (.slice A0_0 l0_0.length c0_0) := (blk_cell BK101.out 0).trans rfl
   have hcz8_1 : w5.cell? ⟨gb101, 1, none⟩ = some (.slice A0_1 l0_1.length c0_1) := (blk_cell BK101.out 1).trans rfl
   have hfz8_0 := blk_frozen BK101.out 0
   have hfz8_1 := blk_frozen BK101.out 1
   go_wp2_with (first | (go_at_call 36; (with_reducible refine (verditerlaw04_Long.calls k _ _ l0_0 _ _ l0_1 true _ ?side1 ?side2 ?side3 ?side4 A6.out).mono ?_); (case side1 => exact (Kd.C_below HR0_0.out HB.out)); (case side2 => exact HC0_0.out); (case side3 => exact (Kd.C_below HR0_1.out HB.out)); (case side4 => exact HC0_1.out); rintro e w9 ⟨rfl, hb⟩; have n0_ := Aside0.mk (blk_below BK101.out hb); have n1_ := Aside0.mk (below_step bB hb); clear BK101; clear HB; have BK101 := n0_; have HB := n1_; clear n0_ n1_; (try clear hb); (try clear hb2); (try clear hk); (try clear hi)))
   repeat (go_quiet (first | (go_at_call 36; (with_reducible refine (verditerlaw04_Long.calls k _ _ l0_0 _ _ l0_1 true _ ?side1 ?side2 ?side3 ?side4 A6.out).mono ?_); (case side1 => exact (Kd.C_below HR0_0.out HB.out)); (case side2 => exact HC0_0.out); (case side3 => exact (Kd.C_below HR0_1.out HB.out)); (case side4 => exact HC0_1.out); rintro e w9 ⟨rfl, hb⟩; have n0_ := Aside0.mk (blk_below BK101.out hb); have n1_ := Aside0.mk (below_step bB hb); clear BK101; clear HB; have BK101 := n0_; have HB := n1_; clear n0_ n1_; (try clear hb); (try clear hb2); (try clear hk); (try clear hi))); try go_wp2_with (first | (go_at_call 36; (with_reducible refine (verditerlaw04_Long.calls k _ _ l0_0 _ _ l0_1 true _ ?side1 ?side2 ?side3 ?side4 A6.out).mono ?_); (case side1 => exact (Kd.C_below HR0_0.out HB.out)); (case side2 => exact HC0_0.out); (case side3 => exact (Kd.C_below HR0_1.out HB.out)); (case side4 => exact HC0_1.out); rintro e w9 ⟨rfl, hb⟩; have n0_ := Aside0.mk (blk_below BK101.out hb); have n1_ := Aside0.mk (below_step bB hb); clear BK101; clear HB; have BK101 := n0_; have HB := n1_; clear n0_ n1_; (try clear hb); (try clear hb2); (try clear hk); (try clear hi))))
   go_meet
   case rel => exact ⟨_, (true), (by first | rfl | (simp; done) | (simp [*]; done)), H', ⟨by first | omega | exact Nat.le_refl _⟩, ⟨by (with_reducible repeat (first | refine blk_drewN ?_ _ | refine blk_drew ?_ | refine blk_alloc ?_ _)); exact BK101.out⟩, ⟨bB⟩⟩
  ·
   replace c7 := Bool.eq_false_iff.mpr c7
   subst c7
   have H1 : ((verditerlaw04_many.f l1).bind fun t103 => (if t103 = true then (verditerlaw04_strikeKeeps.j0 k l1 l2 true l0_0 l0_1) else ((verditerlaw04_many.f l2).bind fun t104 => (verditerlaw04_strikeKeeps.j0 k l1 l2 t104 l0_0 l0_1)))) = some r := by rw [if_neg (show ¬ (false = true) by decide)] at H; exact H
   clear H
   have H := H1
   clear H1
   replace H := Option.bind_eq_some_iff.mp H
   obtain ⟨t103, A100, H⟩ := H
   replace H : (if t103 = true then (verditerlaw04_strikeKeeps.j0 k l1 l2 true l0_0 l0_1) else ((verditerlaw04_many.f l2).bind fun t104 => (verditerlaw04_strikeKeeps.j0 k l1 l2 t104 l0_0 l0_1))) = some r := H
   have A10 := Aside0.mk A100
   clear A100
   by_cases c11 : t103 = true
   ·
    subst c11
    have H1 : (verditerlaw04_strikeKeeps.j0 k l1 l2 true l0_0 l0_1) = some r := by rw [if_pos rfl] at H; exact H
    clear H
    have H := H1
    clear H1
    have H' := Aside0.mk H
    clear H
    have hcz12_0 : w5.cell? ⟨gb101, 0, none⟩ = some (.slice A0_0 l0_0.length c0_0) := (blk_cell BK101.out 0).trans rfl
    have hcz12_1 : w5.cell? ⟨gb101, 1, none⟩ = some (.slice A0_1 l0_1.length c0_1) := (blk_cell BK101.out 1).trans rfl
    have hfz12_0 := blk_frozen BK101.out 0
    have hfz12_1 := blk_frozen BK101.out 1
    go_wp2_with (first | (go_at_call 36; (with_reducible refine (verditerlaw04_Long.calls k _ _ l0_0 _ _ l0_1 false _ ?side1 ?side2 ?side3 ?side4 A6.out).mono ?_); (case side1 => exact (Kd.C_below HR0_0.out HB.out)); (case side2 => exact HC0_0.out); (case side3 => exact (Kd.C_below HR0_1.out HB.out)); (case side4 => exact HC0_1.out); rintro e w13 ⟨rfl, hb⟩; have n0_ := Aside0.mk (blk_below BK101.out hb); have n1_ := Aside0.mk (below_step bB hb); clear BK101; clear HB; have BK101 := n0_; have HB := n1_; clear n0_ n1_; (try clear hb); (try clear hb2); (try clear hk); (try clear hi)) | (go_at_call 49; (with_reducible refine (verditerlaw04_many.calls _ _ l1 true _ ?side1 ?side2 A10.out).mono ?_); (case side1 => exact (Kd.C_below HR1.out HB.out)); (case side2 => exact HC1.out); rintro e w' ⟨rfl, ⟨nd, rfl⟩⟩; (try first | exact ⟨rfl, _, World.drewN_drewN _ _ _⟩ | exact ⟨rfl, _, Eq.trans (World.drewN_drewN _ _ _) (congrArg (World.drewN _) (Nat.add_assoc _ _ _))⟩)))
    repeat (go_quiet (first | (go_at_call 36; (with_reducible refine (verditerlaw04_Long.calls k _ _ l0_0 _ _ l0_1 false _ ?side1 ?side2 ?side3 ?side4 A6.out).mono ?_); (case side1 => exact (Kd.C_below HR0_0.out HB.out)); (case side2 => exact HC0_0.out); (case side3 => exact (Kd.C_below HR0_1.out HB.out)); (case side4 => exact HC0_1.out); rintro e w13 ⟨rfl, hb⟩; have n0_ := Aside0.mk (blk_below BK101.out hb); have n1_ := Aside0.mk (below_step bB hb); clear BK101; clear HB; have BK101 := n0_; have HB := n1_; clear n0_ n1_; (try clear hb); (try clear hb2); (try clear hk); (try clear hi)) | (go_at_call 49; (with_reducible refine (verditerlaw04_many.calls _ _ l1 true _ ?side1 ?side2 A10.out).mono ?_); (case side1 => exact (Kd.C_below HR1.out HB.out)); (case side2 => exact HC1.out); rintro e w' ⟨rfl, ⟨nd, rfl⟩⟩; (try first | exact ⟨rfl, _, World.drewN_drewN _ _ _⟩ | exact ⟨rfl, _, Eq.trans (World.drewN_drewN _ _ _) (congrArg (World.drewN _) (Nat.add_assoc _ _ _))⟩))); try go_wp2_with (first | (go_at_call 36; (with_reducible refine (verditerlaw04_Long.calls k _ _ l0_0 _ _ l0_1 false _ ?side1 ?side2 ?side3 ?side4 A6.out).mono ?_); (case side1 => exact (Kd.C_below HR0_0.out HB.out)); (case side2 => exact HC0_0.out); (case side3 => exact (Kd.C_below HR0_1.out HB.out)); (case side4 => exact HC0_1.out); rintro e w13 ⟨rfl, hb⟩; have n0_ := Aside0.mk (blk_below BK101.out hb); have n1_ := Aside0.mk (below_step bB hb); clear BK101; clear HB; have BK101 := n0_; have HB := n1_; clear n0_ n1_; (try clear hb); (try clear hb2); (try clear hk); (try clear hi)) | (go_at_call 49; (with_reducible refine (verditerlaw04_many.calls _ _ l1 true _ ?side1 ?side2 A10.out).mono ?_); (case side1 => exact (Kd.C_below HR1.out HB.out)); (case side2 => exact HC1.out); rintro e w' ⟨rfl, ⟨nd, rfl⟩⟩; (try first | exact ⟨rfl, _, World.drewN_drewN _ _ _⟩ | exact ⟨rfl, _, Eq.trans (World.drewN_drewN _ _ _) (congrArg (World.drewN _) (Nat.add_assoc _ _ _))⟩))))
    go_meet
    case rel => exact ⟨_, (true), (by first | rfl | (simp; done) | (simp [*]; done)), H', ⟨by first | omega | exact Nat.le_refl _⟩, ⟨by (with_reducible repeat (first | refine blk_drewN ?_ _ | refine blk_drew ?_ | refine blk_alloc ?_ _)); exact BK101.out⟩, ⟨bB⟩⟩
   ·
    replace c11 := Bool.eq_false_iff.mpr c11
    subst c11
    have H1 : ((verditerlaw04_many.f l2).bind fun t104 => (verditerlaw04_strikeKeeps.j0 k l1 l2 t104 l0_0 l0_1)) = some r := by rw [if_neg (show ¬ (false = true) by decide)] at H; exact H
    clear H
    have H := H1
    clear H1
    replace H := Option.bind_eq_some_iff.mp H
    obtain ⟨t104, A140, H⟩ := H
    replace H : (verditerlaw04_strikeKeeps.j0 k l1 l2 t104 l0_0 l0_1) = some r := H
    have A14 := Aside0.mk A140
    clear A140
    have H' := Aside0.mk H
    clear H
    have hcz15_0 : w5.cell? ⟨gb101, 0, none⟩ = some (.slice A0_0 l0_0.length c0_0) := (blk_cell BK101.out 0).trans rfl
    have hcz15_1 : w5.cell? ⟨gb101, 1, none⟩ = some (.slice A0_1 l0_1.length c0_1) := (blk_cell BK101.out 1).trans rfl
    have hfz15_0 := blk_frozen BK101.out 0
    have hfz15_1 := blk_frozen BK101.out 1
    go_wp2_with (first | (go_at_call 36; (with_reducible refine (verditerlaw04_Long.calls k _ _ l0_0 _ _ l0_1 false _ ?side1 ?side2 ?side3 ?side4 A6.out).mono ?_); (case side1 => exact (Kd.C_below HR0_0.out HB.out)); (case side2 => exact HC0_0.out); (case side3 => exact (Kd.C_below HR0_1.out HB.out)); (case side4 => exact HC0_1.out); rintro e w16 ⟨rfl, hb⟩; have n0_ := Aside0.mk (blk_below BK101.out hb); have n1_ := Aside0.mk (below_step bB hb); clear BK101; clear HB; have BK101 := n0_; have HB := n1_; clear n0_ n1_; (try clear hb); (try clear hb2); (try clear hk); (try clear hi)) | (go_at_call 49; (with_reducible refine (verditerlaw04_many.calls _ _ l1 false _ ?side1 ?side2 A10.out).mono ?_); (case side1 => exact (Kd.C_below HR1.out HB.out)); (case side2 => exact HC1.out); rintro e w' ⟨rfl, ⟨nd, rfl⟩⟩; (try first | exact ⟨rfl, _, World.drewN_drewN _ _ _⟩ | exact ⟨rfl, _, Eq.trans (World.drewN_drewN _ _ _) (congrArg (World.drewN _) (Nat.add_assoc _ _ _))⟩)) | (go_at_call 49; (with_reducible refine (verditerlaw04_many.calls _ _ l2 t104 _ ?side1 ?side2 A14.out).mono ?_); (case side1 => repeat (first | exact (Kd.C_below HR2.out bB) | (with_reducible refine Kd.C_alloc ?_ _) | (with_reducible refine Kd.C_drewN ?_ _) | (with_reducible refine Kd.C_drew ?_))); (case side2 => exact HC2.out); rintro e w' ⟨rfl, ⟨nd, rfl⟩⟩; (try first | exact ⟨rfl, _, World.drewN_drewN _ _ _⟩ | exact ⟨rfl, _, Eq.trans (World.drewN_drewN _ _ _) (congrArg (World.drewN _) (Nat.add_assoc _ _ _))⟩)))
    repeat (go_quiet (first | (go_at_call 36; (with_reducible refine (verditerlaw04_Long.calls k _ _ l0_0 _ _ l0_1 false _ ?side1 ?side2 ?side3 ?side4 A6.out).mono ?_); (case side1 => exact (Kd.C_below HR0_0.out HB.out)); (case side2 => exact HC0_0.out); (case side3 => exact (Kd.C_below HR0_1.out HB.out)); (case side4 => exact HC0_1.out); rintro e w16 ⟨rfl, hb⟩; have n0_ := Aside0.mk (blk_below BK101.out hb); have n1_ := Aside0.mk (below_step bB hb); clear BK101; clear HB; have BK101 := n0_; have HB := n1_; clear n0_ n1_; (try clear hb); (try clear hb2); (try clear hk); (try clear hi)) | (go_at_call 49; (with_reducible refine (verditerlaw04_many.calls _ _ l1 false _ ?side1 ?side2 A10.out).mono ?_); (case side1 => exact (Kd.C_below HR1.out HB.out)); (case side2 => exact HC1.out); rintro e w' ⟨rfl, ⟨nd, rfl⟩⟩; (try first | exact ⟨rfl, _, World.drewN_drewN _ _ _⟩ | exact ⟨rfl, _, Eq.trans (World.drewN_drewN _ _ _) (congrArg (World.drewN _) (Nat.add_assoc _ _ _))⟩)) | (go_at_call 49; (with_reducible refine (verditerlaw04_many.calls _ _ l2 t104 _ ?side1 ?side2 A14.out).mono ?_); (case side1 => repeat (first | exact (Kd.C_below HR2.out bB) | (with_reducible refine Kd.C_alloc ?_ _) | (with_reducible refine Kd.C_drewN ?_ _) | (with_reducible refine Kd.C_drew ?_))); (case side2 => exact HC2.out); rintro e w' ⟨rfl, ⟨nd, rfl⟩⟩; (try first | exact ⟨rfl, _, World.drewN_drewN _ _ _⟩ | exact ⟨rfl, _, Eq.trans (World.drewN_drewN _ _ _) (congrArg (World.drewN _) (Nat.add_assoc _ _ _))⟩))); try go_wp2_with (first | (go_at_call 36; (with_reducible refine (verditerlaw04_Long.calls k _ _ l0_0 _ _ l0_1 false _ ?side1 ?side2 ?side3 ?side4 A6.out).mono ?_); (case side1 => exact (Kd.C_below HR0_0.out HB.out)); (case side2 => exact HC0_0.out); (case side3 => exact (Kd.C_below HR0_1.out HB.out)); (case side4 => exact HC0_1.out); rintro e w16 ⟨rfl, hb⟩; have n0_ := Aside0.mk (blk_below BK101.out hb); have n1_ := Aside0.mk (below_step bB hb); clear BK101; clear HB; have BK101 := n0_; have HB := n1_; clear n0_ n1_; (try clear hb); (try clear hb2); (try clear hk); (try clear hi)) | (go_at_call 49; (with_reducible refine (verditerlaw04_many.calls _ _ l1 false _ ?side1 ?side2 A10.out).mono ?_); (case side1 => exact (Kd.C_below HR1.out HB.out)); (case side2 => exact HC1.out); rintro e w' ⟨rfl, ⟨nd, rfl⟩⟩; (try first | exact ⟨rfl, _, World.drewN_drewN _ _ _⟩ | exact ⟨rfl, _, Eq.trans (World.drewN_drewN _ _ _) (congrArg (World.drewN _) (Nat.add_assoc _ _ _))⟩)) | (go_at_call 49; (with_reducible refine (verditerlaw04_many.calls _ _ l2 t104 _ ?side1 ?side2 A14.out).mono ?_); (case side1 => repeat (first | exact (Kd.C_below HR2.out bB) | (with_reducible refine Kd.C_alloc ?_ _) | (with_reducible refine Kd.C_drewN ?_ _) | (with_reducible refine Kd.C_drew ?_))); (case side2 => exact HC2.out); rintro e w' ⟨rfl, ⟨nd, rfl⟩⟩; (try first | exact ⟨rfl, _, World.drewN_drewN _ _ _⟩ | exact ⟨rfl, _, Eq.trans (World.drewN_drewN _ _ _) (congrArg (World.drewN _) (Nat.add_assoc _ _ _))⟩))))
    go_meet
    case rel => exact ⟨_, (t104), (by first | rfl | (simp; done) | (simp [*]; done)), H', ⟨by first | omega | exact Nat.le_refl _⟩, ⟨by (with_reducible repeat (first | refine blk_drewN ?_ _ | refine blk_drew ?_ | refine blk_alloc ?_ _)); exact BK101.out⟩, ⟨bB⟩⟩
 case rest =>
  clear HC4
  try clear c1
  try clear c2
  try clear p2
  try clear c7
  try clear c11
  try clear hcz12_0
  try clear hcz12_1
  try clear hcz15_0
  try clear hcz15_1
  try clear hcz8_0
  try clear hcz8_1
  try clear hfz12_0
  try clear hfz12_1
  try clear hfz15_0
  try clear hfz15_1
  try clear hfz8_0
  try clear hfz8_1
  obtain ⟨kq, x25_3, rfl, HA, HJ3, BK101, HB⟩ := hcut
  cases kq with
  | zero => exact absurd HA.out (by simp [verditerlaw04_strikeKeeps.j0])
  | succ kj3 =>
   have H := HA.out
   clear HA
   simp only [verditerlaw04_strikeKeeps.j0] at H
   by_cases c17 : x25_3 = true
   ·
    subst c17
    have H1 : ((verditerlaw04_known.f kj3).bind fun t105 => (some t105)) = some r := by rw [if_pos rfl] at H; exact H
    clear H
    have H := H1
    clear H1
    replace H := Option.bind_eq_some_iff.mp H
    obtain ⟨t105, A180, H⟩ := H
    replace H : (some t105) = some r := H
    have A18 := Aside0.mk A180
    clear A180
    obtain rfl := Option.some.inj H
    go_wp2_with (first | (go_at_call 50; (with_reducible refine (verditerlaw04_known.calls kj3  t105 _ A18.out).mono ?_); rintro e w19 ⟨rfl, hb⟩; have n0_ := Aside0.mk (blk_below BK101.out hb); have n1_ := Aside0.mk (below_step bB hb); clear BK101; clear HB; have BK101 := n0_; have HB := n1_; clear n0_ n1_; (try clear hb); (try clear hb2); (try clear hk); (try clear hi)))
    repeat (go_quiet (first | (go_at_call 50; (with_reducible refine (verditerlaw04_known.calls kj3  t105 _ A18.out).mono ?_); rintro e w19 ⟨rfl, hb⟩; have n0_ := Aside0.mk (blk_below BK101.out hb); have n1_ := Aside0.mk (below_step bB hb); clear BK101; clear HB; have BK101 := n0_; have HB := n1_; clear n0_ n1_; (try clear hb); (try clear hb2); (try clear hk); (try clear hi))); try go_wp2_with (first | (go_at_call 50; (with_reducible refine (verditerlaw04_known.calls kj3  t105 _ A18.out).mono ?_); rintro e w19 ⟨rfl, hb⟩; have n0_ := Aside0.mk (blk_below BK101.out hb); have n1_ := Aside0.mk (below_step bB hb); clear BK101; clear HB; have BK101 := n0_; have HB := n1_; clear n0_ n1_; (try clear hb); (try clear hb2); (try clear hk); (try clear hi))))
    go_ret
    exact ⟨by first | rfl | (simp [errW_none, errW_some] <;> rfl) | (simp [*, errW_none, errW_some] <;> rfl), bB⟩
   ·
    replace c17 := Bool.eq_false_iff.mpr c17
    subst c17
    have H1 : ((strike_Balances.f kj3 l0_0 l0_1 l2).bind fun bt106 => ((strike_Weigh.f kj3 l0_0 l0_1 l1).bind fun bt108 => ((strike_Elements.f kj3 l0_0 l0_1 l2).bind fun bt112 => (if bt106.2 = 0 then (if bt112.2.2 = 0 then ((verditerref04_SameInts.f kj3 bt112.1 bt112.2.1).bind fun t120 => (verditerlaw04_strikeKeeps.j1 kj3 l2 bt106.1 bt108.1 bt108.2 (bt106.1 != t120) l0_0 l0_1)) else (verditerlaw04_strikeKeeps.j1 kj3 l2 bt106.1 bt108.1 bt108.2 true l0_0 l0_1)) else ((verditerlaw04_known.f kj3).bind fun t119 => (some t119)))))) = some r := by rw [if_neg (show ¬ (false = true) by decide)] at H; exact H
    clear H
    have H := H1
    clear H1
    replace H := Option.bind_eq_some_iff.mp H
    obtain ⟨⟨t106, t107⟩, A200, H⟩ := H
    replace H : ((strike_Weigh.f kj3 l0_0 l0_1 l1).bind fun bt108 => ((strike_Elements.f kj3 l0_0 l0_1 l2).bind fun bt112 => (if t107 = 0 then (if bt112.2.2 = 0 then ((verditerref04_SameInts.f kj3 bt112.1 bt112.2.1).bind fun t120 => (verditerlaw04_strikeKeeps.j1 kj3 l2 t106 bt108.1 bt108.2 (t106 != t120) l0_0 l0_1)) else (verditerlaw04_strikeKeeps.j1 kj3 l2 t106 bt108.1 bt108.2 true l0_0 l0_1)) else ((verditerlaw04_known.f kj3).bind fun t119 => (some t119))))) = some r := H
    have A20 := Aside0.mk A200
    clear A200
    replace H := Option.bind_eq_some_iff.mp H
    obtain ⟨⟨t108, t111⟩, A210, H⟩ := H
    replace H : ((strike_Elements.f kj3 l0_0 l0_1 l2).bind fun bt112 => (if t107 = 0 then (if bt112.2.2 = 0 then ((verditerref04_SameInts.f kj3 bt112.1 bt112.2.1).bind fun t120 => (verditerlaw04_strikeKeeps.j1 kj3 l2 t106 t108 t111 (t106 != t120) l0_0 l0_1)) else (verditerlaw04_strikeKeeps.j1 kj3 l2 t106 t108 t111 true l0_0 l0_1)) else ((verditerlaw04_known.f kj3).bind fun t119 => (some t119)))) = some r := H
    have A21 := Aside0.mk A210
    clear A210
    replace H := Option.bind_eq_some_iff.mp H
    obtain ⟨⟨t112, t115, t118⟩, A220, H⟩ := H
    replace H : (if t107 = 0 then (if t118 = 0 then ((verditerref04_SameInts.f kj3 t112 t115).bind fun t120 => (verditerlaw04_strikeKeeps.j1 kj3 l2 t106 t108 t111 (t106 != t120) l0_0 l0_1)) else (verditerlaw04_strikeKeeps.j1 kj3 l2 t106 t108 t111 true l0_0 l0_1)) else ((verditerlaw04_known.f kj3).bind fun t119 => (some t119))) = some r := H
    have A22 := Aside0.mk A220
    clear A220
    by_cases c23 : t107 = 0
    ·
     rw [if_pos c23] at H
     have c23b0 : (t107 == 0) = true := beq_iff_eq.mpr c23
     have c23b1 : (t107 != 0) = false := bne_eq_false_iff_eq.mpr c23
     clear c23
     have HC24 := Aside0.mk H
     clear H
     have hcz25_0 : wc.cell? ⟨gb101, 0, none⟩ = some (.slice A0_0 l0_0.length c0_0) := (blk_cell BK101.out 0).trans rfl
     have hcz25_1 : wc.cell? ⟨gb101, 1, none⟩ = some (.slice A0_1 l0_1.length c0_1) := (blk_cell BK101.out 1).trans rfl
     have hfz25_0 := blk_frozen BK101.out 0
     have hfz25_1 := blk_frozen BK101.out 1
     go_upto_region 8 with (first | (go_at_call 53; (with_reducible refine (strike_Balances.calls kj3 _ _ l0_0 _ _ l0_1 _ _ l2 t106 t107 _ ?side1 ?side2 ?side3 ?side4 ?side5 ?side6 A20.out).mono ?_); (case side1 => exact (Kd.C_below HR0_0.out HB.out)); (case side2 => exact HC0_0.out); (case side3 => exact (Kd.C_below HR0_1.out HB.out)); (case side4 => exact HC0_1.out); (case side5 => exact (Kd.C_below HR2.out HB.out)); (case side6 => exact HC2.out); rintro e w26 ⟨rfl, hb⟩; have n0_ := Aside0.mk (blk_below BK101.out hb); have n1_ := Aside0.mk (below_step bB hb); clear BK101; clear HB; have BK101 := n0_; have HB := n1_; clear n0_ n1_; (try clear hb); (try clear hb2); (try clear hk); (try clear hi); have hcz27_0 : w26.cell? ⟨gb101, 0, none⟩ = some (.slice A0_0 l0_0.length c0_0) := (blk_cell BK101.out 0).trans rfl; have hcz27_1 : w26.cell? ⟨gb101, 1, none⟩ = some (.slice A0_1 l0_1.length c0_1) := (blk_cell BK101.out 1).trans rfl; have hfz27_0 := blk_frozen BK101.out 0; have hfz27_1 := blk_frozen BK101.out 1) | (go_at_call 42; (with_reducible refine (strike_Weigh.calls kj3 _ _ l0_0 _ _ l0_1 _ _ l1 t108 t111 _ ?side1 ?side2 ?side3 ?side4 ?side5 ?side6 A21.out).mono ?_); (case side1 => exact (Kd.C_below HR0_0.out HB.out)); (case side2 => exact HC0_0.out); (case side3 => exact (Kd.C_below HR0_1.out HB.out)); (case side4 => exact HC0_1.out); (case side5 => exact (Kd.C_below HR1.out HB.out)); (case side6 => exact HC1.out); rintro e w28 ⟨v109, rfl, ho0, hb⟩; have n0_ := Aside0.mk (Kd.R_lower ho0 (below_size bB)); have n1_ := Aside0.mk (blk_below BK101.out hb); have n2_ := Aside0.mk (below_step bB hb); clear BK101; clear HB; have HO110 := n0_; have BK101 := n1_; have HB := n2_; clear n0_ n1_ n2_; (try clear hb); (try clear hb2); (try clear hk); (try clear hi); (try clear ho0); have hcz29_0 : w28.cell? ⟨gb101, 0, none⟩ = some (.slice A0_0 l0_0.length c0_0) := (blk_cell BK101.out 0).trans rfl; have hcz29_1 : w28.cell? ⟨gb101, 1, none⟩ = some (.slice A0_1 l0_1.length c0_1) := (blk_cell BK101.out 1).trans rfl; have hfz29_0 := blk_frozen BK101.out 0; have hfz29_1 := blk_frozen BK101.out 1) | (go_at_call 44; (with_reducible refine (strike_Elements.calls kj3 _ _ l0_0 _ _ l0_1 _ _ l2 t112 t115 t118 _ ?side1 ?side2 ?side3 ?side4 ?side5 ?side6 A22.out).mono ?_); (case side1 => exact (Kd.C_below HR0_0.out HB.out)); (case side2 => exact HC0_0.out); (case side3 => exact (Kd.C_below HR0_1.out HB.out)); (case side4 => exact HC0_1.out); (case side5 => exact (Kd.C_below HR2.out HB.out)); (case side6 => exact HC2.out); rintro e w30 ⟨v113, v116, rfl, ho0, ho1, hb⟩; have n0_ := Aside0.mk (Kd.R_mono (Kd.R_told (Kd.R_told (Kd.R_old HO110.out hb) (Kd.R_base ho0)) (Kd.R_base ho1)) (fun _ h_ => h_.1)); have n1_ := Aside0.mk (Kd.R_lower (Kd.R_new' ho0 (Kd.R_lt HO110.out)) (below_size bB)); have n2_ := Aside0.mk (Kd.R_lower (Kd.R_new' ho1 (Kd.R_lt HO110.out)) (below_size bB)); have n3_ := Aside0.mk (blk_below BK101.out hb); have n4_ := Aside0.mk (below_step bB hb); clear HO110; clear BK101; clear HB; have HO110 := n0_; have HO114 := n1_; have HO117 := n2_; have BK101 := n3_; have HB := n4_; clear n0_ n1_ n2_ n3_ n4_; (try clear hb); (try clear hb2); (try clear hk); (try clear hi); (try clear ho0); (try clear ho1)))
     repeat (go_quiet (first | (go_at_call 53; (with_reducible refine (strike_Balances.calls kj3 _ _ l0_0 _ _ l0_1 _ _ l2 t106 t107 _ ?side1 ?side2 ?side3 ?side4 ?side5 ?side6 A20.out).mono ?_); (case side1 => exact (Kd.C_below HR0_0.out HB.out)); (case side2 => exact HC0_0.out); (case side3 => exact (Kd.C_below HR0_1.out HB.out)); (case side4 => exact HC0_1.out); (case side5 => exact (Kd.C_below HR2.out HB.out)); (case side6 => exact HC2.out); rintro e w26 ⟨rfl, hb⟩; have n0_ := Aside0.mk (blk_below BK101.out hb); have n1_ := Aside0.mk (below_step bB hb); clear BK101; clear HB; have BK101 := n0_; have HB := n1_; clear n0_ n1_; (try clear hb); (try clear hb2); (try clear hk); (try clear hi); have hcz27_0 : w26.cell? ⟨gb101, 0, none⟩ = some (.slice A0_0 l0_0.length c0_0) := (blk_cell BK101.out 0).trans rfl; have hcz27_1 : w26.cell? ⟨gb101, 1, none⟩ = some (.slice A0_1 l0_1.length c0_1) := (blk_cell BK101.out 1).trans rfl; have hfz27_0 := blk_frozen BK101.out 0; have hfz27_1 := blk_frozen BK101.out 1) | (go_at_call 42; (with_reducible refine (strike_Weigh.calls kj3 _ _ l0_0 _ _ l0_1 _ _ l1 t108 t111 _ ?side1 ?side2 ?side3 ?side4 ?side5 ?side6 A21.out).mono ?_); (case side1 => exact (Kd.C_below HR0_0.out HB.out)); (case side2 => exact HC0_0.out); (case side3 => exact (Kd.C_below HR0_1.out HB.out)); (case side4 => exact HC0_1.out); (case side5 => exact (Kd.C_below HR1.out HB.out)); (case side6 => exact HC1.out); rintro e w28 ⟨v109, rfl, ho0, hb⟩; have n0_ := Aside0.mk (Kd.R_lower ho0 (below_size bB)); have n1_ := Aside0.mk (blk_below BK101.out hb); have n2_ := Aside0.mk (below_step bB hb); clear BK101; clear HB; have HO110 := n0_; have BK101 := n1_; have HB := n2_; clear n0_ n1_ n2_; (try clear hb); (try clear hb2); (try clear hk); (try clear hi); (try clear ho0); have hcz29_0 : w28.cell? ⟨gb101, 0, none⟩ = some (.slice A0_0 l0_0.length c0_0) := (blk_cell BK101.out 0).trans rfl; have hcz29_1 : w28.cell? ⟨gb101, 1, none⟩ = some (.slice A0_1 l0_1.length c0_1) := (blk_cell BK101.out 1).trans rfl; have hfz29_0 := blk_frozen BK101.out 0; have hfz29_1 := blk_frozen BK101.out 1) | (go_at_call 44; (with_reducible refine (strike_Elements.calls kj3 _ _ l0_0 _ _ l0_1 _ _ l2 t112 t115 t118 _ ?side1 ?side2 ?side3 ?side4 ?side5 ?side6 A22.out).mono ?_); (case side1 => exact (Kd.C_below HR0_0.out HB.out)); (case side2 => exact HC0_0.out); (case side3 => exact (Kd.C_below HR0_1.out HB.out)); (case side4 => exact HC0_1.out); (case side5 => exact (Kd.C_below HR2.out HB.out)); (case side6 => exact HC2.out); rintro e w30 ⟨v113, v116, rfl, ho0, ho1, hb⟩; have n0_ := Aside0.mk (Kd.R_mono (Kd.R_told (Kd.R_told (Kd.R_old HO110.out hb) (Kd.R_base ho0)) (Kd.R_base ho1)) (fun _ h_ => h_.1)); have n1_ := Aside0.mk (Kd.R_lower (Kd.R_new' ho0 (Kd.R_lt HO110.out)) (below_size bB)); have n2_ := Aside0.mk (Kd.R_lower (Kd.R_new' ho1 (Kd.R_lt HO110.out)) (below_size bB)); have n3_ := Aside0.mk (blk_below BK101.out hb); have n4_ := Aside0.mk (below_step bB hb); clear HO110; clear BK101; clear HB; have HO110 := n0_; have HO114 := n1_; have HO117 := n2_; have BK101 := n3_; have HB := n4_; clear n0_ n1_ n2_ n3_ n4_; (try clear hb); (try clear hb2); (try clear hk); (try clear hi); (try clear ho0); (try clear ho1))); go_upto_region 8 with (first | (go_at_call 53; (with_reducible refine (strike_Balances.calls kj3 _ _ l0_0 _ _ l0_1 _ _ l2 t106 t107 _ ?side1 ?side2 ?side3 ?side4 ?side5 ?side6 A20.out).mono ?_); (case side1 => exact (Kd.C_below HR0_0.out HB.out)); (case side2 => exact HC0_0.out); (case side3 => exact (Kd.C_below HR0_1.out HB.out)); (case side4 => exact HC0_1.out); (case side5 => exact (Kd.C_below HR2.out HB.out)); (case side6 => exact HC2.out); rintro e w26 ⟨rfl, hb⟩; have n0_ := Aside0.mk (blk_below BK101.out hb); have n1_ := Aside0.mk (below_step bB hb); clear BK101; clear HB; have BK101 := n0_; have HB := n1_; clear n0_ n1_; (try clear hb); (try clear hb2); (try clear hk); (try clear hi); have hcz27_0 : w26.cell? ⟨gb101, 0, none⟩ = some (.slice A0_0 l0_0.length c0_0) := (blk_cell BK101.out 0).trans rfl; have hcz27_1 : w26.cell? ⟨gb101, 1, none⟩ = some (.slice A0_1 l0_1.length c0_1) := (blk_cell BK101.out 1).trans rfl; have hfz27_0 := blk_frozen BK101.out 0; have hfz27_1 := blk_frozen BK101.out 1) | (go_at_call 42; (with_reducible refine (strike_Weigh.calls kj3 _ _ l0_0 _ _ l0_1 _ _ l1 t108 t111 _ ?side1 ?side2 ?side3 ?side4 ?side5 ?side6 A21.out).mono ?_); (case side1 => exact (Kd.C_below HR0_0.out HB.out)); (case side2 => exact HC0_0.out); (case side3 => exact (Kd.C_below HR0_1.out HB.out)); (case side4 => exact HC0_1.out); (case side5 => exact (Kd.C_below HR1.out HB.out)); (case side6 => exact HC1.out); rintro e w28 ⟨v109, rfl, ho0, hb⟩; have n0_ := Aside0.mk (Kd.R_lower ho0 (below_size bB)); have n1_ := Aside0.mk (blk_below BK101.out hb); have n2_ := Aside0.mk (below_step bB hb); clear BK101; clear HB; have HO110 := n0_; have BK101 := n1_; have HB := n2_; clear n0_ n1_ n2_; (try clear hb); (try clear hb2); (try clear hk); (try clear hi); (try clear ho0); have hcz29_0 : w28.cell? ⟨gb101, 0, none⟩ = some (.slice A0_0 l0_0.length c0_0) := (blk_cell BK101.out 0).trans rfl; have hcz29_1 : w28.cell? ⟨gb101, 1, none⟩ = some (.slice A0_1 l0_1.length c0_1) := (blk_cell BK101.out 1).trans rfl; have hfz29_0 := blk_frozen BK101.out 0; have hfz29_1 := blk_frozen BK101.out 1) | (go_at_call 44; (with_reducible refine (strike_Elements.calls kj3 _ _ l0_0 _ _ l0_1 _ _ l2 t112 t115 t118 _ ?side1 ?side2 ?side3 ?side4 ?side5 ?side6 A22.out).mono ?_); (case side1 => exact (Kd.C_below HR0_0.out HB.out)); (case side2 => exact HC0_0.out); (case side3 => exact (Kd.C_below HR0_1.out HB.out)); (case side4 => exact HC0_1.out); (case side5 => exact (Kd.C_below HR2.out HB.out)); (case side6 => exact HC2.out); rintro e w30 ⟨v113, v116, rfl, ho0, ho1, hb⟩; have n0_ := Aside0.mk (Kd.R_mono (Kd.R_told (Kd.R_told (Kd.R_old HO110.out hb) (Kd.R_base ho0)) (Kd.R_base ho1)) (fun _ h_ => h_.1)); have n1_ := Aside0.mk (Kd.R_lower (Kd.R_new' ho0 (Kd.R_lt HO110.out)) (below_size bB)); have n2_ := Aside0.mk (Kd.R_lower (Kd.R_new' ho1 (Kd.R_lt HO110.out)) (below_size bB)); have n3_ := Aside0.mk (blk_below BK101.out hb); have n4_ := Aside0.mk (below_step bB hb); clear HO110; clear BK101; clear HB; have HO110 := n0_; have HO114 := n1_; have HO117 := n2_; have BK101 := n3_; have HB := n4_; clear n0_ n1_ n2_ n3_ n4_; (try clear hb); (try clear hb2); (try clear hk); (try clear hi); (try clear ho0); (try clear ho1))))
     (try simp only [Act.put, List.setIfInBounds_toArray, List.set_cons_zero, List.set_cons_succ])
     go_cut [57] (fun v57 wc => ∃ (kq : Nat) (x57_23 : Bool), v57 = .bool x57_23 ∧ Aside0 (verditerlaw04_strikeKeeps.j1 kq l2 t106 t108 t111 x57_23 l0_0 l0_1 = some r) ∧ Aside0 (kq ≤ kj3) ∧ Aside0 (Kd.R (Kd.int .i64) 3 wc w.heap.size (fun _ => True) v109 t108) ∧ Aside0 (wc.heap[gb101]? = some (.cells #[(.slice A0_0 l0_0.length c0_0), (.slice A0_1 l0_1.length c0_1)] 24 (0, 0))) ∧ Aside0 (Below w.heap.size w wc))
     case first =>
      have H := HC24.out
      clear HC24
      by_cases c31 : t118 = 0
      ·
       rw [if_pos c31] at H
       have c31b0 : (t118 == 0) = true := beq_iff_eq.mpr c31
       have c31b1 : (t118 != 0) = false := bne_eq_false_iff_eq.mpr c31
       clear c31
       (first | rw [c31b0] | (simp only [i64_w, i32_w]; rw [c31b0]) | skip)
       replace H := Option.bind_eq_some_iff.mp H
       obtain ⟨t120, A320, H⟩ := H
       replace H : (verditerlaw04_strikeKeeps.j1 kj3 l2 t106 t108 t111 (t106 != t120) l0_0 l0_1) = some r := H
       have A32 := Aside0.mk A320
       clear A320
       have H' := Aside0.mk H
       clear H
       obtain ⟨Ao33, co33, eo33⟩ := Kd.R_slice HO114.out
       subst eo33
       obtain ⟨Ao34, co34, eo34⟩ := Kd.R_slice HO117.out
       subst eo34
       go_wp2_with (first | (go_at_call 45; (with_reducible refine (verditerref04_SameInts.calls kj3 _ _ t112 _ _ t115 t120 _ ?side1 ?side2 ?side3 ?side4 A32.out).mono ?_); (case side1 => exact (Kd.R_reads' HO114.out).2.2); (case side2 => exact (Kd.R_reads' HO114.out).2.1); (case side3 => exact (Kd.R_reads' HO117.out).2.2); (case side4 => exact (Kd.R_reads' HO117.out).2.1); rintro e w' ⟨rfl, ⟨nd, rfl⟩⟩; (try first | exact ⟨rfl, _, World.drewN_drewN _ _ _⟩ | exact ⟨rfl, _, Eq.trans (World.drewN_drewN _ _ _) (congrArg (World.drewN _) (Nat.add_assoc _ _ _))⟩)))
       repeat (go_quiet (first | (go_at_call 45; (with_reducible refine (verditerref04_SameInts.calls kj3 _ _ t112 _ _ t115 t120 _ ?side1 ?side2 ?side3 ?side4 A32.out).mono ?_); (case side1 => exact (Kd.R_reads' HO114.out).2.2); (case side2 => exact (Kd.R_reads' HO114.out).2.1); (case side3 => exact (Kd.R_reads' HO117.out).2.2); (case side4 => exact (Kd.R_reads' HO117.out).2.1); rintro e w' ⟨rfl, ⟨nd, rfl⟩⟩; (try first | exact ⟨rfl, _, World.drewN_drewN _ _ _⟩ | exact ⟨rfl, _, Eq.trans (World.drewN_drewN _ _ _) (congrArg (World.drewN _) (Nat.add_assoc _ _ _))⟩))); try go_wp2_with (first | (go_at_call 45; (with_reducible refine (verditerref04_SameInts.calls kj3 _ _ t112 _ _ t115 t120 _ ?side1 ?side2 ?side3 ?side4 A32.out).mono ?_); (case side1 => exact (Kd.R_reads' HO114.out).2.2); (case side2 => exact (Kd.R_reads' HO114.out).2.1); (case side3 => exact (Kd.R_reads' HO117.out).2.2); (case side4 => exact (Kd.R_reads' HO117.out).2.1); rintro e w' ⟨rfl, ⟨nd, rfl⟩⟩; (try first | exact ⟨rfl, _, World.drewN_drewN _ _ _⟩ | exact ⟨rfl, _, Eq.trans (World.drewN_drewN _ _ _) (congrArg (World.drewN _) (Nat.add_assoc _ _ _))⟩))))
       go_meet
       case rel => exact ⟨_, ((t106 != t120)), (by first | rfl | (simp; done) | (simp [*]; done)), H', ⟨by have := HJ3.out; first | omega | exact Nat.le_refl _⟩, ⟨by (with_reducible repeat (first | apply Kd.R_alloc | apply Kd.R_drewN | apply Kd.R_drew)); exact Kd.R_mono HO110.out (fun _ hk => trivial)⟩, ⟨by (with_reducible repeat (first | refine blk_drewN ?_ _ | refine blk_drew ?_ | refine blk_alloc ?_ _)); exact BK101.out⟩, ⟨bB⟩⟩
      ·
       rw [if_neg c31] at H
       have c31b0 : (t118 == 0) = false := beq_eq_false_iff_ne.mpr c31
       have c31b1 : (t118 != 0) = true := bne_iff_ne.mpr c31
       (first | rw [c31b0] | (simp only [i64_w, i32_w]; rw [c31b0]) | skip)
       have H' := Aside0.mk H
       clear H
       go_wp2
       repeat (go_quiet (fail); try go_wp2)
       go_meet
       case rel => exact ⟨_, (true), (by first | rfl | (simp; done) | (simp [*]; done)), H', ⟨by have := HJ3.out; first | omega | exact Nat.le_refl _⟩, ⟨by (with_reducible repeat (first | apply Kd.R_alloc | apply Kd.R_drewN | apply Kd.R_drew)); exact Kd.R_mono HO110.out (fun _ hk => trivial)⟩, ⟨by (with_reducible repeat (first | refine blk_drewN ?_ _ | refine blk_drew ?_ | refine blk_alloc ?_ _)); exact BK101.out⟩, ⟨bB⟩⟩
     case rest =>
      clear HC24
      try clear c1
      try clear c2
      try clear p2
      try clear c3
      try clear c7
      try clear c11
      try clear c17
      try clear c23
      try clear c23b0
      try clear c23b1
      try clear c26
      try clear c31
      try clear c31b0
      try clear c31b1
      try clear hcz12_0
      try clear hcz12_1
      try clear hcz15_0
      try clear hcz15_1
      try clear hcz25_0
      try clear hcz25_1
      try clear hcz27_0
      try clear hcz27_1
      try clear hcz29_0
      try clear hcz29_1
      try clear hcz8_0
      try clear hcz8_1
      try clear hfz12_0
      try clear hfz12_1
      try clear hfz15_0
      try clear hfz15_1
      try clear hfz25_0
      try clear hfz25_1
      try clear hfz27_0
      try clear hfz27_1
      try clear hfz29_0
      try clear hfz29_1
      try clear hfz8_0
      try clear hfz8_1
      try clear p2
      obtain ⟨kq, x57_23, rfl, HA, HJ23, HO_9, BK101, HB⟩ := hcut
      cases kq with
      | zero => exact absurd HA.out (by simp [verditerlaw04_strikeKeeps.j1])
      | succ kj23 =>
       have H := HA.out
       clear HA
       simp only [verditerlaw04_strikeKeeps.j1] at H
       by_cases c35 : x57_23 = true
       ·
        subst c35
        have H1 : (some false) = some r := by rw [if_pos rfl] at H; exact H
        clear H
        have H := H1
        clear H1
        obtain rfl := Option.some.inj H
        go_wp2
        repeat (go_quiet (fail); try go_wp2)
        go_ret
        exact ⟨by first | rfl | (simp [errW_none, errW_some] <;> rfl) | (simp [*, errW_none, errW_some] <;> rfl), bB⟩
       ·
        replace c35 := Bool.eq_false_iff.mpr c35
        subst c35
        have H1 : (if t106 = true then (verditerlaw04_strikeKeeps.j2 kj23 l2 t108 (t111 != 0) l0_0 l0_1) else (verditerlaw04_strikeKeeps.j2 kj23 l2 t108 true l0_0 l0_1)) = some r := by rw [if_neg (show ¬ (false = true) by decide)] at H; exact H
        clear H
        have H := H1
        clear H1
        have HC36 := Aside0.mk H
        clear H
        go_upto_region 10 with (fail)
        repeat (go_quiet (fail); go_upto_region 10 with (fail))
        go_cut [63] (fun v63 wc => ∃ (kq : Nat) (x63_35 : Bool), v63 = .bool x63_35 ∧ Aside0 (verditerlaw04_strikeKeeps.j2 kq l2 t108 x63_35 l0_0 l0_1 = some r) ∧ Aside0 (kq ≤ kj23) ∧ Aside0 (Kd.R (Kd.int .i64) 3 wc w.heap.size (fun _ => True) v109 t108) ∧ Aside0 (wc.heap[gb101]? = some (.cells #[(.slice A0_0 l0_0.length c0_0), (.slice A0_1 l0_1.length c0_1)] 24 (0, 0))) ∧ Aside0 (Below w.heap.size w wc))
        case first =>
         have H := HC36.out
         clear HC36
         by_cases c37 : t106 = true
         ·
          subst c37
          have H1 : (verditerlaw04_strikeKeeps.j2 kj23 l2 t108 (t111 != 0) l0_0 l0_1) = some r := by rw [if_pos rfl] at H; exact H
          clear H
          have H := H1
          clear H1
          have H' := Aside0.mk H
          clear H
          go_wp2
          repeat (go_quiet (fail); try go_wp2)
          go_meet
          case rel => exact ⟨_, ((t111 != 0)), (by first | rfl | (simp; done) | (simp [*]; done)), H', ⟨by have := HJ3.out; have := HJ23.out; first | omega | exact Nat.le_refl _⟩, ⟨by (with_reducible repeat (first | apply Kd.R_alloc | apply Kd.R_drewN | apply Kd.R_drew)); exact HO_9.out⟩, ⟨by (with_reducible repeat (first | refine blk_drewN ?_ _ | refine blk_drew ?_ | refine blk_alloc ?_ _)); exact BK101.out⟩, ⟨bB⟩⟩
         ·
          replace c37 := Bool.eq_false_iff.mpr c37
          subst c37
          have H1 : (verditerlaw04_strikeKeeps.j2 kj23 l2 t108 true l0_0 l0_1) = some r := by rw [if_neg (show ¬ (false = true) by decide)] at H; exact H
          clear H
          have H := H1
          clear H1
          have H' := Aside0.mk H
          clear H
          go_wp2
          repeat (go_quiet (fail); try go_wp2)
          go_meet
          case rel => exact ⟨_, (true), (by first | rfl | (simp; done) | (simp [*]; done)), H', ⟨by have := HJ3.out; have := HJ23.out; first | omega | exact Nat.le_refl _⟩, ⟨by (with_reducible repeat (first | apply Kd.R_alloc | apply Kd.R_drewN | apply Kd.R_drew)); exact HO_9.out⟩, ⟨by (with_reducible repeat (first | refine blk_drewN ?_ _ | refine blk_drew ?_ | refine blk_alloc ?_ _)); exact BK101.out⟩, ⟨bB⟩⟩
        case rest =>
         clear HC36
         try clear c1
         try clear c2
         try clear p2
         try clear c3
         try clear c7
         try clear c11
         try clear c17
         try clear c23
         try clear c23b0
         try clear c23b1
         try clear c26
         try clear c31
         try clear c31b0
         try clear c31b1
         try clear c35
         try clear c37
         try clear hcz12_0
         try clear hcz12_1
         try clear hcz15_0
         try clear hcz15_1
         try clear hcz25_0
         try clear hcz25_1
         try clear hcz27_0
         try clear hcz27_1
         try clear hcz29_0
         try clear hcz29_1
         try clear hcz8_0
         try clear hcz8_1
         try clear hfz12_0
         try clear hfz12_1
         try clear hfz15_0
         try clear hfz15_1
         try clear hfz25_0
         try clear hfz25_1
         try clear hfz27_0
         try clear hfz27_1
         try clear hfz29_0
         try clear hfz29_1
         try clear hfz8_0
         try clear hfz8_1
         try clear p2
         obtain ⟨kq, x63_35, rfl, HA, HJ35, HO_9, BK101, HB⟩ := hcut
         cases kq with
         | zero => exact absurd HA.out (by simp [verditerlaw04_strikeKeeps.j2])
         | succ kj35 =>
          have H := HA.out
          clear HA
          simp only [verditerlaw04_strikeKeeps.j2] at H
          by_cases c38 : x63_35 = true
          ·
           subst c38
           have H1 : ((verditerlaw04_known.f kj35).bind fun t121 => (some t121)) = some r := by rw [if_pos rfl] at H; exact H
           clear H
           have H := H1
           clear H1
           replace H := Option.bind_eq_some_iff.mp H
           obtain ⟨t121, A390, H⟩ := H
           replace H : (some t121) = some r := H
           have A39 := Aside0.mk A390
           clear A390
           obtain rfl := Option.some.inj H
           go_wp2_with (first | (go_at_call 50; (with_reducible refine (verditerlaw04_known.calls kj35  t121 _ A39.out).mono ?_); rintro e w40 ⟨rfl, hb⟩; have n0_ := Aside0.mk (Kd.R_below HO_9.out hb); have n1_ := Aside0.mk (blk_below BK101.out hb); have n2_ := Aside0.mk (below_step bB hb); clear HO_9; clear BK101; clear HB; have HO_9 := n0_; have BK101 := n1_; have HB := n2_; clear n0_ n1_ n2_; (try clear hb); (try clear hb2); (try clear hk); (try clear hi)))
           repeat (go_quiet (first | (go_at_call 50; (with_reducible refine (verditerlaw04_known.calls kj35  t121 _ A39.out).mono ?_); rintro e w40 ⟨rfl, hb⟩; have n0_ := Aside0.mk (Kd.R_below HO_9.out hb); have n1_ := Aside0.mk (blk_below BK101.out hb); have n2_ := Aside0.mk (below_step bB hb); clear HO_9; clear BK101; clear HB; have HO_9 := n0_; have BK101 := n1_; have HB := n2_; clear n0_ n1_ n2_; (try clear hb); (try clear hb2); (try clear hk); (try clear hi))); try go_wp2_with (first | (go_at_call 50; (with_reducible refine (verditerlaw04_known.calls kj35  t121 _ A39.out).mono ?_); rintro e w40 ⟨rfl, hb⟩; have n0_ := Aside0.mk (Kd.R_below HO_9.out hb); have n1_ := Aside0.mk (blk_below BK101.out hb); have n2_ := Aside0.mk (below_step bB hb); clear HO_9; clear BK101; clear HB; have HO_9 := n0_; have BK101 := n1_; have HB := n2_; clear n0_ n1_ n2_; (try clear hb); (try clear hb2); (try clear hk); (try clear hi))))
           go_ret
           exact ⟨by first | rfl | (simp [errW_none, errW_some] <;> rfl) | (simp [*, errW_none, errW_some] <;> rfl), bB⟩
          ·
           replace c38 := Bool.eq_false_iff.mpr c38
           subst c38
           have H1 : (if (t108.length : Int) = (l2.length : Int) then (verditerlaw04_strikeKeeps.l0 kj35 l2 t108 0 0 l0_0 l0_1) else (some false)) = some r := by rw [if_neg (show ¬ (false = true) by decide)] at H; exact H
           clear H
           have H := H1
           clear H1
           by_cases c41 : (t108.length : Int) = (l2.length : Int)
           ·
            rw [if_pos c41] at H
            have c41b0 : ((t108.length : Int) == (l2.length : Int)) = true := beq_iff_eq.mpr c41
            have c41b1 : ((t108.length : Int) != (l2.length : Int)) = false := bne_eq_false_iff_eq.mpr c41
            have c41b2 : (t108.length == l2.length) = true := by first | simpa using c41 | (simp at c41 ⊢; omega)
            clear c41
            have H' := Aside0.mk H
            clear H
            obtain ⟨Ao42, co42, eo42⟩ := Kd.R_slice HO_9.out
            subst eo42
            go_wp2
            repeat (go_quiet (fail); try go_wp2)
            go_loopg [14, 15] kj35 (fun kq v14 v15 w' => ∃ (x14_4 : Int) (x15_4 : Int), v14 = .int .i64 x14_4 ∧ v15 = .int .i64 x15_4 ∧ Aside0 (verditerlaw04_strikeKeeps.l0 kq l2 t108 x14_4 x15_4 l0_0 l0_1 = some r) ∧ Aside0 (kq ≤ kj35) ∧ Aside0 (Kd.R (Kd.int .i64) 3 w' w.heap.size (fun _ => True) (.slice Ao42 t108.length co42) t108) ∧ Aside0 (w'.heap[gb101]? = some (.cells #[(.slice A0_0 l0_0.length c0_0), (.slice A0_1 l0_1.length c0_1)] 24 (0, 0))) ∧ Aside0 (Below w.heap.size w w'))
            case atStart => exact ⟨(0), (0), (by first | rfl | (simp; done) | (simp [*]; done)), (by first | rfl | (simp; done) | (simp [*]; done)), H', ⟨Nat.le_refl _⟩, ⟨by (with_reducible repeat (first | apply Kd.R_alloc | apply Kd.R_drewN | apply Kd.R_drew)); exact HO_9.out⟩, ⟨by (with_reducible repeat (first | refine blk_drewN ?_ _ | refine blk_drew ?_ | refine blk_alloc ?_ _)); exact BK101.out⟩, ⟨bB⟩⟩
            case round =>
             clear H'
             try clear c1
             try clear c2
             try clear p2
             try clear c3
             try clear c4
             try clear c7
             try clear c11
             try clear c17
             try clear c23
             try clear c23b0
             try clear c23b1
             try clear c26
             try clear c31
             try clear c31b0
             try clear c31b1
             try clear c35
             try clear c37
             try clear c38
             try clear c41
             try clear c41b0
             try clear c41b1
             try clear c41b2
             try clear hcz12_0
             try clear hcz12_1
             try clear hcz15_0
             try clear hcz15_1
             try clear hcz25_0
             try clear hcz25_1
             try clear hcz27_0
             try clear hcz27_1
             try clear hcz29_0
             try clear hcz29_1
             try clear hcz8_0
             try clear hcz8_1
             try clear hfz12_0
             try clear hfz12_1
             try clear hfz15_0
             try clear hfz15_1
             try clear hfz25_0
             try clear hfz25_1
             try clear hfz27_0
             try clear hfz27_1
             try clear hfz29_0
             try clear hfz29_1
             try clear hfz8_0
             try clear hfz8_1
             try clear p2
             obtain ⟨x14_4, x15_4, rfl, rfl, HA, HK4, HO_9, BK101, HB⟩ := hrel
             cases gk with
             | zero => exact absurd HA.out (by simp [verditerlaw04_strikeKeeps.l0])
             | succ k4 =>
              have H := HA.out
              clear HA
              simp only [verditerlaw04_strikeKeeps.l0] at H
              by_cases c43 : x15_4 < (t108.length : Int)
              ·
               rw [if_pos c43] at H
               have c43b0 : decide (x15_4 < (t108.length : Int)) = true := decide_eq_true c43
               clear c43
               have HC44 := Aside0.mk H
               clear H
               go_upto_region 18 with (fail)
               repeat (go_quiet (fail); go_upto_region 18 with (fail))
               go_cut [87] (fun v87 wc => ∃ (kq : Nat) (x87_43 : Bool), v87 = .bool x87_43 ∧ Aside0 (verditerlaw04_strikeKeeps.j4 kq l2 t108 x14_4 x15_4 x87_43 l0_0 l0_1 = some r) ∧ Aside0 (kq ≤ k4) ∧ Aside0 (Kd.R (Kd.int .i64) 3 wc w.heap.size (fun _ => True) (.slice Ao42 t108.length co42) t108) ∧ Aside0 (wc.heap[gb101]? = some (.cells #[(.slice A0_0 l0_0.length c0_0), (.slice A0_1 l0_1.length c0_1)] 24 (0, 0))) ∧ Aside0 (Below w.heap.size w wc))
               case first =>
                have H := HC44.out
                clear HC44
                by_cases c45 : 0 ≤ x15_4
                ·
                 rw [if_pos c45] at H
                 have c45b0 : decide (0 ≤ x15_4) = true := decide_eq_true c45
                 clear c45
                 (first | rw [c45b0] | (simp only [i64_w, i32_w]; rw [c45b0]) | skip)
                 by_cases c46 : (rd t108 x15_4) > 4294967296
                 ·
                  rw [if_pos c46] at H
                  have c46b0 : decide (4294967296 < (rd t108 x15_4)) = true := decide_eq_true c46
                  clear c46
                  have H' := Aside0.mk H
                  clear H
                  have p123 : 0 ≤ (x15_4 : Int) := of_decide_eq_true (by assumption)
                  have q123 : x15_4 < (t108.length : Int) := of_decide_eq_true (by assumption)
                  obtain ⟨ad123, e123, hx123_0⟩ := Kd.at_int (Kd.R_reads' HO_9.out).2.2 x15_4 p123 q123
                  cases e123
                  replace p123 := eq_true p123
                  replace q123 := eq_true q123
                  go_wp2
                  repeat (go_quiet (fail); try go_wp2)
                  go_meet
                  case rel => exact ⟨_, (true), (by first | rfl | (simp; done) | (simp [*]; done)), H', ⟨by have := HJ3.out; have := HJ23.out; have := HJ35.out; have := HK4.out; first | omega | exact Nat.le_refl _⟩, ⟨by (with_reducible repeat (first | apply Kd.R_alloc | apply Kd.R_drewN | apply Kd.R_drew)); exact HO_9.out⟩, ⟨by (with_reducible repeat (first | refine blk_drewN ?_ _ | refine blk_drew ?_ | refine blk_alloc ?_ _)); exact BK101.out⟩, ⟨bB⟩⟩
                 ·
                  rw [if_neg c46] at H
                  have c46b0 : decide (4294967296 < (rd t108 x15_4)) = false := decide_eq_false c46
                  clear c46
                  have H' := Aside0.mk H
                  clear H
                  have p123 : 0 ≤ (x15_4 : Int) := of_decide_eq_true (by assumption)
                  have q123 : x15_4 < (t108.length : Int) := of_decide_eq_true (by assumption)
                  obtain ⟨ad123, e123, hx123_0⟩ := Kd.at_int (Kd.R_reads' HO_9.out).2.2 x15_4 p123 q123
                  cases e123
                  replace p123 := eq_true p123
                  replace q123 := eq_true q123
                  have p124 : 0 ≤ (x15_4 : Int) := of_decide_eq_true (by assumption)
                  have q124 : x15_4 < (t108.length : Int) := of_decide_eq_true (by assumption)
                  obtain ⟨ad124, e124, hx124_0⟩ := Kd.at_int (Kd.R_reads' HO_9.out).2.2 x15_4 p124 q124
                  obtain rfl : ad123 = ad124 := (by injection e124)
                  replace p124 := eq_true p124
                  replace q124 := eq_true q124
                  go_wp2
                  repeat (go_quiet (fail); try go_wp2)
                  go_meet
                  case rel => exact ⟨_, (decide ((rd t108 x15_4) < (-4294967296))), (by first | rfl | (simp; done) | (simp [*]; done)), H', ⟨by have := HJ3.out; have := HJ23.out; have := HJ35.out; have := HK4.out; first | omega | exact Nat.le_refl _⟩, ⟨by (with_reducible repeat (first | apply Kd.R_alloc | apply Kd.R_drewN | apply Kd.R_drew)); exact HO_9.out⟩, ⟨by (with_reducible repeat (first | refine blk_drewN ?_ _ | refine blk_drew ?_ | refine blk_alloc ?_ _)); exact BK101.out⟩, ⟨bB⟩⟩
                ·
                 rw [if_neg c45] at H
                 exact absurd H (by simp)
               case rest =>
                clear HC44
                try clear c1
                try clear p1
                try clear q1
                try clear hx1
                try clear c2
                try clear p2
                try clear c3
                try clear c4
                try clear c7
                try clear c11
                try clear p12
                try clear q12
                try clear hx12
                try clear c17
                try clear c23
                try clear c23b0
                try clear c23b1
                try clear c26
                try clear c31
                try clear c31b0
                try clear c31b1
                try clear c35
                try clear c37
                try clear c38
                try clear c41
                try clear c41b0
                try clear c41b1
                try clear c41b2
                try clear c43
                try clear c43b0
                try clear c45
                try clear c45b0
                try clear c46
                try clear c46b0
                try clear hcz12_0
                try clear hcz12_1
                try clear hcz15_0
                try clear hcz15_1
                try clear hcz25_0
                try clear hcz25_1
                try clear hcz27_0
                try clear hcz27_1
                try clear hcz29_0
                try clear hcz29_1
                try clear hcz8_0
                try clear hcz8_1
                try clear hfz12_0
                try clear hfz12_1
                try clear hfz15_0
                try clear hfz15_1
                try clear hfz25_0
                try clear hfz25_1
                try clear hfz27_0
                try clear hfz27_1
                try clear hfz29_0
                try clear hfz29_1
                try clear hfz8_0
                try clear hfz8_1
                try clear hx123_0
                try clear hx124_0
                try clear p123
                try clear p124
                try clear p2
                try clear q123
                try clear q124
                obtain ⟨kq, x87_43, rfl, HA, HJ43, HO_9, BK101, HB⟩ := hcut
                cases kq with
                | zero => exact absurd HA.out (by simp [verditerlaw04_strikeKeeps.j4])
                | succ kj43 =>
                 have H := HA.out
                 clear HA
                 simp only [verditerlaw04_strikeKeeps.j4] at H
                 by_cases c47 : x87_43 = true
                 ·
                  subst c47
                  have H1 : (some false) = some r := by rw [if_pos rfl] at H; exact H
                  clear H
                  have H := H1
                  clear H1
                  obtain rfl := Option.some.inj H
                  go_wp2
                  repeat (go_quiet (fail); try go_wp2)
                  go_ret
                  exact ⟨by first | rfl | (simp [errW_none, errW_some] <;> rfl) | (simp [*, errW_none, errW_some] <;> rfl), bB⟩
                 ·
                  replace c47 := Bool.eq_false_iff.mpr c47
                  subst c47
                  have H1 : (if x15_4 < (l0_0.length : Int) then (if 0 ≤ x15_4 then (if x15_4 < (t108.length : Int) then (if x15_4 < (l2.length : Int) then (verditerlaw04_strikeKeeps.l0 kj43 l2 t108 (wrap64 (x14_4 + (wrap64 ((rd t108 x15_4) * (rd l2 x15_4))))) (wrap64 (x15_4 + 1)) l0_0 l0_1) else (none)) else (none)) else (none)) else (if 0 ≤ x15_4 then (if x15_4 < (t108.length : Int) then (if x15_4 < (l2.length : Int) then (verditerlaw04_strikeKeeps.l0 kj43 l2 t108 (wrap64 (x14_4 - (wrap64 ((rd t108 x15_4) * (rd l2 x15_4))))) (wrap64 (x15_4 + 1)) l0_0 l0_1) else (none)) else (none)) else (none))) = some r := by rw [if_neg (show ¬ (false = true) by decide)] at H; exact H
                  clear H
                  have H := H1
                  clear H1
                  by_cases c48 : x15_4 < (l0_0.length : Int)
                  ·
                   rw [if_pos c48] at H
                   have c48b0 : decide (x15_4 < (l0_0.length : Int)) = true := decide_eq_true c48
                   clear c48
                   by_cases c49 : 0 ≤ x15_4
                   ·
                    rw [if_pos c49] at H
                    have c49b0 : decide (0 ≤ x15_4) = true := decide_eq_true c49
                    clear c49
                    by_cases c50 : x15_4 < (t108.length : Int)
                    ·
                     rw [if_pos c50] at H
                     have c50b0 : decide (x15_4 < (t108.length : Int)) = true := decide_eq_true c50
                     clear c50
                     by_cases c51 : x15_4 < (l2.length : Int)
                     ·
                      rw [if_pos c51] at H
                      have c51b0 : decide (x15_4 < (l2.length : Int)) = true := decide_eq_true c51
                      clear c51
                      have H' := Aside0.mk H
                      clear H
                      have hcz52_0 : wc.cell? ⟨gb101, 0, none⟩ = some (.slice A0_0 l0_0.length c0_0) := (blk_cell BK101.out 0).trans rfl
                      have hcz52_1 : wc.cell? ⟨gb101, 1, none⟩ = some (.slice A0_1 l0_1.length c0_1) := (blk_cell BK101.out 1).trans rfl
                      have hfz52_0 := blk_frozen BK101.out 0
                      have hfz52_1 := blk_frozen BK101.out 1
                      have p125 : 0 ≤ (x15_4 : Int) := of_decide_eq_true (by assumption)
                      have q125 : x15_4 < (t108.length : Int) := of_decide_eq_true (by assumption)
                      obtain ⟨ad125, e125, hx125_0⟩ := Kd.at_int (Kd.R_reads' HO_9.out).2.2 x15_4 p125 q125
                      cases e125
                      replace p125 := eq_true p125
                      replace q125 := eq_true q125
                      have p126 : 0 ≤ (x15_4 : Int) := of_decide_eq_true (by assumption)
                      have q126 : x15_4 < (l2.length : Int) := of_decide_eq_true (by assumption)
                      obtain ⟨ad126, e126, hx126_0⟩ := Kd.at_int HR2.out x15_4 p126 q126
                      cases e126
                      replace hx126_0 := (HB.out.cell (World.block_lt_of_cell? w _ hx126_0)).trans hx126_0
                      replace p126 := eq_true p126
                      replace q126 := eq_true q126
                      go_wp2
                      repeat (go_quiet (fail); try go_wp2)
                      go_roundg kj43
                      case measure => have := HJ3.out; have := HJ23.out; have := HJ35.out; have := HK4.out; have := HJ43.out; omega
                      case rel => exact ⟨(wrap64 (x14_4 + (wrap64 ((rd t108 x15_4) * (rd l2 x15_4))))), (wrap64 (x15_4 + 1)), (by first | rfl | (simp; done) | (simp [*]; done)), (by first | rfl | (simp; done) | (simp [*]; done)), H', ⟨by have := HJ3.out; have := HJ23.out; have := HJ35.out; have := HK4.out; have := HJ43.out; omega⟩, ⟨by (with_reducible repeat (first | apply Kd.R_alloc | apply Kd.R_drewN | apply Kd.R_drew)); exact HO_9.out⟩, ⟨by (with_reducible repeat (first | refine blk_drewN ?_ _ | refine blk_drew ?_ | refine blk_alloc ?_ _)); exact BK101.out⟩, ⟨bB⟩⟩
                     ·
                      rw [if_neg c51] at H
                      exact absurd H (by simp)
                    ·
                     rw [if_neg c50] at H
                     exact absurd H (by simp)
                   ·
                    rw [if_neg c49] at H
                    exact absurd H (by simp)
                  ·
                   rw [if_neg c48] at H
                   have c48b0 : decide (x15_4 < (l0_0.length : Int)) = false := decide_eq_false c48
                   clear c48
                   by_cases c53 : 0 ≤ x15_4
                   ·
                    rw [if_pos c53] at H
                    have c53b0 : decide (0 ≤ x15_4) = true := decide_eq_true c53
                    clear c53
                    by_cases c54 : x15_4 < (t108.length : Int)
                    ·
                     rw [if_pos c54] at H
                     have c54b0 : decide (x15_4 < (t108.length : Int)) = true := decide_eq_true c54
                     clear c54
                     by_cases c55 : x15_4 < (l2.length : Int)
                     ·
                      rw [if_pos c55] at H
                      have c55b0 : decide (x15_4 < (l2.length : Int)) = true := decide_eq_true c55
                      clear c55
                      have H' := Aside0.mk H
                      clear H
                      have hcz56_0 : wc.cell? ⟨gb101, 0, none⟩ = some (.slice A0_0 l0_0.length c0_0) := (blk_cell BK101.out 0).trans rfl
                      have hcz56_1 : wc.cell? ⟨gb101, 1, none⟩ = some (.slice A0_1 l0_1.length c0_1) := (blk_cell BK101.out 1).trans rfl
                      have hfz56_0 := blk_frozen BK101.out 0
                      have hfz56_1 := blk_frozen BK101.out 1
                      have p127 : 0 ≤ (x15_4 : Int) := of_decide_eq_true (by assumption)
                      have q127 : x15_4 < (t108.length : Int) := of_decide_eq_true (by assumption)
                      obtain ⟨ad127, e127, hx127_0⟩ := Kd.at_int (Kd.R_reads' HO_9.out).2.2 x15_4 p127 q127
                      cases e127
                      replace p127 := eq_true p127
                      replace q127 := eq_true q127
                      have p128 : 0 ≤ (x15_4 : Int) := of_decide_eq_true (by assumption)
                      have q128 : x15_4 < (l2.length : Int) := of_decide_eq_true (by assumption)
                      obtain ⟨ad128, e128, hx128_0⟩ := Kd.at_int HR2.out x15_4 p128 q128
                      cases e128
                      replace hx128_0 := (HB.out.cell (World.block_lt_of_cell? w _ hx128_0)).trans hx128_0
                      replace p128 := eq_true p128
                      replace q128 := eq_true q128
                      go_wp2
                      repeat (go_quiet (fail); try go_wp2)
                      go_roundg kj43
                      case measure => have := HJ3.out; have := HJ23.out; have := HJ35.out; have := HK4.out; have := HJ43.out; omega
                      case rel => exact ⟨(wrap64 (x14_4 - (wrap64 ((rd t108 x15_4) * (rd l2 x15_4))))), (wrap64 (x15_4 + 1)), (by first | rfl | (simp; done) | (simp [*]; done)), (by first | rfl | (simp; done) | (simp [*]; done)), H', ⟨by have := HJ3.out; have := HJ23.out; have := HJ35.out; have := HK4.out; have := HJ43.out; omega⟩, ⟨by (with_reducible repeat (first | apply Kd.R_alloc | apply Kd.R_drewN | apply Kd.R_drew)); exact HO_9.out⟩, ⟨by (with_reducible repeat (first | refine blk_drewN ?_ _ | refine blk_drew ?_ | refine blk_alloc ?_ _)); exact BK101.out⟩, ⟨bB⟩⟩
                     ·
                      rw [if_neg c55] at H
                      exact absurd H (by simp)
                    ·
                     rw [if_neg c54] at H
                     exact absurd H (by simp)
                   ·
                    rw [if_neg c53] at H
                    exact absurd H (by simp)
              ·
               rw [if_neg c43] at H
               have c43b0 : decide (x15_4 < (t108.length : Int)) = false := decide_eq_false c43
               clear c43
               by_cases c57 : x14_4 = 0
               ·
                rw [if_pos c57] at H
                have c57b0 : (x14_4 == 0) = true := beq_iff_eq.mpr c57
                have c57b1 : (x14_4 != 0) = false := bne_eq_false_iff_eq.mpr c57
                clear c57
                replace H := Option.bind_eq_some_iff.mp H
                obtain ⟨t122, A580, H⟩ := H
                replace H : (some t122) = some r := H
                have A58 := Aside0.mk A580
                clear A580
                obtain rfl := Option.some.inj H
                go_wp2_with (first | (go_at_call 50; (with_reducible refine (verditerlaw04_known.calls k4  t122 _ A58.out).mono ?_); rintro e w59 ⟨rfl, hb⟩; have n0_ := Aside0.mk (Kd.R_below HO_9.out hb); have n1_ := Aside0.mk (blk_below BK101.out hb); have n2_ := Aside0.mk (below_step bB hb); clear HO_9; clear BK101; clear HB; have HO_9 := n0_; have BK101 := n1_; have HB := n2_; clear n0_ n1_ n2_; (try clear hb); (try clear hb2); (try clear hk); (try clear hi)))
                repeat (go_quiet (first | (go_at_call 50; (with_reducible refine (verditerlaw04_known.calls k4  t122 _ A58.out).mono ?_); rintro e w59 ⟨rfl, hb⟩; have n0_ := Aside0.mk (Kd.R_below HO_9.out hb); have n1_ := Aside0.mk (blk_below BK101.out hb); have n2_ := Aside0.mk (below_step bB hb); clear HO_9; clear BK101; clear HB; have HO_9 := n0_; have BK101 := n1_; have HB := n2_; clear n0_ n1_ n2_; (try clear hb); (try clear hb2); (try clear hk); (try clear hi))); try go_wp2_with (first | (go_at_call 50; (with_reducible refine (verditerlaw04_known.calls k4  t122 _ A58.out).mono ?_); rintro e w59 ⟨rfl, hb⟩; have n0_ := Aside0.mk (Kd.R_below HO_9.out hb); have n1_ := Aside0.mk (blk_below BK101.out hb); have n2_ := Aside0.mk (below_step bB hb); clear HO_9; clear BK101; clear HB; have HO_9 := n0_; have BK101 := n1_; have HB := n2_; clear n0_ n1_ n2_; (try clear hb); (try clear hb2); (try clear hk); (try clear hi))))
                go_ret
                exact ⟨by first | rfl | (simp [errW_none, errW_some] <;> rfl) | (simp [*, errW_none, errW_some] <;> rfl), bB⟩
               ·
                rw [if_neg c57] at H
                have c57b0 : (x14_4 == 0) = false := beq_eq_false_iff_ne.mpr c57
                have c57b1 : (x14_4 != 0) = true := bne_iff_ne.mpr c57
                obtain rfl := Option.some.inj H
                go_wp2
                repeat (go_quiet (fail); try go_wp2)
                go_ret
                exact ⟨by first | rfl | (simp [errW_none, errW_some] <;> rfl) | (simp [*, errW_none, errW_some] <;> rfl), bB⟩
           ·
            rw [if_neg c41] at H
            have c41b0 : ((t108.length : Int) == (l2.length : Int)) = false := beq_eq_false_iff_ne.mpr c41
            have c41b1 : ((t108.length : Int) != (l2.length : Int)) = true := bne_iff_ne.mpr c41
            have c41b2 : (t108.length == l2.length) = false := by first | simpa using c41 | (simp at c41 ⊢; omega)
            obtain rfl := Option.some.inj H
            obtain ⟨Ao60, co60, eo60⟩ := Kd.R_slice HO_9.out
            subst eo60
            go_wp2
            repeat (go_quiet (fail); try go_wp2)
            go_ret
            exact ⟨by first | rfl | (simp [errW_none, errW_some] <;> rfl) | (simp [*, errW_none, errW_some] <;> rfl), bB⟩
    ·
     rw [if_neg c23] at H
     have c23b0 : (t107 == 0) = false := beq_eq_false_iff_ne.mpr c23
     have c23b1 : (t107 != 0) = true := bne_iff_ne.mpr c23
     replace H := Option.bind_eq_some_iff.mp H
     obtain ⟨t119, A610, H⟩ := H
     replace H : (some t119) = some r := H
     have A61 := Aside0.mk A610
     clear A610
     obtain rfl := Option.some.inj H
     have hcz62_0 : wc.cell? ⟨gb101, 0, none⟩ = some (.slice A0_0 l0_0.length c0_0) := (blk_cell BK101.out 0).trans rfl
     have hcz62_1 : wc.cell? ⟨gb101, 1, none⟩ = some (.slice A0_1 l0_1.length c0_1) := (blk_cell BK101.out 1).trans rfl
     have hfz62_0 := blk_frozen BK101.out 0
     have hfz62_1 := blk_frozen BK101.out 1
     go_wp2_with (first | (go_at_call 53; (with_reducible refine (strike_Balances.calls kj3 _ _ l0_0 _ _ l0_1 _ _ l2 t106 t107 _ ?side1 ?side2 ?side3 ?side4 ?side5 ?side6 A20.out).mono ?_); (case side1 => exact (Kd.C_below HR0_0.out HB.out)); (case side2 => exact HC0_0.out); (case side3 => exact (Kd.C_below HR0_1.out HB.out)); (case side4 => exact HC0_1.out); (case side5 => exact (Kd.C_below HR2.out HB.out)); (case side6 => exact HC2.out); rintro e w63 ⟨rfl, hb⟩; have n0_ := Aside0.mk (blk_below BK101.out hb); have n1_ := Aside0.mk (below_step bB hb); clear BK101; clear HB; have BK101 := n0_; have HB := n1_; clear n0_ n1_; (try clear hb); (try clear hb2); (try clear hk); (try clear hi); have hcz64_0 : w63.cell? ⟨gb101, 0, none⟩ = some (.slice A0_0 l0_0.length c0_0) := (blk_cell BK101.out 0).trans rfl; have hcz64_1 : w63.cell? ⟨gb101, 1, none⟩ = some (.slice A0_1 l0_1.length c0_1) := (blk_cell BK101.out 1).trans rfl; have hfz64_0 := blk_frozen BK101.out 0; have hfz64_1 := blk_frozen BK101.out 1) | (go_at_call 42; (with_reducible refine (strike_Weigh.calls kj3 _ _ l0_0 _ _ l0_1 _ _ l1 t108 t111 _ ?side1 ?side2 ?side3 ?side4 ?side5 ?side6 A21.out).mono ?_); (case side1 => exact (Kd.C_below HR0_0.out HB.out)); (case side2 => exact HC0_0.out); (case side3 => exact (Kd.C_below HR0_1.out HB.out)); (case side4 => exact HC0_1.out); (case side5 => exact (Kd.C_below HR1.out HB.out)); (case side6 => exact HC1.out); rintro e w65 ⟨v109, rfl, ho0, hb⟩; have n0_ := Aside0.mk (Kd.R_lower ho0 (below_size bB)); have n1_ := Aside0.mk (blk_below BK101.out hb); have n2_ := Aside0.mk (below_step bB hb); clear BK101; clear HB; have HO110 := n0_; have BK101 := n1_; have HB := n2_; clear n0_ n1_ n2_; (try clear hb); (try clear hb2); (try clear hk); (try clear hi); (try clear ho0); have hcz66_0 : w65.cell? ⟨gb101, 0, none⟩ = some (.slice A0_0 l0_0.length c0_0) := (blk_cell BK101.out 0).trans rfl; have hcz66_1 : w65.cell? ⟨gb101, 1, none⟩ = some (.slice A0_1 l0_1.length c0_1) := (blk_cell BK101.out 1).trans rfl; have hfz66_0 := blk_frozen BK101.out 0; have hfz66_1 := blk_frozen BK101.out 1) | (go_at_call 44; (with_reducible refine (strike_Elements.calls kj3 _ _ l0_0 _ _ l0_1 _ _ l2 t112 t115 t118 _ ?side1 ?side2 ?side3 ?side4 ?side5 ?side6 A22.out).mono ?_); (case side1 => exact (Kd.C_below HR0_0.out HB.out)); (case side2 => exact HC0_0.out); (case side3 => exact (Kd.C_below HR0_1.out HB.out)); (case side4 => exact HC0_1.out); (case side5 => exact (Kd.C_below HR2.out HB.out)); (case side6 => exact HC2.out); rintro e w67 ⟨v113, v116, rfl, ho0, ho1, hb⟩; have n0_ := Aside0.mk (Kd.R_mono (Kd.R_told (Kd.R_told (Kd.R_old HO110.out hb) (Kd.R_base ho0)) (Kd.R_base ho1)) (fun _ h_ => h_.1)); have n1_ := Aside0.mk (Kd.R_lower (Kd.R_new' ho0 (Kd.R_lt HO110.out)) (below_size bB)); have n2_ := Aside0.mk (Kd.R_lower (Kd.R_new' ho1 (Kd.R_lt HO110.out)) (below_size bB)); have n3_ := Aside0.mk (blk_below BK101.out hb); have n4_ := Aside0.mk (below_step bB hb); clear HO110; clear BK101; clear HB; have HO110 := n0_; have HO114 := n1_; have HO117 := n2_; have BK101 := n3_; have HB := n4_; clear n0_ n1_ n2_ n3_ n4_; (try clear hb); (try clear hb2); (try clear hk); (try clear hi); (try clear ho0); (try clear ho1)) | (go_at_call 50; (with_reducible refine (verditerlaw04_known.calls kj3  t119 _ A61.out).mono ?_); rintro e w68 ⟨rfl, hb⟩; have n0_ := Aside0.mk (Kd.R_below HO110.out hb); have n1_ := Aside0.mk (Kd.R_below HO114.out hb); have n2_ := Aside0.mk (Kd.R_below HO117.out hb); have n3_ := Aside0.mk (blk_below BK101.out hb); have n4_ := Aside0.mk (below_step bB hb); clear HO110; clear HO114; clear HO117; clear BK101; clear HB; have HO110 := n0_; have HO114 := n1_; have HO117 := n2_; have BK101 := n3_; have HB := n4_; clear n0_ n1_ n2_ n3_ n4_; (try clear hb); (try clear hb2); (try clear hk); (try clear hi)))
     repeat (go_quiet (first | (go_at_call 53; (with_reducible refine (strike_Balances.calls kj3 _ _ l0_0 _ _ l0_1 _ _ l2 t106 t107 _ ?side1 ?side2 ?side3 ?side4 ?side5 ?side6 A20.out).mono ?_); (case side1 => exact (Kd.C_below HR0_0.out HB.out)); (case side2 => exact HC0_0.out); (case side3 => exact (Kd.C_below HR0_1.out HB.out)); (case side4 => exact HC0_1.out); (case side5 => exact (Kd.C_below HR2.out HB.out)); (case side6 => exact HC2.out); rintro e w63 ⟨rfl, hb⟩; have n0_ := Aside0.mk (blk_below BK101.out hb); have n1_ := Aside0.mk (below_step bB hb); clear BK101; clear HB; have BK101 := n0_; have HB := n1_; clear n0_ n1_; (try clear hb); (try clear hb2); (try clear hk); (try clear hi); have hcz64_0 : w63.cell? ⟨gb101, 0, none⟩ = some (.slice A0_0 l0_0.length c0_0) := (blk_cell BK101.out 0).trans rfl; have hcz64_1 : w63.cell? ⟨gb101, 1, none⟩ = some (.slice A0_1 l0_1.length c0_1) := (blk_cell BK101.out 1).trans rfl; have hfz64_0 := blk_frozen BK101.out 0; have hfz64_1 := blk_frozen BK101.out 1) | (go_at_call 42; (with_reducible refine (strike_Weigh.calls kj3 _ _ l0_0 _ _ l0_1 _ _ l1 t108 t111 _ ?side1 ?side2 ?side3 ?side4 ?side5 ?side6 A21.out).mono ?_); (case side1 => exact (Kd.C_below HR0_0.out HB.out)); (case side2 => exact HC0_0.out); (case side3 => exact (Kd.C_below HR0_1.out HB.out)); (case side4 => exact HC0_1.out); (case side5 => exact (Kd.C_below HR1.out HB.out)); (case side6 => exact HC1.out); rintro e w65 ⟨v109, rfl, ho0, hb⟩; have n0_ := Aside0.mk (Kd.R_lower ho0 (below_size bB)); have n1_ := Aside0.mk (blk_below BK101.out hb); have n2_ := Aside0.mk (below_step bB hb); clear BK101; clear HB; have HO110 := n0_; have BK101 := n1_; have HB := n2_; clear n0_ n1_ n2_; (try clear hb); (try clear hb2); (try clear hk); (try clear hi); (try clear ho0); have hcz66_0 : w65.cell? ⟨gb101, 0, none⟩ = some (.slice A0_0 l0_0.length c0_0) := (blk_cell BK101.out 0).trans rfl; have hcz66_1 : w65.cell? ⟨gb101, 1, none⟩ = some (.slice A0_1 l0_1.length c0_1) := (blk_cell BK101.out 1).trans rfl; have hfz66_0 := blk_frozen BK101.out 0; have hfz66_1 := blk_frozen BK101.out 1) | (go_at_call 44; (with_reducible refine (strike_Elements.calls kj3 _ _ l0_0 _ _ l0_1 _ _ l2 t112 t115 t118 _ ?side1 ?side2 ?side3 ?side4 ?side5 ?side6 A22.out).mono ?_); (case side1 => exact (Kd.C_below HR0_0.out HB.out)); (case side2 => exact HC0_0.out); (case side3 => exact (Kd.C_below HR0_1.out HB.out)); (case side4 => exact HC0_1.out); (case side5 => exact (Kd.C_below HR2.out HB.out)); (case side6 => exact HC2.out); rintro e w67 ⟨v113, v116, rfl, ho0, ho1, hb⟩; have n0_ := Aside0.mk (Kd.R_mono (Kd.R_told (Kd.R_told (Kd.R_old HO110.out hb) (Kd.R_base ho0)) (Kd.R_base ho1)) (fun _ h_ => h_.1)); have n1_ := Aside0.mk (Kd.R_lower (Kd.R_new' ho0 (Kd.R_lt HO110.out)) (below_size bB)); have n2_ := Aside0.mk (Kd.R_lower (Kd.R_new' ho1 (Kd.R_lt HO110.out)) (below_size bB)); have n3_ := Aside0.mk (blk_below BK101.out hb); have n4_ := Aside0.mk (below_step bB hb); clear HO110; clear BK101; clear HB; have HO110 := n0_; have HO114 := n1_; have HO117 := n2_; have BK101 := n3_; have HB := n4_; clear n0_ n1_ n2_ n3_ n4_; (try clear hb); (try clear hb2); (try clear hk); (try clear hi); (try clear ho0); (try clear ho1)) | (go_at_call 50; (with_reducible refine (verditerlaw04_known.calls kj3  t119 _ A61.out).mono ?_); rintro e w68 ⟨rfl, hb⟩; have n0_ := Aside0.mk (Kd.R_below HO110.out hb); have n1_ := Aside0.mk (Kd.R_below HO114.out hb); have n2_ := Aside0.mk (Kd.R_below HO117.out hb); have n3_ := Aside0.mk (blk_below BK101.out hb); have n4_ := Aside0.mk (below_step bB hb); clear HO110; clear HO114; clear HO117; clear BK101; clear HB; have HO110 := n0_; have HO114 := n1_; have HO117 := n2_; have BK101 := n3_; have HB := n4_; clear n0_ n1_ n2_ n3_ n4_; (try clear hb); (try clear hb2); (try clear hk); (try clear hi))); try go_wp2_with (first | (go_at_call 53; (with_reducible refine (strike_Balances.calls kj3 _ _ l0_0 _ _ l0_1 _ _ l2 t106 t107 _ ?side1 ?side2 ?side3 ?side4 ?side5 ?side6 A20.out).mono ?_); (case side1 => exact (Kd.C_below HR0_0.out HB.out)); (case side2 => exact HC0_0.out); (case side3 => exact (Kd.C_below HR0_1.out HB.out)); (case side4 => exact HC0_1.out); (case side5 => exact (Kd.C_below HR2.out HB.out)); (case side6 => exact HC2.out); rintro e w63 ⟨rfl, hb⟩; have n0_ := Aside0.mk (blk_below BK101.out hb); have n1_ := Aside0.mk (below_step bB hb); clear BK101; clear HB; have BK101 := n0_; have HB := n1_; clear n0_ n1_; (try clear hb); (try clear hb2); (try clear hk); (try clear hi); have hcz64_0 : w63.cell? ⟨gb101, 0, none⟩ = some (.slice A0_0 l0_0.length c0_0) := (blk_cell BK101.out 0).trans rfl; have hcz64_1 : w63.cell? ⟨gb101, 1, none⟩ = some (.slice A0_1 l0_1.length c0_1) := (blk_cell BK101.out 1).trans rfl; have hfz64_0 := blk_frozen BK101.out 0; have hfz64_1 := blk_frozen BK101.out 1) | (go_at_call 42; (with_reducible refine (strike_Weigh.calls kj3 _ _ l0_0 _ _ l0_1 _ _ l1 t108 t111 _ ?side1 ?side2 ?side3 ?side4 ?side5 ?side6 A21.out).mono ?_); (case side1 => exact (Kd.C_below HR0_0.out HB.out)); (case side2 => exact HC0_0.out); (case side3 => exact (Kd.C_below HR0_1.out HB.out)); (case side4 => exact HC0_1.out); (case side5 => exact (Kd.C_below HR1.out HB.out)); (case side6 => exact HC1.out); rintro e w65 ⟨v109, rfl, ho0, hb⟩; have n0_ := Aside0.mk (Kd.R_lower ho0 (below_size bB)); have n1_ := Aside0.mk (blk_below BK101.out hb); have n2_ := Aside0.mk (below_step bB hb); clear BK101; clear HB; have HO110 := n0_; have BK101 := n1_; have HB := n2_; clear n0_ n1_ n2_; (try clear hb); (try clear hb2); (try clear hk); (try clear hi); (try clear ho0); have hcz66_0 : w65.cell? ⟨gb101, 0, none⟩ = some (.slice A0_0 l0_0.length c0_0) := (blk_cell BK101.out 0).trans rfl; have hcz66_1 : w65.cell? ⟨gb101, 1, none⟩ = some (.slice A0_1 l0_1.length c0_1) := (blk_cell BK101.out 1).trans rfl; have hfz66_0 := blk_frozen BK101.out 0; have hfz66_1 := blk_frozen BK101.out 1) | (go_at_call 44; (with_reducible refine (strike_Elements.calls kj3 _ _ l0_0 _ _ l0_1 _ _ l2 t112 t115 t118 _ ?side1 ?side2 ?side3 ?side4 ?side5 ?side6 A22.out).mono ?_); (case side1 => exact (Kd.C_below HR0_0.out HB.out)); (case side2 => exact HC0_0.out); (case side3 => exact (Kd.C_below HR0_1.out HB.out)); (case side4 => exact HC0_1.out); (case side5 => exact (Kd.C_below HR2.out HB.out)); (case side6 => exact HC2.out); rintro e w67 ⟨v113, v116, rfl, ho0, ho1, hb⟩; have n0_ := Aside0.mk (Kd.R_mono (Kd.R_told (Kd.R_told (Kd.R_old HO110.out hb) (Kd.R_base ho0)) (Kd.R_base ho1)) (fun _ h_ => h_.1)); have n1_ := Aside0.mk (Kd.R_lower (Kd.R_new' ho0 (Kd.R_lt HO110.out)) (below_size bB)); have n2_ := Aside0.mk (Kd.R_lower (Kd.R_new' ho1 (Kd.R_lt HO110.out)) (below_size bB)); have n3_ := Aside0.mk (blk_below BK101.out hb); have n4_ := Aside0.mk (below_step bB hb); clear HO110; clear BK101; clear HB; have HO110 := n0_; have HO114 := n1_; have HO117 := n2_; have BK101 := n3_; have HB := n4_; clear n0_ n1_ n2_ n3_ n4_; (try clear hb); (try clear hb2); (try clear hk); (try clear hi); (try clear ho0); (try clear ho1)) | (go_at_call 50; (with_reducible refine (verditerlaw04_known.calls kj3  t119 _ A61.out).mono ?_); rintro e w68 ⟨rfl, hb⟩; have n0_ := Aside0.mk (Kd.R_below HO110.out hb); have n1_ := Aside0.mk (Kd.R_below HO114.out hb); have n2_ := Aside0.mk (Kd.R_below HO117.out hb); have n3_ := Aside0.mk (blk_below BK101.out hb); have n4_ := Aside0.mk (below_step bB hb); clear HO110; clear HO114; clear HO117; clear BK101; clear HB; have HO110 := n0_; have HO114 := n1_; have HO117 := n2_; have BK101 := n3_; have HB := n4_; clear n0_ n1_ n2_ n3_ n4_; (try clear hb); (try clear hb2); (try clear hk); (try clear hi))))
     go_ret
     exact ⟨by first | rfl | (simp [errW_none, errW_some] <;> rfl) | (simp [*, errW_none, errW_some] <;> rfl), bB⟩

end Go.Proofs.Ytdneelgnmnpanaa.P
