/- What the claim's last text wants, part 3: functions of the translation as Lean functions with their contracts, and plain theorems; no conditions beyond those that each theorem names. -/
import Derived.Test.YtdneelgnmnpanaaZCa2
import Derived.Great.BuildSlice
import Derived.Lib.AppendZeros
import Derived.WalkSpells
import Derived.Deep.MidRow
import Derived.Deep.WholeRow
import Derived.RegionTactic
import Derived.Deep.QuietTactic
import Derived.BigQuiet
import Derived.ChangeAlike
import Derived.Laws.Rows
import Derived.ChangeKeysEq
set_option linter.unusedVariables false
set_option linter.unusedSimpArgs false
section
namespace Go.Proofs.Ytdneelgnmnpanaa.P
open Go.RowKit Go.Proofs.YtdneelgnmnpanaaW.PrintWords Go.Proofs.YtdneelgnmnpanaaW.PrintLast Go.Proofs.YtdneelgnmnpanaaW.PrintMore
attribute [local go_sem] max2_int min2_int max_two min_two max_three min_three max_four min_four
mutual
def Qs.l0 : Nat → List (List Int) → Int → List (List Int) → List (List Int) → Option ((List (List Int)))
 | 0, _, _, _, _ => none
 | k + 1, x3, x4, av, aw => if x4 < (av.length : Int) then ((some (([] : List Int) : List Int)).bind fun fT => (if 0 ≤ x4 then (if fT.length + (Qu av x4).length < 17592186044416 then (if x3.length < 5864062014805 then (Qs.l0 k (x3 ++ [(fT ++ (Qu av x4))]) (wrap64 (x4 + 1)) av aw) else (none)) else (none)) else (none))) else (Qs.l1 k x3 0 av aw)
def Qs.l1 : Nat → List (List Int) → Int → List (List Int) → List (List Int) → Option ((List (List Int)))
 | 0, _, _, _, _ => none
 | k + 1, x3, x5, av, aw => if x5 < (aw.length : Int) then (Qs.l2 k x3 x5 ([] : List Int) 0 av aw) else (some x3)
def Qs.l2 : Nat → List (List Int) → Int → List Int → Int → List (List Int) → List (List Int) → Option ((List (List Int)))
 | 0, _, _, _, _, _, _ => none
 | k + 1, x3, x5, x6, x7, av, aw => if 0 ≤ x5 then (if x5 < (aw.length : Int) then (if x7 < ((Qu aw x5).length : Int) then (if 0 ≤ x7 then (if x6.length < 17592186044416 then (Qs.l2 k x3 x5 (x6 ++ [wrap64 (-(rd (Qu aw x5) x7))]) (wrap64 (x7 + 1)) av aw) else (none)) else (none)) else (if x3.length < 5864062014805 then (Qs.l1 k (x3 ++ [x6]) (wrap64 (x5 + 1)) av aw) else (none))) else (none)) else (none)
end
def Qs.f (k : Nat) (ae : List (List Int)) (af : List (List Int)) : Option ((List (List Int))) := Qs.l0 k ([] : List (List Int)) 0 ae af
set_option maxHeartbeats 8000000 in
set_option maxRecDepth 100000 in
theorem Qs.calls (k : Nat) (ak : Option Addr) (an : Nat) (ae : List (List Int)) (aj : Option Addr) (al : Nat) (af : List (List Int)) (r : List (List Int)) (w : World) (aM : Kd.C (Kd.slice 3 (Kd.int .i64)) w ak ae.length ae) (aQ : ae.length ≤ an) (aK : Kd.C (Kd.slice 3 (Kd.int .i64)) w aj af.length af) (aN : af.length ≤ al) (h : Qs.f k ae af = some r) :
  Calls Try.prog 96 #[.agg #[.slice ak ae.length an, .slice aj af.length al]] w fun e w' => ∃ v0_ : Value, e = .returned (v0_) ∧ Kd.S (Kd.slice 3 (Kd.int .i64)) 28 w' w.heap.size (fun _ => True) v0_ r ∧ Below w.heap.size w w' := by
 have ej := Try.underlying24; have ay := aa.mk aM; have aA := aa.mk aQ; clear aM aQ; have az := aa.mk aK; have aC := aa.mk aN; clear aK aN; have HB := aa.mk (Below.refl w.heap.size w); have H : (Qs.l0 k ([] : List (List Int)) 0 ae af) = some r := h; clear h; have H' := aa.mk H; clear H; go_enter Try.func96, Try.ntmps96; go_wp2_with (first | ((with_reducible refine QN (N := 1) rfl ?_); refine Q3 ?hg (N := 1) ?hd (cs := #[.slice ak ae.length an, .slice aj af.length al]) (t := 24) ?hr ?_; (case hd => rfl); (case hg => rfl); (case hr => first | (go_simp; done) | (go_simp; rfl)); intro ag hg w2 hbox hb; have ab := aa.mk (hbox); have bh := aa.mk ((by rw [hg]; exact (Qb bB) : w.heap.size ≤ ag)); have aT := aa.mk ((by rw [hg]; exact (Qb bB) : w.heap.size ≤ ag)); replace HB := aa.mk (Qa bB hb); clear hb hbox hg))
 go_loopg [3, 4] k (fun kq v3 v4 w' => ∃ (cy : List (List Int)) (bc : Int), v4 = .int .i64 bc ∧ aa (Qs.l0 kq cy bc ae af = some r) ∧ aa (kq ≤ k) ∧ aa (Kd.S (Kd.slice 3 (Kd.int .i64)) 28 w' w.heap.size (fun _ => True) v3 cy) ∧ aa (w'.heap[ag]? = some (.cells #[(.slice ak ae.length an), (.slice aj af.length al)] 24 (0, 0))) ∧ aa (Below w.heap.size w w'))
 case atStart => exact ⟨(([] : List (List Int))), (0), (by first | rfl | (simp; done) | (simp [*]; done)), H', ⟨Nat.le_refl _⟩, ⟨by first | exact Kd.Yy _ _ _ _ _ | exact Kd.Yv _ _ _ _ _ | exact Kd.V_nil _ _ _ _ _ | exact Kd.Q_nil _ _ _ _ _ | exact Kd.Yr _ _ _ _ _⟩, ⟨by (with_reducible repeat (first | refine Qx ?_ _ | refine QA ?_ | refine Qw ?_ _)); exact ab.out⟩, ⟨bB⟩⟩
 case round =>
  clear H'; try clear p2
  obtain ⟨cy, bc, rfl, HA, HK1, bj, ab, HB⟩ := hrel; cases gk with
  | zero => exact absurd HA.out (by simp [Qs.l0])
  | succ k1 =>
   have H := HA.out; clear HA; simp only [Qs.l0] at H; by_cases c3 : bc < (ae.length : Int)
   ·rw [if_pos c3] at H; have bL : decide (bc < (ae.length : Int)) = true := decide_eq_true c3; clear c3; obtain ⟨fT, eF⟩ : ∃ y_ : List Int, y_ = (([] : List Int)) := ⟨_, rfl⟩; replace H : (if 0 ≤ bc then (if fT.length + (Qu ae bc).length < 17592186044416 then (if cy.length < 5864062014805 then (Qs.l0 k1 (cy ++ [(fT ++ (Qu ae bc))]) (wrap64 (bc + 1)) ae af) else (none)) else (none)) else (none)) = some r := by first | (rw [eF]; with_reducible exact H) | (have H2_ := (Option.bind_some _ _).symm.trans H; rw [eF]; with_reducible exact H2_) | (have H2_ := (Option.bind_some _ _).symm.trans H; with_reducible exact H2_) | with_reducible exact H | (rw [eF]; exact H) | exact H
    have kV := aa.mk eF; clear eF; by_cases c4 : 0 ≤ bc
    ·rw [if_pos c4] at H; have bI : decide (0 ≤ bc) = true := decide_eq_true c4; clear c4; by_cases c5 : fT.length + (Qu ae bc).length < 17592186044416
     ·rw [if_pos c5] at H; have ux := aa.mk c5; clear c5; obtain ⟨gE, gP⟩ : ∃ y_ : List Int, y_ = (fT ++ (Qu ae bc)) := ⟨_, rfl⟩; replace H : (if cy.length < 5864062014805 then (Qs.l0 k1 (cy ++ [gE]) (wrap64 (bc + 1)) ae af) else (none)) = some r := by first | (rw [gP]; with_reducible exact H) | (have H2_ := (Option.bind_some _ _).symm.trans H; rw [gP]; with_reducible exact H2_) | (have H2_ := (Option.bind_some _ _).symm.trans H; with_reducible exact H2_) | with_reducible exact H | (rw [gP]; exact H) | exact H
      have oC := aa.mk gP; clear gP; by_cases c6 : cy.length < 5864062014805
      ·rw [if_pos c6] at H; have zX := aa.mk c6; clear c6; obtain ⟨ft, eC⟩ : ∃ y_ : List (List Int), y_ = (cy ++ [gE]) := ⟨_, rfl⟩; replace H : (Qs.l0 k1 ft (wrap64 (bc + 1)) ae af) = some r := by first | (rw [eC]; with_reducible exact H) | (have H2_ := (Option.bind_some _ _).symm.trans H; rw [eC]; with_reducible exact H2_) | (have H2_ := (Option.bind_some _ _).symm.trans H; with_reducible exact H2_) | with_reducible exact H | (rw [eC]; exact H) | exact H
       have mW := aa.mk eC; clear eC; have H' := aa.mk H; clear H; have fl : wr.cell? ⟨ag, 0, none⟩ = some (.slice ak ae.length an) := (Qd ab.out 0).trans rfl; have fk : wr.cell? ⟨ag, 1, none⟩ = some (.slice aj af.length al) := (Qd ab.out 1).trans rfl; have fj := Qc ab.out 0; have fi := Qc ab.out 1; go_wp2_with (first | ((with_reducible refine QN (N := 16) rfl ?_); refine Kd.YU (Kd.int .i64) _ 3 ?hg (N := 16) ?hd (xs := ([] : List Int)) (inner := []) (ok := fun _ => True) (okp := fun _ => True) ?hr ?hp (fun _ hk => hk) trivial (Below.refl _ _) (Nat.le_refl _) (by simp) ?_; (case hd => rfl); (case hg => rfl); (case hr => first | (go_simp; done) | (go_simp; rfl)); (case hp => exact (Reps.none _ _)); intro gG w8 ho9 hb hg_ hnew_; clear hg_ hnew_; (first | rw [← kV.out] at ho9 | (simp only [Int.reduceToNat] at ho9; rw [← kV.out] at ho9)); replace bj := aa.mk (Kd.Vo bj.out (Kd.QQ ho9) hb); have ba := aa.mk (Kd.Zh ho9 (Qb bB)); replace ab := aa.mk (Qp ab.out hb); replace HB := aa.mk (Qa bB hb); clear hb ho9; have du : w8.cell? ⟨ag, 0, none⟩ = some (.slice ak ae.length an) := (Qd ab.out 0).trans rfl; have dr : w8.cell? ⟨ag, 1, none⟩ = some (.slice aj af.length al) := (Qd ab.out 1).trans rfl; have dq := Qc ab.out 0; have dp := Qc ab.out 1; have bU : 0 ≤ (bc : Int) := of_decide_eq_true (by assumption); have bT : bc < (ae.length : Int) := of_decide_eq_true (by assumption); obtain ⟨eR, k9, nG, fo, bm, dP, dT⟩ := ZJ ay.out bc bU bT; cases fo; replace bm := (HB.out.cell (World.block_lt_of_cell? w _ bm)).trans bm; have cG := aa.mk dT; have ma := aa.mk dP; clear dT dP; replace bU := eq_true bU; replace bT := eq_true bT) | ((with_reducible refine Zs (b := .append) (xs := #[.tmp 16, .tmp 21]) rfl ?_); at_builtin; refine Kd.Yz (Kd.int .i64) (w0 := w) w.heap.size rfl (.tmp 16) (.tmp 21) 28 3 (.int .i64 0) 8 rfl Try.underlying28 info3 rfl (by decide) (by omega) gG fT (Qu ae bc) _ _ _ (fun _ => True) (fun _ => False) rfl rfl ?aO ?aR (fun _ _ h => h) (fun _ h => h.elim) ?aF ?aB ?aS ?aL ?_; (case aR => exact (Kd.Qq cG.out HB.out)); (case aB => exact bB); (case aF => exact (fun _ _ => trivial)); (case aO => exact ba.out); (case aS => exact (Qb bB)); (case aL => have := ux.out; omega); intro mh w11 ho hb hg hat; rw [← oC.out] at ho; replace bj := aa.mk (Kd.S_after (ok := (fun _ => True)) bj.out hg hat); replace ab := aa.mk (Yq (g := ag) (o := .cells #[.slice (some eR) ae.length an, .slice aj af.length al] 24 (0, 0)) (by (with_reducible repeat (first | refine Qx ?_ _ | refine QA ?_ | refine Qw ?_ _)); exact ab.out) hg (Kd.R_ne ba.out ab.out (by decide))); replace HB := aa.mk (hb); have bk := aa.mk (ho); clear ba; clear ho hb hg hat; obtain ⟨ig, ic, uc⟩ := Kd.Zg bk.out; subst uc) | ((with_reducible refine Zs (b := .append) (xs := #[.tmp 15, .tmp 23]) rfl ?_); at_builtin; refine Kd.U0 (Kd.slice 3 (Kd.int .i64)) (w0 := w) w.heap.size rfl (.tmp 15) (.tmp 23) 22 28 (.slice none 0 0) 24 rfl Try.underlying22 info28 rfl (by decide) (by omega) u3 cy gE [.slice ig gE.length ic] (fun _ => True) (fun k_ => some k_ = (.slice ig gE.length ic : Value).ownBlock) rfl rfl ?aP (fun k_ hk_ => ((Kd.Zc (ok' := fun k_ => ((fun _ => True)) k_ ∧ some k_ ≠ (u3 : Value).ownBlock) (Kd.ZC (bk.out) (Kd.Vt bj.out) (by decide)) (fun k_ hk => ⟨trivial, hk.2⟩))).1 k_ hk_.symm) ?aF ?aO ?aB ?aS ?aL ?_; (case aP => exact Kd.M_row (Kd.Zc (Kd.Ux rfl (Kd.Zc (ok' := fun k_ => ((fun _ => True)) k_ ∧ some k_ ≠ (u3 : Value).ownBlock) (Kd.ZC (bk.out) (Kd.Vt bj.out) (by decide)) (fun k_ hk => ⟨trivial, hk.2⟩))) (fun _ h_ => h_))); (case aB => exact bB); (case aF => exact (fun _ _ => trivial)); (case aO => exact (by (with_reducible repeat (first | apply Kd.S_alloc | apply Kd.Yp | apply Kd.S_drew)); exact Kd.VI bj.out (fun k_ hk => ⟨trivial, fun e_ => hk.2 e_⟩))); (case aS => exact (Qb bB)); (case aL => have := zX.out; omega); intro mg w12 ho hb hg hat; rw [← mW.out] at ho; replace ab := aa.mk (Yq (g := ag) (o := .cells #[.slice (some eR) ae.length an, .slice aj af.length al] 24 (0, 0)) (by (with_reducible repeat (first | refine Qx ?_ _ | refine QA ?_ | refine Qw ?_ _)); exact ab.out) hg (Kd.S_ne bj.out ab.out (by decide))); replace HB := aa.mk (hb); have bz := aa.mk (ho); clear bk bj; clear ho hb hg hat))
       go_roundg k1
       case measure => have := HK1.out; omega
       case rel => exact ⟨(ft), (wrap64 (bc + 1)), (by first | rfl | (simp; done) | (simp [*]; done)), H', ⟨by have := HK1.out; omega⟩, ⟨by (with_reducible repeat (first | apply Kd.S_alloc | apply Kd.Yp | apply Kd.S_drew)); exact bz.out⟩, ⟨by (with_reducible repeat (first | refine Qx ?_ _ | refine QA ?_ | refine Qw ?_ _)); exact ab.out⟩, ⟨bB⟩⟩
      ·rw [if_neg c6] at H; exact absurd H (by simp)
     ·rw [if_neg c5] at H; exact absurd H (by simp)
    ·rw [if_neg c4] at H; exact absurd H (by simp)
   ·rw [if_neg c3] at H; have bL : decide (bc < (ae.length : Int)) = false := decide_eq_false c3; clear c3; have H' := aa.mk H; clear H; have dg : wr.cell? ⟨ag, 0, none⟩ = some (.slice ak ae.length an) := (Qd ab.out 0).trans rfl; have df : wr.cell? ⟨ag, 1, none⟩ = some (.slice aj af.length al) := (Qd ab.out 1).trans rfl; have de := Qc ab.out 0; have dd := Qc ab.out 1; go_wp2; go_loopg [3, 5] k1 (fun kq v3 v5 w' => ∃ (cl : List (List Int)) (dI : Int), v5 = .int .i64 dI ∧ aa (Qs.l1 kq cl dI ae af = some r) ∧ aa (kq ≤ k1) ∧ aa (Kd.S (Kd.slice 3 (Kd.int .i64)) 28 w' w.heap.size (fun _ => True) v3 cl) ∧ aa (w'.heap[ag]? = some (.cells #[(.slice ak ae.length an), (.slice aj af.length al)] 24 (0, 0))) ∧ aa (Below w.heap.size w w'))
    case atStart => exact ⟨(cy), (0), (by first | rfl | (simp; done) | (simp [*]; done)), H', ⟨Nat.le_refl _⟩, ⟨by (with_reducible repeat (first | apply Kd.S_alloc | apply Kd.Yp | apply Kd.S_drew)); exact bj.out⟩, ⟨by (with_reducible repeat (first | refine Qx ?_ _ | refine QA ?_ | refine Qw ?_ _)); exact ab.out⟩, ⟨bB⟩⟩
    case round =>
     clear H'; try clear c1
     try clear p1
     try clear q1
     try clear hx1
     try clear p2
     try clear c3
     try clear bL
     try clear c4
     try clear bI
     try clear c5
     try clear c6
     try clear p6
     try clear c9
     try clear c10
     try clear p10
     try clear q10
     try clear ir
     try clear du
     try clear dr
     try clear dg
     try clear df
     try clear fl
     try clear fk
     try clear dq
     try clear dp
     try clear de
     try clear dd
     try clear fj
     try clear fi
     try clear bm
     try clear bU
     try clear p2
     try clear bT
     obtain ⟨cl, dI, rfl, HA, HK2, bj, ab, HB⟩ := hrel; cases gk with
     | zero => exact absurd HA.out (by simp [Qs.l1])
     | succ k2 =>
      have H := HA.out; clear HA; simp only [Qs.l1] at H; by_cases c15 : dI < (af.length : Int)
      ·rw [if_pos c15] at H; have fP : decide (dI < (af.length : Int)) = true := decide_eq_true c15; clear c15; have H' := aa.mk H; clear H; have e7 : wr.cell? ⟨ag, 0, none⟩ = some (.slice ak ae.length an) := (Qd ab.out 0).trans rfl; have e6 : wr.cell? ⟨ag, 1, none⟩ = some (.slice aj af.length al) := (Qd ab.out 1).trans rfl; have eY := Qc ab.out 0; have eX := Qc ab.out 1; go_wp2; go_loopg [6, 7] k2 (fun kq v6 v7 w' => ∃ (cI : List Int) (dj : Int), v7 = .int .i64 dj ∧ aa (Qs.l2 kq cl dI cI dj ae af = some r) ∧ aa (kq ≤ k2) ∧ aa (Kd.S (Kd.slice 3 (Kd.int .i64)) 28 w' w.heap.size (fun k_ => some k_ ≠ (v6 : Value).ownBlock) u3 cl) ∧ aa (Kd.R (Kd.int .i64) 3 w' w.heap.size (fun _ => True) v6 cI) ∧ aa (w'.heap[ag]? = some (.cells #[(.slice ak ae.length an), (.slice aj af.length al)] 24 (0, 0))) ∧ aa (Below w.heap.size w w'))
       case atStart => exact ⟨(([] : List Int)), (0), (by first | rfl | (simp; done) | (simp [*]; done)), H', ⟨Nat.le_refl _⟩, ⟨by (with_reducible repeat (first | apply Kd.S_alloc | apply Kd.Yp | apply Kd.S_drew)); exact Kd.VI bj.out (fun _ hk => (by simp [Value.ownBlock]))⟩, ⟨by first | exact Kd.Yr _ _ _ _ _ | exact Kd.Yv _ _ _ _ _ | exact Kd.V_nil _ _ _ _ _ | exact Kd.Q_nil _ _ _ _ _ | exact Kd.Yy _ _ _ _ _⟩, ⟨by (with_reducible repeat (first | refine Qx ?_ _ | refine QA ?_ | refine Qw ?_ _)); exact ab.out⟩, ⟨bB⟩⟩
       case round =>
        clear H'; try clear c1
        try clear p1
        try clear q1
        try clear hx1
        try clear p2
        try clear c3
        try clear bL
        try clear c4
        try clear bI
        try clear c5
        try clear c6
        try clear p6
        try clear c9
        try clear c10
        try clear p10
        try clear q10
        try clear ir
        try clear c15
        try clear fP
        try clear du
        try clear dr
        try clear dg
        try clear df
        try clear e7
        try clear e6
        try clear fl
        try clear fk
        try clear dq
        try clear dp
        try clear de
        try clear dd
        try clear eY
        try clear eX
        try clear fj
        try clear fi
        try clear bm
        try clear p1
        try clear p10
        try clear bU
        try clear p2
        try clear p6
        try clear q1
        try clear q10
        try clear bT
        obtain ⟨cI, dj, rfl, HA, HK3, bj, bA, ab, HB⟩ := hrel; cases gk with
        | zero => exact absurd HA.out (by simp [Qs.l2])
        | succ k3 =>
         have H := HA.out; clear HA; simp only [Qs.l2] at H; by_cases c17 : 0 ≤ dI
         ·rw [if_pos c17] at H; have gp : decide (0 ≤ dI) = true := decide_eq_true c17; clear c17; by_cases c18 : dI < (af.length : Int)
          ·rw [if_pos c18] at H; have iW : decide (dI < (af.length : Int)) = true := decide_eq_true c18; clear c18; by_cases c19 : dj < ((Qu af dI).length : Int)
           ·rw [if_pos c19] at H; have eO : decide (dj < ((Qu af dI).length : Int)) = true := decide_eq_true c19; clear c19; by_cases c20 : 0 ≤ dj
            ·rw [if_pos c20] at H; have kS : decide (0 ≤ dj) = true := decide_eq_true c20; clear c20; by_cases c21 : cI.length < 17592186044416
             ·rw [if_pos c21] at H; have wA := aa.mk c21; clear c21; obtain ⟨kt, gL⟩ : ∃ y_ : List Int, y_ = (cI ++ [wrap64 (-(rd (Qu af dI) dj))]) := ⟨_, rfl⟩; replace H : (Qs.l2 k3 cl dI kt (wrap64 (dj + 1)) ae af) = some r := by first | (rw [gL]; with_reducible exact H) | (have H2_ := (Option.bind_some _ _).symm.trans H; rw [gL]; with_reducible exact H2_) | (have H2_ := (Option.bind_some _ _).symm.trans H; with_reducible exact H2_) | with_reducible exact H | (rw [gL]; exact H) | exact H
              have oA := aa.mk gL; clear gL; have H' := aa.mk H; clear H; have rb : wr.cell? ⟨ag, 0, none⟩ = some (.slice ak ae.length an) := (Qd ab.out 0).trans rfl; have ra : wr.cell? ⟨ag, 1, none⟩ = some (.slice aj af.length al) := (Qd ab.out 1).trans rfl; have qW := Qc ab.out 0; have qV := Qc ab.out 1; have eJ : 0 ≤ (dI : Int) := of_decide_eq_true (by assumption); have eI : dI < (af.length : Int) := of_decide_eq_true (by assumption); obtain ⟨fS, qy, nE, kL, bt, fz, fC⟩ := ZJ az.out dI eJ eI; cases kL; replace bt := (HB.out.cell (World.block_lt_of_cell? w _ bt)).trans bt; have kp := aa.mk fC; have oO := aa.mk fz; clear fC fz; replace eJ := eq_true eJ; replace eI := eq_true eI; have jn : 0 ≤ (dI : Int) := of_decide_eq_true (by assumption); have jj : dI < (af.length : Int) := of_decide_eq_true (by assumption); obtain ⟨mU, Aj, zU, pT, cj, nY, n7⟩ := ZJ az.out dI jn jj; obtain rfl : fS = mU := (by injection pT); replace cj := (HB.out.cell (World.block_lt_of_cell? w _ cj)).trans cj; have rC := aa.mk n7; have yq := aa.mk nY; clear n7 nY; replace jn := eq_true jn; replace jj := eq_true jj; have ea_ := Option.some.inj (bt.symm.trans cj); injection ea_ with ea_ en_ ec_
              subst ea_; subst ec_; clear en_; have nh : 0 ≤ (dj : Int) := of_decide_eq_true (by assumption); have na : dj < ((Qu af dI).length : Int) := of_decide_eq_true (by assumption); obtain ⟨qf, uj, eT⟩ := Kd.Zi rC.out dj nh na; cases uj; replace eT := (HB.out.cell (World.block_lt_of_cell? w _ eT)).trans eT; replace nh := eq_true nh; replace na := eq_true na; go_wp2_with (first | ((with_reducible refine Zs (b := .append) (xs := #[.tmp 42, .tmp 52]) rfl ?_); at_builtin; refine Kd.Ys (Kd.int .i64) (w0 := w) w.heap.size rfl (.tmp 42) (.tmp 52) 28 3 (.int .i64 0) 8 rfl Try.underlying28 info3 rfl (by decide) (by omega) u6 cI (wrap64 (-(rd (Qu af dI) dj))) [.int .i64 (wrap64 (-(rd (Qu af dI) dj)))] (fun _ => True) (fun _ => False) rfl rfl ?aP (fun _ hk => hk.elim) ?aF ?aO ?aB ?aS ?aL ?_; (case aP => exact rfl); (case aB => exact bB); (case aF => exact (fun _ _ => trivial)); (case aO => exact bA.out); (case aS => exact (Qb bB)); (case aL => have := wA.out; omega); intro uR w23 ho hb hg hat; rw [← oA.out] at ho; replace bj := aa.mk (Kd.S_after (ok := (fun _ => True)) (by (with_reducible repeat (first | apply Kd.S_alloc | apply Kd.Yp | apply Kd.S_drew)); exact Kd.VI bj.out (fun _ hk => ⟨trivial, hk⟩)) hg hat); replace ab := aa.mk (Yq (g := ag) (o := .cells #[.slice ak ae.length an, .slice (some fS) af.length al] 24 (0, 0)) (by (with_reducible repeat (first | refine Qx ?_ _ | refine QA ?_ | refine Qw ?_ _)); exact ab.out) hg (Kd.R_ne bA.out ab.out (by decide))); replace HB := aa.mk (hb); have ch := aa.mk (ho); clear bA; clear ho hb hg hat))
              go_roundg k3
              case measure => have := HK1.out; have := HK2.out; have := HK3.out; omega
              case rel => exact ⟨(kt), (wrap64 (dj + 1)), (by first | rfl | (simp; done) | (simp [*]; done)), H', ⟨by have := HK1.out; have := HK2.out; have := HK3.out; omega⟩, ⟨by (with_reducible repeat (first | apply Kd.S_alloc | apply Kd.Yp | apply Kd.S_drew)); exact Kd.VI bj.out (fun _ hk => hk.2)⟩, ⟨by (with_reducible repeat (first | apply Kd.R_alloc | apply Kd.R_drewN | apply Kd.QO)); exact ch.out⟩, ⟨by (with_reducible repeat (first | refine Qx ?_ _ | refine QA ?_ | refine Qw ?_ _)); exact ab.out⟩, ⟨bB⟩⟩
             ·rw [if_neg c21] at H; exact absurd H (by simp)
            ·rw [if_neg c20] at H; exact absurd H (by simp)
           ·rw [if_neg c19] at H; have eO : decide (dj < ((Qu af dI).length : Int)) = false := decide_eq_false c19; clear c19; by_cases c24 : cl.length < 5864062014805
            ·rw [if_pos c24] at H; have wy := aa.mk c24; clear c24; obtain ⟨gD, gK⟩ : ∃ y_ : List (List Int), y_ = (cl ++ [cI]) := ⟨_, rfl⟩; replace H : (Qs.l1 k3 gD (wrap64 (dI + 1)) ae af) = some r := by first | (rw [gK]; with_reducible exact H) | (have H2_ := (Option.bind_some _ _).symm.trans H; rw [gK]; with_reducible exact H2_) | (have H2_ := (Option.bind_some _ _).symm.trans H; with_reducible exact H2_) | with_reducible exact H | (rw [gK]; exact H) | exact H
             have ox := aa.mk gK; clear gK; have H' := aa.mk H; clear H; have yj : wr.cell? ⟨ag, 0, none⟩ = some (.slice ak ae.length an) := (Qd ab.out 0).trans rfl; have yi : wr.cell? ⟨ag, 1, none⟩ = some (.slice aj af.length al) := (Qd ab.out 1).trans rfl; have xR := Qc ab.out 0; have xQ := Qc ab.out 1; have eJ : 0 ≤ (dI : Int) := of_decide_eq_true (by assumption); have eI : dI < (af.length : Int) := of_decide_eq_true (by assumption); obtain ⟨fS, qy, nE, kL, bt, fz, fC⟩ := ZJ az.out dI eJ eI; cases kL; replace bt := (HB.out.cell (World.block_lt_of_cell? w _ bt)).trans bt; have kp := aa.mk fC; have oO := aa.mk fz; clear fC fz; replace eJ := eq_true eJ; replace eI := eq_true eI; obtain ⟨oZ, oW, pP⟩ := Kd.Zg bA.out; subst pP; go_wp2_with (first | ((with_reducible refine Zs (b := .append) (xs := #[.tmp 54, .tmp 56]) rfl ?_); at_builtin; refine Kd.U0 (Kd.slice 3 (Kd.int .i64)) (w0 := w) w.heap.size rfl (.tmp 54) (.tmp 56) 22 28 (.slice none 0 0) 24 rfl Try.underlying22 info28 rfl (by decide) (by omega) u3 cl cI [.slice oZ cI.length oW] (fun _ => True) (fun k_ => some k_ = (.slice oZ cI.length oW : Value).ownBlock) rfl rfl ?aP (fun k_ hk_ => ((Kd.Zc (ok' := fun k_ => ((fun _ => True)) k_ ∧ some k_ ≠ (u3 : Value).ownBlock) (Kd.ZC (bA.out) (Kd.Vt bj.out) (by decide)) (fun k_ hk => ⟨trivial, hk.2⟩))).1 k_ hk_.symm) ?aF ?aO ?aB ?aS ?aL ?_; (case aP => exact Kd.M_row (Kd.Zc (Kd.Ux rfl (Kd.Zc (ok' := fun k_ => ((fun _ => True)) k_ ∧ some k_ ≠ (u3 : Value).ownBlock) (Kd.ZC (bA.out) (Kd.Vt bj.out) (by decide)) (fun k_ hk => ⟨trivial, hk.2⟩))) (fun _ h_ => h_))); (case aB => exact bB); (case aF => exact (fun _ _ => trivial)); (case aO => exact (by (with_reducible repeat (first | apply Kd.S_alloc | apply Kd.Yp | apply Kd.S_drew)); exact Kd.VI bj.out (fun k_ hk => ⟨trivial, fun e_ => hk e_⟩))); (case aS => exact (Qb bB)); (case aL => have := wy.out; omega); intro yA w26 ho hb hg hat; rw [← ox.out] at ho; replace ab := aa.mk (Yq (g := ag) (o := .cells #[.slice ak ae.length an, .slice (some fS) af.length al] 24 (0, 0)) (by (with_reducible repeat (first | refine Qx ?_ _ | refine QA ?_ | refine Qw ?_ _)); exact ab.out) hg (Kd.S_ne bj.out ab.out (by decide))); replace HB := aa.mk (hb); have aX := aa.mk (ho); clear bj bA; clear ho hb hg hat))
             go_roundg k3
             case measure => have := HK1.out; have := HK2.out; have := HK3.out; omega
             case rel => exact ⟨(gD), (wrap64 (dI + 1)), (by first | rfl | (simp; done) | (simp [*]; done)), H', ⟨by have := HK1.out; have := HK2.out; have := HK3.out; omega⟩, ⟨by (with_reducible repeat (first | apply Kd.S_alloc | apply Kd.Yp | apply Kd.S_drew)); exact aX.out⟩, ⟨by (with_reducible repeat (first | refine Qx ?_ _ | refine QA ?_ | refine Qw ?_ _)); exact ab.out⟩, ⟨bB⟩⟩
            ·rw [if_neg c24] at H; exact absurd H (by simp)
          ·rw [if_neg c18] at H; exact absurd H (by simp)
         ·rw [if_neg c17] at H; exact absurd H (by simp)
      ·rw [if_neg c15] at H; have fP : decide (dI < (af.length : Int)) = false := decide_eq_false c15; clear c15; obtain rfl := Option.some.inj H; have yh : wr.cell? ⟨ag, 0, none⟩ = some (.slice ak ae.length an) := (Qd ab.out 0).trans rfl; have yg : wr.cell? ⟨ag, 1, none⟩ = some (.slice aj af.length al) := (Qd ab.out 1).trans rfl; have xP := Qc ab.out 0; have xO := Qc ab.out 1; go_wp2; go_ret; exact ⟨_, by first | rfl | (simp [Qk, Qj] <;> rfl) | (simp [*, Qk, Qj] <;> rfl), by (with_reducible repeat (first | apply Kd.S_alloc | apply Kd.Yp | apply Kd.S_drew)); exact bj.out, bB⟩
mutual
def QH.l0 : Nat → List Int → List (List Int) → Int → Option (Bool)
 | 0, _, _, _ => none
 | k + 1, x1, x5, x6 => if 0 < (x5.length : Int) then (if x6 < ((Qu x5 0).length : Int) then (QH.l1 k x1 x5 x6 0 0) else (some true)) else (none)
def QH.l1 : Nat → List Int → List (List Int) → Int → Int → Int → Option (Bool)
 | 0, _, _, _, _, _ => none
 | k + 1, x1, x5, x6, x7, x8 => if x8 < (x5.length : Int) then (if 0 ≤ x8 then (if x8 < (x1.length : Int) then (if 0 ≤ x6 then (if x6 < ((Qu x5 x8).length : Int) then (QH.l1 k x1 x5 x6 (wrap64 (x7 + (wrap64 ((rd x1 x8) * (rd (Qu x5 x8) x6))))) (wrap64 (x8 + 1))) else (none)) else (none)) else (none)) else (none)) else (if x7 = 0 then (QH.l0 k x1 x5 (wrap64 (x6 + 1))) else (some false))
end
def QH.f (k : Nat) (ae : List (List Int)) (af : List (List Int)) (l1 : List Int) : Option (Bool) := (Qs.f k ae af).bind fun t102 => (QH.l0 k l1 t102 0)
set_option maxHeartbeats 8000000 in
set_option maxRecDepth 100000 in
theorem QH.calls (k : Nat) (ak : Option Addr) (an : Nat) (ae : List (List Int)) (aj : Option Addr) (al : Nat) (af : List (List Int)) (A1 : Option Addr) (c1 : Nat) (l1 : List Int) (r : Bool) (w : World) (aM : Kd.C (Kd.slice 3 (Kd.int .i64)) w ak ae.length ae) (aQ : ae.length ≤ an) (aK : Kd.C (Kd.slice 3 (Kd.int .i64)) w aj af.length af) (aN : af.length ≤ al) (hr1 : Kd.C (Kd.int .i64) w A1 l1.length l1) (hc1 : l1.length ≤ c1) (h : QH.f k ae af l1 = some r) :
  Calls Try.prog 94 #[.agg #[.slice ak ae.length an, .slice aj af.length al], .slice A1 l1.length c1] w fun e w' => e = .returned (.bool r) ∧ Below w.heap.size w w' := by
 have ej := Try.underlying24; have ay := aa.mk aM; have aA := aa.mk aQ; clear aM aQ; have az := aa.mk aK; have aC := aa.mk aN; clear aK aN; have HR1 := aa.mk hr1; have HC1 := aa.mk hc1; clear hr1 hc1; have HB := aa.mk (Below.refl w.heap.size w); have H : ((Qs.f k ae af).bind fun t102 => (QH.l0 k l1 t102 0)) = some r := h; clear h; replace H := Option.bind_eq_some_iff.mp H; obtain ⟨t102, A30, H⟩ := H; replace H : (QH.l0 k l1 t102 0) = some r := H; have A3 := aa.mk A30; clear A30; have H' := aa.mk H; clear H; go_enter Try.func94, Try.ntmps94; go_wp2_with (first | ((with_reducible refine QN (N := 2) rfl ?_); refine Q3 ?hg (N := 2) ?hd (cs := #[.slice ak ae.length an, .slice aj af.length al]) (t := 24) ?hr ?_; (case hd => rfl); (case hg => rfl); (case hr => first | (go_simp; done) | (go_simp; rfl)); intro ag hg w4 hbox hb; have ab := aa.mk (hbox); have bh := aa.mk ((by rw [hg]; exact (Qb bB) : w.heap.size ≤ ag)); have aT := aa.mk ((by rw [hg]; exact (Qb bB) : w.heap.size ≤ ag)); replace HB := aa.mk (Qa bB hb); clear hb hbox hg; have eu : w4.cell? ⟨ag, 0, none⟩ = some (.slice ak ae.length an) := (Qd ab.out 0).trans rfl; have et : w4.cell? ⟨ag, 1, none⟩ = some (.slice aj af.length al) := (Qd ab.out 1).trans rfl; have en := Qc ab.out 0; have ek := Qc ab.out 1) | (go_at_call 96; (with_reducible refine (Qs.calls k _ _ ae _ _ af t102 _ ?ah ?ai ?aq ?ar A3.out).mono ?_); (case ah => exact (Kd.Qq ay.out HB.out)); (case ai => exact aA.out); (case aq => exact (Kd.Qq az.out HB.out)); (case ar => exact aC.out); rintro e w6 ⟨gG, rfl, ho0, hb⟩; have ba := aa.mk (Kd.YQ ho0 (Qb bB)); replace ab := aa.mk (Qp ab.out hb); replace HB := aa.mk (Qa bB hb); (try clear hb); (try clear hb2); (try clear hk); (try clear hi); (try clear ho0)))
 repeat (go_quiet (first | ((with_reducible refine QN (N := 2) rfl ?_); refine Q3 ?hg (N := 2) ?hd (cs := #[.slice ak ae.length an, .slice aj af.length al]) (t := 24) ?hr ?_; (case hd => rfl); (case hg => rfl); (case hr => first | (go_simp; done) | (go_simp; rfl)); intro ag hg w4 hbox hb; have ab := aa.mk (hbox); have bh := aa.mk ((by rw [hg]; exact (Qb bB) : w.heap.size ≤ ag)); have aT := aa.mk ((by rw [hg]; exact (Qb bB) : w.heap.size ≤ ag)); replace HB := aa.mk (Qa bB hb); clear hb hbox hg; have eu : w4.cell? ⟨ag, 0, none⟩ = some (.slice ak ae.length an) := (Qd ab.out 0).trans rfl; have et : w4.cell? ⟨ag, 1, none⟩ = some (.slice aj af.length al) := (Qd ab.out 1).trans rfl; have en := Qc ab.out 0; have ek := Qc ab.out 1) | (go_at_call 96; (with_reducible refine (Qs.calls k _ _ ae _ _ af t102 _ ?ah ?ai ?aq ?ar A3.out).mono ?_); (case ah => exact (Kd.Qq ay.out HB.out)); (case ai => exact aA.out); (case aq => exact (Kd.Qq az.out HB.out)); (case ar => exact aC.out); rintro e w6 ⟨gG, rfl, ho0, hb⟩; have ba := aa.mk (Kd.YQ ho0 (Qb bB)); replace ab := aa.mk (Qp ab.out hb); replace HB := aa.mk (Qa bB hb); (try clear hb); (try clear hb2); (try clear hk); (try clear hi); (try clear ho0))); try go_wp2_with (first | ((with_reducible refine QN (N := 2) rfl ?_); refine Q3 ?hg (N := 2) ?hd (cs := #[.slice ak ae.length an, .slice aj af.length al]) (t := 24) ?hr ?_; (case hd => rfl); (case hg => rfl); (case hr => first | (go_simp; done) | (go_simp; rfl)); intro ag hg w4 hbox hb; have ab := aa.mk (hbox); have bh := aa.mk ((by rw [hg]; exact (Qb bB) : w.heap.size ≤ ag)); have aT := aa.mk ((by rw [hg]; exact (Qb bB) : w.heap.size ≤ ag)); replace HB := aa.mk (Qa bB hb); clear hb hbox hg; have eu : w4.cell? ⟨ag, 0, none⟩ = some (.slice ak ae.length an) := (Qd ab.out 0).trans rfl; have et : w4.cell? ⟨ag, 1, none⟩ = some (.slice aj af.length al) := (Qd ab.out 1).trans rfl; have en := Qc ab.out 0; have ek := Qc ab.out 1) | (go_at_call 96; (with_reducible refine (Qs.calls k _ _ ae _ _ af t102 _ ?ah ?ai ?aq ?ar A3.out).mono ?_); (case ah => exact (Kd.Qq ay.out HB.out)); (case ai => exact aA.out); (case aq => exact (Kd.Qq az.out HB.out)); (case ar => exact aC.out); rintro e w6 ⟨gG, rfl, ho0, hb⟩; have ba := aa.mk (Kd.YQ ho0 (Qb bB)); replace ab := aa.mk (Qp ab.out hb); replace HB := aa.mk (Qa bB hb); (try clear hb); (try clear hb2); (try clear hk); (try clear hi); (try clear ho0))))
 go_loopg [6] k (fun kq v6 w' => ∃ (au : Int), v6 = .int .i64 au ∧ aa (QH.l0 kq l1 t102 au = some r) ∧ aa (kq ≤ k) ∧ aa (Kd.S (Kd.slice 3 (Kd.int .i64)) 28 w' w.heap.size (fun _ => True) gG t102) ∧ aa (w'.heap[ag]? = some (.cells #[(.slice ak ae.length an), (.slice aj af.length al)] 24 (0, 0))) ∧ aa (Below w.heap.size w w'))
 case atStart => exact ⟨(0), (by first | rfl | (simp; done) | (simp [*]; done)), H', ⟨Nat.le_refl _⟩, ⟨by (with_reducible repeat (first | apply Kd.S_alloc | apply Kd.Yp | apply Kd.S_drew)); exact ba.out⟩, ⟨by (with_reducible repeat (first | refine Qx ?_ _ | refine QA ?_ | refine Qw ?_ _)); exact ab.out⟩, ⟨bB⟩⟩
 case round =>
  clear H'; try clear c1
  try clear p2
  try clear eu
  try clear et
  try clear en
  try clear ek
  obtain ⟨au, rfl, HA, HK1, aE, ab, HB⟩ := hrel; cases gk with
  | zero => exact absurd HA.out (by simp [QH.l0])
  | succ k1 =>
   have H := HA.out; clear HA; simp only [QH.l0] at H; by_cases c7 : 0 < (t102.length : Int)
   ·rw [if_pos c7] at H; have iy : decide (0 < (t102.length : Int)) = true := decide_eq_true c7; have p4 : decide (0 < t102.length) = true := decide_eq_true (by omega); clear c7; by_cases c8 : au < ((Qu t102 0).length : Int)
    ·rw [if_pos c8] at H; have dF : decide (au < ((Qu t102 0).length : Int)) = true := decide_eq_true c8; clear c8; have H' := aa.mk H; clear H; obtain ⟨Ao9, co9, eo9⟩ := Kd.VW aE.out; subst eo9; have bU : 0 ≤ (0 : Int) := (by omega); have bT : 0 < (t102.length : Int) := of_decide_eq_true (by assumption); obtain ⟨eR, k9, nG, fo, bm, dP, dT⟩ := ZJ (Kd.Yt aE.out).2.2 0 bU bT; cases fo; obtain ⟨sr, kF, kK, gU⟩ := Kd.S_get aE.out [] 0 bU (by first | exact bT | exact of_decide_eq_true (by assumption) | (have e_ := (Kd.Yt aE.out).1; omega)); obtain ⟨qA, rfl, eb⟩ := kK; have cB := gU 0 _ rfl; rw [Nat.add_zero, show ((Kd.slice 3 (Kd.int .i64))).sz = 1 from rfl, Nat.mul_one] at cB; replace cB := Option.some.inj (cB.symm.trans bm); rw [cB] at eb; have oL := aa.mk (show Kd.R (Kd.int .i64) 3 _ _ _ _ (Qu t102 0) from eb); clear cB eb; clear gU kF; have uU : (0 < t102.length) = True := eq_true (by omega); (try rw [show ((0 : Int)).toNat = 0 from rfl] at bm)
     (try rw [Addr.add_zero'] at bm)
     have cG := aa.mk dT; have ma := aa.mk dP; clear dT dP; replace bU := eq_true bU; replace bT := eq_true bT; go_wp2; repeat (go_quiet (fail); try go_wp2)
     go_loopg [7, 8] k1 (fun kq v7 v8 w' => ∃ (aG : Int) (aY : Int), v7 = .int .i64 aG ∧ v8 = .int .i64 aY ∧ aa (QH.l1 kq l1 t102 au aG aY = some r) ∧ aa (kq ≤ k1) ∧ aa (Kd.S (Kd.slice 3 (Kd.int .i64)) 28 w' w.heap.size (fun _ => True) (.slice (some eR) t102.length co9) t102) ∧ aa (w'.heap[ag]? = some (.cells #[(.slice ak ae.length an), (.slice aj af.length al)] 24 (0, 0))) ∧ aa (Kd.C (Kd.int .i64) w' k9 (Qu t102 0).length (Qu t102 0)) ∧ aa (Below w.heap.size w w'))
     case atStart => exact ⟨(0), (0), (by first | rfl | (simp; done) | (simp [*]; done)), (by first | rfl | (simp; done) | (simp [*]; done)), H', ⟨Nat.le_refl _⟩, ⟨by (with_reducible repeat (first | apply Kd.S_alloc | apply Kd.Yp | apply Kd.S_drew)); exact aE.out⟩, ⟨by (with_reducible repeat (first | refine Qx ?_ _ | refine QA ?_ | refine Qw ?_ _)); exact ab.out⟩, ⟨by repeat (first | (with_reducible exact cG.out) | (with_reducible refine Kd.C_alloc ?_ _) | (with_reducible refine Kd.ZF ?_ _) | (with_reducible refine Kd.C_drew ?_) | exact cG.out)⟩, ⟨bB⟩⟩
     case round =>
      clear H'; try clear c1
      try clear p1
      try clear q1
      try clear hx1
      try clear qi1
      try clear p2
      try clear c7
      try clear iy
      try clear p4
      try clear c8
      try clear dF
      try clear c9
      try clear eu
      try clear et
      try clear en
      try clear ek
      try clear bm
      try clear bU
      try clear p2
      try clear bT
      obtain ⟨aG, aY, rfl, rfl, HA, HK2, aE, ab, cG, HB⟩ := hrel; cases gk with
      | zero => exact absurd HA.out (by simp [QH.l1])
      | succ k2 =>
       have H := HA.out; clear HA; simp only [QH.l1] at H; by_cases c10 : aY < (t102.length : Int)
       ·rw [if_pos c10] at H; have fq : decide (aY < (t102.length : Int)) = true := decide_eq_true c10; clear c10; by_cases c11 : 0 ≤ aY
        ·rw [if_pos c11] at H; have fp : decide (0 ≤ aY) = true := decide_eq_true c11; clear c11; by_cases c12 : aY < (l1.length : Int)
         ·rw [if_pos c12] at H; have eP : decide (aY < (l1.length : Int)) = true := decide_eq_true c12; clear c12; by_cases c13 : 0 ≤ au
          ·rw [if_pos c13] at H; have iX : decide (0 ≤ au) = true := decide_eq_true c13; clear c13; by_cases c14 : au < ((Qu t102 aY).length : Int)
           ·rw [if_pos c14] at H; have gr : decide (au < ((Qu t102 aY).length : Int)) = true := decide_eq_true c14; clear c14; have H' := aa.mk H; clear H; have cU : 0 ≤ (aY : Int) := of_decide_eq_true (by assumption); have cT : aY < (l1.length : Int) := of_decide_eq_true (by assumption); obtain ⟨jH, ix, a9⟩ := Kd.Zi HR1.out aY cU cT; cases ix; replace a9 := (HB.out.cell (World.block_lt_of_cell? w _ a9)).trans a9; replace cU := eq_true cU; replace cT := eq_true cT; have jq : 0 ≤ (aY : Int) := of_decide_eq_true (by assumption); have jl : aY < (t102.length : Int) := of_decide_eq_true (by assumption); obtain ⟨gu, Ak, zV, pW, fx, nZ, n8⟩ := ZJ (Kd.Yt aE.out).2.2 aY jq jl; obtain rfl : eR = gu := (by injection pW); obtain ⟨Ay, tD, tK, pD⟩ := Kd.S_get aE.out [] aY jq (by first | exact jl | exact of_decide_eq_true (by assumption) | (have e_ := (Kd.Yt aE.out).1; omega)); obtain ⟨xo, rfl, lS⟩ := tK; have iF := pD 0 _ rfl; rw [Nat.add_zero, show ((Kd.slice 3 (Kd.int .i64))).sz = 1 from rfl, Nat.mul_one] at iF; replace iF := Option.some.inj (iF.symm.trans fx); rw [iF] at lS; have yn := aa.mk (show Kd.R (Kd.int .i64) 3 _ _ _ _ (Qu t102 aY) from lS); clear iF lS; clear pD tD; have oF := aa.mk n8; have yr := aa.mk nZ; clear n8 nZ; replace jq := eq_true jq; replace jl := eq_true jl; have sZ : 0 ≤ (au : Int) := of_decide_eq_true (by assumption); have sV : au < ((Qu t102 aY).length : Int) := of_decide_eq_true (by assumption); obtain ⟨AR, zM, xB⟩ := Kd.Zi (by repeat (first | (with_reducible exact oF.out) | (with_reducible refine Kd.C_alloc ?_ _) | (with_reducible refine Kd.ZF ?_ _) | (with_reducible refine Kd.C_drew ?_) | exact oF.out)) au sZ sV; cases zM; replace sZ := eq_true sZ; replace sV := eq_true sV; go_wp2; repeat (go_quiet (fail); try go_wp2)
            go_roundg k2
            case measure => have := HK1.out; have := HK2.out; omega
            case rel => exact ⟨(wrap64 (aG + (wrap64 ((rd l1 aY) * (rd (Qu t102 aY) au))))), (wrap64 (aY + 1)), (by first | rfl | (simp; done) | (simp [*]; done)), (by first | rfl | (simp; done) | (simp [*]; done)), H', ⟨by have := HK1.out; have := HK2.out; omega⟩, ⟨by (with_reducible repeat (first | apply Kd.S_alloc | apply Kd.Yp | apply Kd.S_drew)); exact aE.out⟩, ⟨by (with_reducible repeat (first | refine Qx ?_ _ | refine QA ?_ | refine Qw ?_ _)); exact ab.out⟩, ⟨by repeat (first | (with_reducible exact cG.out) | (with_reducible refine Kd.C_alloc ?_ _) | (with_reducible refine Kd.ZF ?_ _) | (with_reducible refine Kd.C_drew ?_) | exact cG.out)⟩, ⟨bB⟩⟩
           ·rw [if_neg c14] at H; exact absurd H (by simp)
          ·rw [if_neg c13] at H; exact absurd H (by simp)
         ·rw [if_neg c12] at H; exact absurd H (by simp)
        ·rw [if_neg c11] at H; exact absurd H (by simp)
       ·rw [if_neg c10] at H; have fq : decide (aY < (t102.length : Int)) = false := decide_eq_false c10; clear c10; by_cases c15 : aG = 0
        ·rw [if_pos c15] at H; have fP : (aG == 0) = true := beq_iff_eq.mpr c15; have sC : (aG != 0) = false := bne_eq_false_iff_eq.mpr c15; clear c15; have H' := aa.mk H; clear H; go_wp2; repeat (go_quiet (fail); try go_wp2)
         go_roundg k2
         case measure => have := HK1.out; have := HK2.out; omega
         case rel => exact ⟨(wrap64 (au + 1)), (by first | rfl | (simp; done) | (simp [*]; done)), H', ⟨by have := HK1.out; have := HK2.out; omega⟩, ⟨by (with_reducible repeat (first | apply Kd.S_alloc | apply Kd.Yp | apply Kd.S_drew)); exact aE.out⟩, ⟨by (with_reducible repeat (first | refine Qx ?_ _ | refine QA ?_ | refine Qw ?_ _)); exact ab.out⟩, ⟨bB⟩⟩
        ·rw [if_neg c15] at H; have fP : (aG == 0) = false := beq_eq_false_iff_ne.mpr c15; have sC : (aG != 0) = true := bne_iff_ne.mpr c15; obtain rfl := Option.some.inj H; go_wp2; repeat (go_quiet (fail); try go_wp2)
         go_ret; exact ⟨by first | rfl | (simp [Qk, Qj] <;> rfl) | (simp [*, Qk, Qj] <;> rfl), bB⟩
    ·rw [if_neg c8] at H; have dF : decide (au < ((Qu t102 0).length : Int)) = false := decide_eq_false c8; clear c8; obtain rfl := Option.some.inj H; obtain ⟨jf, gW, mN⟩ := Kd.VW aE.out; subst mN; have bU : 0 ≤ (0 : Int) := (by omega); have bT : 0 < (t102.length : Int) := of_decide_eq_true (by assumption); obtain ⟨eR, k9, nG, fo, bm, dP, dT⟩ := ZJ (Kd.Yt aE.out).2.2 0 bU bT; cases fo; obtain ⟨sr, kF, kK, gU⟩ := Kd.S_get aE.out [] 0 bU (by first | exact bT | exact of_decide_eq_true (by assumption) | (have e_ := (Kd.Yt aE.out).1; omega)); obtain ⟨qA, rfl, eb⟩ := kK; have cB := gU 0 _ rfl; rw [Nat.add_zero, show ((Kd.slice 3 (Kd.int .i64))).sz = 1 from rfl, Nat.mul_one] at cB; replace cB := Option.some.inj (cB.symm.trans bm); rw [cB] at eb; have oL := aa.mk (show Kd.R (Kd.int .i64) 3 _ _ _ _ (Qu t102 0) from eb); clear cB eb; clear gU kF; have uU : (0 < t102.length) = True := eq_true (by omega); (try rw [show ((0 : Int)).toNat = 0 from rfl] at bm)
     (try rw [Addr.add_zero'] at bm)
     have cG := aa.mk dT; have ma := aa.mk dP; clear dT dP; replace bU := eq_true bU; replace bT := eq_true bT; go_wp2; repeat (go_quiet (fail); try go_wp2)
     go_ret; exact ⟨by first | rfl | (simp [Qk, Qj] <;> rfl) | (simp [*, Qk, Qj] <;> rfl), bB⟩
   ·rw [if_neg c7] at H; exact absurd H (by simp)
def QM.l0 : Nat → Int → Int → Option (Int)
 | 0, _, _ => none
 | k + 1, x5, x6 => if x6 > 0 then (if x6 = 0 then (none) else (QM.l0 k x6 (Int.tmod x5 x6))) else (some x5)
def QM.f (k : Nat) (a0 : Int) (a1 : Int) : Option (Int) := QM.l0 k (mx a0 (wrap64 (-a0))) (mx a1 (wrap64 (-a1)))
set_option maxHeartbeats 8000000 in
set_option maxRecDepth 100000 in
theorem QM.calls (k : Nat) (a0 : Int) (a1 : Int) (r : Int) (w : World) (h : QM.f k a0 a1 = some r) :
  Calls Try.prog 125 #[.int .i64 a0, .int .i64 a1] w fun e w' => e = .returned (.int .i64 r) ∧ Below w.heap.size w w' := by
 have HB := aa.mk (Below.refl w.heap.size w); have H : (QM.l0 k (mx a0 (wrap64 (-a0))) (mx a1 (wrap64 (-a1)))) = some r := h; clear h; obtain ⟨ji3, gR⟩ : ∃ j_ : Int, (mx a0 (wrap64 (-a0))) = j_ := ⟨_, rfl⟩; replace H : (QM.l0 k ji3 (mx a1 (wrap64 (-a1)))) = some r := by first | (rw [gR] at H; exact H) | (simp only [gR] at H ⊢; exact H)
 have vn : (if a0 < (wrap64 (-a0)) then (wrap64 (-a0)) else a0) = ji3 := gR; obtain ⟨ji4, ib⟩ : ∃ j_ : Int, (mx a1 (wrap64 (-a1))) = j_ := ⟨_, rfl⟩; replace H : (QM.l0 k ji3 ji4) = some r := by first | (rw [ib] at H; exact H) | (simp only [ib] at H ⊢; exact H)
 have sc : (if a1 < (wrap64 (-a1)) then (wrap64 (-a1)) else a1) = ji4 := ib; have H' := aa.mk H; clear H; go_enter Try.func125, Try.ntmps125; go_wp2; go_loopg [5, 6] k (fun kq v5 v6 w' => ∃ (ao : Int) (au : Int), v5 = .int .i64 ao ∧ v6 = .int .i64 au ∧ aa (QM.l0 kq ao au = some r) ∧ aa (kq ≤ k) ∧ aa (Below w.heap.size w w'))
 case atStart => exact ⟨(ji3), (ji4), (by first | rfl | (simp; done) | (simp only [← gR] <;> (first | rfl | simp)) | (simp [*]; done)), (by first | rfl | (simp; done) | (simp only [← ib] <;> (first | rfl | simp)) | (simp [*]; done)), H', ⟨Nat.le_refl _⟩, ⟨bB⟩⟩
 case round =>
  clear H'; try clear c1
  try clear p2
  obtain ⟨ao, au, rfl, rfl, HA, HK1, HB⟩ := hrel; cases gk with
  | zero => exact absurd HA.out (by simp [QM.l0])
  | succ k1 =>
   have H := HA.out; clear HA; simp only [QM.l0] at H; by_cases c5 : au > 0
   ·rw [if_pos c5] at H; have dh : decide (0 < au) = true := decide_eq_true c5; clear c5; by_cases c6 : au = 0
    ·rw [if_pos c6] at H; exact absurd H (by simp)
    ·rw [if_neg c6] at H; have gC : (au == 0) = false := beq_eq_false_iff_ne.mpr c6; have mP : (au != 0) = true := bne_iff_ne.mpr c6; have H' := aa.mk H; clear H; go_wp2; go_roundg k1
     case measure => have := HK1.out; omega
     case rel => exact ⟨(au), (Int.tmod ao au), (by first | rfl | (simp; done) | (simp [*]; done)), (by first | rfl | (simp; done) | (simp [*]; done)), H', ⟨by have := HK1.out; omega⟩, ⟨bB⟩⟩
   ·rw [if_neg c5] at H; have dh : decide (0 < au) = false := decide_eq_false c5; clear c5; obtain rfl := Option.some.inj H; go_wp2; go_ret; exact ⟨by first | rfl | (simp [Qk, Qj] <;> rfl) | (simp only [← gR, ← ib]; first | rfl | (simp [Qk, Qj] <;> rfl)) | (simp [*, Qk, Qj] <;> rfl), bB⟩
mutual
def Qi.l0 : Nat → List (List Int) → Int → List Int → Int → Option (List Int × Bool)
 | 0, _, _, _, _ => none
 | k + 1, x0, x4, x5, x6 => if x6 < (x5.length : Int) then (Qi.l1 k x0 x4 x5 x6 ([] : List Int) 0 0) else (some (([] : List Int), false))
def Qi.l1 : Nat → List (List Int) → Int → List Int → Int → List Int → Int → Int → Option (List Int × Bool)
 | 0, _, _, _, _, _, _, _ => none
 | k + 1, x0, x4, x5, x6, x7, x8, x9 => if x9 < x4 then ((some (([] : List (List Int)) : List (List Int))).bind fun cW => (if 0 ≤ x9 then (if x9 ≤ (x0.length : Int) then ((some (x0.take (x9 : Int).toNat : List (List Int))).bind fun dy => (if cW.length + dy.length < 5864062014805 then ((some (cW ++ dy : List (List Int))).bind fun eA => (if 0 ≤ (wrap64 (x9 + 1)) then (if (wrap64 (x9 + 1)) ≤ (x0.length : Int) then ((some (x0.drop ((wrap64 (x9 + 1)) : Int).toNat : List (List Int))).bind fun cV => (if eA.length + cV.length < 5864062014805 then (if 0 ≤ x6 then (if x6 < (x5.length : Int) then ((Qr.f k (rd x5 x6)).bind fun t125 => ((Qg.f k (eA ++ cV) t125).bind fun bp => (if (Int.tmod x9 2) = 1 then (if x7.length < 17592186044416 then ((QM.f k x8 (wrap64 (-bp))).bind fun ff => (Qi.l1 k x0 x4 x5 x6 (x7 ++ [wrap64 (-bp)]) ff (wrap64 (x9 + 1)))) else (none)) else (if x7.length < 17592186044416 then ((QM.f k x8 bp).bind fun fe => (Qi.l1 k x0 x4 x5 x6 (x7 ++ [bp]) fe (wrap64 (x9 + 1)))) else (none))))) else (none)) else (none)) else (none))) else (none)) else (none))) else (none))) else (none)) else (none))) else (if x8 = 0 then (Qi.l0 k x0 x4 x5 (wrap64 (x6 + 1))) else (if 0 < (x7.length : Int) then (if (rd x7 0) < 0 then (Qi.j2 k x4 x7 (wrap64 (-x8))) else (Qi.j2 k x4 x7 x8)) else (none)))
def Qi.j2 : Nat → Int → List Int → Int → Option (List Int × Bool)
 | 0, _, _, _ => none
 | k + 1, x4, x7, x8 => Qi.l2 k x4 x7 x8 0
def Qi.l2 : Nat → Int → List Int → Int → Int → Option (List Int × Bool)
 | 0, _, _, _, _ => none
 | k + 1, x4, x7, x8, x12 => if x12 < x4 then (if 0 ≤ x12 then (if x12 < (x7.length : Int) then (if x8 = 0 then (none) else ((some (x7.set (x12 : Int).toNat (wrap64 (Int.tdiv (rd x7 x12) x8)) : List Int)).bind fun jg => (if (rd jg x12) ≤ 0 then (some (([] : List Int), false)) else (Qi.l2 k x4 jg x8 (wrap64 (x12 + 1)))))) else (none)) else (none)) else (some (x7, true))
end
def Qi.f (k : Nat) (l0 : List (List Int)) : Option (List Int × Bool) := if 0 < (l0.length : Int) then ((Qz.f k ((Qu l0 0).length : Int) (wrap64 ((l0.length : Int) - 1))).bind fun t102 => (Qi.l0 k l0 (l0.length : Int) t102 0)) else (none)
def Qi.T11 : Bool × List (List Nat × List Nat) := (true, [([], []), ([], []), ([], []), ([1, 2], [1, 2]), ([0, 3], [0, 3]), ([], []), ([], []), ([6], [6]), ([5, 7], [5, 7]), ([4, 8, 4], [4, 8]), ([9, 9, 0, 1, 2, 3, 4, 5, 6, 7, 8, 9], [9])])
def Qi.B11 : List Nat := [0, 0, 0, 6, 15, 0, 0, 64, 224, 511, 1023]
theorem Qi.tab11 : rtab .any (opsOf Try.f104 11) = Qi.T11 := by kernel_rfl
theorem Qi.bits11 : waitsOk Qi.T11.2 Qi.B11 = true := by kernel_rfl
set_option maxHeartbeats 8000000 in
set_option maxRecDepth 100000 in
theorem Qi.calls (k : Nat) (P0_ : Nat → Prop) (A0 : Option Addr) (c0 : Nat) (l0 : List (List Int)) (r1 : List Int) (r2 : Bool) (w : World) (hs0 : Kd.V (Kd.slice 3 (Kd.int .i64)) 28 w w.heap.size (fun k_ => P0_ k_) (.slice A0 l0.length c0) l0) (h : Qi.f k l0 = some (r1, r2)) :
  Calls Try.prog 104 #[.slice A0 l0.length c0] w fun e w' => ∃ v0_ : Value, e = .returned (.tuple #[v0_, .bool r2]) ∧ Kd.R (Kd.int .i64) 3 w' w.heap.size (fun k_ => (w.heap.size ≤ k_)) v0_ r1 ∧ Below w.heap.size w w' := by
 have HO0 := aa.mk (show Kd.V (Kd.slice 3 (Kd.int .i64)) 28 w w.heap.size (fun k_ => (P0_ k_ ∨ w.heap.size ≤ k_)) (.slice A0 l0.length c0) l0 from Kd.Yc hs0 (fun k_ hk => .inl hk)); have HB := aa.mk (Below.refl w.heap.size w); have H : (if 0 < (l0.length : Int) then ((Qz.f k ((Qu l0 0).length : Int) (wrap64 ((l0.length : Int) - 1))).bind fun t102 => (Qi.l0 k l0 (l0.length : Int) t102 0)) else (none)) = some (r1, r2) := h; clear h; by_cases c2 : 0 < (l0.length : Int)
 ·rw [if_pos c2] at H; have qa : decide (0 < (l0.length : Int)) = true := decide_eq_true c2; have uq : decide (0 < l0.length) = true := decide_eq_true (by omega); clear c2; replace H := Option.bind_eq_some_iff.mp H; obtain ⟨t102, A30, H⟩ := H; replace H : (Qi.l0 k l0 (l0.length : Int) t102 0) = some (r1, r2) := H; have A3 := aa.mk A30; clear A30; have H' := aa.mk H; clear H; have br : 0 ≤ (0 : Int) := (by omega); have bq : 0 < (l0.length : Int) := of_decide_eq_true (by assumption); obtain ⟨cg, jA, jz, di, aU, cv, cx⟩ := ZJ (Kd.Yi HO0.out).2.2 0 br bq; cases di; obtain ⟨AB, tG, tN, pG⟩ := Kd.V_get HO0.out [] 0 br (by first | exact bq | exact of_decide_eq_true (by assumption) | (have e_ := (Kd.Yi HO0.out).1; omega)); obtain ⟨xz, xu, rfl, lB, lV⟩ := Kd.Zt tN; have jY := pG 0 _ rfl; rw [Nat.add_zero, show ((Kd.slice 3 (Kd.int .i64))).sz = 1 from rfl, Nat.mul_one] at jY; replace jY := Option.some.inj (jY.symm.trans aU); injection jY with hva_ hvn_ hvc_
  rw [hva_] at lV; rw [hvc_] at lB; have oM := aa.mk (show Kd.V (Kd.int .i64) 3 _ w.heap.size _ _ (Qu l0 0) from Kd.V_mk lB lV); clear hva_ hvn_ hvc_ lV lB; clear pG tG; have rW : (0 < l0.length) = True := eq_true (by omega); (try rw [show ((0 : Int)).toNat = 0 from rfl] at aU)
  (try rw [Addr.add_zero'] at aU)
  have cH := aa.mk cx; have dx := aa.mk cv; clear cx cv; replace br := eq_true br; replace bq := eq_true bq; go_enter Try.func104, Try.ntmps104; go_wp2_with (first | ((with_reducible refine Qh (f := 123) rfl ?_); refine QG (some 21) rfl rfl Try.func123 (by kernel_rfl) rfl #[.int .i64 ((Qu l0 0).length : Int), .int .i64 (wrap64 ((l0.length : Int) - 1))] rfl hA ?_; (with_reducible refine (Qz.calls k ((Qu l0 0).length : Int) (wrap64 ((l0.length : Int) - 1)) t102 _ A3.out).mono ?_); rintro e w4 ⟨gG, rfl, ho0, hb⟩; refine ⟨_, rfl, ?_⟩; replace HO0 := aa.mk (Kd.Z1 HO0.out (Kd.QQ ho0) hb); replace oM := aa.mk (Kd.Z1 oM.out (Kd.QQ ho0) hb); have ba := aa.mk (Kd.Zh (Kd.V9 (M := fun k_ => (w.heap.size ≤ k_)) ho0 (Qb bB) (fun k_ h_ => h_)) (Qb bB)); replace cH := aa.mk (Kd.Qq (by repeat (first | (with_reducible exact cH.out) | (with_reducible refine Kd.C_alloc ?_ _) | (with_reducible refine Kd.ZF ?_ _) | (with_reducible refine Kd.C_drew ?_) | exact cH.out)) hb); replace HB := aa.mk (Qa bB hb); (try clear hb); (try clear hb2); (try clear hk); (try clear hi); (try clear ho0)))
  go_loopg [6] k (fun kq v6 w' => ∃ (ao : List Int) (au : Int), v6 = .int .i64 au ∧ aa (Qi.l0 kq l0 (l0.length : Int) ao au = some (r1, r2)) ∧ aa (kq ≤ k) ∧ aa (Kd.V (Kd.slice 3 (Kd.int .i64)) 28 w' w.heap.size (fun k_ => (P0_ k_ ∨ w.heap.size ≤ k_) ∧ some k_ ≠ (gG : Value).ownBlock) (.slice (some cg) l0.length c0) l0) ∧ aa (Kd.R (Kd.int .i64) 3 w' w.heap.size (fun k_ => (w.heap.size ≤ k_)) gG ao) ∧ aa (Below w.heap.size w w'))
  case atStart => exact ⟨(t102), (0), (by first | rfl | (simp; done) | (simp [*]; done)), H', ⟨Nat.le_refl _⟩, ⟨by (with_reducible repeat (first | apply Kd.V_alloc | apply Kd.ZN | apply Kd.ZK)); exact HO0.out⟩, ⟨by (with_reducible repeat (first | apply Kd.R_alloc | apply Kd.R_drewN | apply Kd.QO)); exact Kd.Zc ba.out (fun _ hk => hk.1)⟩, ⟨bB⟩⟩
  case round =>
   clear H'; try clear c1
   try clear p1
   try clear q1
   try clear hx1
   try clear qi1
   try clear c2
   try clear qa
   try clear uq
   try clear p2
   try clear aU
   try clear br
   try clear bq
   obtain ⟨ao, au, rfl, HA, HK1, bV, aE, HB⟩ := hrel; cases gk with
   | zero => exact absurd HA.out (by simp [Qi.l0])
   | succ k1 =>
    have H := HA.out; clear HA; simp only [Qi.l0] at H; by_cases c5 : au < (ao.length : Int)
    ·rw [if_pos c5] at H; have dh : decide (au < (ao.length : Int)) = true := decide_eq_true c5; clear c5; have H' := aa.mk H; clear H; obtain ⟨Ao6, co6, eo6⟩ := Kd.Zg aE.out; subst eo6; go_wp2; go_loopg [7, 8, 9] k1 (fun kq v7 v8 v9 w' => ∃ (aG : List Int) (aY : Int) (bZ : Int), v8 = .int .i64 aY ∧ v9 = .int .i64 bZ ∧ aa (Qi.l1 kq l0 (l0.length : Int) ao au aG aY bZ = some (r1, r2)) ∧ aa (kq ≤ k1) ∧ aa (Kd.V (Kd.slice 3 (Kd.int .i64)) 28 w' w.heap.size (fun k_ => (P0_ k_ ∨ w.heap.size ≤ k_) ∧ some k_ ≠ ((.slice Ao6 ao.length co6) : Value).ownBlock ∧ some k_ ≠ (v7 : Value).ownBlock) (.slice (some cg) l0.length c0) l0) ∧ aa (Kd.R (Kd.int .i64) 3 w' w.heap.size (fun k_ => (w.heap.size ≤ k_) ∧ some k_ ≠ (v7 : Value).ownBlock) (.slice Ao6 ao.length co6) ao) ∧ aa (Kd.R (Kd.int .i64) 3 w' w.heap.size (fun k_ => (w.heap.size ≤ k_) ∧ some k_ ≠ ((.slice Ao6 ao.length co6) : Value).ownBlock) v7 aG) ∧ aa (Below w.heap.size w w'))
     case atStart => exact ⟨(([] : List Int)), (0), (0), (by first | rfl | (simp; done) | (simp [*]; done)), (by first | rfl | (simp; done) | (simp [*]; done)), H', ⟨Nat.le_refl _⟩, ⟨by (with_reducible repeat (first | apply Kd.V_alloc | apply Kd.ZN | apply Kd.ZK)); exact Kd.Yc bV.out (fun _ hk => ⟨hk.1, ⟨hk.2, (by simp [Value.ownBlock])⟩⟩)⟩, ⟨by (with_reducible repeat (first | apply Kd.R_alloc | apply Kd.R_drewN | apply Kd.QO)); exact Kd.Zc aE.out (fun _ hk => ⟨hk, (by simp [Value.ownBlock])⟩)⟩, ⟨by first | exact Kd.Yr _ _ _ _ _ | exact Kd.Yv _ _ _ _ _ | exact Kd.V_nil _ _ _ _ _ | exact Kd.Q_nil _ _ _ _ _ | exact Kd.Yy _ _ _ _ _⟩, ⟨bB⟩⟩
     case round =>
      clear H'; try clear c1
      try clear p1
      try clear q1
      try clear hx1
      try clear qi1
      try clear c2
      try clear qa
      try clear uq
      try clear p2
      try clear c5
      try clear dh
      try clear p6
      try clear aU
      try clear p1
      try clear br
      try clear p2
      try clear q1
      try clear bq
      obtain ⟨aG, aY, bZ, rfl, rfl, HA, HK2, bV, aE, ax, HB⟩ := hrel; cases gk with
      | zero => exact absurd HA.out (by simp [Qi.l1])
      | succ k2 =>
       have H := HA.out; clear HA; simp only [Qi.l1] at H; by_cases c7 : bZ < (l0.length : Int)
       ·rw [if_pos c7] at H; have iy : decide (bZ < (l0.length : Int)) = true := decide_eq_true c7; clear c7; obtain ⟨cW, cX⟩ : ∃ y_ : List (List Int), y_ = (([] : List (List Int))) := ⟨_, rfl⟩; replace H : (if 0 ≤ bZ then (if bZ ≤ (l0.length : Int) then ((some (l0.take (bZ : Int).toNat : List (List Int))).bind fun dy => (if cW.length + dy.length < 5864062014805 then ((some (cW ++ dy : List (List Int))).bind fun eA => (if 0 ≤ (wrap64 (bZ + 1)) then (if (wrap64 (bZ + 1)) ≤ (l0.length : Int) then ((some (l0.drop ((wrap64 (bZ + 1)) : Int).toNat : List (List Int))).bind fun cV => (if eA.length + cV.length < 5864062014805 then (if 0 ≤ au then (if au < (ao.length : Int) then ((Qr.f k2 (rd ao au)).bind fun t125 => ((Qg.f k2 (eA ++ cV) t125).bind fun bp => (if (Int.tmod bZ 2) = 1 then (if aG.length < 17592186044416 then ((QM.f k2 aY (wrap64 (-bp))).bind fun ff => (Qi.l1 k2 l0 (l0.length : Int) ao au (aG ++ [wrap64 (-bp)]) ff (wrap64 (bZ + 1)))) else (none)) else (if aG.length < 17592186044416 then ((QM.f k2 aY bp).bind fun fe => (Qi.l1 k2 l0 (l0.length : Int) ao au (aG ++ [bp]) fe (wrap64 (bZ + 1)))) else (none))))) else (none)) else (none)) else (none))) else (none)) else (none))) else (none))) else (none)) else (none)) = some (r1, r2) := by first | (rw [cX]; with_reducible exact H) | (have H2_ := (Option.bind_some _ _).symm.trans H; rw [cX]; with_reducible exact H2_) | (have H2_ := (Option.bind_some _ _).symm.trans H; with_reducible exact H2_) | with_reducible exact H | (rw [cX]; exact H) | exact H
        have gZ := aa.mk cX; clear cX; by_cases c8 : 0 ≤ bZ
        ·rw [if_pos c8] at H; have dF := eq_true c8; have jx : decide (0 ≤ bZ) = true := decide_eq_true c8; clear c8; by_cases c9 : bZ ≤ (l0.length : Int)
         ·rw [if_pos c9] at H; have fv := eq_true c9; have zS : decide (bZ ≤ (l0.length : Int)) = true := decide_eq_true c9; clear c9; obtain ⟨dy, eD⟩ : ∃ y_ : List (List Int), y_ = (l0.take (bZ : Int).toNat) := ⟨_, rfl⟩; replace H : (if cW.length + dy.length < 5864062014805 then ((some (cW ++ dy : List (List Int))).bind fun eA => (if 0 ≤ (wrap64 (bZ + 1)) then (if (wrap64 (bZ + 1)) ≤ (l0.length : Int) then ((some (l0.drop ((wrap64 (bZ + 1)) : Int).toNat : List (List Int))).bind fun cV => (if eA.length + cV.length < 5864062014805 then (if 0 ≤ au then (if au < (ao.length : Int) then ((Qr.f k2 (rd ao au)).bind fun t125 => ((Qg.f k2 (eA ++ cV) t125).bind fun bp => (if (Int.tmod bZ 2) = 1 then (if aG.length < 17592186044416 then ((QM.f k2 aY (wrap64 (-bp))).bind fun ff => (Qi.l1 k2 l0 (l0.length : Int) ao au (aG ++ [wrap64 (-bp)]) ff (wrap64 (bZ + 1)))) else (none)) else (if aG.length < 17592186044416 then ((QM.f k2 aY bp).bind fun fe => (Qi.l1 k2 l0 (l0.length : Int) ao au (aG ++ [bp]) fe (wrap64 (bZ + 1)))) else (none))))) else (none)) else (none)) else (none))) else (none)) else (none))) else (none)) = some (r1, r2) := by first | (rw [eD]; with_reducible exact H) | (have H2_ := (Option.bind_some _ _).symm.trans H; rw [eD]; with_reducible exact H2_) | (have H2_ := (Option.bind_some _ _).symm.trans H; with_reducible exact H2_) | with_reducible exact H | (rw [eD]; exact H) | exact H
          have iY := aa.mk eD; clear eD; by_cases c10 : cW.length + dy.length < 5864062014805
          ·rw [if_pos c10] at H; have sN := aa.mk c10; clear c10; obtain ⟨eA, eB⟩ : ∃ y_ : List (List Int), y_ = (cW ++ dy) := ⟨_, rfl⟩; replace H : (if 0 ≤ (wrap64 (bZ + 1)) then (if (wrap64 (bZ + 1)) ≤ (l0.length : Int) then ((some (l0.drop ((wrap64 (bZ + 1)) : Int).toNat : List (List Int))).bind fun cV => (if eA.length + cV.length < 5864062014805 then (if 0 ≤ au then (if au < (ao.length : Int) then ((Qr.f k2 (rd ao au)).bind fun t125 => ((Qg.f k2 (eA ++ cV) t125).bind fun bp => (if (Int.tmod bZ 2) = 1 then (if aG.length < 17592186044416 then ((QM.f k2 aY (wrap64 (-bp))).bind fun ff => (Qi.l1 k2 l0 (l0.length : Int) ao au (aG ++ [wrap64 (-bp)]) ff (wrap64 (bZ + 1)))) else (none)) else (if aG.length < 17592186044416 then ((QM.f k2 aY bp).bind fun fe => (Qi.l1 k2 l0 (l0.length : Int) ao au (aG ++ [bp]) fe (wrap64 (bZ + 1)))) else (none))))) else (none)) else (none)) else (none))) else (none)) else (none)) = some (r1, r2) := by first | (rw [eB]; with_reducible exact H) | (have H2_ := (Option.bind_some _ _).symm.trans H; rw [eB]; with_reducible exact H2_) | (have H2_ := (Option.bind_some _ _).symm.trans H; with_reducible exact H2_) | with_reducible exact H | (rw [eB]; exact H) | exact H
           have ln := aa.mk eB; clear eB; obtain ⟨b0, gS⟩ : ∃ j_ : Int, (wrap64 (bZ + 1)) = j_ := ⟨_, rfl⟩; replace H : (if 0 ≤ (b0) then (if (b0) ≤ (l0.length : Int) then ((some (l0.drop ((b0) : Int).toNat : List (List Int))).bind fun cV => (if eA.length + cV.length < 5864062014805 then (if 0 ≤ au then (if au < (ao.length : Int) then ((Qr.f k2 (rd ao au)).bind fun t125 => ((Qg.f k2 (eA ++ cV) t125).bind fun bp => (if (Int.tmod bZ 2) = 1 then (if aG.length < 17592186044416 then ((QM.f k2 aY (wrap64 (-bp))).bind fun ff => (Qi.l1 k2 l0 (l0.length : Int) ao au (aG ++ [wrap64 (-bp)]) ff b0)) else (none)) else (if aG.length < 17592186044416 then ((QM.f k2 aY bp).bind fun fe => (Qi.l1 k2 l0 (l0.length : Int) ao au (aG ++ [bp]) fe b0)) else (none))))) else (none)) else (none)) else (none))) else (none)) else (none)) = some (r1, r2) := by first | (rw [gS] at H; exact H) | (simp only [gS] at H ⊢; exact H)
           have yX : (IntKind.i64.wrap (bZ + 1)) = b0 := (QC _).trans gS; by_cases c12 : 0 ≤ (b0)
           ·rw [if_pos c12] at H; have eP := eq_true c12; have lh : decide (0 ≤ (b0)) = true := decide_eq_true c12; clear c12; by_cases c13 : (b0) ≤ (l0.length : Int)
            ·rw [if_pos c13] at H; have iX := eq_true c13; have sD : decide ((b0) ≤ (l0.length : Int)) = true := decide_eq_true c13; clear c13; obtain ⟨cV, mC⟩ : ∃ y_ : List (List Int), y_ = (l0.drop ((b0) : Int).toNat) := ⟨_, rfl⟩; replace H : (if eA.length + cV.length < 5864062014805 then (if 0 ≤ au then (if au < (ao.length : Int) then ((Qr.f k2 (rd ao au)).bind fun t125 => ((Qg.f k2 (eA ++ cV) t125).bind fun bp => (if (Int.tmod bZ 2) = 1 then (if aG.length < 17592186044416 then ((QM.f k2 aY (wrap64 (-bp))).bind fun ff => (Qi.l1 k2 l0 (l0.length : Int) ao au (aG ++ [wrap64 (-bp)]) ff b0)) else (none)) else (if aG.length < 17592186044416 then ((QM.f k2 aY bp).bind fun fe => (Qi.l1 k2 l0 (l0.length : Int) ao au (aG ++ [bp]) fe b0)) else (none))))) else (none)) else (none)) else (none)) = some (r1, r2) := by first | (rw [mC]; with_reducible exact H) | (have H2_ := (Option.bind_some _ _).symm.trans H; rw [mC]; with_reducible exact H2_) | (have H2_ := (Option.bind_some _ _).symm.trans H; with_reducible exact H2_) | with_reducible exact H | (rw [mC]; exact H) | exact H
             have oy := aa.mk mC; clear mC; by_cases c14 : eA.length + cV.length < 5864062014805
             ·rw [if_pos c14] at H; have oD := aa.mk c14; clear c14; obtain ⟨ey, gI⟩ : ∃ y_ : List (List Int), y_ = (eA ++ cV) := ⟨_, rfl⟩; replace H : (if 0 ≤ au then (if au < (ao.length : Int) then ((Qr.f k2 (rd ao au)).bind fun t125 => ((Qg.f k2 ey t125).bind fun bp => (if (Int.tmod bZ 2) = 1 then (if aG.length < 17592186044416 then ((QM.f k2 aY (wrap64 (-bp))).bind fun ff => (Qi.l1 k2 l0 (l0.length : Int) ao au (aG ++ [wrap64 (-bp)]) ff b0)) else (none)) else (if aG.length < 17592186044416 then ((QM.f k2 aY bp).bind fun fe => (Qi.l1 k2 l0 (l0.length : Int) ao au (aG ++ [bp]) fe b0)) else (none))))) else (none)) else (none)) = some (r1, r2) := by first | (rw [gI]; with_reducible exact H) | (have H2_ := (Option.bind_some _ _).symm.trans H; rw [gI]; with_reducible exact H2_) | (have H2_ := (Option.bind_some _ _).symm.trans H; with_reducible exact H2_) | with_reducible exact H | (rw [gI]; exact H) | exact H
              have mV := aa.mk gI; clear gI; by_cases c15 : 0 ≤ au
              ·rw [if_pos c15] at H; have fP : decide (0 ≤ au) = true := decide_eq_true c15; clear c15; by_cases c16 : au < (ao.length : Int)
               ·rw [if_pos c16] at H; have gX : decide (au < (ao.length : Int)) = true := decide_eq_true c16; clear c16; replace H := Option.bind_eq_some_iff.mp H; obtain ⟨t125, qu, H⟩ := H; replace H : ((Qg.f k2 ey t125).bind fun bp => (if (Int.tmod bZ 2) = 1 then (if aG.length < 17592186044416 then ((QM.f k2 aY (wrap64 (-bp))).bind fun ff => (Qi.l1 k2 l0 (l0.length : Int) ao au (aG ++ [wrap64 (-bp)]) ff b0)) else (none)) else (if aG.length < 17592186044416 then ((QM.f k2 aY bp).bind fun fe => (Qi.l1 k2 l0 (l0.length : Int) ao au (aG ++ [bp]) fe b0)) else (none)))) = some (r1, r2) := H; have A17 := aa.mk qu; clear qu; replace H := Option.bind_eq_some_iff.mp H; obtain ⟨bp, xl, H⟩ := H; replace H : (if (Int.tmod bZ 2) = 1 then (if aG.length < 17592186044416 then ((QM.f k2 aY (wrap64 (-bp))).bind fun ff => (Qi.l1 k2 l0 (l0.length : Int) ao au (aG ++ [wrap64 (-bp)]) ff b0)) else (none)) else (if aG.length < 17592186044416 then ((QM.f k2 aY bp).bind fun fe => (Qi.l1 k2 l0 (l0.length : Int) ao au (aG ++ [bp]) fe b0)) else (none))) = some (r1, r2) := H; have A18 := aa.mk xl; clear xl; by_cases c19 : (Int.tmod bZ 2) = 1
                ·rw [if_pos c19] at H; have eO : ((Int.tmod bZ 2) == 1) = true := beq_iff_eq.mpr c19; have kT : ((Int.tmod bZ 2) != 1) = false := bne_eq_false_iff_eq.mpr c19; clear c19; by_cases c20 : aG.length < 17592186044416
                 ·rw [if_pos c20] at H; have mX := aa.mk c20; clear c20; obtain ⟨la, gH⟩ : ∃ y_ : List Int, y_ = (aG ++ [wrap64 (-bp)]) := ⟨_, rfl⟩; replace H : ((QM.f k2 aY (wrap64 (-bp))).bind fun ff => (Qi.l1 k2 l0 (l0.length : Int) ao au la ff b0)) = some (r1, r2) := by first | (rw [gH]; with_reducible exact H) | (have H2_ := (Option.bind_some _ _).symm.trans H; rw [gH]; with_reducible exact H2_) | (have H2_ := (Option.bind_some _ _).symm.trans H; with_reducible exact H2_) | with_reducible exact H | (rw [gH]; exact H) | exact H
                  have ov := aa.mk gH; clear gH; replace H := Option.bind_eq_some_iff.mp H; obtain ⟨ff, xj, H⟩ := H; replace H : (Qi.l1 k2 l0 (l0.length : Int) ao au la ff b0) = some (r1, r2) := H; have A21 := aa.mk xj; clear xj; have H' := aa.mk H; clear H; try go_wp2
                  replace bV := aa.mk (Kd.ZK bV.out); replace aE := aa.mk (Kd.QO aE.out); replace ax := aa.mk (Kd.QO ax.out); replace HB := aa.mk (QR HB.out); have q23 : (bZ : Int) ≤ ((l0.length : Int) : Int) := of_decide_eq_true (by assumption); obtain ⟨Bq, si, _, va, _⟩ := info_parts info28; have nV : l0.length ≤ c0 := (Kd.Yi bV.out).2.1; have vy : Kd.F (Kd.slice 3 (Kd.int .i64)) _ _ (some cg) l0.length l0 := (Kd.V_at (base := w.heap.size) bV.out).2.2; have tB := cut_to (P := Try.prog) 22 28 .i64 Try.underlying22 si (some cg) l0.length c0 bZ (of_decide_eq_true (by assumption)) q23 nV; have tj := Kd.F_take (m := (bZ : Int).toNat) vy (by omega); have tb : dy.length = (bZ : Int).toNat := (by rw [iY.out, List.length_take]; omega); rw [← iY.out] at tj; rw [← tb] at tB; have bJ := aa.mk (show Kd.V (Kd.slice 3 (Kd.int .i64)) 28 _ w.heap.size _ (.slice (some cg) dy.length c0) dy from Kd.V_mk (by omega) tj); have wQ := aa.mk (show dy.length ≤ c0 from by omega); clear tj vy nV si va; have BU := aa.mk tb; clear tb; replace q23 := eq_true q23; have q24 : ((b0) : Int) ≤ ((l0.length : Int) : Int) := of_decide_eq_true (by assumption); obtain ⟨Bp, sh, _, r6, _⟩ := info_parts info28; have j3 : l0.length ≤ c0 := (Kd.Yi bV.out).2.1; have vx : Kd.F (Kd.slice 3 (Kd.int .i64)) _ _ (some cg) l0.length l0 := (Kd.V_at (base := w.heap.size) bV.out).2.2; have sX : (0 : Int) ≤ ((b0) : Int) := of_decide_eq_true (by assumption); have tA := UV (P := Try.prog) 22 28 .i64 Try.underlying22 sh 1 r6 (some cg) l0.length c0 (b0) sX q24; have ph := Kd.F_cut (m := ((b0) : Int).toNat) (c := c0) vx (by omega) j3; obtain ⟨A24, rl⟩ : ∃ A1, A1 = (if c0 = ((b0) : Int).toNat then (some cg) else ((some cg) : Option Addr).map (·.add (((b0) : Int).toNat * 1))) := ⟨_, rfl⟩; obtain ⟨c24, rh⟩ : ∃ c1, c1 = c0 - ((b0) : Int).toNat := ⟨_, rfl⟩; have pc : cV.length = l0.length - ((b0) : Int).toNat := (by rw [oy.out, List.length_drop] <;> omega); rw [show (l0).drop ((b0) : Int).toNat = cV from oy.out.symm] at ph; replace ph : Kd.F (Kd.slice 3 (Kd.int .i64)) _ _ A24 cV.length cV := (by rw [rl]; exact ph); rw [← pc, ← rl, ← rh] at tA; have aX := aa.mk (show Kd.V (Kd.slice 3 (Kd.int .i64)) 28 _ w.heap.size _ (.slice A24 cV.length c24) cV from Kd.V_mk (by rw [pc, rh]; exact Nat.sub_le_sub_right j3 _) ph); have wO := aa.mk (show cV.length ≤ c24 from by rw [pc, rh]; exact Nat.sub_le_sub_right j3 _); clear ph vx j3 sh r6 rh; have BS := aa.mk pc; have BX := aa.mk rl; clear pc rl; replace q24 := eq_true q24; refine Yw (n := 11) (S := fun w' => True) (ds := []) #[false, false, false, false, false, false, false, false, false, false, false] (by kernel_rfl) rfl rfl trivial (fun hHeld => ?_); refine ZZ Qi.tab11 Qi.bits11 (fun HT_ HW_ => ?_); generalize wr.drew = w22 at bV aE ax HB bJ aX hHeld ⊢; refine QX (i := 1) (N := some 34) (v := ?_) (a' := ?_) #[false, true, false, false, false, false, false, false, false, false, false] rfl rfl (QL HT_.out (by kernel_rfl)) (fun _ _ _ h => h) (Or.inl ⟨by rfl, ?_⟩) ?_ ?_; rotate_left
                  ·intro w'; go_simp; with_reducible rfl
                  rotate_left
                  ·simp only [Act.put, zA, zB, zC, QC, QD]; rfl
                  refine QX (i := 2) (N := some 35) (v := ?_) (a' := ?_) #[false, true, true, false, false, false, false, false, false, false, false] rfl rfl (QL HT_.out (by kernel_rfl)) (fun _ _ _ h => h) (Or.inl ⟨by rfl, ?_⟩) ?_ ?_; rotate_left
                  ·intro w'; go_simp; with_reducible rfl
                  rotate_left
                  ·simp only [Act.put, zA, zB, zC, QC, QD]; rfl
                  refine QX (i := 3) (N := some 36) (v := ?_) (a' := ?_) #[false, true, true, true, false, false, false, false, false, false, false] rfl rfl (QL HT_.out (by kernel_rfl)) (fun _ _ _ h => h) (Or.inl ⟨by rfl, ?_⟩) ?_ ?_; rotate_left
                  ·intro w'; go_simp; with_reducible rfl
                  rotate_left
                  ·simp only [Act.put, zA, zB, zC, QC, QD]; rfl
                  refine QX (i := 5) (N := some 38) (v := ?_) (a' := ?_) #[false, true, true, true, false, true, false, false, false, false, false] rfl rfl (QL HT_.out (by kernel_rfl)) (fun _ _ _ h => h) (Or.inl ⟨by rfl, ?_⟩) ?_ ?_; rotate_left
                  ·intro w'; go_simp; with_reducible rfl
                  rotate_left
                  ·simp only [Act.put, zA, zB, zC, QC, QD]; rfl
                  refine QX (i := 6) (N := some 39) (v := ?_) (a' := ?_) #[false, true, true, true, false, true, true, false, false, false, false] rfl rfl (QL HT_.out (by kernel_rfl)) (fun _ _ _ h => h) (Or.inl ⟨by rfl, ?_⟩) ?_ ?_; rotate_left
                  ·intro w'; go_simp; with_reducible rfl
                  rotate_left
                  ·simp only [Act.put, zA, zB, zC, QC, QD]; rfl
                  refine QX (i := 7) (N := some 40) (v := ?_) (a' := ?_) #[false, true, true, true, false, true, true, true, false, false, false] rfl rfl (QL HT_.out (by kernel_rfl)) (fun _ _ _ h => h) (Or.inl ⟨by rfl, ?_⟩) ?_ ?_; rotate_left
                  ·intro w'; go_simp; with_reducible rfl
                  rotate_left
                  ·simp only [Act.put, zA, zB, zC, QC, QD]; rfl
                  refine QX (i := 8) (N := some 41) (v := ?_) (a' := ?_) #[false, true, true, true, false, true, true, true, true, false, false] rfl rfl (QL HT_.out (by kernel_rfl)) (fun _ _ _ h => h) (Or.inl ⟨by rfl, ?_⟩) ?_ ?_; rotate_left
                  ·intro w'; go_simp; with_reducible rfl
                  rotate_left
                  ·simp only [Act.put, zA, zB, zC, QC, QD]; rfl
                  refine one_ (i := 0) (N := some 33) #[true, true, true, true, false, true, true, true, true, false, false] rfl rfl (ZW HT_.out (by kernel_rfl)) (by decide) (fun K hK => ?_); refine Kd.VL (Kd.slice 3 (Kd.int .i64)) _ 28 ?hg (N' := 33) ?hd (xs := ([] : List (List Int))) (inner := []) (ok := (fun k_ => (P0_ k_ ∨ w.heap.size ≤ k_) ∧ some k_ ≠ (.slice Ao6 ao.length co6 : Value).ownBlock ∧ some k_ ≠ (u7 : Value).ownBlock)) (okp := (fun k_ => (P0_ k_ ∨ w.heap.size ≤ k_) ∧ some k_ ≠ (.slice Ao6 ao.length co6 : Value).ownBlock ∧ some k_ ≠ (u7 : Value).ownBlock)) ?hr ?hp (fun _ hk => hk) ((show ∀ k_, w22.heap.size ≤ k_ → (fun k_ => (P0_ k_ ∨ w.heap.size ≤ k_) ∧ some k_ ≠ (.slice Ao6 ao.length co6 : Value).ownBlock ∧ some k_ ≠ (u7 : Value).ownBlock) k_ from fun k_ hk => ⟨(.inr (Nat.le_trans (Qb bB) hk)), Kd.fresh' (Kd.R_lt aE.out) k_ hk, Kd.fresh' (Kd.R_lt ax.out) k_ hk⟩) _ (Nat.le_refl _)) (Below.refl _ _) (Nat.le_refl _) (by simp) ?_; (case hd => rfl); (case hg => rfl); (case hr => first | (go_simp; done) | (go_simp; rfl)); (case hp => exact (Reps.none _ _)); intro ik w25 mI hb hg_ hnew_; clear hg_ hnew_; (first | rw [← gZ.out] at mI | (simp only [Int.reduceToNat] at mI; rw [← gZ.out] at mI))
                  replace bV := aa.mk (Kd.Z1 bV.out (Kd.Z3 mI) hb); replace aE := aa.mk (Kd.QV aE.out hb); replace ax := aa.mk (Kd.QV ax.out hb); replace bJ := aa.mk (Kd.Z1 bJ.out (Kd.Z3 mI) hb); replace aX := aa.mk (Kd.Z1 aX.out (Kd.Z3 mI) hb); have bY := aa.mk (Kd.Ya mI (Qb bB)); replace HB := aa.mk (Qa bB hb); clear hb mI; refine hK.out _ _ trivial (fun hHeld => ?_); clear hK K; refine Yk (a' := ?_) ?_ ?_; rotate_left
                  ·show Act.put _ (some 33) _ = _
                   simp only [Act.put, zA, zB, zC, QC, QD]; rfl
                  refine one_ (i := 4) (N := some 37) #[true, true, true, true, true, true, true, true, true, false, false] rfl rfl (ZW HT_.out (by kernel_rfl)) (by decide) (fun K hK => ?_); refine Kd.Z4 (Kd.slice 3 (Kd.int .i64)) (w0 := w) w.heap.size (by rfl) (.tmp 33) (.tmp 36) 22 28 (.slice none 0 0) 24 rfl Try.underlying22 info28 rfl (by decide) (by omega) ik cW dy _ _ _ (fun k_ => (P0_ k_ ∨ w.heap.size ≤ k_) ∧ some k_ ≠ (.slice Ao6 ao.length co6 : Value).ownBlock ∧ some k_ ≠ (u7 : Value).ownBlock) (fun k_ => ((fun k_ => (P0_ k_ ∨ w.heap.size ≤ k_) ∧ some k_ ≠ (.slice Ao6 ao.length co6 : Value).ownBlock ∧ some k_ ≠ (u7 : Value).ownBlock)) k_ ∧ some k_ ≠ (ik : Value).ownBlock) rfl rfl ?aO ?aR (fun _ hk => hk) ?aF ?aB ?aS ?aL ?_; (case aR => exact (by skip; exact Kd.V_F (Kd.Yc (ok' := (fun k_ => ((fun k_ => (P0_ k_ ∨ w.heap.size ≤ k_) ∧ some k_ ≠ (.slice Ao6 ao.length co6 : Value).ownBlock ∧ some k_ ≠ (u7 : Value).ownBlock)) k_ ∧ some k_ ≠ (ik : Value).ownBlock)) (bJ.out) (fun k_ hk => ⟨⟨hk.1.1, ⟨hk.1.2.1, hk.1.2.2⟩⟩, hk.2⟩))))
                  (case aB => exact bB)
                  (case aF => exact (fun k_ hk => ⟨(.inr (Nat.le_trans (Qb bB) hk)), Kd.fresh' (Kd.R_lt aE.out) k_ hk, Kd.fresh' (Kd.R_lt ax.out) k_ hk⟩))
                  (case aO => exact bY.out)
                  (case aS => exact (Qb bB))
                  (case aL => have := sN.out; omega)
                  intro me w27 ho hb hg hat; rw [← ln.out] at ho; replace bV := aa.mk (Kd.ZH (ok := (fun k_ => (P0_ k_ ∨ w.heap.size ≤ k_) ∧ some k_ ≠ (.slice Ao6 ao.length co6 : Value).ownBlock ∧ some k_ ≠ (u7 : Value).ownBlock)) bV.out hg hat); replace aE := aa.mk (Kd.Y0 aE.out (Kd.ZI bY.out) (by decide) hg); replace ax := aa.mk (Kd.Y0 ax.out (Kd.ZI bY.out) (by decide) hg); replace bJ := aa.mk (Kd.ZH (ok := (fun k_ => (P0_ k_ ∨ w.heap.size ≤ k_) ∧ some k_ ≠ (.slice Ao6 ao.length co6 : Value).ownBlock ∧ some k_ ≠ (u7 : Value).ownBlock)) bJ.out hg hat); replace aX := aa.mk (Kd.ZH (ok := (fun k_ => (P0_ k_ ∨ w.heap.size ≤ k_) ∧ some k_ ≠ (.slice Ao6 ao.length co6 : Value).ownBlock ∧ some k_ ≠ (u7 : Value).ownBlock)) aX.out hg hat); replace HB := aa.mk (hb); have g9 := aa.mk (ho); clear bY; clear ho hb hg hat; refine hK.out _ _ trivial (fun hHeld => ?_); clear hK K; refine Yk (a' := ?_) ?_ ?_; rotate_left
                  ·show Act.put _ (some 37) _ = _
                   simp only [Act.put, zA, zB, zC, QC, QD]; rfl
                  refine one_ (i := 9) (N := some 42) #[true, true, true, true, true, true, true, true, true, true, false] rfl rfl (ZW HT_.out (by kernel_rfl)) (by decide) (fun K hK => ?_); refine Kd.Z4 (Kd.slice 3 (Kd.int .i64)) (w0 := w) w.heap.size (by rfl) (.tmp 37) (.tmp 41) 22 28 (.slice none 0 0) 24 rfl Try.underlying22 info28 rfl (by decide) (by omega) me eA cV _ _ _ (fun k_ => (P0_ k_ ∨ w.heap.size ≤ k_) ∧ some k_ ≠ (.slice Ao6 ao.length co6 : Value).ownBlock ∧ some k_ ≠ (u7 : Value).ownBlock) (fun k_ => ((fun k_ => (P0_ k_ ∨ w.heap.size ≤ k_) ∧ some k_ ≠ (.slice Ao6 ao.length co6 : Value).ownBlock ∧ some k_ ≠ (u7 : Value).ownBlock)) k_ ∧ some k_ ≠ (me : Value).ownBlock) rfl rfl ?aO ?aR (fun _ hk => hk) ?aF ?aB ?aS ?aL ?_; (case aR => exact (by skip; exact Kd.V_F (Kd.Yc (ok' := (fun k_ => ((fun k_ => (P0_ k_ ∨ w.heap.size ≤ k_) ∧ some k_ ≠ (.slice Ao6 ao.length co6 : Value).ownBlock ∧ some k_ ≠ (u7 : Value).ownBlock)) k_ ∧ some k_ ≠ (me : Value).ownBlock)) (aX.out) (fun k_ hk => ⟨⟨hk.1.1, ⟨hk.1.2.1, hk.1.2.2⟩⟩, hk.2⟩))))
                  (case aB => exact bB)
                  (case aF => exact (fun k_ hk => ⟨(.inr (Nat.le_trans (Qb bB) hk)), Kd.fresh' (Kd.R_lt aE.out) k_ hk, Kd.fresh' (Kd.R_lt ax.out) k_ hk⟩))
                  (case aO => exact g9.out)
                  (case aS => exact (Qb bB))
                  (case aL => have := oD.out; omega)
                  intro uQ w28 ho hb hg hat; rw [← mV.out] at ho; replace bV := aa.mk (Kd.ZH (ok := (fun k_ => (P0_ k_ ∨ w.heap.size ≤ k_) ∧ some k_ ≠ (.slice Ao6 ao.length co6 : Value).ownBlock ∧ some k_ ≠ (u7 : Value).ownBlock)) bV.out hg hat); replace aE := aa.mk (Kd.Y0 aE.out (Kd.ZI g9.out) (by decide) hg); replace ax := aa.mk (Kd.Y0 ax.out (Kd.ZI g9.out) (by decide) hg); replace bJ := aa.mk (Kd.ZH (ok := (fun k_ => (P0_ k_ ∨ w.heap.size ≤ k_) ∧ some k_ ≠ (.slice Ao6 ao.length co6 : Value).ownBlock ∧ some k_ ≠ (u7 : Value).ownBlock)) bJ.out hg hat); replace aX := aa.mk (Kd.ZH (ok := (fun k_ => (P0_ k_ ∨ w.heap.size ≤ k_) ∧ some k_ ≠ (.slice Ao6 ao.length co6 : Value).ownBlock ∧ some k_ ≠ (u7 : Value).ownBlock)) aX.out hg hat); replace HB := aa.mk (hb); have bn := aa.mk (ho); clear g9; clear ho hb hg hat; refine hK.out _ _ trivial (fun hHeld => ?_); clear hK K; refine Yk (a' := ?_) ?_ ?_; rotate_left
                  ·show Act.put _ (some 42) _ = _
                   simp only [Act.put, zA, zB, zC, QC, QD]; rfl
                  refine QX (i := 10) (N := some 10) (v := ?_) (a' := ?_) #[true, true, true, true, true, true, true, true, true, true, true] rfl rfl (QL HT_.out (by kernel_rfl)) (fun _ _ _ h => h) (Or.inl ⟨by rfl, ?_⟩) ?_ ?_; rotate_left
                  ·intro w'; go_simp; with_reducible rfl
                  rotate_left
                  ·simp only [Act.put, zA, zB, zC, QC, QD]; rfl
                  refine YN (Yo HT_.out (by kernel_rfl)) ?_; have lF : 0 ≤ (au : Int) := of_decide_eq_true (by assumption); have lE : au < (ao.length : Int) := of_decide_eq_true (by assumption); obtain ⟨fR, ug, lH⟩ := Kd.Zi (Kd.QE aE.out).2.2 au lF lE; cases ug; replace lF := eq_true lF; replace lE := eq_true lE; try go_wp2_with (first | ((with_reducible refine Qh (f := 103) rfl ?_); refine QG (some 48) rfl rfl Try.func103 (by kernel_rfl) rfl #[.int .i64 (rd ao au)] rfl hA ?_; (with_reducible refine (Qr.calls k2 (rd ao au) t125 _ A17.out).mono ?_); rintro e w29 ⟨jN, rfl, ho0, hb⟩; refine ⟨_, rfl, ?_⟩; replace bV := aa.mk (Kd.Z1 bV.out (Kd.QQ ho0) hb); replace bJ := aa.mk (Kd.Z1 bJ.out (Kd.QQ ho0) hb); replace aX := aa.mk (Kd.Z1 aX.out (Kd.QQ ho0) hb); replace bn := aa.mk (Kd.Q8 bn.out (Kd.QQ ho0) hb); have bF := aa.mk (Kd.Zh (Kd.Zm (Kd.Zm (Kd.V9 (M := fun k_ => (w.heap.size ≤ k_)) ho0 (Qb bB) (fun k_ h_ => h_)) (Kd.R_lt aE.out)) (Kd.R_lt ax.out)) (Qb bB)); replace aE := aa.mk (Kd.Zd aE.out (Kd.QQ ho0) hb); replace ax := aa.mk (Kd.Zd ax.out (Kd.QQ ho0) hb); replace HB := aa.mk (Qa bB hb); (try clear hb); (try clear hb2); (try clear hk); (try clear hi); (try clear ho0); obtain ⟨kY, kM, pN⟩ := Kd.ZQ bn.out; subst pN; obtain ⟨jT, jQ, pM⟩ := Kd.Zg bF.out; subst pM) | ((with_reducible refine Qh (f := 124) rfl ?_); refine QG (some 49) rfl rfl Try.func124 (by kernel_rfl) rfl #[.slice kY ey.length kM, .slice jT t125.length jQ] rfl hA ?_; (with_reducible refine (Qg.calls k2 _ _ ey _ _ t125 bp _ ?ah ?ai ?aq ?ar A18.out).mono ?_); (case ah => exact (Kd.Za bn.out).2.2); (case ai => exact (Kd.Za bn.out).2.1); (case aq => exact (Kd.QE bF.out).2.2); (case ar => exact (Kd.QE bF.out).2.1); rintro e w32 ⟨rfl, hb⟩; refine ⟨_, rfl, ?_⟩; replace bV := aa.mk (Kd.Yf bV.out hb); replace aE := aa.mk (Kd.QV aE.out hb); replace ax := aa.mk (Kd.QV ax.out hb); replace bJ := aa.mk (Kd.Yf bJ.out hb); replace aX := aa.mk (Kd.Yf aX.out hb); replace bn := aa.mk (Kd.ZO bn.out hb); replace bF := aa.mk (Kd.QV bF.out hb); replace HB := aa.mk (Qa bB hb); (try clear hb); (try clear hb2); (try clear hk); (try clear hi)) | ((with_reducible refine Zs (b := .append) (xs := #[.tmp 55, .tmp 57]) rfl ?_); at_builtin; refine Kd.Ys (Kd.int .i64) (w0 := w) w.heap.size rfl (.tmp 55) (.tmp 57) 28 3 (.int .i64 0) 8 rfl Try.underlying28 info3 rfl (by decide) (by omega) u7 aG (wrap64 (-bp)) [.int .i64 (wrap64 (-bp))] (fun k_ => (w.heap.size ≤ k_) ∧ some k_ ≠ (.slice (some fR) ao.length co6 : Value).ownBlock ∧ some k_ ≠ (.slice jT t125.length jQ : Value).ownBlock) (fun _ => False) rfl rfl ?aP (fun _ hk => hk.elim) ?aF ?aO ?aB ?aS ?aL ?_; (case aP => exact rfl); (case aB => exact bB); (case aF => exact (fun k_ hk => ⟨(Nat.le_trans (Qb bB) hk), Kd.fresh' (Kd.R_lt aE.out) k_ hk, Kd.fresh' (Kd.R_lt bF.out) k_ hk⟩)); (case aO => exact (by (with_reducible repeat (first | apply Kd.R_alloc | apply Kd.R_drewN | apply Kd.QO)); exact Kd.Zc ax.out (fun _ hk => ⟨hk.1.1, ⟨hk.1.2, hk.2⟩⟩))); (case aS => exact (Qb bB)); (case aL => have := mX.out; omega); intro yy w33 ho hb hg hat; rw [← ov.out] at ho; replace bV := aa.mk (Kd.ZH (ok := (fun k_ => (P0_ k_ ∨ w.heap.size ≤ k_) ∧ some k_ ≠ (.slice (some fR) ao.length co6 : Value).ownBlock ∧ some k_ ≠ (.slice kY ey.length kM : Value).ownBlock ∧ some k_ ≠ (.slice jT t125.length jQ : Value).ownBlock)) (by (with_reducible repeat (first | apply Kd.V_alloc | apply Kd.ZN | apply Kd.ZK)); exact Kd.Yc bV.out (fun _ hk => ⟨⟨hk.1.1.1, ⟨hk.1.1.2.1, ⟨hk.1.2, hk.2⟩⟩⟩, hk.1.1.2.2⟩)) hg hat); replace aE := aa.mk (Kd.YA (ok := (fun k_ => (w.heap.size ≤ k_) ∧ some k_ ≠ (.slice jT t125.length jQ : Value).ownBlock)) (by (with_reducible repeat (first | apply Kd.R_alloc | apply Kd.R_drewN | apply Kd.QO)); exact Kd.Zc aE.out (fun _ hk => ⟨⟨hk.1.1, hk.2⟩, hk.1.2⟩)) hg hat); replace bJ := aa.mk (Kd.ZH (ok := (fun k_ => (P0_ k_ ∨ w.heap.size ≤ k_) ∧ some k_ ≠ (.slice (some fR) ao.length co6 : Value).ownBlock ∧ some k_ ≠ (.slice kY ey.length kM : Value).ownBlock ∧ some k_ ≠ (.slice jT t125.length jQ : Value).ownBlock)) (by (with_reducible repeat (first | apply Kd.V_alloc | apply Kd.ZN | apply Kd.ZK)); exact Kd.Yc bJ.out (fun _ hk => ⟨⟨hk.1.1.1, ⟨hk.1.1.2.1, ⟨hk.1.2, hk.2⟩⟩⟩, hk.1.1.2.2⟩)) hg hat); replace aX := aa.mk (Kd.ZH (ok := (fun k_ => (P0_ k_ ∨ w.heap.size ≤ k_) ∧ some k_ ≠ (.slice (some fR) ao.length co6 : Value).ownBlock ∧ some k_ ≠ (.slice kY ey.length kM : Value).ownBlock ∧ some k_ ≠ (.slice jT t125.length jQ : Value).ownBlock)) (by (with_reducible repeat (first | apply Kd.V_alloc | apply Kd.ZN | apply Kd.ZK)); exact Kd.Yc aX.out (fun _ hk => ⟨⟨hk.1.1.1, ⟨hk.1.1.2.1, ⟨hk.1.2, hk.2⟩⟩⟩, hk.1.1.2.2⟩)) hg hat); replace bn := aa.mk (Kd.U1 (ok := (fun k_ => (P0_ k_ ∨ w.heap.size ≤ k_) ∧ some k_ ≠ (.slice (some fR) ao.length co6 : Value).ownBlock ∧ some k_ ≠ (.slice jT t125.length jQ : Value).ownBlock)) (by (with_reducible repeat (first | apply Kd.N_alloc | apply Kd.Z5 | apply Kd.Yj)); exact Kd.ZX bn.out (fun _ hk => ⟨⟨hk.1.1, ⟨hk.1.2.1, hk.2⟩⟩, hk.1.2.2⟩)) hg hat); replace bF := aa.mk (Kd.YA (ok := (fun k_ => (w.heap.size ≤ k_) ∧ some k_ ≠ (.slice (some fR) ao.length co6 : Value).ownBlock)) (by (with_reducible repeat (first | apply Kd.R_alloc | apply Kd.R_drewN | apply Kd.QO)); exact Kd.Zc bF.out (fun _ hk => ⟨⟨hk.1.1.1, hk.1.2⟩, hk.2⟩)) hg hat); replace HB := aa.mk (hb); have jK := aa.mk (ho); clear ax; clear ho hb hg hat) | ((with_reducible refine Qh (f := 125) rfl ?_); refine QG (some 61) rfl rfl Try.func125 (by kernel_rfl) rfl #[.int .i64 aY, .int .i64 (wrap64 (-bp))] rfl hA ?_; (with_reducible refine (QM.calls k2 aY (wrap64 (-bp)) ff _ A21.out).mono ?_); rintro e w34 ⟨rfl, hb⟩; refine ⟨_, rfl, ?_⟩; replace bV := aa.mk (Kd.Yf bV.out hb); replace aE := aa.mk (Kd.QV aE.out hb); replace bJ := aa.mk (Kd.Yf bJ.out hb); replace aX := aa.mk (Kd.Yf aX.out hb); replace bn := aa.mk (Kd.ZO bn.out hb); replace bF := aa.mk (Kd.QV bF.out hb); replace jK := aa.mk (Kd.QV jK.out hb); replace HB := aa.mk (Qa bB hb); (try clear hb); (try clear hb2); (try clear hk); (try clear hi)))
                  go_roundg k2
                  case measure => have := HK1.out; have := HK2.out; omega
                  case rel => exact ⟨(la), (ff), (b0), (by first | rfl | (simp; done) | (simp [*]; done)), (by first | rfl | (simp; done) | (simp only [← gS] <;> (first | rfl | simp)) | (simp [*]; done)), H', ⟨by have := HK1.out; have := HK2.out; omega⟩, ⟨by (with_reducible repeat (first | apply Kd.V_alloc | apply Kd.ZN | apply Kd.ZK)); exact Kd.Yc bV.out (fun _ hk => ⟨hk.1.1, ⟨hk.1.2.1, hk.2⟩⟩)⟩, ⟨by (with_reducible repeat (first | apply Kd.R_alloc | apply Kd.R_drewN | apply Kd.QO)); exact Kd.Zc aE.out (fun _ hk => ⟨hk.1.1, hk.2⟩)⟩, ⟨by (with_reducible repeat (first | apply Kd.R_alloc | apply Kd.R_drewN | apply Kd.QO)); exact Kd.Zc jK.out (fun _ hk => ⟨hk.1, hk.2.1⟩)⟩, ⟨bB⟩⟩
                 ·rw [if_neg c20] at H; exact absurd H (by simp)
                ·rw [if_neg c19] at H; have eO : ((Int.tmod bZ 2) == 1) = false := beq_eq_false_iff_ne.mpr c19; have kT : ((Int.tmod bZ 2) != 1) = true := bne_iff_ne.mpr c19; by_cases c35 : aG.length < 17592186044416
                 ·rw [if_pos c35] at H; have wx := aa.mk c35; clear c35; obtain ⟨sQ, mz⟩ : ∃ y_ : List Int, y_ = (aG ++ [bp]) := ⟨_, rfl⟩; replace H : ((QM.f k2 aY bp).bind fun fe => (Qi.l1 k2 l0 (l0.length : Int) ao au sQ fe b0)) = some (r1, r2) := by first | (rw [mz]; with_reducible exact H) | (have H2_ := (Option.bind_some _ _).symm.trans H; rw [mz]; with_reducible exact H2_) | (have H2_ := (Option.bind_some _ _).symm.trans H; with_reducible exact H2_) | with_reducible exact H | (rw [mz]; exact H) | exact H
                  have wo := aa.mk mz; clear mz; replace H := Option.bind_eq_some_iff.mp H; obtain ⟨fe, xd, H⟩ := H; replace H : (Qi.l1 k2 l0 (l0.length : Int) ao au sQ fe b0) = some (r1, r2) := H; have A36 := aa.mk xd; clear xd; have H' := aa.mk H; clear H; try go_wp2
                  replace bV := aa.mk (Kd.ZK bV.out); replace aE := aa.mk (Kd.QO aE.out); replace ax := aa.mk (Kd.QO ax.out); replace HB := aa.mk (QR HB.out); have q38 : (bZ : Int) ≤ ((l0.length : Int) : Int) := of_decide_eq_true (by assumption); obtain ⟨Bm, se, _, u9, _⟩ := info_parts info28; have nU : l0.length ≤ c0 := (Kd.Yi bV.out).2.1; have vv : Kd.F (Kd.slice 3 (Kd.int .i64)) _ _ (some cg) l0.length l0 := (Kd.V_at (base := w.heap.size) bV.out).2.2; have tw := cut_to (P := Try.prog) 22 28 .i64 Try.underlying22 se (some cg) l0.length c0 bZ (of_decide_eq_true (by assumption)) q38 nU; have ti := Kd.F_take (m := (bZ : Int).toNat) vv (by omega); have ta : dy.length = (bZ : Int).toNat := (by rw [iY.out, List.length_take]; omega); rw [← iY.out] at ti; rw [← ta] at tw; have bJ := aa.mk (show Kd.V (Kd.slice 3 (Kd.int .i64)) 28 _ w.heap.size _ (.slice (some cg) dy.length c0) dy from Kd.V_mk (by omega) ti); have wQ := aa.mk (show dy.length ≤ c0 from by omega); clear ti vv nU se u9; have BP := aa.mk ta; clear ta; replace q38 := eq_true q38; have q39 : ((b0) : Int) ≤ ((l0.length : Int) : Int) := of_decide_eq_true (by assumption); obtain ⟨Bk, sd, _, rY, _⟩ := info_parts info28; have jZ : l0.length ≤ c0 := (Kd.Yi bV.out).2.1; have vu : Kd.F (Kd.slice 3 (Kd.int .i64)) _ _ (some cg) l0.length l0 := (Kd.V_at (base := w.heap.size) bV.out).2.2; have sW : (0 : Int) ≤ ((b0) : Int) := of_decide_eq_true (by assumption); have tv := UV (P := Try.prog) 22 28 .i64 Try.underlying22 sd 1 rY (some cg) l0.length c0 (b0) sW q39; have pe := Kd.F_cut (m := ((b0) : Int).toNat) (c := c0) vu (by omega) jZ; obtain ⟨A39, ri⟩ : ∃ A1, A1 = (if c0 = ((b0) : Int).toNat then (some cg) else ((some cg) : Option Addr).map (·.add (((b0) : Int).toNat * 1))) := ⟨_, rfl⟩; obtain ⟨c39, rf⟩ : ∃ c1, c1 = c0 - ((b0) : Int).toNat := ⟨_, rfl⟩; have pb : cV.length = l0.length - ((b0) : Int).toNat := (by rw [oy.out, List.length_drop] <;> omega); rw [show (l0).drop ((b0) : Int).toNat = cV from oy.out.symm] at pe; replace pe : Kd.F (Kd.slice 3 (Kd.int .i64)) _ _ A39 cV.length cV := (by rw [ri]; exact pe); rw [← pb, ← ri, ← rf] at tv; have aX := aa.mk (show Kd.V (Kd.slice 3 (Kd.int .i64)) 28 _ w.heap.size _ (.slice A39 cV.length c39) cV from Kd.V_mk (by rw [pb, rf]; exact Nat.sub_le_sub_right jZ _) pe); have wO := aa.mk (show cV.length ≤ c39 from by rw [pb, rf]; exact Nat.sub_le_sub_right jZ _); clear pe vu jZ sd rY rf; have BO := aa.mk pb; have BV := aa.mk ri; clear pb ri; replace q39 := eq_true q39; refine Yw (n := 11) (S := fun w' => True) (ds := []) #[false, false, false, false, false, false, false, false, false, false, false] (by kernel_rfl) rfl rfl trivial (fun hHeld => ?_); refine ZZ Qi.tab11 Qi.bits11 (fun HT_ HW_ => ?_); generalize wr.drew = w37 at bV aE ax HB bJ aX hHeld ⊢; refine QX (i := 1) (N := some 34) (v := ?_) (a' := ?_) #[false, true, false, false, false, false, false, false, false, false, false] rfl rfl (QL HT_.out (by kernel_rfl)) (fun _ _ _ h => h) (Or.inl ⟨by rfl, ?_⟩) ?_ ?_; rotate_left
                  ·intro w'; go_simp; with_reducible rfl
                  rotate_left
                  ·simp only [Act.put, zA, zB, zC, QC, QD]; rfl
                  refine QX (i := 2) (N := some 35) (v := ?_) (a' := ?_) #[false, true, true, false, false, false, false, false, false, false, false] rfl rfl (QL HT_.out (by kernel_rfl)) (fun _ _ _ h => h) (Or.inl ⟨by rfl, ?_⟩) ?_ ?_; rotate_left
                  ·intro w'; go_simp; with_reducible rfl
                  rotate_left
                  ·simp only [Act.put, zA, zB, zC, QC, QD]; rfl
                  refine QX (i := 3) (N := some 36) (v := ?_) (a' := ?_) #[false, true, true, true, false, false, false, false, false, false, false] rfl rfl (QL HT_.out (by kernel_rfl)) (fun _ _ _ h => h) (Or.inl ⟨by rfl, ?_⟩) ?_ ?_; rotate_left
                  ·intro w'; go_simp; with_reducible rfl
                  rotate_left
                  ·simp only [Act.put, zA, zB, zC, QC, QD]; rfl
                  refine QX (i := 5) (N := some 38) (v := ?_) (a' := ?_) #[false, true, true, true, false, true, false, false, false, false, false] rfl rfl (QL HT_.out (by kernel_rfl)) (fun _ _ _ h => h) (Or.inl ⟨by rfl, ?_⟩) ?_ ?_; rotate_left
                  ·intro w'; go_simp; with_reducible rfl
                  rotate_left
                  ·simp only [Act.put, zA, zB, zC, QC, QD]; rfl
                  refine QX (i := 6) (N := some 39) (v := ?_) (a' := ?_) #[false, true, true, true, false, true, true, false, false, false, false] rfl rfl (QL HT_.out (by kernel_rfl)) (fun _ _ _ h => h) (Or.inl ⟨by rfl, ?_⟩) ?_ ?_; rotate_left
                  ·intro w'; go_simp; with_reducible rfl
                  rotate_left
                  ·simp only [Act.put, zA, zB, zC, QC, QD]; rfl
                  refine QX (i := 7) (N := some 40) (v := ?_) (a' := ?_) #[false, true, true, true, false, true, true, true, false, false, false] rfl rfl (QL HT_.out (by kernel_rfl)) (fun _ _ _ h => h) (Or.inl ⟨by rfl, ?_⟩) ?_ ?_; rotate_left
                  ·intro w'; go_simp; with_reducible rfl
                  rotate_left
                  ·simp only [Act.put, zA, zB, zC, QC, QD]; rfl
                  refine QX (i := 8) (N := some 41) (v := ?_) (a' := ?_) #[false, true, true, true, false, true, true, true, true, false, false] rfl rfl (QL HT_.out (by kernel_rfl)) (fun _ _ _ h => h) (Or.inl ⟨by rfl, ?_⟩) ?_ ?_; rotate_left
                  ·intro w'; go_simp; with_reducible rfl
                  rotate_left
                  ·simp only [Act.put, zA, zB, zC, QC, QD]; rfl
                  refine one_ (i := 0) (N := some 33) #[true, true, true, true, false, true, true, true, true, false, false] rfl rfl (ZW HT_.out (by kernel_rfl)) (by decide) (fun K hK => ?_); refine Kd.VL (Kd.slice 3 (Kd.int .i64)) _ 28 ?hg (N' := 33) ?hd (xs := ([] : List (List Int))) (inner := []) (ok := (fun k_ => (P0_ k_ ∨ w.heap.size ≤ k_) ∧ some k_ ≠ (.slice Ao6 ao.length co6 : Value).ownBlock ∧ some k_ ≠ (u7 : Value).ownBlock)) (okp := (fun k_ => (P0_ k_ ∨ w.heap.size ≤ k_) ∧ some k_ ≠ (.slice Ao6 ao.length co6 : Value).ownBlock ∧ some k_ ≠ (u7 : Value).ownBlock)) ?hr ?hp (fun _ hk => hk) ((show ∀ k_, w37.heap.size ≤ k_ → (fun k_ => (P0_ k_ ∨ w.heap.size ≤ k_) ∧ some k_ ≠ (.slice Ao6 ao.length co6 : Value).ownBlock ∧ some k_ ≠ (u7 : Value).ownBlock) k_ from fun k_ hk => ⟨(.inr (Nat.le_trans (Qb bB) hk)), Kd.fresh' (Kd.R_lt aE.out) k_ hk, Kd.fresh' (Kd.R_lt ax.out) k_ hk⟩) _ (Nat.le_refl _)) (Below.refl _ _) (Nat.le_refl _) (by simp) ?_; (case hd => rfl); (case hg => rfl); (case hr => first | (go_simp; done) | (go_simp; rfl)); (case hp => exact (Reps.none _ _)); intro ik w40 mH hb hg_ hnew_; clear hg_ hnew_; (first | rw [← gZ.out] at mH | (simp only [Int.reduceToNat] at mH; rw [← gZ.out] at mH))
                  replace bV := aa.mk (Kd.Z1 bV.out (Kd.Z3 mH) hb); replace aE := aa.mk (Kd.QV aE.out hb); replace ax := aa.mk (Kd.QV ax.out hb); replace bJ := aa.mk (Kd.Z1 bJ.out (Kd.Z3 mH) hb); replace aX := aa.mk (Kd.Z1 aX.out (Kd.Z3 mH) hb); have bY := aa.mk (Kd.Ya mH (Qb bB)); replace HB := aa.mk (Qa bB hb); clear hb mH; refine hK.out _ _ trivial (fun hHeld => ?_); clear hK K; refine Yk (a' := ?_) ?_ ?_; rotate_left
                  ·show Act.put _ (some 33) _ = _
                   simp only [Act.put, zA, zB, zC, QC, QD]; rfl
                  refine one_ (i := 4) (N := some 37) #[true, true, true, true, true, true, true, true, true, false, false] rfl rfl (ZW HT_.out (by kernel_rfl)) (by decide) (fun K hK => ?_); refine Kd.Z4 (Kd.slice 3 (Kd.int .i64)) (w0 := w) w.heap.size (by rfl) (.tmp 33) (.tmp 36) 22 28 (.slice none 0 0) 24 rfl Try.underlying22 info28 rfl (by decide) (by omega) ik cW dy _ _ _ (fun k_ => (P0_ k_ ∨ w.heap.size ≤ k_) ∧ some k_ ≠ (.slice Ao6 ao.length co6 : Value).ownBlock ∧ some k_ ≠ (u7 : Value).ownBlock) (fun k_ => ((fun k_ => (P0_ k_ ∨ w.heap.size ≤ k_) ∧ some k_ ≠ (.slice Ao6 ao.length co6 : Value).ownBlock ∧ some k_ ≠ (u7 : Value).ownBlock)) k_ ∧ some k_ ≠ (ik : Value).ownBlock) rfl rfl ?aO ?aR (fun _ hk => hk) ?aF ?aB ?aS ?aL ?_; (case aR => exact (by skip; exact Kd.V_F (Kd.Yc (ok' := (fun k_ => ((fun k_ => (P0_ k_ ∨ w.heap.size ≤ k_) ∧ some k_ ≠ (.slice Ao6 ao.length co6 : Value).ownBlock ∧ some k_ ≠ (u7 : Value).ownBlock)) k_ ∧ some k_ ≠ (ik : Value).ownBlock)) (bJ.out) (fun k_ hk => ⟨⟨hk.1.1, ⟨hk.1.2.1, hk.1.2.2⟩⟩, hk.2⟩))))
                  (case aB => exact bB)
                  (case aF => exact (fun k_ hk => ⟨(.inr (Nat.le_trans (Qb bB) hk)), Kd.fresh' (Kd.R_lt aE.out) k_ hk, Kd.fresh' (Kd.R_lt ax.out) k_ hk⟩))
                  (case aO => exact bY.out)
                  (case aS => exact (Qb bB))
                  (case aL => have := sN.out; omega)
                  intro me w42 ho hb hg hat; rw [← ln.out] at ho; replace bV := aa.mk (Kd.ZH (ok := (fun k_ => (P0_ k_ ∨ w.heap.size ≤ k_) ∧ some k_ ≠ (.slice Ao6 ao.length co6 : Value).ownBlock ∧ some k_ ≠ (u7 : Value).ownBlock)) bV.out hg hat); replace aE := aa.mk (Kd.Y0 aE.out (Kd.ZI bY.out) (by decide) hg); replace ax := aa.mk (Kd.Y0 ax.out (Kd.ZI bY.out) (by decide) hg); replace bJ := aa.mk (Kd.ZH (ok := (fun k_ => (P0_ k_ ∨ w.heap.size ≤ k_) ∧ some k_ ≠ (.slice Ao6 ao.length co6 : Value).ownBlock ∧ some k_ ≠ (u7 : Value).ownBlock)) bJ.out hg hat); replace aX := aa.mk (Kd.ZH (ok := (fun k_ => (P0_ k_ ∨ w.heap.size ≤ k_) ∧ some k_ ≠ (.slice Ao6 ao.length co6 : Value).ownBlock ∧ some k_ ≠ (u7 : Value).ownBlock)) aX.out hg hat); replace HB := aa.mk (hb); have g9 := aa.mk (ho); clear bY; clear ho hb hg hat; refine hK.out _ _ trivial (fun hHeld => ?_); clear hK K; refine Yk (a' := ?_) ?_ ?_; rotate_left
                  ·show Act.put _ (some 37) _ = _
                   simp only [Act.put, zA, zB, zC, QC, QD]; rfl
                  refine one_ (i := 9) (N := some 42) #[true, true, true, true, true, true, true, true, true, true, false] rfl rfl (ZW HT_.out (by kernel_rfl)) (by decide) (fun K hK => ?_); refine Kd.Z4 (Kd.slice 3 (Kd.int .i64)) (w0 := w) w.heap.size (by rfl) (.tmp 37) (.tmp 41) 22 28 (.slice none 0 0) 24 rfl Try.underlying22 info28 rfl (by decide) (by omega) me eA cV _ _ _ (fun k_ => (P0_ k_ ∨ w.heap.size ≤ k_) ∧ some k_ ≠ (.slice Ao6 ao.length co6 : Value).ownBlock ∧ some k_ ≠ (u7 : Value).ownBlock) (fun k_ => ((fun k_ => (P0_ k_ ∨ w.heap.size ≤ k_) ∧ some k_ ≠ (.slice Ao6 ao.length co6 : Value).ownBlock ∧ some k_ ≠ (u7 : Value).ownBlock)) k_ ∧ some k_ ≠ (me : Value).ownBlock) rfl rfl ?aO ?aR (fun _ hk => hk) ?aF ?aB ?aS ?aL ?_; (case aR => exact (by skip; exact Kd.V_F (Kd.Yc (ok' := (fun k_ => ((fun k_ => (P0_ k_ ∨ w.heap.size ≤ k_) ∧ some k_ ≠ (.slice Ao6 ao.length co6 : Value).ownBlock ∧ some k_ ≠ (u7 : Value).ownBlock)) k_ ∧ some k_ ≠ (me : Value).ownBlock)) (aX.out) (fun k_ hk => ⟨⟨hk.1.1, ⟨hk.1.2.1, hk.1.2.2⟩⟩, hk.2⟩))))
                  (case aB => exact bB)
                  (case aF => exact (fun k_ hk => ⟨(.inr (Nat.le_trans (Qb bB) hk)), Kd.fresh' (Kd.R_lt aE.out) k_ hk, Kd.fresh' (Kd.R_lt ax.out) k_ hk⟩))
                  (case aO => exact g9.out)
                  (case aS => exact (Qb bB))
                  (case aL => have := oD.out; omega)
                  intro uQ w43 ho hb hg hat; rw [← mV.out] at ho; replace bV := aa.mk (Kd.ZH (ok := (fun k_ => (P0_ k_ ∨ w.heap.size ≤ k_) ∧ some k_ ≠ (.slice Ao6 ao.length co6 : Value).ownBlock ∧ some k_ ≠ (u7 : Value).ownBlock)) bV.out hg hat); replace aE := aa.mk (Kd.Y0 aE.out (Kd.ZI g9.out) (by decide) hg); replace ax := aa.mk (Kd.Y0 ax.out (Kd.ZI g9.out) (by decide) hg); replace bJ := aa.mk (Kd.ZH (ok := (fun k_ => (P0_ k_ ∨ w.heap.size ≤ k_) ∧ some k_ ≠ (.slice Ao6 ao.length co6 : Value).ownBlock ∧ some k_ ≠ (u7 : Value).ownBlock)) bJ.out hg hat); replace aX := aa.mk (Kd.ZH (ok := (fun k_ => (P0_ k_ ∨ w.heap.size ≤ k_) ∧ some k_ ≠ (.slice Ao6 ao.length co6 : Value).ownBlock ∧ some k_ ≠ (u7 : Value).ownBlock)) aX.out hg hat); replace HB := aa.mk (hb); have bn := aa.mk (ho); clear g9; clear ho hb hg hat; refine hK.out _ _ trivial (fun hHeld => ?_); clear hK K; refine Yk (a' := ?_) ?_ ?_; rotate_left
                  ·show Act.put _ (some 42) _ = _
                   simp only [Act.put, zA, zB, zC, QC, QD]; rfl
                  refine QX (i := 10) (N := some 10) (v := ?_) (a' := ?_) #[true, true, true, true, true, true, true, true, true, true, true] rfl rfl (QL HT_.out (by kernel_rfl)) (fun _ _ _ h => h) (Or.inl ⟨by rfl, ?_⟩) ?_ ?_; rotate_left
                  ·intro w'; go_simp; with_reducible rfl
                  rotate_left
                  ·simp only [Act.put, zA, zB, zC, QC, QD]; rfl
                  refine YN (Yo HT_.out (by kernel_rfl)) ?_; have lF : 0 ≤ (au : Int) := of_decide_eq_true (by assumption); have lE : au < (ao.length : Int) := of_decide_eq_true (by assumption); obtain ⟨fR, ug, lH⟩ := Kd.Zi (Kd.QE aE.out).2.2 au lF lE; cases ug; replace lF := eq_true lF; replace lE := eq_true lE; try go_wp2_with (first | ((with_reducible refine Qh (f := 103) rfl ?_); refine QG (some 48) rfl rfl Try.func103 (by kernel_rfl) rfl #[.int .i64 (rd ao au)] rfl hA ?_; (with_reducible refine (Qr.calls k2 (rd ao au) t125 _ A17.out).mono ?_); rintro e w44 ⟨jN, rfl, ho0, hb⟩; refine ⟨_, rfl, ?_⟩; replace bV := aa.mk (Kd.Z1 bV.out (Kd.QQ ho0) hb); replace bJ := aa.mk (Kd.Z1 bJ.out (Kd.QQ ho0) hb); replace aX := aa.mk (Kd.Z1 aX.out (Kd.QQ ho0) hb); replace bn := aa.mk (Kd.Q8 bn.out (Kd.QQ ho0) hb); have bF := aa.mk (Kd.Zh (Kd.Zm (Kd.Zm (Kd.V9 (M := fun k_ => (w.heap.size ≤ k_)) ho0 (Qb bB) (fun k_ h_ => h_)) (Kd.R_lt aE.out)) (Kd.R_lt ax.out)) (Qb bB)); replace aE := aa.mk (Kd.Zd aE.out (Kd.QQ ho0) hb); replace ax := aa.mk (Kd.Zd ax.out (Kd.QQ ho0) hb); replace HB := aa.mk (Qa bB hb); (try clear hb); (try clear hb2); (try clear hk); (try clear hi); (try clear ho0); obtain ⟨nJ, nA, pL⟩ := Kd.ZQ bn.out; subst pL; obtain ⟨nI, ny, zx⟩ := Kd.Zg bF.out; subst zx) | ((with_reducible refine Qh (f := 124) rfl ?_); refine QG (some 49) rfl rfl Try.func124 (by kernel_rfl) rfl #[.slice nJ ey.length nA, .slice nI t125.length ny] rfl hA ?_; (with_reducible refine (Qg.calls k2 _ _ ey _ _ t125 bp _ ?ah ?ai ?aq ?ar A18.out).mono ?_); (case ah => exact (Kd.Za bn.out).2.2); (case ai => exact (Kd.Za bn.out).2.1); (case aq => exact (Kd.QE bF.out).2.2); (case ar => exact (Kd.QE bF.out).2.1); rintro e w47 ⟨rfl, hb⟩; refine ⟨_, rfl, ?_⟩; replace bV := aa.mk (Kd.Yf bV.out hb); replace aE := aa.mk (Kd.QV aE.out hb); replace ax := aa.mk (Kd.QV ax.out hb); replace bJ := aa.mk (Kd.Yf bJ.out hb); replace aX := aa.mk (Kd.Yf aX.out hb); replace bn := aa.mk (Kd.ZO bn.out hb); replace bF := aa.mk (Kd.QV bF.out hb); replace HB := aa.mk (Qa bB hb); (try clear hb); (try clear hb2); (try clear hk); (try clear hi)) | ((with_reducible refine Zs (b := .append) (xs := #[.tmp 55, .tmp 57]) rfl ?_); at_builtin; refine Kd.Ys (Kd.int .i64) (w0 := w) w.heap.size rfl (.tmp 55) (.tmp 57) 28 3 (.int .i64 0) 8 rfl Try.underlying28 info3 rfl (by decide) (by omega) u7 aG bp [.int .i64 bp] (fun k_ => (w.heap.size ≤ k_) ∧ some k_ ≠ (.slice (some fR) ao.length co6 : Value).ownBlock ∧ some k_ ≠ (.slice nI t125.length ny : Value).ownBlock) (fun _ => False) rfl rfl ?aP (fun _ hk => hk.elim) ?aF ?aO ?aB ?aS ?aL ?_; (case aP => exact rfl); (case aB => exact bB); (case aF => exact (fun k_ hk => ⟨(Nat.le_trans (Qb bB) hk), Kd.fresh' (Kd.R_lt aE.out) k_ hk, Kd.fresh' (Kd.R_lt bF.out) k_ hk⟩)); (case aO => exact (by (with_reducible repeat (first | apply Kd.R_alloc | apply Kd.R_drewN | apply Kd.QO)); exact Kd.Zc ax.out (fun _ hk => ⟨hk.1.1, ⟨hk.1.2, hk.2⟩⟩))); (case aS => exact (Qb bB)); (case aL => have := wx.out; omega); intro Bg w48 ho hb hg hat; rw [← wo.out] at ho; replace bV := aa.mk (Kd.ZH (ok := (fun k_ => (P0_ k_ ∨ w.heap.size ≤ k_) ∧ some k_ ≠ (.slice (some fR) ao.length co6 : Value).ownBlock ∧ some k_ ≠ (.slice nJ ey.length nA : Value).ownBlock ∧ some k_ ≠ (.slice nI t125.length ny : Value).ownBlock)) (by (with_reducible repeat (first | apply Kd.V_alloc | apply Kd.ZN | apply Kd.ZK)); exact Kd.Yc bV.out (fun _ hk => ⟨⟨hk.1.1.1, ⟨hk.1.1.2.1, ⟨hk.1.2, hk.2⟩⟩⟩, hk.1.1.2.2⟩)) hg hat); replace aE := aa.mk (Kd.YA (ok := (fun k_ => (w.heap.size ≤ k_) ∧ some k_ ≠ (.slice nI t125.length ny : Value).ownBlock)) (by (with_reducible repeat (first | apply Kd.R_alloc | apply Kd.R_drewN | apply Kd.QO)); exact Kd.Zc aE.out (fun _ hk => ⟨⟨hk.1.1, hk.2⟩, hk.1.2⟩)) hg hat); replace bJ := aa.mk (Kd.ZH (ok := (fun k_ => (P0_ k_ ∨ w.heap.size ≤ k_) ∧ some k_ ≠ (.slice (some fR) ao.length co6 : Value).ownBlock ∧ some k_ ≠ (.slice nJ ey.length nA : Value).ownBlock ∧ some k_ ≠ (.slice nI t125.length ny : Value).ownBlock)) (by (with_reducible repeat (first | apply Kd.V_alloc | apply Kd.ZN | apply Kd.ZK)); exact Kd.Yc bJ.out (fun _ hk => ⟨⟨hk.1.1.1, ⟨hk.1.1.2.1, ⟨hk.1.2, hk.2⟩⟩⟩, hk.1.1.2.2⟩)) hg hat); replace aX := aa.mk (Kd.ZH (ok := (fun k_ => (P0_ k_ ∨ w.heap.size ≤ k_) ∧ some k_ ≠ (.slice (some fR) ao.length co6 : Value).ownBlock ∧ some k_ ≠ (.slice nJ ey.length nA : Value).ownBlock ∧ some k_ ≠ (.slice nI t125.length ny : Value).ownBlock)) (by (with_reducible repeat (first | apply Kd.V_alloc | apply Kd.ZN | apply Kd.ZK)); exact Kd.Yc aX.out (fun _ hk => ⟨⟨hk.1.1.1, ⟨hk.1.1.2.1, ⟨hk.1.2, hk.2⟩⟩⟩, hk.1.1.2.2⟩)) hg hat); replace bn := aa.mk (Kd.U1 (ok := (fun k_ => (P0_ k_ ∨ w.heap.size ≤ k_) ∧ some k_ ≠ (.slice (some fR) ao.length co6 : Value).ownBlock ∧ some k_ ≠ (.slice nI t125.length ny : Value).ownBlock)) (by (with_reducible repeat (first | apply Kd.N_alloc | apply Kd.Z5 | apply Kd.Yj)); exact Kd.ZX bn.out (fun _ hk => ⟨⟨hk.1.1, ⟨hk.1.2.1, hk.2⟩⟩, hk.1.2.2⟩)) hg hat); replace bF := aa.mk (Kd.YA (ok := (fun k_ => (w.heap.size ≤ k_) ∧ some k_ ≠ (.slice (some fR) ao.length co6 : Value).ownBlock)) (by (with_reducible repeat (first | apply Kd.R_alloc | apply Kd.R_drewN | apply Kd.QO)); exact Kd.Zc bF.out (fun _ hk => ⟨⟨hk.1.1.1, hk.1.2⟩, hk.2⟩)) hg hat); replace HB := aa.mk (hb); have qk := aa.mk (ho); clear ax; clear ho hb hg hat) | ((with_reducible refine Qh (f := 125) rfl ?_); refine QG (some 61) rfl rfl Try.func125 (by kernel_rfl) rfl #[.int .i64 aY, .int .i64 bp] rfl hA ?_; (with_reducible refine (QM.calls k2 aY bp fe _ A36.out).mono ?_); rintro e w49 ⟨rfl, hb⟩; refine ⟨_, rfl, ?_⟩; replace bV := aa.mk (Kd.Yf bV.out hb); replace aE := aa.mk (Kd.QV aE.out hb); replace bJ := aa.mk (Kd.Yf bJ.out hb); replace aX := aa.mk (Kd.Yf aX.out hb); replace bn := aa.mk (Kd.ZO bn.out hb); replace bF := aa.mk (Kd.QV bF.out hb); replace qk := aa.mk (Kd.QV qk.out hb); replace HB := aa.mk (Qa bB hb); (try clear hb); (try clear hb2); (try clear hk); (try clear hi)))
                  go_roundg k2
                  case measure => have := HK1.out; have := HK2.out; omega
                  case rel => exact ⟨(sQ), (fe), (b0), (by first | rfl | (simp; done) | (simp [*]; done)), (by first | rfl | (simp; done) | (simp only [← gS] <;> (first | rfl | simp)) | (simp [*]; done)), H', ⟨by have := HK1.out; have := HK2.out; omega⟩, ⟨by (with_reducible repeat (first | apply Kd.V_alloc | apply Kd.ZN | apply Kd.ZK)); exact Kd.Yc bV.out (fun _ hk => ⟨hk.1.1, ⟨hk.1.2.1, hk.2⟩⟩)⟩, ⟨by (with_reducible repeat (first | apply Kd.R_alloc | apply Kd.R_drewN | apply Kd.QO)); exact Kd.Zc aE.out (fun _ hk => ⟨hk.1.1, hk.2⟩)⟩, ⟨by (with_reducible repeat (first | apply Kd.R_alloc | apply Kd.R_drewN | apply Kd.QO)); exact Kd.Zc qk.out (fun _ hk => ⟨hk.1, hk.2.1⟩)⟩, ⟨bB⟩⟩
                 ·rw [if_neg c35] at H; exact absurd H (by simp)
               ·rw [if_neg c16] at H; exact absurd H (by simp)
              ·rw [if_neg c15] at H; exact absurd H (by simp)
             ·rw [if_neg c14] at H; exact absurd H (by simp)
            ·rw [if_neg c13] at H; exact absurd H (by simp)
           ·rw [if_neg c12] at H; exact absurd H (by simp)
          ·rw [if_neg c10] at H; exact absurd H (by simp)
         ·rw [if_neg c9] at H; exact absurd H (by simp)
        ·rw [if_neg c8] at H; exact absurd H (by simp)
       ·rw [if_neg c7] at H; have iy : decide (bZ < (l0.length : Int)) = false := decide_eq_false c7; clear c7; by_cases c50 : aY = 0
        ·rw [if_pos c50] at H; have oh : (aY == 0) = true := beq_iff_eq.mpr c50; have p5 : (aY != 0) = false := bne_eq_false_iff_eq.mpr c50; clear c50; have H' := aa.mk H; clear H; go_wp2; go_roundg k2
         case measure => have := HK1.out; have := HK2.out; omega
         case rel => exact ⟨(ao), (wrap64 (au + 1)), (by first | rfl | (simp; done) | (simp [*]; done)), H', ⟨by have := HK1.out; have := HK2.out; omega⟩, ⟨by (with_reducible repeat (first | apply Kd.V_alloc | apply Kd.ZN | apply Kd.ZK)); exact Kd.Yc bV.out (fun _ hk => ⟨hk.1, hk.2.1⟩)⟩, ⟨by (with_reducible repeat (first | apply Kd.R_alloc | apply Kd.R_drewN | apply Kd.QO)); exact Kd.Zc aE.out (fun _ hk => hk.1)⟩, ⟨bB⟩⟩
        ·rw [if_neg c50] at H; have oh : (aY == 0) = false := beq_eq_false_iff_ne.mpr c50; have p5 : (aY != 0) = true := bne_iff_ne.mpr c50; by_cases c51 : 0 < (aG.length : Int)
         ·rw [if_pos c51] at H; have su : decide (0 < (aG.length : Int)) = true := decide_eq_true c51; have ss : decide (0 < aG.length) = true := decide_eq_true (by omega); clear c51; have uG := aa.mk H; clear H; obtain ⟨B5, rp, zu⟩ := Kd.Zg ax.out; subst zu; have pa : 0 ≤ (0 : Int) := (by omega); have o9 : 0 < (aG.length : Int) := of_decide_eq_true (by assumption); obtain ⟨oq, zJ, iD⟩ := Kd.Zi (Kd.QE ax.out).2.2 0 pa o9; cases zJ; have Am : (0 < aG.length) = True := eq_true (by omega); (try rw [show ((0 : Int)).toNat = 0 from rfl] at iD)
          (try rw [Addr.add_zero'] at iD)
          replace pa := eq_true pa; replace o9 := eq_true o9; go_upto_if 67 with (fail)
          go_cut [8] (fun v8 wc => ∃ (kq : Nat) (fM : Int), v8 = .int .i64 fM ∧ aa (Qi.j2 kq (l0.length : Int) aG fM = some (r1, r2)) ∧ aa (kq ≤ k2) ∧ aa (Kd.R (Kd.int .i64) 3 wc w.heap.size (fun k_ => (w.heap.size ≤ k_)) (.slice (some oq) aG.length rp) aG) ∧ aa (Below w.heap.size w wc))
          case first =>
           have H := uG.out; clear uG; by_cases c54 : (rd aG 0) < 0
           ·rw [if_pos c54] at H; have kO : decide ((rd aG 0) < 0) = true := decide_eq_true c54; clear c54; (first | rw [kO] | (simp only [QC, QD]; rw [kO]) | skip)
            have H' := aa.mk H; clear H; go_wp2; go_meet
            case rel => exact ⟨_, (wrap64 (-aY)), (by first | rfl | (simp; done) | (simp [*]; done)), H', ⟨by have := HK1.out; have := HK2.out; first | omega | exact Nat.le_refl _⟩, ⟨by (with_reducible repeat (first | apply Kd.R_alloc | apply Kd.R_drewN | apply Kd.QO)); exact Kd.Zc ax.out (fun _ hk => hk.1)⟩, ⟨bB⟩⟩
           ·rw [if_neg c54] at H; have kO : decide ((rd aG 0) < 0) = false := decide_eq_false c54; clear c54; (first | rw [kO] | (simp only [QC, QD]; rw [kO]) | skip)
            have H' := aa.mk H; clear H; go_wp2; go_meet
            case rel => exact ⟨_, (aY), (by first | rfl | (simp; done) | (simp [*]; done)), H', ⟨by have := HK1.out; have := HK2.out; first | omega | exact Nat.le_refl _⟩, ⟨by (with_reducible repeat (first | apply Kd.R_alloc | apply Kd.R_drewN | apply Kd.QO)); exact Kd.Zc ax.out (fun _ hk => hk.1)⟩, ⟨bB⟩⟩
          case rest =>
           clear uG; try clear c1
           try clear p1
           try clear q1
           try clear hx1
           try clear qi1
           try clear c2
           try clear p2
           try clear q2
           try clear c3
           try clear q3
           try clear c5
           try clear p6
           try clear c7
           try clear iy
           try clear c8
           try clear c9
           try clear c10
           try clear c12
           try clear p12
           try clear q12
           try clear yK
           try clear c13
           try clear p13
           try clear q13
           try clear yJ
           try clear yD
           try clear c14
           try clear c15
           try clear c16
           try clear c19
           try clear eO
           try clear kT
           try clear c20
           try clear q23
           try clear c24
           try clear q24
           try clear c35
           try clear q38
           try clear c39
           try clear q39
           try clear c50
           try clear oh
           try clear p5
           try clear c51
           try clear su
           try clear ss
           try clear c54
           try clear kO
           try clear lH
           try clear iD
           try clear lF
           try clear pa
           try clear sX
           try clear sW
           try clear lE
           try clear o9
           try clear q23
           try clear q24
           try clear q38
           try clear q39
           obtain ⟨kq, fM, rfl, HA, wG, ax, HB⟩ := hcut; cases kq with
           | zero => exact absurd HA.out (by simp [Qi.j2])
           | succ uX =>
            have H := HA.out; clear HA; simp only [Qi.j2] at H; have H' := aa.mk H; clear H; go_wp2; go_loopg [12] uX (fun kq v12 w' => ∃ (fK : List Int) (bs : Int), v12 = .int .i64 bs ∧ aa (Qi.l2 kq (l0.length : Int) fK fM bs = some (r1, r2)) ∧ aa (kq ≤ uX) ∧ aa (Kd.R (Kd.int .i64) 3 w' w.heap.size (fun k_ => (w.heap.size ≤ k_)) (.slice (some oq) aG.length rp) fK) ∧ aa (Below w.heap.size w w'))
            case atStart => exact ⟨(aG), (0), (by first | rfl | (simp; done) | (simp [*]; done)), H', ⟨Nat.le_refl _⟩, ⟨by (with_reducible repeat (first | apply Kd.R_alloc | apply Kd.R_drewN | apply Kd.QO)); exact ax.out⟩, ⟨bB⟩⟩
            case round =>
             clear H'; try clear c1
             try clear p1
             try clear q1
             try clear hx1
             try clear qi1
             try clear c2
             try clear p2
             try clear q2
             try clear c3
             try clear q3
             try clear c5
             try clear p6
             try clear c7
             try clear iy
             try clear c8
             try clear c9
             try clear c10
             try clear c12
             try clear p12
             try clear q12
             try clear yK
             try clear c13
             try clear p13
             try clear q13
             try clear yJ
             try clear yD
             try clear c14
             try clear c15
             try clear c16
             try clear c19
             try clear eO
             try clear kT
             try clear c20
             try clear q23
             try clear c24
             try clear q24
             try clear c35
             try clear q38
             try clear c39
             try clear q39
             try clear c50
             try clear oh
             try clear p5
             try clear c51
             try clear su
             try clear ss
             try clear c54
             try clear kO
             try clear lH
             try clear iD
             try clear p1
             try clear p12
             try clear lF
             try clear p13
             try clear pa
             try clear p2
             try clear p6
             try clear sX
             try clear sW
             try clear q1
             try clear q12
             try clear lE
             try clear q13
             try clear o9
             try clear q2
             try clear q23
             try clear q24
             try clear q3
             try clear q38
             try clear q39
             obtain ⟨fK, bs, rfl, HA, HK4, ax, HB⟩ := hrel; have nW := (Kd.QE ax.out).1; rw [nW] at ax; (try simp only [nW])
             cases gk with
             | zero => exact absurd HA.out (by simp [Qi.l2])
             | succ k4 =>
              have H := HA.out; clear HA; simp only [Qi.l2] at H; by_cases c55 : bs < (l0.length : Int)
              ·rw [if_pos c55] at H; have vV : decide (bs < (l0.length : Int)) = true := decide_eq_true c55; clear c55; by_cases c56 : 0 ≤ bs
               ·rw [if_pos c56] at H; have AG : decide (0 ≤ bs) = true := decide_eq_true c56; clear c56; by_cases c57 : bs < (fK.length : Int)
                ·rw [if_pos c57] at H; have AF : decide (bs < (fK.length : Int)) = true := decide_eq_true c57; clear c57; by_cases c58 : fM = 0
                 ·rw [if_pos c58] at H; exact absurd H (by simp)
                 ·rw [if_neg c58] at H; have AE : (fM == 0) = false := beq_eq_false_iff_ne.mpr c58; have AD : (fM != 0) = true := bne_iff_ne.mpr c58; obtain ⟨jg, mv⟩ : ∃ y_ : List Int, y_ = (fK.set (bs : Int).toNat (wrap64 (Int.tdiv (rd fK bs) fM))) := ⟨_, rfl⟩; replace H : (if (rd jg bs) ≤ 0 then (some (([] : List Int), false)) else (Qi.l2 k4 (l0.length : Int) jg fM (wrap64 (bs + 1)))) = some (r1, r2) := by first | (rw [mv]; with_reducible exact H) | (have H2_ := (Option.bind_some _ _).symm.trans H; rw [mv]; with_reducible exact H2_) | (have H2_ := (Option.bind_some _ _).symm.trans H; with_reducible exact H2_) | with_reducible exact H | (rw [mv]; exact H) | exact H
                  have ou := aa.mk mv; clear mv; by_cases c60 : (rd jg bs) ≤ 0
                  ·rw [if_pos c60] at H; have vU : decide ((rd jg bs) ≤ 0) = true := decide_eq_true c60; clear c60; simp only [Option.some.injEq, Prod.mk.injEq] at H; obtain ⟨rfl, rfl⟩ := H; have nc : 0 ≤ (bs : Int) := of_decide_eq_true (by assumption); have m7 : bs < (fK.length : Int) := of_decide_eq_true (by assumption); obtain ⟨qd, uf, lG⟩ := Kd.Zi (Kd.QE ax.out).2.2 bs nc m7; obtain rfl : oq = qd := (by injection uf); replace nc := eq_true nc; replace m7 := eq_true m7; have p59 : 0 ≤ (bs : Int) := of_decide_eq_true (by assumption); have q59 : (bs : Int) < ((fK.length : Int) : Int) := of_decide_eq_true (by assumption); obtain ⟨lQ, zN, pK, pJ, tQ, zR, qm⟩ := Kd.VK ax.out (by omega); (first | cases pK | (injection pK with ea_ en_ ec_; (first | subst ea_ | (injection ea_ with ea_; subst ea_)); subst ec_; clear en_))
                   have uK := aa.mk pJ; have z7 := aa.mk qm; clear pJ tQ qm; (first | simp only [Z9] at iD | skip)
                   (first | simp only [Z9] at lG | skip)
                   obtain ⟨tc, tr⟩ := Kd.Vv 0 ax.out (bs : Int) p59 q59; replace p59 := eq_true p59; replace q59 := eq_true q59; have uA := Kd.JX ax.out (bs : Int) (wrap64 (Int.tdiv (rd fK bs) fM)); go_wp2_with (first | ((with_reducible refine Y5 (t := 3) (p := 83) rfl ?_); refine YV (t := 3) (p := 83) (v := ?yv) (w1 := (wr.setCell ⟨lQ, (bs : Int).toNat, none⟩ (.int .i64 (wrap64 (Int.tdiv (rd fK bs) fM))))) ?hg ?ho ?hn ?hr ?_; (case ho => rfl); (case hg => rfl); (case hn => rfl); (case hr => first | (go_simp; done) | (go_simp; rfl)); intro w62 hw; have hg : wr.grownBy w62 (some lQ) := (by rw [hw]; exact uA.2); have hp_ : Kd.R (Kd.int .i64) 3 w62 w.heap.size (fun k_ => (w.heap.size ≤ k_)) (.slice (some ⟨lQ, 0, none⟩) fK.length rp) jg := (by rw [hw, ou.out]; exact uA.1); clear uA; replace ax := aa.mk (hp_); replace HB := aa.mk ((by rw [hw]; exact Zn (HB.out) uK.out : Below w.heap.size w w62)); clear hg hw hp_; have nb : 0 ≤ (bs : Int) := of_decide_eq_true (by assumption); have m6 : bs < (jg.length : Int) := (by have h_ : (bs : Int) < ((fK.length : Int) : Int) := of_decide_eq_true (by assumption); first | (have e_ := (Kd.QE ax.out).1; omega) | simpa only [ou.out, List.length_set] using h_); have uS : ((bs : Int) < ((fK.length : Int) : Int)) = True := eq_true (of_decide_eq_true (by assumption)); obtain ⟨qc, ue, fX⟩ := Kd.Zi (Kd.QE ax.out).2.2 bs nb m6; obtain rfl : (⟨lQ, 0, none⟩ : Addr) = qc := (by injection ue); (first | simp only [Z9] at fX | simp only [JV] at fX | simp only [Addr.add, Nat.zero_add] at fX | skip); replace nb := eq_true nb; replace m6 := eq_true m6))
                   go_ret2; exact ⟨_, by first | rfl | (simp [Qk, Qj] <;> rfl) | (simp [*, Qk, Qj] <;> rfl), by first | exact Kd.Yr _ _ _ _ _ | exact Kd.Yv _ _ _ _ _ | exact Kd.V_nil _ _ _ _ _ | exact Kd.Q_nil _ _ _ _ _ | exact Kd.Yy _ _ _ _ _, bB⟩
                  ·rw [if_neg c60] at H; have vU : decide ((rd jg bs) ≤ 0) = false := decide_eq_false c60; clear c60; have H' := aa.mk H; clear H; have nc : 0 ≤ (bs : Int) := of_decide_eq_true (by assumption); have m7 : bs < (fK.length : Int) := of_decide_eq_true (by assumption); obtain ⟨qd, uf, lG⟩ := Kd.Zi (Kd.QE ax.out).2.2 bs nc m7; obtain rfl : oq = qd := (by injection uf); replace nc := eq_true nc; replace m7 := eq_true m7; have p59 : 0 ≤ (bs : Int) := of_decide_eq_true (by assumption); have q59 : (bs : Int) < ((fK.length : Int) : Int) := of_decide_eq_true (by assumption); obtain ⟨lQ, zN, pK, pJ, tQ, zR, qm⟩ := Kd.VK ax.out (by omega); (first | cases pK | (injection pK with ea_ en_ ec_; (first | subst ea_ | (injection ea_ with ea_; subst ea_)); subst ec_; clear en_))
                   have uK := aa.mk pJ; have z7 := aa.mk qm; clear pJ tQ qm; (first | simp only [Z9] at lG | skip)
                   obtain ⟨tc, tr⟩ := Kd.Vv 0 ax.out (bs : Int) p59 q59; replace p59 := eq_true p59; replace q59 := eq_true q59; have uz := Kd.JX ax.out (bs : Int) (wrap64 (Int.tdiv (rd fK bs) fM)); go_wp2_with (first | ((with_reducible refine Y5 (t := 3) (p := 83) rfl ?_); refine YV (t := 3) (p := 83) (v := ?yu) (w1 := (wr.setCell ⟨lQ, (bs : Int).toNat, none⟩ (.int .i64 (wrap64 (Int.tdiv (rd fK bs) fM))))) ?hg ?ho ?hn ?hr ?_; (case ho => rfl); (case hg => rfl); (case hn => rfl); (case hr => first | (go_simp; done) | (go_simp; rfl)); intro w64 hw; have hg : wr.grownBy w64 (some lQ) := (by rw [hw]; exact uz.2); have hp_ : Kd.R (Kd.int .i64) 3 w64 w.heap.size (fun k_ => (w.heap.size ≤ k_)) (.slice (some ⟨lQ, 0, none⟩) fK.length rp) jg := (by rw [hw, ou.out]; exact uz.1); clear uz; replace ax := aa.mk (hp_); replace HB := aa.mk ((by rw [hw]; exact Zn (HB.out) uK.out : Below w.heap.size w w64)); clear hg hw hp_; have nb : 0 ≤ (bs : Int) := of_decide_eq_true (by assumption); have m6 : bs < (jg.length : Int) := (by have h_ : (bs : Int) < ((fK.length : Int) : Int) := of_decide_eq_true (by assumption); first | (have e_ := (Kd.QE ax.out).1; omega) | simpa only [ou.out, List.length_set] using h_); have uS : ((bs : Int) < ((fK.length : Int) : Int)) = True := eq_true (of_decide_eq_true (by assumption)); obtain ⟨qc, ue, fX⟩ := Kd.Zi (Kd.QE ax.out).2.2 bs nb m6; obtain rfl : (⟨lQ, 0, none⟩ : Addr) = qc := (by injection ue); (first | simp only [Z9] at fX | simp only [JV] at fX | simp only [Addr.add, Nat.zero_add] at fX | skip); replace nb := eq_true nb; replace m6 := eq_true m6))
                   (try simp only [← nW])
                   go_roundg k4
                   case measure => have := HK1.out; have := HK2.out; have := wG.out; have := HK4.out; omega
                   case rel => exact ⟨(jg), (wrap64 (bs + 1)), (by first | rfl | (simp; done) | (simp [*]; done)), H', ⟨by have := HK1.out; have := HK2.out; have := wG.out; have := HK4.out; omega⟩, ⟨by (try simp only [nW]); (with_reducible repeat (first | apply Kd.R_alloc | apply Kd.R_drewN | apply Kd.QO)); exact ax.out⟩, ⟨bB⟩⟩
                ·rw [if_neg c57] at H; exact absurd H (by simp)
               ·rw [if_neg c56] at H; exact absurd H (by simp)
              ·rw [if_neg c55] at H; have vV : decide (bs < (l0.length : Int)) = false := decide_eq_false c55; clear c55; simp only [Option.some.injEq, Prod.mk.injEq] at H; obtain ⟨rfl, rfl⟩ := H; go_wp2; go_ret2; exact ⟨_, by first | rfl | (simp [Qk, Qj] <;> rfl) | (simp [*, Qk, Qj] <;> rfl), by (with_reducible repeat (first | apply Kd.R_alloc | apply Kd.R_drewN | apply Kd.QO)); exact ax.out, bB⟩
         ·rw [if_neg c51] at H; exact absurd H (by simp)
    ·rw [if_neg c5] at H; have dh : decide (au < (ao.length : Int)) = false := decide_eq_false c5; clear c5; simp only [Option.some.injEq, Prod.mk.injEq] at H; obtain ⟨rfl, rfl⟩ := H; obtain ⟨B2, BD, zt⟩ := Kd.Zg aE.out; subst zt; go_wp2; go_ret2; exact ⟨_, by first | rfl | (simp [Qk, Qj] <;> rfl) | (simp [*, Qk, Qj] <;> rfl), by first | exact Kd.Yr _ _ _ _ _ | exact Kd.Yv _ _ _ _ _ | exact Kd.V_nil _ _ _ _ _ | exact Kd.Q_nil _ _ _ _ _ | exact Kd.Yy _ _ _ _ _, bB⟩
 ·rw [if_neg c2] at H; exact absurd H (by simp)
def Qm.l0 : Nat → List (List Int) → Int → Int → Option (Bool × Int)
 | 0, _, _, _ => none
 | k + 1, x5, x6, x7 => if 0 ≤ (IntKind.u64.wrap ((x5.length : Int))) then (if x7 < (shl .i64 1 (IntKind.u64.wrap ((x5.length : Int)))) then ((Qr.f k x7).bind fun t106 => ((QY.f k x5 t106).bind fun t109 => ((Q4.f k x5).bind fun t112 => ((Qo.f k t109 t112).bind fun t115 => (if t115 = (wrap64 ((t109.length : Int) - 1)) then ((Qi.f k t109).bind fun fQ => (if fQ.2 = true then (Qm.l0 k x5 (Go.bits .or .i64 x6 x7) (wrap64 (x7 + 1))) else (Qm.l0 k x5 x6 (wrap64 (x7 + 1))))) else (Qm.l0 k x5 x6 (wrap64 (x7 + 1)))))))) else (some ((x6 == (wrap64 ((shl .i64 1 (IntKind.u64.wrap ((x5.length : Int)))) - 1))), 0))) else (none)
def Qm.f (k : Nat) (ae : List (List Int)) (af : List (List Int)) : Option (Bool × Int) := (Qe.f k ae af).bind fun t102 => (if t102 = 0 then ((Qs.f k ae af).bind fun t103 => (Qm.l0 k t103 0 1)) else (some (false, t102)))
set_option maxHeartbeats 8000000 in
set_option maxRecDepth 100000 in
theorem Qm.calls (k : Nat) (ak : Option Addr) (an : Nat) (ae : List (List Int)) (aj : Option Addr) (al : Nat) (af : List (List Int)) (r1 : Bool) (r2 : Int) (w : World) (aM : Kd.C (Kd.slice 3 (Kd.int .i64)) w ak ae.length ae) (aQ : ae.length ≤ an) (aK : Kd.C (Kd.slice 3 (Kd.int .i64)) w aj af.length af) (aN : af.length ≤ al) (h : Qm.f k ae af = some (r1, r2)) :
  Calls Try.prog 60 #[.agg #[.slice ak ae.length an, .slice aj af.length al]] w fun e w' => e = .returned (.tuple #[.bool r1, .int .i64 r2]) ∧ Below w.heap.size w w' := by
 have ej := Try.underlying24; have ay := aa.mk aM; have aA := aa.mk aQ; clear aM aQ; have az := aa.mk aK; have aC := aa.mk aN; clear aK aN; have HB := aa.mk (Below.refl w.heap.size w); have H : ((Qe.f k ae af).bind fun t102 => (if t102 = 0 then ((Qs.f k ae af).bind fun t103 => (Qm.l0 k t103 0 1)) else (some (false, t102)))) = some (r1, r2) := h; clear h; replace H := Option.bind_eq_some_iff.mp H; obtain ⟨t102, A20, H⟩ := H; replace H : (if t102 = 0 then ((Qs.f k ae af).bind fun t103 => (Qm.l0 k t103 0 1)) else (some (false, t102))) = some (r1, r2) := H; have A2 := aa.mk A20; clear A20; by_cases c3 : t102 = 0
 ·rw [if_pos c3] at H; have bL : (t102 == 0) = true := beq_iff_eq.mpr c3; have cA : (t102 != 0) = false := bne_eq_false_iff_eq.mpr c3; clear c3; replace H := Option.bind_eq_some_iff.mp H; obtain ⟨t103, A40, H⟩ := H; replace H : (Qm.l0 k t103 0 1) = some (r1, r2) := H; have A4 := aa.mk A40; clear A40; have H' := aa.mk H; clear H; go_enter Try.func60, Try.ntmps60; go_wp2_with (first | ((with_reducible refine QN (N := 1) rfl ?_); refine Q3 ?hg (N := 1) ?hd (cs := #[.slice ak ae.length an, .slice aj af.length al]) (t := 24) ?hr ?_; (case hd => rfl); (case hg => rfl); (case hr => first | (go_simp; done) | (go_simp; rfl)); intro ag hg w5 hbox hb; have ab := aa.mk (hbox); have bh := aa.mk ((by rw [hg]; exact (Qb bB) : w.heap.size ≤ ag)); have aT := aa.mk ((by rw [hg]; exact (Qb bB) : w.heap.size ≤ ag)); replace HB := aa.mk (Qa bB hb); clear hb hbox hg; have dE : w5.cell? ⟨ag, 0, none⟩ = some (.slice ak ae.length an) := (Qd ab.out 0).trans rfl; have dD : w5.cell? ⟨ag, 1, none⟩ = some (.slice aj af.length al) := (Qd ab.out 1).trans rfl; have dC := Qc ab.out 0; have dB := Qc ab.out 1) | ((with_reducible refine Qh (f := 55) rfl ?_); refine QG (some 12) rfl rfl Try.func55 (by kernel_rfl) rfl #[.agg #[.slice ak ae.length an, .slice aj af.length al]] rfl hA ?_; (with_reducible refine (Qe.calls k (fun k_ => k_ < w.heap.size) _ _ ae (fun k_ => k_ < w.heap.size) _ _ af t102 _ ?ah ?ai A2.out).mono ?_); (case ah => exact Kd.V_mk aA.out (Kd.Yg (Kd.C_F (Kd.ZP 3 (Kd.Yd .i64)) ay.out) bB)); (case ai => exact Kd.V_mk aC.out (Kd.Yg (Kd.C_F (Kd.ZP 3 (Kd.Yd .i64)) az.out) bB)); rintro e w7 ⟨rfl, hb⟩; refine ⟨_, rfl, ?_⟩; replace ab := aa.mk (Qp ab.out hb); replace HB := aa.mk (Qa bB hb); (try clear hb); (try clear hb2); (try clear hk); (try clear hi); have kD : w7.cell? ⟨ag, 0, none⟩ = some (.slice ak ae.length an) := (Qd ab.out 0).trans rfl; have kC : w7.cell? ⟨ag, 1, none⟩ = some (.slice aj af.length al) := (Qd ab.out 1).trans rfl; have kB := Qc ab.out 0; have kA := Qc ab.out 1) | ((with_reducible refine Qh (f := 96) rfl ?_); refine QG (some 17) rfl rfl Try.func96 (by kernel_rfl) rfl #[.agg #[.slice ak ae.length an, .slice aj af.length al]] rfl hA ?_; (with_reducible refine (Qs.calls k _ _ ae _ _ af t103 _ ?ah ?ai ?aq ?ar A4.out).mono ?_); (case ah => exact (Kd.Qq ay.out HB.out)); (case ai => exact aA.out); (case aq => exact (Kd.Qq az.out HB.out)); (case ar => exact aC.out); rintro e w9 ⟨fc, rfl, ho0, hb⟩; refine ⟨_, rfl, ?_⟩; have bw := aa.mk (Kd.Ya (Kd.ZX (ok' := fun k_ => k_ ≠ ag) (Kd.S_N (Kd.S_bound ho0)) (fun k_ hk_ => (Kd.freshB (g := ag) (o := .cells #[.slice ak ae.length an, .slice aj af.length al] 24 (0, 0)) (by (with_reducible repeat (first | refine Qx ?_ _ | refine QA ?_ | refine Qw ?_ _)); exact ab.out) k_ hk_.2.1))) (Qb bB)); replace ab := aa.mk (Qp ab.out hb); replace HB := aa.mk (Qa bB hb); (try clear hb); (try clear hb2); (try clear hk); (try clear hi); (try clear ho0)))
  go_loopg [6, 7] k (fun kq v6 v7 w' => ∃ (au : Int) (aH : Int), v6 = .int .i64 au ∧ v7 = .int .i64 aH ∧ aa (Qm.l0 kq t103 au aH = some (r1, r2)) ∧ aa (kq ≤ k) ∧ aa (Kd.N (Kd.slice 3 (Kd.int .i64)) 28 w' w.heap.size (fun k_ => k_ ≠ ag) fc t103) ∧ aa (w'.heap[ag]? = some (.cells #[(.slice ak ae.length an), (.slice aj af.length al)] 24 (0, 0))) ∧ aa (Below w.heap.size w w'))
  case atStart => exact ⟨(0), (1), (by first | rfl | (simp; done) | (simp [*]; done)), (by first | rfl | (simp; done) | (simp [*]; done)), H', ⟨Nat.le_refl _⟩, ⟨by (with_reducible repeat (first | apply Kd.N_alloc | apply Kd.Z5 | apply Kd.Yj)); exact bw.out⟩, ⟨by (with_reducible repeat (first | refine Qx ?_ _ | refine QA ?_ | refine Qw ?_ _)); exact ab.out⟩, ⟨bB⟩⟩
  case round =>
   clear H'; try clear p2
   try clear c3
   try clear bL
   try clear cA
   try clear c5
   try clear c6
   try clear c9
   try clear dE
   try clear dD
   try clear kD
   try clear kC
   try clear dC
   try clear dB
   try clear kB
   try clear kA
   obtain ⟨au, aH, rfl, rfl, HA, HK1, aE, ab, HB⟩ := hrel; cases gk with
   | zero => exact absurd HA.out (by simp [Qm.l0])
   | succ k1 =>
    have H := HA.out; clear HA; simp only [Qm.l0] at H; obtain ⟨hZ, pv⟩ : ∃ j_ : Int, (IntKind.u64.wrap ((t103.length : Int))) = j_ := ⟨_, rfl⟩; replace H : (if 0 ≤ (hZ) then (if aH < (shl .i64 1 (hZ)) then ((Qr.f k1 aH).bind fun t106 => ((QY.f k1 t103 t106).bind fun t109 => ((Q4.f k1 t103).bind fun t112 => ((Qo.f k1 t109 t112).bind fun t115 => (if t115 = (wrap64 ((t109.length : Int) - 1)) then ((Qi.f k1 t109).bind fun fQ => (if fQ.2 = true then (Qm.l0 k1 t103 (Go.bits .or .i64 au aH) (wrap64 (aH + 1))) else (Qm.l0 k1 t103 au (wrap64 (aH + 1))))) else (Qm.l0 k1 t103 au (wrap64 (aH + 1)))))))) else (some ((au == (wrap64 ((shl .i64 1 (hZ)) - 1))), 0))) else (none)) = some (r1, r2) := by first | (rw [pv] at H; exact H) | (simp only [pv] at H ⊢; exact H)
    by_cases c11 : 0 ≤ (hZ)
    ·rw [if_pos c11] at H; have fp := eq_true c11; have wj : decide (0 ≤ (hZ)) = true := decide_eq_true c11; clear c11; obtain ⟨ky, mL⟩ : ∃ j_ : Int, (shl .i64 1 (hZ)) = j_ := ⟨_, rfl⟩; replace H : (if aH < (ky) then ((Qr.f k1 aH).bind fun t106 => ((QY.f k1 t103 t106).bind fun t109 => ((Q4.f k1 t103).bind fun t112 => ((Qo.f k1 t109 t112).bind fun t115 => (if t115 = (wrap64 ((t109.length : Int) - 1)) then ((Qi.f k1 t109).bind fun fQ => (if fQ.2 = true then (Qm.l0 k1 t103 (Go.bits .or .i64 au aH) (wrap64 (aH + 1))) else (Qm.l0 k1 t103 au (wrap64 (aH + 1))))) else (Qm.l0 k1 t103 au (wrap64 (aH + 1)))))))) else (some ((au == (wrap64 ((ky) - 1))), 0))) = some (r1, r2) := by first | (rw [mL] at H; exact H) | (simp only [mL] at H ⊢; exact H)
     have pt : (IntKind.i64.wrap (1 * 2 ^ min (hZ).toNat 64)) = ky := mL; have pq : (hZ) ≤ 64 → (IntKind.i64.wrap (1 * 2 ^ (hZ).toNat)) = ky := VY mL; have yV : (IntKind.i64.wrap (2 ^ min (hZ).toNat 64)) = ky := by have h_ := pt; rw [Int.one_mul] at h_; exact h_
     have yU : (hZ) ≤ 64 → (IntKind.i64.wrap (2 ^ (hZ).toNat)) = ky := fun hle_ => by have h_ := pq hle_; rw [Int.one_mul] at h_; exact h_
     have yS : (wrap64 (1 * 2 ^ min (hZ).toNat 64)) = ky := (QC _).symm.trans pt; have yT : (hZ) ≤ 64 → (wrap64 (1 * 2 ^ (hZ).toNat)) = ky := fun h_ => (QC _).symm.trans (pq h_)
     by_cases c13 : aH < (ky)
     ·rw [if_pos c13] at H; have iX : decide (aH < (ky)) = true := decide_eq_true c13; clear c13; replace H := Option.bind_eq_some_iff.mp H; obtain ⟨t106, qw, H⟩ := H; replace H : ((QY.f k1 t103 t106).bind fun t109 => ((Q4.f k1 t103).bind fun t112 => ((Qo.f k1 t109 t112).bind fun t115 => (if t115 = (wrap64 ((t109.length : Int) - 1)) then ((Qi.f k1 t109).bind fun fQ => (if fQ.2 = true then (Qm.l0 k1 t103 (Go.bits .or .i64 au aH) (wrap64 (aH + 1))) else (Qm.l0 k1 t103 au (wrap64 (aH + 1))))) else (Qm.l0 k1 t103 au (wrap64 (aH + 1))))))) = some (r1, r2) := H; have A14 := aa.mk qw; clear qw; replace H := Option.bind_eq_some_iff.mp H; obtain ⟨t109, qv, H⟩ := H; replace H : ((Q4.f k1 t103).bind fun t112 => ((Qo.f k1 t109 t112).bind fun t115 => (if t115 = (wrap64 ((t109.length : Int) - 1)) then ((Qi.f k1 t109).bind fun fQ => (if fQ.2 = true then (Qm.l0 k1 t103 (Go.bits .or .i64 au aH) (wrap64 (aH + 1))) else (Qm.l0 k1 t103 au (wrap64 (aH + 1))))) else (Qm.l0 k1 t103 au (wrap64 (aH + 1)))))) = some (r1, r2) := H; have A15 := aa.mk qv; clear qv; replace H := Option.bind_eq_some_iff.mp H; obtain ⟨t112, m3, H⟩ := H; replace H : ((Qo.f k1 t109 t112).bind fun t115 => (if t115 = (wrap64 ((t109.length : Int) - 1)) then ((Qi.f k1 t109).bind fun fQ => (if fQ.2 = true then (Qm.l0 k1 t103 (Go.bits .or .i64 au aH) (wrap64 (aH + 1))) else (Qm.l0 k1 t103 au (wrap64 (aH + 1))))) else (Qm.l0 k1 t103 au (wrap64 (aH + 1))))) = some (r1, r2) := H; have A16 := aa.mk m3; clear m3; replace H := Option.bind_eq_some_iff.mp H; obtain ⟨t115, qu, H⟩ := H; replace H : (if t115 = (wrap64 ((t109.length : Int) - 1)) then ((Qi.f k1 t109).bind fun fQ => (if fQ.2 = true then (Qm.l0 k1 t103 (Go.bits .or .i64 au aH) (wrap64 (aH + 1))) else (Qm.l0 k1 t103 au (wrap64 (aH + 1))))) else (Qm.l0 k1 t103 au (wrap64 (aH + 1)))) = some (r1, r2) := H; have A17 := aa.mk qu; clear qu; by_cases c18 : t115 = (wrap64 ((t109.length : Int) - 1))
      ·rw [if_pos c18] at H; have iW : (t115 == (wrap64 ((t109.length : Int) - 1))) = true := beq_iff_eq.mpr c18; have wh : (t115 != (wrap64 ((t109.length : Int) - 1))) = false := bne_eq_false_iff_eq.mpr c18; clear c18; replace H := Option.bind_eq_some_iff.mp H; obtain ⟨⟨t116, t119⟩, xk, H⟩ := H; replace H : (if t119 = true then (Qm.l0 k1 t103 (Go.bits .or .i64 au aH) (wrap64 (aH + 1))) else (Qm.l0 k1 t103 au (wrap64 (aH + 1)))) = some (r1, r2) := H; have A19 := aa.mk xk; clear xk; by_cases c20 : t119 = true
       ·subst c20; have H1 : (Qm.l0 k1 t103 (Go.bits .or .i64 au aH) (wrap64 (aH + 1))) = some (r1, r2) := by rw [if_pos rfl] at H; exact H
        clear H; have H := H1; clear H1; have H' := aa.mk H; clear H; obtain ⟨je, iV, tZ⟩ := Kd.ZQ aE.out; subst tZ; go_wp2_with (first | ((with_reducible refine Qh (f := 103) rfl ?_); refine QG (some 28) rfl rfl Try.func103 (by kernel_rfl) rfl #[.int .i64 aH] rfl hA ?_; (with_reducible refine (Qr.calls k1 aH t106 _ A14.out).mono ?_); rintro e w22 ⟨mh, rfl, ho0, hb⟩; refine ⟨_, rfl, ?_⟩; replace aE := aa.mk (Kd.Q8 aE.out (Kd.QQ ho0) hb); have bk := aa.mk (Kd.Zh ho0 (Qb bB)); replace ab := aa.mk (Qp ab.out hb); replace HB := aa.mk (Qa bB hb); (try clear hb); (try clear hb2); (try clear hk); (try clear hi); (try clear ho0); obtain ⟨ie, gV, oV⟩ := Kd.Zg bk.out; subst oV) | ((with_reducible refine Qh (f := 102) rfl ?_); refine QG (some 29) rfl rfl Try.func102 (by kernel_rfl) rfl #[.slice je t103.length iV, .slice ie t106.length gV] rfl hA ?_; (with_reducible refine (QY.calls k1 (fun k_ => (k_ ≠ ag ∧ some k_ ≠ (.slice ie t106.length gV : Value).ownBlock)) _ _ t103 _ _ t106 t109 _ ?ah ?ai ?aq A15.out).mono ?_); (case ah => exact Kd.N_V (aE.out)); (case ai => exact (Kd.QE bk.out).2.2); (case aq => exact (Kd.QE bk.out).2.1); rintro e w24 ⟨mg, rfl, ho0, hb⟩; refine ⟨_, rfl, ?_⟩; replace aE := aa.mk (Kd.Q8 aE.out (Kd.Z3 ho0) hb); have bz := aa.mk (Kd.Ya (Kd.ZX (ok' := fun k_ => some k_ ≠ (.slice ie t106.length gV : Value).ownBlock ∧ k_ ≠ ag) ho0 (fun k_ hk_ => ⟨Or.elim hk_ (fun hs_ => hs_.2) (fun hn_ => (Kd.fresh' (Kd.R_lt bk.out) k_ hn_)), Or.elim hk_ (fun hs_ => hs_.1) (fun hn_ => (Kd.freshB (g := ag) (o := .cells #[.slice ak ae.length an, .slice aj af.length al] 24 (0, 0)) (by (with_reducible repeat (first | refine Qx ?_ _ | refine QA ?_ | refine Qw ?_ _)); exact ab.out) k_ hn_))⟩)) (Qb bB)); replace bk := aa.mk (Kd.QV bk.out hb); replace ab := aa.mk (Qp ab.out hb); replace HB := aa.mk (Qa bB hb); (try clear hb); (try clear hb2); (try clear hk); (try clear hi); (try clear ho0)) | ((with_reducible refine Qh (f := 98) rfl ?_); refine QG (some 32) rfl rfl Try.func98 (by kernel_rfl) rfl #[.slice je t103.length iV] rfl hA ?_; (with_reducible refine (Q4.calls k1 _ _ t103 t112 _ ?ah ?ai A16.out).mono ?_); (case ah => exact (Kd.Za aE.out).2.2); (case ai => exact (Kd.Za aE.out).2.1); rintro e w25 ⟨mf, rfl, ho0, hb⟩; refine ⟨_, rfl, ?_⟩; replace aE := aa.mk (Kd.Q8 aE.out (Kd.QQ ho0) hb); replace bz := aa.mk (Kd.Q8 bz.out (Kd.QQ ho0) hb); have bf := aa.mk (Kd.Zh (Kd.Zm ho0 (Kd.R_lt bk.out)) (Qb bB)); replace bk := aa.mk (Kd.Zd bk.out (Kd.QQ ho0) hb); replace ab := aa.mk (Qp ab.out hb); replace HB := aa.mk (Qa bB hb); (try clear hb); (try clear hb2); (try clear hk); (try clear hi); (try clear ho0); obtain ⟨o0, oX, nw⟩ := Kd.ZQ bz.out; subst nw; obtain ⟨oZ, oW, pP⟩ := Kd.Zg bf.out; subst pP) | ((with_reducible refine Qh (f := 97) rfl ?_); refine QG (some 33) rfl rfl Try.func97 (by kernel_rfl) rfl #[.slice o0 t109.length oX, .slice oZ t112.length oW] rfl hA ?_; (with_reducible refine (Qo.calls k1 _ _ t109 _ _ t112 t115 _ ?ah ?ai ?aq ?ar A17.out).mono ?_); (case ah => exact (Kd.Za bz.out).2.2); (case ai => exact (Kd.Za bz.out).2.1); (case aq => exact (Kd.QE bf.out).2.2); (case ar => exact (Kd.QE bf.out).2.1); rintro e w28 ⟨rfl, hb⟩; refine ⟨_, rfl, ?_⟩; replace aE := aa.mk (Kd.ZO aE.out hb); replace bk := aa.mk (Kd.QV bk.out hb); replace bz := aa.mk (Kd.ZO bz.out hb); replace bf := aa.mk (Kd.QV bf.out hb); replace ab := aa.mk (Qp ab.out hb); replace HB := aa.mk (Qa bB hb); (try clear hb); (try clear hb2); (try clear hk); (try clear hi)) | ((with_reducible refine Qh (f := 104) rfl ?_); refine QG (some 40) rfl rfl Try.func104 (by kernel_rfl) rfl #[.slice o0 t109.length oX] rfl hA ?_; (with_reducible refine (Qi.calls k1 (fun k_ => ((some k_ ≠ (.slice ie t106.length gV : Value).ownBlock ∧ k_ ≠ ag) ∧ some k_ ≠ (.slice oZ t112.length oW : Value).ownBlock)) _ _ t109 t116 true _ ?ah A19.out).mono ?_); (case ah => exact Kd.N_V (bz.out)); rintro e w29 ⟨yC, rfl, ho0, hb⟩; refine ⟨_, rfl, ?_⟩; replace aE := aa.mk (Kd.Q8 aE.out (Kd.QQ ho0) hb); replace bz := aa.mk (Kd.Q8 bz.out (Kd.QQ ho0) hb); have wF := aa.mk (Kd.Zh (Kd.Zm (Kd.Zm (Kd.Zc (ok' := fun k_ => True) ho0 (fun _ hk_ => trivial)) (Kd.R_lt bk.out)) (Kd.R_lt bf.out)) (Qb bB)); replace bk := aa.mk (Kd.Zd bk.out (Kd.QQ ho0) hb); replace bf := aa.mk (Kd.Zd bf.out (Kd.QQ ho0) hb); replace ab := aa.mk (Qp ab.out hb); replace HB := aa.mk (Qa bB hb); (try clear hb); (try clear hb2); (try clear hk); (try clear hi); (try clear ho0)))
        go_roundg k1
        case measure => have := HK1.out; omega
        case rel => exact ⟨(Go.bits .or .i64 au aH), (wrap64 (aH + 1)), (by first | rfl | (simp; done) | (simp [*]; done)), (by first | rfl | (simp; done) | (simp [*]; done)), H', ⟨by have := HK1.out; omega⟩, ⟨by (with_reducible repeat (first | apply Kd.N_alloc | apply Kd.Z5 | apply Kd.Yj)); exact Kd.ZX aE.out (fun _ hk => hk.1.1.1.1)⟩, ⟨by (with_reducible repeat (first | refine Qx ?_ _ | refine QA ?_ | refine Qw ?_ _)); exact ab.out⟩, ⟨bB⟩⟩
       ·replace c20 := Bool.eq_false_iff.mpr c20; subst c20; have H1 : (Qm.l0 k1 t103 au (wrap64 (aH + 1))) = some (r1, r2) := by rw [if_neg (show ¬ (false = true) by decide)] at H; exact H
        clear H; have H := H1; clear H1; have H' := aa.mk H; clear H; obtain ⟨kY, kM, pN⟩ := Kd.ZQ aE.out; subst pN; go_wp2_with (first | ((with_reducible refine Qh (f := 103) rfl ?_); refine QG (some 28) rfl rfl Try.func103 (by kernel_rfl) rfl #[.int .i64 aH] rfl hA ?_; (with_reducible refine (Qr.calls k1 aH t106 _ A14.out).mono ?_); rintro e w31 ⟨mh, rfl, ho0, hb⟩; refine ⟨_, rfl, ?_⟩; replace aE := aa.mk (Kd.Q8 aE.out (Kd.QQ ho0) hb); have bk := aa.mk (Kd.Zh ho0 (Qb bB)); replace ab := aa.mk (Qp ab.out hb); replace HB := aa.mk (Qa bB hb); (try clear hb); (try clear hb2); (try clear hk); (try clear hi); (try clear ho0); obtain ⟨rT, rz, zz⟩ := Kd.Zg bk.out; subst zz) | ((with_reducible refine Qh (f := 102) rfl ?_); refine QG (some 29) rfl rfl Try.func102 (by kernel_rfl) rfl #[.slice kY t103.length kM, .slice rT t106.length rz] rfl hA ?_; (with_reducible refine (QY.calls k1 (fun k_ => (k_ ≠ ag ∧ some k_ ≠ (.slice rT t106.length rz : Value).ownBlock)) _ _ t103 _ _ t106 t109 _ ?ah ?ai ?aq A15.out).mono ?_); (case ah => exact Kd.N_V (aE.out)); (case ai => exact (Kd.QE bk.out).2.2); (case aq => exact (Kd.QE bk.out).2.1); rintro e w33 ⟨mg, rfl, ho0, hb⟩; refine ⟨_, rfl, ?_⟩; replace aE := aa.mk (Kd.Q8 aE.out (Kd.Z3 ho0) hb); have bz := aa.mk (Kd.Ya (Kd.ZX (ok' := fun k_ => some k_ ≠ (.slice rT t106.length rz : Value).ownBlock ∧ k_ ≠ ag) ho0 (fun k_ hk_ => ⟨Or.elim hk_ (fun hs_ => hs_.2) (fun hn_ => (Kd.fresh' (Kd.R_lt bk.out) k_ hn_)), Or.elim hk_ (fun hs_ => hs_.1) (fun hn_ => (Kd.freshB (g := ag) (o := .cells #[.slice ak ae.length an, .slice aj af.length al] 24 (0, 0)) (by (with_reducible repeat (first | refine Qx ?_ _ | refine QA ?_ | refine Qw ?_ _)); exact ab.out) k_ hn_))⟩)) (Qb bB)); replace bk := aa.mk (Kd.QV bk.out hb); replace ab := aa.mk (Qp ab.out hb); replace HB := aa.mk (Qa bB hb); (try clear hb); (try clear hb2); (try clear hk); (try clear hi); (try clear ho0)) | ((with_reducible refine Qh (f := 98) rfl ?_); refine QG (some 32) rfl rfl Try.func98 (by kernel_rfl) rfl #[.slice kY t103.length kM] rfl hA ?_; (with_reducible refine (Q4.calls k1 _ _ t103 t112 _ ?ah ?ai A16.out).mono ?_); (case ah => exact (Kd.Za aE.out).2.2); (case ai => exact (Kd.Za aE.out).2.1); rintro e w34 ⟨mf, rfl, ho0, hb⟩; refine ⟨_, rfl, ?_⟩; replace aE := aa.mk (Kd.Q8 aE.out (Kd.QQ ho0) hb); replace bz := aa.mk (Kd.Q8 bz.out (Kd.QQ ho0) hb); have bf := aa.mk (Kd.Zh (Kd.Zm ho0 (Kd.R_lt bk.out)) (Qb bB)); replace bk := aa.mk (Kd.Zd bk.out (Kd.QQ ho0) hb); replace ab := aa.mk (Qp ab.out hb); replace HB := aa.mk (Qa bB hb); (try clear hb); (try clear hb2); (try clear hk); (try clear hi); (try clear ho0); obtain ⟨uL, uk, tW⟩ := Kd.ZQ bz.out; subst tW; obtain ⟨nK, nB, mM⟩ := Kd.Zg bf.out; subst mM) | ((with_reducible refine Qh (f := 97) rfl ?_); refine QG (some 33) rfl rfl Try.func97 (by kernel_rfl) rfl #[.slice uL t109.length uk, .slice nK t112.length nB] rfl hA ?_; (with_reducible refine (Qo.calls k1 _ _ t109 _ _ t112 t115 _ ?ah ?ai ?aq ?ar A17.out).mono ?_); (case ah => exact (Kd.Za bz.out).2.2); (case ai => exact (Kd.Za bz.out).2.1); (case aq => exact (Kd.QE bf.out).2.2); (case ar => exact (Kd.QE bf.out).2.1); rintro e w37 ⟨rfl, hb⟩; refine ⟨_, rfl, ?_⟩; replace aE := aa.mk (Kd.ZO aE.out hb); replace bk := aa.mk (Kd.QV bk.out hb); replace bz := aa.mk (Kd.ZO bz.out hb); replace bf := aa.mk (Kd.QV bf.out hb); replace ab := aa.mk (Qp ab.out hb); replace HB := aa.mk (Qa bB hb); (try clear hb); (try clear hb2); (try clear hk); (try clear hi)) | ((with_reducible refine Qh (f := 104) rfl ?_); refine QG (some 40) rfl rfl Try.func104 (by kernel_rfl) rfl #[.slice uL t109.length uk] rfl hA ?_; (with_reducible refine (Qi.calls k1 (fun k_ => ((some k_ ≠ (.slice rT t106.length rz : Value).ownBlock ∧ k_ ≠ ag) ∧ some k_ ≠ (.slice nK t112.length nB : Value).ownBlock)) _ _ t109 t116 false _ ?ah A19.out).mono ?_); (case ah => exact Kd.N_V (bz.out)); rintro e w38 ⟨yC, rfl, ho0, hb⟩; refine ⟨_, rfl, ?_⟩; replace aE := aa.mk (Kd.Q8 aE.out (Kd.QQ ho0) hb); replace bz := aa.mk (Kd.Q8 bz.out (Kd.QQ ho0) hb); have wF := aa.mk (Kd.Zh (Kd.Zm (Kd.Zm (Kd.Zc (ok' := fun k_ => True) ho0 (fun _ hk_ => trivial)) (Kd.R_lt bk.out)) (Kd.R_lt bf.out)) (Qb bB)); replace bk := aa.mk (Kd.Zd bk.out (Kd.QQ ho0) hb); replace bf := aa.mk (Kd.Zd bf.out (Kd.QQ ho0) hb); replace ab := aa.mk (Qp ab.out hb); replace HB := aa.mk (Qa bB hb); (try clear hb); (try clear hb2); (try clear hk); (try clear hi); (try clear ho0)))
        go_roundg k1
        case measure => have := HK1.out; omega
        case rel => exact ⟨(au), (wrap64 (aH + 1)), (by first | rfl | (simp; done) | (simp [*]; done)), (by first | rfl | (simp; done) | (simp [*]; done)), H', ⟨by have := HK1.out; omega⟩, ⟨by (with_reducible repeat (first | apply Kd.N_alloc | apply Kd.Z5 | apply Kd.Yj)); exact Kd.ZX aE.out (fun _ hk => hk.1.1.1.1)⟩, ⟨by (with_reducible repeat (first | refine Qx ?_ _ | refine QA ?_ | refine Qw ?_ _)); exact ab.out⟩, ⟨bB⟩⟩
      ·rw [if_neg c18] at H; have iW : (t115 == (wrap64 ((t109.length : Int) - 1))) = false := beq_eq_false_iff_ne.mpr c18; have wh : (t115 != (wrap64 ((t109.length : Int) - 1))) = true := bne_iff_ne.mpr c18; have H' := aa.mk H; clear H; obtain ⟨rQ, ru, tU⟩ := Kd.ZQ aE.out; subst tU; go_wp2_with (first | ((with_reducible refine Qh (f := 103) rfl ?_); refine QG (some 28) rfl rfl Try.func103 (by kernel_rfl) rfl #[.int .i64 aH] rfl hA ?_; (with_reducible refine (Qr.calls k1 aH t106 _ A14.out).mono ?_); rintro e w40 ⟨mh, rfl, ho0, hb⟩; refine ⟨_, rfl, ?_⟩; replace aE := aa.mk (Kd.Q8 aE.out (Kd.QQ ho0) hb); have bk := aa.mk (Kd.Zh ho0 (Qb bB)); replace ab := aa.mk (Qp ab.out hb); replace HB := aa.mk (Qa bB hb); (try clear hb); (try clear hb2); (try clear hk); (try clear hi); (try clear ho0); obtain ⟨rO, rq, tT⟩ := Kd.Zg bk.out; subst tT) | ((with_reducible refine Qh (f := 102) rfl ?_); refine QG (some 29) rfl rfl Try.func102 (by kernel_rfl) rfl #[.slice rQ t103.length ru, .slice rO t106.length rq] rfl hA ?_; (with_reducible refine (QY.calls k1 (fun k_ => (k_ ≠ ag ∧ some k_ ≠ (.slice rO t106.length rq : Value).ownBlock)) _ _ t103 _ _ t106 t109 _ ?ah ?ai ?aq A15.out).mono ?_); (case ah => exact Kd.N_V (aE.out)); (case ai => exact (Kd.QE bk.out).2.2); (case aq => exact (Kd.QE bk.out).2.1); rintro e w42 ⟨mg, rfl, ho0, hb⟩; refine ⟨_, rfl, ?_⟩; replace aE := aa.mk (Kd.Q8 aE.out (Kd.Z3 ho0) hb); have bz := aa.mk (Kd.Ya (Kd.ZX (ok' := fun k_ => some k_ ≠ (.slice rO t106.length rq : Value).ownBlock ∧ k_ ≠ ag) ho0 (fun k_ hk_ => ⟨Or.elim hk_ (fun hs_ => hs_.2) (fun hn_ => (Kd.fresh' (Kd.R_lt bk.out) k_ hn_)), Or.elim hk_ (fun hs_ => hs_.1) (fun hn_ => (Kd.freshB (g := ag) (o := .cells #[.slice ak ae.length an, .slice aj af.length al] 24 (0, 0)) (by (with_reducible repeat (first | refine Qx ?_ _ | refine QA ?_ | refine Qw ?_ _)); exact ab.out) k_ hn_))⟩)) (Qb bB)); replace bk := aa.mk (Kd.QV bk.out hb); replace ab := aa.mk (Qp ab.out hb); replace HB := aa.mk (Qa bB hb); (try clear hb); (try clear hb2); (try clear hk); (try clear hi); (try clear ho0)) | ((with_reducible refine Qh (f := 98) rfl ?_); refine QG (some 32) rfl rfl Try.func98 (by kernel_rfl) rfl #[.slice rQ t103.length ru] rfl hA ?_; (with_reducible refine (Q4.calls k1 _ _ t103 t112 _ ?ah ?ai A16.out).mono ?_); (case ah => exact (Kd.Za aE.out).2.2); (case ai => exact (Kd.Za aE.out).2.1); rintro e w43 ⟨mf, rfl, ho0, hb⟩; refine ⟨_, rfl, ?_⟩; replace aE := aa.mk (Kd.Q8 aE.out (Kd.QQ ho0) hb); replace bz := aa.mk (Kd.Q8 bz.out (Kd.QQ ho0) hb); have bf := aa.mk (Kd.Zh (Kd.Zm ho0 (Kd.R_lt bk.out)) (Qb bB)); replace bk := aa.mk (Kd.Zd bk.out (Kd.QQ ho0) hb); replace ab := aa.mk (Qp ab.out hb); replace HB := aa.mk (Qa bB hb); (try clear hb); (try clear hb2); (try clear hk); (try clear hi); (try clear ho0); obtain ⟨wV, vN, tR⟩ := Kd.ZQ bz.out; subst tR; obtain ⟨nJ, nA, pL⟩ := Kd.Zg bf.out; subst pL) | ((with_reducible refine Qh (f := 97) rfl ?_); refine QG (some 33) rfl rfl Try.func97 (by kernel_rfl) rfl #[.slice wV t109.length vN, .slice nJ t112.length nA] rfl hA ?_; (with_reducible refine (Qo.calls k1 _ _ t109 _ _ t112 t115 _ ?ah ?ai ?aq ?ar A17.out).mono ?_); (case ah => exact (Kd.Za bz.out).2.2); (case ai => exact (Kd.Za bz.out).2.1); (case aq => exact (Kd.QE bf.out).2.2); (case ar => exact (Kd.QE bf.out).2.1); rintro e w46 ⟨rfl, hb⟩; refine ⟨_, rfl, ?_⟩; replace aE := aa.mk (Kd.ZO aE.out hb); replace bk := aa.mk (Kd.QV bk.out hb); replace bz := aa.mk (Kd.ZO bz.out hb); replace bf := aa.mk (Kd.QV bf.out hb); replace ab := aa.mk (Qp ab.out hb); replace HB := aa.mk (Qa bB hb); (try clear hb); (try clear hb2); (try clear hk); (try clear hi)))
       go_roundg k1
       case measure => have := HK1.out; omega
       case rel => exact ⟨(au), (wrap64 (aH + 1)), (by first | rfl | (simp; done) | (simp [*]; done)), (by first | rfl | (simp; done) | (simp [*]; done)), H', ⟨by have := HK1.out; omega⟩, ⟨by (with_reducible repeat (first | apply Kd.N_alloc | apply Kd.Z5 | apply Kd.Yj)); exact Kd.ZX aE.out (fun _ hk => hk.1.1.1)⟩, ⟨by (with_reducible repeat (first | refine Qx ?_ _ | refine QA ?_ | refine Qw ?_ _)); exact ab.out⟩, ⟨bB⟩⟩
     ·rw [if_neg c13] at H; have iX : decide (aH < (ky)) = false := decide_eq_false c13; clear c13; have vW := eq_true (of_decide_eq_true (by assumption) : 0 ≤ (hZ)); simp only [Option.some.injEq, Prod.mk.injEq] at H; obtain ⟨rfl, rfl⟩ := H; obtain ⟨B9, BE, zw⟩ := Kd.ZQ aE.out; subst zw; go_wp2; go_ret2; exact ⟨by first | rfl | (simp [Qk, Qj] <;> rfl) | (simp only [← pv, ← mL]; first | rfl | (simp [Qk, Qj] <;> rfl)) | (simp [*, Qk, Qj] <;> rfl), bB⟩
    ·rw [if_neg c11] at H; exact absurd H (by simp)
 ·rw [if_neg c3] at H; have bL : (t102 == 0) = false := beq_eq_false_iff_ne.mpr c3; have cA : (t102 != 0) = true := bne_iff_ne.mpr c3; simp only [Option.some.injEq, Prod.mk.injEq] at H; obtain ⟨rfl, rfl⟩ := H; go_enter Try.func60, Try.ntmps60; go_wp2_with (first | ((with_reducible refine QN (N := 1) rfl ?_); refine Q3 ?hg (N := 1) ?hd (cs := #[.slice ak ae.length an, .slice aj af.length al]) (t := 24) ?hr ?_; (case hd => rfl); (case hg => rfl); (case hr => first | (go_simp; done) | (go_simp; rfl)); intro ag hg w50 hbox hb; have ab := aa.mk (hbox); have bh := aa.mk ((by rw [hg]; exact (Qb bB) : w.heap.size ≤ ag)); have aT := aa.mk ((by rw [hg]; exact (Qb bB) : w.heap.size ≤ ag)); replace HB := aa.mk (Qa bB hb); clear hb hbox hg; have xV : w50.cell? ⟨ag, 0, none⟩ = some (.slice ak ae.length an) := (Qd ab.out 0).trans rfl; have xU : w50.cell? ⟨ag, 1, none⟩ = some (.slice aj af.length al) := (Qd ab.out 1).trans rfl; have xD := Qc ab.out 0; have xC := Qc ab.out 1) | ((with_reducible refine Qh (f := 55) rfl ?_); refine QG (some 12) rfl rfl Try.func55 (by kernel_rfl) rfl #[.agg #[.slice ak ae.length an, .slice aj af.length al]] rfl hA ?_; (with_reducible refine (Qe.calls k (fun k_ => k_ < w.heap.size) _ _ ae (fun k_ => k_ < w.heap.size) _ _ af t102 _ ?ah ?ai A2.out).mono ?_); (case ah => exact Kd.V_mk aA.out (Kd.Yg (Kd.C_F (Kd.ZP 3 (Kd.Yd .i64)) ay.out) bB)); (case ai => exact Kd.V_mk aC.out (Kd.Yg (Kd.C_F (Kd.ZP 3 (Kd.Yd .i64)) az.out) bB)); rintro e w52 ⟨rfl, hb⟩; refine ⟨_, rfl, ?_⟩; replace ab := aa.mk (Qp ab.out hb); replace HB := aa.mk (Qa bB hb); (try clear hb); (try clear hb2); (try clear hk); (try clear hi)))
  go_ret2; exact ⟨by first | rfl | (simp [Qk, Qj] <;> rfl) | (simp [*, Qk, Qj] <;> rfl), bB⟩
def Zx.f (k : Nat) (ae : List (List Int)) (af : List (List Int)) (l1 : List Int) : Option (Bool × Int) := (ZG.f k ae af l1).bind fun t102 => (if t102 = 0 then ((QH.f k ae af l1).bind fun t103 => (some (t103, 0))) else (some (false, t102)))
set_option maxHeartbeats 8000000 in
set_option maxRecDepth 100000 in
theorem Zx.calls (k : Nat) (ak : Option Addr) (an : Nat) (ae : List (List Int)) (aj : Option Addr) (al : Nat) (af : List (List Int)) (A1 : Option Addr) (c1 : Nat) (l1 : List Int) (r1 : Bool) (r2 : Int) (w : World) (aM : Kd.C (Kd.slice 3 (Kd.int .i64)) w ak ae.length ae) (aQ : ae.length ≤ an) (aK : Kd.C (Kd.slice 3 (Kd.int .i64)) w aj af.length af) (aN : af.length ≤ al) (hr1 : Kd.C (Kd.int .i64) w A1 l1.length l1) (hc1 : l1.length ≤ c1) (h : Zx.f k ae af l1 = some (r1, r2)) :
  Calls Try.prog 52 #[.agg #[.slice ak ae.length an, .slice aj af.length al], .slice A1 l1.length c1] w fun e w' => e = .returned (.tuple #[.bool r1, .int .i64 r2]) ∧ Below w.heap.size w w' := by
 have ej := Try.underlying24; have ay := aa.mk aM; have aA := aa.mk aQ; clear aM aQ; have az := aa.mk aK; have aC := aa.mk aN; clear aK aN; have HR1 := aa.mk hr1; have HC1 := aa.mk hc1; clear hr1 hc1; have HB := aa.mk (Below.refl w.heap.size w); have H : ((ZG.f k ae af l1).bind fun t102 => (if t102 = 0 then ((QH.f k ae af l1).bind fun t103 => (some (t103, 0))) else (some (false, t102)))) = some (r1, r2) := h; clear h; replace H := Option.bind_eq_some_iff.mp H; obtain ⟨t102, A30, H⟩ := H; replace H : (if t102 = 0 then ((QH.f k ae af l1).bind fun t103 => (some (t103, 0))) else (some (false, t102))) = some (r1, r2) := H; have A3 := aa.mk A30; clear A30; by_cases c4 : t102 = 0
 ·rw [if_pos c4] at H; have bI : (t102 == 0) = true := beq_iff_eq.mpr c4; have eh : (t102 != 0) = false := bne_eq_false_iff_eq.mpr c4; clear c4; replace H := Option.bind_eq_some_iff.mp H; obtain ⟨t103, A50, H⟩ := H; replace H : (some (t103, 0)) = some (r1, r2) := H; have A5 := aa.mk A50; clear A50; simp only [Option.some.injEq, Prod.mk.injEq] at H; obtain ⟨rfl, rfl⟩ := H; go_enter Try.func52, Try.ntmps52; go_wp2_with (first | ((with_reducible refine QN (N := 2) rfl ?_); refine Q3 ?hg (N := 2) ?hd (cs := #[.slice ak ae.length an, .slice aj af.length al]) (t := 24) ?hr ?_; (case hd => rfl); (case hg => rfl); (case hr => first | (go_simp; done) | (go_simp; rfl)); intro ag hg w6 hbox hb; have ab := aa.mk (hbox); have bh := aa.mk ((by rw [hg]; exact (Qb bB) : w.heap.size ≤ ag)); have aT := aa.mk ((by rw [hg]; exact (Qb bB) : w.heap.size ≤ ag)); replace HB := aa.mk (Qa bB hb); clear hb hbox hg; have fl : w6.cell? ⟨ag, 0, none⟩ = some (.slice ak ae.length an) := (Qd ab.out 0).trans rfl; have fk : w6.cell? ⟨ag, 1, none⟩ = some (.slice aj af.length al) := (Qd ab.out 1).trans rfl; have fj := Qc ab.out 0; have fi := Qc ab.out 1) | ((with_reducible refine Qh (f := 93) rfl ?_); refine QG (some 9) rfl rfl Try.func93 (by kernel_rfl) rfl #[.agg #[.slice ak ae.length an, .slice aj af.length al], .slice A1 l1.length c1] rfl hA ?_; (with_reducible refine (ZG.calls k _ _ ae _ _ af _ _ l1 t102 _ ?ah ?ai ?aq ?ar ?bE ?bD A3.out).mono ?_); (case ah => exact (Kd.Qq ay.out HB.out)); (case ai => exact aA.out); (case aq => exact (Kd.Qq az.out HB.out)); (case ar => exact aC.out); (case bE => exact (Kd.Qq HR1.out HB.out)); (case bD => exact HC1.out); rintro e w8 ⟨rfl, hb⟩; refine ⟨_, rfl, ?_⟩; replace ab := aa.mk (Qp ab.out hb); replace HB := aa.mk (Qa bB hb); (try clear hb); (try clear hb2); (try clear hk); (try clear hi); have pA : w8.cell? ⟨ag, 0, none⟩ = some (.slice ak ae.length an) := (Qd ab.out 0).trans rfl; have py : w8.cell? ⟨ag, 1, none⟩ = some (.slice aj af.length al) := (Qd ab.out 1).trans rfl; have px := Qc ab.out 0; have pw := Qc ab.out 1) | ((with_reducible refine Qh (f := 94) rfl ?_); refine QG (some 15) rfl rfl Try.func94 (by kernel_rfl) rfl #[.agg #[.slice ak ae.length an, .slice aj af.length al], .slice A1 l1.length c1] rfl hA ?_; (with_reducible refine (QH.calls k _ _ ae _ _ af _ _ l1 t103 _ ?ah ?ai ?aq ?ar ?bE ?bD A5.out).mono ?_); (case ah => exact (Kd.Qq ay.out HB.out)); (case ai => exact aA.out); (case aq => exact (Kd.Qq az.out HB.out)); (case ar => exact aC.out); (case bE => exact (Kd.Qq HR1.out HB.out)); (case bD => exact HC1.out); rintro e w10 ⟨rfl, hb⟩; refine ⟨_, rfl, ?_⟩; replace ab := aa.mk (Qp ab.out hb); replace HB := aa.mk (Qa bB hb); (try clear hb); (try clear hb2); (try clear hk); (try clear hi)))
  go_ret2; exact ⟨by first | rfl | (simp [Qk, Qj] <;> rfl) | (simp [*, Qk, Qj] <;> rfl), bB⟩
 ·rw [if_neg c4] at H; have bI : (t102 == 0) = false := beq_eq_false_iff_ne.mpr c4; have eh : (t102 != 0) = true := bne_iff_ne.mpr c4; simp only [Option.some.injEq, Prod.mk.injEq] at H; obtain ⟨rfl, rfl⟩ := H; go_enter Try.func52, Try.ntmps52; go_wp2_with (first | ((with_reducible refine QN (N := 2) rfl ?_); refine Q3 ?hg (N := 2) ?hd (cs := #[.slice ak ae.length an, .slice aj af.length al]) (t := 24) ?hr ?_; (case hd => rfl); (case hg => rfl); (case hr => first | (go_simp; done) | (go_simp; rfl)); intro ag hg w11 hbox hb; have ab := aa.mk (hbox); have bh := aa.mk ((by rw [hg]; exact (Qb bB) : w.heap.size ≤ ag)); have aT := aa.mk ((by rw [hg]; exact (Qb bB) : w.heap.size ≤ ag)); replace HB := aa.mk (Qa bB hb); clear hb hbox hg; have dY : w11.cell? ⟨ag, 0, none⟩ = some (.slice ak ae.length an) := (Qd ab.out 0).trans rfl; have dX : w11.cell? ⟨ag, 1, none⟩ = some (.slice aj af.length al) := (Qd ab.out 1).trans rfl; have dW := Qc ab.out 0; have dV := Qc ab.out 1) | ((with_reducible refine Qh (f := 93) rfl ?_); refine QG (some 9) rfl rfl Try.func93 (by kernel_rfl) rfl #[.agg #[.slice ak ae.length an, .slice aj af.length al], .slice A1 l1.length c1] rfl hA ?_; (with_reducible refine (ZG.calls k _ _ ae _ _ af _ _ l1 t102 _ ?ah ?ai ?aq ?ar ?bE ?bD A3.out).mono ?_); (case ah => exact (Kd.Qq ay.out HB.out)); (case ai => exact aA.out); (case aq => exact (Kd.Qq az.out HB.out)); (case ar => exact aC.out); (case bE => exact (Kd.Qq HR1.out HB.out)); (case bD => exact HC1.out); rintro e w13 ⟨rfl, hb⟩; refine ⟨_, rfl, ?_⟩; replace ab := aa.mk (Qp ab.out hb); replace HB := aa.mk (Qa bB hb); (try clear hb); (try clear hb2); (try clear hk); (try clear hi)))
  go_ret2; exact ⟨by first | rfl | (simp [Qk, Qj] <;> rfl) | (simp [*, Qk, Qj] <;> rfl), bB⟩
end Go.Proofs.Ytdneelgnmnpanaa.P
end
section
namespace Go.Proofs.Ytdneelgnmnpanaa.P
open Go.RowKit Go.Proofs.YtdneelgnmnpanaaW.PrintWords Go.Proofs.YtdneelgnmnpanaaW.PrintLast Go.Proofs.YtdneelgnmnpanaaW.PrintMore
def Full.kd : Kd (List Int) where
  sz := 1
  E := []
  K := fun w xs cs => ∃ A n, cs = [.slice A n xs.length] ∧ n ≤ xs.length ∧ Kd.C (Kd.int .i64) w A xs.length xs
  M := fun _ _ _ _ _ => False
  K_len := by
    rintro w x cs ⟨A, c, rfl, _⟩; rfl
  K_one := by
    rintro w x cs ⟨A, c, rfl, _⟩ u hu; rw [List.mem_singleton.1 hu]; rfl
  K_below := by
    rintro w w1 x cs hb ⟨A, c, rfl, hl, hr⟩; exact ⟨A, c, rfl, hl, Kd.Qq hr hb⟩
  K_of_M := fun h => h.elim
  M_mono := fun _ h => h
  M_bound := fun h => h
  M_move := fun _ h => h
  M_lower := fun _ h => h
theorem Full.at_ {w : World} {A : Option Addr} {n : Nat} {xs : List (List Int)} (h : Kd.C Full.kd w A n xs) (i : Int) (h0 : 0 ≤ i) (h1 : i < n) : ∃ ad A0 c0, A = some ad ∧ w.cell? (ad.add i.toNat) = some (.slice A0 c0 (Qu xs i).length) ∧ c0 ≤ (Qu xs i).length ∧ Kd.C (Kd.int .i64) w A0 (Qu xs i).length (Qu xs i) := by
  obtain ⟨ad, c, e, _, hK, hc0⟩ := Kd.C_get h ([] : List Int) i h0 h1; obtain ⟨A0, c0, rfl, hl, hr⟩ := hK; have hc : ∀ j u, [Value.slice A0 c0 (Qu xs i).length][j]? = some u → w.cell? (ad.add (i.toNat * 1 + j)) = some u := hc0; exact ⟨ad, A0, c0, e, by have hq := hc 0 _ rfl; rwa [Nat.mul_one, Nat.add_zero] at hq, hl, hr⟩
section
variable {P : Program} {ops : Array Oper} {Q : Exit → Act → World → Prop}
theorem V0 {rest : List Oper} {oi : Oper} {a : Act} {w : World} (N : Option Tmp) (hd : oi.dst = N) (hg : oi.guard = none) (k : Tmp) {f : FuncId} (cap : Array Value) {fn : Func} {xs : Array Operand} {ts : Array TypeId} (hop : oi.op = .call { callee := .value (.tmp k), args := xs, argTypes := ts })
    (hf : P.funcs[f]? = some fn) (hname : (fn.name == "runtime.NumGoroutine") = false) (hb : fn.body.isSome = true) (hk : a.eval (.tmp k) = .func (.func f) #[] cap) (args : Array Value) (hargs : xs.map a.eval ++ cap = args)
    (h : Calls P f args w fun e w' => ∃ v, e = .returned v ∧ wpList P ops Q rest (a.put N v) w') : wpList P ops Q (oi :: rest) a w := by
  refine wpList_plain hg fun K hK => ?_
  have he := JI hf hname hb args w; have hrun : (execOp a.eval oi).run P w = .ok (.enter f args) w := by
    unfold execOp; simp [hop, resolve, Deferred.ofValue, invoke, hk, hargs, he]
  unfold Oper.wp; rw [hrun, Oper.upon_enter]; refine h.mono fun e w'' hh => ?_
  obtain ⟨v, rfl, hk⟩ := hh; subst hd; exact hK _ _ hk
end
def bad (lo hi n : Int) : Bool := !decide (lo ≤ n ∧ n ≤ hi)
theorem within (n lo hi : Int) : Zk.f n lo hi = some (decide (lo ≤ n ∧ n ≤ hi)) := by
  unfold Zk.f; by_cases h : n ≥ lo
  · simp [h]
  · simp [h]
set_option maxHeartbeats 1000000 in
set_option maxRecDepth 100000 in
theorem all1_calls (t lo hi : Int) (g g2 : Nat) (w : World) (hbx : w.cell? ⟨g, 0, none⟩ = some (.int .i64 lo)) (hby : w.cell? ⟨g2, 0, none⟩ = some (.int .i64 hi)) :
    Calls Try.prog 115 #[.int .i64 t, .pointer (some ⟨g, 0, none⟩), .pointer (some ⟨g2, 0, none⟩)] w fun e w' => e = .returned (.bool (bad lo hi t)) ∧ Below w.heap.size w w' := by
  have A1 := aa.mk (within t lo hi); have hbad : (!decide (lo ≤ t ∧ t ≤ hi)) = bad lo hi t := rfl; generalize bad lo hi t = b at *; generalize decide (lo ≤ t ∧ t ≤ hi) = c at *; subst hbad; have HB := aa.mk (Below.refl w.heap.size w); go_enter Try.func115, Try.ntmps115; go_wp2_with (first
    | ((with_reducible refine Qh (f := 75) rfl ?_); refine QG (some 8) rfl rfl Try.func75 (by kernel_rfl) rfl #[.int .i64 t, .int .i64 lo, .int .i64 hi] rfl (by (try simp only [List.map_toArray, List.map_cons, List.map_nil]); first | done | rfl) ?_; (with_reducible refine (Zk.calls t lo hi c _ A1.out).mono ?_); rintro e w' ⟨rfl, ⟨nd, rfl⟩⟩; refine ⟨_, rfl, ?_⟩))
  go_ret; exact ⟨rfl, by repeat (first | (with_reducible first | exact HB.out | apply Q0 | apply QI | apply QR) | exact HB.out)⟩
set_option maxHeartbeats 2000000 in
set_option maxRecDepth 100000 in
theorem index_calls (A0 : Option Addr) (c0 : Nat) (l0 : List Int) (lo hi : Int) (g g2 : Nat) (w : World) (hr0 : Kd.C (Kd.int .i64) w A0 l0.length l0) (hc0 : l0.length ≤ c0) (hl : l0.length ≤ 1000) (hbx : w.cell? ⟨g, 0, none⟩ = some (.int .i64 lo)) (hby : w.cell? ⟨g2, 0, none⟩ = some (.int .i64 hi)) :
    Calls Try.prog 119 #[.slice A0 l0.length c0, .func (.func 115) #[] #[.pointer (some ⟨g, 0, none⟩), .pointer (some ⟨g2, 0, none⟩)]] w fun e w' => ∃ r : Int, e = .returned (.int .i64 r) ∧ decide (0 ≤ r) = l0.any (bad lo hi) ∧ Below w.heap.size w w' := by
  have HR0 := aa.mk hr0; have HC0 := aa.mk hc0; have HBX := aa.mk hbx; have HBY := aa.mk hby; have HL := aa.mk hl; clear hr0 hc0 hbx hby; have HB := aa.mk (Below.refl w.heap.size w); go_enter Try.func119, Try.ntmps119; go_wp2_with fail
  go_loopw [8] (fun i w' => ∃ n : Nat, n ≤ l0.length ∧ i = .int .i64 n ∧ aa (l0.any (bad lo hi) = (l0.drop n).any (bad lo hi)) ∧ aa (Below w.heap.size w w')) (fun i _ => l0.length - (intOf i).toNat)
  case atStart => exact ⟨0, by omega, rfl, ⟨rfl⟩, by first | exact HB | exact ⟨HB.out.drew⟩⟩
  case round =>
    clear HB; obtain ⟨n, hn, rfl, HA, HB⟩ := hrel; by_cases hlt : n < l0.length
    · have p1 : 0 ≤ (n : Int) := by omega
      have q1 : (n : Int) < (l0.length : Int) := by omega
      obtain ⟨ad1, e1, hx0⟩ := Kd.Zi HR0.out (n : Int) p1 q1; cases e1; replace hx0 := (HB.out.cell (World.block_lt_of_cell? w _ hx0)).trans hx0; have hbx := (HB.out.cell (World.block_lt_of_cell? w _ HBX.out)).trans HBX.out; have hby := (HB.out.cell (World.block_lt_of_cell? w _ HBY.out)).trans HBY.out; generalize hxx : rd l0 (n : Int) = x at *; simp only [Int.toNat_natCast] at hx0; have hxe : l0[n] = x := by rw [← hxx]; simp [rd, hlt]
      have ha := HA.out; rw [List.drop_eq_getElem_cons hlt, List.any_cons, hxe] at ha; have HA2 := aa.mk ha; clear HA ha hxe hxx; have HY := aa.mk (all1_calls x lo hi g g2 _ hbx hby); generalize bad lo hi x = b at *; cases b with
      | true =>
        go_wp2_with (first
          | ((with_reducible refine QN (N := 16) rfl ?_); refine V0 (some 16) rfl rfl 11 #[.pointer (some ⟨g, 0, none⟩), .pointer (some ⟨g2, 0, none⟩)] rfl Try.func115 (by kernel_rfl) rfl rfl #[.int .i64 x, .pointer (some ⟨g, 0, none⟩), .pointer (some ⟨g2, 0, none⟩)] (by (try simp only [List.map_toArray, List.map_cons, List.map_nil]); first | done | rfl) ?_; (with_reducible refine HY.out.mono ?_); rintro e w9 ⟨rfl, hb⟩; refine ⟨_, rfl, ?_⟩; replace HB := aa.mk (Qa (by repeat (first | (with_reducible first | exact HB.out | apply Q0 | apply QI | apply QR) | exact HB.out)) hb); (try clear hb)))
        go_ret; exact ⟨(n : Int), rfl, by rw [HA2.out, Bool.true_or]; simp, HB.out⟩
      | false =>
        go_wp2_with (first
          | ((with_reducible refine QN (N := 16) rfl ?_); refine V0 (some 16) rfl rfl 11 #[.pointer (some ⟨g, 0, none⟩), .pointer (some ⟨g2, 0, none⟩)] rfl Try.func115 (by kernel_rfl) rfl rfl #[.int .i64 x, .pointer (some ⟨g, 0, none⟩), .pointer (some ⟨g2, 0, none⟩)] (by (try simp only [List.map_toArray, List.map_cons, List.map_nil]); first | done | rfl) ?_; (with_reducible refine HY.out.mono ?_); rintro e w9 ⟨rfl, hb⟩; refine ⟨_, rfl, ?_⟩; replace HB := aa.mk (Qa (by repeat (first | (with_reducible first | exact HB.out | apply Q0 | apply QI | apply QR) | exact HB.out)) hb); (try clear hb)))
        go_roundw
        case rel => exact ⟨n + 1, by omega, by go_num, ⟨by rw [HA2.out, Bool.false_or]⟩, ⟨by first | exact HB.out.drew | exact HB.out⟩⟩
        case measure => simp [intOf]; omega
    · have hq : n = l0.length := by omega
      subst hq; go_wp2_with fail
      go_ret; exact ⟨-1, rfl, by rw [HA.out, List.drop_length]; rfl, HB.out⟩
set_option maxHeartbeats 1000000 in
set_option maxRecDepth 100000 in
theorem any_calls (A0 : Option Addr) (c0 : Nat) (l0 : List Int) (lo hi : Int) (g g2 : Nat) (w : World) (hr0 : Kd.C (Kd.int .i64) w A0 l0.length l0) (hc0 : l0.length ≤ c0) (hl : l0.length ≤ 1000) (hbx : w.cell? ⟨g, 0, none⟩ = some (.int .i64 lo)) (hby : w.cell? ⟨g2, 0, none⟩ = some (.int .i64 hi)) :
    Calls Try.prog 114 #[.slice A0 l0.length c0, .func (.func 115) #[] #[.pointer (some ⟨g, 0, none⟩), .pointer (some ⟨g2, 0, none⟩)]] w fun e w' => e = .returned (.bool (l0.any (bad lo hi))) ∧ Below w.heap.size w w' := by
  have HY := aa.mk (index_calls A0 c0 l0 lo hi g g2 w hr0 hc0 hl hbx hby); clear hr0 hc0 hl hbx hby; have HB := aa.mk (Below.refl w.heap.size w); generalize l0.any (bad lo hi) = b at *; go_enter Try.func114, Try.ntmps114; go_wp2_with (first
    | ((with_reducible refine Qh (f := 119) rfl ?_); refine QG (some 7) rfl rfl Try.func119 (by kernel_rfl) rfl #[.slice A0 l0.length c0, .func (.func 115) #[] #[.pointer (some ⟨g, 0, none⟩), .pointer (some ⟨g2, 0, none⟩)]] rfl (by (try simp only [List.map_toArray, List.map_cons, List.map_nil]); first | done | rfl) ?_; (with_reducible refine HY.out.mono ?_); rintro e w9 ⟨r, rfl, hb0, hb⟩; refine ⟨_, rfl, ?_⟩))
  subst hb0; go_ret; exact ⟨rfl, hb⟩
def Zp.f (l : List Int) (count lo hi : Int) : Option Bool := if l.length ≤ 1000 then some (decide ((l.length : Int) = count) && !l.any (bad lo hi)) else none
set_option maxHeartbeats 2000000 in
set_option maxRecDepth 100000 in
theorem Zp.calls (A0 : Option Addr) (c0 : Nat) (l0 : List Int) (a1 a2 a3 : Int) (r : Bool) (w : World) (hr0 : Kd.C (Kd.int .i64) w A0 l0.length l0) (hc0 : l0.length ≤ c0) (h : Zp.f l0 a1 a2 a3 = some r) :
    Calls Try.prog 77 #[.slice A0 l0.length c0, .int .i64 a1, .int .i64 a2, .int .i64 a3] w fun e w' => e = .returned (.bool r) ∧ Below w.heap.size w w' := by
  obtain ⟨hl, hr⟩ : l0.length ≤ 1000 ∧ (decide ((l0.length : Int) = a1) && !l0.any (bad a2 a3)) = r := by
    unfold Zp.f at h; split at h
    · rename_i h1
      exact ⟨h1, Option.some.inj h⟩
    · cases h
  have HR0 := aa.mk hr0; have HC0 := aa.mk hc0; have HL := aa.mk hl; clear hr0 hc0 h hl; have HB := aa.mk (Below.refl w.heap.size w); by_cases c : (l0.length : Int) = a1
  · subst c; simp only [decide_true, Bool.true_and] at hr; go_enter Try.func77, Try.ntmps77; go_wp2_with (first
      | ((with_reducible refine QN (N := 6) rfl ?_); refine Q3 ?hg (N := 6) ?hd (cs := #[.int .i64 a2]) (t := 3) ?hr ?_; (case hd => rfl); (case hg => rfl); (case hr => first | (go_simp; done) | (go_simp; rfl)); intro g hg w1 hbox hbe; have BK1 := aa.mk hbox; replace HB := aa.mk (Qa HB.out hbe); clear hg hbox hbe)
      | ((with_reducible refine QN (N := 7) rfl ?_); refine Q3 ?hg (N := 7) ?hd (cs := #[.int .i64 a3]) (t := 3) ?hr ?_; (case hd => rfl); (case hg => rfl); (case hr => first | (go_simp; done) | (go_simp; rfl)); intro g2 hg w2 hbox hbe; have BK2 := aa.mk hbox; have n1_ := aa.mk (Qp BK1.out hbe); have n0_ := aa.mk (Qa HB.out hbe); clear HB BK1; have HB := n0_; have BK1 := n1_; clear n0_ n1_; clear hg hbox hbe)
      | ((with_reducible refine Qh (f := 114) rfl ?_); (try (refine Yb (by rfl) ?_)); refine QG (some 16) rfl rfl Try.func114 (by kernel_rfl) rfl #[.slice A0 l0.length c0, .func (.func 115) #[] #[.pointer (some ⟨g, 0, none⟩), .pointer (some ⟨g2, 0, none⟩)]] rfl (by (try simp only [List.map_toArray, List.map_cons, List.map_nil]); first | done | rfl) ?_; (with_reducible refine (any_calls A0 c0 l0 a2 a3 g g2 _ (Kd.Qq HR0.out HB.out) HC0.out HL.out (by have := BK1.out; simp [World.cell?, this]) (by have := BK2.out; simp [World.cell?, this])).mono ?_); rintro e w9 ⟨rfl, hb⟩; refine ⟨_, rfl, ?_⟩; replace HB := aa.mk (Qa HB.out hb); (try clear hb)))
    go_ret; exact ⟨rfl, HB.out⟩
  · simp only [c, decide_false, Bool.false_and] at hr; have c2 : ((l0.length : Int) == a1) = false := beq_eq_false_iff_ne.mpr c; clear c; subst hr; go_enter Try.func77, Try.ntmps77; go_wp2_with (first
      | ((with_reducible refine QN (N := 6) rfl ?_); refine Q3 ?hg (N := 6) ?hd (cs := #[.int .i64 a2]) (t := 3) ?hr ?_; (case hd => rfl); (case hg => rfl); (case hr => first | (go_simp; done) | (go_simp; rfl)); intro g hg w1 hbox hbe; replace HB := aa.mk (Qa HB.out hbe); clear hg hbox hbe)
      | ((with_reducible refine QN (N := 7) rfl ?_); refine Q3 ?hg (N := 7) ?hd (cs := #[.int .i64 a3]) (t := 3) ?hr ?_; (case hd => rfl); (case hg => rfl); (case hr => first | (go_simp; done) | (go_simp; rfl)); intro g2 hg w2 hbox hbe; replace HB := aa.mk (Qa HB.out hbe); clear hg hbox hbe))
    go_ret; exact ⟨rfl, HB.out⟩
theorem Two.build {P : Program} {ops : Array Oper} {rest : List Oper} {o : Oper} {a : Act} {W : World} {Q : Exit → Act → World → Prop} (hgd : o.guard = none) {N : Tmp} (_hd : o.dst = some N) {v0 v1 : Value}
    (hrun : (execOp a.eval o).run P W = .ok (.value (.slice (some ⟨W.heap.size, 0, none⟩) 2 2)) (W.alloc (.cells #[v0, v1] 22)))
    (h : ∀ g, g = W.heap.size → ∀ w1, w1.heap[g]? = some (.cells #[v0, v1] 22 (0, 0)) → Below W.heap.size W w1 → wpList P ops Q rest (a.put o.dst (.slice (some ⟨g, 0, none⟩) 2 2)) w1) : wpList P ops Q (o :: rest) a W :=
  Kd.V1 hgd hrun (h _ rfl _ (YP W _) (Q0 (Below.refl _ _) _))
def Zo.f (l0 l1 : List (List Int)) : Option (List (List Int)) := if l0.length + l1.length ≤ 1000 then some (l0 ++ l1) else none
set_option maxHeartbeats 1000000 in
set_option maxRecDepth 100000 in
theorem grow_calls (n : Nat) (hn : n ≤ 1000) (w : World) :
    Calls Try.prog 113 #[.slice none 0 0, .int .i64 n] w fun e w' => ∃ v, e = .returned v ∧ Kd.N (Kd.slice 3 (Kd.int .i64)) 28 w' w.heap.size (fun k => w.heap.size ≤ k) v [] ∧ Below w.heap.size w w' := by
  have tg := Try.underlying22; have hu3 := Try.underlying3; by_cases h0 : n = 0
  · subst h0; go_enter Try.func113, Try.ntmps113; go_wp2_with fail
    go_ret; exact ⟨_, rfl, Kd.Yv _ _ _ _ _, Below.refl _ _⟩
  · have hp : 0 < n := by omega
    obtain ⟨i28, za, yF, Bu, zn⟩ : ∃ i, Try.prog.info? 28 = some i ∧ i.zero = some (.slice none 0 0) ∧ i.size = 1 ∧ i.bytes = 24 := by
      have h := info28; cases hq : Try.prog.info? 28 with
      | none => rw [hq] at h; cases h
      | some i =>
        rw [hq] at h; simp only [Option.map_some, Option.some.injEq, Prod.mk.injEq] at h; exact ⟨i, rfl, h.1, h.2.1, h.2.2⟩
    have c1 : decide ((n : Int) < 0) = false := decide_eq_false (by omega); have c2 : decide (0 < (n : Int)) = true := decide_eq_true (by omega); have happ : ∀ W : World, (Builtin.append_ #[22, 3] 22 #[.slice none 0 0, .int .i64 (n : Int)]).run Try.prog W = .ok (.slice (some ⟨W.heap.size, 0, none⟩) n (grownCap W n 0 28)) (W.drew.alloc (.cells (Builtin.zeroCells (Value.slice none 0 0).cells n ++ Builtin.zeroCells (Value.slice none 0 0).cells (grownCap W n 0 28 - n)) 28)) :=
      fun W => Lib.run_append_nil_zeros W 22 3 22 28 i28 _ .i64 .i64 tg hu3 za yF n hp (by omega) (by omega) (by rw [zn]; omega)
    go_enter Try.func113, Try.ntmps113; go_wp2_with (at_builtin; refine Lib.wpList_append_run _ rfl _ _ _ _ rfl _ _ rfl rfl _ _ (happ _) ?_)
    go_ret; refine ⟨_, rfl, Kd.R_N ⟨fun k hk => ?_, [], ⟨rfl, .inr ⟨w.heap.size, grownCap w n 0 28, _, rfl, Nat.le_refl _, heap_alloc_new w _, Nat.zero_le _, grownCap_le_maxLen w n 0 28 (by simp [maxLen]; omega), ?_, rfl⟩⟩, Reps.none _ _⟩, (((Below.refl _ _).alloc (Nat.le_refl _) _).drew)⟩
    · simp [Value.ownBlock] at hk; omega
    · have := grownCap_ge w n 0 28; simp [Builtin.zeroCells, Kd.slice]; omega
set_option maxHeartbeats 2000000 in
set_option maxRecDepth 100000 in
theorem Zo.calls (P0_ : Nat → Prop) (A0 : Option Addr) (c0 : Nat) (l0 : List (List Int)) (P1_ : Nat → Prop) (A1 : Option Addr) (c1 : Nat) (l1 : List (List Int)) (r : List (List Int)) (w : World) (g : Nat) (hg : w.heap[g]? = some (.cells #[.slice A0 l0.length c0, .slice A1 l1.length c1] 22 (0, 0)))
    (hs0 : Kd.V (Kd.slice 3 (Kd.int .i64)) 28 w w.heap.size (fun k_ => P0_ k_) (.slice A0 l0.length c0) l0) (hs1 : Kd.V (Kd.slice 3 (Kd.int .i64)) 28 w w.heap.size (fun k_ => P1_ k_) (.slice A1 l1.length c1) l1) (h : Zo.f l0 l1 = some r) :
    Calls Try.prog 76 #[.slice (some ⟨g, 0, none⟩) 2 2] w fun e w' => ∃ v0_ : Value, e = .returned (v0_) ∧ Kd.N (Kd.slice 3 (Kd.int .i64)) 28 w' w.heap.size (fun k_ => ((P0_ k_ ∨ P1_ k_) ∨ w.heap.size ≤ k_)) v0_ r ∧ Below w.heap.size w w' := by
  unfold Zo.f at h; by_cases hl : l0.length + l1.length ≤ 1000
  case neg => rw [if_neg hl] at h; cases h
  rw [if_pos hl] at h; obtain rfl := Option.some.inj h; clear h; have tg := Try.underlying22; have hu3 := Try.underlying3; have Bt := Try.underlying91; have HB := aa.mk (Below.refl w.heap.size w); have HV0 := aa.mk hs0; have HV1 := aa.mk hs1; have HG := aa.mk hg; have HL := aa.mk hl; clear hs0 hs1 hg hl; go_enter Try.func76, Try.ntmps76; go_wp2_with fail
  go_loopw [3, 11] (fun s i w' => ∃ n : Nat, n ≤ 2 ∧ i = .int .i64 n ∧ (s = .int .i64 (if n = 0 then 0 else if n = 1 then (l0.length : Int) else ((l0.length + l1.length : Nat) : Int))) ∧ aa (Below w.heap.size w w')) (fun _ i _ => 2 - (intOf i).toNat)
  case atStart => exact ⟨0, by omega, rfl, rfl, by first | exact HB | exact ⟨HB.out.drew⟩⟩
  case round =>
    clear HB; obtain ⟨n, hn, rfl, rfl, HB⟩ := hrel; have hg := Qp HG.out HB.out; have hx0 : wr.cell? ⟨g, 0, none⟩ = some (.slice A0 l0.length c0) := (Qd hg 0).trans rfl; have hx1 : wr.cell? ⟨g, 1, none⟩ = some (.slice A1 l1.length c1) := (Qd hg 1).trans rfl; have hl := HL.out; clear hg; obtain rfl | rfl | rfl : n = 0 ∨ n = 1 ∨ n = 2 := by omega
    · have k1 : decide ((l0.length : Int) < 0) = false := decide_eq_false (by omega); go_wp2_with fail
      go_roundw
      case rel => exact ⟨1, by omega, by go_num, by simp, HB⟩
      case measure => simp [intOf]
    · have k2 : decide ((l0.length : Int) + (l1.length : Int) < 0) = false := decide_eq_false (by omega); go_wp2_with fail
      go_roundw
      case rel => exact ⟨2, by omega, by go_num, by simp, HB⟩
      case measure => simp [intOf]
    · have HW := aa.mk (grow_calls (l0.length + l1.length) hl); clear hx0 hx1; go_wp2_with (first
        | ((with_reducible refine Qh (f := 113) rfl ?_); refine QG (some 24) rfl rfl Try.func113 (by kernel_rfl) rfl #[.slice none 0 0, .int .i64 ((l0.length + l1.length : Nat) : Int)] rfl (by (try simp only [List.map_toArray, List.map_cons, List.map_nil]); first | done | rfl) ?_; (with_reducible refine (HW.out _).mono ?_); rintro e w9 ⟨v9, rfl, ho0, hb⟩; refine ⟨_, rfl, ?_⟩; have n0_ := aa.mk (Kd.Ya ho0 (Qb HB.out)); have n1_ := aa.mk (Kd.ZX (ok' := fun k_ => ((P0_ k_ ∨ P1_ k_) ∨ w.heap.size ≤ k_)) n0_.out (fun k_ hk_ => .inr (Nat.le_trans (Qb HB.out) hk_))); have n2_ := aa.mk (Qa HB.out hb); clear HB n0_; have HO := n1_; have HB := n2_; clear n1_ n2_; clear hb ho0; obtain ⟨Ao, co, eo⟩ := Kd.ZQ HO.out; subst eo))
      have HO2 := aa.mk (show Kd.N (Kd.slice 3 (Kd.int .i64)) 28 _ w.heap.size (fun k_ => ((P0_ k_ ∨ P1_ k_) ∨ w.heap.size ≤ k_)) (.slice Ao ([] : List (List Int)).length co) (if 0 = 0 then [] else if 0 = 1 then l0 else l0 ++ l1) from HO.out); clear HO HW; go_loopw [6, 27] (fun v i w' => ∃ n : Nat, n ≤ 2 ∧ i = .int .i64 n ∧ aa (Kd.N (Kd.slice 3 (Kd.int .i64)) 28 w' w.heap.size (fun k_ => ((P0_ k_ ∨ P1_ k_) ∨ w.heap.size ≤ k_)) v (if n = 0 then [] else if n = 1 then l0 else l0 ++ l1)) ∧ aa (Below w.heap.size w w')) (fun _ i _ => 2 - (intOf i).toNat)
      case atStart => exact ⟨0, by omega, rfl, HO2, by first | exact HB | exact ⟨HB.out.drew⟩⟩
      case round =>
        clear HB HO2; obtain ⟨n, hn, rfl, HO, HB⟩ := hrel; have hg := Qp HG.out HB.out; have hx0 : wr.cell? ⟨g, 0, none⟩ = some (.slice A0 l0.length c0) := (Qd hg 0).trans rfl; have hx1 : wr.cell? ⟨g, 1, none⟩ = some (.slice A1 l1.length c1) := (Qd hg 1).trans rfl; have hl := HL.out; clear hg; obtain rfl | rfl | rfl : n = 0 ∨ n = 1 ∨ n = 2 := by omega
        · replace HO := aa.mk (show Kd.N (Kd.slice 3 (Kd.int .i64)) 28 wr w.heap.size (fun k_ => ((P0_ k_ ∨ P1_ k_) ∨ w.heap.size ≤ k_)) u6 [] from HO.out); go_wp2_with (first | ((with_reducible refine Zs (b := .append) (xs := #[.tmp 31, .tmp 32]) rfl ?_); at_builtin; refine Kd.Vz (Kd.slice 3 (Kd.int .i64)) (w0 := w) w.heap.size rfl (.tmp 31) (.tmp 32) 22 28 (.slice none 0 0) 24 rfl Try.underlying22 info28 rfl (by decide) (by omega) u6 [] l0 _ _ _ (fun k_ => ((P0_ k_ ∨ P1_ k_) ∨ w.heap.size ≤ k_)) (fun k_ => P0_ k_ ∧ some k_ ≠ (u6 : Value).ownBlock) rfl rfl HO.out (Kd.V_F (Kd.Z1 HV0.out (Kd.Z3 HO.out) HB.out)) (fun k_ hk_ => ⟨.inl (.inl hk_.1), hk_.2⟩) (fun k_ hk_ => .inr (Nat.le_trans (Qb HB.out) hk_)) HB.out (Qb HB.out) (by have := HL.out; simp; omega) ?_; intro v15 w15 ho hb hg hat; replace HB := aa.mk hb; replace HO := aa.mk ho; clear ho hb hg hat))
          go_roundw
          case rel => exact ⟨1, by omega, by go_num, HO, HB⟩
          case measure => simp [intOf]
        · replace HO := aa.mk (show Kd.N (Kd.slice 3 (Kd.int .i64)) 28 wr w.heap.size (fun k_ => ((P0_ k_ ∨ P1_ k_) ∨ w.heap.size ≤ k_)) u6 l0 from HO.out); go_wp2_with (first | ((with_reducible refine Zs (b := .append) (xs := #[.tmp 31, .tmp 32]) rfl ?_); at_builtin; refine Kd.Vz (Kd.slice 3 (Kd.int .i64)) (w0 := w) w.heap.size rfl (.tmp 31) (.tmp 32) 22 28 (.slice none 0 0) 24 rfl Try.underlying22 info28 rfl (by decide) (by omega) u6 l0 l1 _ _ _ (fun k_ => ((P0_ k_ ∨ P1_ k_) ∨ w.heap.size ≤ k_)) (fun k_ => P1_ k_ ∧ some k_ ≠ (u6 : Value).ownBlock) rfl rfl HO.out (Kd.V_F (Kd.Z1 HV1.out (Kd.Z3 HO.out) HB.out)) (fun k_ hk_ => ⟨.inl (.inr hk_.1), hk_.2⟩) (fun k_ hk_ => .inr (Nat.le_trans (Qb HB.out) hk_)) HB.out (Qb HB.out) (by have := HL.out; simp; omega) ?_; intro v15 w15 ho hb hg hat; replace HB := aa.mk hb; replace HO := aa.mk ho; clear ho hb hg hat))
          go_roundw
          case rel => exact ⟨2, by omega, by go_num, HO, HB⟩
          case measure => simp [intOf]
        · have n1_ := aa.mk (show Kd.N (Kd.slice 3 (Kd.int .i64)) 28 wr w.heap.size (fun k_ => ((P0_ k_ ∨ P1_ k_) ∨ w.heap.size ≤ k_)) u6 (l0 ++ l1) from HO.out); go_wp2_with fail
          go_ret; exact ⟨_, rfl, n1_.out, HB.out⟩
def arr (m : List Int) : Array Value := ⟨m.map (Value.int .i64)⟩
theorem ZV (m : List Int) : (arr m).size = m.length := by simp [arr]
theorem Uw (m : List Int) (i : Nat) (h : i < m.length) : (arr m)[i]? = some (.int .i64 (m.getD i 0)) := by simp [arr, h]
theorem JT (m : List Int) (i : Nat) (v : Int) : (arr m).setIfInBounds i (.int .i64 v) = arr (m.set i v) := by
  apply Array.ext'; simp [arr, List.map_set]
theorem YZ (m : List Int) : (arr m).all (·.oneCell') = true := by
  simp [arr, Value.oneCell']
theorem YG {w : World} {g : Nat} {m : List Int} {t : TypeId} (h : w.heap[g]? = some (.cells (arr m) t (0, 0))) (i : Nat) (hi : i < m.length) : w.cell? ⟨g, i, none⟩ = some (.int .i64 (m.getD i 0)) := by
  rw [cell_of_row w g i (arr m) t (0, 0) h]; exact Uw m i hi
theorem VH {w : World} {g : Nat} {m : List Int} {t : TypeId} (h : w.heap[g]? = some (.cells (arr m) t (0, 0))) (i : Nat) : w.frozen? ⟨g, i, none⟩ = false := frozen_of_row w g i _ _ h
theorem V6 {w : World} {g : Nat} {m : List Int} {t : TypeId} (h : w.heap[g]? = some (.cells (arr m) t (0, 0))) (i : Nat) (v : Int) : (w.setCell ⟨g, i, none⟩ (.int .i64 v)).heap[g]? = some (.cells (arr (m.set i v)) t (0, 0)) := by
  rw [heap_setCell_same _ g i (arr m) t _ h, JT]
def row (m : List Int) (o : Nat) : List Int := (m.drop o).take 6
theorem size76 : (Try.prog.info? 76).map (·.size) = some 6 := by kernel_rfl
set_option maxHeartbeats 1000000 in
set_option maxRecDepth 100000 in
theorem nz_calls (m : List Int) (i g : Nat) (w : World) (hm : m.length = 6) (hi : i < 6) (hbx : w.cell? ⟨g, 0, none⟩ = some (.int .i64 (i : Int))) :
    Calls Try.prog 127 #[.agg (arr m), .pointer (some ⟨g, 0, none⟩)] w fun e w' => e = .returned (.bool (m.getD i 0 != 0)) ∧ Below w.heap.size w w' := by
  have mF := Try.underlying76; have HB := aa.mk (Below.refl w.heap.size w); have HM := aa.mk hm; obtain ⟨v, hv⟩ : ∃ v, v = m.getD i 0 := ⟨_, rfl⟩; rw [← hv]; have HV := aa.mk hv; clear hm hv; go_enter Try.func127, Try.ntmps127; go_wp2_with (first
      | ((with_reducible refine QN (N := 2) rfl ?_); refine Q3 ?hg (N := 2) ?hd (cs := arr m) (t := 76) ?hr ?_; (case hd => rfl); (case hg => rfl); (case hr => first | (go_simp; done) | (go_simp; rfl)); intro g2 hg2 w1 hbox hbe; have hc1 := YG hbox i (by rw [HM.out]; exact hi); rw [← HV.out] at hc1; have hb1 := (hbe.cell (World.block_lt_of_cell? w _ hbx)).trans hbx; replace HB := aa.mk (Qa HB.out hbe); clear hbox hbe hg2))
  go_ret; exact ⟨rfl, HB.out⟩
def fst (i : Nat) : List (List Int) → Int
  | [] => -1
  | r :: l => if r.getD i 0 ≠ 0 then 0 else if fst i l < 0 then -1 else fst i l + 1
theorem rowD (rows : List (List Int)) (q : Nat) (hq : q < rows.length) : rows.getD q [] = rows[q] := by
  rw [List.getD_eq_getElem?_getD, List.getElem?_eq_getElem hq, Option.getD_some]
theorem zero_of {r s : List Int} {i : Nat} (e : r = s) (h : false = (s.getD i 0 != 0)) : r.getD i 0 = 0 := by
  subst e; have := h.symm; simpa [-List.getD_eq_getElem?_getD] using this
def Rd (w : World) (A : Option Addr) (rows : List (List Int)) : Prop := rows ≠ [] → ∃ b o, A = some ⟨b, o, none⟩ ∧ ∀ k r, rows[k]? = some r → r.length = 6 ∧ w.rangeAt b (o + k * 6) (r.map (Value.int .i64))
theorem Vh {w w' : World} {b o : Nat} {cs : List Value} (h : w.rangeAt b o cs) (hb : Below w.heap.size w w') : w'.rangeAt b o cs := fun j v hj => (hb.cell (World.block_lt_of_cell? w _ (h j v hj))).trans (h j v hj)
theorem fst_drop (i : Nat) (rows : List (List Int)) (n : Nat) (hn : n < rows.length) (h : ∀ k, k < n → (rows.getD k []).getD i 0 = 0) : fst i rows = if rows[n].getD i 0 ≠ 0 then (n : Int) else if fst i (rows.drop (n + 1)) < 0 then -1 else fst i (rows.drop (n + 1)) + n + 1 := by
  induction n generalizing rows with
  | zero =>
    cases rows with
    | nil => simp at hn
    | cons r l => rw [fst]; simp
  | succ n ih =>
    cases rows with
    | nil => simp at hn
    | cons r l =>
      have h0 := h 0 (by omega); simp only [List.getD_cons_zero] at h0; have hn' : n < l.length := by simpa using hn
      have e := ih l hn' (fun k hk => by have := h (k + 1) (by omega); simpa using this); rw [fst, if_neg (fun hh => hh h0), e]; simp only [List.getElem_cons_succ, List.drop_succ_cons]; split
      · rw [if_neg (by omega)]; omega
      · split
        · rfl
        · rw [if_neg (by omega)]; omega
theorem fst_none (i : Nat) : ∀ (rows : List (List Int)), (∀ r ∈ rows, r.getD i 0 = 0) → fst i rows = -1
  | [], _ => rfl
  | r :: l, h => by
    rw [fst, if_neg (fun hh => hh (h r (List.mem_cons_self ..))), fst_none i l (fun x hx => h x (List.mem_cons_of_mem _ hx))]; rfl
set_option maxHeartbeats 2000000 in
set_option maxRecDepth 100000 in
theorem UN (A : Option Addr) (c : Nat) (rows : List (List Int)) (i g : Nat) (w : World) (hA : Rd w A rows) (hl : rows.length ≤ 1000) (hc : rows.length ≤ c) (hi : i < 6) (hbx : w.cell? ⟨g, 0, none⟩ = some (.int .i64 (i : Int))) :
    Calls Try.prog 126 #[.slice A rows.length c, .func (.func 127) #[] #[.pointer (some ⟨g, 0, none⟩)]] w fun e w' => e = .returned (.int .i64 (fst i rows)) ∧ Below w.heap.size w w' := by
  have mF := Try.underlying76; have pd := Try.underlying65; have mG := size76; have HR := aa.mk hA; have HBX := aa.mk hbx; have HL := aa.mk hl; have HC := aa.mk hc; clear hA hbx hc; have HB := aa.mk (Below.refl w.heap.size w); go_enter Try.func126, Try.ntmps126; go_wp2_with fail
  go_loopw [8] (fun i_ w' => ∃ n : Nat, n ≤ rows.length ∧ i_ = .int .i64 n ∧ aa (∀ q, q < n → (rows.getD q []).getD i 0 = 0) ∧ aa (Below w.heap.size w w')) (fun i_ _ => rows.length - (intOf i_).toNat)
  case atStart => exact ⟨0, by omega, rfl, ⟨fun q hq => absurd hq (by omega)⟩, by first | exact HB | exact ⟨HB.out.drew⟩⟩
  case round =>
    clear HB; obtain ⟨n, hn, rfl, HA, HB⟩ := hrel; by_cases hlt : n < rows.length
    · have p1 : 0 ≤ (n : Int) := by omega
      have q1 : (n : Int) < (rows.length : Int) := by omega
      obtain ⟨b, o, rfl, hr⟩ := HR.out (by intro e; rw [e] at hlt; simp at hlt); obtain ⟨hr6, hrange⟩ := hr n rows[n] (List.getElem?_eq_getElem hlt); have hbx := (HB.out.cell (World.block_lt_of_cell? w _ HBX.out)).trans HBX.out; have HRG := aa.mk (Vh hrange HB.out); have HY := aa.mk (nz_calls rows[n] i g _ hr6 hi hbx); have HI := aa.mk (show (Try.prog.info? 76).map (·.size) = some (rows[n].map (Value.int .i64)).length by rw [List.length_map, hr6]; exact mG); clear hrange hr; obtain ⟨bb, hbb⟩ : ∃ bb, bb = (rows[n].getD i 0 != 0) := ⟨_, rfl⟩; rw [← hbb] at HY; have HBB := aa.mk hbb; have HF := aa.mk (fst_drop i rows n hlt HA.out); clear hbb hr6 hbx; cases bb with
      | true =>
        go_wp2_with (first
          | (refine wpList_load_mid rfl 76 _ rfl b (o + n * 6) rfl _ _ HRG.out Try.underlying76 rfl HI.out ?_)
          | ((with_reducible refine QN (N := 16) rfl ?_); refine V0 (some 16) rfl rfl 11 #[.pointer (some ⟨g, 0, none⟩)] rfl Try.func127 (by kernel_rfl) rfl rfl #[.agg (arr rows[n]), .pointer (some ⟨g, 0, none⟩)] (by (try simp only [List.map_toArray, List.map_cons, List.map_nil]); first | done | rfl) ?_; (with_reducible refine HY.out.mono ?_); rintro e w9 ⟨rfl, hb⟩; refine ⟨_, rfl, ?_⟩; replace HB := aa.mk (Qa (by repeat (first | (with_reducible first | exact HB.out | apply Q0 | apply QI | apply QR) | exact HB.out)) hb); (try clear hb)))
        go_ret; refine ⟨?_, HB.out⟩; have h1 := HBB.out; rw [HF.out, if_pos (by intro e; rw [e] at h1; simp at h1)]; rfl
      | false =>
        go_wp2_with (first
          | (refine wpList_load_mid rfl 76 _ rfl b (o + n * 6) rfl _ _ HRG.out Try.underlying76 rfl HI.out ?_)
          | ((with_reducible refine QN (N := 16) rfl ?_); refine V0 (some 16) rfl rfl 11 #[.pointer (some ⟨g, 0, none⟩)] rfl Try.func127 (by kernel_rfl) rfl rfl #[.agg (arr rows[n]), .pointer (some ⟨g, 0, none⟩)] (by (try simp only [List.map_toArray, List.map_cons, List.map_nil]); first | done | rfl) ?_; (with_reducible refine HY.out.mono ?_); rintro e w9 ⟨rfl, hb⟩; refine ⟨_, rfl, ?_⟩; replace HB := aa.mk (Qa (by repeat (first | (with_reducible first | exact HB.out | apply Q0 | apply QI | apply QR) | exact HB.out)) hb); (try clear hb)))
        go_roundw
        case rel =>
          refine ⟨n + 1, by omega, by go_num, ⟨fun q hq => ?_⟩, HB⟩; by_cases hqn : q < n
          · exact HA.out q hqn
          · obtain rfl : q = n := by omega
            exact zero_of (rowD rows q hlt) HBB.out
        case measure => simp [intOf]; omega
    · go_wp2_with fail
      go_ret; refine ⟨?_, HB.out⟩; rw [fst_none i rows (fun r hr => by
        obtain ⟨q, hq, e⟩ := List.mem_iff_getElem.1 hr; have h3 := HA.out q (by omega); have h4 : rows.getD q [] = r := (rowD rows q hq).trans e; exact h4 ▸ h3)]
      rfl
def Six (M : List (List Int)) : Prop := ∀ r ∈ M, r.length = 6
theorem Vl : ∀ {M : List (List Int)}, Six M → M.flatten.length = M.length * 6
  | [], _ => rfl
  | r :: M, h => by
    rw [List.flatten_cons, List.length_append, h r (List.mem_cons_self ..), Vl (fun x hx => h x (List.mem_cons_of_mem _ hx)), List.length_cons]; omega
theorem UR : ∀ {M : List (List Int)}, Six M → ∀ (k i : Nat) (hk : k < M.length), i < 6 → M.flatten[k * 6 + i]? = M[k][i]?
  | [], _, k, i, hk, _ => by simp at hk
  | r :: M, h, 0, i, hk, hi => by
    have h6 := h r (List.mem_cons_self ..); rw [List.flatten_cons, List.getElem?_append_left (by omega)]; simp
  | r :: M, h, k + 1, i, hk, hi => by
    have h6 := h r (List.mem_cons_self ..); rw [List.flatten_cons, List.getElem?_append_right (by omega), h6, show (k + 1) * 6 + i - 6 = k * 6 + i by omega, UR (fun x hx => h x (List.mem_cons_of_mem _ hx)) k i (by simpa using hk) hi]; simp
theorem flat_set : ∀ {M : List (List Int)}, Six M → ∀ (k i : Nat) (v : Int) (hk : k < M.length), i < 6 → M.flatten.set (k * 6 + i) v = (M.set k (M[k].set i v)).flatten
  | [], _, k, i, v, hk, _ => by simp at hk
  | r :: M, h, 0, i, v, hk, hi => by
    have h6 := h r (List.mem_cons_self ..); rw [List.flatten_cons, List.set_append_left _ _ (by omega)]; simp
  | r :: M, h, k + 1, i, v, hk, hi => by
    have h6 := h r (List.mem_cons_self ..); rw [List.flatten_cons, List.set_append_right _ _ (by omega), h6, show (k + 1) * 6 + i - 6 = k * 6 + i by omega, flat_set (fun x hx => h x (List.mem_cons_of_mem _ hx)) k i v (by simpa using hk) hi]; simp
theorem Six.set {M : List (List Int)} (h : Six M) (k : Nat) {r : List Int} (hr : r.length = 6) : Six (M.set k r) := by
  intro x hx; rcases List.mem_or_eq_of_mem_set hx with h1 | rfl
  · exact h x h1
  · exact hr
theorem Six.at {M : List (List Int)} (h : Six M) {k : Nat} (hk : k < M.length) : M[k].length = 6 := h _ (List.getElem_mem hk)
def Bl (w : World) (g : Nat) (M : List (List Int)) (c : Nat) : Prop := Six M ∧ ∃ rest : List Value, w.heap[g]? = some (.cells ⟨M.flatten.map (Value.int .i64) ++ rest⟩ 76 (0, 0)) ∧ M.length * 6 + rest.length = c * 6
section
variable {w w1 : World} {g c : Nat} {M : List (List Int)}
theorem Bl.move (h : Bl w g M c) (e : w1.heap[g]? = w.heap[g]?) : Bl w1 g M c := by
  obtain ⟨h6, rest, hh, hl⟩ := h; exact ⟨h6, rest, e.trans hh, hl⟩
theorem Bl.lt (h : Bl w g M c) : g < w.heap.size := by
  obtain ⟨h6, rest, hh, hl⟩ := h; exact VG hh
theorem Bl.below (h : Bl w g M c) (hb : Below w.heap.size w w1) : Bl w1 g M c := h.move (hb.block g h.lt)
theorem Bl.alloc (h : Bl w g M c) (o : Obj) : Bl (w.alloc o) g M c := h.move (Below.heap_alloc w o g h.lt)
theorem Bl.drew (h : Bl w g M c) : Bl w.drew g M c := h
theorem Bl.cell (h : Bl w g M c) {k i : Nat} (hk : k < M.length) (hi : i < 6) : w.cell? ⟨g, k * 6 + i, none⟩ = some (.int .i64 (M[k].getD i 0)) := by
  obtain ⟨h6, rest, hh, hl⟩ := h; rw [Qd hh]; have hf := Vl h6; have h66 := h6.at hk; have hg := UR h6 k i hk hi; rw [List.getElem?_eq_getElem (show i < M[k].length by omega)] at hg; simp only [List.getElem?_toArray]; rw [List.getElem?_append_left (by rw [List.length_map, hf]; omega), List.getElem?_map, hg, List.getD_eq_getElem?_getD, List.getElem?_eq_getElem (show i < M[k].length by omega)]; rfl
theorem Bl.frozen (h : Bl w g M c) (i : Nat) : w.frozen? ⟨g, i, none⟩ = false := by
  obtain ⟨h6, rest, hh, hl⟩ := h; exact Qc hh i
theorem Bl.store (h : Bl w g M c) {k i : Nat} (hk : k < M.length) (hi : i < 6) (v : Int) : Bl (w.setCell ⟨g, k * 6 + i, none⟩ (.int .i64 v)) g (M.set k (M[k].set i v)) c := by
  obtain ⟨h6, rest, hh, hl⟩ := h; refine ⟨h6.set k (by rw [List.length_set]; exact h6.at hk), rest, ?_, by simpa using hl⟩; have hf := Vl h6; rw [heap_setCell_same _ g _ _ 76 _ hh, ← flat_set h6 k i v hk hi]; congr 2; apply Array.ext'; simp only [Array.toList_setIfInBounds]; rw [List.set_append_left _ _ (by rw [List.length_map, hf]; omega), List.map_set]
theorem Bl.range (h : Bl w g M c) {k : Nat} (hk : k < M.length) : w.rangeAt g (k * 6) (M[k].map (Value.int .i64)) := by
  intro j v hj; have h6 := h.1.at hk; have hj6 : j < 6 := by
    have := (List.getElem?_eq_some_iff.1 hj).1; simp at this; omega
  rw [h.cell hk hj6, ← hj, List.getElem?_map, List.getElem?_eq_getElem (show j < M[k].length by omega), List.getD_eq_getElem?_getD, List.getElem?_eq_getElem (show j < M[k].length by omega)]; rfl
theorem Bl.there (h : Bl w g M c) {k : Nat} (hk : k < M.length) : w.there g (k * 6) 6 := fun j hj => ⟨by rw [h.cell hk hj]; rfl, h.frozen _⟩
theorem Bl.puts : ∀ (r : List Int) (i : Nat) {w : World} {M : List (List Int)} (h : Bl w g M c) {k : Nat} (hk : k < M.length), i + r.length ≤ 6 → ∃ s : List Int, s.length = 6 ∧ s.take i = M[k].take i ∧ (s.drop i).take r.length = r ∧ s.drop (i + r.length) = M[k].drop (i + r.length) ∧ Bl (w.setCells g (k * 6 + i) (r.map (Value.int .i64))) g (M.set k s) c
  | [], i, w, M, h, k, hk, _ => ⟨M[k], h.1.at hk, rfl, by simp, rfl, by
      have : M.set k M[k] = M := List.set_getElem_self hk; rw [this]; exact h⟩
  | v :: r, i, w, M, h, k, hk, hl => by
    have hi : i < 6 := by simp at hl; omega
    have h6 := h.1.at hk; have hs := h.store hk hi v; have hk' : k < (M.set k (M[k].set i v)).length := by simpa using hk
    obtain ⟨s, s1, s2, s3, s4, s5⟩ := Bl.puts r (i + 1) hs hk' (by simp at hl; omega); have e1 : (M.set k (M[k].set i v))[k] = M[k].set i v := by simp
    rw [e1] at s2 s4; refine ⟨s, s1, ?_, ?_, ?_, ?_⟩
    · have := congrArg (List.take i) s2; rw [List.take_take, List.take_take, Nat.min_eq_left (by omega)] at this; rw [this]; rw [List.take_set_of_le (by omega)]
    · have hv : s[i]? = some v := by
        have := congrArg (·[i]?) s2; simp only [List.getElem?_take] at this; rw [if_pos (by omega), if_pos (by omega)] at this; rw [this]; simp [show i < M[k].length by omega]
      have hd : s.drop i = v :: s.drop (i + 1) := by
        rw [List.drop_eq_getElem_cons (by omega)]; congr 1; rw [List.getElem?_eq_getElem (by omega)] at hv; exact Option.some.inj hv
      rw [hd, List.length_cons, List.take_succ_cons, s3]
    · rw [List.length_cons, show i + (r.length + 1) = i + 1 + r.length by omega, s4, List.drop_set_of_lt (by omega)]
    · rw [List.map_cons, World.setCells]; rw [List.set_set] at s5; exact s5
theorem Bl.stores (h : Bl w g M c) {k : Nat} (hk : k < M.length) {r : List Int} (hr : r.length = 6) : Bl (w.setCells g (k * 6) (r.map (Value.int .i64))) g (M.set k r) c := by
  obtain ⟨s, s1, s2, s3, s4, s5⟩ := Bl.puts r 0 h hk (by omega); simp only [List.drop_zero, Nat.add_zero] at s3 s5; have : s = r := by rw [← s3, List.take_of_length_le (by omega)]
  rw [this] at s5; exact s5
end
def L6 (x : S76) : List Int := [x.f0, x.f1, x.f2, x.f3, x.f4, x.f5]
def mk6 (m : List Int) : S76 := ⟨m.getD 0 0, m.getD 1 0, m.getD 2 0, m.getD 3 0, m.getD 4 0, m.getD 5 0⟩
theorem L6_mk6 {m : List Int} (h : m.length = 6) : L6 (mk6 m) = m := by
  match m, h with
  | [a, b, c, d, e, f], _ => rfl
theorem six_L6 (xs : List S76) : Six (xs.map L6) := by
  intro r hr; obtain ⟨x, _, rfl⟩ := List.mem_map.1 hr; rfl
theorem map_L6 : ∀ {M : List (List Int)}, Six M → (M.map mk6).map L6 = M
  | [], _ => rfl
  | r :: M, h => by rw [List.map_cons, List.map_cons, L6_mk6 (h r (List.mem_cons_self ..)), map_L6 (fun x hx => h x (List.mem_cons_of_mem _ hx))]
theorem Rd.of_C {w : World} {A : Option Addr} {n : Nat} {xs : List S76} (h : Kd.C k76 w A n xs) (hA : ∀ ad, A = some ad → ad.spot = none) : Rd w A (xs.map L6) := by
  intro hne; have hn : 0 < n := by
    have := h.1; cases xs with
    | nil => simp at hne
    | cons x r => simp at this; omega
  obtain ⟨ad, e, hc⟩ := h.2.2 hn; obtain ⟨b, o, sp⟩ := ad; have := hA _ e; cases this; refine ⟨b, o, e, fun k r hk => ?_⟩; rw [List.getElem?_map] at hk; obtain ⟨x, hx, rfl⟩ := Option.map_eq_some_iff.1 hk; obtain ⟨cs, _, hK, hcell⟩ := hc k x hx; obtain rfl := UM hK; refine ⟨rfl, fun j v hj => ?_⟩; have h1 := hcell j v hj; rw [Addr.add_mid] at h1; rw [Nat.add_assoc]; exact h1
theorem reps76 {W : World} {base : Nat} {ok : Nat → Prop} : ∀ {xs : List S76} {inner : List Value}, Reps (k76.M W base ok) 6 xs inner → inner = (xs.map L6).flatten.map (Value.int .i64)
  | [], inner, h => List.eq_nil_of_length_eq_zero (by simpa using h.1)
  | x :: r, inner, h => by
    have hl := h.1; have h2 := k76_openM (h.2 0 x rfl); simp only [Nat.zero_mul, List.drop_zero] at h2; have h3 := reps76 (xs := r) (inner := inner.drop 6) ⟨by simp at hl ⊢; omega, fun j p hj => by
      have := h.2 (j + 1) p (by simpa using hj); rw [List.drop_drop, show 6 + j * 6 = (j + 1) * 6 by omega]; exact this⟩
    rw [← List.take_append_drop 6 inner, h2, h3]; rfl
theorem Bl.of_R {w : World} {base : Nat} {ok : Nat → Prop} {v : Value} {xs : List S76} (h : Kd.R k76 76 w base ok v xs) : (v = .slice none 0 0 ∧ xs = []) ∨ ∃ g c, v = .slice (some ⟨g, 0, none⟩) xs.length c ∧ base ≤ g ∧ ok g ∧ Bl w g (xs.map L6) c ∧ xs.length ≤ c ∧ c ≤ maxLen := by
  obtain ⟨h0, inner, ⟨hl, ho⟩, hr⟩ := h; rcases ho with ⟨rfl, hn⟩ | ⟨g, cap, cur, rfl, hg, hh, hc, hm, hs, ht⟩
  · exact .inl ⟨rfl, List.eq_nil_of_length_eq_zero hn⟩
  · refine .inr ⟨g, cap, rfl, hg, h0 g rfl, ⟨six_L6 xs, cur.toList.drop (xs.length * 6), ?_, ?_⟩, hc, hm⟩
    · have hin : inner = (xs.map L6).flatten.map (Value.int .i64) := reps76 hr; rw [hh, ← hin, ← ht, show k76.sz = 6 from rfl, List.take_append_drop]
    · have : cur.toList.length = cap * 6 := by rw [Array.length_toList]; exact hs
      simp [this]; omega
theorem Bl.R {w : World} {g c base n : Nat} {ok : Nat → Prop} {M : List (List Int)} (h : Bl w g M c) (hb : base ≤ g) (hok : ok g) (hn : n ≤ M.length) (hc : c ≤ maxLen) : Kd.R k76 76 w base ok (.slice (some ⟨g, 0, none⟩) n c) ((M.take n).map mk6) := by
  obtain ⟨h6, rest, hh, hl⟩ := h; have h6t : Six (M.take n) := fun r hr => h6 r (List.mem_of_mem_take hr)
  have hlen : ((M.take n).map mk6).length = n := by simp; omega
  have hfl : (M.take n).flatten.length = n * 6 := by rw [Vl h6t]; simp; omega
  refine ⟨fun k hk => ?_, (M.take n).flatten.map (Value.int .i64), ⟨?_, .inr ⟨g, c, _, ?_, hb, hh, ?_, hc, ?_, ?_⟩⟩, ?_, ?_⟩
  · simp [Value.ownBlock] at hk; subst hk; exact hok
  · rw [List.length_map, hfl, hlen]; rfl
  · rw [hlen]
  · rw [hlen]; omega
  · show (M.flatten.map (Value.int .i64) ++ rest).length = c * 6
    rw [List.length_append, List.length_map, Vl h6]; exact hl
  · rw [hlen, show k76.sz = 6 from rfl]; have : M.flatten = (M.take n).flatten ++ (M.drop n).flatten := by rw [← List.flatten_append, List.take_append_drop]
    show List.take (n * 6) (M.flatten.map (Value.int .i64) ++ rest) = _
    rw [this, List.map_append, List.append_assoc, List.take_append_of_le_length (by rw [List.length_map, hfl]; omega), List.take_of_length_le (by rw [List.length_map, hfl]; omega)]
  · rw [List.length_map, hfl, hlen]; rfl
  · intro j p hj; rw [List.getElem?_map] at hj; obtain ⟨r, hr, rfl⟩ := Option.map_eq_some_iff.1 hj; obtain ⟨hjl, hje⟩ := List.getElem?_eq_some_iff.1 hr; have hr6 : r.length = 6 := h6t r (hje ▸ List.getElem_mem hjl); have he : (((M.take n).flatten.map (Value.int .i64)).drop (j * 6)).take 6 = (L6 (mk6 r)).map (Value.int .i64) := by
      rw [L6_mk6 hr6]; apply List.ext_getElem?; intro i; rw [List.getElem?_take]; split
      · rename_i hi
        rw [List.getElem?_drop, List.getElem?_map, List.getElem?_map, UR h6t j i hjl hi, hje]
      · rw [List.getElem?_eq_none (by simp; omega)]
    show k76.M _ _ _ _ _
    rw [show k76.sz = 6 from rfl, he]; exact Ur _ _ _ _
def pad (l : List Int) : List Int := l ++ List.replicate (6 - l.length) 0
theorem UH {l : List Int} (h : l.length ≤ 6) : (pad l).length = 6 := by simp [pad]; omega
theorem JD {l : List Int} (v : Int) (h : l.length < 6) : (pad l).set l.length v = pad (l ++ [v]) := by
 unfold pad; rw [List.set_append_right _ _ (Nat.le_refl _), Nat.sub_self, show 6 - l.length = (6 - (l ++ [v]).length) + 1 by simp; omega, List.replicate_succ, List.set_cons_zero, List.append_assoc]; rfl
def lineOf (l0 l1 : List (List Int)) (k : Nat) : List Int := pad (l0.map (·.getD k 0) ++ l1.map (fun c => wrap64 (-(c.getD k 0))))
def ZM.f (l0 l1 : List (List Int)) : Option (List S76) :=
 if 0 < l0.length ∧ l0.length + l1.length ≤ 6 ∧ (0 < (Qu l0 0).length ∧ (Qu l0 0).length ≤ 4) ∧ ∀ r ∈ l0 ++ l1, (Qu l0 0).length ≤ r.length then some ((List.range (Qu l0 0).length).map fun k => mk6 (lineOf l0 l1 k)) else none
def Made (f : Nat → List Int) (n k : Nat) (row : List Int) (M : List (List Int)) : Prop := M.length = n ∧ ∀ q, q < n → M[q]? = some (if q < k then f q else if q = k then row else pad [])
theorem Made.at {f : Nat → List Int} {n k : Nat} {row : List Int} {M : List (List Int)} (h : Made f n k row M) (hk : k < n) : ∃ hk' : k < M.length, M[k] = row := by
 have hk' : k < M.length := by rw [h.1]; exact hk
 have := h.2 k hk; rw [List.getElem?_eq_getElem hk', if_neg (by omega), if_pos rfl] at this; exact ⟨hk', Option.some.inj this⟩
theorem Made.set {f : Nat → List Int} {n k : Nat} {row : List Int} {M : List (List Int)} (h : Made f n k row M) (row' : List Int) : Made f n k row' (M.set k row') := by
 refine ⟨by simpa using h.1, fun q hq => ?_⟩; have := h.2 q hq; have hq' : q < M.length := by rw [h.1]; exact hq
 by_cases e : k = q
 ·subst e; simp [hq']
 ·rw [List.getElem?_set_ne e, this]; rw [if_neg (show ¬ q = k by omega), if_neg (show ¬ q = k by omega)]
theorem Made.next {f : Nat → List Int} {n k : Nat} {M : List (List Int)} (h : Made f n k (f k) M) : Made f n (k + 1) (pad []) M := by
 refine ⟨h.1, fun q hq => ?_⟩; rw [h.2 q hq]; by_cases e : q < k
 ·rw [if_pos e, if_pos (by omega)]
 ·by_cases e2 : q = k
  ·subst e2; rw [if_neg e, if_pos rfl, if_pos (by omega)]
  ·rw [if_neg e, if_neg e2, if_neg (by omega)]; split <;> rfl
theorem Made.all {f : Nat → List Int} {n : Nat} {row : List Int} {M : List (List Int)} (h : Made f n n row M) : M = (List.range n).map f := by
 apply List.ext_getElem?; intro q; by_cases hq : q < n
 ·rw [h.2 q hq, if_pos hq]; simp [hq]
 ·rw [List.getElem?_eq_none (by rw [h.1]; omega), List.getElem?_eq_none (by simp; omega)]
theorem addr_zero (ad : Addr) : ad.add 0 = ad := by
 cases ad; unfold Addr.add; split <;> simp_all
set_option maxHeartbeats 4000000 in
set_option maxRecDepth 100000 in
theorem ZM.calls (A0 : Option Addr) (c0 : Nat) (l0 : List (List Int)) (A1 : Option Addr) (c1 : Nat) (l1 : List (List Int)) (r : List S76) (w : World) (hr0 : Kd.C (Kd.slice 3 (Kd.int .i64)) w A0 l0.length l0) (hc0 : l0.length ≤ c0) (hr1 : Kd.C (Kd.slice 3 (Kd.int .i64)) w A1 l1.length l1) (hc1 : l1.length ≤ c1) (h : ZM.f l0 l1 = some r) :
  Calls Try.prog 73 #[.agg #[.slice A0 l0.length c0, .slice A1 l1.length c1]] w fun e w' => ∃ v0_ : Value, e = .returned (v0_) ∧ Kd.R k76 76 w' w.heap.size (fun _ => True) v0_ r ∧ Below w.heap.size w w' := by
 unfold ZM.f at h; split at h
 case isFalse => cases h
 rename_i hcond
 obtain ⟨z0, z1, z2, z3⟩ := hcond; obtain rfl := Option.some.inj h; clear h; have ej := Try.underlying24; have mF := Try.underlying76; have pd := Try.underlying65; have tf := Try.underlying28; have tg := Try.underlying22; have HR0 := aa.mk hr0; have HC0 := aa.mk hc0; have HR1 := aa.mk hr1; have HC1 := aa.mk hc1; have HZ3 := aa.mk z3; obtain ⟨ad, Aq, cq, eq, hxq, hlq, hiq⟩ := ZJ hr0 0 (by omega) (by omega); cases eq; rw [show (0 : Int).toNat = 0 from rfl, addr_zero] at hxq; obtain ⟨n, hn⟩ : ∃ n, n = (Qu l0 0).length := ⟨_, rfl⟩; rw [← hn] at hxq hlq z2 HZ3; have HN := aa.mk hn; have HXQ := aa.mk hxq; clear hr0 hc0 hr1 hc1 z3 hiq; have HB := aa.mk (Below.refl w.heap.size w); rw [← hn]; clear hn hxq; have q0 : (0 : Int) < (l0.length : Int) := by omega
 go_enter Try.func73, Try.ntmps73; go_wp2_with (first
  | ((with_reducible refine QN (N := 1) rfl ?_); refine Q3 ?hg (N := 1) ?hd (cs := #[.slice (some ad) l0.length c0, .slice A1 l1.length c1]) (t := 24) ?hr ?_; (case hd => rfl); (case hg => rfl); (case hr => first | (go_simp; done) | (go_simp; rfl)); intro gb hgb w7 hbox hb; have HGB := aa.mk hgb; have BK := aa.mk hbox; have HBOX := aa.mk hbox; have pB : w7.cell? ⟨gb, 0, none⟩ = some (.slice (some ad) l0.length c0) := (Qd BK.out 0).trans rfl; have re : w7.cell? ⟨gb, 1, none⟩ = some (.slice A1 l1.length c1) := (Qd BK.out 1).trans rfl; have hxq := (hb.cell (World.block_lt_of_cell? w _ HXQ.out)).trans HXQ.out; have n0_ := aa.mk (Qa HB.out hb); have HB7 := aa.mk hb; clear HB; have HB := n0_; clear n0_ hgb hbox hb)
  | ((with_reducible refine QN (N := 14) rfl ?_); refine Kd.JY k76 _ 76 rfl (N := 14) rfl 65 _ _ rfl (n : Int) rfl rfl Try.underlying65 (.agg #[(.int .i64 0), (.int .i64 0), (.int .i64 0), (.int .i64 0), (.int .i64 0), (.int .i64 0)]) 48 info76 rfl (by decide) (by omega) z76 (ok := fun _ => True) (okp := fun _ => True) (Ur _ _ _ z76) (fun _ hk => hk) trivial (by omega) (by simp only [Int.toNat_natCast]; omega) (Below.refl _ _) (Nat.le_refl _) ?_; intro v14 w14 ho hb hgr hat; obtain ⟨g, c, hv, hgw, -, hbl, hlc, hcm⟩ := (Bl.of_R ho).resolve_left (fun hh => absurd (congrArg List.length hh.2) (by rw [List.length_replicate, List.length_nil, Int.toNat_natCast]; omega)); rw [List.length_replicate, Int.toNat_natCast] at hv hlc; subst hv; have HBL := aa.mk hbl; have HCM := aa.mk hcm; have HGW := aa.mk hgw; have wU := aa.mk (Qp BK.out hb); have n0_ := aa.mk (Qa HB.out hb); clear HB BK hbl hcm hgw; have HB := n0_; have BK := wU; clear n0_ wU ho hb hgr hat))
 have HB0 := aa.mk (show w.heap.size ≤ w7.heap.size from HB7.out.size); have HGG := aa.mk (show gb ≠ g by
  have h1 := HGW.out; have h2 := (Array.getElem?_eq_some_iff.1 HBOX.out).1; omega)
 have HM := aa.mk (show Made (lineOf l0 l1) n 0 (pad []) ((List.replicate (n : Int).toNat z76).map L6) from ⟨by simp, fun q hq => by
  rw [List.map_replicate, Int.toNat_natCast, List.getElem?_replicate, if_pos hq, if_neg (by omega)]; split <;> rfl⟩)
 generalize (List.replicate (n : Int).toNat z76).map L6 = M at HM HBL; go_loopw [17] (fun k_ w' => ∃ (k : Nat) (M : List (List Int)), k ≤ n ∧ k_ = .int .i64 k ∧ aa (Made (lineOf l0 l1) n k (pad []) M) ∧ aa (Bl w' g M c) ∧ aa (w'.heap[gb]? = some (.cells #[.slice (some ad) l0.length c0, .slice A1 l1.length c1] 24 (0, 0))) ∧ aa (Below w.heap.size w w')) (fun k_ _ => n - (intOf k_).toNat)
 case atStart => exact ⟨0, M, Nat.zero_le _, rfl, HM, HBL, BK, HB⟩
 case round =>
  clear HM HBL BK HB M; obtain ⟨k, M, hk, rfl, HM, HBL, BK, HB⟩ := hrel; have pB : wr.cell? ⟨gb, 0, none⟩ = some (.slice (some ad) l0.length c0) := (Qd BK.out 0).trans rfl; have re : wr.cell? ⟨gb, 1, none⟩ = some (.slice A1 l1.length c1) := (Qd BK.out 1).trans rfl; by_cases hkn : k < n
  ·go_wp2_with fail
   clear pB re; have HM1 := aa.mk (show Made (lineOf l0 l1) n k (pad ((l0.take 0).map (·.getD k 0))) M from HM.out); clear HM; go_loopw [23] (fun i_ w' => ∃ (i : Nat) (M : List (List Int)), i ≤ l0.length ∧ i_ = .int .i64 i ∧ aa (Made (lineOf l0 l1) n k (pad ((l0.take i).map (·.getD k 0))) M) ∧ aa (Bl w' g M c) ∧ aa (w'.heap[gb]? = some (.cells #[.slice (some ad) l0.length c0, .slice A1 l1.length c1] 24 (0, 0))) ∧ aa (Below w.heap.size w w')) (fun i_ _ => l0.length - (intOf i_).toNat)
   case atStart => exact ⟨0, M, Nat.zero_le _, rfl, HM1, HBL, BK, HB⟩
   case round =>
    clear HM1 HBL BK HB M; obtain ⟨i, M, hi, rfl, HM, HBL, BK, HB⟩ := hrel; by_cases hil : i < l0.length
    ·obtain ⟨ad1, A2, c2, e1, hx1, hl1, hi1⟩ := ZJ HR0.out (i : Int) (by omega) (by omega); cases e1; replace hx1 := (HB.out.cell (World.block_lt_of_cell? w _ hx1)).trans hx1; have hge := HZ3.out (Qu l0 (i : Int)) (List.mem_append_left _ (by simp only [Qu, Int.toNat_natCast]; rw [rowD _ _ hil]; exact List.getElem_mem hil)); obtain ⟨ad2, e2, hx2⟩ := Kd.Zi hi1 (k : Int) (by omega) (by omega); subst e2; replace hx2 := (HB.out.cell (World.block_lt_of_cell? w _ hx2)).trans hx2; simp only [Int.toNat_natCast] at hx1 hx2; obtain ⟨hkM, hrow⟩ := HM.out.at hkn; have hi6 : i < 6 := by omega
     have hf := HBL.out.frozen (k * 6 + i); have hc := HBL.out.cell hkM hi6; have hlt : (k : Int) < ((Qu l0 (i : Int)).length : Int) := by omega
     clear hl1 hi1; generalize M[k].getD i 0 = old at hc; obtain ⟨x, hxe⟩ : ∃ x, x = rd (Qu l0 (i : Int)) (k : Int) := ⟨_, rfl⟩; rw [← hxe] at hx2; have hx3 : x = (l0[i]).getD k 0 := by rw [hxe]; simp only [rd, Qu, Int.toNat_natCast]; rw [rowD _ _ hil]
     have HROW := aa.mk (show pad ((l0.take (i + 1)).map (·.getD k 0)) = M[k].set i x by
      rw [hrow, List.take_succ_eq_append_getElem hil, List.map_append, hx3]; have := JD (l := (l0.take i).map (·.getD k 0)) ((l0[i]).getD k 0) (by simp; omega); rw [show ((l0.take i).map (·.getD k 0)).length = i by simp; omega] at this; exact this.symm)
     have HKM := aa.mk hkM; clear hxe hx3 hrow hge; go_wp2_with fail
     go_region; go_wp2_with fail
     go_roundw
     case rel => exact ⟨i + 1, M.set k (M[k].set i x), by omega, by go_num, ⟨by rw [HROW.out]; exact HM.out.set _⟩, ⟨HBL.out.store HKM.out hi6 x⟩, ⟨(heap_setCell_other _ _ _ _ HGG.out).trans BK.out⟩, ⟨(HB.out.setCell (Nat.le_trans HB0.out HGW.out) _).drew⟩⟩
     case measure => simp [intOf]; omega
    ·obtain rfl : i = l0.length := by omega
     have HM2 := aa.mk (show Made (lineOf l0 l1) n k (pad (l0.map (·.getD k 0) ++ (l1.take 0).map (fun c => wrap64 (-(c.getD k 0))))) M by
      have := HM.out; rw [List.take_length] at this; simpa using this)
     have pB : wr.cell? ⟨gb, 0, none⟩ = some (.slice (some ad) l0.length c0) := (Qd BK.out 0).trans rfl; have re : wr.cell? ⟨gb, 1, none⟩ = some (.slice A1 l1.length c1) := (Qd BK.out 1).trans rfl; clear HM; go_wp2_with fail
     clear pB re; go_loopw [41] (fun i_ w' => ∃ (i : Nat) (M : List (List Int)), i ≤ l1.length ∧ i_ = .int .i64 i ∧ aa (Made (lineOf l0 l1) n k (pad (l0.map (·.getD k 0) ++ (l1.take i).map (fun c => wrap64 (-(c.getD k 0))))) M) ∧ aa (Bl w' g M c) ∧ aa (w'.heap[gb]? = some (.cells #[.slice (some ad) l0.length c0, .slice A1 l1.length c1] 24 (0, 0))) ∧ aa (Below w.heap.size w w')) (fun i_ _ => l1.length - (intOf i_).toNat)
     case atStart => exact ⟨0, M, Nat.zero_le _, rfl, HM2, HBL, BK, HB⟩
     case round =>
      clear HM2 HBL BK HB M; obtain ⟨i, M, hi, rfl, HM, HBL, BK, HB⟩ := hrel; have pB : wr.cell? ⟨gb, 0, none⟩ = some (.slice (some ad) l0.length c0) := (Qd BK.out 0).trans rfl; by_cases hil : i < l1.length
      ·obtain ⟨ad1, A2, c2, e1, hx1, hl1, hi1⟩ := ZJ HR1.out (i : Int) (by omega) (by omega); subst e1; replace hx1 := (HB.out.cell (World.block_lt_of_cell? w _ hx1)).trans hx1; have hge := HZ3.out (Qu l1 (i : Int)) (List.mem_append_right _ (by simp only [Qu, Int.toNat_natCast]; rw [rowD _ _ hil]; exact List.getElem_mem hil)); obtain ⟨ad2, e2, hx2⟩ := Kd.Zi hi1 (k : Int) (by omega) (by omega); subst e2; replace hx2 := (HB.out.cell (World.block_lt_of_cell? w _ hx2)).trans hx2; simp only [Int.toNat_natCast] at hx1 hx2; obtain ⟨hkM, hrow⟩ := HM.out.at hkn; have hi6 : l0.length + i < 6 := by omega
       have hf := HBL.out.frozen (k * 6 + (l0.length + i)); have hc := HBL.out.cell hkM hi6; have hlt : (k : Int) < ((Qu l1 (i : Int)).length : Int) := by omega
       clear hl1 hi1; generalize M[k].getD (l0.length + i) 0 = old at hc; obtain ⟨x, hxe⟩ : ∃ x, x = rd (Qu l1 (i : Int)) (k : Int) := ⟨_, rfl⟩; rw [← hxe] at hx2; have hx3 : x = (l1[i]).getD k 0 := by rw [hxe]; simp only [rd, Qu, Int.toNat_natCast]; rw [rowD _ _ hil]
       have HROW := aa.mk (show pad (l0.map (·.getD k 0) ++ (l1.take (i + 1)).map (fun c => wrap64 (-(c.getD k 0)))) = M[k].set (l0.length + i) (wrap64 (-x)) by
        rw [hrow, List.take_succ_eq_append_getElem hil, List.map_append, hx3]; have := JD (l := l0.map (·.getD k 0) ++ (l1.take i).map (fun c => wrap64 (-(c.getD k 0)))) (wrap64 (-((l1[i]).getD k 0))) (by simp; omega); rw [show (l0.map (·.getD k 0) ++ (l1.take i).map (fun c => wrap64 (-(c.getD k 0)))).length = l0.length + i by simp; omega] at this; rw [this, List.append_assoc]; rfl)
       have HKM := aa.mk hkM; clear hxe hx3 hrow hge; go_wp2_with fail
       go_region; go_wp2_with fail
       go_roundw
       case rel => exact ⟨i + 1, M.set k (M[k].set (l0.length + i) (wrap64 (-x))), by omega, by go_num, ⟨by rw [HROW.out]; exact HM.out.set _⟩, ⟨HBL.out.store HKM.out hi6 _⟩, ⟨(heap_setCell_other _ _ _ _ HGG.out).trans BK.out⟩, ⟨(HB.out.setCell (Nat.le_trans HB0.out HGW.out) _).drew⟩⟩
       case measure => simp [intOf]; omega
      ·obtain rfl : i = l1.length := by omega
       have HM3 := aa.mk (show Made (lineOf l0 l1) n (k + 1) (pad []) M from (by
        have := HM.out; rw [List.take_length] at this; exact this.next))
       go_wp2_with fail
       go_roundw
       case rel => exact ⟨k + 1, M, by omega, by go_num, HM3, HBL, BK, HB⟩
       case measure => simp [intOf]; omega
  ·obtain rfl : k = n := by omega
   have hall := HM.out.all; go_wp2_with fail
   go_ret; refine ⟨_, rfl, ?_, HB.out⟩; have hR := HBL.out.R (base := w.heap.size) (ok := fun _ => True) (n := k) (Nat.le_trans HB0.out HGW.out) trivial (by rw [HM.out.1]; exact Nat.le_refl _) HCM.out; rw [List.take_of_length_le (by rw [HM.out.1]; exact Nat.le_refl _), hall, List.map_map] at hR; exact hR
theorem wrp {x : Int} (h0 : -9223372036854775808 ≤ x) (h1 : x ≤ 9223372036854775807) : wrap64 x = x := by
  unfold wrap64; omega
def Lim (x : Int) : Prop := x.natAbs ≤ 4611686018427387904
theorem Uk : ∀ (n : Nat) (a b : Int), b.natAbs < n → Lim a → Lim b → ∃ k, Zu.f k a b = some (Int.gcd a b : Int)
  | 0, _, _, h, _, _ => by omega
  | n + 1, a, b, h, ha, hb => by
    unfold Lim at ha hb; by_cases h0 : b = 0
    · subst h0; refine ⟨1, ?_⟩; unfold Zu.f Zu.l0; rw [if_pos rfl, wrp (by omega) (by omega)]; have : (Int.gcd a 0 : Int) = a.natAbs := by simp
      rw [this]; unfold mx; congr 1; split <;> omega
    · have h1 : (Int.tmod a b).natAbs = a.natAbs % b.natAbs := Int.natAbs_tmod a b; have h2 : a.natAbs % b.natAbs < b.natAbs := Nat.mod_lt _ (by omega); obtain ⟨k, hk⟩ := Uk n b (Int.tmod a b) (by omega) (by unfold Lim; omega) (by unfold Lim; omega); refine ⟨k + 1, ?_⟩; unfold Zu.f Zu.l0; rw [if_neg h0]; refine Eq.trans hk ?_; congr 2; show Nat.gcd b.natAbs (Int.tmod a b).natAbs = Nat.gcd a.natAbs b.natAbs
      rw [h1, Nat.gcd_comm a.natAbs, Nat.gcd_comm b.natAbs, ← Nat.gcd_rec]
theorem Vy (a b : Int) (ha : Lim a) (hb : Lim b) (w : World) : Calls Try.prog 117 #[.int .i64 a, .int .i64 b] w fun e w' => e = .returned (.int .i64 (Int.gcd a b : Int)) ∧ Below w.heap.size w w' := by
  obtain ⟨k, hk⟩ := Uk (b.natAbs + 1) a b (by omega) ha hb; exact Zu.calls k a b _ w hk
def gc (m : List Int) : Nat := m.foldl (fun d n => Int.gcd d n) 0
def pln (m : List Int) : List Int := if 1 < gc m then m.map (·.tdiv (gc m)) else m
theorem gcd_lim {d x : Int} (hd : Lim d) (hx : Lim x) : Lim (Int.gcd d x : Int) := by
  unfold Lim at *; by_cases h : x = 0
  · subst h; simp; omega
  · have := Nat.gcd_le_right d.natAbs (show 0 < x.natAbs by omega); show ((Nat.gcd d.natAbs x.natAbs : Nat) : Int).natAbs ≤ _
    omega
theorem JH : ∀ (m : List Int) (d : Nat), Lim d → (∀ x ∈ m, Lim x) → Lim (m.foldl (fun d n => Int.gcd d n) d : Nat)
  | [], d, hd, _ => hd
  | x :: m, d, hd, h => JH m _ (gcd_lim hd (h x (List.mem_cons_self ..))) (fun y hy => h y (List.mem_cons_of_mem _ hy))
theorem lim0 : Lim (0 : Nat) := by unfold Lim; decide
theorem gc_take (m : List Int) (i : Nat) (hi : i < m.length) : gc (m.take (i + 1)) = Int.gcd (gc (m.take i)) m[i] := by
  rw [List.take_succ_eq_append_getElem hi]; unfold gc; rw [List.foldl_append]; rfl
theorem U5 (t e : TypeId) (m : List Int) (i : Nat) (h : Try.prog.underlying t = some (.array m.length e)) (he : Try.prog.plainKey e = true) (hs : (Try.prog.info? e).map (·.size) = some 1) (hi : i < m.length) (w : World) :
    (Instr.index t (.agg (arr m)) (.int .i64 (i : Int))).run Try.prog w = .ok (.int .i64 (m.getD i 0)) w := by
  have hsz : (sizeOf e).run Try.prog w = .ok 1 w := by
    cases hq : Try.prog.info? e with
    | none => simp [hq] at hs
    | some j =>
      have : j.size = 1 := by simpa [hq] using hs
      simp [sizeOf, typeInfo, hq, this]
  have hp := run_part_plain (P := Try.prog) w he (xs := arr m) (off := i) (Uw m i hi); simp only [Instr.index, run_underlying h, asIntOf, hi, hsz, Sem.run_bind, Sem.run_pure, Result.andThen, Int.natCast_nonneg, Int.ofNat_lt, and_self, if_true, Int.toNat_natCast, Nat.mul_one]; exact hp
def zeros6 : List Int := List.replicate 6 0
theorem info76z : (Try.prog.info? 76).map (fun i => (i.zero, i.size)) = some (some (.agg (arr zeros6)), 6) := by kernel_rfl
theorem Yu {B : Nat} {w0 w : World} (h : Below B w0 w) {g : Nat} (hg : B ≤ g) (cs : Array Value) : Below B w0 (w.setRow g cs) :=
  ⟨h.os, h.tape, h.output, by simpa using h.size, fun i hi => (setRow_other w g i cs (by omega)).trans (h.block i hi)⟩
set_option maxHeartbeats 2000000 in
set_option maxRecDepth 100000 in
theorem Ug (m : List Int) (w : World) (hm : m.length = 6) (hl : ∀ x ∈ m, Lim x) :
    Calls Try.prog 118 #[.agg (arr m)] w fun e w' => e = .returned (.agg (arr (pln m))) ∧ Below w.heap.size w w' := by
  have mF := Try.underlying76; obtain ⟨yE, mG⟩ := zero_of_info info76z; have HI0 := aa.mk (show (Try.prog.info? 76).map (·.size) = some (arr m).size by rw [ZV, hm]; exact mG); have HML := aa.mk hm; have HL := aa.mk hl; have HIX := aa.mk (fun (n : Nat) (hn : n < 6) (W : World) => U5 76 3 m n (by rw [hm]; exact Try.underlying76) (by kernel_rfl) (by kernel_rfl) (by omega) W); clear hm hl; have HB := aa.mk (Below.refl w.heap.size w); go_enter Try.func118, Try.ntmps118; go_wp2_with (first
    | ((with_reducible refine QN (N := 1) rfl ?_); refine Q3 ?hg (N := 1) ?hd (cs := arr m) (t := 76) ?hr ?_; (case hd => rfl); (case hg => rfl); (case hr => first | (go_simp; done) | (go_simp; rfl)); intro gb hgb w7 hbox hb; have HGB := aa.mk (show w.heap.size ≤ gb by omega); have BK := aa.mk hbox; have n0_ := aa.mk (Qa HB.out hb); have HB7 := aa.mk hb; clear HB; have HB := n0_; clear n0_ hgb hbox hb)
    | (refine wpList_load_row rfl 76 _ rfl gb rfl 76 (arr m) (0, 0) _ (Qw BK.out _) Try.underlying76 rfl HI0.out ?_))
  have HG2 := aa.mk (heap_alloc_last w7 (.cells (arr zeros6) 76)); have BK2 := aa.mk (Qw BK.out (.cells (arr zeros6) 76)); have HNE := aa.mk (show gb ≠ w7.heap.size from fun e => by have := VG BK.out; omega); have HB2 := aa.mk (show Below w.heap.size w (w7.alloc (.cells (arr zeros6) 76)) from HB.out.alloc HB7.out.size _); have wK := aa.mk (show w.heap.size ≤ w7.heap.size from HB7.out.size); clear HB BK; generalize w7.heap.size = g2 at *; go_loopw [3, 8] (fun d_ i_ w' => ∃ i : Nat, i ≤ 6 ∧ i_ = .int .i64 i ∧ d_ = .int .i64 (gc (m.take i) : Int) ∧ aa (w'.heap[gb]? = some (.cells (arr m) 76 (0, 0))) ∧ aa (w'.heap[g2]? = some (.cells (arr zeros6) 76 (0, 0))) ∧ aa (Below w.heap.size w w')) (fun _ i_ _ => 6 - (intOf i_).toNat)
  case atStart => exact ⟨0, by omega, rfl, rfl, BK2, HG2, HB2⟩
  case round =>
    clear BK2 HG2 HB2; obtain ⟨i, hi, rfl, rfl, BK, HG2, HB⟩ := hrel; by_cases hlt : i < 6
    · have hix := HIX.out i hlt; have him : i < m.length := by rw [HML.out]; exact hlt
      have hgd : m.getD i 0 = m[i] := by rw [List.getD_eq_getElem?_getD, List.getElem?_eq_getElem him]; rfl
      rw [hgd] at hix; have HGT := aa.mk (gc_take m i him); have HDV := aa.mk (fun W => Vy (gc (m.take i) : Int) m[i] (JH (m.take i) 0 lim0 (fun x hx => HL.out x (List.mem_of_mem_take hx))) (HL.out _ (List.getElem_mem him)) W); clear hgd; generalize m[i] = x at *; go_wp2_with (first
        | ((with_reducible refine Qh (f := 117) rfl ?_); refine QG (some 13) rfl rfl Try.func117 (by kernel_rfl) rfl #[.int .i64 (gc (m.take i) : Int), .int .i64 x] rfl (by (try simp only [List.map_toArray, List.map_cons, List.map_nil]); first | done | rfl) ?_; (with_reducible refine (HDV.out _).mono ?_); rintro e w9 ⟨rfl, hb⟩; refine ⟨_, rfl, ?_⟩; have n0_ := aa.mk (Qa (by repeat (first | (with_reducible first | exact HB.out | apply Q0 | apply QI | apply QR) | exact HB.out)) hb); have n1_ := aa.mk (Qp BK.out hb); have n2_ := aa.mk (Qp HG2.out hb); clear HB BK HG2; have HB := n0_; have BK := n1_; have HG2 := n2_; clear n0_ n1_ n2_ hb))
      go_roundw
      case rel => exact ⟨i + 1, by omega, by go_num, by rw [HGT.out], BK, HG2, HB⟩
      case measure => simp [intOf]; omega
    · obtain rfl : i = 6 := by omega
      have he : gc (m.take 6) = gc m := by rw [List.take_of_length_le (by rw [HML.out]; exact Nat.le_refl _)]
      rw [he]; have hgl := JH m 0 lim0 HL.out; obtain ⟨d, hd⟩ : ∃ d, d = gc m := ⟨_, rfl⟩; have HD := aa.mk hd; have Bw : d ≤ 4611686018427387904 := by rw [hd]; exact hgl
      rw [← hd]; clear he hgl hd HIX; by_cases h1 : 1 < d
      · have c1 : decide ((1 : Int) < (d : Int)) = true := decide_eq_true (by omega); go_wp2_with fail
        go_loopw [17] (fun i_ w' => ∃ (i : Nat) (q : List Int), i ≤ 6 ∧ i_ = .int .i64 i ∧ aa (q = (m.take i).map (·.tdiv d) ++ m.drop i) ∧ aa (w'.heap[gb]? = some (.cells (arr q) 76 (0, 0))) ∧ aa (w'.heap[g2]? = some (.cells (arr zeros6) 76 (0, 0))) ∧ aa (Below w.heap.size w w')) (fun i_ _ => 6 - (intOf i_).toNat)
        case atStart => exact ⟨0, m, by omega, rfl, ⟨by simp⟩, BK, HG2, HB⟩
        case round =>
          clear BK HG2 HB; obtain ⟨i, q, hi, rfl, HQ, BK, HG2, HB⟩ := hrel; have hql : q.length = 6 := by rw [HQ.out]; simp [HML.out]; omega
          by_cases hlt : i < 6
          · have him : i < m.length := by rw [HML.out]; exact hlt
            have hqi : q.getD i 0 = m[i] := by
              rw [HQ.out, List.getD_eq_getElem?_getD, List.getElem?_append_right (by simp; omega), List.length_map, List.length_take, Nat.min_eq_left (by omega), Nat.sub_self, List.getElem?_drop, Nat.add_zero, List.getElem?_eq_getElem him]; rfl
            have hset : q.set i (m[i].tdiv d) = (m.take (i + 1)).map (·.tdiv d) ++ m.drop (i + 1) := by
              rw [HQ.out, List.set_append_right _ _ (by simp; omega), List.length_map, List.length_take, Nat.min_eq_left (by omega), Nat.sub_self, List.drop_eq_getElem_cons him, List.set_cons_zero, List.take_succ_eq_append_getElem him, List.map_append, List.append_assoc]; rfl
            have HSET := aa.mk hset; have hc := YG BK.out i (by omega); rw [hqi] at hc; have hf := VH BK.out i; have hx := HL.out _ (List.getElem_mem him); generalize m[i] = x at *; unfold Lim at hx; have hdv : (Int.tdiv x d).natAbs ≤ x.natAbs := by rw [Int.natAbs_tdiv]; exact Nat.div_le_self _ _
            have hwr : wrap64 (Int.tdiv x d) = Int.tdiv x d := wrp (by omega) (by omega); have hd0 : ((d : Int) == 0) = false := beq_eq_false_iff_ne.mpr (by omega); have hd1 : ¬ (d : Int) = 0 := by omega
            have HWR := aa.mk hwr; clear hqi hset hdv; go_wp2_with fail
            go_roundw
            case rel => exact ⟨i + 1, q.set i (Int.tdiv x d), by omega, by go_num, HSET, ⟨V6 BK.out i _⟩, ⟨(heap_setCell_other _ _ _ _ (fun e => HNE.out e.symm)).trans HG2.out⟩, ⟨HB.out.setCell HGB.out _⟩⟩
            case measure => simp [intOf]; omega
          · obtain rfl : i = 6 := by omega
            have hq : q = pln m := by
              rw [HQ.out, List.take_of_length_le (by rw [HML.out]; exact Nat.le_refl _), List.drop_eq_nil_of_le (by rw [HML.out]; exact Nat.le_refl _), List.append_nil]; unfold pln; rw [← HD.out, if_pos h1]
            have HQL := aa.mk hql; have HQP := aa.mk hq; have HIQ := aa.mk (show (Try.prog.info? 76).map (·.size) = some (arr q).size by rw [ZV, hql]; exact mG); clear hq hql; go_wp2_with (first
              | (refine wpList_load_row rfl 76 _ rfl gb rfl 76 (arr q) (0, 0) _ BK.out Try.underlying76 rfl HIQ.out ?_)
              | (refine wpList_store_row rfl 76 _ _ rfl g2 (arr q) rfl rfl 76 (arr zeros6) HG2.out HIQ.out (by rw [ZV, ZV, HQL.out]; rfl) (YZ q) ?_))
            refine bodyPost_ret (results_cell_row rfl _ _ g2 76 (arr q) (0, 0) _ rfl (setRow_heap _ _ _ _ _ _ HG2.out) Try.underlying76 rfl HIQ.out) rfl ?_; exact ⟨by rw [HQP.out], Yu HB.out wK.out _⟩
      · have c1 : decide ((1 : Int) < (d : Int)) = false := decide_eq_false (by omega); have HQP := aa.mk (show m = pln m by unfold pln; rw [← HD.out, if_neg h1]); go_wp2_with (first
          | (refine wpList_load_row rfl 76 _ rfl gb rfl 76 (arr m) (0, 0) _ BK.out Try.underlying76 rfl HI0.out ?_)
          | (refine wpList_store_row rfl 76 _ _ rfl g2 (arr m) rfl rfl 76 (arr zeros6) HG2.out HI0.out (by rw [ZV, ZV, HML.out]; rfl) (YZ m) ?_))
        refine bodyPost_ret (results_cell_row rfl _ _ g2 76 (arr m) (0, 0) _ rfl (setRow_heap _ _ _ _ _ _ HG2.out) Try.underlying76 rfl HI0.out) rfl ?_; exact ⟨by rw [← HQP.out], Yu HB.out wK.out _⟩
theorem Jl {op : Oper} {a : Act} {w : World} (x : Operand) (ho : op.op = .load 76 x) (b o : Nat) (hx : a.eval x = .pointer (some ⟨b, o, none⟩)) {r : List Int} (hr : r.length = 6) (hc : w.rangeAt b o (r.map (Value.int .i64))) : (execOp a.eval op).run Try.prog w = .ok (.value (.agg (arr r))) w := by
 unfold execOp; simp only [ho, hx, Instr.loadAt, Instr.sureAddr, Sem.run_bind, Sem.run_pure, Result.andThen_ok, run_loadVar_mid w b o 76 _ _ hc Try.underlying76 rfl (by rw [List.length_map, hr]; exact size76)]; rfl
theorem UC {op : Oper} {a : Act} {w : World} (x y : Operand) (ho : op.op = .store 76 x y) (b o : Nat) (hx : a.eval x = .pointer (some ⟨b, o, none⟩)) {r : List Int} (hy : a.eval y = .agg (arr r)) (hr : r.length = 6) (ht : w.there b o 6) : (execOp a.eval op).run Try.prog w = .ok .skip (w.setCells b o (r.map (Value.int .i64))) := by
 unfold execOp; simp only [ho, hx, hy, Instr.storeAt, Instr.sureAddr, Sem.run_bind, Sem.run_pure, Result.andThen_ok, run_storeVar_mid w b o 76 (arr r) (by rw [ZV, hr]; exact ht) (by rw [ZV, hr]; exact size76) (YZ r)]; rfl
def exch.T0 : Bool × List (List Nat × List Nat) := (true, [([], []), ([], []), ([], []), ([], []), ([], []), ([], []), ([4, 5], [4, 5]), ([6], [6]), ([], []), ([], []), ([8, 9], [8, 9]), ([10], [10]), ([0, 1, 0, 1, 4, 5, 6, 7, 11], [0, 1]), ([12, 7, 0, 1, 4, 5, 6, 7, 11], [7, 12]), ([2, 3, 0, 1, 2, 3, 4, 5, 6, 7, 8, 9, 10, 11, 12, 13], [2, 3]), ([14, 11, 13, 0, 1, 2, 3, 4, 5, 6, 7, 8, 9, 10, 11, 12, 13], [11, 14])])
def exch.B0 : List Nat := [0, 0, 0, 0, 0, 0, 48, 112, 0, 0, 768, 1792, 4083, 8179, 16383, 32767]
theorem exch.tab0 : rtab .any (opsOf Try.f128 0) = exch.T0 := by kernel_rfl
theorem exch.bits0 : waitsOk exch.T0.2 exch.B0 = true := by kernel_rfl
set_option maxHeartbeats 2000000 in
set_option maxRecDepth 100000 in
theorem exch_calls (g n c a b : Nat) (M : List (List Int)) (w : World) (hM : Bl w g M c) (hn : n = M.length) (ha : a < M.length) (hb : b < M.length) (hc : n ≤ c) :
  Calls Try.prog 128 #[.slice (some ⟨g, 0, none⟩) n c, .int .i64 (a : Int), .int .i64 (b : Int)] w fun e w' => e = .returned (.tuple #[]) ∧ w' = (w.drew.setCells g (a * 6) (M[b].map (Value.int .i64))).setCells g (b * 6) (M[a].map (Value.int .i64)) := by
 have mF := Try.underlying76; have pd := Try.underlying65; have mG := size76; have HM := aa.mk hM.drew; have HA6 := aa.mk (hM.1.at ha); have HB6 := aa.mk (hM.1.at hb); have HM1 := aa.mk (hM.drew.stores ha (hM.1.at hb)); have hb1 : b < (M.set a M[b]).length := by simpa using hb
 have q1 : (a : Int) < (n : Int) := by omega
 have q2 : (b : Int) < (n : Int) := by omega
 clear hM hn; go_enter Try.func128, Try.ntmps128; go_wp2_with fail
 refine Yw (n := 16) (S := fun w' => w'.rangeAt g (b * 6) (M[b].map (Value.int .i64)) ∧ w'.rangeAt g (a * 6) (M[a].map (Value.int .i64))) (ds := [13, 15]) #[false, false, false, false, false, false, false, false, false, false, false, false, false, false, false, false] (by kernel_rfl) rfl rfl ⟨(HM.out.range hb), (HM.out.range ha)⟩ (fun hHeld => ?_); refine ZZ exch.tab0 exch.bits0 (fun HT_ HW_ => ?_); refine QX (i := 0) (N := some 6) (v := ?_) (a' := ?_) #[true, false, false, false, false, false, false, false, false, false, false, false, false, false, false, false] rfl rfl (QL HT_.out (by kernel_rfl)) (fun _ _ _ h => h) (Or.inl ⟨by rfl, ?_⟩) ?_ ?_; rotate_left
 ·intro w'; go_simp; with_reducible rfl
 rotate_left
 ·simp only [Act.put, zA, zB, zC, QC, QD]; rfl
 refine QX (i := 1) (N := some 7) (v := ?_) (a' := ?_) #[true, true, false, false, false, false, false, false, false, false, false, false, false, false, false, false] rfl rfl (QL HT_.out (by kernel_rfl)) (fun _ _ _ h => h) (Or.inl ⟨by rfl, ?_⟩) ?_ ?_; rotate_left
 ·intro w'; go_simp; with_reducible rfl
 rotate_left
 ·simp only [Act.put, zA, zB, zC, QC, QD]; rfl
 refine QX (i := 2) (N := some 8) (v := ?_) (a' := ?_) #[true, true, true, false, false, false, false, false, false, false, false, false, false, false, false, false] rfl rfl (QL HT_.out (by kernel_rfl)) (fun _ _ _ h => h) (Or.inl ⟨by rfl, ?_⟩) ?_ ?_; rotate_left
 ·intro w'; go_simp; with_reducible rfl
 rotate_left
 ·simp only [Act.put, zA, zB, zC, QC, QD]; rfl
 refine QX (i := 3) (N := some 9) (v := ?_) (a' := ?_) #[true, true, true, true, false, false, false, false, false, false, false, false, false, false, false, false] rfl rfl (QL HT_.out (by kernel_rfl)) (fun _ _ _ h => h) (Or.inl ⟨by rfl, ?_⟩) ?_ ?_; rotate_left
 ·intro w'; go_simp; with_reducible rfl
 rotate_left
 ·simp only [Act.put, zA, zB, zC, QC, QD]; rfl
 refine QX (i := 4) (N := some 10) (v := ?_) (a' := ?_) #[true, true, true, true, true, false, false, false, false, false, false, false, false, false, false, false] rfl rfl (QL HT_.out (by kernel_rfl)) (fun _ _ _ h => h) (Or.inl ⟨by rfl, ?_⟩) ?_ ?_; rotate_left
 ·intro w'; go_simp; with_reducible rfl
 rotate_left
 ·simp only [Act.put, zA, zB, zC, QC, QD]; rfl
 refine QX (i := 5) (N := some 11) (v := ?_) (a' := ?_) #[true, true, true, true, true, true, false, false, false, false, false, false, false, false, false, false] rfl rfl (QL HT_.out (by kernel_rfl)) (fun _ _ _ h => h) (Or.inl ⟨by rfl, ?_⟩) ?_ ?_; rotate_left
 ·intro w'; go_simp; with_reducible rfl
 rotate_left
 ·simp only [Act.put, zA, zB, zC, QC, QD]; rfl
 refine QX (i := 6) (N := some 12) (v := ?_) (a' := ?_) #[true, true, true, true, true, true, true, false, false, false, false, false, false, false, false, false] rfl rfl (QL HT_.out (by kernel_rfl)) (fun _ _ _ h => h) (Or.inl ⟨by rfl, ?_⟩) ?_ ?_; rotate_left
 ·intro w'; go_simp; with_reducible rfl
 rotate_left
 ·simp only [Act.put, zA, zB, zC, QC, QD]; rfl
 refine QX (i := 8) (N := some 14) (v := ?_) (a' := ?_) #[true, true, true, true, true, true, true, false, true, false, false, false, false, false, false, false] rfl rfl (QL HT_.out (by kernel_rfl)) (fun _ _ _ h => h) (Or.inl ⟨by rfl, ?_⟩) ?_ ?_; rotate_left
 ·intro w'; go_simp; with_reducible rfl
 rotate_left
 ·simp only [Act.put, zA, zB, zC, QC, QD]; rfl
 refine QX (i := 9) (N := some 15) (v := ?_) (a' := ?_) #[true, true, true, true, true, true, true, false, true, true, false, false, false, false, false, false] rfl rfl (QL HT_.out (by kernel_rfl)) (fun _ _ _ h => h) (Or.inl ⟨by rfl, ?_⟩) ?_ ?_; rotate_left
 ·intro w'; go_simp; with_reducible rfl
 rotate_left
 ·simp only [Act.put, zA, zB, zC, QC, QD]; rfl
 refine QX (i := 10) (N := some 16) (v := ?_) (a' := ?_) #[true, true, true, true, true, true, true, false, true, true, true, false, false, false, false, false] rfl rfl (QL HT_.out (by kernel_rfl)) (fun _ _ _ h => h) (Or.inl ⟨by rfl, ?_⟩) ?_ ?_; rotate_left
 ·intro w'; go_simp; with_reducible rfl
 rotate_left
 ·simp only [Act.put, zA, zB, zC, QC, QD]; rfl
 refine ZY (i := 7) (N := some 13) (v := ?_) (a' := ?_) #[true, true, true, true, true, true, true, true, true, true, true, false, false, false, false, false] rfl rfl (Zq HT_.out HW_.out (by kernel_rfl)) (fun _ _ _ h => h) (Or.inl ⟨by rfl, ?_⟩) hHeld ?_ ?_; rotate_left
 ·rintro w' ⟨s0, s1⟩; refine Eq.trans (Jl (.tmp 12) (by rfl) g (b * 6) (by rfl) HB6.out s0) ?_; with_reducible rfl
 rotate_left
 ·simp only [Act.put, zA, zB, zC, QC, QD]; rfl
 refine ZY (i := 11) (N := some 17) (v := ?_) (a' := ?_) #[true, true, true, true, true, true, true, true, true, true, true, true, false, false, false, false] rfl rfl (Zq HT_.out HW_.out (by kernel_rfl)) (fun _ _ _ h => h) (Or.inl ⟨by rfl, ?_⟩) hHeld ?_ ?_; rotate_left
 ·rintro w' ⟨s0, s1⟩; refine Eq.trans (Jl (.tmp 16) (by rfl) g (a * 6) (by rfl) HA6.out s1) ?_; with_reducible rfl
 rotate_left
 ·simp only [Act.put, zA, zB, zC, QC, QD]; rfl
 refine QX (i := 12) (N := some 18) (v := ?_) (a' := ?_) #[true, true, true, true, true, true, true, true, true, true, true, true, true, false, false, false] rfl rfl (QL HT_.out (by kernel_rfl)) (fun _ _ _ h => h) (Or.inl ⟨by rfl, ?_⟩) ?_ ?_; rotate_left
 ·intro w'; go_simp; with_reducible rfl
 rotate_left
 ·simp only [Act.put, zA, zB, zC, QC, QD]; rfl
 refine last_ (i := 13) (N := none) #[true, true, true, true, true, true, true, true, true, true, true, true, true, true, false, false] rfl rfl (ZW HT_.out (by kernel_rfl)) (by decide) (fun K hK => ?_); refine skip_ (w1 := ?_) (by rfl) rfl ?_ ?_; rotate_left
 ·refine Eq.trans (UC (.tmp 18) (.tmp 13) (by rfl) g (a * 6) (by rfl) (by rfl) HB6.out (HM.out.there ha)) ?_; with_reducible rfl
 refine hK.out _ _ ?_; clear hK K; refine QX (i := 14) (N := some 19) (v := ?_) (a' := ?_) #[true, true, true, true, true, true, true, true, true, true, true, true, true, true, true, false] rfl rfl (QL HT_.out (by kernel_rfl)) (fun _ _ _ h => h) (Or.inl ⟨by rfl, ?_⟩) ?_ ?_; rotate_left
 ·intro w'; go_simp; with_reducible rfl
 rotate_left
 ·simp only [Act.put, zA, zB, zC, QC, QD]; rfl
 refine last_ (i := 15) (N := none) #[true, true, true, true, true, true, true, true, true, true, true, true, true, true, true, true] rfl rfl (ZW HT_.out (by kernel_rfl)) (by decide) (fun K hK => ?_); refine skip_ (w1 := ?_) (by rfl) rfl ?_ ?_; rotate_left
 ·refine Eq.trans (UC (.tmp 19) (.tmp 17) (by rfl) g (b * 6) (by rfl) (by rfl) HA6.out (HM1.out.there hb1)) ?_; with_reducible rfl
 refine hK.out _ _ ?_; clear hK K; refine YN (Yo HT_.out (by kernel_rfl)) ?_; first | go_end0 | ((try simp only [Exit.inBlock, Exit.then]); refine bodyPost_ret (results_none rfl _ _ _) rfl ?_)
 exact ⟨rfl, rfl⟩
def Yl.f (l0 : List S76) : Option (List S76) := if l0.length < 1000 then some l0 else none
set_option maxHeartbeats 1000000 in
set_option maxRecDepth 100000 in
theorem Yl.calls (A0 : Option Addr) (c0 : Nat) (l0 : List S76) (r : List S76) (w : World) (hr0 : Kd.C k76 w A0 l0.length l0) (hc0 : l0.length ≤ c0) (h : Yl.f l0 = some r) :
    Calls Try.prog 108 #[.slice A0 l0.length c0] w fun e w' => ∃ v0_ : Value, e = .returned (v0_) ∧ Kd.R k76 76 w' w.heap.size (fun _ => True) v0_ r ∧ Below w.heap.size w w' := by
  unfold Yl.f at h; by_cases hl : l0.length < 1000
  case neg => rw [if_neg hl] at h; cases h
  rw [if_pos hl] at h; obtain rfl := Option.some.inj h; clear h; have HB := aa.mk (Below.refl w.heap.size w); have mF := Try.underlying76; cases A0 with
  | none =>
    obtain rfl : l0 = [] := by
      cases l0 with
      | nil => rfl
      | cons x r => obtain ⟨ad, e, _⟩ := hr0.2.2 (by simp); cases e
    have hnil : ∀ W, (binOp .eql 65 (.slice none 0 c0) (.slice none 0 0)).run Try.prog W = .ok (.bool true) W := fun W => Lib.run_eql_slice_nil W _ _ none 0 c0 0 0 Try.underlying65
    clear hr0 hc0; go_enter Try.func108, Try.ntmps108; go_wp2_with fail
    go_ret; exact ⟨_, rfl, Kd.Yr _ _ _ _ _, HB.out⟩
  | some ad =>
    have hnil : ∀ W, (binOp .eql 65 (.slice (some ad) l0.length c0) (.slice none 0 0)).run Try.prog W = .ok (.bool false) W := fun W => Lib.run_eql_slice_nil W _ _ (some ad) _ c0 0 0 Try.underlying65
    have HR0 := aa.mk hr0; have eG := aa.mk (show ([] : List S76) = ([] : List S76) from rfl); obtain ⟨dz, cC⟩ : ∃ y_ : List S76, y_ = (([] : List S76)) := ⟨_, rfl⟩; obtain ⟨ku, cK⟩ : ∃ y_ : List S76, y_ = (dz ++ l0) := ⟨_, rfl⟩; have HY := aa.mk (show ku = l0 by rw [cK, cC]; rfl); have qg := aa.mk (show dz.length + l0.length < 1000 by rw [cC]; simpa using hl); clear eG; have eG := aa.mk cC; have iZ := aa.mk cK; clear hr0 hc0 hl cC cK; go_enter Try.func108, Try.ntmps108; go_wp2_with (first | ((with_reducible refine QN (N := 5) rfl ?_); refine Kd.YU k76 _ 76 ?hg (N := 5) ?hd (xs := ([] : List S76)) (inner := []) (ok := fun _ => True) (okp := fun _ => True) ?hr ?hp (fun _ hk => hk) trivial (Below.refl _ _) (Nat.le_refl _) (by simp) ?_; (case hd => rfl); (case hg => rfl); (case hr => first | (go_simp; done) | (go_simp; rfl)); (case hp => exact (Reps.none _ _)); intro il w3 ho4 hb hg_ hnew_; clear hg_ hnew_; (first | rw [← eG.out] at ho4 | (simp only [Int.reduceToNat] at ho4; rw [← eG.out] at ho4)); have a8 := aa.mk (Kd.Zh ho4 (Qb (by repeat (first | (with_reducible first | exact HB.out | apply Q0 | apply QI | apply QR) | exact HB.out)))); replace HB := aa.mk (Qa (by repeat (first | (with_reducible first | exact HB.out | apply Q0 | apply QI | apply QR) | exact HB.out)) hb); clear hb ho4) | ((with_reducible refine Zs (b := .append) (xs := #[.tmp 5, .tmp 6]) rfl ?_); at_builtin; refine Kd.Yz k76 (Rr := k76.K w) (w0 := w) w.heap.size rfl (.tmp 5) (.tmp 6) 65 76 (.agg #[(.int .i64 0), (.int .i64 0), (.int .i64 0), (.int .i64 0), (.int .i64 0), (.int .i64 0)]) 48 rfl Try.underlying65 info76 rfl (by decide) (by omega) il dz l0 _ _ _ (fun _ => True) (fun _ => False) rfl rfl ?aO ?aR (fun x cs hK => by rw [UM hK]; exact Ur _ _ _ x) (fun _ h => h.elim) ?aF ?aB ?aS ?aL ?_; (case aR => exact ReadsRow.imp_ HR0.out HB.out (fun _ _ hp => hp)); (case aB => exact (by repeat (first | (with_reducible first | exact HB.out | apply Q0 | apply QI | apply QR) | exact HB.out))); (case aF => exact (fun _ _ => trivial)); (case aO => exact (by (with_reducible repeat (first | apply Kd.R_alloc | apply Kd.R_drewN | apply Kd.QO)); exact a8.out)); (case aS => exact (Qb (by repeat (first | (with_reducible first | exact HB.out | apply Q0 | apply QI | apply QR) | exact HB.out)))); (case aL => have := qg.out; omega); intro jP w5 ho hb hg hat; rw [← iZ.out] at ho; replace HB := aa.mk (hb); have bu := aa.mk (ho); clear a8; clear ho hb hg hat))
    go_ret; exact ⟨_, rfl, by rw [← HY.out]; exact bu.out, HB.out⟩
end Go.Proofs.Ytdneelgnmnpanaa.P
end
