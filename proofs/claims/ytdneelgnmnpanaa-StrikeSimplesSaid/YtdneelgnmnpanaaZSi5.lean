/- What the claim's last text wants, part 5: functions of the translation as Lean functions with their contracts, and plain theorems; no conditions beyond those that each theorem names. -/
import Derived.Test.YtdneelgnmnpanaaZSi4
set_option linter.unusedVariables false
set_option linter.unusedSimpArgs false
section
namespace Go.Proofs.Ytdneelgnmnpanaa.P
open Go.RowKit Go.Proofs.YtdneelgnmnpanaaW.PrintWords Go.Proofs.YtdneelgnmnpanaaW.PrintLast Go.Proofs.YtdneelgnmnpanaaW.PrintMore
attribute [local go_sem] max2_int min2_int max_two min_two max_three min_three max_four min_four
def ZJ.f (l0 : List Int) : Option (List Int) := (some (([] : List Int) : List Int)).bind fun dp => (if dp.length + l0.length < 17592186044416 then (some (dp ++ l0)) else (none))
set_option maxHeartbeats 8000000 in
set_option maxRecDepth 100000 in
theorem ZJ.calls (A0 : Option Addr) (n0 : Nat) (l0 : List Int) (r : List Int) (w : World) (hr0 : Kd.C (Kd.int .i64) w A0 l0.length l0) (hc0 : n0 ≤ l0.length) (h : ZJ.f l0 = some r) :
  Calls Try.prog 20 #[.slice A0 n0 l0.length] w fun e w' => ∃ v0_ : Value, e = .returned (v0_) ∧ Kd.R (Kd.int .i64) 3 w' w.heap.size (fun _ => True) v0_ r ∧ Below w.heap.size w w' := by
 have HR0 := aa.mk hr0; have HC0 := aa.mk hc0; clear hr0 hc0; have HB := aa.mk (Below.refl w.heap.size w); have H : ((some (([] : List Int) : List Int)).bind fun dp => (if dp.length + l0.length < 17592186044416 then (some (dp ++ l0)) else (none))) = some r := h; clear h; obtain ⟨dp, cw⟩ : ∃ y_ : List Int, y_ = (([] : List Int)) := ⟨_, rfl⟩; replace H : (if dp.length + l0.length < 17592186044416 then (some (dp ++ l0)) else (none)) = some r := by first | (rw [cw]; with_reducible exact H) | (have H2_ := (Option.bind_some _ _).symm.trans H; rw [cw]; with_reducible exact H2_) | (have H2_ := (Option.bind_some _ _).symm.trans H; with_reducible exact H2_) | with_reducible exact H | (rw [cw]; exact H) | exact H
 have ef := aa.mk cw; clear cw; by_cases c2 : dp.length + l0.length < 17592186044416
 ·rw [if_pos c2] at H; have po := aa.mk c2; clear c2; obtain ⟨jS, cF⟩ : ∃ y_ : List Int, y_ = (dp ++ l0) := ⟨_, rfl⟩; replace H : (some jS) = some r := by first | (rw [cF]; with_reducible exact H) | (have H2_ := (Option.bind_some _ _).symm.trans H; rw [cF]; with_reducible exact H2_) | (have H2_ := (Option.bind_some _ _).symm.trans H; with_reducible exact H2_) | with_reducible exact H | (rw [cF]; exact H) | exact H
  have iB := aa.mk cF; clear cF; obtain rfl := Option.some.inj H; go_enter Try.func20, Try.ntmps20; go_wp2_with (first | ((with_reducible refine QO (N := 3) rfl ?_); refine Kd.YS (Kd.int .i64) _ 3 ?hg (N := 3) ?hd (xs := ([] : List Int)) (inner := []) (ok := fun _ => True) (okp := fun _ => True) ?hr ?hp (fun _ hk => hk) trivial (Below.refl _ _) (Nat.le_refl _) (by simp) ?_; (case hd => rfl); (case hg => rfl); (case hr => first | (go_simp; done) | (go_simp; rfl)); (case hp => exact (Reps.none _ _)); intro hP w3 ho4 hb hg_ hnew_; clear hg_ hnew_; (first | rw [← ef.out] at ho4 | (simp only [Int.reduceToNat] at ho4; rw [← ef.out] at ho4)); have aX := aa.mk (Kd.Zg ho4 (Qc bB)); replace HB := aa.mk (Qa bB hb); clear hb ho4) | ((with_reducible refine Zr (b := .append) (xs := #[.tmp 3, .tmp 7]) rfl ?_); at_builtin; refine Kd.Yx (Kd.int .i64) (w0 := w) w.heap.size rfl (.tmp 3) (.tmp 7) 28 3 (.int .i64 0) 8 rfl Try.underlying28 info3 rfl (by decide) (by omega) hP dp l0 _ _ _ (fun _ => True) (fun _ => False) rfl rfl ?aO ?aR (fun _ _ h => h) (fun _ h => h.elim) ?aF ?aB ?aS ?aL ?_; (case aR => exact (Kd.Qo HR0.out HB.out)); (case aB => exact bB); (case aF => exact (fun _ _ => trivial)); (case aO => exact aX.out); (case aS => exact (Qc bB)); (case aL => have := po.out; omega); intro ie w5 ho hb hg hat; rw [← iB.out] at ho; replace HB := aa.mk (hb); have aY := aa.mk (ho); clear aX; clear ho hb hg hat))
  go_ret; exact ⟨_, by first | rfl | (simp [Qj, Qi] <;> rfl) | (simp [*, Qj, Qi] <;> rfl), by (with_reducible repeat (first | apply Kd.R_alloc | apply Kd.QI | apply Kd.QN)); exact aY.out, bB⟩
 ·rw [if_neg c2] at H; exact absurd H (by simp)
def QH.l0 : Nat → List (List Int) → List (List Int) → Int → Option ((List (List Int)))
 | 0, _, _, _ => none
 | k + 1, x0, x3, x4 => if x4 < (x0.length : Int) then (if 0 ≤ x4 then ((ZJ.f (Qu x0 x4)).bind fun t102 => (if x3.length < 5864062014805 then (QH.l0 k x0 (x3 ++ [t102]) (wrap64 (x4 + 1))) else (none))) else (none)) else (some x3)
def QH.f (k : Nat) (l0 : List (List Int)) : Option ((List (List Int))) := QH.l0 k l0 ([] : List (List Int)) 0
set_option maxHeartbeats 8000000 in
set_option maxRecDepth 100000 in
theorem QH.calls (k : Nat) (A0 : Option Addr) (n0 : Nat) (l0 : List (List Int)) (r : List (List Int)) (w : World) (hr0 : Kd.C Full.kd w A0 l0.length l0) (hc0 : n0 ≤ l0.length) (h : QH.f k l0 = some r) :
  Calls Try.prog 17 #[.slice A0 n0 l0.length] w fun e w' => ∃ v0_ : Value, e = .returned (v0_) ∧ Kd.S (Kd.slice 3 (Kd.int .i64)) 28 w' w.heap.size (fun _ => True) v0_ r ∧ Below w.heap.size w w' := by
 have HR0 := aa.mk hr0; have HC0 := aa.mk hc0; clear hr0 hc0; have HB := aa.mk (Below.refl w.heap.size w); have H : (QH.l0 k l0 ([] : List (List Int)) 0) = some r := h; clear h; have H' := aa.mk H; clear H; go_enter Try.func17, Try.ntmps17; go_wp2; go_loopg [3, 4] k (fun kq v3 v4 w' => ∃ (cm : List (List Int)) (aZ : Int), v4 = .int .i64 aZ ∧ aa (QH.l0 kq l0 cm aZ = some r) ∧ aa (kq ≤ k) ∧ aa (Kd.S (Kd.slice 3 (Kd.int .i64)) 28 w' w.heap.size (fun _ => True) v3 cm) ∧ aa (Below w.heap.size w w'))
 case atStart => exact ⟨(([] : List (List Int))), (0), (by first | rfl | (simp; done) | (simp [*]; done)), H', ⟨Nat.le_refl _⟩, ⟨by first | exact Kd.Ys _ _ _ _ _ | exact Kd.Yp _ _ _ _ _ | exact Kd.V_nil _ _ _ _ _ | exact Kd.Q_nil _ _ _ _ _ | exact Kd.Yg _ _ _ _ _⟩, ⟨bB⟩⟩
 case round =>
  clear H'; try clear c1
  obtain ⟨cm, aZ, rfl, HA, HK1, a9, HB⟩ := hrel; cases gk with
  | zero => exact absurd HA.out (by simp [QH.l0])
  | succ k1 =>
   have H := HA.out; clear HA; simp only [QH.l0] at H; by_cases c2 : aZ < (l0.length : Int)
   ·rw [if_pos c2] at H; have pc : decide (aZ < (l0.length : Int)) = true := decide_eq_true c2; clear c2; by_cases c3 : 0 ≤ aZ
    ·rw [if_pos c3] at H; have bH : decide (0 ≤ aZ) = true := decide_eq_true c3; clear c3; replace H := Option.bind_eq_some_iff.mp H; obtain ⟨t102, A40, H⟩ := H; replace H : (if cm.length < 5864062014805 then (QH.l0 k1 l0 (cm ++ [t102]) (wrap64 (aZ + 1))) else (none)) = some r := H; have A4 := aa.mk A40; clear A40; by_cases c5 : cm.length < 5864062014805
     ·rw [if_pos c5] at H; have tE := aa.mk c5; clear c5; obtain ⟨cL, cM⟩ : ∃ y_ : List (List Int), y_ = (cm ++ [t102]) := ⟨_, rfl⟩; replace H : (QH.l0 k1 l0 cL (wrap64 (aZ + 1))) = some r := by first | (rw [cM]; with_reducible exact H) | (have H2_ := (Option.bind_some _ _).symm.trans H; rw [cM]; with_reducible exact H2_) | (have H2_ := (Option.bind_some _ _).symm.trans H; with_reducible exact H2_) | with_reducible exact H | (rw [cM]; exact H) | exact H
      have gN := aa.mk cM; clear cM; have H' := aa.mk H; clear H; have bw : 0 ≤ (aZ : Int) := of_decide_eq_true (by assumption); have bu : aZ < (l0.length : Int) := of_decide_eq_true (by assumption); obtain ⟨cb, iY, iW, dJ, aK, cj, cl⟩ := Full.at_ HR0.out aZ bw bu; cases dJ; replace aK := (HB.out.cell (World.block_lt_of_cell? w _ aK)).trans aK; have cC := aa.mk cl; have dm := aa.mk cj; clear cl cj; replace bw := eq_true bw; replace bu := eq_true bu; go_wp2_with (first | ((with_reducible refine Qg (f := 20) rfl ?_); refine QG (some 20) rfl rfl Try.func20 (by kernel_rfl) rfl #[.slice iY iW (Qu l0 aZ).length] rfl hA ?_; (with_reducible refine (ZJ.calls _ _ (Qu l0 aZ) t102 _ ?ah ?ai A4.out).mono ?_); (case ah => exact (Kd.Qo cC.out HB.out)); (case ai => exact dm.out); rintro e w6 ⟨iI, rfl, ho0, hb⟩; refine ⟨_, rfl, ?_⟩; replace a9 := aa.mk (Kd.YR a9.out (Kd.QS ho0) hb); have a8 := aa.mk (Kd.Zg ho0 (Qc bB)); replace HB := aa.mk (Qa bB hb); (try clear hb); (try clear hb2); (try clear hk); (try clear hi); (try clear ho0); obtain ⟨Ao8, co8, eo8⟩ := Kd.Zc a8.out; subst eo8) | ((with_reducible refine Zr (b := .append) (xs := #[.tmp 15, .tmp 21]) rfl ?_); at_builtin; refine Kd.UW (Kd.slice 3 (Kd.int .i64)) (w0 := w) w.heap.size rfl (.tmp 15) (.tmp 21) 22 28 (.slice none 0 0) 24 rfl Try.underlying22 info28 rfl (by decide) (by omega) u3 cm t102 [.slice Ao8 t102.length co8] (fun _ => True) (fun k_ => some k_ = (.slice Ao8 t102.length co8 : Value).ownBlock) rfl rfl ?aP (fun k_ hk_ => ((Kd.Q8 (ok' := fun k_ => ((fun _ => True)) k_ ∧ some k_ ≠ (u3 : Value).ownBlock) (Kd.ZD (a8.out) (Kd.Vq a9.out) (by decide)) (fun k_ hk => ⟨trivial, hk.2⟩))).1 k_ hk_.symm) ?aF ?aO ?aB ?aS ?aL ?_; (case aP => exact Kd.M_row (Kd.Q8 (Kd.Ut rfl (Kd.Q8 (ok' := fun k_ => ((fun _ => True)) k_ ∧ some k_ ≠ (u3 : Value).ownBlock) (Kd.ZD (a8.out) (Kd.Vq a9.out) (by decide)) (fun k_ hk => ⟨trivial, hk.2⟩))) (fun _ h_ => h_))); (case aB => exact bB); (case aF => exact (fun _ _ => trivial)); (case aO => exact (by (with_reducible repeat (first | apply Kd.S_alloc | apply Kd.S_drewN | apply Kd.S_drew)); exact Kd.VE a9.out (fun k_ hk => ⟨trivial, fun e_ => hk.2 e_⟩))); (case aS => exact (Qc bB)); (case aL => have := tE.out; omega); intro hH w7 ho hb hg hat; rw [← gN.out] at ho; replace HB := aa.mk (hb); have bS := aa.mk (ho); clear a8 a9; clear ho hb hg hat))
      go_roundg k1
      case measure => have := HK1.out; omega
      case rel => exact ⟨(cL), (wrap64 (aZ + 1)), (by first | rfl | (simp; done) | (simp [*]; done)), H', ⟨by have := HK1.out; omega⟩, ⟨by (with_reducible repeat (first | apply Kd.S_alloc | apply Kd.S_drewN | apply Kd.S_drew)); exact bS.out⟩, ⟨bB⟩⟩
     ·rw [if_neg c5] at H; exact absurd H (by simp)
    ·rw [if_neg c3] at H; exact absurd H (by simp)
   ·rw [if_neg c2] at H; have pc : decide (aZ < (l0.length : Int)) = false := decide_eq_false c2; clear c2; obtain rfl := Option.some.inj H; go_wp2; go_ret; exact ⟨_, by first | rfl | (simp [Qj, Qi] <;> rfl) | (simp [*, Qj, Qi] <;> rfl), by (with_reducible repeat (first | apply Kd.S_alloc | apply Kd.S_drewN | apply Kd.S_drew)); exact a9.out, bB⟩
def QW.l0 : Nat → List Int → List Int → Int → Option (Bool)
 | 0, _, _, _ => none
 | k + 1, x0, x1, x5 => if x5 < (x1.length : Int) then (if 0 ≤ x5 then (if x5 < (x0.length : Int) then (if (rd x0 x5) = (rd x1 x5) then (QW.l0 k x0 x1 (wrap64 (x5 + 1))) else (some false)) else (none)) else (none)) else (some true)
def QW.f (k : Nat) (l0 : List Int) (l1 : List Int) : Option (Bool) := if (l0.length : Int) = (l1.length : Int) then (QW.l0 k l0 l1 0) else (some false)
set_option maxHeartbeats 8000000 in
set_option maxRecDepth 100000 in
theorem QW.calls (k : Nat) (A0 : Option Addr) (c0 : Nat) (l0 : List Int) (A1 : Option Addr) (n1 : Nat) (l1 : List Int) (r : Bool) (w : World) (hr0 : Kd.C (Kd.int .i64) w A0 l0.length l0) (hc0 : l0.length ≤ c0) (hr1 : Kd.C (Kd.int .i64) w A1 l1.length l1) (hc1 : n1 ≤ l1.length) (h : QW.f k l0 l1 = some r) :
  Calls Try.prog 22 #[.slice A0 l0.length c0, .slice A1 n1 l1.length] w fun e w' => e = .returned (.bool r) ∧ Drawn0 w w' := by
 have HR0 := aa.mk hr0; have HC0 := aa.mk hc0; clear hr0 hc0; have HR1 := aa.mk hr1; have HC1 := aa.mk hc1; clear hr1 hc1; have H : (if (l0.length : Int) = (l1.length : Int) then (QW.l0 k l0 l1 0) else (some false)) = some r := h; clear h; by_cases c3 : (l0.length : Int) = (l1.length : Int)
 ·rw [if_pos c3] at H; have bH : ((l0.length : Int) == (l1.length : Int)) = true := beq_iff_eq.mpr c3; have cx : ((l0.length : Int) != (l1.length : Int)) = false := bne_eq_false_iff_eq.mpr c3; have iV : (l0.length == l1.length) = true := by first | simpa using c3 | (simp at c3 ⊢; omega)
  clear c3; have H' := aa.mk H; clear H; go_enter Try.func22, Try.ntmps22; go_wp2; repeat (go_quiet (fail); try go_wp2)
  go_loopg [5] k (fun kq v5 w' => ∃ (ao : Int), v5 = .int .i64 ao ∧ aa (QW.l0 kq l0 l1 ao = some r) ∧ aa (kq ≤ k) ∧ Drawn0 w w')
  case atStart => exact ⟨(0), (by first | rfl | (simp; done) | (simp [*]; done)), H', ⟨Nat.le_refl _⟩, by repeat (first | exact Drawn0.refl _ | apply Drawn0.step)⟩
  case round =>
   clear H'; try clear c1
   try clear c2
   try clear p2
   try clear c3
   try clear bH
   try clear cx
   try clear iV
   obtain ⟨ao, rfl, HA, HK1, ⟨m1, rfl⟩⟩ := hrel; cases gk with
   | zero => exact absurd HA.out (by simp [QW.l0])
   | succ k1 =>
    have H := HA.out; clear HA; simp only [QW.l0] at H; by_cases c4 : ao < (l1.length : Int)
    ·rw [if_pos c4] at H; have bE : decide (ao < (l1.length : Int)) = true := decide_eq_true c4; clear c4; by_cases c5 : 0 ≤ ao
     ·rw [if_pos c5] at H; have dq : decide (0 ≤ ao) = true := decide_eq_true c5; clear c5; by_cases c6 : ao < (l0.length : Int)
      ·rw [if_pos c6] at H; have gX : decide (ao < (l0.length : Int)) = true := decide_eq_true c6; clear c6; by_cases c7 : (rd l0 ao) = (rd l1 ao)
       ·rw [if_pos c7] at H; have jm : ((rd l0 ao) == (rd l1 ao)) = true := beq_iff_eq.mpr c7; have tv : ((rd l0 ao) != (rd l1 ao)) = false := bne_eq_false_iff_eq.mpr c7; clear c7; have H' := aa.mk H; clear H; have bw : 0 ≤ (ao : Int) := of_decide_eq_true (by assumption); have bu : ao < (l0.length : Int) := of_decide_eq_true (by assumption); obtain ⟨cb, dJ, aK⟩ := Kd.Zh HR0.out ao bw bu; cases dJ; replace bw := eq_true bw; replace bu := eq_true bu; have bD : 0 ≤ (ao : Int) := of_decide_eq_true (by assumption); have bC : ao < (l1.length : Int) := of_decide_eq_true (by assumption); obtain ⟨bI, dP, aG⟩ := Kd.Zh HR1.out ao bD bC; cases dP; replace bD := eq_true bD; replace bC := eq_true bC; go_wp2; repeat (go_quiet (fail); try go_wp2)
        go_roundg k1
        case measure => have := HK1.out; omega
        case rel => exact ⟨(wrap64 (ao + 1)), (by first | rfl | (simp; done) | (simp [*]; done)), H', ⟨by have := HK1.out; omega⟩, by repeat (first | exact Drawn0.refl _ | apply Drawn0.step)⟩
       ·rw [if_neg c7] at H; have jm : ((rd l0 ao) == (rd l1 ao)) = false := beq_eq_false_iff_ne.mpr c7; have tv : ((rd l0 ao) != (rd l1 ao)) = true := bne_iff_ne.mpr c7; obtain rfl := Option.some.inj H; have bw : 0 ≤ (ao : Int) := of_decide_eq_true (by assumption); have bu : ao < (l0.length : Int) := of_decide_eq_true (by assumption); obtain ⟨cb, dJ, aK⟩ := Kd.Zh HR0.out ao bw bu; cases dJ; replace bw := eq_true bw; replace bu := eq_true bu; have bD : 0 ≤ (ao : Int) := of_decide_eq_true (by assumption); have bC : ao < (l1.length : Int) := of_decide_eq_true (by assumption); obtain ⟨bI, dP, aG⟩ := Kd.Zh HR1.out ao bD bC; cases dP; replace bD := eq_true bD; replace bC := eq_true bC; go_wp2; repeat (go_quiet (fail); try go_wp2)
        go_ret; exact ⟨by first | rfl | (simp; done) | (simp [*]; done), by repeat (first | exact Drawn0.refl _ | apply Drawn0.step)⟩
      ·rw [if_neg c6] at H; exact absurd H (by simp)
     ·rw [if_neg c5] at H; exact absurd H (by simp)
    ·rw [if_neg c4] at H; have bE : decide (ao < (l1.length : Int)) = false := decide_eq_false c4; clear c4; obtain rfl := Option.some.inj H; go_wp2; repeat (go_quiet (fail); try go_wp2)
     go_ret; exact ⟨by first | rfl | (simp; done) | (simp [*]; done), by repeat (first | exact Drawn0.refl _ | apply Drawn0.step)⟩
 ·rw [if_neg c3] at H; have bH : ((l0.length : Int) == (l1.length : Int)) = false := beq_eq_false_iff_ne.mpr c3; have cx : ((l0.length : Int) != (l1.length : Int)) = true := bne_iff_ne.mpr c3; have iV : (l0.length == l1.length) = false := by first | simpa using c3 | (simp at c3 ⊢; omega)
  obtain rfl := Option.some.inj H; go_enter Try.func22, Try.ntmps22; go_wp2; repeat (go_quiet (fail); try go_wp2)
  go_ret; exact ⟨by first | rfl | (simp; done) | (simp [*]; done), by repeat (first | exact Drawn0.refl _ | apply Drawn0.step)⟩
def Qx.l0 : Nat → List (List Int) → List (List Int) → Int → Option (Bool)
 | 0, _, _, _ => none
 | k + 1, x0, x1, x5 => if x5 < (x1.length : Int) then (if 0 ≤ x5 then (if x5 < (x0.length : Int) then ((QW.f k (Qu x0 x5) (Qu x1 x5)).bind fun t103 => (if t103 = true then (Qx.l0 k x0 x1 (wrap64 (x5 + 1))) else (some false))) else (none)) else (none)) else (some true)
def Qx.f (k : Nat) (l0 : List (List Int)) (l1 : List (List Int)) : Option (Bool) := if (l0.length : Int) = (l1.length : Int) then (Qx.l0 k l0 l1 0) else (some false)
set_option maxHeartbeats 8000000 in
set_option maxRecDepth 100000 in
theorem Qx.calls (k : Nat) (A0 : Option Addr) (c0 : Nat) (l0 : List (List Int)) (A1 : Option Addr) (n1 : Nat) (l1 : List (List Int)) (r : Bool) (w : World) (hr0 : Kd.C (Kd.slice 3 (Kd.int .i64)) w A0 l0.length l0) (hc0 : l0.length ≤ c0) (hr1 : Kd.C Full.kd w A1 l1.length l1) (hc1 : n1 ≤ l1.length) (h : Qx.f k l0 l1 = some r) :
  Calls Try.prog 19 #[.slice A0 l0.length c0, .slice A1 n1 l1.length] w fun e w' => e = .returned (.bool r) ∧ Drawn0 w w' := by
 have HR0 := aa.mk hr0; have HC0 := aa.mk hc0; clear hr0 hc0; have HR1 := aa.mk hr1; have HC1 := aa.mk hc1; clear hr1 hc1; have H : (if (l0.length : Int) = (l1.length : Int) then (Qx.l0 k l0 l1 0) else (some false)) = some r := h; clear h; by_cases c3 : (l0.length : Int) = (l1.length : Int)
 ·rw [if_pos c3] at H; have bH : ((l0.length : Int) == (l1.length : Int)) = true := beq_iff_eq.mpr c3; have cx : ((l0.length : Int) != (l1.length : Int)) = false := bne_eq_false_iff_eq.mpr c3; have iV : (l0.length == l1.length) = true := by first | simpa using c3 | (simp at c3 ⊢; omega)
  clear c3; have H' := aa.mk H; clear H; go_enter Try.func19, Try.ntmps19; go_wp2; repeat (go_quiet (fail); try go_wp2)
  go_loopg [5] k (fun kq v5 w' => ∃ (ao : Int), v5 = .int .i64 ao ∧ aa (Qx.l0 kq l0 l1 ao = some r) ∧ aa (kq ≤ k) ∧ Drawn0 w w')
  case atStart => exact ⟨(0), (by first | rfl | (simp; done) | (simp [*]; done)), H', ⟨Nat.le_refl _⟩, by repeat (first | exact Drawn0.refl _ | apply Drawn0.step)⟩
  case round =>
   clear H'; try clear c1
   try clear p2
   try clear c3
   try clear bH
   try clear cx
   try clear iV
   obtain ⟨ao, rfl, HA, HK1, ⟨m1, rfl⟩⟩ := hrel; cases gk with
   | zero => exact absurd HA.out (by simp [Qx.l0])
   | succ k1 =>
    have H := HA.out; clear HA; simp only [Qx.l0] at H; by_cases c4 : ao < (l1.length : Int)
    ·rw [if_pos c4] at H; have bE : decide (ao < (l1.length : Int)) = true := decide_eq_true c4; clear c4; by_cases c5 : 0 ≤ ao
     ·rw [if_pos c5] at H; have dq : decide (0 ≤ ao) = true := decide_eq_true c5; clear c5; by_cases c6 : ao < (l0.length : Int)
      ·rw [if_pos c6] at H; have gX : decide (ao < (l0.length : Int)) = true := decide_eq_true c6; clear c6; replace H := Option.bind_eq_some_iff.mp H; obtain ⟨t103, A70, H⟩ := H; replace H : (if t103 = true then (Qx.l0 k1 l0 l1 (wrap64 (ao + 1))) else (some false)) = some r := H; have A7 := aa.mk A70; clear A70; by_cases c8 : t103 = true
       ·subst c8; have H1 : (Qx.l0 k1 l0 l1 (wrap64 (ao + 1))) = some r := by rw [if_pos rfl] at H; exact H
        clear H; have H := H1; clear H1; have H' := aa.mk H; clear H; have bw : 0 ≤ (ao : Int) := of_decide_eq_true (by assumption); have bu : ao < (l0.length : Int) := of_decide_eq_true (by assumption); obtain ⟨cb, iY, iW, dJ, aK, cj, cl⟩ := ZO HR0.out ao bw bu; cases dJ; have cC := aa.mk cl; have dm := aa.mk cj; clear cl cj; replace bw := eq_true bw; replace bu := eq_true bu; have bD : 0 ≤ (ao : Int) := of_decide_eq_true (by assumption); have bC : ao < (l1.length : Int) := of_decide_eq_true (by assumption); obtain ⟨bI, eu, et, dP, aG, ch, ck⟩ := Full.at_ HR1.out ao bD bC; cases dP; have dj := aa.mk ck; have dL := aa.mk ch; clear ck ch; replace bD := eq_true bD; replace bC := eq_true bC; go_wp2_with (first | (go_at_call 22; (with_reducible refine (QW.calls k1 _ _ (Qu l0 ao) _ _ (Qu l1 ao) true _ ?ah ?ai ?aq ?ar A7.out).mono ?_); (case ah => exact cC.out); (case ai => exact dm.out); (case aq => exact dj.out); (case ar => exact dL.out); rintro e w' ⟨rfl, ⟨nd, rfl⟩⟩; (try first | exact ⟨rfl, _, World.drewN_drewN _ _ _⟩ | exact ⟨rfl, _, Eq.trans (World.drewN_drewN _ _ _) (congrArg (World.drewN _) (Nat.add_assoc _ _ _))⟩)))
        repeat (go_quiet (first | (go_at_call 22; (with_reducible refine (QW.calls k1 _ _ (Qu l0 ao) _ _ (Qu l1 ao) true _ ?ah ?ai ?aq ?ar A7.out).mono ?_); (case ah => exact cC.out); (case ai => exact dm.out); (case aq => exact dj.out); (case ar => exact dL.out); rintro e w' ⟨rfl, ⟨nd, rfl⟩⟩; (try first | exact ⟨rfl, _, World.drewN_drewN _ _ _⟩ | exact ⟨rfl, _, Eq.trans (World.drewN_drewN _ _ _) (congrArg (World.drewN _) (Nat.add_assoc _ _ _))⟩))); try go_wp2_with (first | (go_at_call 22; (with_reducible refine (QW.calls k1 _ _ (Qu l0 ao) _ _ (Qu l1 ao) true _ ?ah ?ai ?aq ?ar A7.out).mono ?_); (case ah => exact cC.out); (case ai => exact dm.out); (case aq => exact dj.out); (case ar => exact dL.out); rintro e w' ⟨rfl, ⟨nd, rfl⟩⟩; (try first | exact ⟨rfl, _, World.drewN_drewN _ _ _⟩ | exact ⟨rfl, _, Eq.trans (World.drewN_drewN _ _ _) (congrArg (World.drewN _) (Nat.add_assoc _ _ _))⟩))))
        go_roundg k1
        case measure => have := HK1.out; omega
        case rel => exact ⟨(wrap64 (ao + 1)), (by first | rfl | (simp; done) | (simp [*]; done)), H', ⟨by have := HK1.out; omega⟩, by repeat (first | exact Drawn0.refl _ | apply Drawn0.step)⟩
       ·replace c8 := Bool.eq_false_iff.mpr c8; subst c8; have H1 : (some false) = some r := by rw [if_neg (show ¬ (false = true) by decide)] at H; exact H
        clear H; have H := H1; clear H1; obtain rfl := Option.some.inj H; have bw : 0 ≤ (ao : Int) := of_decide_eq_true (by assumption); have bu : ao < (l0.length : Int) := of_decide_eq_true (by assumption); obtain ⟨cb, iY, iW, dJ, aK, cj, cl⟩ := ZO HR0.out ao bw bu; cases dJ; have cC := aa.mk cl; have dm := aa.mk cj; clear cl cj; replace bw := eq_true bw; replace bu := eq_true bu; have bD : 0 ≤ (ao : Int) := of_decide_eq_true (by assumption); have bC : ao < (l1.length : Int) := of_decide_eq_true (by assumption); obtain ⟨bI, eu, et, dP, aG, ch, ck⟩ := Full.at_ HR1.out ao bD bC; cases dP; have dj := aa.mk ck; have dL := aa.mk ch; clear ck ch; replace bD := eq_true bD; replace bC := eq_true bC; go_wp2_with (first | (go_at_call 22; (with_reducible refine (QW.calls k1 _ _ (Qu l0 ao) _ _ (Qu l1 ao) false _ ?ah ?ai ?aq ?ar A7.out).mono ?_); (case ah => exact cC.out); (case ai => exact dm.out); (case aq => exact dj.out); (case ar => exact dL.out); rintro e w' ⟨rfl, ⟨nd, rfl⟩⟩; (try first | exact ⟨rfl, _, World.drewN_drewN _ _ _⟩ | exact ⟨rfl, _, Eq.trans (World.drewN_drewN _ _ _) (congrArg (World.drewN _) (Nat.add_assoc _ _ _))⟩)))
        repeat (go_quiet (first | (go_at_call 22; (with_reducible refine (QW.calls k1 _ _ (Qu l0 ao) _ _ (Qu l1 ao) false _ ?ah ?ai ?aq ?ar A7.out).mono ?_); (case ah => exact cC.out); (case ai => exact dm.out); (case aq => exact dj.out); (case ar => exact dL.out); rintro e w' ⟨rfl, ⟨nd, rfl⟩⟩; (try first | exact ⟨rfl, _, World.drewN_drewN _ _ _⟩ | exact ⟨rfl, _, Eq.trans (World.drewN_drewN _ _ _) (congrArg (World.drewN _) (Nat.add_assoc _ _ _))⟩))); try go_wp2_with (first | (go_at_call 22; (with_reducible refine (QW.calls k1 _ _ (Qu l0 ao) _ _ (Qu l1 ao) false _ ?ah ?ai ?aq ?ar A7.out).mono ?_); (case ah => exact cC.out); (case ai => exact dm.out); (case aq => exact dj.out); (case ar => exact dL.out); rintro e w' ⟨rfl, ⟨nd, rfl⟩⟩; (try first | exact ⟨rfl, _, World.drewN_drewN _ _ _⟩ | exact ⟨rfl, _, Eq.trans (World.drewN_drewN _ _ _) (congrArg (World.drewN _) (Nat.add_assoc _ _ _))⟩))))
        go_ret; exact ⟨by first | rfl | (simp; done) | (simp [*]; done), by repeat (first | exact Drawn0.refl _ | apply Drawn0.step)⟩
      ·rw [if_neg c6] at H; exact absurd H (by simp)
     ·rw [if_neg c5] at H; exact absurd H (by simp)
    ·rw [if_neg c4] at H; have bE : decide (ao < (l1.length : Int)) = false := decide_eq_false c4; clear c4; obtain rfl := Option.some.inj H; go_wp2; repeat (go_quiet (fail); try go_wp2)
     go_ret; exact ⟨by first | rfl | (simp; done) | (simp [*]; done), by repeat (first | exact Drawn0.refl _ | apply Drawn0.step)⟩
 ·rw [if_neg c3] at H; have bH : ((l0.length : Int) == (l1.length : Int)) = false := beq_eq_false_iff_ne.mpr c3; have cx : ((l0.length : Int) != (l1.length : Int)) = true := bne_iff_ne.mpr c3; have iV : (l0.length == l1.length) = false := by first | simpa using c3 | (simp at c3 ⊢; omega)
  obtain rfl := Option.some.inj H; go_enter Try.func19, Try.ntmps19; go_wp2; repeat (go_quiet (fail); try go_wp2)
  go_ret; exact ⟨by first | rfl | (simp; done) | (simp [*]; done), by repeat (first | exact Drawn0.refl _ | apply Drawn0.step)⟩
def ZB.f (k : Nat) (ae : List (List Int)) (af : List (List Int)) (l1 : List Int) : Option (Bool × Int) := (Zq.f k ae af l1).bind fun t102 => (if t102 = 0 then ((Ze.f k ae af l1).bind fun t103 => (some (t103, 0))) else (some (false, t102)))
set_option maxHeartbeats 8000000 in
set_option maxRecDepth 100000 in
theorem ZB.calls (k : Nat) (ak : Option Addr) (an : Nat) (ae : List (List Int)) (aj : Option Addr) (al : Nat) (af : List (List Int)) (A1 : Option Addr) (c1 : Nat) (l1 : List Int) (r1 : Bool) (r2 : Int) (w : World) (aN : Kd.C (Kd.slice 3 (Kd.int .i64)) w ak ae.length ae) (aT : ae.length ≤ an) (aM : Kd.C (Kd.slice 3 (Kd.int .i64)) w aj af.length af) (aQ : af.length ≤ al) (hr1 : Kd.C (Kd.int .i64) w A1 l1.length l1) (hc1 : l1.length ≤ c1) (h : ZB.f k ae af l1 = some (r1, r2)) :
  Calls Try.prog 53 #[.agg #[.slice ak ae.length an, .slice aj af.length al], .slice A1 l1.length c1] w fun e w' => e = .returned (.tuple #[.bool r1, .int .i64 r2]) ∧ Below w.heap.size w w' := by
 have en := Try.underlying24; have aw := aa.mk aN; have az := aa.mk aT; clear aN aT; have ay := aa.mk aM; have aA := aa.mk aQ; clear aM aQ; have HR1 := aa.mk hr1; have HC1 := aa.mk hc1; clear hr1 hc1; have HB := aa.mk (Below.refl w.heap.size w); have H : ((Zq.f k ae af l1).bind fun t102 => (if t102 = 0 then ((Ze.f k ae af l1).bind fun t103 => (some (t103, 0))) else (some (false, t102)))) = some (r1, r2) := h; clear h; replace H := Option.bind_eq_some_iff.mp H; obtain ⟨t102, A30, H⟩ := H; replace H : (if t102 = 0 then ((Ze.f k ae af l1).bind fun t103 => (some (t103, 0))) else (some (false, t102))) = some (r1, r2) := H; have A3 := aa.mk A30; clear A30; by_cases c4 : t102 = 0
 ·rw [if_pos c4] at H; have bE : (t102 == 0) = true := beq_iff_eq.mpr c4; have dO : (t102 != 0) = false := bne_eq_false_iff_eq.mpr c4; clear c4; replace H := Option.bind_eq_some_iff.mp H; obtain ⟨t103, A50, H⟩ := H; replace H : (some (t103, 0)) = some (r1, r2) := H; have A5 := aa.mk A50; clear A50; simp only [Option.some.injEq, Prod.mk.injEq] at H; obtain ⟨rfl, rfl⟩ := H; go_enter Try.func53, Try.ntmps53; go_wp2_with (first | ((with_reducible refine QO (N := 2) rfl ?_); refine Q4 ?hg (N := 2) ?hd (cs := #[.slice ak ae.length an, .slice aj af.length al]) (t := 24) ?hr ?_; (case hd => rfl); (case hg => rfl); (case hr => first | (go_simp; done) | (go_simp; rfl)); intro ag hg w6 hbox hb; have ab := aa.mk (hbox); have bo := aa.mk ((by rw [hg]; exact (Qc bB) : w.heap.size ≤ ag)); have aV := aa.mk ((by rw [hg]; exact (Qc bB) : w.heap.size ≤ ag)); replace HB := aa.mk (Qa bB hb); clear hb hbox hg; have eM : w6.cell? ⟨ag, 0, none⟩ = some (.slice ak ae.length an) := (Qd ab.out 0).trans rfl; have eK : w6.cell? ⟨ag, 1, none⟩ = some (.slice aj af.length al) := (Qd ab.out 1).trans rfl; have eJ := Qb ab.out 0; have eI := Qb ab.out 1) | ((with_reducible refine Qg (f := 87) rfl ?_); refine QG (some 9) rfl rfl Try.func87 (by kernel_rfl) rfl #[.agg #[.slice ak ae.length an, .slice aj af.length al], .slice A1 l1.length c1] rfl hA ?_; (with_reducible refine (Zq.calls k _ _ ae _ _ af _ _ l1 t102 _ ?ah ?ai ?aq ?ar ?bh ?bg A3.out).mono ?_); (case ah => exact (Kd.Qo aw.out HB.out)); (case ai => exact az.out); (case aq => exact (Kd.Qo ay.out HB.out)); (case ar => exact aA.out); (case bh => exact (Kd.Qo HR1.out HB.out)); (case bg => exact HC1.out); rintro e w8 ⟨rfl, hb⟩; refine ⟨_, rfl, ?_⟩; replace ab := aa.mk (Qq ab.out hb); replace HB := aa.mk (Qa bB hb); (try clear hb); (try clear hb2); (try clear hk); (try clear hi); have oF : w8.cell? ⟨ag, 0, none⟩ = some (.slice ak ae.length an) := (Qd ab.out 0).trans rfl; have oE : w8.cell? ⟨ag, 1, none⟩ = some (.slice aj af.length al) := (Qd ab.out 1).trans rfl; have oD := Qb ab.out 0; have oC := Qb ab.out 1) | ((with_reducible refine Qg (f := 95) rfl ?_); refine QG (some 15) rfl rfl Try.func95 (by kernel_rfl) rfl #[.agg #[.slice ak ae.length an, .slice aj af.length al], .slice A1 l1.length c1] rfl hA ?_; (with_reducible refine (Ze.calls k _ _ ae _ _ af _ _ l1 t103 _ ?ah ?ai ?aq ?ar ?bh ?bg A5.out).mono ?_); (case ah => exact (Kd.Qo aw.out HB.out)); (case ai => exact az.out); (case aq => exact (Kd.Qo ay.out HB.out)); (case ar => exact aA.out); (case bh => exact (Kd.Qo HR1.out HB.out)); (case bg => exact HC1.out); rintro e w10 ⟨rfl, hb⟩; refine ⟨_, rfl, ?_⟩; replace ab := aa.mk (Qq ab.out hb); replace HB := aa.mk (Qa bB hb); (try clear hb); (try clear hb2); (try clear hk); (try clear hi)))
  go_ret2; exact ⟨by first | rfl | (simp [Qj, Qi] <;> rfl) | (simp [*, Qj, Qi] <;> rfl), bB⟩
 ·rw [if_neg c4] at H; have bE : (t102 == 0) = false := beq_eq_false_iff_ne.mpr c4; have dO : (t102 != 0) = true := bne_iff_ne.mpr c4; simp only [Option.some.injEq, Prod.mk.injEq] at H; obtain ⟨rfl, rfl⟩ := H; go_enter Try.func53, Try.ntmps53; go_wp2_with (first | ((with_reducible refine QO (N := 2) rfl ?_); refine Q4 ?hg (N := 2) ?hd (cs := #[.slice ak ae.length an, .slice aj af.length al]) (t := 24) ?hr ?_; (case hd => rfl); (case hg => rfl); (case hr => first | (go_simp; done) | (go_simp; rfl)); intro ag hg w11 hbox hb; have ab := aa.mk (hbox); have bo := aa.mk ((by rw [hg]; exact (Qc bB) : w.heap.size ≤ ag)); have aV := aa.mk ((by rw [hg]; exact (Qc bB) : w.heap.size ≤ ag)); replace HB := aa.mk (Qa bB hb); clear hb hbox hg; have dU : w11.cell? ⟨ag, 0, none⟩ = some (.slice ak ae.length an) := (Qd ab.out 0).trans rfl; have dT : w11.cell? ⟨ag, 1, none⟩ = some (.slice aj af.length al) := (Qd ab.out 1).trans rfl; have dS := Qb ab.out 0; have dR := Qb ab.out 1) | ((with_reducible refine Qg (f := 87) rfl ?_); refine QG (some 9) rfl rfl Try.func87 (by kernel_rfl) rfl #[.agg #[.slice ak ae.length an, .slice aj af.length al], .slice A1 l1.length c1] rfl hA ?_; (with_reducible refine (Zq.calls k _ _ ae _ _ af _ _ l1 t102 _ ?ah ?ai ?aq ?ar ?bh ?bg A3.out).mono ?_); (case ah => exact (Kd.Qo aw.out HB.out)); (case ai => exact az.out); (case aq => exact (Kd.Qo ay.out HB.out)); (case ar => exact aA.out); (case bh => exact (Kd.Qo HR1.out HB.out)); (case bg => exact HC1.out); rintro e w13 ⟨rfl, hb⟩; refine ⟨_, rfl, ?_⟩; replace ab := aa.mk (Qq ab.out hb); replace HB := aa.mk (Qa bB hb); (try clear hb); (try clear hb2); (try clear hk); (try clear hi)))
  go_ret2; exact ⟨by first | rfl | (simp [Qj, Qi] <;> rfl) | (simp [*, Qj, Qi] <;> rfl), bB⟩
end Go.Proofs.Ytdneelgnmnpanaa.P
end
section
namespace Go.Proofs.Ytdneelgnmnpanaa.P
open Go.RowKit Go.Proofs.YtdneelgnmnpanaaW.PrintWords
def lineAt (M : List (List Int)) (k : Nat) : List Int := M.getD k []
def cmb (p q : Int) (r t : List Int) : List Int := List.zipWith (fun a b => a * p - b * q) r t
def Okc (p q : Int) (r t : List Int) : Prop := (∀ a ∈ r, (a * p).natAbs ≤ 2305843009213693952) ∧ (∀ b ∈ t, (b * q).natAbs ≤ 2305843009213693952)
instance (p q : Int) (r t : List Int) : Decidable (Okc p q r t) := by unfold Okc; infer_instance
def elim (i top j : Nat) (M : List (List Int)) : Option (List (List Int)) :=
  if j = top ∨ (lineAt M j).getD i 0 = 0 then some M
  else if Okc ((lineAt M top).getD i 0) ((lineAt M j).getD i 0) (lineAt M j) (lineAt M top) then some (M.set j (pln (cmb ((lineAt M top).getD i 0) ((lineAt M j).getD i 0) (lineAt M j) (lineAt M top))))
  else none
def elims (i top : Nat) : Nat → Nat → List (List Int) → Option (List (List Int))
  | 0, _, M => some M
  | d + 1, j, M => (elim i top j M).bind (elims i top d (j + 1))
def swp (M : List (List Int)) (a b : Nat) : List (List Int) := (M.set a (lineAt M b)).set b (lineAt M a)
def stepc (i : Nat) (M : List (List Int)) (P : List Int) : Option (List (List Int) × List Int) :=
  if fst i (M.drop P.length) < 0 then some (M, P)
  else (elims i P.length M.length 0 (swp M P.length (P.length + (fst i (M.drop P.length)).toNat))).bind fun M' => some (M', P ++ [(i : Int)])
def redc : Nat → Nat → List (List Int) → List Int → Option (List (List Int) × List Int)
  | 0, _, M, P => some (M, P)
  | d + 1, i, M, P => (stepc i M P).bind fun x => redc d (i + 1) x.1 x.2
def red (M : List (List Int)) : Option (List (List Int) × List Int) := redc 6 0 M []
theorem fst_lt (i : Nat) : ∀ (rows : List (List Int)), fst i rows < rows.length
  | [] => by simp [fst]
  | r :: l => by
    have := fst_lt i l; rw [fst]; split
    · rw [List.length_cons]; omega
    · split <;> rw [List.length_cons] <;> omega
theorem Va (p q : Int) (r t : List Int) (h : r.length = t.length) : (cmb p q r t).length = r.length := by simp [cmb, h]
theorem YO (m : List Int) : (pln m).length = m.length := by unfold pln; split <;> simp
theorem cmb_lim {p q : Int} {r t : List Int} (h : Okc p q r t) : ∀ x ∈ cmb p q r t, Lim x := by
  intro x hx; obtain ⟨i, hi, rfl⟩ := List.mem_iff_getElem.1 hx; unfold cmb at hi ⊢; rw [List.length_zipWith] at hi; rw [List.getElem_zipWith]; have h1 := h.1 _ (List.getElem_mem (show i < r.length by omega)); have h2 := h.2 _ (List.getElem_mem (show i < t.length by omega)); unfold Lim; omega
theorem ZY (M : List (List Int)) (k : Nat) (h : k < M.length) : lineAt M k = M[k] := rowD M k h
theorem Y3 (M : List (List Int)) (a b : Nat) : (swp M a b).length = M.length := by simp [swp]
end Go.Proofs.Ytdneelgnmnpanaa.P
end
section
namespace Go.Proofs.Ytdneelgnmnpanaa.P
open Go.RowKit Go.Proofs.YtdneelgnmnpanaaW.PrintWords Go.Proofs.YtdneelgnmnpanaaW.PrintLast Go.Proofs.YtdneelgnmnpanaaW.PrintMore
theorem Yu (g : Nat) : ∀ (vs : List Value) (o : Nat) (w : World), (∀ k, k ≠ g → (w.setCells g o vs).heap[k]? = w.heap[k]?) ∧ (w.setCells g o vs).heap.size = w.heap.size
 | [], _, _ => ⟨fun _ _ => rfl, rfl⟩
 | v :: r, o, w => by
  obtain ⟨h1, h2⟩ := Yu g r (o + 1) (w.setCell ⟨g, o, none⟩ v); rw [World.setCells]; exact ⟨fun k hk => (h1 k hk).trans (heap_setCell_other w _ k v hk), by rw [h2]; simp⟩
theorem YF {B g : Nat} (hg : B ≤ g) {w0 : World} : ∀ (vs : List Value) (o : Nat) (w : World), Below B w0 w → Below B w0 (w.setCells g o vs)
 | [], _, _, h => h
 | v :: r, o, w, h => by
  rw [World.setCells]; exact YF hg r (o + 1) _ (h.setCell hg v)
set_option maxHeartbeats 8000000 in
set_option maxRecDepth 100000 in
theorem U2 (A0 : Option Addr) (c0 : Nat) (l0 : List S76) (Mf : List (List Int)) (Pf : List Int) (w : World) (hr0 : Kd.C k76 w A0 l0.length l0) (hc0 : l0.length ≤ c0) (hne : 0 < l0.length) (hlen : l0.length < 1000) (h : red (l0.map L6) = some (Mf, Pf)) :
  Calls Try.prog 111 #[.slice A0 l0.length c0] w fun e w' => ∃ v0_ v1_ : Value, e = .returned (.tuple #[v0_, v1_]) ∧ Kd.R k76 76 w' w.heap.size (fun _ => True) v0_ ((Mf.take Pf.length).map mk6) ∧ Kd.R (Kd.int .i64) 3 w' w.heap.size (fun k => some k ≠ v0_.ownBlock) v1_ Pf ∧ Below w.heap.size w w' := by
 have lN := Try.underlying76; have ov := Try.underlying65; have ss := Try.underlying28; have hu3 := Try.underlying3; have lO := size76; have HR0 := aa.mk hr0; have HC0 := aa.mk hc0; have HCL := aa.mk (show Yd.f l0 = some l0 by unfold Yd.f; rw [if_pos hlen]); have HNE := aa.mk hne; have HLEN := aa.mk hlen; have HRED := aa.mk h; obtain ⟨n, hn⟩ : ∃ n, n = l0.length := ⟨_, rfl⟩; have HN := aa.mk hn; clear hr0 hc0 h hn; have HB := aa.mk (Below.refl w.heap.size w); go_enter Try.func111, Try.ntmps111; go_wp2_with (first
  | ((with_reducible refine Qg (f := 108) rfl ?_); refine QG (some 13) rfl rfl Try.func108 (by kernel_rfl) rfl #[.slice A0 l0.length c0] rfl (by (try simp only [List.map_toArray, List.map_cons, List.map_nil]); first | done | rfl) ?_; (with_reducible refine (Yd.calls A0 c0 l0 l0 _ (Kd.Qo HR0.out HB.out) HC0.out HCL.out).mono ?_); rintro e w9 ⟨v9, rfl, ho, hb⟩; refine ⟨_, rfl, ?_⟩; obtain ⟨g, c, hv, hgw, -, hbl, hlc, hcm⟩ := (Bl.of_R ho).resolve_left (fun hh => absurd (congrArg List.length hh.2) (by have := HNE.out; simp only [List.length_nil]; omega)); subst hv; have HBL := aa.mk hbl; have HCM := aa.mk hcm; have HGW := aa.mk hgw; have HLC := aa.mk hlc; have n0_ := aa.mk (Qa HB.out hb); clear HB hbl hcm hgw hlc ho hb; have HB := n0_; clear n0_))
 rw [← HN.out] at HLC; rw [← HN.out]; have HM := aa.mk (show (l0.map L6).length = n by rw [List.length_map, HN.out]); have HRC := aa.mk (show redc (6 - 0) 0 (l0.map L6) [] = some (Mf, Pf) from HRED.out); have HO := aa.mk (show Kd.R (Kd.int .i64) 3 w9 w.heap.size (fun k => k ≠ g) (.slice none 0 0) ([] : List Int) from Kd.Yg _ _ _ _ _); have HPL := aa.mk (show ([] : List Int).length ≤ n from Nat.zero_le _); have HPI := aa.mk (show ([] : List Int).length ≤ 0 from Nat.le_refl _); generalize l0.map L6 = M at HBL HM HRC; generalize ([] : List Int) = P at HRC HO HPL HPI; clear HRED HCL HR0 HC0; go_loopw [4, 14] (fun p_ i_ w' => ∃ (i : Nat) (M : List (List Int)) (P : List Int), i ≤ 6 ∧ i_ = .int .i64 i ∧ aa (redc (6 - i) i M P = some (Mf, Pf)) ∧ aa (Bl w' g M c) ∧ aa (M.length = n) ∧ aa (P.length ≤ n) ∧ aa (P.length ≤ i) ∧ aa (Kd.R (Kd.int .i64) 3 w' w.heap.size (fun k => k ≠ g) p_ P) ∧ aa (Below w.heap.size w w')) (fun _ i_ _ => 6 - (intOf i_).toNat)
 case atStart => exact ⟨0, M, P, by omega, rfl, HRC, HBL, HM, HPL, HPI, HO, HB⟩
 case round =>
  clear HRC HBL HM HPL HPI HO HB M P; obtain ⟨i, M, P, hi, rfl, HRC, HBL, HM, HPL, HPI, HO, HB⟩ := hrel; by_cases hi6 : i < 6
  ·have yf : n < 1000 := by have := HLEN.out; have := HN.out; omega
   obtain ⟨Ap, cp, ep⟩ := Kd.Zc HO.out; subst ep; have htn := HPL.out; have hlc := HLC.out; obtain ⟨kk, hkk⟩ : ∃ kk, kk = fst i (M.drop P.length) := ⟨_, rfl⟩; have HKK := aa.mk hkk; have hrl : (M.drop P.length).length = n - P.length := by rw [List.length_drop, HM.out]
   have hflt := fst_lt i (M.drop P.length); rw [← hkk, hrl] at hflt; have hrc := HRC.out; rw [show 6 - i = (6 - (i + 1)) + 1 by omega, redc] at hrc; have HS := aa.mk hrc; have hrd : Rd (wr.alloc (.cells #[.int .i64 (i : Int)] 3)) (some ⟨g, P.length * 6, none⟩) (M.drop P.length) := fun _ => ⟨g, P.length * 6, rfl, fun q r hq => by
    rw [List.getElem?_drop] at hq; obtain ⟨hq1, hq2⟩ := List.getElem?_eq_some_iff.1 hq; have hbl := HBL.out.alloc (.cells #[.int .i64 (i : Int)] 3); refine ⟨hq2 ▸ hbl.1.at hq1, ?_⟩; have := hbl.range hq1; rw [hq2, Nat.add_mul] at this; exact this⟩
   have hcell : (wr.alloc (.cells #[.int .i64 (i : Int)] 3)).cell? ⟨wr.heap.size, 0, none⟩ = some (.int .i64 (i : Int)) := (Qd (YN wr _) 0).trans rfl; clear hrc HRC hkk; by_cases hct : c = P.length
   ·have hr0 : M.drop P.length = [] := List.eq_nil_of_length_eq_zero (by rw [hrl]; omega); have hy := UJ (some ⟨g, 0, none⟩) (c - P.length) (M.drop P.length) i wr.heap.size _ (fun hne => absurd hr0 hne) (by rw [hrl]; have := HLEN.out; have := HN.out; omega) (by rw [hrl]; omega) hi6 hcell; rw [hrl, ← HKK.out, show c - P.length = 0 by omega, show n - P.length = 0 by omega] at hy; have HY := aa.mk hy; have hk0 : decide (kk < 0) = true := decide_eq_true (by omega); have HS2 := aa.mk (show redc (6 - (i + 1)) (i + 1) M P = some (Mf, Pf) by
     have := HS.out; unfold stepc at this; rw [← HKK.out, if_pos (by omega)] at this; exact this)
    clear hy hrd hcell HS hr0 HKK; subst hct; go_wp2_with (first | ((with_reducible refine Qg (f := 126) rfl ?_); refine QG (some 23) rfl rfl Try.func126 (by kernel_rfl) rfl #[.slice (some ⟨g, 0, none⟩) 0 0, .func (.func 127) #[] #[.pointer (some ⟨wr.heap.size, 0, none⟩)]] rfl (by (try simp only [List.map_toArray, List.map_cons, List.map_nil]); first | done | rfl) ?_; (with_reducible refine HY.out.mono ?_); rintro e w10 ⟨rfl, hb⟩; refine ⟨_, rfl, ?_⟩; have hbx := Qa ((Below.refl wr.heap.size wr).alloc (Nat.le_refl _) (.cells #[.int .i64 (i : Int)] 3)) hb; have n0_ := aa.mk (HBL.out.below hbx); have n1_ := aa.mk (Kd.QR HO.out hbx); have n2_ := aa.mk (Qa HB.out hbx); have HBX := aa.mk (Qq (YN wr (.cells #[.int .i64 (i : Int)] 3)) hb); have tF := aa.mk (show wr.heap.size ≤ w10.heap.size from hbx.size); clear HBL HO HB hb hbx; have HBL := n0_; have HO := n1_; have HB := n2_; clear n0_ n1_ n2_))
    go_roundw
    case rel => exact ⟨i + 1, M, P, by omega, by go_num, HS2, HBL, HM, HPL, ⟨by have := HPI.out; omega⟩, HO, HB⟩
    case measure => simp [intOf]; omega
   ·have hy := UJ (some ⟨g, P.length * 6, none⟩) (c - P.length) (M.drop P.length) i wr.heap.size _ hrd (by rw [hrl]; have := HLEN.out; have := HN.out; omega) (by rw [hrl]; omega) hi6 hcell; rw [hrl, ← HKK.out] at hy; have HY := aa.mk hy; by_cases hk : kk < 0
    ·have hk0 : decide (kk < 0) = true := decide_eq_true hk; have HS2 := aa.mk (show redc (6 - (i + 1)) (i + 1) M P = some (Mf, Pf) by
      have := HS.out; unfold stepc at this; rw [← HKK.out, if_pos hk] at this; exact this)
     clear hy hrd hcell HS HKK; go_wp2_with (first | ((with_reducible refine Qg (f := 126) rfl ?_); refine QG (some 23) rfl rfl Try.func126 (by kernel_rfl) rfl #[.slice (some ⟨g, P.length * 6, none⟩) (n - P.length) (c - P.length), .func (.func 127) #[] #[.pointer (some ⟨wr.heap.size, 0, none⟩)]] rfl (by (try simp only [List.map_toArray, List.map_cons, List.map_nil]); first | done | rfl) ?_; (with_reducible refine HY.out.mono ?_); rintro e w10 ⟨rfl, hb⟩; refine ⟨_, rfl, ?_⟩; have hbx := Qa ((Below.refl wr.heap.size wr).alloc (Nat.le_refl _) (.cells #[.int .i64 (i : Int)] 3)) hb; have n0_ := aa.mk (HBL.out.below hbx); have n1_ := aa.mk (Kd.QR HO.out hbx); have n2_ := aa.mk (Qa HB.out hbx); have HBX := aa.mk (Qq (YN wr (.cells #[.int .i64 (i : Int)] 3)) hb); have tF := aa.mk (show wr.heap.size ≤ w10.heap.size from hbx.size); clear HBL HO HB hb hbx; have HBL := n0_; have HO := n1_; have HB := n2_; clear n0_ n1_ n2_))
     go_roundw
     case rel => exact ⟨i + 1, M, P, by omega, by go_num, HS2, HBL, HM, HPL, ⟨by have := HPI.out; omega⟩, HO, HB⟩
     case measure => simp [intOf]; omega
    ·obtain ⟨kn, hkn⟩ := Int.eq_ofNat_of_zero_le (show 0 ≤ kk by omega); subst hkn; have hk0 : decide ((kn : Int) < 0) = false := decide_eq_false hk; have ha : P.length < M.length := by rw [HM.out]; omega
     have hb' : P.length + kn < M.length := by rw [HM.out]; omega
     obtain ⟨M1, hM1, hs2⟩ : ∃ M1, elims i P.length M.length 0 (swp M P.length (P.length + kn)) = some M1 ∧ redc (6 - (i + 1)) (i + 1) M1 (P ++ [(i : Int)]) = some (Mf, Pf) := by
      have := HS.out; unfold stepc at this; rw [← HKK.out, if_neg hk, Int.toNat_natCast] at this; obtain ⟨x, hx1, hx2⟩ := Option.bind_eq_some_iff.1 this; obtain ⟨M1, hM1, hx⟩ := Option.bind_eq_some_iff.1 hx1; obtain rfl := Option.some.inj hx; exact ⟨M1, hM1, hx2⟩
     have HNG := aa.mk (show wr.heap.size ≠ g from by have := HBL.out.lt; omega); have HWR := aa.mk (show wrap64 ((P.length : Int) + (kn : Int)) = ((P.length + kn : Nat) : Int) by rw [wrp (by omega) (by have := HLEN.out; have := HN.out; omega)]; omega); have HA := aa.mk ha; have HBB := aa.mk hb'; have HEL := aa.mk hM1; have HS2 := aa.mk hs2; clear hy hrd hcell HS HKK hM1 hs2 ha hb'; go_wp2_with (first
      | ((with_reducible refine Qg (f := 126) rfl ?_); refine QG (some 23) rfl rfl Try.func126 (by kernel_rfl) rfl #[.slice (some ⟨g, P.length * 6, none⟩) (n - P.length) (c - P.length), .func (.func 127) #[] #[.pointer (some ⟨wr.heap.size, 0, none⟩)]] rfl (by (try simp only [List.map_toArray, List.map_cons, List.map_nil]); first | done | rfl) ?_; (with_reducible refine HY.out.mono ?_); rintro e w10 ⟨rfl, hb⟩; refine ⟨_, rfl, ?_⟩; have hbx := Qa ((Below.refl wr.heap.size wr).alloc (Nat.le_refl _) (.cells #[.int .i64 (i : Int)] 3)) hb; have n0_ := aa.mk (HBL.out.below hbx); have n1_ := aa.mk (Kd.QR HO.out hbx); have n2_ := aa.mk (Qa HB.out hbx); have HBX := aa.mk (Qq (YN wr (.cells #[.int .i64 (i : Int)] 3)) hb); have tF := aa.mk (show wr.heap.size ≤ w10.heap.size from hbx.size); clear HBL HO HB hb hbx; have HBL := n0_; have HO := n1_; have HB := n2_; clear n0_ n1_ n2_)
      | ((with_reducible refine Qg (f := 128) rfl ?_); refine QG (some 31) rfl rfl Try.func128 (by kernel_rfl) rfl #[.slice (some ⟨g, 0, none⟩) n c, .int .i64 (P.length : Int), .int .i64 ((P.length + kn : Nat) : Int)] rfl (by (try simp only [List.map_toArray, List.map_cons, List.map_nil]); first | done | rfl | (rw [← HWR.out]; done) | (rw [← HWR.out]; rfl)) ?_; (with_reducible refine (exch_calls g n c P.length (P.length + kn) M _ HBL.out HM.out.symm HA.out HBB.out HLC.out).mono ?_); rintro e w11 ⟨rfl, ug⟩; refine ⟨_, rfl, ?_⟩; have qP := aa.mk ug; clear ug))
     have hsix := HBL.out.1; have hb1 := (HBL.out.drew.stores HA.out (hsix.at HBB.out)).stores (by simpa using HBB.out) (hsix.at HA.out); rw [← qP.out] at hb1; have hh : ∀ k, k ≠ g → w11.heap[k]? = w10.heap[k]? := fun k hk_ => by rw [qP.out]; exact ((Yu g _ _ _).1 k hk_).trans ((Yu g _ _ _).1 k hk_)
     have q6 := aa.mk hb1; have HO2 := aa.mk (Kd.V6 HO.out (fun k hk_ _ => hh k hk_)); have q5 := aa.mk ((hh _ HNG.out).trans HBX.out); have HB2 := aa.mk (show Below w.heap.size w w11 by rw [qP.out]; exact YF HGW.out _ _ _ (YF HGW.out _ _ _ (YJ HB.out))); clear HBL HO HBX HB hb1 hh hsix qP; have HBL := q6; have HO := HO2; have HBX := q5; have HB := HB2; clear q6 HO2 q5 HB2; generalize hb5 : wr.heap.size = b5 at *; have HNB := aa.mk (show b5 ≠ g from HNG.out); have HM1 := aa.mk (show (swp M P.length (P.length + kn)).length = n by rw [Y3, HM.out]); have vO := aa.mk (show Bl w11 g (swp M P.length (P.length + kn)) c by
      have := HBL.out; unfold swp; rw [ZY _ _ HA.out, ZY _ _ HBB.out]; exact this)
     have vJ := aa.mk (show elims i P.length (n - 0) 0 (swp M P.length (P.length + kn)) = some M1 by rw [← HEL.out, HM.out]; rfl); have HTN := aa.mk (show P.length < n by rw [← HM.out]; exact HA.out); have zq := aa.mk (show P.length ≤ i from HPI.out); clear HBL HEL HA HBB hb5 HWR tF hk HY HM HPI; generalize swp M P.length (P.length + kn) = N at *; go_loopw [34] (fun j_ w' => ∃ (j : Nat) (N : List (List Int)), j ≤ n ∧ j_ = .int .i64 j ∧ aa (elims i P.length (n - j) j N = some M1) ∧ aa (Bl w' g N c) ∧ aa (N.length = n) ∧ aa (w'.heap[b5]? = some (.cells #[.int .i64 (i : Int)] 3 (0, 0))) ∧ aa (Kd.R (Kd.int .i64) 3 w' w.heap.size (fun k => k ≠ g) (.slice Ap P.length cp) P) ∧ aa (Below w.heap.size w w')) (fun j_ _ => n - (intOf j_).toNat)
     case atStart => exact ⟨0, N, Nat.zero_le _, rfl, vJ, vO, HM1, HBX, HO, HB⟩
     case round =>
      clear vJ vO HM1 HBX HO HB N; obtain ⟨j, N, hj, rfl, HEL, HBL, HM, HBX, HO, HB⟩ := hrel; by_cases hjn : j < n
      ·have hbx : wr.cell? ⟨b5, 0, none⟩ = some (.int .i64 (i : Int)) := (Qd HBX.out 0).trans rfl; have hjN : j < N.length := by rw [HM.out]; exact hjn
       have htN : P.length < N.length := by rw [HM.out]; exact HTN.out
       have hel := HEL.out; rw [show n - j = (n - (j + 1)) + 1 by omega, elims] at hel; unfold elim at hel; have HE2 := aa.mk hel; clear hel HEL; by_cases hjt : j = P.length
       ·have c1 : ((j : Int) == (P.length : Int)) = true := beq_iff_eq.mpr (by omega); have HE3 := aa.mk (show elims i P.length (n - (j + 1)) (j + 1) N = some M1 by
         have := HE2.out; rw [if_pos (Or.inl hjt)] at this; exact this)
        clear HE2 hjt; go_wp2_with fail
        go_quiet (fail)
        go_wp2_with fail
        go_roundw
        case rel => exact ⟨j + 1, N, by omega, by go_num, HE3, HBL, HM, HBX, HO, ⟨QF HB.out _⟩⟩
        case measure => simp [intOf]; omega
       ·have c1 : ((j : Int) == (P.length : Int)) = false := beq_eq_false_iff_ne.mpr (by omega); have hcj := HBL.out.cell hjN hi6; by_cases hz : N[j].getD i 0 = 0
        ·have HE3 := aa.mk (show elims i P.length (n - (j + 1)) (j + 1) N = some M1 by
          have := HE2.out; rw [if_pos (Or.inr (by rw [ZY _ _ hjN]; exact hz))] at this; exact this)
         rw [hz] at hcj; clear HE2 hjt hz; go_wp2_with fail
         go_quiet (fail)
         go_wp2_with fail
         go_roundw
         case rel => exact ⟨j + 1, N, by omega, by go_num, HE3, HBL, HM, HBX, HO, ⟨QF HB.out _⟩⟩
         case measure => simp [intOf]; omega
        ·have hct' := HBL.out.cell htN hi6; obtain ⟨q, hq⟩ : ∃ q, q = N[j].getD i 0 := ⟨_, rfl⟩; obtain ⟨p, hp⟩ : ∃ p, p = N[P.length].getD i 0 := ⟨_, rfl⟩; have hj6 := HBL.out.1.at hjN; have ht6 := HBL.out.1.at htN; obtain ⟨hok, hel⟩ : Okc p q N[j] N[P.length] ∧ elims i P.length (n - (j + 1)) (j + 1) (N.set j (pln (cmb p q N[j] N[P.length]))) = some M1 := by
          have := HE2.out; rw [if_neg (by rw [ZY _ _ hjN]; rintro (h1 | h1); exact hjt h1; exact hz h1), ZY _ _ hjN, ZY _ _ htN, ← hq, ← hp] at this; split at this
          ·rename_i h1
           exact ⟨h1, this⟩
          ·cases this
         have HOK := aa.mk hok; have HEL := aa.mk hel; have HJ6 := aa.mk hj6; have HT6 := aa.mk ht6; have HJT := aa.mk hjt; have HJN := aa.mk hjN; have HTL := aa.mk htN; rw [← hq] at hcj hz; rw [← hp] at hct'; have hq0 : (q == 0) = false := beq_eq_false_iff_ne.mpr hz; clear HE2 hjt hz hok hel hj6 ht6 hq hp; go_wp2_with fail
         go_quiet (fail)
         go_wp2_with fail
         go_quiet (fail)
         go_wp2_with fail
         have vP := aa.mk (show Bl wr g (N.set j ((cmb p q N[j] N[P.length]).take 0 ++ N[j].drop 0)) c by
          rw [List.take_zero, List.nil_append, List.drop_zero, List.set_getElem_self]; exact HBL.out)
         have HCL := aa.mk (show (cmb p q N[j] N[P.length]).length = 6 by rw [Va _ _ _ _ (by rw [HJ6.out, HT6.out]), HJ6.out]); clear HBL hcj hct'; go_loopw [61] (fun m_ w' => ∃ m : Nat, m ≤ 6 ∧ m_ = .int .i64 m ∧ aa (Bl w' g (N.set j ((cmb p q N[j] N[P.length]).take m ++ N[j].drop m)) c) ∧ aa (w'.heap[b5]? = some (.cells #[.int .i64 (i : Int)] 3 (0, 0))) ∧ aa (Kd.R (Kd.int .i64) 3 w' w.heap.size (fun k => k ≠ g) (.slice Ap P.length cp) P) ∧ aa (Below w.heap.size w w')) (fun m_ _ => 6 - (intOf m_).toNat)
         case atStart => exact ⟨0, by omega, rfl, ⟨vP.out⟩, ⟨HBX.out⟩, ⟨HO.out⟩, ⟨QF (QF HB.out _) _⟩⟩
         case round =>
          clear vP HBX HO HB; obtain ⟨m, hm, rfl, HBL, HBX, HO, HB⟩ := hrel; have hjS : j < (N.set j ((cmb p q N[j] N[P.length]).take m ++ N[j].drop m)).length := by simpa using hjN
          have htS : P.length < (N.set j ((cmb p q N[j] N[P.length]).take m ++ N[j].drop m)).length := by simpa using htN
          by_cases hm6 : m < 6
          ·have hj6 := HJ6.out; have ht6 := HT6.out; have hcl := HCL.out; have hrj := HBL.out.cell hjS hm6; have hrt := HBL.out.cell htS hm6; have e1 : (N.set j ((cmb p q N[j] N[P.length]).take m ++ N[j].drop m))[j] = (cmb p q N[j] N[P.length]).take m ++ N[j].drop m := by simp
           have e2 : (N.set j ((cmb p q N[j] N[P.length]).take m ++ N[j].drop m))[P.length] = N[P.length] := by
            rw [List.getElem_set_ne]; exact HJT.out
           have e3 : ((cmb p q N[j] N[P.length]).take m ++ N[j].drop m).getD m 0 = N[j][m] := by
            rw [List.getD_eq_getElem?_getD, List.getElem?_append_right (by rw [List.length_take]; omega), List.length_take, Nat.min_eq_left (by omega), Nat.sub_self, List.getElem?_drop, Nat.add_zero, List.getElem?_eq_getElem (by omega)]; rfl
           have e4 : N[P.length].getD m 0 = N[P.length][m] := by rw [List.getD_eq_getElem?_getD, List.getElem?_eq_getElem (by omega)]; rfl
           rw [e1, e3] at hrj; rw [e2, e4] at hrt; have hst := fun v => HBL.out.store hjS hm6 v
           rw [e1] at hst; have hcm : (cmb p q N[j] N[P.length])[m] = N[j][m] * p - N[P.length][m] * q := by unfold cmb; rw [List.getElem_zipWith]
           have hnext : ((cmb p q N[j] N[P.length]).take m ++ N[j].drop m).set m (N[j][m] * p - N[P.length][m] * q) = (cmb p q N[j] N[P.length]).take (m + 1) ++ N[j].drop (m + 1) := by
            rw [List.set_append_right _ _ (by rw [List.length_take]; omega), List.length_take, Nat.min_eq_left (by omega), Nat.sub_self, List.drop_eq_getElem_cons (by omega : m < N[j].length), List.set_cons_zero, List.take_succ_eq_append_getElem (by omega), hcm, List.append_assoc]; rfl
           have hnx := hst (N[j][m] * p - N[P.length][m] * q); rw [hnext, List.set_set] at hnx; have HNX := aa.mk hnx; have hff := HBL.out.frozen (j * 6 + m); have o1 := HOK.out.1 _ (List.getElem_mem (show m < N[j].length by omega)); have o2 := HOK.out.2 _ (List.getElem_mem (show m < N[P.length].length by omega)); have hB5 := aa.mk (HBX.out); clear e1 e2 e3 e4 hst hcm hnext hnx; generalize N[j][m] = rj at *; generalize N[P.length][m] = rt at *; have w1 : wrap64 (rj * p) = rj * p := wrp (by omega) (by omega); have w2 : wrap64 (rt * q) = rt * q := wrp (by omega) (by omega); have w3 : wrap64 (rj * p - rt * q) = rj * p - rt * q := wrp (by omega) (by omega); clear o1 o2; go_wp2_with fail
           go_region; go_wp2_with fail
           go_roundw
           case rel => exact ⟨m + 1, by omega, by go_num, HNX, ⟨(heap_setCell_other _ _ _ _ HNB.out).trans HBX.out⟩, ⟨Kd.R_far HO.out (fun _ hk_ => hk_) _⟩, ⟨(HB.out.setCell HGW.out _).drew⟩⟩
           case measure => simp [intOf]; omega
          ·obtain rfl : m = 6 := by omega
           have hbl := HBL.out; rw [List.take_of_length_le (by rw [HCL.out]; exact Nat.le_refl _), List.drop_eq_nil_of_le (by rw [HJ6.out]; exact Nat.le_refl _), List.append_nil] at hbl; have sC : j < (N.set j (cmb p q N[j] N[P.length])).length := by simpa using hjN
           have hrg := hbl.range sC; rw [List.getElem_set_self] at hrg; have hth := hbl.there sC; have hnew := fun (w2 : World) (hb : Below wr.heap.size wr w2) => (hbl.below hb).stores sC (r := pln (cmb p q N[j] N[P.length])) (by rw [YO, HCL.out])
           simp only [List.set_set] at hnew; have zp := aa.mk (fun W => Ue (cmb p q N[j] N[P.length]) W HCL.out (cmb_lim HOK.out)); have HPN := aa.mk (show (pln (cmb p q N[j] N[P.length])).length = 6 by rw [YO, HCL.out]); have HE := aa.mk (show elims i P.length (n - (j + 1)) (j + 1) (N.set j (pln (cmb p q N[j] N[P.length]))) = some M1 from HEL.out); have HMN := aa.mk (show (N.set j (pln (cmb p q N[j] N[P.length]))).length = n by rw [List.length_set, HM.out]); have HBF := aa.mk (fun (w2 : World) (hb : Below wr.heap.size wr w2) (o : Nat) => (hbl.below hb).frozen o); have HRG := aa.mk hrg; have HTH := aa.mk hth; have HNW := aa.mk hnew; have HI1 := aa.mk (show (Try.prog.info? 76).map (·.size) = some ((cmb p q N[j] N[P.length]).map (Value.int .i64)).length by rw [List.length_map, HCL.out]; exact size76); have HI2 := aa.mk (show (Try.prog.info? 76).map (·.size) = some (arr (pln (cmb p q N[j] N[P.length]))).size by rw [ZS, HPN.out]; exact size76); clear hbl hrg hth hnew HEL; generalize pln (cmb p q N[j] N[P.length]) = s at *; generalize cmb p q N[j] N[P.length] = z at *; go_wp2_with (first
            | (refine wpList_load_mid rfl 76 _ rfl g (j * 6) rfl (z.map (Value.int .i64)) _ HRG.out Try.underlying76 rfl HI1.out ?_)
            | ((with_reducible refine Qg (f := 118) rfl ?_); refine QG (some 93) rfl rfl Try.func118 (by kernel_rfl) rfl #[.agg (arr z)] rfl (by (try simp only [List.map_toArray, List.map_cons, List.map_nil]); first | done | rfl) ?_; (with_reducible refine (zp.out _).mono ?_); rintro e w12 ⟨rfl, hb⟩; refine ⟨_, rfl, ?_⟩; have zr := aa.mk (HNW.out _ hb); have zo := aa.mk (show w12.there g (j * 6) 6 from fun q hq => ⟨by obtain ⟨u, hu⟩ := Option.isSome_iff_exists.1 (HTH.out q hq).1; rw [(hb.cell (World.block_lt_of_cell? wr _ hu)).trans hu]; rfl, HBF.out _ hb _⟩); have q5 := aa.mk (Qq HBX.out hb); have HO2 := aa.mk (Kd.QR HO.out hb); have HB2 := aa.mk (Qa HB.out hb); clear HBL HO HBX HB hb HNW HTH)
            | (refine wpList_store_mid rfl 76 _ _ rfl g (j * 6) (arr s) rfl rfl (by rw [ZS, HPN.out]; exact zo.out) HI2.out (YX s) ?_))
           go_roundw
           case rel => exact ⟨j + 1, N.set j s, by omega, by go_num, HE, zr, HMN, ⟨((Yu g _ _ _).1 _ HNB.out).trans q5.out⟩, ⟨Kd.V6 HO2.out (fun k hk_ _ => (Yu g _ _ _).1 k hk_)⟩, ⟨YF HGW.out _ _ _ HB2.out⟩⟩
           case measure => simp [intOf]; omega
      ·obtain rfl : j = n := by omega
       have hN : N = M1 := by
        have := HEL.out; rw [Nat.sub_self, elims] at this; exact Option.some.inj this
       subst hN; have hbx : wr.cell? ⟨b5, 0, none⟩ = some (.int .i64 (i : Int)) := (Qd HBX.out 0).trans rfl; have HGL := aa.mk HBL.out.lt; go_wp2_with (first
        | ((with_reducible refine Zr (b := .append) (xs := #[.tmp 96, .tmp 98]) rfl ?_); at_builtin; refine Kd.Ym (Kd.int .i64) (w0 := w) w.heap.size rfl (.tmp 96) (.tmp 98) 28 3 (.int .i64 0) 8 rfl Try.underlying28 info3 rfl (by decide) (by omega) (.slice Ap P.length cp) P (i : Int) [.int .i64 (i : Int)] (fun k_ => k_ ≠ g) (fun _ => False) rfl rfl ?aP (fun _ hk => hk.elim) ?aF ?aO ?aB ?aS ?aL ?_; (case aP => exact rfl); (case aB => exact (by repeat (first | (with_reducible first | exact HB.out | apply Q0 | apply QF | apply QP) | exact HB.out))); (case aF => exact (fun k_ hk => by have h1 := HGL.out; have h2 : wr.heap.size ≤ k_ := Nat.le_trans (by simp) hk; show k_ ≠ g; omega)); (case aO => exact (by (with_reducible repeat (first | apply Kd.R_alloc | apply Kd.QI | apply Kd.QN)); exact HO.out)); (case aS => exact (Qc (by repeat (first | (with_reducible first | exact HB.out | apply Q0 | apply QF | apply QP) | exact HB.out)))); (case aL => have := HTN.out; omega); intro ie w12 ho hb hg hat; have q6 := aa.mk (show Bl w12 g N c from by first | exact HBL.out.move (hg.block g HGL.out (fun e_ => HO.out.1 g e_.symm rfl)) | exact (HBL.out.alloc _).move (hg.block g (Nat.lt_of_lt_of_le HGL.out (by simp)) (fun e_ => HO.out.1 g e_.symm rfl))); replace HB := aa.mk (hb); replace HO := aa.mk (ho); clear ho hb hg hat))
       go_roundw
       case rel => exact ⟨i + 1, N, P ++ [(i : Int)], by omega, by go_num, HS2, q6, HM, ⟨by have := HTN.out; simp; omega⟩, ⟨by have := zq.out; simp; omega⟩, HO, HB⟩
       case measure => simp [intOf]; omega
  ·obtain rfl : i = 6 := by omega
   have hf : M = Mf ∧ P = Pf := by
    have := HRC.out; rw [Nat.sub_self, redc] at this; have := Option.some.inj this; exact ⟨congrArg Prod.fst this, congrArg Prod.snd this⟩
   obtain ⟨rfl, rfl⟩ := hf; obtain ⟨Ap, cp, ep⟩ := Kd.Zc HO.out; subst ep; have htn := HPL.out; have hlc := HLC.out; have hle : P.length ≤ c := by omega
   go_wp2_with fail
   go_ret2; refine ⟨_, _, rfl, HBL.out.R HGW.out trivial (by rw [HM.out]; exact htn) HCM.out, ?_, HB.out⟩; exact Kd.Q8 HO.out (fun k hk => by simp [Value.ownBlock]; exact fun e => hk e)
def Z1.f (l : List S76) : Option (List S76 × List Int) := if 0 < l.length ∧ l.length < 1000 then (red (l.map L6)).map fun x => ((x.1.take x.2.length).map mk6, x.2) else none
theorem Z1.calls (A0 : Option Addr) (c0 : Nat) (l0 : List S76) (r1 : List S76) (r2 : List Int) (w : World) (hr0 : Kd.C k76 w A0 l0.length l0) (hc0 : l0.length ≤ c0) (h : Z1.f l0 = some (r1, r2)) :
  Calls Try.prog 111 #[.slice A0 l0.length c0] w fun e w' => ∃ v0_ v1_ : Value, e = .returned (.tuple #[v0_, v1_]) ∧ Kd.R k76 76 w' w.heap.size (fun _ => True) v0_ r1 ∧ Kd.R (Kd.int .i64) 3 w' w.heap.size (fun k => some k ≠ v0_.ownBlock) v1_ r2 ∧ Below w.heap.size w w' := by
 unfold Z1.f at h; split at h
 case isFalse => cases h
 rename_i hc
 obtain ⟨⟨Mf, Pf⟩, hx, e⟩ := Option.map_eq_some_iff.1 h; obtain ⟨rfl, rfl⟩ := Prod.mk.inj e; exact U2 A0 c0 l0 Mf Pf w hr0 hc0 hc.1 hc.2 hx
instance (x : Int) : Decidable (Lim x) := by unfold Lim; infer_instance
def frg : Nat → Nat → List Int → Nat
 | 0, f, _ => f
 | d + 1, f, P => if (f : Int) ∈ P then frg d (f + 1) P else f
def AllOk (r : List Int) (p a : Int) : Prop := 0 ≤ p ∧ p < 6 ∧ Lim a ∧ Lim (r.getD p.toNat 0) ∧ Int.gcd a (r.getD p.toNat 0) ≠ 0 ∧ Lim (a.tdiv (Int.gcd a (r.getD p.toNat 0)) * r.getD p.toNat 0)
instance (r : List Int) (p a : Int) : Decidable (AllOk r p a) := by unfold AllOk; infer_instance
def alls : List (List Int × Int) → Int → Option Int
 | [], a => some a
 | x :: l, a => if AllOk x.1 x.2 a then alls l (a.tdiv (Int.gcd a (x.1.getD x.2.toNat 0)) * x.1.getD x.2.toNat 0) else none
def OutOk (free : Nat) (all : Int) (r : List Int) (p : Int) : Prop := 0 ≤ p ∧ p < 6 ∧ Lim all ∧ Lim (r.getD free 0) ∧ r.getD p.toNat 0 ≠ 0 ∧ Lim (-(r.getD free 0) * all.tdiv (r.getD p.toNat 0))
instance (free : Nat) (all : Int) (r : List Int) (p : Int) : Decidable (OutOk free all r p) := by unfold OutOk; infer_instance
def outs (free : Nat) (all : Int) : List (List Int × Int) → List Int → Option (List Int)
 | [], o => some o
 | x :: l, o => if OutOk free all x.1 x.2 then outs free all l (o.set x.2.toNat (-(x.1.getD free 0) * all.tdiv (x.1.getD x.2.toNat 0))) else none
def fin (o : List Int) (count : Nat) : Option (List Int) :=
 if (∀ x ∈ o, Lim x) ∧ 0 ≤ nzi ((pln o).take count) then
  some (if (pln o).getD (nzi ((pln o).take count)).toNat 0 < 0 then ((pln o).map (fun x => -x)).take count else (pln o).take count)
 else none
def sol (R : List (List Int)) (P : List Int) (count : Nat) : Option (List Int × Bool) :=
 if (count : Int) - P.length ≠ 1 then some ([], false)
 else if ((frg 7 0 P : Int)) ∉ P ∧ frg 7 0 P < 6 ∧ R.length = P.length then
  (alls (R.zip P) 1).bind fun all => (outs (frg 7 0 P) all (R.zip P) (zeros6.set (frg 7 0 P) all)).bind fun o => (fin o count).map fun s => (s, true)
 else none
def Zj.f (l : List S76) (count : Int) : Option (List Int × Bool) :=
 if 0 ≤ count ∧ count ≤ 6 then (Z1.f l).bind fun x => sol (x.1.map L6) x.2 count.toNat else none
theorem VN (i top : Nat) : ∀ (d j : Nat) (M M' : List (List Int)), elims i top d j M = some M' → M'.length = M.length
 | 0, j, M, M', h => by rw [elims] at h; rw [← Option.some.inj h]
 | d + 1, j, M, M', h => by
  rw [elims] at h; obtain ⟨N, h1, h2⟩ := Option.bind_eq_some_iff.1 h; rw [VN i top d (j + 1) N M' h2]; unfold elim at h1; split at h1
  ·rw [← Option.some.inj h1]
  ·split at h1
   ·rw [← Option.some.inj h1]; simp
   ·cases h1
theorem Uc : ∀ (d i : Nat) (M : List (List Int)) (P : List Int) (Mf : List (List Int)) (Pf : List Int), redc d i M P = some (Mf, Pf) → Pf.length ≤ P.length + d ∧ Mf.length = M.length
 | 0, i, M, P, Mf, Pf, h => by
  rw [redc] at h; obtain ⟨rfl, rfl⟩ := Prod.mk.inj (Option.some.inj h); exact ⟨Nat.le_refl _, rfl⟩
 | d + 1, i, M, P, Mf, Pf, h => by
  rw [redc] at h; obtain ⟨⟨M1, P1⟩, h1, h2⟩ := Option.bind_eq_some_iff.1 h; have h3 := Uc d (i + 1) M1 P1 Mf Pf h2; unfold stepc at h1; split at h1
  ·obtain ⟨rfl, rfl⟩ := Prod.mk.inj (Option.some.inj h1); exact ⟨by omega, h3.2⟩
  ·obtain ⟨M2, h4, h5⟩ := Option.bind_eq_some_iff.1 h1; obtain ⟨rfl, rfl⟩ := Prod.mk.inj (Option.some.inj h5); have h6 := VN _ _ _ _ _ _ h4; rw [Y3] at h6; simp at h3; exact ⟨by omega, by omega⟩
theorem red_places {M Mf : List (List Int)} {Pf : List Int} (h : red M = some (Mf, Pf)) : Pf.length ≤ 1000 := by
 have := (Uc 6 0 M [] Mf Pf h).1; simp at this; omega
def solu.T11 : Bool × List (List Nat × List Nat) := (true, [([], []), ([], []), ([], []), ([], []), ([2, 3], [2, 3]), ([4], [4]), ([5], [5]), ([6], [6]), ([1, 7], [1, 7]), ([0, 8], [0, 8]), ([], []), ([], []), ([10, 11], [10, 11]), ([12], [12]), ([13], [13]), ([14], [14]), ([9, 15], [9, 15]), ([16, 8, 0, 1, 2, 3, 4, 5, 6, 7, 8, 9, 10, 11, 12, 13, 14, 15, 16], [0, 1, 16])])
def solu.B11 : List Nat := [0, 0, 0, 0, 12, 28, 60, 124, 254, 511, 0, 0, 3072, 7168, 15360, 31744, 65535, 131071]
theorem solu.tab11 : rtab .any (opsOf Try.f82 11) = solu.T11 := by kernel_rfl
theorem solu.bits11 : waitsOk solu.T11.2 solu.B11 = true := by kernel_rfl
def solu.T18 : Bool × List (List Nat × List Nat) := (true, [([], []), ([], []), ([0, 1], [0, 1]), ([2], [2]), ([], []), ([4], [4]), ([5], [5]), ([6], [6]), ([], []), ([], []), ([], []), ([9, 10], [9, 10]), ([11], [11]), ([12], [12]), ([13], [13]), ([8, 14], [8, 14]), ([7, 15], [7, 15]), ([3, 0, 1, 2, 3, 4, 5, 6, 7, 8, 9, 10, 11, 12, 13, 14, 15, 16], [3]), ([17, 16, 0, 1, 2, 3, 4, 5, 6, 7, 8, 9, 10, 11, 12, 13, 14, 15, 16], [16, 17])])
def solu.B18 : List Nat := [0, 0, 3, 7, 0, 16, 48, 112, 0, 0, 0, 1536, 3584, 7680, 15872, 32512, 65520, 131071, 262143]
theorem solu.tab18 : rtab .any (opsOf Try.f82 18) = solu.T18 := by kernel_rfl
theorem solu.bits18 : waitsOk solu.T18.2 solu.B18 = true := by kernel_rfl
theorem R_addr {α : Type} {d : Kd α} {e base : Nat} {ok : Nat → Prop} {w : World} {A : Option Addr} {n c : Nat} {xs : List α} (h : Kd.R d e w base ok (.slice A n c) xs) : ∀ ad, A = some ad → ad.spot = none := by
 obtain ⟨inner, ho⟩ := Kd.R_own h; intro ad hA; rcases ho.2 with ⟨hv, _⟩ | ⟨g, cap, cur, hv, _⟩
 ·cases hv; cases hA
 ·cases hv; cases hA; rfl
theorem C_arr {w : World} {b n : Nat} {m : List Int} {t : TypeId} (h : w.heap[b]? = some (.cells (arr m) t (0, 0))) (hn : n ≤ m.length) (hm : m.length ≤ 1000) : Kd.C (Kd.int .i64) w (some ⟨b, 0, none⟩) (m.take n).length (m.take n) := by
 refine Kd.Ve (d := (0 : Int)) (h1 := fun _ => rfl) ⟨rfl, by rw [List.length_take]; omega, fun _ => ⟨_, rfl, fun j hj => ?_⟩⟩; have hj' : j < n := by rw [List.length_take] at hj; omega
 rw [Z4, YG h j (by omega)]; simp [List.getElem?_take, hj', show j < m.length by omega]
theorem pln_lim {m : List Int} (h : ∀ x ∈ m, Lim x) : ∀ x ∈ pln m, Lim x := by
 unfold pln; split
 ·intro x hx; obtain ⟨y, hy, rfl⟩ := List.mem_map.1 hx; have h1 := h y hy; unfold Lim at *; have : (y.tdiv (gc m)).natAbs ≤ y.natAbs := by rw [Int.natAbs_tdiv]; exact Nat.div_le_self _ _
  omega
 ·exact h
theorem slice76 (b n : Nat) (hn : n ≤ 6) (W : World) : (Instr.sliceAt 76 (.pointer (some ⟨b, 0, none⟩)) none (some (.int .i64 (n : Int))) none).run Try.prog W = .ok (.slice (some ⟨b, 0, none⟩) n 6) W := by
 have hl : Try.prog.arrayLen 76 = 6 := by kernel_rfl
 have he : Try.prog.elem 76 = 3 := by kernel_rfl
 have hsz : (sizeOf 3).run Try.prog W = .ok 1 W := by
  cases hq : Try.prog.info? 3 with
  | none => have := info3; rw [hq] at this; cases this
  | some j =>
   have := info3; rw [hq] at this; simp only [Option.map_some, Option.some.injEq, Prod.mk.injEq] at this; simp [sizeOf, typeInfo, hq, this.2.1]
 have h := run_sliceAt_array_h (P := Try.prog) W 76 ⟨b, 0, none⟩ (by rw [hl, he]; exact Try.underlying76) .i64 (n : Int) (by omega) (by rw [hl]; omega); rw [h, hl, he, hsz]; simp [Result.andThen, slicedAt, Z4]
theorem Uu (f : Nat) : zeros6.getD f 0 = 0 := by
 unfold zeros6; rw [List.getD_eq_getElem?_getD, List.getElem?_replicate]; split <;> rfl
theorem frg_le : ∀ (d f : Nat) (P : List Int), f ≤ frg d f P
 | 0, f, P => Nat.le_refl _
 | d + 1, f, P => by
  rw [frg]; split
  ·exact Nat.le_trans (Nat.le_succ f) (frg_le d (f + 1) P)
  ·exact Nat.le_refl _
set_option maxHeartbeats 8000000 in
set_option maxRecDepth 100000 in
theorem sol_calls (A0 : Option Addr) (c0 : Nat) (l0 : List S76) (count : Nat) (R : List S76) (P : List Int) (r1 : List Int) (r2 : Bool) (w : World) (hr0 : Kd.C k76 w A0 l0.length l0) (hc0 : l0.length ≤ c0) (hcount : count ≤ 6) (hred : Z1.f l0 = some (R, P)) (h : sol (R.map L6) P count = some (r1, r2)) :
  Calls Try.prog 82 #[.slice A0 l0.length c0, .int .i64 (count : Int)] w fun e w' => ∃ v0_ : Value, e = .returned (.tuple #[v0_, .bool r2]) ∧ Kd.R (Kd.int .i64) 3 w' w.heap.size (fun _ => True) v0_ r1 ∧ Below w.heap.size w w' := by
 have lN := Try.underlying76; have ov := Try.underlying65; have ss := Try.underlying28; have hu3 := Try.underlying3; have lO := size76; have xX := (zero_of_info info76z).1; have HPL := aa.mk (show P.length ≤ 1000 from by
  unfold Z1.f at hred; split at hred
  case isFalse => cases hred
  obtain ⟨⟨Mf, Pf⟩, hx, e⟩ := Option.map_eq_some_iff.1 hred; obtain ⟨_, rfl⟩ := Prod.mk.inj e; exact red_places hx)
 have HX := aa.mk (fun W (hb : Below w.heap.size w W) => Z1.calls A0 c0 l0 R P W (Kd.Qo hr0 hb) hc0 hred); clear hr0 hc0 hred; have HB := aa.mk (Below.refl w.heap.size w); have HS := aa.mk h; have HCT := aa.mk hcount; clear h; by_cases hne : (count : Int) - (P.length : Int) = 1
 case neg =>
  have hs := HS.out; unfold sol at hs; rw [if_pos hne] at hs; obtain ⟨rfl, rfl⟩ := Prod.mk.inj (Option.some.inj hs); have c1 : ((count : Int) - (P.length : Int) != 1) = true := bne_iff_ne.mpr hne; have hpl := HPL.out; have hwr : wrap64 ((count : Int) - (P.length : Int)) = (count : Int) - (P.length : Int) := wrp (by omega) (by omega); clear hs hne; go_enter Try.func82, Try.ntmps82; go_wp2_with (first
   | ((with_reducible refine Qg (f := 111) rfl ?_); refine QG (some 19) rfl rfl Try.func111 (by kernel_rfl) rfl #[.slice A0 l0.length c0] rfl (by (try simp only [List.map_toArray, List.map_cons, List.map_nil]); first | done | rfl) ?_; (with_reducible refine (HX.out _ HB.out).mono ?_); rintro e w9 ⟨v0, v1, rfl, ho0, ho1, hb⟩; refine ⟨_, rfl, ?_⟩; obtain ⟨Ap, cp, ep⟩ := Kd.Zc ho1; subst ep; have HB2 := aa.mk (Qa HB.out hb); clear HB ho0 ho1 hb))
  go_ret2; exact ⟨_, rfl, Kd.Yg _ _ _ _ _, HB2.out⟩
 have hs := HS.out; unfold sol at hs; rw [if_neg (fun hh => hh hne)] at hs; split at hs
 case isFalse => cases hs
 rename_i hfree
 obtain ⟨free, hfr⟩ : ∃ f, f = frg 7 0 P := ⟨_, rfl⟩; rw [← hfr] at hs hfree; obtain ⟨all, hall, hs2⟩ := Option.bind_eq_some_iff.1 hs; obtain ⟨o, hout, hs3⟩ := Option.bind_eq_some_iff.1 hs2; obtain ⟨s, hfin, hs4⟩ := Option.map_eq_some_iff.1 hs3; obtain ⟨rfl, rfl⟩ := Prod.mk.inj hs4; obtain ⟨f1, f2, f3⟩ := hfree; have HNP := aa.mk f1; have HFR := aa.mk hfr; have HALL := aa.mk hall; have HOUT := aa.mk hout; have HFIN := aa.mk hfin; have HRL := aa.mk (show R.length = P.length by rw [← f3, List.length_map]); have c1 : ((count : Int) - (P.length : Int) != 1) = false := bne_eq_false_iff_eq.mpr hne; have hpl := HPL.out; have hwr : wrap64 ((count : Int) - (P.length : Int)) = (count : Int) - (P.length : Int) := wrp (by omega) (by omega); clear hs hs2 hs3 hs4 HS hall hout hfin f1 f3 hne hfr; go_enter Try.func82, Try.ntmps82; go_wp2_with (first
  | ((with_reducible refine Qg (f := 111) rfl ?_); refine QG (some 19) rfl rfl Try.func111 (by kernel_rfl) rfl #[.slice A0 l0.length c0] rfl (by (try simp only [List.map_toArray, List.map_cons, List.map_nil]); first | done | rfl) ?_; (with_reducible refine (HX.out _ HB.out).mono ?_); rintro e w9 ⟨v0, v1, rfl, ho0, ho1, hb⟩; refine ⟨_, rfl, ?_⟩; obtain ⟨Ar, cr, er⟩ := Kd.Zc ho0; subst er; obtain ⟨Ap, cp, ep⟩ := Kd.Zc ho1; subst ep; have HRR := aa.mk (Rd.of_C (Kd.QA ho0).2.2 (R_addr ho0)); have HCP := aa.mk (Kd.QA ho1).2.2; have HCPc := aa.mk (Kd.QA ho1).2.1; have HCRc := aa.mk (Kd.QA ho0).2.1; have HB2 := aa.mk (Qa HB.out hb); clear HB ho0 ho1 hb))
 have HB9 := aa.mk (Below.refl w9.heap.size w9); have HW9 := aa.mk (show w.heap.size ≤ w9.heap.size from HB2.out.size); go_loopw [8] (fun f_ w' => ∃ f : Nat, f ≤ free ∧ f_ = .int .i64 f ∧ aa (frg (7 - f) f P = free) ∧ aa (Below w9.heap.size w9 w')) (fun f_ _ => 7 - (intOf f_).toNat)
 case atStart => exact ⟨0, Nat.zero_le _, rfl, ⟨HFR.out.symm⟩, HB9⟩
 case round =>
  clear HB9; obtain ⟨f, hf, rfl, HF, HB9⟩ := hrel; have HCC := aa.mk (UT Ap cp P (f : Int) wr (Kd.Qo HCP.out HB9.out) HCPc.out HPL.out); obtain ⟨b, hb⟩ : ∃ b, b = decide ((f : Int) ∈ P) := ⟨_, rfl⟩; rw [← hb] at HCC; have HBB := aa.mk hb; clear hb; cases b with
  | true =>
   have hin : (f : Int) ∈ P := by have := HBB.out; simpa using this.symm
   have hff : frg (7 - (f + 1)) (f + 1) P = free := by
    have := HF.out; rw [show 7 - f = (7 - (f + 1)) + 1 by omega, frg, if_pos hin] at this; exact this
   have hle := frg_le (7 - (f + 1)) (f + 1) P; rw [hff] at hle; have HFF := aa.mk hff; clear hin hff; go_wp2_with (first
    | ((with_reducible refine Qg (f := 116) rfl ?_); refine QG (some 29) rfl rfl Try.func116 (by kernel_rfl) rfl #[.slice Ap P.length cp, .int .i64 (f : Int)] rfl (by (try simp only [List.map_toArray, List.map_cons, List.map_nil]); first | done | rfl) ?_; (with_reducible refine HCC.out.mono ?_); rintro e w10 ⟨rfl, hb⟩; refine ⟨_, rfl, ?_⟩; have n0_ := aa.mk (Qa HB9.out hb); clear HB9 hb; have HB9 := n0_; clear n0_))
   go_roundw
   case rel => exact ⟨f + 1, hle, by go_num, HFF, HB9⟩
   case measure => simp [intOf]; omega
  | false =>
   have hnin : (f : Int) ∉ P := by have := HBB.out; simpa using this.symm
   have hff : f = free := by
    have := HF.out; rw [show 7 - f = (6 - f) + 1 by omega, frg, if_neg hnin] at this; exact this
   subst hff; have HRZ := aa.mk (show alls (((R.map L6).zip P).drop 0) 1 = some all from HALL.out); clear hnin HF; go_wp2_with (first
    | ((with_reducible refine Qg (f := 116) rfl ?_); refine QG (some 29) rfl rfl Try.func116 (by kernel_rfl) rfl #[.slice Ap P.length cp, .int .i64 (f : Int)] rfl (by (try simp only [List.map_toArray, List.map_cons, List.map_nil]); first | done | rfl) ?_; (with_reducible refine HCC.out.mono ?_); rintro e w10 ⟨rfl, hb⟩; refine ⟨_, rfl, ?_⟩; have n0_ := aa.mk (Qa HB9.out hb); clear HB9 hb; have HB9 := n0_; clear n0_))
   go_loopw [9, 34] (fun a_ k_ w' => ∃ (k : Nat) (a : Int), k ≤ R.length ∧ k_ = .int .i64 k ∧ a_ = .int .i64 a ∧ aa (alls (((R.map L6).zip P).drop k) a = some all) ∧ aa (Below w9.heap.size w9 w')) (fun _ k_ _ => R.length - (intOf k_).toNat)
   case atStart => exact ⟨0, 1, Nat.zero_le _, rfl, rfl, HRZ, HB9⟩
   case round =>
    clear HRZ HB9 HCC HBB; obtain ⟨k, a, hk, rfl, rfl, HA, HB9⟩ := hrel; by_cases hkR : k < R.length
    ·have hkP : k < P.length := by rw [← HRL.out]; exact hkR
     have hkZ : k < ((R.map L6).zip P).length := by simp; omega
     have hze : ((R.map L6).zip P)[k] = (L6 R[k], P[k]) := by simp
     have ha := HA.out; rw [List.drop_eq_getElem_cons hkZ, hze, alls] at ha; split at ha
     case isFalse => cases ha
     rename_i hok
     obtain ⟨o1, o2, o3, o4, o5, o6⟩ : AllOk (L6 R[k]) P[k] a := hok; replace ha : alls (((R.map L6).zip P).drop (k + 1)) (a.tdiv (Int.gcd a ((L6 R[k]).getD P[k].toNat 0)) * (L6 R[k]).getD P[k].toNat 0) = some all := ha; obtain ⟨pn, hpn⟩ := Int.eq_ofNat_of_zero_le o1; obtain ⟨b, ob, hAr, hrg⟩ := HRR.out (by intro e; rw [List.map_eq_nil_iff] at e; rw [e] at hkR; simp at hkR); obtain ⟨hr6, hrange⟩ := hrg k (L6 R[k]) (by rw [List.getElem?_map, List.getElem?_eq_getElem hkR]; rfl); have HRG := aa.mk (Vh hrange HB9.out); obtain ⟨adp, eadp, hxp⟩ := Kd.Zh HCP.out (k : Int) (by omega) (by omega); rw [UB P k hkP, hpn] at hxp; simp only [Int.toNat_natCast] at hxp; replace hxp := (HB9.out.cell (World.block_lt_of_cell? w9 _ hxp)).trans hxp; subst hAr; subst eadp; simp only [hpn, Int.toNat_natCast] at o1 o2 o3 o4 o5 o6 ha; obtain ⟨r, hr⟩ : ∃ r, r = L6 R[k] := ⟨_, rfl⟩; have kN : r.length = 6 := by rw [hr]; rfl
     rw [← hr] at o4 o5 o6 ha hr6 HRG; have hcx : ∀ (W : World) (g : Nat), W.heap[g]? = some (.cells (arr r) 76 (0, 0)) → W.cell? ⟨g, pn, none⟩ = some (.int .i64 (r.getD pn 0)) := fun W g hh => YG hh pn (by omega)
     have HCX := aa.mk hcx; generalize r.getD pn 0 = x at *; have hdv := (fun W => Vu a x o3 o4 W); have hq : (a.tdiv (Int.gcd a x)).natAbs ≤ a.natAbs := by rw [Int.natAbs_tdiv]; exact Nat.div_le_self _ _
     have hgz : (Int.gcd a x : Int) ≠ 0 := by omega
     clear o5; generalize (Int.gcd a x : Int) = G at *; have HDV := aa.mk hdv; clear hdv; have HA2 := aa.mk ha; have HI := aa.mk (show (Try.prog.info? 76).map (·.size) = some (r.map (Value.int .i64)).length by rw [List.length_map, kN]; exact size76); have HI2 := aa.mk (show (Try.prog.info? 76).map (·.size) = some (arr r).size by rw [ZS, kN]; exact size76); have HR6 := aa.mk kN; have hg0 : (G == 0) = false := beq_eq_false_iff_ne.mpr hgz; have hg1 : ¬ G = 0 := hgz; unfold Lim at o3 o6; have w1 : IntKind.i64.wrap (a.tdiv G) = a.tdiv G := (Qy _).trans (wrp (by omega) (by omega)); have w2 : IntKind.i64.wrap (a.tdiv G * x) = a.tdiv G * x := (Qy _).trans (wrp (by omega) (by omega)); have ye : (pn : Int) < 6 := o2; have hHG := aa.mk (show (wr.alloc (.cells (arr zeros6) 76)).heap[wr.heap.size]? = some (.cells (arr zeros6) 76 (0, 0)) from YN wr _); have HXP := aa.mk hxp; clear hze ha o1 o2 o3 o4 o6 hrange hrg hr6 kN hq hr hcx hxp; go_wp2_with (first
      | (refine wpList_load_mid rfl 76 _ rfl b (ob + k * 6) rfl (r.map (Value.int .i64)) _ HRG.out Try.underlying76 rfl HI.out ?_)
      | (refine wpList_store_row rfl 76 _ _ rfl wr.heap.size (arr r) rfl rfl 76 (arr zeros6) hHG.out HI2.out (by rw [ZS, ZS, HR6.out]; rfl) (YX r) ?_))
     have hbw := Yq ((Below.refl wr.heap.size wr).alloc (Nat.le_refl _) (.cells (arr zeros6) 76)) (Nat.le_refl _) (arr r); have HSP := aa.mk (show (((wr.alloc (.cells (arr zeros6) 76)).setRow wr.heap.size (arr r)).drew).cell? (adp.add k) = some (.int .i64 (pn : Int)) from (hbw.cell (World.block_lt_of_cell? wr _ HXP.out)).trans HXP.out); have HSX := aa.mk (show (((wr.alloc (.cells (arr zeros6) 76)).setRow wr.heap.size (arr r)).drew).cell? ⟨wr.heap.size, pn, none⟩ = some (.int .i64 x) from HCX.out _ _ (setRow_heap _ _ _ _ _ _ hHG.out)); replace HB9 := aa.mk (YJ (Qa HB9.out hbw)); clear HRG HXP hHG hbw; generalize (wr.alloc (.cells (arr zeros6) 76)).setRow wr.heap.size (arr r) = W2 at *; generalize wr.heap.size = b11 at *; refine Yt (n := 18) (S := fun w' => w'.cell? (adp.add k) = some (.int .i64 (pn : Int)) ∧ w'.cell? ⟨b11, pn, none⟩ = some (.int .i64 x)) (ds := []) #[false, false, false, false, false, false, false, false, false, false, false, false, false, false, false, false, false, false] (by kernel_rfl) rfl rfl ⟨HSP.out, HSX.out⟩ (fun hHeld => ?_); refine ZV solu.tab11 solu.bits11 (fun HT_ HW_ => ?_); refine QX (i := 0) (N := some 39) (v := ?_) (a' := ?_) #[true, false, false, false, false, false, false, false, false, false, false, false, false, false, false, false, false, false] rfl rfl (QK HT_.out (by kernel_rfl)) (fun _ _ _ h => h) (Or.inl ⟨by rfl, ?_⟩) ?_ ?_; rotate_left
     ·intro w'; go_simp; with_reducible rfl
     rotate_left
     ·simp only [Act.put, zA, zB, zC, Qy, QB]; rfl
     refine QX (i := 1) (N := some 40) (v := ?_) (a' := ?_) #[true, true, false, false, false, false, false, false, false, false, false, false, false, false, false, false, false, false] rfl rfl (QK HT_.out (by kernel_rfl)) (fun _ _ _ h => h) (Or.inl ⟨by rfl, ?_⟩) ?_ ?_; rotate_left
     ·intro w'; go_simp; with_reducible rfl
     rotate_left
     ·simp only [Act.put, zA, zB, zC, Qy, QB]; rfl
     refine QX (i := 2) (N := some 41) (v := ?_) (a' := ?_) #[true, true, true, false, false, false, false, false, false, false, false, false, false, false, false, false, false, false] rfl rfl (QK HT_.out (by kernel_rfl)) (fun _ _ _ h => h) (Or.inl ⟨by rfl, ?_⟩) ?_ ?_; rotate_left
     ·intro w'; go_simp; with_reducible rfl
     rotate_left
     ·simp only [Act.put, zA, zB, zC, Qy, QB]; rfl
     refine QX (i := 3) (N := some 42) (v := ?_) (a' := ?_) #[true, true, true, true, false, false, false, false, false, false, false, false, false, false, false, false, false, false] rfl rfl (QK HT_.out (by kernel_rfl)) (fun _ _ _ h => h) (Or.inl ⟨by rfl, ?_⟩) ?_ ?_; rotate_left
     ·intro w'; go_simp; with_reducible rfl
     rotate_left
     ·simp only [Act.put, zA, zB, zC, Qy, QB]; rfl
     refine QX (i := 4) (N := some 43) (v := ?_) (a' := ?_) #[true, true, true, true, true, false, false, false, false, false, false, false, false, false, false, false, false, false] rfl rfl (QK HT_.out (by kernel_rfl)) (fun _ _ _ h => h) (Or.inl ⟨by rfl, ?_⟩) ?_ ?_; rotate_left
     ·intro w'; go_simp; with_reducible rfl
     rotate_left
     ·simp only [Act.put, zA, zB, zC, Qy, QB]; rfl
     refine QX (i := 10) (N := some 49) (v := ?_) (a' := ?_) #[true, true, true, true, true, false, false, false, false, false, true, false, false, false, false, false, false, false] rfl rfl (QK HT_.out (by kernel_rfl)) (fun _ _ _ h => h) (Or.inl ⟨by rfl, ?_⟩) ?_ ?_; rotate_left
     ·intro w'; go_simp; with_reducible rfl
     rotate_left
     ·simp only [Act.put, zA, zB, zC, Qy, QB]; rfl
     refine QX (i := 11) (N := some 50) (v := ?_) (a' := ?_) #[true, true, true, true, true, false, false, false, false, false, true, true, false, false, false, false, false, false] rfl rfl (QK HT_.out (by kernel_rfl)) (fun _ _ _ h => h) (Or.inl ⟨by rfl, ?_⟩) ?_ ?_; rotate_left
     ·intro w'; go_simp; with_reducible rfl
     rotate_left
     ·simp only [Act.put, zA, zB, zC, Qy, QB]; rfl
     refine QX (i := 12) (N := some 51) (v := ?_) (a' := ?_) #[true, true, true, true, true, false, false, false, false, false, true, true, true, false, false, false, false, false] rfl rfl (QK HT_.out (by kernel_rfl)) (fun _ _ _ h => h) (Or.inl ⟨by rfl, ?_⟩) ?_ ?_; rotate_left
     ·intro w'; go_simp; with_reducible rfl
     rotate_left
     ·simp only [Act.put, zA, zB, zC, Qy, QB]; rfl
     refine ZU (i := 5) (N := some 44) (v := ?_) (a' := ?_) #[true, true, true, true, true, true, false, false, false, false, true, true, true, false, false, false, false, false] rfl rfl (Zp HT_.out HW_.out (by kernel_rfl)) (fun _ _ _ h => h) (Or.inl ⟨by rfl, ?_⟩) hHeld ?_ ?_; rotate_left
     ·rintro w' ⟨s0, s1⟩; go_simp; with_reducible rfl
     rotate_left
     ·simp only [Act.put, zA, zB, zC, Qy, QB]; rfl
     refine QX (i := 6) (N := some 45) (v := ?_) (a' := ?_) #[true, true, true, true, true, true, true, false, false, false, true, true, true, false, false, false, false, false] rfl rfl (QK HT_.out (by kernel_rfl)) (fun _ _ _ h => h) (Or.inl ⟨by rfl, ?_⟩) ?_ ?_; rotate_left
     ·intro w'; go_simp; with_reducible rfl
     rotate_left
     ·simp only [Act.put, zA, zB, zC, Qy, QB]; rfl
     refine ZU (i := 7) (N := some 46) (v := ?_) (a' := ?_) #[true, true, true, true, true, true, true, true, false, false, true, true, true, false, false, false, false, false] rfl rfl (Zp HT_.out HW_.out (by kernel_rfl)) (fun _ _ _ h => h) (Or.inl ⟨by rfl, ?_⟩) hHeld ?_ ?_; rotate_left
     ·rintro w' ⟨s0, s1⟩; go_simp; with_reducible rfl
     rotate_left
     ·simp only [Act.put, zA, zB, zC, Qy, QB]; rfl
     refine ZU (i := 13) (N := some 52) (v := ?_) (a' := ?_) #[true, true, true, true, true, true, true, true, false, false, true, true, true, true, false, false, false, false] rfl rfl (Zp HT_.out HW_.out (by kernel_rfl)) (fun _ _ _ h => h) (Or.inl ⟨by rfl, ?_⟩) hHeld ?_ ?_; rotate_left
     ·rintro w' ⟨s0, s1⟩; go_simp; with_reducible rfl
     rotate_left
     ·simp only [Act.put, zA, zB, zC, Qy, QB]; rfl
     refine QX (i := 14) (N := some 53) (v := ?_) (a' := ?_) #[true, true, true, true, true, true, true, true, false, false, true, true, true, true, true, false, false, false] rfl rfl (QK HT_.out (by kernel_rfl)) (fun _ _ _ h => h) (Or.inl ⟨by rfl, ?_⟩) ?_ ?_; rotate_left
     ·intro w'; go_simp; with_reducible rfl
     rotate_left
     ·simp only [Act.put, zA, zB, zC, Qy, QB]; rfl
     refine ZU (i := 15) (N := some 54) (v := ?_) (a' := ?_) #[true, true, true, true, true, true, true, true, false, false, true, true, true, true, true, true, false, false] rfl rfl (Zp HT_.out HW_.out (by kernel_rfl)) (fun _ _ _ h => h) (Or.inl ⟨by rfl, ?_⟩) hHeld ?_ ?_; rotate_left
     ·rintro w' ⟨s0, s1⟩; go_simp; with_reducible rfl
     rotate_left
     ·simp only [Act.put, zA, zB, zC, Qy, QB]; rfl
     refine one_ (i := 8) (N := some 47) #[true, true, true, true, true, true, true, true, true, false, true, true, true, true, true, true, false, false] rfl rfl (ZT HT_.out (by kernel_rfl)) (by decide) (fun K hK => ?_); refine Vj Try.func117 (by kernel_rfl) rfl #[.int .i64 a, .int .i64 x] (by rfl) rfl rfl (by (try simp only [List.map_toArray, List.map_cons, List.map_nil]); first | done | rfl) ?_; with_reducible refine (HDV.out _).mono ?_
     rintro e w13 ⟨rfl, hb⟩; refine ⟨_, rfl, ?_⟩; replace HSP := aa.mk ((hb.cell (World.block_lt_of_cell? _ _ HSP.out)).trans HSP.out); replace HSX := aa.mk ((hb.cell (World.block_lt_of_cell? _ _ HSX.out)).trans HSX.out); replace HB9 := aa.mk (Qa HB9.out hb); clear hb; refine hK.out _ _ ⟨HSP.out, HSX.out⟩ (fun hHeld => ?_); clear hK K; refine Yc (a' := ?_) ?_ ?_; rotate_left
     ·show Act.put _ (some 47) _ = _
      simp only [Act.put, zA, zB, zC, Qy, QB]; rfl
     refine QX (i := 9) (N := some 48) (v := ?_) (a' := ?_) #[true, true, true, true, true, true, true, true, true, true, true, true, true, true, true, true, false, false] rfl rfl (QK HT_.out (by kernel_rfl)) (fun _ _ _ h => h) (Or.inl ⟨by rfl, ?_⟩) ?_ ?_; rotate_left
     ·intro w'; go_simp; with_reducible rfl
     rotate_left
     ·simp only [Act.put, zA, zB, zC, Qy, QB]; rfl
     refine QX (i := 16) (N := some 55) (v := ?_) (a' := ?_) #[true, true, true, true, true, true, true, true, true, true, true, true, true, true, true, true, true, false] rfl rfl (QK HT_.out (by kernel_rfl)) (fun _ _ _ h => h) (Or.inl ⟨by rfl, ?_⟩) ?_ ?_; rotate_left
     ·intro w'; go_simp; with_reducible rfl
     rotate_left
     ·simp only [Act.put, zA, zB, zC, Qy, QB]; rfl
     refine QX (i := 17) (N := some 9) (v := ?_) (a' := ?_) #[true, true, true, true, true, true, true, true, true, true, true, true, true, true, true, true, true, true] rfl rfl (QK HT_.out (by kernel_rfl)) (fun _ _ _ h => h) (Or.inl ⟨by rfl, ?_⟩) ?_ ?_; rotate_left
     ·intro w'; go_simp; with_reducible rfl
     rotate_left
     ·simp only [Act.put, zA, zB, zC, Qy, QB]; rfl
     refine YM (Yi HT_.out (by kernel_rfl)) ?_; go_wp2_with fail
     go_roundw
     case rel => exact ⟨k + 1, a.tdiv G * x, by omega, by go_num, rfl, HA2, HB9⟩
     case measure => simp [intOf]; omega
    ·obtain rfl : k = R.length := by omega
     have ha : a = all := by
      have := HA.out; rw [List.drop_eq_nil_of_le (by simp; omega), alls] at this; exact Option.some.inj this
     subst ha; have AS : (f : Int) < 6 := by omega
     have hz0 : (arr zeros6)[f]? = some (.int .i64 0) := by
      rw [Us _ _ (by show f < 6; omega), Uu]
     have HOZ := aa.mk (show outs f a (((R.map L6).zip P).drop 0) (zeros6.set f a) = some o from HOUT.out); have HOL := aa.mk (show (zeros6.set f a).length = 6 by simp [zeros6]); have eV := aa.mk (show (wr.alloc (.cells ((arr zeros6).setIfInBounds f (.int .i64 a)) 76)).heap[wr.heap.size]? = some (.cells (arr (zeros6.set f a)) 76 (0, 0)) from by rw [JR]; exact YN wr _); have vQ := aa.mk (show Below w9.heap.size w9 (wr.alloc (.cells ((arr zeros6).setIfInBounds f (.int .i64 a)) 76)) from HB9.out.alloc HB9.out.size _); have qV := aa.mk (show w9.heap.size ≤ wr.heap.size from HB9.out.size); go_wp2_with fail
     clear hz0 HB9 HA HALL HOUT; generalize wr.alloc (.cells ((arr zeros6).setIfInBounds f (.int .i64 a)) 76) = W3 at *; generalize wr.heap.size = b12 at *; generalize zeros6.set f a = q at *; go_loopw [62] (fun k_ w' => ∃ (k : Nat) (q : List Int), k ≤ R.length ∧ k_ = .int .i64 k ∧ aa (outs f a (((R.map L6).zip P).drop k) q = some o) ∧ aa (q.length = 6) ∧ aa (w'.heap[b12]? = some (.cells (arr q) 76 (0, 0))) ∧ aa (Below w9.heap.size w9 w')) (fun k_ _ => R.length - (intOf k_).toNat)
     case atStart => exact ⟨0, q, Nat.zero_le _, rfl, HOZ, HOL, eV, vQ⟩
     case round =>
      clear HOZ HOL eV vQ q; obtain ⟨k, q, hk, rfl, HA, HQL, eV, HB9⟩ := hrel; by_cases hkR : k < R.length
      ·have hkP : k < P.length := by rw [← HRL.out]; exact hkR
       have hkZ : k < ((R.map L6).zip P).length := by simp; omega
       have hze : ((R.map L6).zip P)[k] = (L6 R[k], P[k]) := by simp
       have ha := HA.out; rw [List.drop_eq_getElem_cons hkZ, hze, outs] at ha; split at ha
       case isFalse => cases ha
       rename_i hok
       obtain ⟨o1, o2, o3, o4, o5, o6⟩ : OutOk f a (L6 R[k]) P[k] := hok; replace ha : outs f a (((R.map L6).zip P).drop (k + 1)) (q.set P[k].toNat (-((L6 R[k]).getD f 0) * a.tdiv ((L6 R[k]).getD P[k].toNat 0))) = some o := ha; obtain ⟨pn, hpn⟩ := Int.eq_ofNat_of_zero_le o1; obtain ⟨b, ob, hAr, hrg⟩ := HRR.out (by intro e; rw [List.map_eq_nil_iff] at e; rw [e] at hkR; simp at hkR); obtain ⟨hr6, hrange⟩ := hrg k (L6 R[k]) (by rw [List.getElem?_map, List.getElem?_eq_getElem hkR]; rfl); have HRG := aa.mk (Vh hrange HB9.out); obtain ⟨adp, eadp, hxp⟩ := Kd.Zh HCP.out (k : Int) (by omega) (by omega); rw [UB P k hkP, hpn] at hxp; simp only [Int.toNat_natCast] at hxp; replace hxp := (HB9.out.cell (World.block_lt_of_cell? w9 _ hxp)).trans hxp; subst hAr; subst eadp; simp only [hpn, Int.toNat_natCast] at o1 o2 o3 o4 o5 o6 ha; obtain ⟨r, hr⟩ : ∃ r, r = L6 R[k] := ⟨_, rfl⟩; have kN : r.length = 6 := by rw [hr]; rfl
       rw [← hr] at o4 o5 o6 ha hr6 HRG; have hcx : ∀ (W : World) (g : Nat), W.heap[g]? = some (.cells (arr r) 76 (0, 0)) → W.cell? ⟨g, pn, none⟩ = some (.int .i64 (r.getD pn 0)) := fun W g hh => YG hh pn (by omega)
       have hcy : ∀ (W : World) (g : Nat), W.heap[g]? = some (.cells (arr r) 76 (0, 0)) → W.cell? ⟨g, f, none⟩ = some (.int .i64 (r.getD f 0)) := fun W g hh => YG hh f (by omega)
       have HCX := aa.mk hcx; have HCY := aa.mk hcy; obtain ⟨x, hx⟩ : ∃ x, x = r.getD pn 0 := ⟨_, rfl⟩; obtain ⟨y, hy⟩ : ∃ y, y = r.getD f 0 := ⟨_, rfl⟩; rw [← hx] at o5 o6 ha HCX; rw [← hy] at o4 o6 ha HCY; have HA2 := aa.mk ha; have HI := aa.mk (show (Try.prog.info? 76).map (·.size) = some (r.map (Value.int .i64)).length by rw [List.length_map, kN]; exact size76); have HI2 := aa.mk (show (Try.prog.info? 76).map (·.size) = some (arr r).size by rw [ZS, kN]; exact size76); have HR6 := aa.mk kN; have hg0 : (x == 0) = false := beq_eq_false_iff_ne.mpr o5; have hg1 : ¬ x = 0 := o5; have hq : (a.tdiv x).natAbs ≤ a.natAbs := by rw [Int.natAbs_tdiv]; exact Nat.div_le_self _ _
       unfold Lim at o3 o4 o6; have w1 : IntKind.i64.wrap (a.tdiv x) = a.tdiv x := (Qy _).trans (wrp (by omega) (by omega)); have w2 : IntKind.i64.wrap (-y * a.tdiv x) = -y * a.tdiv x := (Qy _).trans (wrp (by omega) (by omega)); have w3 : IntKind.i64.wrap (-y) = -y := (Qy _).trans (wrp (by omega) (by omega)); have ye : (pn : Int) < 6 := o2; have hHG := aa.mk (show (wr.alloc (.cells (arr zeros6) 76)).heap[wr.heap.size]? = some (.cells (arr zeros6) 76 (0, 0)) from YN wr _); have HXP := aa.mk hxp; clear hze ha o1 o2 o3 o4 o5 o6 hrange hrg hr6 kN hq hr hcx hcy hxp hx hy; go_wp2_with (first
        | (refine wpList_load_mid rfl 76 _ rfl b (ob + k * 6) rfl (r.map (Value.int .i64)) _ HRG.out Try.underlying76 rfl HI.out ?_)
        | (refine wpList_store_row rfl 76 _ _ rfl wr.heap.size (arr r) rfl rfl 76 (arr zeros6) hHG.out HI2.out (by rw [ZS, ZS, HR6.out]; rfl) (YX r) ?_))
       have hbw := Yq ((Below.refl wr.heap.size wr).alloc (Nat.le_refl _) (.cells (arr zeros6) 76)) (Nat.le_refl _) (arr r); have HSP := aa.mk (show (((wr.alloc (.cells (arr zeros6) 76)).setRow wr.heap.size (arr r)).drew).cell? (adp.add k) = some (.int .i64 (pn : Int)) from (hbw.cell (World.block_lt_of_cell? wr _ HXP.out)).trans HXP.out); have HSX := aa.mk (show (((wr.alloc (.cells (arr zeros6) 76)).setRow wr.heap.size (arr r)).drew).cell? ⟨wr.heap.size, pn, none⟩ = some (.int .i64 x) from HCX.out _ _ (setRow_heap _ _ _ _ _ _ hHG.out)); have HSY := aa.mk (show (((wr.alloc (.cells (arr zeros6) 76)).setRow wr.heap.size (arr r)).drew).cell? ⟨wr.heap.size, f, none⟩ = some (.int .i64 y) from HCY.out _ _ (setRow_heap _ _ _ _ _ _ hHG.out)); have py := aa.mk (show (((wr.alloc (.cells (arr zeros6) 76)).setRow wr.heap.size (arr r)).drew).heap[b12]? = some (.cells (arr q) 76 (0, 0)) from (hbw.block _ (VC eV.out)).trans eV.out); have n3_ := aa.mk (YJ (Qa HB9.out hbw)); have hql := HQL.out; have yA := YG py.out pn (by omega); have AV := VD py.out pn; clear HB9 hbw hHG HXP HRG eV; have HB9 := n3_; have HST := aa.mk (V4 py.out pn (-y * a.tdiv x)); clear n3_; generalize (wr.alloc (.cells (arr zeros6) 76)).setRow wr.heap.size (arr r) = W2 at *; generalize wr.heap.size = b14 at *; generalize q.getD pn 0 = old at yA; refine Yt (n := 19) (S := fun w' => w'.cell? (adp.add k) = some (.int .i64 (pn : Int)) ∧ w'.cell? ⟨b14, f, none⟩ = some (.int .i64 y) ∧ w'.cell? ⟨b14, pn, none⟩ = some (.int .i64 x)) (ds := [18]) #[false, false, false, false, false, false, false, false, false, false, false, false, false, false, false, false, false, false, false] (by kernel_rfl) rfl rfl ⟨HSP.out, HSY.out, HSX.out⟩ (fun hHeld => ?_); refine ZV solu.tab18 solu.bits18 (fun HT_ HW_ => ?_); refine QX (i := 0) (N := some 67) (v := ?_) (a' := ?_) #[true, false, false, false, false, false, false, false, false, false, false, false, false, false, false, false, false, false, false] rfl rfl (QK HT_.out (by kernel_rfl)) (fun _ _ _ h => h) (Or.inl ⟨by rfl, ?_⟩) ?_ ?_; rotate_left
       ·intro w'; go_simp; with_reducible rfl
       rotate_left
       ·simp only [Act.put, zA, zB, zC, Qy, QB]; rfl
       refine QX (i := 1) (N := some 68) (v := ?_) (a' := ?_) #[true, true, false, false, false, false, false, false, false, false, false, false, false, false, false, false, false, false, false] rfl rfl (QK HT_.out (by kernel_rfl)) (fun _ _ _ h => h) (Or.inl ⟨by rfl, ?_⟩) ?_ ?_; rotate_left
       ·intro w'; go_simp; with_reducible rfl
       rotate_left
       ·simp only [Act.put, zA, zB, zC, Qy, QB]; rfl
       refine QX (i := 2) (N := some 69) (v := ?_) (a' := ?_) #[true, true, true, false, false, false, false, false, false, false, false, false, false, false, false, false, false, false, false] rfl rfl (QK HT_.out (by kernel_rfl)) (fun _ _ _ h => h) (Or.inl ⟨by rfl, ?_⟩) ?_ ?_; rotate_left
       ·intro w'; go_simp; with_reducible rfl
       rotate_left
       ·simp only [Act.put, zA, zB, zC, Qy, QB]; rfl
       refine QX (i := 4) (N := some 71) (v := ?_) (a' := ?_) #[true, true, true, false, true, false, false, false, false, false, false, false, false, false, false, false, false, false, false] rfl rfl (QK HT_.out (by kernel_rfl)) (fun _ _ _ h => h) (Or.inl ⟨by rfl, ?_⟩) ?_ ?_; rotate_left
       ·intro w'; go_simp; with_reducible rfl
       rotate_left
       ·simp only [Act.put, zA, zB, zC, Qy, QB]; rfl
       refine QX (i := 5) (N := some 72) (v := ?_) (a' := ?_) #[true, true, true, false, true, true, false, false, false, false, false, false, false, false, false, false, false, false, false] rfl rfl (QK HT_.out (by kernel_rfl)) (fun _ _ _ h => h) (Or.inl ⟨by rfl, ?_⟩) ?_ ?_; rotate_left
       ·intro w'; go_simp; with_reducible rfl
       rotate_left
       ·simp only [Act.put, zA, zB, zC, Qy, QB]; rfl
       refine QX (i := 8) (N := some 75) (v := ?_) (a' := ?_) #[true, true, true, false, true, true, false, false, true, false, false, false, false, false, false, false, false, false, false] rfl rfl (QK HT_.out (by kernel_rfl)) (fun _ _ _ h => h) (Or.inl ⟨by rfl, ?_⟩) ?_ ?_; rotate_left
       ·intro w'; go_simp; with_reducible rfl
       rotate_left
       ·simp only [Act.put, zA, zB, zC, Qy, QB]; rfl
       refine QX (i := 9) (N := some 76) (v := ?_) (a' := ?_) #[true, true, true, false, true, true, false, false, true, true, false, false, false, false, false, false, false, false, false] rfl rfl (QK HT_.out (by kernel_rfl)) (fun _ _ _ h => h) (Or.inl ⟨by rfl, ?_⟩) ?_ ?_; rotate_left
       ·intro w'; go_simp; with_reducible rfl
       rotate_left
       ·simp only [Act.put, zA, zB, zC, Qy, QB]; rfl
       refine QX (i := 10) (N := some 77) (v := ?_) (a' := ?_) #[true, true, true, false, true, true, false, false, true, true, true, false, false, false, false, false, false, false, false] rfl rfl (QK HT_.out (by kernel_rfl)) (fun _ _ _ h => h) (Or.inl ⟨by rfl, ?_⟩) ?_ ?_; rotate_left
       ·intro w'; go_simp; with_reducible rfl
       rotate_left
       ·simp only [Act.put, zA, zB, zC, Qy, QB]; rfl
       refine QX (i := 11) (N := some 78) (v := ?_) (a' := ?_) #[true, true, true, false, true, true, false, false, true, true, true, true, false, false, false, false, false, false, false] rfl rfl (QK HT_.out (by kernel_rfl)) (fun _ _ _ h => h) (Or.inl ⟨by rfl, ?_⟩) ?_ ?_; rotate_left
       ·intro w'; go_simp; with_reducible rfl
       rotate_left
       ·simp only [Act.put, zA, zB, zC, Qy, QB]; rfl
       refine ZU (i := 3) (N := some 70) (v := ?_) (a' := ?_) #[true, true, true, true, true, true, false, false, true, true, true, true, false, false, false, false, false, false, false] rfl rfl (Zp HT_.out HW_.out (by kernel_rfl)) (fun _ _ _ h => h) (Or.inl ⟨by rfl, ?_⟩) hHeld ?_ ?_; rotate_left
       ·rintro w' ⟨s0, s1, s2⟩; go_simp; with_reducible rfl
       rotate_left
       ·simp only [Act.put, zA, zB, zC, Qy, QB]; rfl
       refine ZU (i := 6) (N := some 73) (v := ?_) (a' := ?_) #[true, true, true, true, true, true, true, false, true, true, true, true, false, false, false, false, false, false, false] rfl rfl (Zp HT_.out HW_.out (by kernel_rfl)) (fun _ _ _ h => h) (Or.inl ⟨by rfl, ?_⟩) hHeld ?_ ?_; rotate_left
       ·rintro w' ⟨s0, s1, s2⟩; go_simp; with_reducible rfl
       rotate_left
       ·simp only [Act.put, zA, zB, zC, Qy, QB]; rfl
       refine QX (i := 7) (N := some 74) (v := ?_) (a' := ?_) #[true, true, true, true, true, true, true, true, true, true, true, true, false, false, false, false, false, false, false] rfl rfl (QK HT_.out (by kernel_rfl)) (fun _ _ _ h => h) (Or.inl ⟨by rfl, ?_⟩) ?_ ?_; rotate_left
       ·intro w'; go_simp; with_reducible rfl
       rotate_left
       ·simp only [Act.put, zA, zB, zC, Qy, QB]; rfl
       refine ZU (i := 12) (N := some 79) (v := ?_) (a' := ?_) #[true, true, true, true, true, true, true, true, true, true, true, true, true, false, false, false, false, false, false] rfl rfl (Zp HT_.out HW_.out (by kernel_rfl)) (fun _ _ _ h => h) (Or.inl ⟨by rfl, ?_⟩) hHeld ?_ ?_; rotate_left
       ·rintro w' ⟨s0, s1, s2⟩; go_simp; with_reducible rfl
       rotate_left
       ·simp only [Act.put, zA, zB, zC, Qy, QB]; rfl
       refine QX (i := 13) (N := some 80) (v := ?_) (a' := ?_) #[true, true, true, true, true, true, true, true, true, true, true, true, true, true, false, false, false, false, false] rfl rfl (QK HT_.out (by kernel_rfl)) (fun _ _ _ h => h) (Or.inl ⟨by rfl, ?_⟩) ?_ ?_; rotate_left
       ·intro w'; go_simp; with_reducible rfl
       rotate_left
       ·simp only [Act.put, zA, zB, zC, Qy, QB]; rfl
       refine ZU (i := 14) (N := some 81) (v := ?_) (a' := ?_) #[true, true, true, true, true, true, true, true, true, true, true, true, true, true, true, false, false, false, false] rfl rfl (Zp HT_.out HW_.out (by kernel_rfl)) (fun _ _ _ h => h) (Or.inl ⟨by rfl, ?_⟩) hHeld ?_ ?_; rotate_left
       ·rintro w' ⟨s0, s1, s2⟩; go_simp; with_reducible rfl
       rotate_left
       ·simp only [Act.put, zA, zB, zC, Qy, QB]; rfl
       refine QX (i := 15) (N := some 82) (v := ?_) (a' := ?_) #[true, true, true, true, true, true, true, true, true, true, true, true, true, true, true, true, false, false, false] rfl rfl (QK HT_.out (by kernel_rfl)) (fun _ _ _ h => h) (Or.inl ⟨by rfl, ?_⟩) ?_ ?_; rotate_left
       ·intro w'; go_simp; with_reducible rfl
       rotate_left
       ·simp only [Act.put, zA, zB, zC, Qy, QB]; rfl
       refine QX (i := 16) (N := some 83) (v := ?_) (a' := ?_) #[true, true, true, true, true, true, true, true, true, true, true, true, true, true, true, true, true, false, false] rfl rfl (QK HT_.out (by kernel_rfl)) (fun _ _ _ h => h) (Or.inl ⟨by rfl, ?_⟩) ?_ ?_; rotate_left
       ·intro w'; go_simp; with_reducible rfl
       rotate_left
       ·simp only [Act.put, zA, zB, zC, Qy, QB]; rfl
       refine QX (i := 17) (N := some 84) (v := ?_) (a' := ?_) #[true, true, true, true, true, true, true, true, true, true, true, true, true, true, true, true, true, true, false] rfl rfl (QK HT_.out (by kernel_rfl)) (fun _ _ _ h => h) (Or.inl ⟨by rfl, ?_⟩) ?_ ?_; rotate_left
       ·intro w'; go_simp; with_reducible rfl
       rotate_left
       ·simp only [Act.put, zA, zB, zC, Qy, QB]; rfl
       refine last_ (i := 18) (N := none) #[true, true, true, true, true, true, true, true, true, true, true, true, true, true, true, true, true, true, true] rfl rfl (ZT HT_.out (by kernel_rfl)) (by decide) (fun K hK => ?_); refine skip_ (w1 := ?_) (by rfl) rfl ?_ ?_; rotate_left
       ·go_simp; rfl
       refine hK.out _ _ ?_; clear hK K; refine YM (Yi HT_.out (by kernel_rfl)) ?_; go_wp2_with fail
       go_roundw
       case rel => exact ⟨k + 1, q.set pn (-y * a.tdiv x), by omega, by go_num, HA2, ⟨by rw [List.length_set]; exact HQL.out⟩, ⟨HST.out⟩, ⟨HB9.out.setCell qV.out _⟩⟩
       case measure => simp [intOf]; omega
      ·obtain rfl : k = R.length := by omega
       have hq : q = o := by
        have := HA.out; rw [List.drop_eq_nil_of_le (by simp; omega), outs] at this; exact Option.some.inj this
       subst hq; have hfin := HFIN.out; unfold fin at hfin; split at hfin
       case isFalse => cases hfin
       rename_i hfc
       obtain ⟨hlim, hnz⟩ := hfc; have hql := HQL.out; have hzl : (pln q).length = 6 := by rw [YO, hql]
       have hzlim : ∀ x ∈ pln q, Lim x := pln_lim hlim; have hnl := nzi_lt ((pln q).take count); obtain ⟨fn, hfn⟩ := Int.eq_ofNat_of_zero_le hnz; rw [hfn] at hnl; have AU : fn < 6 := by rw [List.length_take] at hnl; omega
       rw [hfn] at hfin; simp only [Int.toNat_natCast] at hfin; have HFS := aa.mk (Option.some.inj hfin); have HPC := aa.mk (fun W => Ue q W hql hlim); have HI2 := aa.mk (show (Try.prog.info? 76).map (·.size) = some (arr q).size by rw [ZS, hql]; exact size76); have HI3 := aa.mk (show (Try.prog.info? 76).map (·.size) = some (arr (pln q)).size by rw [ZS, hzl]; exact size76); have HZL := aa.mk hzl; have HZM := aa.mk hzlim; have HSZ := aa.mk (show (arr (pln q)).size = (arr q).size by rw [ZS, ZS, hzl, hql]); have htl : ((pln q).take count).length = count := by rw [List.length_take, hzl]; omega
       have HNZ := aa.mk (fun (W : World) (hh : W.heap[b12]? = some (.cells (arr (pln q)) 76 (0, 0))) => by
        have h1 := nzi_calls (some ⟨b12, 0, none⟩) 6 ((pln q).take count) W (C_arr hh (by omega) (by omega)) (by omega) (by omega); rw [htl, hfn] at h1; exact h1)
       have HCLN := aa.mk (fun (W : World) (u : List Int) (hu : u.length = 6) (hh : W.heap[b12]? = some (.cells (arr u) 76 (0, 0))) => by
        have h1 := Z3.calls (some ⟨b12, 0, none⟩) 6 (u.take count) (u.take count) W (C_arr hh (by omega) (by omega)) (by rw [List.length_take]; omega) (by unfold Z3.f; rw [if_pos (by rw [List.length_take]; omega)]); rw [show (u.take count).length = count by rw [List.length_take]; omega] at h1; exact h1)
       clear hfin hlim hnz hql hzl hzlim hnl hfn htl HFIN HA hkR; generalize pln q = z at *; have AT : (fn : Int) < 6 := by omega
       have AW : count ≤ 6 := HCT.out; have hsl := slice76 b12 count HCT.out; obtain ⟨zf, hzf⟩ : ∃ v, v = z.getD fn 0 := ⟨_, rfl⟩; have HCZ := aa.mk (fun (W : World) (hh : W.heap[b12]? = some (.cells (arr z) 76 (0, 0))) => (YG hh fn (by rw [HZL.out]; omega)).trans (by rw [← hzf])); by_cases hneg : z.getD fn 0 < 0
       ·have hfs := HFS.out; rw [if_pos hneg] at hfs; rw [← hzf] at hneg; have c2 : decide (zf < 0) = true := decide_eq_true hneg; have tM := aa.mk hfs; clear HFS hfs hzf; go_wp2_with (first
         | (refine wpList_load_row rfl 76 _ rfl b12 rfl 76 (arr q) (0, 0) _ eV.out Try.underlying76 rfl HI2.out ?_)
         | ((with_reducible refine Qg (f := 118) rfl ?_); refine QG (some 87) rfl rfl Try.func118 (by kernel_rfl) rfl #[.agg (arr q)] rfl (by (try simp only [List.map_toArray, List.map_cons, List.map_nil]); first | done | rfl) ?_; (with_reducible refine (HPC.out _).mono ?_); rintro e w18 ⟨rfl, hb⟩; refine ⟨_, rfl, ?_⟩; have n1_ := aa.mk (Qq eV.out hb); have n2_ := aa.mk (Qa HB9.out hb); have kb := aa.mk (setRow_heap w18 b12 (arr q) (arr z) 76 (0, 0) n1_.out); have HBZ := aa.mk (Yq n2_.out qV.out (arr z)); clear eV HB9 hb; have eV := n1_; clear n1_ n2_)
         | (refine wpList_store_row rfl 76 _ _ rfl b12 (arr z) rfl rfl 76 (arr q) eV.out HI3.out HSZ.out.symm (YX z) ?_)
         | ((with_reducible refine Qg (f := 119) rfl ?_); refine QG (some 90) rfl rfl Try.func119 (by kernel_rfl) rfl #[.slice (some ⟨b12, 0, none⟩) count 6, .func (.func 120) #[] #[]] rfl (by (try simp only [List.map_toArray, List.map_cons, List.map_nil]); first | done | rfl) ?_; (with_reducible refine (HNZ.out _ kb.out).mono ?_); rintro e w19 ⟨rfl, hb⟩; refine ⟨_, rfl, ?_⟩; have ky := aa.mk (Qq kb.out hb); have HBY := aa.mk (Qa HBZ.out hb); have hcz := HCZ.out _ ky.out; clear kb HBZ hb))
        go_loopw [95] (fun i_ w' => ∃ (i : Nat) (u : List Int), i ≤ 6 ∧ i_ = .int .i64 i ∧ aa (u = (z.take i).map (fun x => -x) ++ z.drop i) ∧ aa (w'.heap[b12]? = some (.cells (arr u) 76 (0, 0))) ∧ aa (Below w9.heap.size w9 w')) (fun i_ _ => 6 - (intOf i_).toNat)
        case atStart => exact ⟨0, z, by omega, rfl, ⟨by simp⟩, ky, HBY⟩
        case round =>
         clear ky HBY hcz eV; obtain ⟨i, u, hi, rfl, HU, eV, HB9⟩ := hrel; have hul : u.length = 6 := by rw [HU.out]; simp [HZL.out]; omega
         by_cases hi6 : i < 6
         ·have hiz : i < z.length := by rw [HZL.out]; exact hi6
          have hui : u.getD i 0 = z[i] := by
           rw [HU.out, List.getD_eq_getElem?_getD, List.getElem?_append_right (by simp; omega), List.length_map, List.length_take, Nat.min_eq_left (by omega), Nat.sub_self, List.getElem?_drop, Nat.add_zero, List.getElem?_eq_getElem hiz]; rfl
          have hset : u.set i (-z[i]) = (z.take (i + 1)).map (fun x => -x) ++ z.drop (i + 1) := by
           rw [HU.out, List.set_append_right _ _ (by simp; omega), List.length_map, List.length_take, Nat.min_eq_left (by omega), Nat.sub_self, List.drop_eq_getElem_cons hiz, List.set_cons_zero, List.take_succ_eq_append_getElem hiz, List.map_append, List.append_assoc]; rfl
          have HSET := aa.mk hset; have hcu := YG eV.out i (by omega); rw [hui] at hcu; have hfu := VD eV.out i; have hzx := HZM.out _ (List.getElem_mem hiz); unfold Lim at hzx; generalize z[i] = x at *; have w1 : wrap64 (-x) = -x := wrp (by omega) (by omega); clear hui hset; go_wp2_with fail
          go_roundw
          case rel => exact ⟨i + 1, u.set i (-x), by omega, by go_num, HSET, ⟨V4 eV.out i _⟩, ⟨HB9.out.setCell qV.out _⟩⟩
          case measure => simp [intOf]; omega
         ·obtain rfl : i = 6 := by omega
          have HUL := aa.mk hul; have hus : u.take count = s := by
           have e1 : z.take 6 = z := List.take_of_length_le (by rw [HZL.out]; exact Nat.le_refl _); have e2 : z.drop 6 = [] := List.drop_eq_nil_of_le (by rw [HZL.out]; exact Nat.le_refl _); rw [← tM.out, HU.out, e1, e2, List.append_nil]
          have HUS := aa.mk hus; clear hus hul; go_wp2_with (first | ((with_reducible refine Qg (f := 79) rfl ?_); refine QG (some 107) rfl rfl Try.func79 (by kernel_rfl) rfl #[.slice (some ⟨b12, 0, none⟩) count 6] rfl (by (try simp only [List.map_toArray, List.map_cons, List.map_nil]); first | done | rfl) ?_; (with_reducible refine (HCLN.out _ u HUL.out eV.out).mono ?_); rintro e w20 ⟨v20, rfl, ho, hb⟩; refine ⟨_, rfl, ?_⟩; have HOO := aa.mk ho; have HBF := aa.mk (Qa HB9.out hb); clear ho hb))
          go_ret2; refine ⟨_, rfl, ?_, Qa HB2.out HBF.out⟩; rw [← HUS.out]; exact Kd.Zg HOO.out (Nat.le_trans HW9.out HB9.out.size)
       ·have hfs := HFS.out; rw [if_neg hneg] at hfs; rw [← hzf] at hneg; have c2 : decide (zf < 0) = false := decide_eq_false hneg; have tM := aa.mk hfs; clear HFS hfs hzf; go_wp2_with (first
         | (refine wpList_load_row rfl 76 _ rfl b12 rfl 76 (arr q) (0, 0) _ eV.out Try.underlying76 rfl HI2.out ?_)
         | ((with_reducible refine Qg (f := 118) rfl ?_); refine QG (some 87) rfl rfl Try.func118 (by kernel_rfl) rfl #[.agg (arr q)] rfl (by (try simp only [List.map_toArray, List.map_cons, List.map_nil]); first | done | rfl) ?_; (with_reducible refine (HPC.out _).mono ?_); rintro e w18 ⟨rfl, hb⟩; refine ⟨_, rfl, ?_⟩; have n1_ := aa.mk (Qq eV.out hb); have n2_ := aa.mk (Qa HB9.out hb); have kb := aa.mk (setRow_heap w18 b12 (arr q) (arr z) 76 (0, 0) n1_.out); have HBZ := aa.mk (Yq n2_.out qV.out (arr z)); clear eV HB9 hb; have eV := n1_; clear n1_ n2_)
         | (refine wpList_store_row rfl 76 _ _ rfl b12 (arr z) rfl rfl 76 (arr q) eV.out HI3.out HSZ.out.symm (YX z) ?_)
         | ((with_reducible refine Qg (f := 119) rfl ?_); refine QG (some 90) rfl rfl Try.func119 (by kernel_rfl) rfl #[.slice (some ⟨b12, 0, none⟩) count 6, .func (.func 120) #[] #[]] rfl (by (try simp only [List.map_toArray, List.map_cons, List.map_nil]); first | done | rfl) ?_; (with_reducible refine (HNZ.out _ kb.out).mono ?_); rintro e w19 ⟨rfl, hb⟩; refine ⟨_, rfl, ?_⟩; have ky := aa.mk (Qq kb.out hb); have HBY := aa.mk (Qa HBZ.out hb); have hcz := HCZ.out _ ky.out; clear kb HBZ hb)
         | ((with_reducible refine Qg (f := 79) rfl ?_); refine QG (some 107) rfl rfl Try.func79 (by kernel_rfl) rfl #[.slice (some ⟨b12, 0, none⟩) count 6] rfl (by (try simp only [List.map_toArray, List.map_cons, List.map_nil]); first | done | rfl) ?_; (with_reducible refine (HCLN.out _ z HZL.out ky.out).mono ?_); rintro e w20 ⟨v20, rfl, ho, hb⟩; refine ⟨_, rfl, ?_⟩; have HOO := aa.mk ho; have HBF := aa.mk (Qa HBY.out hb); clear ho hb))
        go_ret2; refine ⟨_, rfl, ?_, Qa HB2.out HBF.out⟩; rw [← tM.out]; exact Kd.Zg HOO.out (Nat.le_trans HW9.out HBY.out.size)
theorem Zj.calls (A0 : Option Addr) (c0 : Nat) (l0 : List S76) (a1 : Int) (r1 : List Int) (r2 : Bool) (w : World) (hr0 : Kd.C k76 w A0 l0.length l0) (hc0 : l0.length ≤ c0) (h : Zj.f l0 a1 = some (r1, r2)) :
  Calls Try.prog 82 #[.slice A0 l0.length c0, .int .i64 a1] w fun e w' => ∃ v0_ : Value, e = .returned (.tuple #[v0_, .bool r2]) ∧ Kd.R (Kd.int .i64) 3 w' w.heap.size (fun _ => True) v0_ r1 ∧ Below w.heap.size w w' := by
 unfold Zj.f at h; split at h
 case isFalse => cases h
 rename_i hc
 obtain ⟨⟨R, P⟩, h1, h2⟩ := Option.bind_eq_some_iff.1 h; obtain ⟨n, rfl⟩ := Int.eq_ofNat_of_zero_le hc.1; exact sol_calls A0 c0 l0 n R P r1 r2 w hr0 hc0 (by omega) h1 h2
end Go.Proofs.Ytdneelgnmnpanaa.P
end
section
namespace Go.Proofs.Ytdneelgnmnpanaa.P
open Go.RowKit Go.Proofs.YtdneelgnmnpanaaW.PrintWords Go.Proofs.YtdneelgnmnpanaaW.PrintLast Go.Proofs.YtdneelgnmnpanaaW.PrintMore
attribute [local go_sem] max2_int min2_int max_two min_two max_three min_three max_four min_four
def Q5.f (k : Nat) (ae : List (List Int)) (af : List (List Int)) : Option (List Int × Bool × Int) := (Qk.f k ae af).bind fun t102 => (if t102 = 0 then ((ZK.f ae af).bind fun t103 => ((QY.f ae af).bind fun t106 => ((Zj.f t103 t106).bind fun br => (if br.2 = true then ((Ql.f k br.1).bind fun t111 => (if t111 ≤ 0 then (some (([] : List Int), false, 0)) else (some (br.1, true, 0)))) else (some (([] : List Int), false, 0)))))) else (some (([] : List Int), false, t102)))
theorem Q5.mono : ∀ a0 a1 k, LeO (Q5.f k a0 a1) (Q5.f (k + 1) a0 a1) := by
 intro a0 a1 k; unfold Q5.f; repeat' first | (with_reducible exact Ql.mono _ _) | (with_reducible exact Qk.mono _ _ _) | (with_reducible exact LeO.refl _) | (with_reducible exact LeO.none _) | (with_reducible refine LeO.ite ?_ ?_) | (with_reducible refine LeO.bind ?_ (fun _ => ?_)) | exact Ql.mono _ _ | exact Qk.mono _ _ _ | exact LeO.none _ | refine LeO.ite ?_ ?_ | refine LeO.bind ?_ (fun _ => ?_)
def Q5.T4 : Bool × List (List Nat × List Nat) := (true, [([], []), ([0], [0]), ([], []), ([2, 1], [2]), ([1, 3, 3], [1, 3]), ([4], [4]), ([5], [5]), ([5], [5]), ([6, 4, 0, 1, 2, 3, 4, 5, 6], [6]), ([7, 8, 0, 1, 2, 3, 4, 5, 6, 7, 8], [7])])
def Q5.B4 : List Nat := [0, 1, 0, 7, 15, 31, 63, 63, 127, 511]
theorem Q5.tab4 : rtab .any (opsOf Try.f41 4) = Q5.T4 := by kernel_rfl
theorem Q5.bits4 : waitsOk Q5.T4.2 Q5.B4 = true := by kernel_rfl
set_option maxHeartbeats 8000000 in
set_option maxRecDepth 100000 in
theorem Q5.calls (k : Nat) (ak : Option Addr) (an : Nat) (ae : List (List Int)) (aj : Option Addr) (al : Nat) (af : List (List Int)) (r1 : List Int) (r2 : Bool) (r3 : Int) (w : World) (aN : Kd.C (Kd.slice 3 (Kd.int .i64)) w ak ae.length ae) (aT : ae.length ≤ an) (aM : Kd.C (Kd.slice 3 (Kd.int .i64)) w aj af.length af) (aQ : af.length ≤ al) (h : Q5.f k ae af = some (r1, r2, r3)) :
  Calls Try.prog 41 #[.agg #[.slice ak ae.length an, .slice aj af.length al]] w fun e w' => ∃ v0_ : Value, e = .returned (.tuple #[v0_, .bool r2, .int .i64 r3]) ∧ Kd.R (Kd.int .i64) 3 w' w.heap.size (fun _ => True) v0_ r1 ∧ Below w.heap.size w w' := by
 have en := Try.underlying24; have aw := aa.mk aN; have az := aa.mk aT; clear aN aT; have ay := aa.mk aM; have aA := aa.mk aQ; clear aM aQ; have HB := aa.mk (Below.refl w.heap.size w); have H : ((Qk.f k ae af).bind fun t102 => (if t102 = 0 then ((ZK.f ae af).bind fun t103 => ((QY.f ae af).bind fun t106 => ((Zj.f t103 t106).bind fun br => (if br.2 = true then ((Ql.f k br.1).bind fun t111 => (if t111 ≤ 0 then (some (([] : List Int), false, 0)) else (some (br.1, true, 0)))) else (some (([] : List Int), false, 0)))))) else (some (([] : List Int), false, t102)))) = some (r1, r2, r3) := h; clear h; replace H := Option.bind_eq_some_iff.mp H; obtain ⟨t102, A20, H⟩ := H; replace H : (if t102 = 0 then ((ZK.f ae af).bind fun t103 => ((QY.f ae af).bind fun t106 => ((Zj.f t103 t106).bind fun br => (if br.2 = true then ((Ql.f k br.1).bind fun t111 => (if t111 ≤ 0 then (some (([] : List Int), false, 0)) else (some (br.1, true, 0)))) else (some (([] : List Int), false, 0)))))) else (some (([] : List Int), false, t102))) = some (r1, r2, r3) := H; have A2 := aa.mk A20; clear A20; by_cases c3 : t102 = 0
 ·rw [if_pos c3] at H; have bH : (t102 == 0) = true := beq_iff_eq.mpr c3; have cx : (t102 != 0) = false := bne_eq_false_iff_eq.mpr c3; clear c3; replace H := Option.bind_eq_some_iff.mp H; obtain ⟨t103, A40, H⟩ := H; replace H : ((QY.f ae af).bind fun t106 => ((Zj.f t103 t106).bind fun br => (if br.2 = true then ((Ql.f k br.1).bind fun t111 => (if t111 ≤ 0 then (some (([] : List Int), false, 0)) else (some (br.1, true, 0)))) else (some (([] : List Int), false, 0))))) = some (r1, r2, r3) := H; have A4 := aa.mk A40; clear A40; replace H := Option.bind_eq_some_iff.mp H; obtain ⟨t106, A50, H⟩ := H; replace H : ((Zj.f t103 t106).bind fun br => (if br.2 = true then ((Ql.f k br.1).bind fun t111 => (if t111 ≤ 0 then (some (([] : List Int), false, 0)) else (some (br.1, true, 0)))) else (some (([] : List Int), false, 0)))) = some (r1, r2, r3) := H; have A5 := aa.mk A50; clear A50; replace H := Option.bind_eq_some_iff.mp H; obtain ⟨⟨t107, t108⟩, A60, H⟩ := H; replace H : (if t108 = true then ((Ql.f k t107).bind fun t111 => (if t111 ≤ 0 then (some (([] : List Int), false, 0)) else (some (t107, true, 0)))) else (some (([] : List Int), false, 0))) = some (r1, r2, r3) := H; have A6 := aa.mk A60; clear A60; by_cases c7 : t108 = true
  ·subst c7; have H1 : ((Ql.f k t107).bind fun t111 => (if t111 ≤ 0 then (some (([] : List Int), false, 0)) else (some (t107, true, 0)))) = some (r1, r2, r3) := by rw [if_pos rfl] at H; exact H
   clear H; have H := H1; clear H1; replace H := Option.bind_eq_some_iff.mp H; obtain ⟨t111, A80, H⟩ := H; replace H : (if t111 ≤ 0 then (some (([] : List Int), false, 0)) else (some (t107, true, 0))) = some (r1, r2, r3) := H; have A8 := aa.mk A80; clear A80; by_cases c9 : t111 ≤ 0
   ·rw [if_pos c9] at H; have eU : decide (t111 ≤ 0) = true := decide_eq_true c9; clear c9; simp only [Option.some.injEq, Prod.mk.injEq] at H; obtain ⟨rfl, rfl, rfl⟩ := H; go_enter Try.func41, Try.ntmps41; try go_wp2_with (first | ((with_reducible refine QO (N := 1) rfl ?_); refine Q4 ?hg (N := 1) ?hd (cs := #[.slice ak ae.length an, .slice aj af.length al]) (t := 24) ?hr ?_; (case hd => rfl); (case hg => rfl); (case hr => first | (go_simp; done) | (go_simp; rfl)); intro ag hg w10 hbox hb; have ab := aa.mk (hbox); have bo := aa.mk ((by rw [hg]; exact (Qc bB) : w.heap.size ≤ ag)); have aV := aa.mk ((by rw [hg]; exact (Qc bB) : w.heap.size ≤ ag)); replace HB := aa.mk (Qa bB hb); clear hb hbox hg; have cY : w10.cell? ⟨ag, 0, none⟩ = some (.slice ak ae.length an) := (Qd ab.out 0).trans rfl; have cX : w10.cell? ⟨ag, 1, none⟩ = some (.slice aj af.length al) := (Qd ab.out 1).trans rfl; have cU := Qb ab.out 0; have cT := Qb ab.out 1) | ((with_reducible refine Qg (f := 38) rfl ?_); refine QG (some 9) rfl rfl Try.func38 (by kernel_rfl) rfl #[.agg #[.slice ak ae.length an, .slice aj af.length al]] rfl hA ?_; (with_reducible refine (Qk.calls k _ _ ae _ _ af t102 _ ?ah ?ai ?aq ?ar A2.out).mono ?_); (case ah => exact (Kd.Qo aw.out HB.out)); (case ai => exact az.out); (case aq => exact (Kd.Qo ay.out HB.out)); (case ar => exact aA.out); rintro e w12 ⟨rfl, hb⟩; refine ⟨_, rfl, ?_⟩; replace ab := aa.mk (Qq ab.out hb); replace HB := aa.mk (Qa bB hb); (try clear hb); (try clear hb2); (try clear hk); (try clear hi)))
    replace ab := aa.mk (QE ab.out); replace HB := aa.mk (QP HB.out); refine Yt (n := 10) (S := fun w' => w'.cell? ⟨ag, 0, none⟩ = some (.slice ak ae.length an) ∧ w'.cell? ⟨ag, 1, none⟩ = some (.slice aj af.length al)) (ds := []) #[false, false, false, false, false, false, false, false, false, false] (by kernel_rfl) rfl rfl ⟨(Qd ab.out 0).trans rfl, (Qd ab.out 1).trans rfl⟩ (fun hHeld => ?_); refine ZV Q5.tab4 Q5.bits4 (fun HT_ HW_ => ?_); generalize w12.drew = w13 at ab HB hHeld ⊢; refine ZU (i := 0) (N := some 14) (v := ?_) (a' := ?_) #[true, false, false, false, false, false, false, false, false, false] rfl rfl (Zp HT_.out HW_.out (by kernel_rfl)) (fun _ _ _ h => h) (Or.inl ⟨by rfl, ?_⟩) hHeld ?_ ?_; rotate_left
    ·rintro w' ⟨s0, s1⟩; go_simp; with_reducible rfl
    rotate_left
    ·simp only [Act.put, zA, zB, zC, Qy, QB]; rfl
    refine ZU (i := 2) (N := some 16) (v := ?_) (a' := ?_) #[true, false, true, false, false, false, false, false, false, false] rfl rfl (Zp HT_.out HW_.out (by kernel_rfl)) (fun _ _ _ h => h) (Or.inl ⟨by rfl, ?_⟩) hHeld ?_ ?_; rotate_left
    ·rintro w' ⟨s0, s1⟩; go_simp; with_reducible rfl
    rotate_left
    ·simp only [Act.put, zA, zB, zC, Qy, QB]; rfl
    refine one_ (i := 1) (N := some 15) #[true, true, true, false, false, false, false, false, false, false] rfl rfl (ZT HT_.out (by kernel_rfl)) (by decide) (fun K hK => ?_); refine Vj Try.func73 (by kernel_rfl) rfl #[.agg #[.slice ak ae.length an, .slice aj af.length al]] (by rfl) rfl rfl hA ?_; with_reducible refine (ZK.calls _ _ ae _ _ af t103 _ ?ah ?ai ?aq ?ar A4.out).mono ?_
    (case ah => exact (Kd.Qo aw.out HB.out))
    (case ai => exact az.out)
    (case aq => exact (Kd.Qo ay.out HB.out))
    (case ar => exact aA.out)
    rintro e w14 ⟨ff, rfl, ho0, hb⟩; refine ⟨_, rfl, ?_⟩; have bf := aa.mk (Kd.Zg ho0 (Qc bB)); replace ab := aa.mk (Qq ab.out hb); replace HB := aa.mk (Qa bB hb); (try clear hb)
    (try clear hb2)
    (try clear hk)
    (try clear hi)
    (try clear ho0)
    refine hK.out _ _ ⟨(Qd ab.out 0).trans rfl, (Qd ab.out 1).trans rfl⟩ (fun hHeld => ?_); clear hK K; refine Yc (a' := ?_) ?_ ?_; rotate_left
    ·show Act.put _ (some 15) _ = _
     simp only [Act.put, zA, zB, zC, Qy, QB]; rfl
    refine one_ (i := 3) (N := some 17) #[true, true, true, true, false, false, false, false, false, false] rfl rfl (ZT HT_.out (by kernel_rfl)) (by decide) (fun K hK => ?_); refine Vj Try.func71 (by kernel_rfl) rfl #[.agg #[.slice ak ae.length an, .slice aj af.length al]] (by rfl) rfl rfl hA ?_; with_reducible refine (QY.calls _ _ ae _ _ af t106 _ ?ah ?ai ?aq ?ar A5.out).mono ?_
    (case ah => exact (Kd.Qo aw.out HB.out))
    (case ai => exact az.out)
    (case aq => exact (Kd.Qo ay.out HB.out))
    (case ar => exact aA.out)
    rintro e w15 ⟨rfl, hb⟩; refine ⟨_, rfl, ?_⟩; replace bf := aa.mk (Kd.QR bf.out hb); replace ab := aa.mk (Qq ab.out hb); replace HB := aa.mk (Qa bB hb); (try clear hb)
    (try clear hb2)
    (try clear hk)
    (try clear hi)
    obtain ⟨iX, gV, n9⟩ := Kd.Zc bf.out; (first | subst n9 | (injection n9 with f1_ f2_ f3_; have f4_ := f1_.symm; have f5_ := f3_.symm; clear f1_ f2_ f3_; subst f4_; subst f5_))
    refine hK.out _ _ ⟨(Qd ab.out 0).trans rfl, (Qd ab.out 1).trans rfl⟩ (fun hHeld => ?_); clear hK K; refine Yc (a' := ?_) ?_ ?_; rotate_left
    ·show Act.put _ (some 17) _ = _
     simp only [Act.put, zA, zB, zC, Qy, QB]; rfl
    refine one_ (i := 4) (N := some 18) #[true, true, true, true, true, false, false, false, false, false] rfl rfl (ZT HT_.out (by kernel_rfl)) (by decide) (fun K hK => ?_); refine Vj Try.func82 (by kernel_rfl) rfl #[.slice iX t103.length gV, .int .i64 t106] (by rfl) rfl rfl hA ?_; with_reducible refine (Zj.calls _ _ t103 t106 t107 true _ ?ah ?ai A6.out).mono ?_
    (case ah => exact (Kd.QA bf.out).2.2)
    (case ai => exact (Kd.QA bf.out).2.1)
    rintro e w17 ⟨kp, rfl, ho0, hb⟩; refine ⟨_, rfl, ?_⟩; replace bf := aa.mk (Kd.QR bf.out hb); have cv := aa.mk (Kd.Zg ho0 (Qc bB)); replace ab := aa.mk (Qq ab.out hb); replace HB := aa.mk (Qa bB hb); (try clear hb)
    (try clear hb2)
    (try clear hk)
    (try clear hi)
    (try clear ho0)
    refine hK.out _ _ ⟨(Qd ab.out 0).trans rfl, (Qd ab.out 1).trans rfl⟩ (fun hHeld => ?_); clear hK K; refine Yc (a' := ?_) ?_ ?_; rotate_left
    ·show Act.put _ (some 18) _ = _
     simp only [Act.put, zA, zB, zC, Qy, QB]; rfl
    refine QX (i := 5) (N := some 13) (v := ?_) (a' := ?_) #[true, true, true, true, true, true, false, false, false, false] rfl rfl (QK HT_.out (by kernel_rfl)) (fun _ _ _ h => h) (Or.inl ⟨by rfl, ?_⟩) ?_ ?_; rotate_left
    ·intro w'; go_simp; with_reducible rfl
    rotate_left
    ·simp only [Act.put, zA, zB, zC, Qy, QB]; rfl
    refine QX (i := 6) (N := some 19) (v := ?_) (a' := ?_) #[true, true, true, true, true, true, true, false, false, false] rfl rfl (QK HT_.out (by kernel_rfl)) (fun _ _ _ h => h) (Or.inl ⟨by rfl, ?_⟩) ?_ ?_; rotate_left
    ·intro w'; go_simp; with_reducible rfl
    rotate_left
    ·simp only [Act.put, zA, zB, zC, Qy, QB]; rfl
    refine QX (i := 7) (N := some 20) (v := ?_) (a' := ?_) #[true, true, true, true, true, true, true, true, false, false] rfl rfl (QK HT_.out (by kernel_rfl)) (fun _ _ _ h => h) (Or.inl ⟨by rfl, ?_⟩) ?_ ?_; rotate_left
    ·intro w'; go_simp; with_reducible rfl
    rotate_left
    ·simp only [Act.put, zA, zB, zC, Qy, QB]; rfl
    refine QX (i := 8) (N := some 6) (v := ?_) (a' := ?_) #[true, true, true, true, true, true, true, true, true, false] rfl rfl (QK HT_.out (by kernel_rfl)) (fun _ _ _ h => h) (Or.inl ⟨by rfl, ?_⟩) ?_ ?_; rotate_left
    ·intro w'; go_simp; with_reducible rfl
    rotate_left
    ·simp only [Act.put, zA, zB, zC, Qy, QB]; rfl
    refine QX (i := 9) (N := some 7) (v := ?_) (a' := ?_) #[true, true, true, true, true, true, true, true, true, true] rfl rfl (QK HT_.out (by kernel_rfl)) (fun _ _ _ h => h) (Or.inl ⟨by rfl, ?_⟩) ?_ ?_; rotate_left
    ·intro w'; go_simp; with_reducible rfl
    rotate_left
    ·simp only [Act.put, zA, zB, zC, Qy, QB]; rfl
    refine YM (Yi HT_.out (by kernel_rfl)) ?_; obtain ⟨zH, ze, tc⟩ := Kd.Zc cv.out; subst tc; try go_wp2_with (first | (go_at_call 84; (with_reducible refine (Ql.calls k _ _ t107 t111 _ ?ah ?ai A8.out).mono ?_); (case ah => exact (Kd.QA cv.out).2.2); (case ai => exact (Kd.QA cv.out).2.1); rintro e w19 ⟨rfl, hb⟩; replace bf := aa.mk (Kd.QR bf.out hb); replace cv := aa.mk (Kd.QR cv.out hb); replace ab := aa.mk (Qq ab.out hb); replace HB := aa.mk (Qa bB hb); (try clear hb); (try clear hb2); (try clear hk); (try clear hi)))
    go_ret3
    exact ⟨_, by first | rfl | (simp [Qj, Qi] <;> rfl) | (simp [*, Qj, Qi] <;> rfl), by first | exact Kd.Yg _ _ _ _ _ | exact Kd.Yp _ _ _ _ _ | exact Kd.V_nil _ _ _ _ _ | exact Kd.Q_nil _ _ _ _ _ | exact Kd.Ys _ _ _ _ _, bB⟩
   ·rw [if_neg c9] at H; have eU : decide (t111 ≤ 0) = false := decide_eq_false c9; clear c9; simp only [Option.some.injEq, Prod.mk.injEq] at H; obtain ⟨rfl, rfl, rfl⟩ := H; go_enter Try.func41, Try.ntmps41; try go_wp2_with (first | ((with_reducible refine QO (N := 1) rfl ?_); refine Q4 ?hg (N := 1) ?hd (cs := #[.slice ak ae.length an, .slice aj af.length al]) (t := 24) ?hr ?_; (case hd => rfl); (case hg => rfl); (case hr => first | (go_simp; done) | (go_simp; rfl)); intro ag hg w20 hbox hb; have ab := aa.mk (hbox); have bo := aa.mk ((by rw [hg]; exact (Qc bB) : w.heap.size ≤ ag)); have aV := aa.mk ((by rw [hg]; exact (Qc bB) : w.heap.size ≤ ag)); replace HB := aa.mk (Qa bB hb); clear hb hbox hg; have kV : w20.cell? ⟨ag, 0, none⟩ = some (.slice ak ae.length an) := (Qd ab.out 0).trans rfl; have kU : w20.cell? ⟨ag, 1, none⟩ = some (.slice aj af.length al) := (Qd ab.out 1).trans rfl; have kR := Qb ab.out 0; have kQ := Qb ab.out 1) | ((with_reducible refine Qg (f := 38) rfl ?_); refine QG (some 9) rfl rfl Try.func38 (by kernel_rfl) rfl #[.agg #[.slice ak ae.length an, .slice aj af.length al]] rfl hA ?_; (with_reducible refine (Qk.calls k _ _ ae _ _ af t102 _ ?ah ?ai ?aq ?ar A2.out).mono ?_); (case ah => exact (Kd.Qo aw.out HB.out)); (case ai => exact az.out); (case aq => exact (Kd.Qo ay.out HB.out)); (case ar => exact aA.out); rintro e w22 ⟨rfl, hb⟩; refine ⟨_, rfl, ?_⟩; replace ab := aa.mk (Qq ab.out hb); replace HB := aa.mk (Qa bB hb); (try clear hb); (try clear hb2); (try clear hk); (try clear hi)))
    replace ab := aa.mk (QE ab.out); replace HB := aa.mk (QP HB.out); refine Yt (n := 10) (S := fun w' => w'.cell? ⟨ag, 0, none⟩ = some (.slice ak ae.length an) ∧ w'.cell? ⟨ag, 1, none⟩ = some (.slice aj af.length al)) (ds := []) #[false, false, false, false, false, false, false, false, false, false] (by kernel_rfl) rfl rfl ⟨(Qd ab.out 0).trans rfl, (Qd ab.out 1).trans rfl⟩ (fun hHeld => ?_); refine ZV Q5.tab4 Q5.bits4 (fun HT_ HW_ => ?_); generalize w22.drew = w23 at ab HB hHeld ⊢; refine ZU (i := 0) (N := some 14) (v := ?_) (a' := ?_) #[true, false, false, false, false, false, false, false, false, false] rfl rfl (Zp HT_.out HW_.out (by kernel_rfl)) (fun _ _ _ h => h) (Or.inl ⟨by rfl, ?_⟩) hHeld ?_ ?_; rotate_left
    ·rintro w' ⟨s0, s1⟩; go_simp; with_reducible rfl
    rotate_left
    ·simp only [Act.put, zA, zB, zC, Qy, QB]; rfl
    refine ZU (i := 2) (N := some 16) (v := ?_) (a' := ?_) #[true, false, true, false, false, false, false, false, false, false] rfl rfl (Zp HT_.out HW_.out (by kernel_rfl)) (fun _ _ _ h => h) (Or.inl ⟨by rfl, ?_⟩) hHeld ?_ ?_; rotate_left
    ·rintro w' ⟨s0, s1⟩; go_simp; with_reducible rfl
    rotate_left
    ·simp only [Act.put, zA, zB, zC, Qy, QB]; rfl
    refine one_ (i := 1) (N := some 15) #[true, true, true, false, false, false, false, false, false, false] rfl rfl (ZT HT_.out (by kernel_rfl)) (by decide) (fun K hK => ?_); refine Vj Try.func73 (by kernel_rfl) rfl #[.agg #[.slice ak ae.length an, .slice aj af.length al]] (by rfl) rfl rfl hA ?_; with_reducible refine (ZK.calls _ _ ae _ _ af t103 _ ?ah ?ai ?aq ?ar A4.out).mono ?_
    (case ah => exact (Kd.Qo aw.out HB.out))
    (case ai => exact az.out)
    (case aq => exact (Kd.Qo ay.out HB.out))
    (case ar => exact aA.out)
    rintro e w24 ⟨ff, rfl, ho0, hb⟩; refine ⟨_, rfl, ?_⟩; have bf := aa.mk (Kd.Zg ho0 (Qc bB)); replace ab := aa.mk (Qq ab.out hb); replace HB := aa.mk (Qa bB hb); (try clear hb)
    (try clear hb2)
    (try clear hk)
    (try clear hi)
    (try clear ho0)
    refine hK.out _ _ ⟨(Qd ab.out 0).trans rfl, (Qd ab.out 1).trans rfl⟩ (fun hHeld => ?_); clear hK K; refine Yc (a' := ?_) ?_ ?_; rotate_left
    ·show Act.put _ (some 15) _ = _
     simp only [Act.put, zA, zB, zC, Qy, QB]; rfl
    refine one_ (i := 3) (N := some 17) #[true, true, true, true, false, false, false, false, false, false] rfl rfl (ZT HT_.out (by kernel_rfl)) (by decide) (fun K hK => ?_); refine Vj Try.func71 (by kernel_rfl) rfl #[.agg #[.slice ak ae.length an, .slice aj af.length al]] (by rfl) rfl rfl hA ?_; with_reducible refine (QY.calls _ _ ae _ _ af t106 _ ?ah ?ai ?aq ?ar A5.out).mono ?_
    (case ah => exact (Kd.Qo aw.out HB.out))
    (case ai => exact az.out)
    (case aq => exact (Kd.Qo ay.out HB.out))
    (case ar => exact aA.out)
    rintro e w25 ⟨rfl, hb⟩; refine ⟨_, rfl, ?_⟩; replace bf := aa.mk (Kd.QR bf.out hb); replace ab := aa.mk (Qq ab.out hb); replace HB := aa.mk (Qa bB hb); (try clear hb)
    (try clear hb2)
    (try clear hk)
    (try clear hi)
    obtain ⟨tS, tr, oU⟩ := Kd.Zc bf.out; (first | subst oU | (injection oU with f1_ f2_ f3_; have f4_ := f1_.symm; have f5_ := f3_.symm; clear f1_ f2_ f3_; subst f4_; subst f5_))
    refine hK.out _ _ ⟨(Qd ab.out 0).trans rfl, (Qd ab.out 1).trans rfl⟩ (fun hHeld => ?_); clear hK K; refine Yc (a' := ?_) ?_ ?_; rotate_left
    ·show Act.put _ (some 17) _ = _
     simp only [Act.put, zA, zB, zC, Qy, QB]; rfl
    refine one_ (i := 4) (N := some 18) #[true, true, true, true, true, false, false, false, false, false] rfl rfl (ZT HT_.out (by kernel_rfl)) (by decide) (fun K hK => ?_); refine Vj Try.func82 (by kernel_rfl) rfl #[.slice tS t103.length tr, .int .i64 t106] (by rfl) rfl rfl hA ?_; with_reducible refine (Zj.calls _ _ t103 t106 t107 true _ ?ah ?ai A6.out).mono ?_
    (case ah => exact (Kd.QA bf.out).2.2)
    (case ai => exact (Kd.QA bf.out).2.1)
    rintro e w27 ⟨kp, rfl, ho0, hb⟩; refine ⟨_, rfl, ?_⟩; replace bf := aa.mk (Kd.QR bf.out hb); have cv := aa.mk (Kd.Zg ho0 (Qc bB)); replace ab := aa.mk (Qq ab.out hb); replace HB := aa.mk (Qa bB hb); (try clear hb)
    (try clear hb2)
    (try clear hk)
    (try clear hi)
    (try clear ho0)
    refine hK.out _ _ ⟨(Qd ab.out 0).trans rfl, (Qd ab.out 1).trans rfl⟩ (fun hHeld => ?_); clear hK K; refine Yc (a' := ?_) ?_ ?_; rotate_left
    ·show Act.put _ (some 18) _ = _
     simp only [Act.put, zA, zB, zC, Qy, QB]; rfl
    refine QX (i := 5) (N := some 13) (v := ?_) (a' := ?_) #[true, true, true, true, true, true, false, false, false, false] rfl rfl (QK HT_.out (by kernel_rfl)) (fun _ _ _ h => h) (Or.inl ⟨by rfl, ?_⟩) ?_ ?_; rotate_left
    ·intro w'; go_simp; with_reducible rfl
    rotate_left
    ·simp only [Act.put, zA, zB, zC, Qy, QB]; rfl
    refine QX (i := 6) (N := some 19) (v := ?_) (a' := ?_) #[true, true, true, true, true, true, true, false, false, false] rfl rfl (QK HT_.out (by kernel_rfl)) (fun _ _ _ h => h) (Or.inl ⟨by rfl, ?_⟩) ?_ ?_; rotate_left
    ·intro w'; go_simp; with_reducible rfl
    rotate_left
    ·simp only [Act.put, zA, zB, zC, Qy, QB]; rfl
    refine QX (i := 7) (N := some 20) (v := ?_) (a' := ?_) #[true, true, true, true, true, true, true, true, false, false] rfl rfl (QK HT_.out (by kernel_rfl)) (fun _ _ _ h => h) (Or.inl ⟨by rfl, ?_⟩) ?_ ?_; rotate_left
    ·intro w'; go_simp; with_reducible rfl
    rotate_left
    ·simp only [Act.put, zA, zB, zC, Qy, QB]; rfl
    refine QX (i := 8) (N := some 6) (v := ?_) (a' := ?_) #[true, true, true, true, true, true, true, true, true, false] rfl rfl (QK HT_.out (by kernel_rfl)) (fun _ _ _ h => h) (Or.inl ⟨by rfl, ?_⟩) ?_ ?_; rotate_left
    ·intro w'; go_simp; with_reducible rfl
    rotate_left
    ·simp only [Act.put, zA, zB, zC, Qy, QB]; rfl
    refine QX (i := 9) (N := some 7) (v := ?_) (a' := ?_) #[true, true, true, true, true, true, true, true, true, true] rfl rfl (QK HT_.out (by kernel_rfl)) (fun _ _ _ h => h) (Or.inl ⟨by rfl, ?_⟩) ?_ ?_; rotate_left
    ·intro w'; go_simp; with_reducible rfl
    rotate_left
    ·simp only [Act.put, zA, zB, zC, Qy, QB]; rfl
    refine YM (Yi HT_.out (by kernel_rfl)) ?_; obtain ⟨pA, o9, oT⟩ := Kd.Zc cv.out; subst oT; try go_wp2_with (first | (go_at_call 84; (with_reducible refine (Ql.calls k _ _ t107 t111 _ ?ah ?ai A8.out).mono ?_); (case ah => exact (Kd.QA cv.out).2.2); (case ai => exact (Kd.QA cv.out).2.1); rintro e w29 ⟨rfl, hb⟩; replace bf := aa.mk (Kd.QR bf.out hb); replace cv := aa.mk (Kd.QR cv.out hb); replace ab := aa.mk (Qq ab.out hb); replace HB := aa.mk (Qa bB hb); (try clear hb); (try clear hb2); (try clear hk); (try clear hi)))
    go_ret3
    exact ⟨_, by first | rfl | (simp [Qj, Qi] <;> rfl) | (simp [*, Qj, Qi] <;> rfl), by (with_reducible repeat (first | apply Kd.R_alloc | apply Kd.QI | apply Kd.QN)); exact cv.out, bB⟩
  ·replace c7 := Bool.eq_false_iff.mpr c7; subst c7; have H1 : (some (([] : List Int), false, 0)) = some (r1, r2, r3) := by rw [if_neg (show ¬ (false = true) by decide)] at H; exact H
   clear H; have H := H1; clear H1; simp only [Option.some.injEq, Prod.mk.injEq] at H; obtain ⟨rfl, rfl, rfl⟩ := H; go_enter Try.func41, Try.ntmps41; try go_wp2_with (first | ((with_reducible refine QO (N := 1) rfl ?_); refine Q4 ?hg (N := 1) ?hd (cs := #[.slice ak ae.length an, .slice aj af.length al]) (t := 24) ?hr ?_; (case hd => rfl); (case hg => rfl); (case hr => first | (go_simp; done) | (go_simp; rfl)); intro ag hg w30 hbox hb; have ab := aa.mk (hbox); have bo := aa.mk ((by rw [hg]; exact (Qc bB) : w.heap.size ≤ ag)); have aV := aa.mk ((by rw [hg]; exact (Qc bB) : w.heap.size ≤ ag)); replace HB := aa.mk (Qa bB hb); clear hb hbox hg; have qt : w30.cell? ⟨ag, 0, none⟩ = some (.slice ak ae.length an) := (Qd ab.out 0).trans rfl; have qq : w30.cell? ⟨ag, 1, none⟩ = some (.slice aj af.length al) := (Qd ab.out 1).trans rfl; have qa := Qb ab.out 0; have p9 := Qb ab.out 1) | ((with_reducible refine Qg (f := 38) rfl ?_); refine QG (some 9) rfl rfl Try.func38 (by kernel_rfl) rfl #[.agg #[.slice ak ae.length an, .slice aj af.length al]] rfl hA ?_; (with_reducible refine (Qk.calls k _ _ ae _ _ af t102 _ ?ah ?ai ?aq ?ar A2.out).mono ?_); (case ah => exact (Kd.Qo aw.out HB.out)); (case ai => exact az.out); (case aq => exact (Kd.Qo ay.out HB.out)); (case ar => exact aA.out); rintro e w32 ⟨rfl, hb⟩; refine ⟨_, rfl, ?_⟩; replace ab := aa.mk (Qq ab.out hb); replace HB := aa.mk (Qa bB hb); (try clear hb); (try clear hb2); (try clear hk); (try clear hi)))
   replace ab := aa.mk (QE ab.out); replace HB := aa.mk (QP HB.out); refine Yt (n := 10) (S := fun w' => w'.cell? ⟨ag, 0, none⟩ = some (.slice ak ae.length an) ∧ w'.cell? ⟨ag, 1, none⟩ = some (.slice aj af.length al)) (ds := []) #[false, false, false, false, false, false, false, false, false, false] (by kernel_rfl) rfl rfl ⟨(Qd ab.out 0).trans rfl, (Qd ab.out 1).trans rfl⟩ (fun hHeld => ?_); refine ZV Q5.tab4 Q5.bits4 (fun HT_ HW_ => ?_); generalize w32.drew = w33 at ab HB hHeld ⊢; refine ZU (i := 0) (N := some 14) (v := ?_) (a' := ?_) #[true, false, false, false, false, false, false, false, false, false] rfl rfl (Zp HT_.out HW_.out (by kernel_rfl)) (fun _ _ _ h => h) (Or.inl ⟨by rfl, ?_⟩) hHeld ?_ ?_; rotate_left
   ·rintro w' ⟨s0, s1⟩; go_simp; with_reducible rfl
   rotate_left
   ·simp only [Act.put, zA, zB, zC, Qy, QB]; rfl
   refine ZU (i := 2) (N := some 16) (v := ?_) (a' := ?_) #[true, false, true, false, false, false, false, false, false, false] rfl rfl (Zp HT_.out HW_.out (by kernel_rfl)) (fun _ _ _ h => h) (Or.inl ⟨by rfl, ?_⟩) hHeld ?_ ?_; rotate_left
   ·rintro w' ⟨s0, s1⟩; go_simp; with_reducible rfl
   rotate_left
   ·simp only [Act.put, zA, zB, zC, Qy, QB]; rfl
   refine one_ (i := 1) (N := some 15) #[true, true, true, false, false, false, false, false, false, false] rfl rfl (ZT HT_.out (by kernel_rfl)) (by decide) (fun K hK => ?_); refine Vj Try.func73 (by kernel_rfl) rfl #[.agg #[.slice ak ae.length an, .slice aj af.length al]] (by rfl) rfl rfl hA ?_; with_reducible refine (ZK.calls _ _ ae _ _ af t103 _ ?ah ?ai ?aq ?ar A4.out).mono ?_
   (case ah => exact (Kd.Qo aw.out HB.out))
   (case ai => exact az.out)
   (case aq => exact (Kd.Qo ay.out HB.out))
   (case ar => exact aA.out)
   rintro e w34 ⟨ff, rfl, ho0, hb⟩; refine ⟨_, rfl, ?_⟩; have bf := aa.mk (Kd.Zg ho0 (Qc bB)); replace ab := aa.mk (Qq ab.out hb); replace HB := aa.mk (Qa bB hb); (try clear hb)
   (try clear hb2)
   (try clear hk)
   (try clear hi)
   (try clear ho0)
   refine hK.out _ _ ⟨(Qd ab.out 0).trans rfl, (Qd ab.out 1).trans rfl⟩ (fun hHeld => ?_); clear hK K; refine Yc (a' := ?_) ?_ ?_; rotate_left
   ·show Act.put _ (some 15) _ = _
    simp only [Act.put, zA, zB, zC, Qy, QB]; rfl
   refine one_ (i := 3) (N := some 17) #[true, true, true, true, false, false, false, false, false, false] rfl rfl (ZT HT_.out (by kernel_rfl)) (by decide) (fun K hK => ?_); refine Vj Try.func71 (by kernel_rfl) rfl #[.agg #[.slice ak ae.length an, .slice aj af.length al]] (by rfl) rfl rfl hA ?_; with_reducible refine (QY.calls _ _ ae _ _ af t106 _ ?ah ?ai ?aq ?ar A5.out).mono ?_
   (case ah => exact (Kd.Qo aw.out HB.out))
   (case ai => exact az.out)
   (case aq => exact (Kd.Qo ay.out HB.out))
   (case ar => exact aA.out)
   rintro e w35 ⟨rfl, hb⟩; refine ⟨_, rfl, ?_⟩; replace bf := aa.mk (Kd.QR bf.out hb); replace ab := aa.mk (Qq ab.out hb); replace HB := aa.mk (Qa bB hb); (try clear hb)
   (try clear hb2)
   (try clear hk)
   (try clear hi)
   obtain ⟨q8, qK, n7⟩ := Kd.Zc bf.out; (first | subst n7 | (injection n7 with f1_ f2_ f3_; have f4_ := f1_.symm; have f5_ := f3_.symm; clear f1_ f2_ f3_; subst f4_; subst f5_))
   refine hK.out _ _ ⟨(Qd ab.out 0).trans rfl, (Qd ab.out 1).trans rfl⟩ (fun hHeld => ?_); clear hK K; refine Yc (a' := ?_) ?_ ?_; rotate_left
   ·show Act.put _ (some 17) _ = _
    simp only [Act.put, zA, zB, zC, Qy, QB]; rfl
   refine one_ (i := 4) (N := some 18) #[true, true, true, true, true, false, false, false, false, false] rfl rfl (ZT HT_.out (by kernel_rfl)) (by decide) (fun K hK => ?_); refine Vj Try.func82 (by kernel_rfl) rfl #[.slice q8 t103.length qK, .int .i64 t106] (by rfl) rfl rfl hA ?_; with_reducible refine (Zj.calls _ _ t103 t106 t107 false _ ?ah ?ai A6.out).mono ?_
   (case ah => exact (Kd.QA bf.out).2.2)
   (case ai => exact (Kd.QA bf.out).2.1)
   rintro e w37 ⟨kp, rfl, ho0, hb⟩; refine ⟨_, rfl, ?_⟩; replace bf := aa.mk (Kd.QR bf.out hb); have cv := aa.mk (Kd.Zg ho0 (Qc bB)); replace ab := aa.mk (Qq ab.out hb); replace HB := aa.mk (Qa bB hb); (try clear hb)
   (try clear hb2)
   (try clear hk)
   (try clear hi)
   (try clear ho0)
   refine hK.out _ _ ⟨(Qd ab.out 0).trans rfl, (Qd ab.out 1).trans rfl⟩ (fun hHeld => ?_); clear hK K; refine Yc (a' := ?_) ?_ ?_; rotate_left
   ·show Act.put _ (some 18) _ = _
    simp only [Act.put, zA, zB, zC, Qy, QB]; rfl
   refine QX (i := 5) (N := some 13) (v := ?_) (a' := ?_) #[true, true, true, true, true, true, false, false, false, false] rfl rfl (QK HT_.out (by kernel_rfl)) (fun _ _ _ h => h) (Or.inl ⟨by rfl, ?_⟩) ?_ ?_; rotate_left
   ·intro w'; go_simp; with_reducible rfl
   rotate_left
   ·simp only [Act.put, zA, zB, zC, Qy, QB]; rfl
   refine QX (i := 6) (N := some 19) (v := ?_) (a' := ?_) #[true, true, true, true, true, true, true, false, false, false] rfl rfl (QK HT_.out (by kernel_rfl)) (fun _ _ _ h => h) (Or.inl ⟨by rfl, ?_⟩) ?_ ?_; rotate_left
   ·intro w'; go_simp; with_reducible rfl
   rotate_left
   ·simp only [Act.put, zA, zB, zC, Qy, QB]; rfl
   refine QX (i := 7) (N := some 20) (v := ?_) (a' := ?_) #[true, true, true, true, true, true, true, true, false, false] rfl rfl (QK HT_.out (by kernel_rfl)) (fun _ _ _ h => h) (Or.inl ⟨by rfl, ?_⟩) ?_ ?_; rotate_left
   ·intro w'; go_simp; with_reducible rfl
   rotate_left
   ·simp only [Act.put, zA, zB, zC, Qy, QB]; rfl
   refine QX (i := 8) (N := some 6) (v := ?_) (a' := ?_) #[true, true, true, true, true, true, true, true, true, false] rfl rfl (QK HT_.out (by kernel_rfl)) (fun _ _ _ h => h) (Or.inl ⟨by rfl, ?_⟩) ?_ ?_; rotate_left
   ·intro w'; go_simp; with_reducible rfl
   rotate_left
   ·simp only [Act.put, zA, zB, zC, Qy, QB]; rfl
   refine QX (i := 9) (N := some 7) (v := ?_) (a' := ?_) #[true, true, true, true, true, true, true, true, true, true] rfl rfl (QK HT_.out (by kernel_rfl)) (fun _ _ _ h => h) (Or.inl ⟨by rfl, ?_⟩) ?_ ?_; rotate_left
   ·intro w'; go_simp; with_reducible rfl
   rotate_left
   ·simp only [Act.put, zA, zB, zC, Qy, QB]; rfl
   refine YM (Yi HT_.out (by kernel_rfl)) ?_; try go_wp2
   go_ret3
   exact ⟨_, by first | rfl | (simp [Qj, Qi] <;> rfl) | (simp [*, Qj, Qi] <;> rfl), by first | exact Kd.Yg _ _ _ _ _ | exact Kd.Yp _ _ _ _ _ | exact Kd.V_nil _ _ _ _ _ | exact Kd.Q_nil _ _ _ _ _ | exact Kd.Ys _ _ _ _ _, bB⟩
 ·rw [if_neg c3] at H; have bH : (t102 == 0) = false := beq_eq_false_iff_ne.mpr c3; have cx : (t102 != 0) = true := bne_iff_ne.mpr c3; simp only [Option.some.injEq, Prod.mk.injEq] at H; obtain ⟨rfl, rfl, rfl⟩ := H; go_enter Try.func41, Try.ntmps41; go_wp2_with (first | ((with_reducible refine QO (N := 1) rfl ?_); refine Q4 ?hg (N := 1) ?hd (cs := #[.slice ak ae.length an, .slice aj af.length al]) (t := 24) ?hr ?_; (case hd => rfl); (case hg => rfl); (case hr => first | (go_simp; done) | (go_simp; rfl)); intro ag hg w38 hbox hb; have ab := aa.mk (hbox); have bo := aa.mk ((by rw [hg]; exact (Qc bB) : w.heap.size ≤ ag)); have aV := aa.mk ((by rw [hg]; exact (Qc bB) : w.heap.size ≤ ag)); replace HB := aa.mk (Qa bB hb); clear hb hbox hg; have qk : w38.cell? ⟨ag, 0, none⟩ = some (.slice ak ae.length an) := (Qd ab.out 0).trans rfl; have qj : w38.cell? ⟨ag, 1, none⟩ = some (.slice aj af.length al) := (Qd ab.out 1).trans rfl; have p3 := Qb ab.out 0; have pZ := Qb ab.out 1) | ((with_reducible refine Qg (f := 38) rfl ?_); refine QG (some 9) rfl rfl Try.func38 (by kernel_rfl) rfl #[.agg #[.slice ak ae.length an, .slice aj af.length al]] rfl hA ?_; (with_reducible refine (Qk.calls k _ _ ae _ _ af t102 _ ?ah ?ai ?aq ?ar A2.out).mono ?_); (case ah => exact (Kd.Qo aw.out HB.out)); (case ai => exact az.out); (case aq => exact (Kd.Qo ay.out HB.out)); (case ar => exact aA.out); rintro e w40 ⟨rfl, hb⟩; refine ⟨_, rfl, ?_⟩; replace ab := aa.mk (Qq ab.out hb); replace HB := aa.mk (Qa bB hb); (try clear hb); (try clear hb2); (try clear hk); (try clear hi)))
  go_ret3
  exact ⟨_, by first | rfl | (simp [Qj, Qi] <;> rfl) | (simp [*, Qj, Qi] <;> rfl), by first | exact Kd.Yg _ _ _ _ _ | exact Kd.Yp _ _ _ _ _ | exact Kd.V_nil _ _ _ _ _ | exact Kd.Q_nil _ _ _ _ _ | exact Kd.Ys _ _ _ _ _, bB⟩
def QV.f (k : Nat)  : Option (Bool) := (Zv.f).bind fun l5 => ((Q5.f k l5.1 l5.2).bind fun br => ((Zv.f).bind fun gL => ((QT.f k gL.1 gL.2 (([2, 1, 2] : List Int)) (([5, 9] : List Int))).bind fun dr => ((Q7.f k (([(([1, 0] : List Int))] : List (List Int))) (([(([0, 1] : List Int))] : List (List Int))) (([1, (-1)] : List Int))).bind fun df => (if br.2.2 = 0 then (if br.2.1 = true then ((Qn.f k br.1 (([2, 1, 2] : List Int))).bind fun cP => (if cP = true then (if dr.2.2 = 0 then (if dr.1 = 2 then (some (df == 0)) else (none)) else (none)) else (none))) else (none)) else (none))))))
theorem QV.mono : ∀ k, LeO (QV.f k ) (QV.f (k + 1) ) := by
 intro  k; unfold QV.f; repeat' first | (with_reducible exact Q7.mono _ _ _ _) | (with_reducible exact QT.mono _ _ _ _ _) | (with_reducible exact Q5.mono _ _ _) | (with_reducible exact Qn.mono _ _ _) | (with_reducible exact LeO.refl _) | (with_reducible exact LeO.none _) | (with_reducible refine LeO.ite ?_ ?_) | (with_reducible refine LeO.bind ?_ (fun _ => ?_)) | exact Q7.mono _ _ _ _ | exact QT.mono _ _ _ _ _ | exact Q5.mono _ _ _ | exact Qn.mono _ _ _ | exact LeO.none _ | refine LeO.ite ?_ ?_ | refine LeO.bind ?_ (fun _ => ?_)
set_option maxHeartbeats 8000000 in
set_option maxRecDepth 100000 in
theorem QV.calls (k : Nat)  (r : Bool) (w : World) (h : QV.f k  = some r) :
  Calls Try.prog 50 #[] w fun e w' => e = .returned (.bool r) ∧ Below w.heap.size w w' := by
 have en := Try.underlying24; have HB := aa.mk (Below.refl w.heap.size w); have H : ((Zv.f).bind fun l5 => ((Q5.f k l5.1 l5.2).bind fun br => ((Zv.f).bind fun gL => ((QT.f k gL.1 gL.2 (([2, 1, 2] : List Int)) (([5, 9] : List Int))).bind fun dr => ((Q7.f k (([(([1, 0] : List Int))] : List (List Int))) (([(([0, 1] : List Int))] : List (List Int))) (([1, (-1)] : List Int))).bind fun df => (if br.2.2 = 0 then (if br.2.1 = true then ((Qn.f k br.1 (([2, 1, 2] : List Int))).bind fun cP => (if cP = true then (if dr.2.2 = 0 then (if dr.1 = 2 then (some (df == 0)) else (none)) else (none)) else (none))) else (none)) else (none))))))) = some r := h; clear h; replace H := Option.bind_eq_some_iff.mp H; obtain ⟨⟨t101, t104⟩, A10, H⟩ := H; replace H : ((Q5.f k t101 t104).bind fun br => ((Zv.f).bind fun gL => ((QT.f k gL.1 gL.2 (([2, 1, 2] : List Int)) (([5, 9] : List Int))).bind fun dr => ((Q7.f k (([(([1, 0] : List Int))] : List (List Int))) (([(([0, 1] : List Int))] : List (List Int))) (([1, (-1)] : List Int))).bind fun df => (if br.2.2 = 0 then (if br.2.1 = true then ((Qn.f k br.1 (([2, 1, 2] : List Int))).bind fun cP => (if cP = true then (if dr.2.2 = 0 then (if dr.1 = 2 then (some (df == 0)) else (none)) else (none)) else (none))) else (none)) else (none)))))) = some r := H; have A1 := aa.mk A10; clear A10; replace H := Option.bind_eq_some_iff.mp H; obtain ⟨⟨t107, t110, t111⟩, A20, H⟩ := H; replace H : ((Zv.f).bind fun gL => ((QT.f k gL.1 gL.2 (([2, 1, 2] : List Int)) (([5, 9] : List Int))).bind fun dr => ((Q7.f k (([(([1, 0] : List Int))] : List (List Int))) (([(([0, 1] : List Int))] : List (List Int))) (([1, (-1)] : List Int))).bind fun df => (if t111 = 0 then (if t110 = true then ((Qn.f k t107 (([2, 1, 2] : List Int))).bind fun cP => (if cP = true then (if dr.2.2 = 0 then (if dr.1 = 2 then (some (df == 0)) else (none)) else (none)) else (none))) else (none)) else (none))))) = some r := H; have A2 := aa.mk A20; clear A20; replace H := Option.bind_eq_some_iff.mp H; obtain ⟨⟨t112, t115⟩, A30, H⟩ := H; replace H : ((QT.f k t112 t115 (([2, 1, 2] : List Int)) (([5, 9] : List Int))).bind fun dr => ((Q7.f k (([(([1, 0] : List Int))] : List (List Int))) (([(([0, 1] : List Int))] : List (List Int))) (([1, (-1)] : List Int))).bind fun df => (if t111 = 0 then (if t110 = true then ((Qn.f k t107 (([2, 1, 2] : List Int))).bind fun cP => (if cP = true then (if dr.2.2 = 0 then (if dr.1 = 2 then (some (df == 0)) else (none)) else (none)) else (none))) else (none)) else (none)))) = some r := H; have A3 := aa.mk A30; clear A30; obtain ⟨gh, gr⟩ : ∃ y_ : List Int, y_ = (([2, 1, 2] : List Int)) := ⟨_, rfl⟩; replace H : ((QT.f k t112 t115 gh (([5, 9] : List Int))).bind fun dr => ((Q7.f k (([(([1, 0] : List Int))] : List (List Int))) (([(([0, 1] : List Int))] : List (List Int))) (([1, (-1)] : List Int))).bind fun df => (if t111 = 0 then (if t110 = true then ((Qn.f k t107 (([2, 1, 2] : List Int))).bind fun cP => (if cP = true then (if dr.2.2 = 0 then (if dr.1 = 2 then (some (df == 0)) else (none)) else (none)) else (none))) else (none)) else (none)))) = some r := by first | (rw [gr]; with_reducible exact H) | (have H2_ := (Option.bind_some _ _).symm.trans H; rw [gr]; with_reducible exact H2_) | (have H2_ := (Option.bind_some _ _).symm.trans H; with_reducible exact H2_) | with_reducible exact H | (rw [gr]; exact H) | exact H
 have nJ := aa.mk gr; clear gr; obtain ⟨dW, gm⟩ : ∃ y_ : List Int, y_ = (([5, 9] : List Int)) := ⟨_, rfl⟩; replace H : ((QT.f k t112 t115 gh dW).bind fun dr => ((Q7.f k (([(([1, 0] : List Int))] : List (List Int))) (([(([0, 1] : List Int))] : List (List Int))) (([1, (-1)] : List Int))).bind fun df => (if t111 = 0 then (if t110 = true then ((Qn.f k t107 (([2, 1, 2] : List Int))).bind fun cP => (if cP = true then (if dr.2.2 = 0 then (if dr.1 = 2 then (some (df == 0)) else (none)) else (none)) else (none))) else (none)) else (none)))) = some r := by first | (rw [gm]; with_reducible exact H) | (have H2_ := (Option.bind_some _ _).symm.trans H; rw [gm]; with_reducible exact H2_) | (have H2_ := (Option.bind_some _ _).symm.trans H; with_reducible exact H2_) | with_reducible exact H | (rw [gm]; exact H) | exact H
 have l8 := aa.mk gm; clear gm; replace H := Option.bind_eq_some_iff.mp H; obtain ⟨⟨t124, t125, bm⟩, A40, H⟩ := H; replace H : ((Q7.f k (([(([1, 0] : List Int))] : List (List Int))) (([(([0, 1] : List Int))] : List (List Int))) (([1, (-1)] : List Int))).bind fun df => (if t111 = 0 then (if t110 = true then ((Qn.f k t107 (([2, 1, 2] : List Int))).bind fun cP => (if cP = true then (if bm = 0 then (if t124 = 2 then (some (df == 0)) else (none)) else (none)) else (none))) else (none)) else (none))) = some r := H; have A4 := aa.mk A40; clear A40; obtain ⟨kj, gl⟩ : ∃ y_ : List Int, y_ = (([1, 0] : List Int)) := ⟨_, rfl⟩; replace H : ((Q7.f k (([kj] : List (List Int))) (([(([0, 1] : List Int))] : List (List Int))) (([1, (-1)] : List Int))).bind fun df => (if t111 = 0 then (if t110 = true then ((Qn.f k t107 (([2, 1, 2] : List Int))).bind fun cP => (if cP = true then (if bm = 0 then (if t124 = 2 then (some (df == 0)) else (none)) else (none)) else (none))) else (none)) else (none))) = some r := by first | (rw [gl]; with_reducible exact H) | (have H2_ := (Option.bind_some _ _).symm.trans H; rw [gl]; with_reducible exact H2_) | (have H2_ := (Option.bind_some _ _).symm.trans H; with_reducible exact H2_) | with_reducible exact H | (rw [gl]; exact H) | exact H
 have nH := aa.mk gl; clear gl; obtain ⟨nZ, lI⟩ : ∃ y_ : List (List Int), y_ = (([kj] : List (List Int))) := ⟨_, rfl⟩; replace H : ((Q7.f k nZ (([(([0, 1] : List Int))] : List (List Int))) (([1, (-1)] : List Int))).bind fun df => (if t111 = 0 then (if t110 = true then ((Qn.f k t107 (([2, 1, 2] : List Int))).bind fun cP => (if cP = true then (if bm = 0 then (if t124 = 2 then (some (df == 0)) else (none)) else (none)) else (none))) else (none)) else (none))) = some r := by first | (rw [lI]; with_reducible exact H) | (have H2_ := (Option.bind_some _ _).symm.trans H; rw [lI]; with_reducible exact H2_) | (have H2_ := (Option.bind_some _ _).symm.trans H; with_reducible exact H2_) | with_reducible exact H | (rw [lI]; exact H) | exact H
 have rZ := aa.mk lI; clear lI; obtain ⟨nY, lG⟩ : ∃ y_ : List Int, y_ = (([0, 1] : List Int)) := ⟨_, rfl⟩; replace H : ((Q7.f k nZ (([nY] : List (List Int))) (([1, (-1)] : List Int))).bind fun df => (if t111 = 0 then (if t110 = true then ((Qn.f k t107 (([2, 1, 2] : List Int))).bind fun cP => (if cP = true then (if bm = 0 then (if t124 = 2 then (some (df == 0)) else (none)) else (none)) else (none))) else (none)) else (none))) = some r := by first | (rw [lG]; with_reducible exact H) | (have H2_ := (Option.bind_some _ _).symm.trans H; rw [lG]; with_reducible exact H2_) | (have H2_ := (Option.bind_some _ _).symm.trans H; with_reducible exact H2_) | with_reducible exact H | (rw [lG]; exact H) | exact H
 have rY := aa.mk lG; clear lG; obtain ⟨pK, lF⟩ : ∃ y_ : List (List Int), y_ = (([nY] : List (List Int))) := ⟨_, rfl⟩; replace H : ((Q7.f k nZ pK (([1, (-1)] : List Int))).bind fun df => (if t111 = 0 then (if t110 = true then ((Qn.f k t107 (([2, 1, 2] : List Int))).bind fun cP => (if cP = true then (if bm = 0 then (if t124 = 2 then (some (df == 0)) else (none)) else (none)) else (none))) else (none)) else (none))) = some r := by first | (rw [lF]; with_reducible exact H) | (have H2_ := (Option.bind_some _ _).symm.trans H; rw [lF]; with_reducible exact H2_) | (have H2_ := (Option.bind_some _ _).symm.trans H; with_reducible exact H2_) | with_reducible exact H | (rw [lF]; exact H) | exact H
 have rX := aa.mk lF; clear lF; obtain ⟨r9, lD⟩ : ∃ y_ : List Int, y_ = (([1, (-1)] : List Int)) := ⟨_, rfl⟩; replace H : ((Q7.f k nZ pK r9).bind fun df => (if t111 = 0 then (if t110 = true then ((Qn.f k t107 (([2, 1, 2] : List Int))).bind fun cP => (if cP = true then (if bm = 0 then (if t124 = 2 then (some (df == 0)) else (none)) else (none)) else (none))) else (none)) else (none))) = some r := by first | (rw [lD]; with_reducible exact H) | (have H2_ := (Option.bind_some _ _).symm.trans H; rw [lD]; with_reducible exact H2_) | (have H2_ := (Option.bind_some _ _).symm.trans H; with_reducible exact H2_) | with_reducible exact H | (rw [lD]; exact H) | exact H
 have rW := aa.mk lD; clear lD; replace H := Option.bind_eq_some_iff.mp H; obtain ⟨df, A50, H⟩ := H; replace H : (if t111 = 0 then (if t110 = true then ((Qn.f k t107 (([2, 1, 2] : List Int))).bind fun cP => (if cP = true then (if bm = 0 then (if t124 = 2 then (some (df == 0)) else (none)) else (none)) else (none))) else (none)) else (none)) = some r := H; have A5 := aa.mk A50; clear A50; by_cases c6 : t111 = 0
 ·rw [if_pos c6] at H; have gX : (t111 == 0) = true := beq_iff_eq.mpr c6; have lV : (t111 != 0) = false := bne_eq_false_iff_eq.mpr c6; clear c6; by_cases c7 : t110 = true
  ·subst c7; have H1 : ((Qn.f k t107 (([2, 1, 2] : List Int))).bind fun cP => (if cP = true then (if bm = 0 then (if t124 = 2 then (some (df == 0)) else (none)) else (none)) else (none))) = some r := by rw [if_pos rfl] at H; exact H
   clear H; have H := H1; clear H1; obtain ⟨tW, lC⟩ : ∃ y_ : List Int, y_ = (([2, 1, 2] : List Int)) := ⟨_, rfl⟩; replace H : ((Qn.f k t107 tW).bind fun cP => (if cP = true then (if bm = 0 then (if t124 = 2 then (some (df == 0)) else (none)) else (none)) else (none))) = some r := by first | (rw [lC]; with_reducible exact H) | (have H2_ := (Option.bind_some _ _).symm.trans H; rw [lC]; with_reducible exact H2_) | (have H2_ := (Option.bind_some _ _).symm.trans H; with_reducible exact H2_) | with_reducible exact H | (rw [lC]; exact H) | exact H
   have rV := aa.mk lC; clear lC; replace H := Option.bind_eq_some_iff.mp H; obtain ⟨cP, A80, H⟩ := H; replace H : (if cP = true then (if bm = 0 then (if t124 = 2 then (some (df == 0)) else (none)) else (none)) else (none)) = some r := H; have A8 := aa.mk A80; clear A80; by_cases c9 : cP = true
   ·subst c9; have H1 : (if bm = 0 then (if t124 = 2 then (some (df == 0)) else (none)) else (none)) = some r := by rw [if_pos rfl] at H; exact H
    clear H; have H := H1; clear H1; by_cases c10 : bm = 0
    ·rw [if_pos c10] at H; have fq : (bm == 0) = true := beq_iff_eq.mpr c10; have ja : (bm != 0) = false := bne_eq_false_iff_eq.mpr c10; clear c10; by_cases c11 : t124 = 2
     ·rw [if_pos c11] at H; have fp : (t124 == 2) = true := beq_iff_eq.mpr c11; have Ai : (t124 != 2) = false := bne_eq_false_iff_eq.mpr c11; clear c11; obtain rfl := Option.some.inj H; go_enter Try.func50, Try.ntmps50; go_wp2_with (first | ((with_reducible refine Qg (f := 91) rfl ?_); refine QG (some 9) rfl rfl Try.func91 (by kernel_rfl) rfl #[] rfl hA ?_; (with_reducible refine (Zv.calls  t101 t104 _ A1.out).mono ?_); rintro e w12 ⟨hP, ie, rfl, ho0, ho1, hb⟩; refine ⟨_, rfl, ?_⟩; have aX := aa.mk (Kd.Yj (Kd.Ya (ok' := fun k_ => some k_ ≠ (ie : Value).ownBlock) ho0 (fun k_ hk_ => hk_.2)) (Qc bB)); have aY := aa.mk (Kd.Yj (Kd.Ya (ok' := fun k_ => some k_ ≠ (hP : Value).ownBlock) ho1 (fun k_ hk_ => hk_.2)) (Qc bB)); replace HB := aa.mk (Qa bB hb); (try clear hb); (try clear hb2); (try clear hk); (try clear hi); (try clear ho0); (try clear ho1); obtain ⟨gY, gW, te⟩ := Kd.Yb aX.out; subst te; obtain ⟨gQ, ee, mO⟩ := Kd.Yb aY.out; subst mO) | ((with_reducible refine Qg (f := 41) rfl ?_); refine QG (some 10) rfl rfl Try.func41 (by kernel_rfl) rfl #[.agg #[.slice gY t101.length gW, .slice gQ t104.length ee]] rfl hA ?_; (with_reducible refine (Q5.calls k _ _ t101 _ _ t104 t107 true t111 _ ?ah ?ai ?aq ?ar A2.out).mono ?_); (case ah => exact (Kd.Zi aX.out).2.2); (case ai => exact (Kd.Zi aX.out).2.1); (case aq => exact (Kd.Zi aY.out).2.2); (case ar => exact (Kd.Zi aY.out).2.1); rintro e w15 ⟨de, rfl, ho0, hb⟩; refine ⟨_, rfl, ?_⟩; replace aX := aa.mk (Kd.Zf aX.out (Kd.QS ho0) hb); replace aY := aa.mk (Kd.Zf aY.out (Kd.QS ho0) hb); have aW := aa.mk (Kd.Zg ho0 (Qc bB)); replace HB := aa.mk (Qa bB hb); (try clear hb); (try clear hb2); (try clear hk); (try clear hi); (try clear ho0)) | ((with_reducible refine Qg (f := 91) rfl ?_); refine QG (some 15) rfl rfl Try.func91 (by kernel_rfl) rfl #[] rfl hA ?_; (with_reducible refine (Zv.calls  t112 t115 _ A3.out).mono ?_); rintro e w16 ⟨om, tY, rfl, ho0, ho1, hb⟩; refine ⟨_, rfl, ?_⟩; have b7 := aa.mk (Kd.Yj (Kd.Ya (ok' := fun k_ => some k_ ≠ (tY : Value).ownBlock ∧ some k_ ≠ (.slice gY t101.length gW : Value).ownBlock ∧ some k_ ≠ (.slice gQ t104.length ee : Value).ownBlock ∧ some k_ ≠ (de : Value).ownBlock) ho0 (fun k_ hk_ => ⟨hk_.2, (Kd.fresh' (Kd.N_lt aX.out) k_ hk_.1), (Kd.fresh' (Kd.N_lt aY.out) k_ hk_.1), (Kd.fresh' (Kd.R_lt aW.out) k_ hk_.1)⟩)) (Qc bB)); have b6 := aa.mk (Kd.Yj (Kd.Ya (ok' := fun k_ => some k_ ≠ (om : Value).ownBlock ∧ some k_ ≠ (.slice gY t101.length gW : Value).ownBlock ∧ some k_ ≠ (.slice gQ t104.length ee : Value).ownBlock ∧ some k_ ≠ (de : Value).ownBlock) ho1 (fun k_ hk_ => ⟨hk_.2, (Kd.fresh' (Kd.N_lt aX.out) k_ hk_.1), (Kd.fresh' (Kd.N_lt aY.out) k_ hk_.1), (Kd.fresh' (Kd.R_lt aW.out) k_ hk_.1)⟩)) (Qc bB)); replace aX := aa.mk (Kd.Ya (Kd.JW (Kd.JW (Kd.N_old aX.out hb) (Kd.Z8 ho0)) (Kd.Z8 ho1)) (fun _ h_ => h_.1)); replace aY := aa.mk (Kd.Ya (Kd.JW (Kd.JW (Kd.N_old aY.out hb) (Kd.Z8 ho0)) (Kd.Z8 ho1)) (fun _ h_ => h_.1)); replace aW := aa.mk (Kd.QR aW.out hb); replace HB := aa.mk (Qa bB hb); (try clear hb); (try clear hb2); (try clear hk); (try clear hi); (try clear ho0); (try clear ho1)) | ((with_reducible refine QO (N := 16) rfl ?_); (try (refine Z5 (by rfl) ?_; dsimp only)); refine Kd.YS (Kd.int .i64) _ 3 ?hg (N := 16) ?hd (xs := ([2, 1, 2] : List Int)) (inner := [.int .i64 2, .int .i64 1, .int .i64 2]) (ok := fun _ => True) (okp := fun _ => True) ?hr ?hp (fun _ hk => hk) trivial (Below.refl _ _) (Nat.le_refl _) (by simp) ?_; (case hd => rfl); (case hg => rfl); (case hr => first | (go_simp; done) | (go_simp; rfl)); (case hp => exact (Reps.one (show Kd.M (Kd.int .i64) _ _ _ 2 [.int .i64 2] from rfl) (Reps.one (show Kd.M (Kd.int .i64) _ _ _ 1 [.int .i64 1] from rfl) (Reps.one (show Kd.M (Kd.int .i64) _ _ _ 2 [.int .i64 2] from rfl) (Reps.none _ _))))); intro xU w17 gf hb hg_ hnew_; clear hg_ hnew_; (first | rw [← nJ.out] at gf | (simp only [Int.reduceToNat] at gf; rw [← nJ.out] at gf)); replace aX := aa.mk (Kd.Zf aX.out (Kd.QS gf) hb); replace aY := aa.mk (Kd.Zf aY.out (Kd.QS gf) hb); replace b7 := aa.mk (Kd.Zf b7.out (Kd.QS gf) hb); replace b6 := aa.mk (Kd.Zf b6.out (Kd.QS gf) hb); have aU := aa.mk (Kd.Zg (Kd.Zt gf (Kd.R_lt aW.out)) (Qc bB)); replace aW := aa.mk (Kd.Zd aW.out (Kd.QS gf) hb); replace HB := aa.mk (Qa bB hb); clear hb gf) | ((with_reducible refine QO (N := 17) rfl ?_); (try (refine Z5 (by rfl) ?_; dsimp only)); refine Kd.YS (Kd.int .i64) _ 3 ?hg (N := 17) ?hd (xs := ([5, 9] : List Int)) (inner := [.int .i64 5, .int .i64 9]) (ok := fun _ => True) (okp := fun _ => True) ?hr ?hp (fun _ hk => hk) trivial (Below.refl _ _) (Nat.le_refl _) (by simp) ?_; (case hd => rfl); (case hg => rfl); (case hr => first | (go_simp; done) | (go_simp; rfl)); (case hp => exact (Reps.one (show Kd.M (Kd.int .i64) _ _ _ 5 [.int .i64 5] from rfl) (Reps.one (show Kd.M (Kd.int .i64) _ _ _ 9 [.int .i64 9] from rfl) (Reps.none _ _)))); intro tX w19 jV hb hg_ hnew_; clear hg_ hnew_; (first | rw [← l8.out] at jV | (simp only [Int.reduceToNat] at jV; rw [← l8.out] at jV)); replace aX := aa.mk (Kd.Zf aX.out (Kd.QS jV) hb); replace aY := aa.mk (Kd.Zf aY.out (Kd.QS jV) hb); replace b7 := aa.mk (Kd.Zf b7.out (Kd.QS jV) hb); replace b6 := aa.mk (Kd.Zf b6.out (Kd.QS jV) hb); have bk := aa.mk (Kd.Zg (Kd.Zt (Kd.Zt jV (Kd.R_lt aW.out)) (Kd.R_lt aU.out)) (Qc bB)); replace aW := aa.mk (Kd.Zd aW.out (Kd.QS jV) hb); replace aU := aa.mk (Kd.Zd aU.out (Kd.QS jV) hb); replace HB := aa.mk (Qa bB hb); clear hb jV; obtain ⟨ke, j4, yT⟩ := Kd.Yb b7.out; subst yT; obtain ⟨jt, jl, tb⟩ := Kd.Yb b6.out; subst tb; obtain ⟨jr, iT, n8⟩ := Kd.Zc aU.out; subst n8; obtain ⟨kc, jk, qH⟩ := Kd.Zc bk.out; subst qH) | ((with_reducible refine Qg (f := 46) rfl ?_); refine QG (some 18) rfl rfl Try.func46 (by kernel_rfl) rfl #[.agg #[.slice ke t112.length j4, .slice jt t115.length jl], .slice jr gh.length iT, .slice kc dW.length jk] rfl hA ?_; (with_reducible refine (QT.calls k _ _ t112 _ _ t115 _ _ gh _ _ dW t124 t125 bm _ ?ah ?ai ?aq ?ar ?bh ?bg ?lx ?lv A4.out).mono ?_); (case ah => exact (Kd.Zi b7.out).2.2); (case ai => exact (Kd.Zi b7.out).2.1); (case aq => exact (Kd.Zi b6.out).2.2); (case ar => exact (Kd.Zi b6.out).2.1); (case bh => exact (Kd.QA aU.out).2.2); (case bg => exact (Kd.QA aU.out).2.1); (case lx => exact (Kd.QA bk.out).2.2); (case lv => exact (Kd.QA bk.out).2.1); rintro e w25 ⟨ji, rfl, ho0, hb⟩; refine ⟨_, rfl, ?_⟩; replace aX := aa.mk (Kd.Zf aX.out (Kd.QS ho0) hb); replace aY := aa.mk (Kd.Zf aY.out (Kd.QS ho0) hb); replace b7 := aa.mk (Kd.Zf b7.out (Kd.QS ho0) hb); replace b6 := aa.mk (Kd.Zf b6.out (Kd.QS ho0) hb); have bA := aa.mk (Kd.Zg (Kd.Zt (Kd.Zt (Kd.Zt ho0 (Kd.R_lt aW.out)) (Kd.R_lt aU.out)) (Kd.R_lt bk.out)) (Qc bB)); replace aW := aa.mk (Kd.Zd aW.out (Kd.QS ho0) hb); replace aU := aa.mk (Kd.Zd aU.out (Kd.QS ho0) hb); replace bk := aa.mk (Kd.Zd bk.out (Kd.QS ho0) hb); replace HB := aa.mk (Qa bB hb); (try clear hb); (try clear hb2); (try clear hk); (try clear hi); (try clear ho0)) | ((with_reducible refine QO (N := 22) rfl ?_); (try (refine Z5 (by rfl) ?_; dsimp only)); refine Kd.YS (Kd.int .i64) _ 3 ?hg (N := 22) ?hd (xs := ([1, 0] : List Int)) (inner := [.int .i64 1, .int .i64 0]) (ok := fun _ => True) (okp := fun _ => True) ?hr ?hp (fun _ hk => hk) trivial (Below.refl _ _) (Nat.le_refl _) (by simp) ?_; (case hd => rfl); (case hg => rfl); (case hr => first | (go_simp; done) | (go_simp; rfl)); (case hp => exact (Reps.one (show Kd.M (Kd.int .i64) _ _ _ 1 [.int .i64 1] from rfl) (Reps.one (show Kd.M (Kd.int .i64) _ _ _ 0 [.int .i64 0] from rfl) (Reps.none _ _)))); intro xS w26 iP hb hg_ hnew_; clear hg_ hnew_; (first | rw [← nH.out] at iP | (simp only [Int.reduceToNat] at iP; rw [← nH.out] at iP)); replace aX := aa.mk (Kd.Zf aX.out (Kd.QS iP) hb); replace aY := aa.mk (Kd.Zf aY.out (Kd.QS iP) hb); replace b7 := aa.mk (Kd.Zf b7.out (Kd.QS iP) hb); replace b6 := aa.mk (Kd.Zf b6.out (Kd.QS iP) hb); have jf := aa.mk (Kd.Zg (Kd.Zt (Kd.Zt (Kd.Zt (Kd.Zt iP (Kd.R_lt aW.out)) (Kd.R_lt aU.out)) (Kd.R_lt bk.out)) (Kd.R_lt bA.out)) (Qc bB)); replace aW := aa.mk (Kd.Zd aW.out (Kd.QS iP) hb); replace aU := aa.mk (Kd.Zd aU.out (Kd.QS iP) hb); replace bk := aa.mk (Kd.Zd bk.out (Kd.QS iP) hb); replace bA := aa.mk (Kd.Zd bA.out (Kd.QS iP) hb); replace HB := aa.mk (Qa bB hb); clear hb iP; obtain ⟨pA, o9, oT⟩ := Kd.Zc jf.out; subst oT) | ((with_reducible refine QO (N := 23) rfl ?_); (try (refine Z5 (by rfl) ?_; dsimp only)); refine Kd.N_lit (Kd.slice 3 (Kd.int .i64)) _ 28 ?hg (N' := 23) ?hd (xs := ([kj] : List (List Int))) (inner := [.slice pA kj.length o9]) (ok := (fun k_ => some k_ ≠ (.slice gY t101.length gW : Value).ownBlock ∧ some k_ ≠ (.slice gQ t104.length ee : Value).ownBlock ∧ some k_ ≠ (de : Value).ownBlock ∧ some k_ ≠ (.slice ke t112.length j4 : Value).ownBlock ∧ some k_ ≠ (.slice jt t115.length jl : Value).ownBlock ∧ some k_ ≠ (.slice jr gh.length iT : Value).ownBlock ∧ some k_ ≠ (.slice kc dW.length jk : Value).ownBlock ∧ some k_ ≠ (ji : Value).ownBlock)) (okp := (fun k_ => some k_ ≠ (.slice gY t101.length gW : Value).ownBlock ∧ some k_ ≠ (.slice gQ t104.length ee : Value).ownBlock ∧ some k_ ≠ (de : Value).ownBlock ∧ some k_ ≠ (.slice ke t112.length j4 : Value).ownBlock ∧ some k_ ≠ (.slice jt t115.length jl : Value).ownBlock ∧ some k_ ≠ (.slice jr gh.length iT : Value).ownBlock ∧ some k_ ≠ (.slice kc dW.length jk : Value).ownBlock ∧ some k_ ≠ (ji : Value).ownBlock)) ?hr ?hp (fun _ hk => hk) ((show ∀ k_, w26.heap.size ≤ k_ → (fun k_ => some k_ ≠ (.slice gY t101.length gW : Value).ownBlock ∧ some k_ ≠ (.slice gQ t104.length ee : Value).ownBlock ∧ some k_ ≠ (de : Value).ownBlock ∧ some k_ ≠ (.slice ke t112.length j4 : Value).ownBlock ∧ some k_ ≠ (.slice jt t115.length jl : Value).ownBlock ∧ some k_ ≠ (.slice jr gh.length iT : Value).ownBlock ∧ some k_ ≠ (.slice kc dW.length jk : Value).ownBlock ∧ some k_ ≠ (ji : Value).ownBlock) k_ from fun k_ hk => ⟨Kd.fresh' (Kd.N_lt aX.out) k_ hk, Kd.fresh' (Kd.N_lt aY.out) k_ hk, Kd.fresh' (Kd.R_lt aW.out) k_ hk, Kd.fresh' (Kd.N_lt b7.out) k_ hk, Kd.fresh' (Kd.N_lt b6.out) k_ hk, Kd.fresh' (Kd.R_lt aU.out) k_ hk, Kd.fresh' (Kd.R_lt bk.out) k_ hk, Kd.fresh' (Kd.R_lt bA.out) k_ hk⟩) _ (Nat.le_refl _)) (Below.refl _ _) (Nat.le_refl _) (by simp) ?_; (case hd => rfl); (case hg => rfl); (case hr => first | (go_simp; done) | (go_simp; rfl)); (case hp => exact (Reps.one (show Kd.FK (Kd.slice 3 (Kd.int .i64)) _ _ kj [.slice pA kj.length o9] from (Kd.YC (Kd.QA (Kd.Q8 (ok' := (fun k_ => some k_ ≠ (.slice gY t101.length gW : Value).ownBlock ∧ some k_ ≠ (.slice gQ t104.length ee : Value).ownBlock ∧ some k_ ≠ (de : Value).ownBlock ∧ some k_ ≠ (.slice ke t112.length j4 : Value).ownBlock ∧ some k_ ≠ (.slice jt t115.length jl : Value).ownBlock ∧ some k_ ≠ (.slice jr gh.length iT : Value).ownBlock ∧ some k_ ≠ (.slice kc dW.length jk : Value).ownBlock ∧ some k_ ≠ (ji : Value).ownBlock)) (Kd.ZD (Kd.ZD (Kd.ZD (Kd.ZD (jf.out) (Kd.ZG aX.out) (by decide)) (Kd.ZG aY.out) (by decide)) (Kd.ZG b7.out) (by decide)) (Kd.ZG b6.out) (by decide)) (fun k_ hk => ⟨hk.1.1.1.2, ⟨hk.1.1.2, ⟨hk.1.1.1.1.1.1.1.2, ⟨hk.1.2, ⟨hk.2, ⟨hk.1.1.1.1.1.1.2, ⟨hk.1.1.1.1.1.2, hk.1.1.1.1.2⟩⟩⟩⟩⟩⟩⟩))).2.1 (Kd.R_F (Kd.Q8 (ok' := (fun k_ => some k_ ≠ (.slice gY t101.length gW : Value).ownBlock ∧ some k_ ≠ (.slice gQ t104.length ee : Value).ownBlock ∧ some k_ ≠ (de : Value).ownBlock ∧ some k_ ≠ (.slice ke t112.length j4 : Value).ownBlock ∧ some k_ ≠ (.slice jt t115.length jl : Value).ownBlock ∧ some k_ ≠ (.slice jr gh.length iT : Value).ownBlock ∧ some k_ ≠ (.slice kc dW.length jk : Value).ownBlock ∧ some k_ ≠ (ji : Value).ownBlock)) (Kd.ZD (Kd.ZD (Kd.ZD (Kd.ZD (jf.out) (Kd.ZG aX.out) (by decide)) (Kd.ZG aY.out) (by decide)) (Kd.ZG b7.out) (by decide)) (Kd.ZG b6.out) (by decide)) (fun k_ hk => ⟨hk.1.1.1.2, ⟨hk.1.1.2, ⟨hk.1.1.1.1.1.1.1.2, ⟨hk.1.2, ⟨hk.2, ⟨hk.1.1.1.1.1.1.2, ⟨hk.1.1.1.1.1.2, hk.1.1.1.1.2⟩⟩⟩⟩⟩⟩⟩))))) (Reps.none _ _))); intro oh w29 kO hb hg_ hnew_; clear hg_ hnew_; (first | rw [← rZ.out] at kO | (simp only [Int.reduceToNat] at kO; rw [← rZ.out] at kO)); replace aX := aa.mk (Kd.Zf aX.out (Kd.Z8 kO) hb); replace aY := aa.mk (Kd.Zf aY.out (Kd.Z8 kO) hb); replace aW := aa.mk (Kd.QR aW.out hb); replace b7 := aa.mk (Kd.Zf b7.out (Kd.Z8 kO) hb); replace b6 := aa.mk (Kd.Zf b6.out (Kd.Z8 kO) hb); replace aU := aa.mk (Kd.QR aU.out hb); replace bk := aa.mk (Kd.QR bk.out hb); replace bA := aa.mk (Kd.QR bA.out hb); have ey := aa.mk (Kd.Yj kO (Qc bB)); replace HB := aa.mk (Qa bB hb); clear jf; clear hb kO) | ((with_reducible refine QO (N := 24) rfl ?_); (try (refine Z5 (by rfl) ?_; dsimp only)); refine Kd.YS (Kd.int .i64) _ 3 ?hg (N := 24) ?hd (xs := ([0, 1] : List Int)) (inner := [.int .i64 0, .int .i64 1]) (ok := fun _ => True) (okp := fun _ => True) ?hr ?hp (fun _ hk => hk) trivial (Below.refl _ _) (Nat.le_refl _) (by simp) ?_; (case hd => rfl); (case hg => rfl); (case hr => first | (go_simp; done) | (go_simp; rfl)); (case hp => exact (Reps.one (show Kd.M (Kd.int .i64) _ _ _ 0 [.int .i64 0] from rfl) (Reps.one (show Kd.M (Kd.int .i64) _ _ _ 1 [.int .i64 1] from rfl) (Reps.none _ _)))); intro AA w31 im hb hg_ hnew_; clear hg_ hnew_; (first | rw [← rY.out] at im | (simp only [Int.reduceToNat] at im; rw [← rY.out] at im)); replace aX := aa.mk (Kd.Zf aX.out (Kd.QS im) hb); replace aY := aa.mk (Kd.Zf aY.out (Kd.QS im) hb); replace b7 := aa.mk (Kd.Zf b7.out (Kd.QS im) hb); replace b6 := aa.mk (Kd.Zf b6.out (Kd.QS im) hb); replace ey := aa.mk (Kd.Zf ey.out (Kd.QS im) hb); have nT := aa.mk (Kd.Zg (Kd.Zt (Kd.Zt (Kd.Zt (Kd.Zt im (Kd.R_lt aW.out)) (Kd.R_lt aU.out)) (Kd.R_lt bk.out)) (Kd.R_lt bA.out)) (Qc bB)); replace aW := aa.mk (Kd.Zd aW.out (Kd.QS im) hb); replace aU := aa.mk (Kd.Zd aU.out (Kd.QS im) hb); replace bk := aa.mk (Kd.Zd bk.out (Kd.QS im) hb); replace bA := aa.mk (Kd.Zd bA.out (Kd.QS im) hb); replace HB := aa.mk (Qa bB hb); clear hb im; obtain ⟨ra, qM, s9⟩ := Kd.Zc nT.out; subst s9) | ((with_reducible refine QO (N := 25) rfl ?_); (try (refine Z5 (by rfl) ?_; dsimp only)); refine Kd.N_lit (Kd.slice 3 (Kd.int .i64)) _ 28 ?hg (N' := 25) ?hd (xs := ([nY] : List (List Int))) (inner := [.slice ra nY.length qM]) (ok := (fun k_ => some k_ ≠ (.slice gY t101.length gW : Value).ownBlock ∧ some k_ ≠ (.slice gQ t104.length ee : Value).ownBlock ∧ some k_ ≠ (de : Value).ownBlock ∧ some k_ ≠ (.slice ke t112.length j4 : Value).ownBlock ∧ some k_ ≠ (.slice jt t115.length jl : Value).ownBlock ∧ some k_ ≠ (.slice jr gh.length iT : Value).ownBlock ∧ some k_ ≠ (.slice kc dW.length jk : Value).ownBlock ∧ some k_ ≠ (ji : Value).ownBlock ∧ some k_ ≠ (oh : Value).ownBlock)) (okp := (fun k_ => some k_ ≠ (.slice gY t101.length gW : Value).ownBlock ∧ some k_ ≠ (.slice gQ t104.length ee : Value).ownBlock ∧ some k_ ≠ (de : Value).ownBlock ∧ some k_ ≠ (.slice ke t112.length j4 : Value).ownBlock ∧ some k_ ≠ (.slice jt t115.length jl : Value).ownBlock ∧ some k_ ≠ (.slice jr gh.length iT : Value).ownBlock ∧ some k_ ≠ (.slice kc dW.length jk : Value).ownBlock ∧ some k_ ≠ (ji : Value).ownBlock ∧ some k_ ≠ (oh : Value).ownBlock)) ?hr ?hp (fun _ hk => hk) ((show ∀ k_, w31.heap.size ≤ k_ → (fun k_ => some k_ ≠ (.slice gY t101.length gW : Value).ownBlock ∧ some k_ ≠ (.slice gQ t104.length ee : Value).ownBlock ∧ some k_ ≠ (de : Value).ownBlock ∧ some k_ ≠ (.slice ke t112.length j4 : Value).ownBlock ∧ some k_ ≠ (.slice jt t115.length jl : Value).ownBlock ∧ some k_ ≠ (.slice jr gh.length iT : Value).ownBlock ∧ some k_ ≠ (.slice kc dW.length jk : Value).ownBlock ∧ some k_ ≠ (ji : Value).ownBlock ∧ some k_ ≠ (oh : Value).ownBlock) k_ from fun k_ hk => ⟨Kd.fresh' (Kd.N_lt aX.out) k_ hk, Kd.fresh' (Kd.N_lt aY.out) k_ hk, Kd.fresh' (Kd.R_lt aW.out) k_ hk, Kd.fresh' (Kd.N_lt b7.out) k_ hk, Kd.fresh' (Kd.N_lt b6.out) k_ hk, Kd.fresh' (Kd.R_lt aU.out) k_ hk, Kd.fresh' (Kd.R_lt bk.out) k_ hk, Kd.fresh' (Kd.R_lt bA.out) k_ hk, Kd.fresh' (Kd.N_lt ey.out) k_ hk⟩) _ (Nat.le_refl _)) (Below.refl _ _) (Nat.le_refl _) (by simp) ?_; (case hd => rfl); (case hg => rfl); (case hr => first | (go_simp; done) | (go_simp; rfl)); (case hp => exact (Reps.one (show Kd.FK (Kd.slice 3 (Kd.int .i64)) _ _ nY [.slice ra nY.length qM] from (Kd.YC (Kd.QA (Kd.Q8 (ok' := (fun k_ => some k_ ≠ (.slice gY t101.length gW : Value).ownBlock ∧ some k_ ≠ (.slice gQ t104.length ee : Value).ownBlock ∧ some k_ ≠ (de : Value).ownBlock ∧ some k_ ≠ (.slice ke t112.length j4 : Value).ownBlock ∧ some k_ ≠ (.slice jt t115.length jl : Value).ownBlock ∧ some k_ ≠ (.slice jr gh.length iT : Value).ownBlock ∧ some k_ ≠ (.slice kc dW.length jk : Value).ownBlock ∧ some k_ ≠ (ji : Value).ownBlock ∧ some k_ ≠ (oh : Value).ownBlock)) (Kd.ZD (Kd.ZD (Kd.ZD (Kd.ZD (Kd.ZD (nT.out) (Kd.ZG aX.out) (by decide)) (Kd.ZG aY.out) (by decide)) (Kd.ZG b7.out) (by decide)) (Kd.ZG b6.out) (by decide)) (Kd.ZG ey.out) (by decide)) (fun k_ hk => ⟨hk.1.1.1.1.2, ⟨hk.1.1.1.2, ⟨hk.1.1.1.1.1.1.1.1.2, ⟨hk.1.1.2, ⟨hk.1.2, ⟨hk.1.1.1.1.1.1.1.2, ⟨hk.1.1.1.1.1.1.2, ⟨hk.1.1.1.1.1.2, hk.2⟩⟩⟩⟩⟩⟩⟩⟩))).2.1 (Kd.R_F (Kd.Q8 (ok' := (fun k_ => some k_ ≠ (.slice gY t101.length gW : Value).ownBlock ∧ some k_ ≠ (.slice gQ t104.length ee : Value).ownBlock ∧ some k_ ≠ (de : Value).ownBlock ∧ some k_ ≠ (.slice ke t112.length j4 : Value).ownBlock ∧ some k_ ≠ (.slice jt t115.length jl : Value).ownBlock ∧ some k_ ≠ (.slice jr gh.length iT : Value).ownBlock ∧ some k_ ≠ (.slice kc dW.length jk : Value).ownBlock ∧ some k_ ≠ (ji : Value).ownBlock ∧ some k_ ≠ (oh : Value).ownBlock)) (Kd.ZD (Kd.ZD (Kd.ZD (Kd.ZD (Kd.ZD (nT.out) (Kd.ZG aX.out) (by decide)) (Kd.ZG aY.out) (by decide)) (Kd.ZG b7.out) (by decide)) (Kd.ZG b6.out) (by decide)) (Kd.ZG ey.out) (by decide)) (fun k_ hk => ⟨hk.1.1.1.1.2, ⟨hk.1.1.1.2, ⟨hk.1.1.1.1.1.1.1.1.2, ⟨hk.1.1.2, ⟨hk.1.2, ⟨hk.1.1.1.1.1.1.1.2, ⟨hk.1.1.1.1.1.1.2, ⟨hk.1.1.1.1.1.2, hk.2⟩⟩⟩⟩⟩⟩⟩⟩))))) (Reps.none _ _))); intro Az w34 kr hb hg_ hnew_; clear hg_ hnew_; (first | rw [← rX.out] at kr | (simp only [Int.reduceToNat] at kr; rw [← rX.out] at kr)); replace aX := aa.mk (Kd.Zf aX.out (Kd.Z8 kr) hb); replace aY := aa.mk (Kd.Zf aY.out (Kd.Z8 kr) hb); replace aW := aa.mk (Kd.QR aW.out hb); replace b7 := aa.mk (Kd.Zf b7.out (Kd.Z8 kr) hb); replace b6 := aa.mk (Kd.Zf b6.out (Kd.Z8 kr) hb); replace aU := aa.mk (Kd.QR aU.out hb); replace bk := aa.mk (Kd.QR bk.out hb); replace bA := aa.mk (Kd.QR bA.out hb); replace ey := aa.mk (Kd.Zf ey.out (Kd.Z8 kr) hb); have iF := aa.mk (Kd.Yj kr (Qc bB)); replace HB := aa.mk (Qa bB hb); clear nT; clear hb kr; obtain ⟨q8, qK, n7⟩ := Kd.Yb iF.out; subst n7; obtain ⟨q7, qJ, s8⟩ := Kd.Yb ey.out; subst s8) | ((with_reducible refine QO (N := 27) rfl ?_); (try (refine Z5 (by rfl) ?_; dsimp only)); refine Kd.YS (Kd.int .i64) _ 3 ?hg (N := 27) ?hd (xs := ([1, (-1)] : List Int)) (inner := [.int .i64 1, .int .i64 (-1)]) (ok := fun _ => True) (okp := fun _ => True) ?hr ?hp (fun _ hk => hk) trivial (Below.refl _ _) (Nat.le_refl _) (by simp) ?_; (case hd => rfl); (case hg => rfl); (case hr => first | (go_simp; done) | (go_simp; rfl)); (case hp => exact (Reps.one (show Kd.M (Kd.int .i64) _ _ _ 1 [.int .i64 1] from rfl) (Reps.one (show Kd.M (Kd.int .i64) _ _ _ (-1) [.int .i64 (-1)] from rfl) (Reps.none _ _)))); intro Ay w38 ia hb hg_ hnew_; clear hg_ hnew_; (first | rw [← rW.out] at ia | (simp only [Int.reduceToNat] at ia; rw [← rW.out] at ia)); replace aX := aa.mk (Kd.Zf aX.out (Kd.QS ia) hb); replace aY := aa.mk (Kd.Zf aY.out (Kd.QS ia) hb); replace b7 := aa.mk (Kd.Zf b7.out (Kd.QS ia) hb); replace b6 := aa.mk (Kd.Zf b6.out (Kd.QS ia) hb); replace ey := aa.mk (Kd.Zf ey.out (Kd.QS ia) hb); replace iF := aa.mk (Kd.Zf iF.out (Kd.QS ia) hb); have je := aa.mk (Kd.Zg (Kd.Zt (Kd.Zt (Kd.Zt (Kd.Zt ia (Kd.R_lt aW.out)) (Kd.R_lt aU.out)) (Kd.R_lt bk.out)) (Kd.R_lt bA.out)) (Qc bB)); replace aW := aa.mk (Kd.Zd aW.out (Kd.QS ia) hb); replace aU := aa.mk (Kd.Zd aU.out (Kd.QS ia) hb); replace bk := aa.mk (Kd.Zd bk.out (Kd.QS ia) hb); replace bA := aa.mk (Kd.Zd bA.out (Kd.QS ia) hb); replace HB := aa.mk (Qa bB hb); clear hb ia; obtain ⟨od, oa, lT⟩ := Kd.Zc je.out; subst lT) | ((with_reducible refine Qg (f := 43) rfl ?_); refine QG (some 28) rfl rfl Try.func43 (by kernel_rfl) rfl #[.agg #[.slice q7 nZ.length qJ, .slice q8 pK.length qK], .slice od r9.length oa] rfl hA ?_; (with_reducible refine (Q7.calls k _ _ nZ _ _ pK _ _ r9 df _ ?ah ?ai ?aq ?ar ?bh ?bg A5.out).mono ?_); (case ah => exact (Kd.Zi ey.out).2.2); (case ai => exact (Kd.Zi ey.out).2.1); (case aq => exact (Kd.Zi iF.out).2.2); (case ar => exact (Kd.Zi iF.out).2.1); (case bh => exact (Kd.QA je.out).2.2); (case bg => exact (Kd.QA je.out).2.1); rintro e w41 ⟨rfl, hb⟩; refine ⟨_, rfl, ?_⟩; replace aX := aa.mk (Kd.Z0 aX.out hb); replace aY := aa.mk (Kd.Z0 aY.out hb); replace aW := aa.mk (Kd.QR aW.out hb); replace b7 := aa.mk (Kd.Z0 b7.out hb); replace b6 := aa.mk (Kd.Z0 b6.out hb); replace aU := aa.mk (Kd.QR aU.out hb); replace bk := aa.mk (Kd.QR bk.out hb); replace bA := aa.mk (Kd.QR bA.out hb); replace ey := aa.mk (Kd.Z0 ey.out hb); replace iF := aa.mk (Kd.Z0 iF.out hb); replace je := aa.mk (Kd.QR je.out hb); replace HB := aa.mk (Qa bB hb); (try clear hb); (try clear hb2); (try clear hk); (try clear hi)) | ((with_reducible refine QO (N := 36) rfl ?_); (try (refine Z5 (by rfl) ?_; dsimp only)); refine Kd.YS (Kd.int .i64) _ 3 ?hg (N := 36) ?hd (xs := ([2, 1, 2] : List Int)) (inner := [.int .i64 2, .int .i64 1, .int .i64 2]) (ok := fun _ => True) (okp := fun _ => True) ?hr ?hp (fun _ hk => hk) trivial (Below.refl _ _) (Nat.le_refl _) (by simp) ?_; (case hd => rfl); (case hg => rfl); (case hr => first | (go_simp; done) | (go_simp; rfl)); (case hp => exact (Reps.one (show Kd.M (Kd.int .i64) _ _ _ 2 [.int .i64 2] from rfl) (Reps.one (show Kd.M (Kd.int .i64) _ _ _ 1 [.int .i64 1] from rfl) (Reps.one (show Kd.M (Kd.int .i64) _ _ _ 2 [.int .i64 2] from rfl) (Reps.none _ _))))); intro Ax w42 gT hb hg_ hnew_; clear hg_ hnew_; (first | rw [← rV.out] at gT | (simp only [Int.reduceToNat] at gT; rw [← rV.out] at gT)); replace aX := aa.mk (Kd.Zf aX.out (Kd.QS gT) hb); replace aY := aa.mk (Kd.Zf aY.out (Kd.QS gT) hb); replace b7 := aa.mk (Kd.Zf b7.out (Kd.QS gT) hb); replace b6 := aa.mk (Kd.Zf b6.out (Kd.QS gT) hb); replace ey := aa.mk (Kd.Zf ey.out (Kd.QS gT) hb); replace iF := aa.mk (Kd.Zf iF.out (Kd.QS gT) hb); have pv := aa.mk (Kd.Zg (Kd.Zt (Kd.Zt (Kd.Zt (Kd.Zt (Kd.Zt gT (Kd.R_lt aW.out)) (Kd.R_lt aU.out)) (Kd.R_lt bk.out)) (Kd.R_lt bA.out)) (Kd.R_lt je.out)) (Qc bB)); replace aW := aa.mk (Kd.Zd aW.out (Kd.QS gT) hb); replace aU := aa.mk (Kd.Zd aU.out (Kd.QS gT) hb); replace bk := aa.mk (Kd.Zd bk.out (Kd.QS gT) hb); replace bA := aa.mk (Kd.Zd bA.out (Kd.QS gT) hb); replace je := aa.mk (Kd.Zd je.out (Kd.QS gT) hb); replace HB := aa.mk (Qa bB hb); clear hb gT; obtain ⟨BA, AZ, yM⟩ := Kd.Zc aW.out; subst yM; obtain ⟨mZ, mR, oQ⟩ := Kd.Zc pv.out; subst oQ) | (go_at_call 45; (with_reducible refine (Qn.calls k _ _ t107 _ _ tW true _ ?ah ?ai ?aq ?ar A8.out).mono ?_); (case ah => exact (Kd.QA aW.out).2.2); (case ai => exact (Kd.QA aW.out).2.1); (case aq => exact (Kd.QA pv.out).2.2); (case ar => exact (Kd.QA pv.out).2.1); rintro e w' ⟨rfl, ⟨nd, rfl⟩⟩))
      go_ret; exact ⟨by first | rfl | (simp [Qj, Qi] <;> rfl) | (simp [*, Qj, Qi] <;> rfl), bB⟩
     ·rw [if_neg c11] at H; exact absurd H (by simp)
    ·rw [if_neg c10] at H; exact absurd H (by simp)
   ·replace c9 := Bool.eq_false_iff.mpr c9; subst c9; have H1 : (none) = some r := by rw [if_neg (show ¬ (false = true) by decide)] at H; exact H
    clear H; have H := H1; clear H1; exact absurd H (by simp)
  ·replace c7 := Bool.eq_false_iff.mpr c7; subst c7; have H1 : (none) = some r := by rw [if_neg (show ¬ (false = true) by decide)] at H; exact H
   clear H; have H := H1; clear H1; exact absurd H (by simp)
 ·rw [if_neg c6] at H; exact absurd H (by simp)
mutual
def QJ.l0 : Nat → Int → Int → Int → List (List Int) → List (List Int) → Option (List Int × Bool)
 | 0, _, _, _, _, _ => none
 | k + 1, x1, x16, x17, au, av => if x17 < x16 then (if 0 ≤ x1 then (if (Go.bits .and .i64 (shr .i64 x17 x1) 1) = 0 then (QJ.l0 k x1 x16 (wrap64 (x17 + 1)) au av) else ((QY.f au av).bind fun t103 => (QJ.l1 k x1 x17 ([] : List Int) x16 x17 t103 0 au av))) else (none)) else (some (([] : List Int), false))
def QJ.l1 : Nat → Int → Int → List Int → Int → Int → Int → Int → List (List Int) → List (List Int) → Option (List Int × Bool)
 | 0, _, _, _, _, _, _, _, _, _ => none
 | k + 1, x1, x6, x7, x16, x17, x26, x27, au, av => if x27 < x26 then (if 0 ≤ x27 then (if (Go.bits .and .i64 (shr .i64 x6 x27) 1) = 1 then (if x7.length < 17592186044416 then (QJ.l1 k x1 x6 (x7 ++ [x27]) x16 x17 x26 (wrap64 (x27 + 1)) au av) else (none)) else (QJ.l1 k x1 x6 x7 x16 x17 x26 (wrap64 (x27 + 1)) au av)) else (none)) else ((ZK.f au av).bind fun t107 => ((Z2.f t107 x7).bind fun t110 => ((Zj.f t110 (x7.length : Int)).bind fun fa => (if fa.2 = true then ((Ql.f k fa.1).bind fun t117 => (QJ.j2 k x1 x7 fa.1 x16 x17 (decide (t117 ≤ 0)) au av)) else (QJ.j2 k x1 x7 fa.1 x16 x17 true au av)))))
def QJ.j2 : Nat → Int → List Int → List Int → Int → Int → Bool → List (List Int) → List (List Int) → Option (List Int × Bool)
 | 0, _, _, _, _, _, _, _, _ => none
 | k + 1, x1, x7, x9, x16, x17, x56, au, av => if x56 = true then (QJ.l0 k x1 x16 (wrap64 (x17 + 1)) au av) else ((QY.f au av).bind fun t118 => (if 0 ≤ t118 then (if (t118 : Int).toNat ≤ 35184372088832 then (QJ.l2 k x9 (List.replicate (t118 : Int).toNat 0) x7 (x7.length : Int) 0) else (none)) else (none)))
def QJ.l2 : Nat → List Int → List Int → List Int → Int → Int → Option (List Int × Bool)
 | 0, _, _, _, _, _ => none
 | k + 1, x9, x11, x60, x61, x62 => if x62 < x61 then (if 0 ≤ x62 then (if x62 < (x60.length : Int) then (if x62 < (x9.length : Int) then (if 0 ≤ (rd x60 x62) then (if (rd x60 x62) < (x11.length : Int) then (QJ.l2 k x9 (x11.set ((rd x60 x62) : Int).toNat (rd x9 x62)) x60 x61 (wrap64 (x62 + 1))) else (none)) else (none)) else (none)) else (none)) else (none)) else (some (x11, true))
end
def QJ.f (k : Nat) (ae : List (List Int)) (af : List (List Int)) (a1 : Int) : Option (List Int × Bool) := (QY.f ae af).bind fun t102 => (if 0 ≤ t102 then (QJ.l0 k a1 (shl .i64 1 t102) 0 ae af) else (none))
set_option maxHeartbeats 8000000 in
set_option maxRecDepth 100000 in
theorem QJ.calls (k : Nat) (ak : Option Addr) (an : Nat) (ae : List (List Int)) (aj : Option Addr) (al : Nat) (af : List (List Int)) (a1 : Int) (r1 : List Int) (r2 : Bool) (w : World) (aN : Kd.C (Kd.slice 3 (Kd.int .i64)) w ak ae.length ae) (aT : ae.length ≤ an) (aM : Kd.C (Kd.slice 3 (Kd.int .i64)) w aj af.length af) (aQ : af.length ≤ al) (h : QJ.f k ae af a1 = some (r1, r2)) :
  Calls Try.prog 112 #[.agg #[.slice ak ae.length an, .slice aj af.length al], .int .i64 a1] w fun e w' => ∃ v0_ : Value, e = .returned (.tuple #[v0_, .bool r2]) ∧ Kd.R (Kd.int .i64) 3 w' w.heap.size (fun _ => True) v0_ r1 ∧ Below w.heap.size w w' := by
 have en := Try.underlying24; have aw := aa.mk aN; have az := aa.mk aT; clear aN aT; have ay := aa.mk aM; have aA := aa.mk aQ; clear aM aQ; have HB := aa.mk (Below.refl w.heap.size w); have H : ((QY.f ae af).bind fun t102 => (if 0 ≤ t102 then (QJ.l0 k a1 (shl .i64 1 t102) 0 ae af) else (none))) = some (r1, r2) := h; clear h; replace H := Option.bind_eq_some_iff.mp H; obtain ⟨t102, A30, H⟩ := H; replace H : (if 0 ≤ t102 then (QJ.l0 k a1 (shl .i64 1 t102) 0 ae af) else (none)) = some (r1, r2) := H; have A3 := aa.mk A30; clear A30; by_cases c4 : 0 ≤ t102
 ·rw [if_pos c4] at H; have bE := eq_true c4; have dO : decide (0 ≤ t102) = true := decide_eq_true c4; clear c4; obtain ⟨ji5, iQ⟩ : ∃ j_ : Int, (shl .i64 1 t102) = j_ := ⟨_, rfl⟩; replace H : (QJ.l0 k a1 ji5 0 ae af) = some (r1, r2) := by first | (rw [iQ] at H; exact H) | (simp only [iQ] at H ⊢; exact H)
  (try rw [iQ] at A3)
  have lS : (IntKind.i64.wrap (1 * 2 ^ min t102.toNat 64)) = ji5 := iQ; have lR : t102 ≤ 64 → (IntKind.i64.wrap (1 * 2 ^ t102.toNat)) = ji5 := Ja iQ; have uw : (IntKind.i64.wrap (2 ^ min t102.toNat 64)) = ji5 := by have h_ := lS; rw [Int.one_mul] at h_; exact h_
  have uv : t102 ≤ 64 → (IntKind.i64.wrap (2 ^ t102.toNat)) = ji5 := fun hle_ => by have h_ := lR hle_; rw [Int.one_mul] at h_; exact h_
  have ur : (wrap64 (1 * 2 ^ min t102.toNat 64)) = ji5 := (Qy _).symm.trans lS; have uu : t102 ≤ 64 → (wrap64 (1 * 2 ^ t102.toNat)) = ji5 := fun h_ => (Qy _).symm.trans (lR h_)
  have H' := aa.mk H; clear H; go_enter Try.func112, Try.ntmps112; go_wp2_with (first | ((with_reducible refine QO (N := 2) rfl ?_); refine Q4 ?hg (N := 2) ?hd (cs := #[.slice ak ae.length an, .slice aj af.length al]) (t := 24) ?hr ?_; (case hd => rfl); (case hg => rfl); (case hr => first | (go_simp; done) | (go_simp; rfl)); intro ag hg w6 hbox hb; have ab := aa.mk (hbox); have bo := aa.mk ((by rw [hg]; exact (Qc bB) : w.heap.size ≤ ag)); have aV := aa.mk ((by rw [hg]; exact (Qc bB) : w.heap.size ≤ ag)); replace HB := aa.mk (Qa bB hb); clear hb hbox hg; have eM : w6.cell? ⟨ag, 0, none⟩ = some (.slice ak ae.length an) := (Qd ab.out 0).trans rfl; have eK : w6.cell? ⟨ag, 1, none⟩ = some (.slice aj af.length al) := (Qd ab.out 1).trans rfl; have eJ := Qb ab.out 0; have eI := Qb ab.out 1) | ((with_reducible refine Qg (f := 71) rfl ?_); refine QG (some 15) rfl rfl Try.func71 (by kernel_rfl) rfl #[.agg #[.slice ak ae.length an, .slice aj af.length al]] rfl hA ?_; (with_reducible refine (QY.calls _ _ ae _ _ af t102 _ ?ah ?ai ?aq ?ar A3.out).mono ?_); (case ah => exact (Kd.Qo aw.out HB.out)); (case ai => exact az.out); (case aq => exact (Kd.Qo ay.out HB.out)); (case ar => exact aA.out); rintro e w8 ⟨rfl, hb⟩; refine ⟨_, rfl, ?_⟩; replace ab := aa.mk (Qq ab.out hb); replace HB := aa.mk (Qa bB hb); (try clear hb); (try clear hb2); (try clear hk); (try clear hi)))
  go_loopg [17] k (fun kq v17 w' => ∃ (bL : Int), v17 = .int .i64 bL ∧ aa (QJ.l0 kq a1 ji5 bL ae af = some (r1, r2)) ∧ aa (kq ≤ k) ∧ aa (w'.heap[ag]? = some (.cells #[(.slice ak ae.length an), (.slice aj af.length al)] 24 (0, 0))) ∧ aa (Below w.heap.size w w'))
  case atStart => exact ⟨(0), (by first | rfl | (simp; done) | (simp [*]; done)), H', ⟨Nat.le_refl _⟩, ⟨by (with_reducible repeat (first | refine QC ?_ _ | refine QE ?_ | refine Qz ?_ _)); exact ab.out⟩, ⟨bB⟩⟩
  case round =>
   clear H'; try clear c1
   try clear p2
   try clear c4
   try clear bE
   try clear dO
   try clear p6
   try clear c7
   try clear eM
   try clear eK
   try clear eJ
   try clear eI
   obtain ⟨bL, rfl, HA, HK1, ab, HB⟩ := hrel; cases gk with
   | zero => exact absurd HA.out (by simp [QJ.l0])
   | succ k1 =>
    have H := HA.out; clear HA; simp only [QJ.l0] at H; by_cases c9 : bL < ji5
    ·rw [if_pos c9] at H; have eU : decide (bL < ji5) = true := decide_eq_true c9; clear c9; by_cases c10 : 0 ≤ a1
     ·rw [if_pos c10] at H; have fq := eq_true c10; have ja : decide (0 ≤ a1) = true := decide_eq_true c10; clear c10; obtain ⟨bU, gB⟩ : ∃ j_ : Int, (shr .i64 bL a1) = j_ := ⟨_, rfl⟩; replace H : (if (Go.bits .and .i64 (bU) 1) = 0 then (QJ.l0 k1 a1 ji5 (wrap64 (bL + 1)) ae af) else ((QY.f ae af).bind fun t103 => (QJ.l1 k1 a1 bL ([] : List Int) ji5 bL t103 0 ae af))) = some (r1, r2) := by first | (rw [gB] at H; exact H) | (simp only [gB] at H ⊢; exact H)
      have ym : (bL / 2 ^ min a1.toNat 64) = bU := gB; have yk : a1 ≤ 64 → (bL / 2 ^ a1.toNat) = bU := VU gB; by_cases c12 : (Go.bits .and .i64 (bU) 1) = 0
      ·rw [if_pos c12] at H; have eO : ((Go.bits .and .i64 (bU) 1) == 0) = true := beq_iff_eq.mpr c12; have kt : ((Go.bits .and .i64 (bU) 1) != 0) = false := bne_eq_false_iff_eq.mpr c12; clear c12; have H' := aa.mk H; clear H; go_wp2; go_roundg k1
       case measure => have := HK1.out; omega
       case rel => exact ⟨(wrap64 (bL + 1)), (by first | rfl | (simp; done) | (simp [*]; done)), H', ⟨by have := HK1.out; omega⟩, ⟨by (with_reducible repeat (first | refine QC ?_ _ | refine QE ?_ | refine Qz ?_ _)); exact ab.out⟩, ⟨bB⟩⟩
      ·rw [if_neg c12] at H; have eO : ((Go.bits .and .i64 (bU) 1) == 0) = false := beq_eq_false_iff_ne.mpr c12; have kt : ((Go.bits .and .i64 (bU) 1) != 0) = true := bne_iff_ne.mpr c12; replace H := Option.bind_eq_some_iff.mp H; obtain ⟨t103, pH, H⟩ := H; replace H : (QJ.l1 k1 a1 bL ([] : List Int) ji5 bL t103 0 ae af) = some (r1, r2) := H; have A13 := aa.mk pH; clear pH; have H' := aa.mk H; clear H; have e9 : wr.cell? ⟨ag, 0, none⟩ = some (.slice ak ae.length an) := (Qd ab.out 0).trans rfl; have e8 : wr.cell? ⟨ag, 1, none⟩ = some (.slice aj af.length al) := (Qd ab.out 1).trans rfl; have e7 := Qb ab.out 0; have e6 := Qb ab.out 1; go_wp2_with (first | ((with_reducible refine Qg (f := 71) rfl ?_); refine QG (some 26) rfl rfl Try.func71 (by kernel_rfl) rfl #[.agg #[.slice ak ae.length an, .slice aj af.length al]] rfl hA ?_; (with_reducible refine (QY.calls _ _ ae _ _ af t103 _ ?ah ?ai ?aq ?ar A13.out).mono ?_); (case ah => exact (Kd.Qo aw.out HB.out)); (case ai => exact az.out); (case aq => exact (Kd.Qo ay.out HB.out)); (case ar => exact aA.out); rintro e w15 ⟨rfl, hb⟩; refine ⟨_, rfl, ?_⟩; replace ab := aa.mk (Qq ab.out hb); replace HB := aa.mk (Qa bB hb); (try clear hb); (try clear hb2); (try clear hk); (try clear hi)))
       go_loopg [7, 27] k1 (fun kq v7 v27 w' => ∃ (aE : List Int) (dc : Int), v27 = .int .i64 dc ∧ aa (QJ.l1 kq a1 bL aE ji5 bL t103 dc ae af = some (r1, r2)) ∧ aa (kq ≤ k1) ∧ aa (Kd.R (Kd.int .i64) 3 w' w.heap.size (fun _ => True) v7 aE) ∧ aa (w'.heap[ag]? = some (.cells #[(.slice ak ae.length an), (.slice aj af.length al)] 24 (0, 0))) ∧ aa (Below w.heap.size w w'))
       case atStart => exact ⟨(([] : List Int)), (0), (by first | rfl | (simp; done) | (simp [*]; done)), H', ⟨Nat.le_refl _⟩, ⟨by first | exact Kd.Yg _ _ _ _ _ | exact Kd.Yp _ _ _ _ _ | exact Kd.V_nil _ _ _ _ _ | exact Kd.Q_nil _ _ _ _ _ | exact Kd.Ys _ _ _ _ _⟩, ⟨by (with_reducible repeat (first | refine QC ?_ _ | refine QE ?_ | refine Qz ?_ _)); exact ab.out⟩, ⟨bB⟩⟩
       case round =>
        clear H'; try clear c1
        try clear p2
        try clear c4
        try clear bE
        try clear dO
        try clear p6
        try clear c7
        try clear c9
        try clear eU
        try clear c10
        try clear fq
        try clear ja
        try clear c11
        try clear c12
        try clear eO
        try clear kt
        try clear e9
        try clear e8
        try clear eM
        try clear eK
        try clear e7
        try clear e6
        try clear eJ
        try clear eI
        try clear p2
        try clear p6
        obtain ⟨aE, dc, rfl, HA, HK2, aC, ab, HB⟩ := hrel; cases gk with
        | zero => exact absurd HA.out (by simp [QJ.l1])
        | succ k2 =>
         have H := HA.out; clear HA; simp only [QJ.l1] at H; by_cases c16 : dc < t103
         ·rw [if_pos c16] at H; have gH : decide (dc < t103) = true := decide_eq_true c16; clear c16; by_cases c17 : 0 ≤ dc
          ·rw [if_pos c17] at H; have fT := eq_true c17; have rQ : decide (0 ≤ dc) = true := decide_eq_true c17; clear c17; obtain ⟨lB, nm⟩ : ∃ j_ : Int, (shr .i64 bL dc) = j_ := ⟨_, rfl⟩; replace H : (if (Go.bits .and .i64 (lB) 1) = 1 then (if aE.length < 17592186044416 then (QJ.l1 k2 a1 bL (aE ++ [dc]) ji5 bL t103 (wrap64 (dc + 1)) ae af) else (none)) else (QJ.l1 k2 a1 bL aE ji5 bL t103 (wrap64 (dc + 1)) ae af)) = some (r1, r2) := by first | (rw [nm] at H; exact H) | (simp only [nm] at H ⊢; exact H)
           have yi : (bL / 2 ^ min dc.toNat 64) = lB := nm; have yh : dc ≤ 64 → (bL / 2 ^ dc.toNat) = lB := VU nm; by_cases c19 : (Go.bits .and .i64 (lB) 1) = 1
           ·rw [if_pos c19] at H; have cN : ((Go.bits .and .i64 (lB) 1) == 1) = true := beq_iff_eq.mpr c19; have g8 : ((Go.bits .and .i64 (lB) 1) != 1) = false := bne_eq_false_iff_eq.mpr c19; clear c19; by_cases c20 : aE.length < 17592186044416
            ·rw [if_pos c20] at H; have ma := aa.mk c20; clear c20; obtain ⟨jS, cF⟩ : ∃ y_ : List Int, y_ = (aE ++ [dc]) := ⟨_, rfl⟩; replace H : (QJ.l1 k2 a1 bL jS ji5 bL t103 (wrap64 (dc + 1)) ae af) = some (r1, r2) := by first | (rw [cF]; with_reducible exact H) | (have H2_ := (Option.bind_some _ _).symm.trans H; rw [cF]; with_reducible exact H2_) | (have H2_ := (Option.bind_some _ _).symm.trans H; with_reducible exact H2_) | with_reducible exact H | (rw [cF]; exact H) | exact H
             have iB := aa.mk cF; clear cF; have H' := aa.mk H; clear H; go_wp2_with (first | ((with_reducible refine Zr (b := .append) (xs := #[.tmp 35, .tmp 37]) rfl ?_); at_builtin; refine Kd.Ym (Kd.int .i64) (w0 := w) w.heap.size rfl (.tmp 35) (.tmp 37) 28 3 (.int .i64 0) 8 rfl Try.underlying28 info3 rfl (by decide) (by omega) u7 aE dc [.int .i64 dc] (fun _ => True) (fun _ => False) rfl rfl ?aP (fun _ hk => hk.elim) ?aF ?aO ?aB ?aS ?aL ?_; (case aP => exact rfl); (case aB => exact bB); (case aF => exact (fun _ _ => trivial)); (case aO => exact aC.out); (case aS => exact (Qc bB)); (case aL => have := ma.out; omega); intro ie w21 ho hb hg hat; rw [← iB.out] at ho; replace ab := aa.mk (Yl (g := ag) (o := .cells #[.slice ak ae.length an, .slice aj af.length al] 24 (0, 0)) (by (with_reducible repeat (first | refine QC ?_ _ | refine QE ?_ | refine Qz ?_ _)); exact ab.out) hg (Kd.R_ne aC.out ab.out (by decide))); replace HB := aa.mk (hb); have aY := aa.mk (ho); clear aC; clear ho hb hg hat))
             go_roundg k2
             case measure => have := HK1.out; have := HK2.out; omega
             case rel => exact ⟨(jS), (wrap64 (dc + 1)), (by first | rfl | (simp; done) | (simp [*]; done)), H', ⟨by have := HK1.out; have := HK2.out; omega⟩, ⟨by (with_reducible repeat (first | apply Kd.R_alloc | apply Kd.QI | apply Kd.QN)); exact aY.out⟩, ⟨by (with_reducible repeat (first | refine QC ?_ _ | refine QE ?_ | refine Qz ?_ _)); exact ab.out⟩, ⟨bB⟩⟩
            ·rw [if_neg c20] at H; exact absurd H (by simp)
           ·rw [if_neg c19] at H; have cN : ((Go.bits .and .i64 (lB) 1) == 1) = false := beq_eq_false_iff_ne.mpr c19; have g8 : ((Go.bits .and .i64 (lB) 1) != 1) = true := bne_iff_ne.mpr c19; have H' := aa.mk H; clear H; go_wp2; go_roundg k2
            case measure => have := HK1.out; have := HK2.out; omega
            case rel => exact ⟨(aE), (wrap64 (dc + 1)), (by first | rfl | (simp; done) | (simp [*]; done)), H', ⟨by have := HK1.out; have := HK2.out; omega⟩, ⟨by (with_reducible repeat (first | apply Kd.R_alloc | apply Kd.QI | apply Kd.QN)); exact aC.out⟩, ⟨by (with_reducible repeat (first | refine QC ?_ _ | refine QE ?_ | refine Qz ?_ _)); exact ab.out⟩, ⟨bB⟩⟩
          ·rw [if_neg c17] at H; exact absurd H (by simp)
         ·rw [if_neg c16] at H; have gH : decide (dc < t103) = false := decide_eq_false c16; clear c16; replace H := Option.bind_eq_some_iff.mp H; obtain ⟨t107, pE, H⟩ := H; replace H : ((Z2.f t107 aE).bind fun t110 => ((Zj.f t110 (aE.length : Int)).bind fun fa => (if fa.2 = true then ((Ql.f k2 fa.1).bind fun t117 => (QJ.j2 k2 a1 aE fa.1 ji5 bL (decide (t117 ≤ 0)) ae af)) else (QJ.j2 k2 a1 aE fa.1 ji5 bL true ae af)))) = some (r1, r2) := H; have A22 := aa.mk pE; clear pE; replace H := Option.bind_eq_some_iff.mp H; obtain ⟨t110, wb, H⟩ := H; replace H : ((Zj.f t110 (aE.length : Int)).bind fun fa => (if fa.2 = true then ((Ql.f k2 fa.1).bind fun t117 => (QJ.j2 k2 a1 aE fa.1 ji5 bL (decide (t117 ≤ 0)) ae af)) else (QJ.j2 k2 a1 aE fa.1 ji5 bL true ae af))) = some (r1, r2) := H; have A23 := aa.mk wb; clear wb; replace H := Option.bind_eq_some_iff.mp H; obtain ⟨⟨t113, t114⟩, pD, H⟩ := H; replace H : (if t114 = true then ((Ql.f k2 t113).bind fun t117 => (QJ.j2 k2 a1 aE t113 ji5 bL (decide (t117 ≤ 0)) ae af)) else (QJ.j2 k2 a1 aE t113 ji5 bL true ae af)) = some (r1, r2) := H; have A24 := aa.mk pD; clear pD; have tO := aa.mk H; clear H; have jL : wr.cell? ⟨ag, 0, none⟩ = some (.slice ak ae.length an) := (Qd ab.out 0).trans rfl; have jK : wr.cell? ⟨ag, 1, none⟩ = some (.slice aj af.length al) := (Qd ab.out 1).trans rfl; have jF := Qb ab.out 0; have jE := Qb ab.out 1; go_upto_region 13 with (first | ((with_reducible refine Qg (f := 73) rfl ?_); refine QG (some 42) rfl rfl Try.func73 (by kernel_rfl) rfl #[.agg #[.slice ak ae.length an, .slice aj af.length al]] rfl hA ?_; (with_reducible refine (ZK.calls _ _ ae _ _ af t107 _ ?ah ?ai ?aq ?ar A22.out).mono ?_); (case ah => exact (Kd.Qo aw.out HB.out)); (case ai => exact az.out); (case aq => exact (Kd.Qo ay.out HB.out)); (case ar => exact aA.out); rintro e w27 ⟨de, rfl, ho0, hb⟩; refine ⟨_, rfl, ?_⟩; replace aC := aa.mk (Kd.QR aC.out hb); have aW := aa.mk (Kd.Zg ho0 (Qc bB)); replace ab := aa.mk (Qq ab.out hb); replace HB := aa.mk (Qa bB hb); (try clear hb); (try clear hb2); (try clear hk); (try clear hi); (try clear ho0); obtain ⟨pA, o9, oT⟩ := Kd.Zc aW.out; subst oT; obtain ⟨oe, lU, yS⟩ := Kd.Zc aC.out; subst yS) | ((with_reducible refine Qg (f := 129) rfl ?_); refine QG (some 44) rfl rfl Try.func129 (by kernel_rfl) rfl #[.slice pA t107.length o9, .slice oe aE.length lU] rfl hA ?_; (with_reducible refine (Z2.calls _ _ t107 _ _ aE t110 _ ?ah ?ai ?aq ?ar A23.out).mono ?_); (case ah => exact (Kd.QA aW.out).2.2); (case ai => exact (Kd.QA aW.out).2.1); (case aq => exact (Kd.QA aC.out).2.2); (case ar => exact (Kd.QA aC.out).2.1); rintro e w30 ⟨AE, rfl, ho0, hb⟩; refine ⟨_, rfl, ?_⟩; replace aC := aa.mk (Kd.QR aC.out hb); have bF := aa.mk (Kd.Zg (Kd.Zt ho0 (Kd.R_lt aW.out)) (Qc bB)); replace aW := aa.mk (Kd.Zd aW.out (Kd.QS ho0) hb); replace ab := aa.mk (Qq ab.out hb); replace HB := aa.mk (Qa bB hb); (try clear hb); (try clear hb2); (try clear hk); (try clear hi); (try clear ho0); obtain ⟨jq, jj, oS⟩ := Kd.Zc bF.out; subst oS) | ((with_reducible refine Qg (f := 82) rfl ?_); refine QG (some 47) rfl rfl Try.func82 (by kernel_rfl) rfl #[.slice jq t110.length jj, .int .i64 (aE.length : Int)] rfl hA ?_; (with_reducible refine (Zj.calls _ _ t110 (aE.length : Int) t113 t114 _ ?ah ?ai A24.out).mono ?_); (case ah => exact (Kd.QA bF.out).2.2); (case ai => exact (Kd.QA bF.out).2.1); rintro e w32 ⟨n3, rfl, ho0, hb⟩; refine ⟨_, rfl, ?_⟩; replace aW := aa.mk (Kd.QR aW.out hb); replace bF := aa.mk (Kd.QR bF.out hb); have hG := aa.mk (Kd.Zg (Kd.Zt ho0 (Kd.R_lt aC.out)) (Qc bB)); replace aC := aa.mk (Kd.Zd aC.out (Kd.QS ho0) hb); replace ab := aa.mk (Qq ab.out hb); replace HB := aa.mk (Qa bB hb); (try clear hb); (try clear hb2); (try clear hk); (try clear hi); (try clear ho0)))
          (try simp only [Act.put, zA, zB, zC])
          go_cut [56] (fun v56 wc => ∃ (kq : Nat) (kz : Bool), v56 = .bool kz ∧ aa (QJ.j2 kq a1 aE t113 ji5 bL kz ae af = some (r1, r2)) ∧ aa (kq ≤ k2) ∧ aa (Kd.R (Kd.int .i64) 3 wc w.heap.size (fun k_ => some k_ ≠ (n3 : Value).ownBlock) (.slice oe aE.length lU) aE) ∧ aa (Kd.R (Kd.int .i64) 3 wc w.heap.size (fun k_ => some k_ ≠ ((.slice oe aE.length lU) : Value).ownBlock) n3 t113) ∧ aa (wc.heap[ag]? = some (.cells #[(.slice ak ae.length an), (.slice aj af.length al)] 24 (0, 0))) ∧ aa (Below w.heap.size w wc))
          case first =>
           have H := tO.out; clear tO; by_cases c33 : t114 = true
           ·subst c33; have H1 : ((Ql.f k2 t113).bind fun t117 => (QJ.j2 k2 a1 aE t113 ji5 bL (decide (t117 ≤ 0)) ae af)) = some (r1, r2) := by rw [if_pos rfl] at H; exact H
            clear H; have H := H1; clear H1; replace H := Option.bind_eq_some_iff.mp H; obtain ⟨t117, vX, H⟩ := H; replace H : (QJ.j2 k2 a1 aE t113 ji5 bL (decide (t117 ≤ 0)) ae af) = some (r1, r2) := H; have A34 := aa.mk vX; clear vX; have H' := aa.mk H; clear H; obtain ⟨BD, Bd, yQ⟩ := Kd.Zc hG.out; subst yQ; go_wp2_with (first | (go_at_call 84; (with_reducible refine (Ql.calls k2 _ _ t113 t117 _ ?ah ?ai A34.out).mono ?_); (case ah => exact (Kd.QA hG.out).2.2); (case ai => exact (Kd.QA hG.out).2.1); rintro e w36 ⟨rfl, hb⟩; replace aC := aa.mk (Kd.QR aC.out hb); replace aW := aa.mk (Kd.QR aW.out hb); replace bF := aa.mk (Kd.QR bF.out hb); replace hG := aa.mk (Kd.QR hG.out hb); replace ab := aa.mk (Qq ab.out hb); replace HB := aa.mk (Qa bB hb); (try clear hb); (try clear hb2); (try clear hk); (try clear hi)))
            go_meet
            case rel => exact ⟨_, (decide (t117 ≤ 0)), (by first | rfl | (simp; done) | (simp [*]; done)), H', ⟨by have := HK1.out; have := HK2.out; first | omega | exact Nat.le_refl _⟩, ⟨by (with_reducible repeat (first | apply Kd.R_alloc | apply Kd.QI | apply Kd.QN)); exact Kd.Q8 aC.out (fun _ hk => hk.2)⟩, ⟨by (with_reducible repeat (first | apply Kd.R_alloc | apply Kd.QI | apply Kd.QN)); exact Kd.Q8 hG.out (fun _ hk => hk.2)⟩, ⟨by (with_reducible repeat (first | refine QC ?_ _ | refine QE ?_ | refine Qz ?_ _)); exact ab.out⟩, ⟨bB⟩⟩
           ·replace c33 := Bool.eq_false_iff.mpr c33; subst c33; have H1 : (QJ.j2 k2 a1 aE t113 ji5 bL true ae af) = some (r1, r2) := by rw [if_neg (show ¬ (false = true) by decide)] at H; exact H
            clear H; have H := H1; clear H1; have H' := aa.mk H; clear H; go_wp2; go_meet
            case rel => exact ⟨_, (true), (by first | rfl | (simp; done) | (simp [*]; done)), H', ⟨by have := HK1.out; have := HK2.out; first | omega | exact Nat.le_refl _⟩, ⟨by (with_reducible repeat (first | apply Kd.R_alloc | apply Kd.QI | apply Kd.QN)); exact Kd.Q8 aC.out (fun _ hk => hk.2)⟩, ⟨by (with_reducible repeat (first | apply Kd.R_alloc | apply Kd.QI | apply Kd.QN)); exact Kd.Q8 hG.out (fun _ hk => hk.2)⟩, ⟨by (with_reducible repeat (first | refine QC ?_ _ | refine QE ?_ | refine Qz ?_ _)); exact ab.out⟩, ⟨bB⟩⟩
          case rest =>
           clear tO; try clear c1
           try clear c2
           try clear p2
           try clear c3
           try clear c4
           try clear bE
           try clear dO
           try clear p6
           try clear c7
           try clear c8
           try clear c9
           try clear eU
           try clear c10
           try clear fq
           try clear ja
           try clear c11
           try clear c12
           try clear eO
           try clear kt
           try clear c16
           try clear gH
           try clear c17
           try clear fT
           try clear rQ
           try clear c19
           try clear cN
           try clear g8
           try clear c20
           try clear c33
           try clear e9
           try clear e8
           try clear jL
           try clear jK
           try clear eM
           try clear eK
           try clear e7
           try clear e6
           try clear jF
           try clear jE
           try clear eJ
           try clear eI
           try clear p2
           try clear p6
           obtain ⟨kq, kz, rfl, HA, qU, aC, jo, ab, HB⟩ := hcut; cases kq with
           | zero => exact absurd HA.out (by simp [QJ.j2])
           | succ mz =>
            have H := HA.out; clear HA; simp only [QJ.j2] at H; by_cases c37 : kz = true
            ·subst c37; have H1 : (QJ.l0 mz a1 ji5 (wrap64 (bL + 1)) ae af) = some (r1, r2) := by rw [if_pos rfl] at H; exact H
             clear H; have H := H1; clear H1; have H' := aa.mk H; clear H; go_wp2; go_roundg mz
             case measure => have := HK1.out; have := HK2.out; have := qU.out; omega
             case rel => exact ⟨(wrap64 (bL + 1)), (by first | rfl | (simp; done) | (simp [*]; done)), H', ⟨by have := HK1.out; have := HK2.out; have := qU.out; omega⟩, ⟨by (with_reducible repeat (first | refine QC ?_ _ | refine QE ?_ | refine Qz ?_ _)); exact ab.out⟩, ⟨bB⟩⟩
            ·replace c37 := Bool.eq_false_iff.mpr c37; subst c37; have H1 : ((QY.f ae af).bind fun t118 => (if 0 ≤ t118 then (if (t118 : Int).toNat ≤ 35184372088832 then (QJ.l2 mz t113 (List.replicate (t118 : Int).toNat 0) aE (aE.length : Int) 0) else (none)) else (none))) = some (r1, r2) := by rw [if_neg (show ¬ (false = true) by decide)] at H; exact H
             clear H; have H := H1; clear H1; replace H := Option.bind_eq_some_iff.mp H; obtain ⟨t118, vV, H⟩ := H; replace H : (if 0 ≤ t118 then (if (t118 : Int).toNat ≤ 35184372088832 then (QJ.l2 mz t113 (List.replicate (t118 : Int).toNat 0) aE (aE.length : Int) 0) else (none)) else (none)) = some (r1, r2) := H; have A38 := aa.mk vV; clear vV; by_cases c39 : 0 ≤ t118
             ·rw [if_pos c39] at H; have vd := eq_true c39; have vc : decide (0 ≤ t118) = true := decide_eq_true c39; clear c39; by_cases c40 : (t118 : Int).toNat ≤ 35184372088832
              ·rw [if_pos c40] at H; have vb := eq_true c40; have va : decide ((t118 : Int).toNat ≤ 35184372088832) = true := decide_eq_true c40; clear c40; obtain ⟨og, gp⟩ : ∃ y_ : List Int, y_ = (List.replicate (t118 : Int).toNat 0) := ⟨_, rfl⟩; replace H : (QJ.l2 mz t113 og aE (aE.length : Int) 0) = some (r1, r2) := by first | (rw [gp]; with_reducible exact H) | (have H2_ := (Option.bind_some _ _).symm.trans H; rw [gp]; with_reducible exact H2_) | (have H2_ := (Option.bind_some _ _).symm.trans H; with_reducible exact H2_) | with_reducible exact H | (rw [gp]; exact H) | exact H
               have nI := aa.mk gp; clear gp; have H' := aa.mk H; clear H; have qi : wc.cell? ⟨ag, 0, none⟩ = some (.slice ak ae.length an) := (Qd ab.out 0).trans rfl; have qh : wc.cell? ⟨ag, 1, none⟩ = some (.slice aj af.length al) := (Qd ab.out 1).trans rfl; have pY := Qb ab.out 0; have pX := Qb ab.out 1; go_wp2_with (first | ((with_reducible refine Qg (f := 71) rfl ?_); refine QG (some 58) rfl rfl Try.func71 (by kernel_rfl) rfl #[.agg #[.slice ak ae.length an, .slice aj af.length al]] rfl hA ?_; (with_reducible refine (QY.calls _ _ ae _ _ af t118 _ ?ah ?ai ?aq ?ar A38.out).mono ?_); (case ah => exact (Kd.Qo aw.out HB.out)); (case ai => exact az.out); (case aq => exact (Kd.Qo ay.out HB.out)); (case ar => exact aA.out); rintro e w42 ⟨rfl, hb⟩; refine ⟨_, rfl, ?_⟩; replace aC := aa.mk (Kd.QR aC.out hb); replace jo := aa.mk (Kd.QR jo.out hb); replace ab := aa.mk (Qq ab.out hb); replace HB := aa.mk (Qa bB hb); (try clear hb); (try clear hb2); (try clear hk); (try clear hi)) | ((with_reducible refine QO (N := 59) rfl ?_); refine Kd.JV (Kd.int .i64) _ 3 rfl (N := 59) rfl 28 _ _ rfl t118 rfl rfl Try.underlying28 (.int .i64 0) 8 info3 rfl (by decide) (by omega) 0 (ok := fun _ => True) (okp := fun _ => True) rfl (fun _ hk => hk) trivial (of_decide_eq_true (by assumption)) (Nat.le_trans (Nat.mul_le_mul_right _ (of_decide_eq_true (by assumption) : t118.toNat ≤ 35184372088832)) (by omega)) (Below.refl _ _) (Nat.le_refl _) ?_; intro sc w43 mB hb hg_ hnew_; clear hg_ hnew_; (first | rw [← nI.out] at mB | (simp only [Int.reduceToNat] at mB; rw [← nI.out] at mB)); have vC := aa.mk (Kd.Zg (Kd.Zt (Kd.Zt mB (Kd.R_lt aC.out)) (Kd.R_lt jo.out)) (Qc bB)); replace aC := aa.mk (Kd.Zd aC.out (Kd.QS mB) hb); replace jo := aa.mk (Kd.Zd jo.out (Kd.QS mB) hb); replace ab := aa.mk (Qq ab.out hb); replace HB := aa.mk (Qa bB hb); clear hb mB))
               go_loopg [62] mz (fun kq v62 w' => ∃ (fR : List Int) (bX : Int), v62 = .int .i64 bX ∧ aa (QJ.l2 kq t113 fR aE (aE.length : Int) bX = some (r1, r2)) ∧ aa (kq ≤ mz) ∧ aa (Kd.R (Kd.int .i64) 3 w' w.heap.size (fun k_ => some k_ ≠ (sc : Value).ownBlock ∧ some k_ ≠ ((.slice oe aE.length lU) : Value).ownBlock) n3 t113) ∧ aa (Kd.R (Kd.int .i64) 3 w' w.heap.size (fun k_ => some k_ ≠ (n3 : Value).ownBlock ∧ some k_ ≠ ((.slice oe aE.length lU) : Value).ownBlock) sc fR) ∧ aa (Kd.R (Kd.int .i64) 3 w' w.heap.size (fun k_ => some k_ ≠ (n3 : Value).ownBlock ∧ some k_ ≠ (sc : Value).ownBlock) (.slice oe aE.length lU) aE) ∧ aa (w'.heap[ag]? = some (.cells #[(.slice ak ae.length an), (.slice aj af.length al)] 24 (0, 0))) ∧ aa (Below w.heap.size w w'))
               case atStart => exact ⟨(og), (0), (by first | rfl | (simp; done) | (simp [*]; done)), H', ⟨Nat.le_refl _⟩, ⟨by (with_reducible repeat (first | apply Kd.R_alloc | apply Kd.QI | apply Kd.QN)); exact Kd.Q8 jo.out (fun _ hk => ⟨hk.2, hk.1⟩)⟩, ⟨by (with_reducible repeat (first | apply Kd.R_alloc | apply Kd.QI | apply Kd.QN)); exact Kd.Q8 vC.out (fun _ hk => ⟨hk.2, hk.1.2⟩)⟩, ⟨by (with_reducible repeat (first | apply Kd.R_alloc | apply Kd.QI | apply Kd.QN)); exact aC.out⟩, ⟨by (with_reducible repeat (first | refine QC ?_ _ | refine QE ?_ | refine Qz ?_ _)); exact ab.out⟩, ⟨bB⟩⟩
               case round =>
                clear H'; try clear c1
                try clear c2
                try clear p2
                try clear c3
                try clear c4
                try clear bE
                try clear dO
                try clear p6
                try clear c7
                try clear c8
                try clear c9
                try clear eU
                try clear c10
                try clear fq
                try clear ja
                try clear c11
                try clear c12
                try clear eO
                try clear kt
                try clear c16
                try clear gH
                try clear c17
                try clear fT
                try clear rQ
                try clear c19
                try clear cN
                try clear g8
                try clear c20
                try clear c33
                try clear c37
                try clear c39
                try clear vd
                try clear vc
                try clear c40
                try clear vb
                try clear va
                try clear e9
                try clear e8
                try clear jL
                try clear jK
                try clear qi
                try clear qh
                try clear eM
                try clear eK
                try clear e7
                try clear e6
                try clear jF
                try clear jE
                try clear pY
                try clear pX
                try clear eJ
                try clear eI
                try clear p2
                try clear p6
                obtain ⟨fR, bX, rfl, HA, HK4, jo, ka, nS, ab, HB⟩ := hrel; cases gk with
                | zero => exact absurd HA.out (by simp [QJ.l2])
                | succ k4 =>
                 have H := HA.out; clear HA; simp only [QJ.l2] at H; by_cases c45 : bX < (aE.length : Int)
                 ·rw [if_pos c45] at H; have u9 : decide (bX < (aE.length : Int)) = true := decide_eq_true c45; clear c45; by_cases c46 : 0 ≤ bX
                  ·rw [if_pos c46] at H; have z9 : decide (0 ≤ bX) = true := decide_eq_true c46; clear c46; by_cases c47 : bX < (aE.length : Int)
                   ·rw [if_pos c47] at H; have z8 : decide (bX < (aE.length : Int)) = true := decide_eq_true c47; clear c47; by_cases c48 : bX < (t113.length : Int)
                    ·rw [if_pos c48] at H; have z7 : decide (bX < (t113.length : Int)) = true := decide_eq_true c48; clear c48; by_cases c49 : 0 ≤ (rd aE bX)
                     ·rw [if_pos c49] at H; have z6 : decide (0 ≤ (rd aE bX)) = true := decide_eq_true c49; clear c49; by_cases c50 : (rd aE bX) < (fR.length : Int)
                      ·rw [if_pos c50] at H; have nC : decide ((rd aE bX) < (fR.length : Int)) = true := decide_eq_true c50; clear c50; obtain ⟨sb, lJ⟩ : ∃ y_ : List Int, y_ = (fR.set ((rd aE bX) : Int).toNat (rd t113 bX)) := ⟨_, rfl⟩; replace H : (QJ.l2 k4 t113 sb aE (aE.length : Int) (wrap64 (bX + 1))) = some (r1, r2) := by first | (rw [lJ]; with_reducible exact H) | (have H2_ := (Option.bind_some _ _).symm.trans H; rw [lJ]; with_reducible exact H2_) | (have H2_ := (Option.bind_some _ _).symm.trans H; with_reducible exact H2_) | with_reducible exact H | (rw [lJ]; exact H) | exact H
                       have vt := aa.mk lJ; clear lJ; have H' := aa.mk H; clear H; have mv : 0 ≤ (bX : Int) := of_decide_eq_true (by assumption); have mj : bX < (aE.length : Int) := of_decide_eq_true (by assumption); obtain ⟨ph, tj, pU⟩ := Kd.Zh (Kd.QA nS.out).2.2 bX mv mj; cases tj; replace mv := eq_true mv; replace mj := eq_true mj; obtain ⟨Bz, uU, yJ⟩ := Kd.Zc jo.out; subst yJ; have si : 0 ≤ (bX : Int) := of_decide_eq_true (by assumption); have se : bX < (t113.length : Int) := of_decide_eq_true (by assumption); obtain ⟨rS, yY, wC⟩ := Kd.Zh (Kd.QA jo.out).2.2 bX si se; cases yY; replace si := eq_true si; replace se := eq_true se; have p51 : 0 ≤ ((rd aE bX) : Int) := of_decide_eq_true (by assumption); have q51 : ((rd aE bX) : Int) < ((fR.length : Int) : Int) := of_decide_eq_true (by assumption); obtain ⟨mM, o8, uS, uO, yC, Be, vE⟩ := Kd.VG ka.out (by omega); (first | cases uS | (injection uS with ea_ en_ ec_; (first | subst ea_ | (injection ea_ with ea_; subst ea_)); subst ec_; clear en_))
                       have zw := aa.mk uO; have Bv := aa.mk vE; clear uO yC vE; obtain ⟨xZ, yr⟩ := Kd.Vr 0 ka.out ((rd aE bX) : Int) p51 q51; replace p51 := eq_true p51; replace q51 := eq_true q51; have tI := Kd.JU ka.out ((rd aE bX) : Int) (rd t113 bX); go_wp2_with (first | ((with_reducible refine Y6 (t := 3) (p := 73) rfl ?_); refine YT (t := 3) (p := 73) (v := ?xQ) (w1 := (wr.setCell ⟨mM, ((rd aE bX) : Int).toNat, none⟩ (.int .i64 (rd t113 bX)))) ?hg ?ho ?hn ?hr ?_; (case ho => rfl); (case hg => rfl); (case hn => rfl); (case hr => first | (go_simp; done) | (go_simp; rfl)); intro w54 hw; have hg : wr.grownBy w54 (some mM) := (by rw [hw]; exact tI.2); have hp_ : Kd.R (Kd.int .i64) 3 w54 w.heap.size (fun k_ => some k_ ≠ (.slice (some rS) t113.length uU : Value).ownBlock ∧ some k_ ≠ (.slice (some ph) aE.length lU : Value).ownBlock) (.slice (some ⟨mM, 0, none⟩) fR.length o8) sb := (by rw [hw, vt.out]; exact tI.1); clear tI; replace jo := aa.mk (Kd.Yy (v := (.slice (some ⟨mM, 0, none⟩) fR.length o8)) (v1 := (.slice (some ⟨mM, 0, none⟩) fR.length o8)) (ok := (fun k_ => some k_ ≠ (.slice (some ph) aE.length lU : Value).ownBlock)) (by (with_reducible repeat (first | apply Kd.R_alloc | apply Kd.QI | apply Kd.QN)); exact Kd.Q8 jo.out (fun _ hk => ⟨hk.2, hk.1⟩)) hg (.inl rfl)); replace nS := aa.mk (Kd.Yy (v := (.slice (some ⟨mM, 0, none⟩) fR.length o8)) (v1 := (.slice (some ⟨mM, 0, none⟩) fR.length o8)) (ok := (fun k_ => some k_ ≠ (.slice (some rS) t113.length uU : Value).ownBlock)) nS.out hg (.inl rfl)); replace ab := aa.mk (Yl (g := ag) (o := .cells #[.slice ak ae.length an, .slice aj af.length al] 24 (0, 0)) (by (with_reducible repeat (first | refine QC ?_ _ | refine QE ?_ | refine Qz ?_ _)); exact ab.out) hg (Kd.R_ne ka.out ab.out (by decide))); replace ka := aa.mk (hp_); replace HB := aa.mk ((by rw [hw]; exact Zl (HB.out) zw.out : Below w.heap.size w w54)); clear hg hw hp_))
                       go_roundg k4
                       case measure => have := HK1.out; have := HK2.out; have := qU.out; have := HK4.out; omega
                       case rel => exact ⟨(sb), (wrap64 (bX + 1)), (by first | rfl | (simp; done) | (simp [*]; done)), H', ⟨by have := HK1.out; have := HK2.out; have := qU.out; have := HK4.out; omega⟩, ⟨by (with_reducible repeat (first | apply Kd.R_alloc | apply Kd.QI | apply Kd.QN)); exact Kd.Q8 jo.out (fun _ hk => ⟨hk.2, hk.1⟩)⟩, ⟨by (with_reducible repeat (first | apply Kd.R_alloc | apply Kd.QI | apply Kd.QN)); exact ka.out⟩, ⟨by (with_reducible repeat (first | apply Kd.R_alloc | apply Kd.QI | apply Kd.QN)); exact nS.out⟩, ⟨by (with_reducible repeat (first | refine QC ?_ _ | refine QE ?_ | refine Qz ?_ _)); exact ab.out⟩, ⟨bB⟩⟩
                      ·rw [if_neg c50] at H; exact absurd H (by simp)
                     ·rw [if_neg c49] at H; exact absurd H (by simp)
                    ·rw [if_neg c48] at H; exact absurd H (by simp)
                   ·rw [if_neg c47] at H; exact absurd H (by simp)
                  ·rw [if_neg c46] at H; exact absurd H (by simp)
                 ·rw [if_neg c45] at H; have u9 : decide (bX < (aE.length : Int)) = false := decide_eq_false c45; clear c45; simp only [Option.some.injEq, Prod.mk.injEq] at H; obtain ⟨rfl, rfl⟩ := H; go_wp2; go_ret2; exact ⟨_, by first | rfl | (simp [Qj, Qi] <;> rfl) | (simp only [← iQ, ← gB]; first | rfl | (simp [Qj, Qi] <;> rfl)) | (simp [*, Qj, Qi] <;> rfl), by (with_reducible repeat (first | apply Kd.R_alloc | apply Kd.QI | apply Kd.QN)); exact Kd.Q8 ka.out (fun _ hk => trivial), bB⟩
              ·rw [if_neg c40] at H; exact absurd H (by simp)
             ·rw [if_neg c39] at H; exact absurd H (by simp)
     ·rw [if_neg c10] at H; exact absurd H (by simp)
    ·rw [if_neg c9] at H; have eU : decide (bL < ji5) = false := decide_eq_false c9; clear c9; simp only [Option.some.injEq, Prod.mk.injEq] at H; obtain ⟨rfl, rfl⟩ := H; go_wp2; go_ret2; exact ⟨_, by first | rfl | (simp [Qj, Qi] <;> rfl) | (simp only [← iQ]; first | rfl | (simp [Qj, Qi] <;> rfl)) | (simp [*, Qj, Qi] <;> rfl), by first | exact Kd.Yg _ _ _ _ _ | exact Kd.Yp _ _ _ _ _ | exact Kd.V_nil _ _ _ _ _ | exact Kd.Q_nil _ _ _ _ _ | exact Kd.Ys _ _ _ _ _, bB⟩
 ·rw [if_neg c4] at H; exact absurd H (by simp)
mutual
def QU.l0 : Nat → List Int → Int → Int → List (List Int) → List (List Int) → Option (List Int × Bool)
 | 0, _, _, _, _, _ => none
 | k + 1, x4, x14, x15, au, av => if x15 < x14 then (if 0 ≤ x15 then (if x15 < (x4.length : Int) then (if (rd x4 x15) > 0 then (QU.l0 k x4 x14 (wrap64 (x15 + 1)) au av) else ((QJ.f k au av x15).bind fun br => (if br.2 = true then (QU.l1 k x4 x14 x15 br.1 (br.1.length : Int) 0 au av) else (some (([] : List Int), false))))) else (none)) else (none)) else (some (x4, true))
def QU.l1 : Nat → List Int → Int → Int → List Int → Int → Int → List (List Int) → List (List Int) → Option (List Int × Bool)
 | 0, _, _, _, _, _, _, _, _ => none
 | k + 1, x4, x14, x15, x31, x32, x33, au, av => if x33 < x32 then (if 0 ≤ x33 then (if x33 < (x31.length : Int) then (if x33 < (x4.length : Int) then (QU.l1 k (x4.set (x33 : Int).toNat (wrap64 ((rd x4 x33) + (rd x31 x33)))) x14 x15 x31 x32 (wrap64 (x33 + 1)) au av) else (none)) else (none)) else (none)) else (QU.l0 k x4 x14 (wrap64 (x15 + 1)) au av)
end
def QU.f (k : Nat) (ae : List (List Int)) (af : List (List Int)) : Option (List Int × Bool) := (QY.f ae af).bind fun t102 => (if 0 ≤ t102 then (if (t102 : Int).toNat ≤ 35184372088832 then ((some (List.replicate (t102 : Int).toNat 0 : List Int)).bind fun du => (QU.l0 k du (du.length : Int) 0 ae af)) else (none)) else (none))
set_option maxHeartbeats 8000000 in
set_option maxRecDepth 100000 in
theorem QU.calls (k : Nat) (ak : Option Addr) (an : Nat) (ae : List (List Int)) (aj : Option Addr) (al : Nat) (af : List (List Int)) (r1 : List Int) (r2 : Bool) (w : World) (aN : Kd.C (Kd.slice 3 (Kd.int .i64)) w ak ae.length ae) (aT : ae.length ≤ an) (aM : Kd.C (Kd.slice 3 (Kd.int .i64)) w aj af.length af) (aQ : af.length ≤ al) (h : QU.f k ae af = some (r1, r2)) :
  Calls Try.prog 74 #[.agg #[.slice ak ae.length an, .slice aj af.length al]] w fun e w' => ∃ v0_ : Value, e = .returned (.tuple #[v0_, .bool r2]) ∧ Kd.R (Kd.int .i64) 3 w' w.heap.size (fun _ => True) v0_ r1 ∧ Below w.heap.size w w' := by
 have en := Try.underlying24; have aw := aa.mk aN; have az := aa.mk aT; clear aN aT; have ay := aa.mk aM; have aA := aa.mk aQ; clear aM aQ; have HB := aa.mk (Below.refl w.heap.size w); have H : ((QY.f ae af).bind fun t102 => (if 0 ≤ t102 then (if (t102 : Int).toNat ≤ 35184372088832 then ((some (List.replicate (t102 : Int).toNat 0 : List Int)).bind fun du => (QU.l0 k du (du.length : Int) 0 ae af)) else (none)) else (none))) = some (r1, r2) := h; clear h; replace H := Option.bind_eq_some_iff.mp H; obtain ⟨t102, A20, H⟩ := H; replace H : (if 0 ≤ t102 then (if (t102 : Int).toNat ≤ 35184372088832 then ((some (List.replicate (t102 : Int).toNat 0 : List Int)).bind fun du => (QU.l0 k du (du.length : Int) 0 ae af)) else (none)) else (none)) = some (r1, r2) := H; have A2 := aa.mk A20; clear A20; by_cases c3 : 0 ≤ t102
 ·rw [if_pos c3] at H; have bH := eq_true c3; have cx : decide (0 ≤ t102) = true := decide_eq_true c3; clear c3; by_cases c4 : (t102 : Int).toNat ≤ 35184372088832
  ·rw [if_pos c4] at H; have bE := eq_true c4; have dO : decide ((t102 : Int).toNat ≤ 35184372088832) = true := decide_eq_true c4; clear c4; obtain ⟨du, ec⟩ : ∃ y_ : List Int, y_ = (List.replicate (t102 : Int).toNat 0) := ⟨_, rfl⟩; replace H : (QU.l0 k du (du.length : Int) 0 ae af) = some (r1, r2) := by first | (rw [ec]; with_reducible exact H) | (have H2_ := (Option.bind_some _ _).symm.trans H; rw [ec]; with_reducible exact H2_) | (have H2_ := (Option.bind_some _ _).symm.trans H; with_reducible exact H2_) | with_reducible exact H | (rw [ec]; exact H) | exact H
   have iC := aa.mk ec; clear ec; have H' := aa.mk H; clear H; go_enter Try.func74, Try.ntmps74; go_wp2_with (first | ((with_reducible refine QO (N := 1) rfl ?_); refine Q4 ?hg (N := 1) ?hd (cs := #[.slice ak ae.length an, .slice aj af.length al]) (t := 24) ?hr ?_; (case hd => rfl); (case hg => rfl); (case hr => first | (go_simp; done) | (go_simp; rfl)); intro ag hg w5 hbox hb; have ab := aa.mk (hbox); have bo := aa.mk ((by rw [hg]; exact (Qc bB) : w.heap.size ≤ ag)); have aV := aa.mk ((by rw [hg]; exact (Qc bB) : w.heap.size ≤ ag)); replace HB := aa.mk (Qa bB hb); clear hb hbox hg; have fj : w5.cell? ⟨ag, 0, none⟩ = some (.slice ak ae.length an) := (Qd ab.out 0).trans rfl; have fi : w5.cell? ⟨ag, 1, none⟩ = some (.slice aj af.length al) := (Qd ab.out 1).trans rfl; have fh := Qb ab.out 0; have fg := Qb ab.out 1) | ((with_reducible refine Qg (f := 71) rfl ?_); refine QG (some 11) rfl rfl Try.func71 (by kernel_rfl) rfl #[.agg #[.slice ak ae.length an, .slice aj af.length al]] rfl hA ?_; (with_reducible refine (QY.calls _ _ ae _ _ af t102 _ ?ah ?ai ?aq ?ar A2.out).mono ?_); (case ah => exact (Kd.Qo aw.out HB.out)); (case ai => exact az.out); (case aq => exact (Kd.Qo ay.out HB.out)); (case ar => exact aA.out); rintro e w7 ⟨rfl, hb⟩; refine ⟨_, rfl, ?_⟩; replace ab := aa.mk (Qq ab.out hb); replace HB := aa.mk (Qa bB hb); (try clear hb); (try clear hb2); (try clear hk); (try clear hi)) | ((with_reducible refine QO (N := 12) rfl ?_); refine Kd.JV (Kd.int .i64) _ 3 rfl (N := 12) rfl 28 _ _ rfl t102 rfl rfl Try.underlying28 (.int .i64 0) 8 info3 rfl (by decide) (by omega) 0 (ok := fun _ => True) (okp := fun _ => True) rfl (fun _ hk => hk) trivial (of_decide_eq_true (by assumption)) (Nat.le_trans (Nat.mul_le_mul_right _ (of_decide_eq_true (by assumption) : t102.toNat ≤ 35184372088832)) (by omega)) (Below.refl _ _) (Nat.le_refl _) ?_; intro ff w8 ho9 hb hg_ hnew_; clear hg_ hnew_; (first | rw [← iC.out] at ho9 | (simp only [Int.reduceToNat] at ho9; rw [← iC.out] at ho9)); have bf := aa.mk (Kd.Zg ho9 (Qc bB)); replace ab := aa.mk (Qq ab.out hb); replace HB := aa.mk (Qa bB hb); clear hb ho9; obtain ⟨kf, gg, tf⟩ := Kd.Zc bf.out; subst tf))
   go_loopg [15] k (fun kq v15 w' => ∃ (aZ : List Int) (b0 : Int), v15 = .int .i64 b0 ∧ aa (QU.l0 kq aZ (du.length : Int) b0 ae af = some (r1, r2)) ∧ aa (kq ≤ k) ∧ aa (Kd.R (Kd.int .i64) 3 w' w.heap.size (fun _ => True) (.slice kf du.length gg) aZ) ∧ aa (w'.heap[ag]? = some (.cells #[(.slice ak ae.length an), (.slice aj af.length al)] 24 (0, 0))) ∧ aa (Below w.heap.size w w'))
   case atStart => exact ⟨(du), (0), (by first | rfl | (simp; done) | (simp [*]; done)), H', ⟨Nat.le_refl _⟩, ⟨by (with_reducible repeat (first | apply Kd.R_alloc | apply Kd.QI | apply Kd.QN)); exact bf.out⟩, ⟨by (with_reducible repeat (first | refine QC ?_ _ | refine QE ?_ | refine Qz ?_ _)); exact ab.out⟩, ⟨bB⟩⟩
   case round =>
    clear H'; try clear p2
    try clear c3
    try clear bH
    try clear cx
    try clear c4
    try clear bE
    try clear dO
    try clear c7
    try clear fj
    try clear fi
    try clear fh
    try clear fg
    obtain ⟨aZ, b0, rfl, HA, HK1, eg, ab, HB⟩ := hrel; have ev := (Kd.QA eg.out).1; rw [ev] at eg; (try simp only [ev])
    (try simp only [ev] at ab)
    cases gk with
    | zero => exact absurd HA.out (by simp [QU.l0])
    | succ k1 =>
     have H := HA.out; clear HA; simp only [QU.l0] at H; by_cases c11 : b0 < (du.length : Int)
     ·rw [if_pos c11] at H; have fp : decide (b0 < (du.length : Int)) = true := decide_eq_true c11; clear c11; by_cases c12 : 0 ≤ b0
      ·rw [if_pos c12] at H; have eO : decide (0 ≤ b0) = true := decide_eq_true c12; clear c12; by_cases c13 : b0 < (aZ.length : Int)
       ·rw [if_pos c13] at H; have ks : decide (b0 < (aZ.length : Int)) = true := decide_eq_true c13; clear c13; by_cases c14 : (rd aZ b0) > 0
        ·rw [if_pos c14] at H; have gJ : decide (0 < (rd aZ b0)) = true := decide_eq_true c14; clear c14; have H' := aa.mk H; clear H; have dh : 0 ≤ (b0 : Int) := of_decide_eq_true (by assumption); have dg : b0 < (aZ.length : Int) := of_decide_eq_true (by assumption); obtain ⟨j8, iR, bc⟩ := Kd.Zh (Kd.QA eg.out).2.2 b0 dh dg; cases iR; replace dh := eq_true dh; replace dg := eq_true dg; go_wp2; (try simp only [← ev])
         go_roundg k1
         case measure => have := HK1.out; omega
         case rel => exact ⟨(aZ), (wrap64 (b0 + 1)), (by first | rfl | (simp; done) | (simp [*]; done)), H', ⟨by have := HK1.out; omega⟩, ⟨by (try simp only [ev]); (with_reducible repeat (first | apply Kd.R_alloc | apply Kd.QI | apply Kd.QN)); exact eg.out⟩, ⟨by (try simp only [ev]); (with_reducible repeat (first | refine QC ?_ _ | refine QE ?_ | refine Qz ?_ _)); exact ab.out⟩, ⟨bB⟩⟩
        ·rw [if_neg c14] at H; have gJ : decide (0 < (rd aZ b0)) = false := decide_eq_false c14; clear c14; replace H := Option.bind_eq_some_iff.mp H; obtain ⟨⟨t107, t110⟩, wh, H⟩ := H; replace H : (if t110 = true then (QU.l1 k1 aZ (du.length : Int) b0 t107 (t107.length : Int) 0 ae af) else (some (([] : List Int), false))) = some (r1, r2) := H; have A15 := aa.mk wh; clear wh; by_cases c16 : t110 = true
         ·subst c16; have H1 : (QU.l1 k1 aZ (du.length : Int) b0 t107 (t107.length : Int) 0 ae af) = some (r1, r2) := by rw [if_pos rfl] at H; exact H
          clear H; have H := H1; clear H1; have H' := aa.mk H; clear H; have dh : 0 ≤ (b0 : Int) := of_decide_eq_true (by assumption); have dg : b0 < (aZ.length : Int) := of_decide_eq_true (by assumption); obtain ⟨mN, cz, ez, gbz, glz, clz, HGz⟩ := Kd.VG eg.out (by omega); (first | cases ez | (injection ez with ea_ en_ ec_; (first | subst ea_ | (injection ea_ with ea_; subst ea_)); subst ec_; clear en_))
          clear gbz glz clz HGz; obtain ⟨j8, iR, bc⟩ := Kd.Zh (Kd.QA eg.out).2.2 b0 dh dg; cases iR; (first | simp only [Z4] at bc | skip)
          replace dh := eq_true dh; replace dg := eq_true dg; have fJ : wr.cell? ⟨ag, 0, none⟩ = some (.slice ak ae.length an) := (Qd ab.out 0).trans rfl; have fI : wr.cell? ⟨ag, 1, none⟩ = some (.slice aj af.length al) := (Qd ab.out 1).trans rfl; have fF := Qb ab.out 0; have fE := Qb ab.out 1; go_wp2_with (first | ((with_reducible refine Qg (f := 112) rfl ?_); refine QG (some 26) rfl rfl Try.func112 (by kernel_rfl) rfl #[.agg #[.slice ak ae.length an, .slice aj af.length al], .int .i64 b0] rfl hA ?_; (with_reducible refine (QJ.calls k1 _ _ ae _ _ af b0 t107 true _ ?ah ?ai ?aq ?ar A15.out).mono ?_); (case ah => exact (Kd.Qo aw.out HB.out)); (case ai => exact az.out); (case aq => exact (Kd.Qo ay.out HB.out)); (case ar => exact aA.out); rintro e w18 ⟨de, rfl, ho0, hb⟩; refine ⟨_, rfl, ?_⟩; have aW := aa.mk (Kd.Zg (Kd.Zt ho0 (Kd.R_lt eg.out)) (Qc bB)); replace eg := aa.mk (Kd.Zd eg.out (Kd.QS ho0) hb); replace ab := aa.mk (Qq ab.out hb); replace HB := aa.mk (Qa bB hb); (try clear hb); (try clear hb2); (try clear hk); (try clear hi); (try clear ho0); obtain ⟨vS, tt, yU⟩ := Kd.Zc aW.out; subst yU))
          go_loopg [33] k1 (fun kq v33 w' => ∃ (aD : List Int) (aH : Int), v33 = .int .i64 aH ∧ aa (QU.l1 kq aD (du.length : Int) b0 t107 (t107.length : Int) aH ae af = some (r1, r2)) ∧ aa (kq ≤ k1) ∧ aa (Kd.R (Kd.int .i64) 3 w' w.heap.size (fun k_ => some k_ ≠ ((.slice vS t107.length tt) : Value).ownBlock) (.slice (some ⟨mN, 0, none⟩) aZ.length gg) aD) ∧ aa (Kd.R (Kd.int .i64) 3 w' w.heap.size (fun k_ => some k_ ≠ ((.slice (some ⟨mN, 0, none⟩) aZ.length gg) : Value).ownBlock) (.slice vS t107.length tt) t107) ∧ aa (w'.heap[ag]? = some (.cells #[(.slice ak ae.length an), (.slice aj af.length al)] 24 (0, 0))) ∧ aa (Below w.heap.size w w'))
          case atStart => exact ⟨(aZ), (0), (by first | rfl | (simp; done) | (simp [*]; done)), H', ⟨Nat.le_refl _⟩, ⟨by (try simp only [ev]); (with_reducible repeat (first | apply Kd.R_alloc | apply Kd.QI | apply Kd.QN)); exact Kd.Q8 eg.out (fun _ hk => hk.2)⟩, ⟨by (try simp only [ev]); (with_reducible repeat (first | apply Kd.R_alloc | apply Kd.QI | apply Kd.QN)); exact Kd.Q8 aW.out (fun _ hk => hk.2)⟩, ⟨by (try simp only [ev]); (with_reducible repeat (first | refine QC ?_ _ | refine QE ?_ | refine Qz ?_ _)); exact ab.out⟩, ⟨bB⟩⟩
          case round =>
           clear H'; try clear c1
           try clear p1
           try clear q1
           try clear hx1
           try clear p2
           try clear c3
           try clear bH
           try clear cx
           try clear c4
           try clear bE
           try clear dO
           try clear p6
           try clear c7
           try clear p10
           try clear q10
           try clear hZ
           try clear c11
           try clear fp
           try clear c12
           try clear eO
           try clear c13
           try clear ks
           try clear c14
           try clear gJ
           try clear c16
           try clear fJ
           try clear fI
           try clear fj
           try clear fi
           try clear fF
           try clear fE
           try clear fh
           try clear fg
           try clear bc
           try clear dh
           try clear p2
           try clear dg
           obtain ⟨aD, aH, rfl, HA, HK2, eg, cy, ab, HB⟩ := hrel; have gz := (Kd.QA eg.out).1; rw [gz] at eg; (try simp only [gz])
           (try simp only [gz] at ab)
           (try simp only [gz] at cy)
           cases gk with
           | zero => exact absurd HA.out (by simp [QU.l1])
           | succ k2 =>
            have H := HA.out; clear HA; simp only [QU.l1] at H; by_cases c20 : aH < (t107.length : Int)
            ·rw [if_pos c20] at H; have gZ : decide (aH < (t107.length : Int)) = true := decide_eq_true c20; clear c20; by_cases c21 : 0 ≤ aH
             ·rw [if_pos c21] at H; have iZ : decide (0 ≤ aH) = true := decide_eq_true c21; clear c21; by_cases c22 : aH < (t107.length : Int)
              ·rw [if_pos c22] at H; have lY : decide (aH < (t107.length : Int)) = true := decide_eq_true c22; clear c22; by_cases c23 : aH < (aD.length : Int)
               ·rw [if_pos c23] at H; have rN : decide (aH < (aD.length : Int)) = true := decide_eq_true c23; clear c23; obtain ⟨dX, dY⟩ : ∃ y_ : List Int, y_ = (aD.set (aH : Int).toNat (wrap64 ((rd aD aH) + (rd t107 aH)))) := ⟨_, rfl⟩; replace H : (QU.l1 k2 dX (du.length : Int) b0 t107 (t107.length : Int) (wrap64 (aH + 1)) ae af) = some (r1, r2) := by first | (rw [dY]; with_reducible exact H) | (have H2_ := (Option.bind_some _ _).symm.trans H; rw [dY]; with_reducible exact H2_) | (have H2_ := (Option.bind_some _ _).symm.trans H; with_reducible exact H2_) | with_reducible exact H | (rw [dY]; exact H) | exact H
                have kv := aa.mk dY; clear dY; have H' := aa.mk H; clear H; have iO : 0 ≤ (aH : Int) := of_decide_eq_true (by assumption); have iL : aH < (t107.length : Int) := of_decide_eq_true (by assumption); obtain ⟨ku, oZ, fB⟩ := Kd.Zh (Kd.QA cy.out).2.2 aH iO iL; cases oZ; replace iO := eq_true iO; replace iL := eq_true iL; have ej : 0 ≤ (aH : Int) := of_decide_eq_true (by assumption); have ei : aH < (aD.length : Int) := of_decide_eq_true (by assumption); obtain ⟨fv, j3, bq⟩ := Kd.Zh (Kd.QA eg.out).2.2 aH ej ei; cases j3; replace ej := eq_true ej; replace ei := eq_true ei; have p24 : 0 ≤ (aH : Int) := of_decide_eq_true (by assumption); have q24 : (aH : Int) < ((aD.length : Int) : Int) := of_decide_eq_true (by assumption); obtain ⟨AX, jk, qH, uQ, yE, Bg, vH⟩ := Kd.VG eg.out (by omega); (first | cases qH | (injection qH with ea_ en_ ec_; (first | subst ea_ | (injection ea_ with ea_; subst ea_)); subst ec_; clear en_))
                have zy := aa.mk uQ; have Bw := aa.mk vH; clear uQ yE vH; (first | simp only [Z4] at bc | skip)
                (first | simp only [Z4] at bq | skip)
                obtain ⟨ya, yt⟩ := Kd.Vr 0 eg.out (aH : Int) p24 q24; replace p24 := eq_true p24; replace q24 := eq_true q24; have tL := Kd.JU eg.out (aH : Int) (wrap64 ((rd aD aH) + (rd t107 aH))); go_wp2_with (first | ((with_reducible refine Y6 (t := 3) (p := 44) rfl ?_); refine YT (t := 3) (p := 44) (v := ?xR) (w1 := (wr.setCell ⟨mN, (aH : Int).toNat, none⟩ (.int .i64 (wrap64 ((rd aD aH) + (rd t107 aH)))))) ?hg ?ho ?hn ?hr ?_; (case ho => rfl); (case hg => rfl); (case hn => rfl); (case hr => first | (go_simp; done) | (go_simp; rfl)); intro w26 hw; have hg : wr.grownBy w26 (some mN) := (by rw [hw]; exact tL.2); have hp_ : Kd.R (Kd.int .i64) 3 w26 w.heap.size (fun k_ => some k_ ≠ (.slice (some ku) t107.length tt : Value).ownBlock) (.slice (some ⟨mN, 0, none⟩) aD.length gg) dX := (by rw [hw, kv.out]; exact tL.1); clear tL; replace cy := aa.mk (Kd.Yy (v := (.slice (some ⟨mN, 0, none⟩) aD.length gg)) (v1 := (.slice (some ⟨mN, 0, none⟩) aD.length gg)) (ok := (fun _ => True)) (by (with_reducible repeat (first | apply Kd.R_alloc | apply Kd.QI | apply Kd.QN)); exact Kd.Q8 cy.out (fun _ hk => ⟨trivial, hk⟩)) hg (.inl rfl)); replace ab := aa.mk (Yl (g := ag) (o := .cells #[.slice ak ae.length an, .slice aj af.length al] 24 (0, 0)) (by (with_reducible repeat (first | refine QC ?_ _ | refine QE ?_ | refine Qz ?_ _)); exact ab.out) hg (Kd.R_ne eg.out ab.out (by decide))); replace eg := aa.mk (hp_); replace HB := aa.mk ((by rw [hw]; exact Zl (HB.out) zy.out : Below w.heap.size w w26)); clear hg hw hp_))
                (try simp only [← gz])
                go_roundg k2
                case measure => have := HK1.out; have := HK2.out; omega
                case rel => exact ⟨(dX), (wrap64 (aH + 1)), (by first | rfl | (simp; done) | (simp [*]; done)), H', ⟨by have := HK1.out; have := HK2.out; omega⟩, ⟨by (try simp only [ev]); (try simp only [gz]); (with_reducible repeat (first | apply Kd.R_alloc | apply Kd.QI | apply Kd.QN)); exact eg.out⟩, ⟨by (try simp only [ev]); (try simp only [gz]); (with_reducible repeat (first | apply Kd.R_alloc | apply Kd.QI | apply Kd.QN)); exact Kd.Q8 cy.out (fun _ hk => hk.2)⟩, ⟨by (try simp only [ev]); (try simp only [gz]); (with_reducible repeat (first | refine QC ?_ _ | refine QE ?_ | refine Qz ?_ _)); exact ab.out⟩, ⟨bB⟩⟩
               ·rw [if_neg c23] at H; exact absurd H (by simp)
              ·rw [if_neg c22] at H; exact absurd H (by simp)
             ·rw [if_neg c21] at H; exact absurd H (by simp)
            ·rw [if_neg c20] at H; have gZ : decide (aH < (t107.length : Int)) = false := decide_eq_false c20; clear c20; have H' := aa.mk H; clear H; go_wp2; (try simp only [← ev, ← gz])
             go_roundg k2
             case measure => have := HK1.out; have := HK2.out; omega
             case rel => exact ⟨(aD), (wrap64 (b0 + 1)), (by first | rfl | (simp; done) | (simp [*]; done)), H', ⟨by have := HK1.out; have := HK2.out; omega⟩, ⟨by (try simp only [ev]); (try simp only [gz]); (with_reducible repeat (first | apply Kd.R_alloc | apply Kd.QI | apply Kd.QN)); exact Kd.Q8 eg.out (fun _ hk => trivial)⟩, ⟨by (try simp only [ev]); (try simp only [gz]); (with_reducible repeat (first | refine QC ?_ _ | refine QE ?_ | refine Qz ?_ _)); exact ab.out⟩, ⟨bB⟩⟩
         ·replace c16 := Bool.eq_false_iff.mpr c16; subst c16; have H1 : (some (([] : List Int), false)) = some (r1, r2) := by rw [if_neg (show ¬ (false = true) by decide)] at H; exact H
          clear H; have H := H1; clear H1; simp only [Option.some.injEq, Prod.mk.injEq] at H; obtain ⟨rfl, rfl⟩ := H; have dh : 0 ≤ (b0 : Int) := of_decide_eq_true (by assumption); have dg : b0 < (aZ.length : Int) := of_decide_eq_true (by assumption); obtain ⟨j8, iR, bc⟩ := Kd.Zh (Kd.QA eg.out).2.2 b0 dh dg; cases iR; replace dh := eq_true dh; replace dg := eq_true dg; have jJ : wr.cell? ⟨ag, 0, none⟩ = some (.slice ak ae.length an) := (Qd ab.out 0).trans rfl; have jI : wr.cell? ⟨ag, 1, none⟩ = some (.slice aj af.length al) := (Qd ab.out 1).trans rfl; have jD := Qb ab.out 0; have jC := Qb ab.out 1; go_wp2_with (first | ((with_reducible refine Qg (f := 112) rfl ?_); refine QG (some 26) rfl rfl Try.func112 (by kernel_rfl) rfl #[.agg #[.slice ak ae.length an, .slice aj af.length al], .int .i64 b0] rfl hA ?_; (with_reducible refine (QJ.calls k1 _ _ ae _ _ af b0 t107 false _ ?ah ?ai ?aq ?ar A15.out).mono ?_); (case ah => exact (Kd.Qo aw.out HB.out)); (case ai => exact az.out); (case aq => exact (Kd.Qo ay.out HB.out)); (case ar => exact aA.out); rintro e w28 ⟨de, rfl, ho0, hb⟩; refine ⟨_, rfl, ?_⟩; have aW := aa.mk (Kd.Zg (Kd.Zt ho0 (Kd.R_lt eg.out)) (Qc bB)); replace eg := aa.mk (Kd.Zd eg.out (Kd.QS ho0) hb); replace ab := aa.mk (Qq ab.out hb); replace HB := aa.mk (Qa bB hb); (try clear hb); (try clear hb2); (try clear hk); (try clear hi); (try clear ho0)))
          go_ret2; exact ⟨_, by first | rfl | (simp [Qj, Qi] <;> rfl) | (simp [*, Qj, Qi] <;> rfl), by first | exact Kd.Yg _ _ _ _ _ | exact Kd.Yp _ _ _ _ _ | exact Kd.V_nil _ _ _ _ _ | exact Kd.Q_nil _ _ _ _ _ | exact Kd.Ys _ _ _ _ _, bB⟩
       ·rw [if_neg c13] at H; exact absurd H (by simp)
      ·rw [if_neg c12] at H; exact absurd H (by simp)
     ·rw [if_neg c11] at H; have fp : decide (b0 < (du.length : Int)) = false := decide_eq_false c11; clear c11; rw [ev] at fp; simp only [Option.some.injEq, Prod.mk.injEq] at H; obtain ⟨rfl, rfl⟩ := H; go_wp2; go_ret2; exact ⟨_, by first | rfl | (simp [Qj, Qi] <;> rfl) | (simp [*, Qj, Qi] <;> rfl), by (with_reducible repeat (first | apply Kd.R_alloc | apply Kd.QI | apply Kd.QN)); exact eg.out, bB⟩
  ·rw [if_neg c4] at H; exact absurd H (by simp)
 ·rw [if_neg c3] at H; exact absurd H (by simp)
end Go.Proofs.Ytdneelgnmnpanaa.P
end
