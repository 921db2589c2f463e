/- What the claim's last text wants, part 4: functions of the translation as Lean functions with their contracts, and plain theorems; no conditions beyond those that each theorem names. -/
import Derived.Test.YtdneelgnmnpanaaZSi3
set_option linter.unusedVariables false
set_option linter.unusedSimpArgs false
section
namespace Go.Proofs.Ytdneelgnmnpanaa.P
open Go.RowKit Go.Proofs.YtdneelgnmnpanaaW.PrintWords Go.Proofs.YtdneelgnmnpanaaW.PrintLast Go.Proofs.YtdneelgnmnpanaaW.PrintMore
attribute [local go_sem] max2_int min2_int max_two min_two max_three min_three max_four min_four
mutual
def Qk.j0 : Nat → Bool → List (List Int) → List (List Int) → Option (Int)
 | 0, _, _, _ => none
 | k + 1, x25, au, av => if x25 = true then (some 1) else ((Zm.f au av).bind fun t106 => (Qk.l0 k t106 (t106.length : Int) 0 au av))
def Qk.l0 : Nat → List (List Int) → Int → Int → List (List Int) → List (List Int) → Option (Int)
 | 0, _, _, _, _, _ => none
 | k + 1, x31, x32, x33, au, av => if x33 < x32 then (if 0 ≤ x33 then (if x33 < (x31.length : Int) then (if 0 < (au.length : Int) then ((Zo.f (Qu x31 x33) ((Qu au 0).length : Int) 0 9).bind fun t111 => (if t111 = true then ((Qv.f k (Qu x31 x33)).bind fun t112 => (if t112 = 0 then (some 1) else (Qk.l0 k x31 x32 (wrap64 (x33 + 1)) au av))) else (some 1))) else (none)) else (none)) else (none)) else (some 0)
end
def Qk.f (k : Nat) (ae : List (List Int)) (af : List (List Int)) : Option (Int) := (Zk.f (ae.length : Int) 1 3).bind fun t102 => (if t102 = true then ((Zk.f (af.length : Int) 1 3).bind fun t103 => (if t103 = true then (if 0 < (ae.length : Int) then ((Zk.f ((Qu ae 0).length : Int) 1 4).bind fun t105 => (Qk.j0 k (!t105) ae af)) else (none)) else (Qk.j0 k true ae af))) else (Qk.j0 k true ae af))
theorem Qk.ZP : ∀ k, (∀ y0 y1 y2, LeO (Qk.j0 k y0 y1 y2) (Qk.j0 (k + 1) y0 y1 y2)) ∧ (∀ y0 y1 y2 y3 y4, LeO (Qk.l0 k y0 y1 y2 y3 y4) (Qk.l0 (k + 1) y0 y1 y2 y3 y4))
 | 0 => ⟨fun _ _ _ r h => by simp [Qk.j0] at h, fun _ _ _ _ _ r h => by simp [Qk.l0] at h⟩
 | k + 1 => by
  obtain ⟨ih0, ih1⟩ := Qk.ZP k; refine ⟨?_, ?_⟩ <;> intros <;> (first | unfold Qk.j0 | unfold Qk.l0) <;> repeat' first | (with_reducible exact ih0 _ _ _) | (with_reducible exact ih1 _ _ _ _ _) | (with_reducible exact Qv.mono _ _) | (with_reducible exact LeO.refl _) | (with_reducible exact LeO.none _) | (with_reducible refine LeO.ite ?_ ?_) | (with_reducible refine LeO.bind ?_ (fun _ => ?_)) | exact ih0 _ _ _ | exact ih1 _ _ _ _ _ | exact Qv.mono _ _ | exact LeO.none _ | refine LeO.ite ?_ ?_ | refine LeO.bind ?_ (fun _ => ?_)
theorem Qk.mono : ∀ a0 a1 k, LeO (Qk.f k a0 a1) (Qk.f (k + 1) a0 a1) := by
 intro a0 a1 k; obtain ⟨ih0, ih1⟩ := Qk.ZP k; unfold Qk.f; repeat' first | (with_reducible exact ih0 _ _ _) | (with_reducible exact ih1 _ _ _ _ _) | (with_reducible exact Qv.mono _ _) | (with_reducible exact LeO.refl _) | (with_reducible exact LeO.none _) | (with_reducible refine LeO.ite ?_ ?_) | (with_reducible refine LeO.bind ?_ (fun _ => ?_)) | exact ih0 _ _ _ | exact ih1 _ _ _ _ _ | exact Qv.mono _ _ | exact LeO.none _ | refine LeO.ite ?_ ?_ | refine LeO.bind ?_ (fun _ => ?_)
set_option maxHeartbeats 8000000 in
set_option maxRecDepth 100000 in
theorem Qk.calls (k : Nat) (ak : Option Addr) (an : Nat) (ae : List (List Int)) (aj : Option Addr) (al : Nat) (af : List (List Int)) (r : Int) (w : World) (aN : Kd.C (Kd.slice 3 (Kd.int .i64)) w ak ae.length ae) (aT : ae.length ≤ an) (aM : Kd.C (Kd.slice 3 (Kd.int .i64)) w aj af.length af) (aQ : af.length ≤ al) (h : Qk.f k ae af = some r) :
  Calls Try.prog 38 #[.agg #[.slice ak ae.length an, .slice aj af.length al]] w fun e w' => e = .returned (.int .i64 r) ∧ Below w.heap.size w w' := by
 have en := Try.underlying24; have aw := aa.mk aN; have az := aa.mk aT; clear aN aT; have ay := aa.mk aM; have aA := aa.mk aQ; clear aM aQ; have HB := aa.mk (Below.refl w.heap.size w); have H : ((Zk.f (ae.length : Int) 1 3).bind fun t102 => (if t102 = true then ((Zk.f (af.length : Int) 1 3).bind fun t103 => (if t103 = true then (if 0 < (ae.length : Int) then ((Zk.f ((Qu ae 0).length : Int) 1 4).bind fun t105 => (Qk.j0 k (!t105) ae af)) else (none)) else (Qk.j0 k true ae af))) else (Qk.j0 k true ae af))) = some r := h; clear h; have HC2 := aa.mk H; clear H; go_enter Try.func38, Try.ntmps38; go_upto_region 1 with (first | ((with_reducible refine QO (N := 1) rfl ?_); (try (refine Z5 (by rfl) ?_; dsimp only)); refine Q4 ?hg (N := 1) ?hd (cs := #[.slice ak ae.length an, .slice aj af.length al]) (t := 24) ?hr ?_; (case hd => rfl); (case hg => rfl); (case hr => first | (go_simp; done) | (go_simp; rfl)); intro ag hg w3 hbox hb; have ab := aa.mk (hbox); have bo := aa.mk ((by rw [hg]; exact (Qc bB) : w.heap.size ≤ ag)); have aV := aa.mk ((by rw [hg]; exact (Qc bB) : w.heap.size ≤ ag)); replace HB := aa.mk (Qa bB hb); clear hb hbox hg))
 (try simp only [Act.put, zA, zB, zC])
 go_cut [25] (fun v25 wc => ∃ (kq : Nat) (bW : Bool), v25 = .bool bW ∧ aa (Qk.j0 kq bW ae af = some r) ∧ aa (kq ≤ k) ∧ aa (wc.heap[ag]? = some (.cells #[(.slice ak ae.length an), (.slice aj af.length al)] 24 (0, 0))) ∧ aa (Below w.heap.size w wc))
 case first =>
  have H := HC2.out; clear HC2; replace H := Option.bind_eq_some_iff.mp H; obtain ⟨t102, A40, H⟩ := H; replace H : (if t102 = true then ((Zk.f (af.length : Int) 1 3).bind fun t103 => (if t103 = true then (if 0 < (ae.length : Int) then ((Zk.f ((Qu ae 0).length : Int) 1 4).bind fun t105 => (Qk.j0 k (!t105) ae af)) else (none)) else (Qk.j0 k true ae af))) else (Qk.j0 k true ae af)) = some r := H; have A4 := aa.mk A40; clear A40; by_cases c5 : t102 = true
  ·subst c5; have H1 : ((Zk.f (af.length : Int) 1 3).bind fun t103 => (if t103 = true then (if 0 < (ae.length : Int) then ((Zk.f ((Qu ae 0).length : Int) 1 4).bind fun t105 => (Qk.j0 k (!t105) ae af)) else (none)) else (Qk.j0 k true ae af))) = some r := by rw [if_pos rfl] at H; exact H
   clear H; have H := H1; clear H1; replace H := Option.bind_eq_some_iff.mp H; obtain ⟨t103, A60, H⟩ := H; replace H : (if t103 = true then (if 0 < (ae.length : Int) then ((Zk.f ((Qu ae 0).length : Int) 1 4).bind fun t105 => (Qk.j0 k (!t105) ae af)) else (none)) else (Qk.j0 k true ae af)) = some r := H; have A6 := aa.mk A60; clear A60; by_cases c7 : t103 = true
   ·subst c7; have H1 : (if 0 < (ae.length : Int) then ((Zk.f ((Qu ae 0).length : Int) 1 4).bind fun t105 => (Qk.j0 k (!t105) ae af)) else (none)) = some r := by rw [if_pos rfl] at H; exact H
    clear H; have H := H1; clear H1; by_cases c8 : 0 < (ae.length : Int)
    ·rw [if_pos c8] at H; have dQ : decide (0 < (ae.length : Int)) = true := decide_eq_true c8; have iU : decide (0 < ae.length) = true := decide_eq_true (by omega); clear c8; (first | rw [dQ] | (simp only [Qy, QB]; rw [dQ]) | skip)
     replace H := Option.bind_eq_some_iff.mp H; obtain ⟨t105, A90, H⟩ := H; replace H : (Qk.j0 k (!t105) ae af) = some r := H; have A9 := aa.mk A90; clear A90; have H' := aa.mk H; clear H; have da : w3.cell? ⟨ag, 0, none⟩ = some (.slice ak ae.length an) := (Qd ab.out 0).trans rfl; have cZ : w3.cell? ⟨ag, 1, none⟩ = some (.slice aj af.length al) := (Qd ab.out 1).trans rfl; have cW := Qb ab.out 0; have cV := Qb ab.out 1; go_wp2_with (first | ((with_reducible refine Qg (f := 75) rfl ?_); refine QG (some 8) rfl rfl Try.func75 (by kernel_rfl) rfl #[.int .i64 (ae.length : Int), .int .i64 1, .int .i64 3] rfl hA ?_; (with_reducible refine (Zk.calls (ae.length : Int) 1 3 true _ A4.out).mono ?_); rintro e w' ⟨rfl, ⟨nd, rfl⟩⟩; refine ⟨_, rfl, ?_⟩) | (go_at_call 75; (with_reducible refine (Zk.calls (af.length : Int) 1 3 true _ A6.out).mono ?_); rintro e w' ⟨rfl, ⟨nd, rfl⟩⟩; have fZ : 0 ≤ (0 : Int) := (by omega); have fX : 0 < (ae.length : Int) := of_decide_eq_true (by assumption); obtain ⟨rU, tV, tB, o7, bY, iv, iz⟩ := ZO aw.out 0 fZ fX; cases o7; have ub : (0 < ae.length) = True := eq_true (by omega); (try rw [show ((0 : Int)).toNat = 0 from rfl] at bY); (try rw [Addr.add_zero'] at bY); replace bY := (HB.out.cell (World.block_lt_of_cell? w _ bY)).trans bY; have qS := aa.mk iz; have qZ := aa.mk iv; clear iz iv; replace fZ := eq_true fZ; replace fX := eq_true fX) | (go_at_call 75; (with_reducible refine (Zk.calls ((Qu ae 0).length : Int) 1 4 t105 _ A9.out).mono ?_); rintro e w' ⟨rfl, ⟨nd, rfl⟩⟩))
     go_meet
     case rel => exact ⟨_, (!t105), (by first | rfl | (simp; done) | (simp [*]; done)), H', ⟨by first | omega | exact Nat.le_refl _⟩, ⟨by (with_reducible repeat (first | refine QC ?_ _ | refine QE ?_ | refine Qz ?_ _)); exact ab.out⟩, ⟨bB⟩⟩
    ·rw [if_neg c8] at H; exact absurd H (by simp)
   ·replace c7 := Bool.eq_false_iff.mpr c7; subst c7; have H1 : (Qk.j0 k true ae af) = some r := by rw [if_neg (show ¬ (false = true) by decide)] at H; exact H
    clear H; have H := H1; clear H1; have H' := aa.mk H; clear H; have cY : w3.cell? ⟨ag, 0, none⟩ = some (.slice ak ae.length an) := (Qd ab.out 0).trans rfl; have cX : w3.cell? ⟨ag, 1, none⟩ = some (.slice aj af.length al) := (Qd ab.out 1).trans rfl; have cU := Qb ab.out 0; have cT := Qb ab.out 1; go_wp2_with (first | ((with_reducible refine Qg (f := 75) rfl ?_); refine QG (some 8) rfl rfl Try.func75 (by kernel_rfl) rfl #[.int .i64 (ae.length : Int), .int .i64 1, .int .i64 3] rfl hA ?_; (with_reducible refine (Zk.calls (ae.length : Int) 1 3 true _ A4.out).mono ?_); rintro e w' ⟨rfl, ⟨nd, rfl⟩⟩; refine ⟨_, rfl, ?_⟩) | (go_at_call 75; (with_reducible refine (Zk.calls (af.length : Int) 1 3 false _ A6.out).mono ?_); rintro e w' ⟨rfl, ⟨nd, rfl⟩⟩))
    go_meet
    case rel => exact ⟨_, (true), (by first | rfl | (simp; done) | (simp [*]; done)), H', ⟨by first | omega | exact Nat.le_refl _⟩, ⟨by (with_reducible repeat (first | refine QC ?_ _ | refine QE ?_ | refine Qz ?_ _)); exact ab.out⟩, ⟨bB⟩⟩
  ·replace c5 := Bool.eq_false_iff.mpr c5; subst c5; have H1 : (Qk.j0 k true ae af) = some r := by rw [if_neg (show ¬ (false = true) by decide)] at H; exact H
   clear H; have H := H1; clear H1; have H' := aa.mk H; clear H; have dU : w3.cell? ⟨ag, 0, none⟩ = some (.slice ak ae.length an) := (Qd ab.out 0).trans rfl; have dT : w3.cell? ⟨ag, 1, none⟩ = some (.slice aj af.length al) := (Qd ab.out 1).trans rfl; have dS := Qb ab.out 0; have dR := Qb ab.out 1; go_wp2_with (first | ((with_reducible refine Qg (f := 75) rfl ?_); refine QG (some 8) rfl rfl Try.func75 (by kernel_rfl) rfl #[.int .i64 (ae.length : Int), .int .i64 1, .int .i64 3] rfl hA ?_; (with_reducible refine (Zk.calls (ae.length : Int) 1 3 false _ A4.out).mono ?_); rintro e w' ⟨rfl, ⟨nd, rfl⟩⟩; refine ⟨_, rfl, ?_⟩))
   go_meet
   case rel => exact ⟨_, (true), (by first | rfl | (simp; done) | (simp [*]; done)), H', ⟨by first | omega | exact Nat.le_refl _⟩, ⟨by (with_reducible repeat (first | refine QC ?_ _ | refine QE ?_ | refine Qz ?_ _)); exact ab.out⟩, ⟨bB⟩⟩
 case rest =>
  clear HC2; try clear c1
  try clear p1
  try clear q1
  try clear hx1
  try clear qi1
  try clear p2
  try clear c3
  try clear c5
  try clear c7
  try clear c8
  try clear dQ
  try clear iU
  try clear c10
  try clear p10
  try clear q10
  try clear hZ
  try clear ly
  try clear da
  try clear cZ
  try clear cY
  try clear cX
  try clear dU
  try clear dT
  try clear cW
  try clear cV
  try clear cU
  try clear cT
  try clear dS
  try clear dR
  try clear bY
  try clear fZ
  try clear fX
  obtain ⟨kq, bW, rfl, HA, HJ1, ab, HB⟩ := hcut; cases kq with
  | zero => exact absurd HA.out (by simp [Qk.j0])
  | succ kj1 =>
   have H := HA.out; clear HA; simp only [Qk.j0] at H; by_cases c13 : bW = true
   ·subst c13; have H1 : (some 1) = some r := by rw [if_pos rfl] at H; exact H
    clear H; have H := H1; clear H1; obtain rfl := Option.some.inj H; go_wp2; go_ret; exact ⟨by first | rfl | (simp [Qj, Qi] <;> rfl) | (simp [*, Qj, Qi] <;> rfl), bB⟩
   ·replace c13 := Bool.eq_false_iff.mpr c13; subst c13; have H1 : ((Zm.f ae af).bind fun t106 => (Qk.l0 kj1 t106 (t106.length : Int) 0 ae af)) = some r := by rw [if_neg (show ¬ (false = true) by decide)] at H; exact H
    clear H; have H := H1; clear H1; replace H := Option.bind_eq_some_iff.mp H; obtain ⟨t106, wi, H⟩ := H; replace H : (Qk.l0 kj1 t106 (t106.length : Int) 0 ae af) = some r := H; have A14 := aa.mk wi; clear wi; have H' := aa.mk H; clear H; have fL : wc.cell? ⟨ag, 0, none⟩ = some (.slice ak ae.length an) := (Qd ab.out 0).trans rfl; have fK : wc.cell? ⟨ag, 1, none⟩ = some (.slice aj af.length al) := (Qd ab.out 1).trans rfl; have fH := Qb ab.out 0; have fG := Qb ab.out 1; go_wp2_with (first | ((with_reducible refine QO (N := 30) rfl ?_); refine Two.build ?hg (N := 30) ?hd (v0 := .slice ak ae.length an) (v1 := .slice aj af.length al) ?hr ?_; (case hd => rfl); (case hg => rfl); (case hr => first | (go_simp; done) | (go_simp; rfl)); intro gq hgq wq hqb hqbel; replace HB := aa.mk (Qa bB hqbel); replace ab := aa.mk (Qq ab.out hqbel); have BQ := aa.mk hqb; clear hqb hqbel hgq) | ((with_reducible refine Qg (f := 76) rfl ?_); refine QG (some 31) rfl rfl Try.func76 (by kernel_rfl) rfl #[.slice (some ⟨gq, 0, none⟩) 2 2] rfl hA ?_; (with_reducible refine (Zm.calls (fun k_ => k_ < w.heap.size) _ _ ae (fun k_ => k_ < w.heap.size) _ _ af t106 _ _ BQ.out ?ah ?ai A14.out).mono ?_); (case ah => exact Kd.V_mk az.out (Kd.Yr (Kd.C_F (Kd.Yf 3 (Kd.Yv .i64)) aw.out) bB)); (case ai => exact Kd.V_mk aA.out (Kd.Yr (Kd.C_F (Kd.Yf 3 (Kd.Yv .i64)) ay.out) bB)); rintro e w16 ⟨n4, rfl, ho0, hb⟩; refine ⟨_, rfl, ?_⟩; have eh := aa.mk (Kd.Yj (Kd.Ya (ok' := fun k_ => k_ ≠ ag) ho0 (fun k_ hk_ => Or.elim hk_ (fun hs_ => Or.elim hs_ (fun hs_ => fun e_ => Nat.not_le.2 hs_ (by rw [e_]; exact bo.out)) (fun hs_ => fun e_ => Nat.not_le.2 hs_ (by rw [e_]; exact bo.out))) (fun hn_ => (Kd.freshB (g := ag) (o := .cells #[.slice ak ae.length an, .slice aj af.length al] 24 (0, 0)) (by (with_reducible repeat (first | refine QC ?_ _ | refine QE ?_ | refine Qz ?_ _)); exact ab.out) k_ hn_)))) (Qc bB)); replace ab := aa.mk (Qq ab.out hb); replace HB := aa.mk (Qa bB hb); (try clear hb); (try clear hb2); (try clear hk); (try clear hi); (try clear ho0); obtain ⟨vT, uV, td⟩ := Kd.Yb eh.out; subst td))
    go_loopg [33] kj1 (fun kq v33 w' => ∃ (aH : Int), v33 = .int .i64 aH ∧ aa (Qk.l0 kq t106 (t106.length : Int) aH ae af = some r) ∧ aa (kq ≤ kj1) ∧ aa (Kd.N (Kd.slice 3 (Kd.int .i64)) 28 w' w.heap.size (fun k_ => k_ ≠ ag) (.slice vT t106.length uV) t106) ∧ aa (w'.heap[ag]? = some (.cells #[(.slice ak ae.length an), (.slice aj af.length al)] 24 (0, 0))) ∧ aa (Below w.heap.size w w'))
    case atStart => exact ⟨(0), (by first | rfl | (simp; done) | (simp [*]; done)), H', ⟨Nat.le_refl _⟩, ⟨by (with_reducible repeat (first | apply Kd.N_alloc | apply Kd.Ye | apply Kd.Yn)); exact eh.out⟩, ⟨by (with_reducible repeat (first | refine QC ?_ _ | refine QE ?_ | refine Qz ?_ _)); exact ab.out⟩, ⟨bB⟩⟩
    case round =>
     clear H'; try clear c1
     try clear p1
     try clear q1
     try clear hx1
     try clear qi1
     try clear p2
     try clear c3
     try clear c5
     try clear c7
     try clear c8
     try clear dQ
     try clear iU
     try clear c10
     try clear p10
     try clear q10
     try clear hZ
     try clear ly
     try clear c13
     try clear da
     try clear cZ
     try clear cY
     try clear cX
     try clear dU
     try clear dT
     try clear fL
     try clear fK
     try clear cW
     try clear cV
     try clear cU
     try clear cT
     try clear dS
     try clear dR
     try clear fH
     try clear fG
     try clear bY
     try clear p1
     try clear p10
     try clear fZ
     try clear p2
     try clear q1
     try clear q10
     try clear fX
     obtain ⟨aH, rfl, HA, HK2, cy, ab, HB⟩ := hrel; cases gk with
     | zero => exact absurd HA.out (by simp [Qk.l0])
     | succ k2 =>
      have H := HA.out; clear HA; simp only [Qk.l0] at H; by_cases c18 : aH < (t106.length : Int)
      ·rw [if_pos c18] at H; have j6 : decide (aH < (t106.length : Int)) = true := decide_eq_true c18; clear c18; by_cases c19 : 0 ≤ aH
       ·rw [if_pos c19] at H; have cN : decide (0 ≤ aH) = true := decide_eq_true c19; clear c19; by_cases c20 : aH < (t106.length : Int)
        ·rw [if_pos c20] at H; have gZ : decide (aH < (t106.length : Int)) = true := decide_eq_true c20; clear c20; by_cases c21 : 0 < (ae.length : Int)
         ·rw [if_pos c21] at H; have iZ : decide (0 < (ae.length : Int)) = true := decide_eq_true c21; have Af : decide (0 < ae.length) = true := decide_eq_true (by omega); clear c21; replace H := Option.bind_eq_some_iff.mp H; obtain ⟨t111, pE, H⟩ := H; replace H : (if t111 = true then ((Qv.f k2 (Qu t106 aH)).bind fun t112 => (if t112 = 0 then (some 1) else (Qk.l0 k2 t106 (t106.length : Int) (wrap64 (aH + 1)) ae af))) else (some 1)) = some r := H; have A22 := aa.mk pE; clear pE; by_cases c23 : t111 = true
          ·subst c23; have H1 : ((Qv.f k2 (Qu t106 aH)).bind fun t112 => (if t112 = 0 then (some 1) else (Qk.l0 k2 t106 (t106.length : Int) (wrap64 (aH + 1)) ae af))) = some r := by rw [if_pos rfl] at H; exact H
           clear H; have H := H1; clear H1; replace H := Option.bind_eq_some_iff.mp H; obtain ⟨t112, pD, H⟩ := H; replace H : (if t112 = 0 then (some 1) else (Qk.l0 k2 t106 (t106.length : Int) (wrap64 (aH + 1)) ae af)) = some r := H; have A24 := aa.mk pD; clear pD; by_cases c25 : t112 = 0
           ·rw [if_pos c25] at H; have rK : (t112 == 0) = true := beq_iff_eq.mpr c25; have vm : (t112 != 0) = false := bne_eq_false_iff_eq.mpr c25; clear c25; obtain rfl := Option.some.inj H; have ij : 0 ≤ (aH : Int) := of_decide_eq_true (by assumption); have ig : aH < (t106.length : Int) := of_decide_eq_true (by assumption); obtain ⟨rT, ki, j7, o0, il, eY, e5⟩ := ZO (Kd.Zi cy.out).2.2 aH ij ig; cases o0; obtain ⟨rG, jW, j1, gG⟩ := Kd.Y2 cy.out [] aH ij (by first | exact ig | exact of_decide_eq_true (by assumption) | (have e_ := (Kd.Zi cy.out).1; omega)); obtain ⟨na, m9, rfl, dw, dI⟩ := Kd.Zs j1; have cH := gG 0 _ rfl; rw [Nat.add_zero, show ((Kd.slice 3 (Kd.int .i64))).sz = 1 from rfl, Nat.mul_one] at cH; replace cH := Option.some.inj (cH.symm.trans il); injection cH with hva_ hvn_ hvc_
            rw [hva_] at dI; rw [hvc_] at dw; have dk := aa.mk (show Kd.V (Kd.int .i64) 3 _ w.heap.size _ _ (Qu t106 aH) from Kd.V_mk dw dI); clear hva_ hvn_ hvc_ dI dw; clear gG jW; have bt := aa.mk e5; have fQ := aa.mk eY; clear e5 eY; replace ij := eq_true ij; replace ig := eq_true ig; have jL : wr.cell? ⟨ag, 0, none⟩ = some (.slice ak ae.length an) := (Qd ab.out 0).trans rfl; have jK : wr.cell? ⟨ag, 1, none⟩ = some (.slice aj af.length al) := (Qd ab.out 1).trans rfl; have jF := Qb ab.out 0; have jE := Qb ab.out 1; have fY : 0 ≤ (0 : Int) := (by omega); have fW : 0 < (ae.length : Int) := of_decide_eq_true (by assumption); obtain ⟨nF, m5, mW, mP, bG, dz, dC⟩ := ZO aw.out 0 fY fW; cases mP; have re : (0 < ae.length) = True := eq_true (by omega); (try rw [show ((0 : Int)).toNat = 0 from rfl] at bG)
            (try rw [Addr.add_zero'] at bG)
            replace bG := (HB.out.cell (World.block_lt_of_cell? w _ bG)).trans bG; have jP := aa.mk dC; have lp := aa.mk dz; clear dC dz; replace fY := eq_true fY; replace fW := eq_true fW; go_wp2_with (first | ((with_reducible refine Qg (f := 77) rfl ?_); refine QG (some 43) rfl rfl Try.func77 (by kernel_rfl) rfl #[.slice ki (Qu t106 aH).length j7, .int .i64 ((Qu ae 0).length : Int), .int .i64 0, .int .i64 9] rfl hA ?_; (with_reducible refine (Zo.calls _ _ (Qu t106 aH) ((Qu ae 0).length : Int) 0 9 true _ ?ah ?ai A22.out).mono ?_); (case ah => repeat (first | exact (by repeat (first | (with_reducible exact bt.out) | (with_reducible refine Kd.C_alloc ?_ _) | (with_reducible refine Kd.ZM ?_ _) | (with_reducible refine Kd.C_drew ?_) | exact bt.out)) | (with_reducible refine Kd.C_alloc ?_ _) | (with_reducible refine Kd.ZM ?_ _) | (with_reducible refine Kd.C_drew ?_))); (case ai => exact fQ.out); rintro e w27 ⟨rfl, hb⟩; refine ⟨_, rfl, ?_⟩; replace cy := aa.mk (Kd.Z0 cy.out hb); replace dk := aa.mk (Kd.Z7 dk.out hb); replace ab := aa.mk (Qq ab.out hb); replace bt := aa.mk (Kd.Qo (by repeat (first | (with_reducible exact bt.out) | (with_reducible refine Kd.C_alloc ?_ _) | (with_reducible refine Kd.ZM ?_ _) | (with_reducible refine Kd.C_drew ?_) | exact bt.out)) hb); replace HB := aa.mk (Qa bB hb); (try clear hb); (try clear hb2); (try clear hk); (try clear hi)) | (go_at_call 78; (with_reducible refine (Qv.calls k2 _ _ (Qu t106 aH) t112 _ ?ah ?ai A24.out).mono ?_); (case ah => repeat (first | exact (by repeat (first | (with_reducible exact bt.out) | (with_reducible refine Kd.C_alloc ?_ _) | (with_reducible refine Kd.ZM ?_ _) | (with_reducible refine Kd.C_drew ?_) | exact bt.out)) | (with_reducible refine Kd.C_alloc ?_ _) | (with_reducible refine Kd.ZM ?_ _) | (with_reducible refine Kd.C_drew ?_))); (case ai => exact fQ.out); rintro e w28 ⟨rfl, hb⟩; replace cy := aa.mk (Kd.Z0 cy.out hb); replace dk := aa.mk (Kd.Z7 dk.out hb); replace ab := aa.mk (Qq ab.out hb); replace bt := aa.mk (Kd.Qo (by repeat (first | (with_reducible exact bt.out) | (with_reducible refine Kd.C_alloc ?_ _) | (with_reducible refine Kd.ZM ?_ _) | (with_reducible refine Kd.C_drew ?_) | exact bt.out)) hb); replace HB := aa.mk (Qa bB hb); (try clear hb); (try clear hb2); (try clear hk); (try clear hi)))
            go_ret; exact ⟨by first | rfl | (simp [Qj, Qi] <;> rfl) | (simp [*, Qj, Qi] <;> rfl), bB⟩
           ·rw [if_neg c25] at H; have rK : (t112 == 0) = false := beq_eq_false_iff_ne.mpr c25; have vm : (t112 != 0) = true := bne_iff_ne.mpr c25; have H' := aa.mk H; clear H; have ij : 0 ≤ (aH : Int) := of_decide_eq_true (by assumption); have ig : aH < (t106.length : Int) := of_decide_eq_true (by assumption); obtain ⟨rT, ki, j7, o0, il, eY, e5⟩ := ZO (Kd.Zi cy.out).2.2 aH ij ig; cases o0; obtain ⟨rG, jW, j1, gG⟩ := Kd.Y2 cy.out [] aH ij (by first | exact ig | exact of_decide_eq_true (by assumption) | (have e_ := (Kd.Zi cy.out).1; omega)); obtain ⟨na, m9, rfl, dw, dI⟩ := Kd.Zs j1; have cH := gG 0 _ rfl; rw [Nat.add_zero, show ((Kd.slice 3 (Kd.int .i64))).sz = 1 from rfl, Nat.mul_one] at cH; replace cH := Option.some.inj (cH.symm.trans il); injection cH with hva_ hvn_ hvc_
            rw [hva_] at dI; rw [hvc_] at dw; have dk := aa.mk (show Kd.V (Kd.int .i64) 3 _ w.heap.size _ _ (Qu t106 aH) from Kd.V_mk dw dI); clear hva_ hvn_ hvc_ dI dw; clear gG jW; have bt := aa.mk e5; have fQ := aa.mk eY; clear e5 eY; replace ij := eq_true ij; replace ig := eq_true ig; have ny : wr.cell? ⟨ag, 0, none⟩ = some (.slice ak ae.length an) := (Qd ab.out 0).trans rfl; have nx : wr.cell? ⟨ag, 1, none⟩ = some (.slice aj af.length al) := (Qd ab.out 1).trans rfl; have nu := Qb ab.out 0; have nt := Qb ab.out 1; have fY : 0 ≤ (0 : Int) := (by omega); have fW : 0 < (ae.length : Int) := of_decide_eq_true (by assumption); obtain ⟨nF, m5, mW, mP, bG, dz, dC⟩ := ZO aw.out 0 fY fW; cases mP; have re : (0 < ae.length) = True := eq_true (by omega); (try rw [show ((0 : Int)).toNat = 0 from rfl] at bG)
            (try rw [Addr.add_zero'] at bG)
            replace bG := (HB.out.cell (World.block_lt_of_cell? w _ bG)).trans bG; have jP := aa.mk dC; have lp := aa.mk dz; clear dC dz; replace fY := eq_true fY; replace fW := eq_true fW; go_wp2_with (first | ((with_reducible refine Qg (f := 77) rfl ?_); refine QG (some 43) rfl rfl Try.func77 (by kernel_rfl) rfl #[.slice ki (Qu t106 aH).length j7, .int .i64 ((Qu ae 0).length : Int), .int .i64 0, .int .i64 9] rfl hA ?_; (with_reducible refine (Zo.calls _ _ (Qu t106 aH) ((Qu ae 0).length : Int) 0 9 true _ ?ah ?ai A22.out).mono ?_); (case ah => repeat (first | exact (by repeat (first | (with_reducible exact bt.out) | (with_reducible refine Kd.C_alloc ?_ _) | (with_reducible refine Kd.ZM ?_ _) | (with_reducible refine Kd.C_drew ?_) | exact bt.out)) | (with_reducible refine Kd.C_alloc ?_ _) | (with_reducible refine Kd.ZM ?_ _) | (with_reducible refine Kd.C_drew ?_))); (case ai => exact fQ.out); rintro e w30 ⟨rfl, hb⟩; refine ⟨_, rfl, ?_⟩; replace cy := aa.mk (Kd.Z0 cy.out hb); replace dk := aa.mk (Kd.Z7 dk.out hb); replace ab := aa.mk (Qq ab.out hb); replace bt := aa.mk (Kd.Qo (by repeat (first | (with_reducible exact bt.out) | (with_reducible refine Kd.C_alloc ?_ _) | (with_reducible refine Kd.ZM ?_ _) | (with_reducible refine Kd.C_drew ?_) | exact bt.out)) hb); replace HB := aa.mk (Qa bB hb); (try clear hb); (try clear hb2); (try clear hk); (try clear hi)) | (go_at_call 78; (with_reducible refine (Qv.calls k2 _ _ (Qu t106 aH) t112 _ ?ah ?ai A24.out).mono ?_); (case ah => repeat (first | exact (by repeat (first | (with_reducible exact bt.out) | (with_reducible refine Kd.C_alloc ?_ _) | (with_reducible refine Kd.ZM ?_ _) | (with_reducible refine Kd.C_drew ?_) | exact bt.out)) | (with_reducible refine Kd.C_alloc ?_ _) | (with_reducible refine Kd.ZM ?_ _) | (with_reducible refine Kd.C_drew ?_))); (case ai => exact fQ.out); rintro e w31 ⟨rfl, hb⟩; replace cy := aa.mk (Kd.Z0 cy.out hb); replace dk := aa.mk (Kd.Z7 dk.out hb); replace ab := aa.mk (Qq ab.out hb); replace bt := aa.mk (Kd.Qo (by repeat (first | (with_reducible exact bt.out) | (with_reducible refine Kd.C_alloc ?_ _) | (with_reducible refine Kd.ZM ?_ _) | (with_reducible refine Kd.C_drew ?_) | exact bt.out)) hb); replace HB := aa.mk (Qa bB hb); (try clear hb); (try clear hb2); (try clear hk); (try clear hi)))
            go_roundg k2
            case measure => have := HJ1.out; have := HK2.out; omega
            case rel => exact ⟨(wrap64 (aH + 1)), (by first | rfl | (simp; done) | (simp [*]; done)), H', ⟨by have := HJ1.out; have := HK2.out; omega⟩, ⟨by (with_reducible repeat (first | apply Kd.N_alloc | apply Kd.Ye | apply Kd.Yn)); exact cy.out⟩, ⟨by (with_reducible repeat (first | refine QC ?_ _ | refine QE ?_ | refine Qz ?_ _)); exact ab.out⟩, ⟨bB⟩⟩
          ·replace c23 := Bool.eq_false_iff.mpr c23; subst c23; have H1 : (some 1) = some r := by rw [if_neg (show ¬ (false = true) by decide)] at H; exact H
           clear H; have H := H1; clear H1; obtain rfl := Option.some.inj H; have ij : 0 ≤ (aH : Int) := of_decide_eq_true (by assumption); have ig : aH < (t106.length : Int) := of_decide_eq_true (by assumption); obtain ⟨rT, ki, j7, o0, il, eY, e5⟩ := ZO (Kd.Zi cy.out).2.2 aH ij ig; cases o0; obtain ⟨rG, jW, j1, gG⟩ := Kd.Y2 cy.out [] aH ij (by first | exact ig | exact of_decide_eq_true (by assumption) | (have e_ := (Kd.Zi cy.out).1; omega)); obtain ⟨na, m9, rfl, dw, dI⟩ := Kd.Zs j1; have cH := gG 0 _ rfl; rw [Nat.add_zero, show ((Kd.slice 3 (Kd.int .i64))).sz = 1 from rfl, Nat.mul_one] at cH; replace cH := Option.some.inj (cH.symm.trans il); injection cH with hva_ hvn_ hvc_
           rw [hva_] at dI; rw [hvc_] at dw; have dk := aa.mk (show Kd.V (Kd.int .i64) 3 _ w.heap.size _ _ (Qu t106 aH) from Kd.V_mk dw dI); clear hva_ hvn_ hvc_ dI dw; clear gG jW; have bt := aa.mk e5; have fQ := aa.mk eY; clear e5 eY; replace ij := eq_true ij; replace ig := eq_true ig; have qp : wr.cell? ⟨ag, 0, none⟩ = some (.slice ak ae.length an) := (Qd ab.out 0).trans rfl; have qo : wr.cell? ⟨ag, 1, none⟩ = some (.slice aj af.length al) := (Qd ab.out 1).trans rfl; have p8 := Qb ab.out 0; have p7 := Qb ab.out 1; have fY : 0 ≤ (0 : Int) := (by omega); have fW : 0 < (ae.length : Int) := of_decide_eq_true (by assumption); obtain ⟨nF, m5, mW, mP, bG, dz, dC⟩ := ZO aw.out 0 fY fW; cases mP; have re : (0 < ae.length) = True := eq_true (by omega); (try rw [show ((0 : Int)).toNat = 0 from rfl] at bG)
           (try rw [Addr.add_zero'] at bG)
           replace bG := (HB.out.cell (World.block_lt_of_cell? w _ bG)).trans bG; have jP := aa.mk dC; have lp := aa.mk dz; clear dC dz; replace fY := eq_true fY; replace fW := eq_true fW; go_wp2_with (first | ((with_reducible refine Qg (f := 77) rfl ?_); refine QG (some 43) rfl rfl Try.func77 (by kernel_rfl) rfl #[.slice ki (Qu t106 aH).length j7, .int .i64 ((Qu ae 0).length : Int), .int .i64 0, .int .i64 9] rfl hA ?_; (with_reducible refine (Zo.calls _ _ (Qu t106 aH) ((Qu ae 0).length : Int) 0 9 false _ ?ah ?ai A22.out).mono ?_); (case ah => repeat (first | exact (by repeat (first | (with_reducible exact bt.out) | (with_reducible refine Kd.C_alloc ?_ _) | (with_reducible refine Kd.ZM ?_ _) | (with_reducible refine Kd.C_drew ?_) | exact bt.out)) | (with_reducible refine Kd.C_alloc ?_ _) | (with_reducible refine Kd.ZM ?_ _) | (with_reducible refine Kd.C_drew ?_))); (case ai => exact fQ.out); rintro e w33 ⟨rfl, hb⟩; refine ⟨_, rfl, ?_⟩; replace cy := aa.mk (Kd.Z0 cy.out hb); replace dk := aa.mk (Kd.Z7 dk.out hb); replace ab := aa.mk (Qq ab.out hb); replace bt := aa.mk (Kd.Qo (by repeat (first | (with_reducible exact bt.out) | (with_reducible refine Kd.C_alloc ?_ _) | (with_reducible refine Kd.ZM ?_ _) | (with_reducible refine Kd.C_drew ?_) | exact bt.out)) hb); replace HB := aa.mk (Qa bB hb); (try clear hb); (try clear hb2); (try clear hk); (try clear hi)))
           go_ret; exact ⟨by first | rfl | (simp [Qj, Qi] <;> rfl) | (simp [*, Qj, Qi] <;> rfl), bB⟩
         ·rw [if_neg c21] at H; exact absurd H (by simp)
        ·rw [if_neg c20] at H; exact absurd H (by simp)
       ·rw [if_neg c19] at H; exact absurd H (by simp)
      ·rw [if_neg c18] at H; have j6 : decide (aH < (t106.length : Int)) = false := decide_eq_false c18; clear c18; obtain rfl := Option.some.inj H; go_wp2; go_ret; exact ⟨by first | rfl | (simp [Qj, Qi] <;> rfl) | (simp [*, Qj, Qi] <;> rfl), bB⟩
def Zq.f (k : Nat) (ae : List (List Int)) (af : List (List Int)) (l1 : List Int) : Option (Int) := (Qk.f k ae af).bind fun t102 => (if t102 = 0 then ((QY.f ae af).bind fun t103 => ((Zo.f l1 t103 (-1000000) 1000000).bind fun t104 => (if t104 = true then (some 0) else (some 1)))) else (some t102))
theorem Zq.mono : ∀ a0 a1 a2 k, LeO (Zq.f k a0 a1 a2) (Zq.f (k + 1) a0 a1 a2) := by
 intro a0 a1 a2 k; unfold Zq.f; repeat' first | (with_reducible exact Qk.mono _ _ _) | (with_reducible exact LeO.refl _) | (with_reducible exact LeO.none _) | (with_reducible refine LeO.ite ?_ ?_) | (with_reducible refine LeO.bind ?_ (fun _ => ?_)) | exact Qk.mono _ _ _ | exact LeO.none _ | refine LeO.ite ?_ ?_ | refine LeO.bind ?_ (fun _ => ?_)
set_option maxHeartbeats 8000000 in
set_option maxRecDepth 100000 in
theorem Zq.calls (k : Nat) (ak : Option Addr) (an : Nat) (ae : List (List Int)) (aj : Option Addr) (al : Nat) (af : List (List Int)) (A1 : Option Addr) (c1 : Nat) (l1 : List Int) (r : Int) (w : World) (aN : Kd.C (Kd.slice 3 (Kd.int .i64)) w ak ae.length ae) (aT : ae.length ≤ an) (aM : Kd.C (Kd.slice 3 (Kd.int .i64)) w aj af.length af) (aQ : af.length ≤ al) (hr1 : Kd.C (Kd.int .i64) w A1 l1.length l1) (hc1 : l1.length ≤ c1) (h : Zq.f k ae af l1 = some r) :
  Calls Try.prog 87 #[.agg #[.slice ak ae.length an, .slice aj af.length al], .slice A1 l1.length c1] w fun e w' => e = .returned (.int .i64 r) ∧ Below w.heap.size w w' := by
 have en := Try.underlying24; have aw := aa.mk aN; have az := aa.mk aT; clear aN aT; have ay := aa.mk aM; have aA := aa.mk aQ; clear aM aQ; have HR1 := aa.mk hr1; have HC1 := aa.mk hc1; clear hr1 hc1; have HB := aa.mk (Below.refl w.heap.size w); have H : ((Qk.f k ae af).bind fun t102 => (if t102 = 0 then ((QY.f ae af).bind fun t103 => ((Zo.f l1 t103 (-1000000) 1000000).bind fun t104 => (if t104 = true then (some 0) else (some 1)))) else (some t102))) = some r := h; clear h; replace H := Option.bind_eq_some_iff.mp H; obtain ⟨t102, A30, H⟩ := H; replace H : (if t102 = 0 then ((QY.f ae af).bind fun t103 => ((Zo.f l1 t103 (-1000000) 1000000).bind fun t104 => (if t104 = true then (some 0) else (some 1)))) else (some t102)) = some r := H; have A3 := aa.mk A30; clear A30; by_cases c4 : t102 = 0
 ·rw [if_pos c4] at H; have bE : (t102 == 0) = true := beq_iff_eq.mpr c4; have dO : (t102 != 0) = false := bne_eq_false_iff_eq.mpr c4; clear c4; replace H := Option.bind_eq_some_iff.mp H; obtain ⟨t103, A50, H⟩ := H; replace H : ((Zo.f l1 t103 (-1000000) 1000000).bind fun t104 => (if t104 = true then (some 0) else (some 1))) = some r := H; have A5 := aa.mk A50; clear A50; replace H := Option.bind_eq_some_iff.mp H; obtain ⟨t104, A60, H⟩ := H; replace H : (if t104 = true then (some 0) else (some 1)) = some r := H; have A6 := aa.mk A60; clear A60; by_cases c7 : t104 = true
  ·subst c7; have H1 : (some 0) = some r := by rw [if_pos rfl] at H; exact H
   clear H; have H := H1; clear H1; obtain rfl := Option.some.inj H; go_enter Try.func87, Try.ntmps87; go_wp2_with (first | ((with_reducible refine QO (N := 2) rfl ?_); refine Q4 ?hg (N := 2) ?hd (cs := #[.slice ak ae.length an, .slice aj af.length al]) (t := 24) ?hr ?_; (case hd => rfl); (case hg => rfl); (case hr => first | (go_simp; done) | (go_simp; rfl)); intro ag hg w8 hbox hb; have ab := aa.mk (hbox); have bo := aa.mk ((by rw [hg]; exact (Qc bB) : w.heap.size ≤ ag)); have aV := aa.mk ((by rw [hg]; exact (Qc bB) : w.heap.size ≤ ag)); replace HB := aa.mk (Qa bB hb); clear hb hbox hg; have oF : w8.cell? ⟨ag, 0, none⟩ = some (.slice ak ae.length an) := (Qd ab.out 0).trans rfl; have oE : w8.cell? ⟨ag, 1, none⟩ = some (.slice aj af.length al) := (Qd ab.out 1).trans rfl; have oD := Qb ab.out 0; have oC := Qb ab.out 1) | ((with_reducible refine Qg (f := 38) rfl ?_); refine QG (some 7) rfl rfl Try.func38 (by kernel_rfl) rfl #[.agg #[.slice ak ae.length an, .slice aj af.length al]] rfl hA ?_; (with_reducible refine (Qk.calls k _ _ ae _ _ af t102 _ ?ah ?ai ?aq ?ar A3.out).mono ?_); (case ah => exact (Kd.Qo aw.out HB.out)); (case ai => exact az.out); (case aq => exact (Kd.Qo ay.out HB.out)); (case ar => exact aA.out); rintro e w10 ⟨rfl, hb⟩; refine ⟨_, rfl, ?_⟩; replace ab := aa.mk (Qq ab.out hb); replace HB := aa.mk (Qa bB hb); (try clear hb); (try clear hb2); (try clear hk); (try clear hi); have cY : w10.cell? ⟨ag, 0, none⟩ = some (.slice ak ae.length an) := (Qd ab.out 0).trans rfl; have cX : w10.cell? ⟨ag, 1, none⟩ = some (.slice aj af.length al) := (Qd ab.out 1).trans rfl; have cU := Qb ab.out 0; have cT := Qb ab.out 1) | ((with_reducible refine Qg (f := 71) rfl ?_); refine QG (some 13) rfl rfl Try.func71 (by kernel_rfl) rfl #[.agg #[.slice ak ae.length an, .slice aj af.length al]] rfl hA ?_; (with_reducible refine (QY.calls _ _ ae _ _ af t103 _ ?ah ?ai ?aq ?ar A5.out).mono ?_); (case ah => exact (Kd.Qo aw.out HB.out)); (case ai => exact az.out); (case aq => exact (Kd.Qo ay.out HB.out)); (case ar => exact aA.out); rintro e w12 ⟨rfl, hb⟩; refine ⟨_, rfl, ?_⟩; replace ab := aa.mk (Qq ab.out hb); replace HB := aa.mk (Qa bB hb); (try clear hb); (try clear hb2); (try clear hk); (try clear hi)) | ((with_reducible refine Qg (f := 77) rfl ?_); refine QG (some 14) rfl rfl Try.func77 (by kernel_rfl) rfl #[.slice A1 l1.length c1, .int .i64 t103, .int .i64 (-1000000), .int .i64 1000000] rfl hA ?_; (with_reducible refine (Zo.calls _ _ l1 t103 (-1000000) 1000000 true _ ?ah ?ai A6.out).mono ?_); (case ah => exact (Kd.Qo HR1.out HB.out)); (case ai => exact HC1.out); rintro e w13 ⟨rfl, hb⟩; refine ⟨_, rfl, ?_⟩; replace ab := aa.mk (Qq ab.out hb); replace HB := aa.mk (Qa bB hb); (try clear hb); (try clear hb2); (try clear hk); (try clear hi)))
   go_ret; exact ⟨by first | rfl | (simp [Qj, Qi] <;> rfl) | (simp [*, Qj, Qi] <;> rfl), bB⟩
  ·replace c7 := Bool.eq_false_iff.mpr c7; subst c7; have H1 : (some 1) = some r := by rw [if_neg (show ¬ (false = true) by decide)] at H; exact H
   clear H; have H := H1; clear H1; obtain rfl := Option.some.inj H; go_enter Try.func87, Try.ntmps87; go_wp2_with (first | ((with_reducible refine QO (N := 2) rfl ?_); refine Q4 ?hg (N := 2) ?hd (cs := #[.slice ak ae.length an, .slice aj af.length al]) (t := 24) ?hr ?_; (case hd => rfl); (case hg => rfl); (case hr => first | (go_simp; done) | (go_simp; rfl)); intro ag hg w14 hbox hb; have ab := aa.mk (hbox); have bo := aa.mk ((by rw [hg]; exact (Qc bB) : w.heap.size ≤ ag)); have aV := aa.mk ((by rw [hg]; exact (Qc bB) : w.heap.size ≤ ag)); replace HB := aa.mk (Qa bB hb); clear hb hbox hg; have fL : w14.cell? ⟨ag, 0, none⟩ = some (.slice ak ae.length an) := (Qd ab.out 0).trans rfl; have fK : w14.cell? ⟨ag, 1, none⟩ = some (.slice aj af.length al) := (Qd ab.out 1).trans rfl; have fH := Qb ab.out 0; have fG := Qb ab.out 1) | ((with_reducible refine Qg (f := 38) rfl ?_); refine QG (some 7) rfl rfl Try.func38 (by kernel_rfl) rfl #[.agg #[.slice ak ae.length an, .slice aj af.length al]] rfl hA ?_; (with_reducible refine (Qk.calls k _ _ ae _ _ af t102 _ ?ah ?ai ?aq ?ar A3.out).mono ?_); (case ah => exact (Kd.Qo aw.out HB.out)); (case ai => exact az.out); (case aq => exact (Kd.Qo ay.out HB.out)); (case ar => exact aA.out); rintro e w16 ⟨rfl, hb⟩; refine ⟨_, rfl, ?_⟩; replace ab := aa.mk (Qq ab.out hb); replace HB := aa.mk (Qa bB hb); (try clear hb); (try clear hb2); (try clear hk); (try clear hi); have fJ : w16.cell? ⟨ag, 0, none⟩ = some (.slice ak ae.length an) := (Qd ab.out 0).trans rfl; have fI : w16.cell? ⟨ag, 1, none⟩ = some (.slice aj af.length al) := (Qd ab.out 1).trans rfl; have fF := Qb ab.out 0; have fE := Qb ab.out 1) | ((with_reducible refine Qg (f := 71) rfl ?_); refine QG (some 13) rfl rfl Try.func71 (by kernel_rfl) rfl #[.agg #[.slice ak ae.length an, .slice aj af.length al]] rfl hA ?_; (with_reducible refine (QY.calls _ _ ae _ _ af t103 _ ?ah ?ai ?aq ?ar A5.out).mono ?_); (case ah => exact (Kd.Qo aw.out HB.out)); (case ai => exact az.out); (case aq => exact (Kd.Qo ay.out HB.out)); (case ar => exact aA.out); rintro e w18 ⟨rfl, hb⟩; refine ⟨_, rfl, ?_⟩; replace ab := aa.mk (Qq ab.out hb); replace HB := aa.mk (Qa bB hb); (try clear hb); (try clear hb2); (try clear hk); (try clear hi)) | ((with_reducible refine Qg (f := 77) rfl ?_); refine QG (some 14) rfl rfl Try.func77 (by kernel_rfl) rfl #[.slice A1 l1.length c1, .int .i64 t103, .int .i64 (-1000000), .int .i64 1000000] rfl hA ?_; (with_reducible refine (Zo.calls _ _ l1 t103 (-1000000) 1000000 false _ ?ah ?ai A6.out).mono ?_); (case ah => exact (Kd.Qo HR1.out HB.out)); (case ai => exact HC1.out); rintro e w19 ⟨rfl, hb⟩; refine ⟨_, rfl, ?_⟩; replace ab := aa.mk (Qq ab.out hb); replace HB := aa.mk (Qa bB hb); (try clear hb); (try clear hb2); (try clear hk); (try clear hi)))
   go_ret; exact ⟨by first | rfl | (simp [Qj, Qi] <;> rfl) | (simp [*, Qj, Qi] <;> rfl), bB⟩
 ·rw [if_neg c4] at H; have bE : (t102 == 0) = false := beq_eq_false_iff_ne.mpr c4; have dO : (t102 != 0) = true := bne_iff_ne.mpr c4; obtain rfl := Option.some.inj H; go_enter Try.func87, Try.ntmps87; go_wp2_with (first | ((with_reducible refine QO (N := 2) rfl ?_); refine Q4 ?hg (N := 2) ?hd (cs := #[.slice ak ae.length an, .slice aj af.length al]) (t := 24) ?hr ?_; (case hd => rfl); (case hg => rfl); (case hr => first | (go_simp; done) | (go_simp; rfl)); intro ag hg w20 hbox hb; have ab := aa.mk (hbox); have bo := aa.mk ((by rw [hg]; exact (Qc bB) : w.heap.size ≤ ag)); have aV := aa.mk ((by rw [hg]; exact (Qc bB) : w.heap.size ≤ ag)); replace HB := aa.mk (Qa bB hb); clear hb hbox hg; have kV : w20.cell? ⟨ag, 0, none⟩ = some (.slice ak ae.length an) := (Qd ab.out 0).trans rfl; have kU : w20.cell? ⟨ag, 1, none⟩ = some (.slice aj af.length al) := (Qd ab.out 1).trans rfl; have kR := Qb ab.out 0; have kQ := Qb ab.out 1) | ((with_reducible refine Qg (f := 38) rfl ?_); refine QG (some 7) rfl rfl Try.func38 (by kernel_rfl) rfl #[.agg #[.slice ak ae.length an, .slice aj af.length al]] rfl hA ?_; (with_reducible refine (Qk.calls k _ _ ae _ _ af t102 _ ?ah ?ai ?aq ?ar A3.out).mono ?_); (case ah => exact (Kd.Qo aw.out HB.out)); (case ai => exact az.out); (case aq => exact (Kd.Qo ay.out HB.out)); (case ar => exact aA.out); rintro e w22 ⟨rfl, hb⟩; refine ⟨_, rfl, ?_⟩; replace ab := aa.mk (Qq ab.out hb); replace HB := aa.mk (Qa bB hb); (try clear hb); (try clear hb2); (try clear hk); (try clear hi)))
  go_ret; exact ⟨by first | rfl | (simp [Qj, Qi] <;> rfl) | (simp [*, Qj, Qi] <;> rfl), bB⟩
mutual
def Q3.l0 : Nat → List Int → List Int → List (List Int) → Int → Int → Option (List Int)
 | 0, _, _, _, _, _ => none
 | k + 1, x1, x5, x16, x17, x18 => if x18 < x17 then (if 0 ≤ x18 then (if x18 < (x16.length : Int) then (Q3.l1 k x1 x5 0 x16 x17 x18 (Qu x16 x18) ((Qu x16 x18).length : Int) 0) else (none)) else (none)) else (some x5)
def Q3.l1 : Nat → List Int → List Int → Int → List (List Int) → Int → Int → List Int → Int → Int → Option (List Int)
 | 0, _, _, _, _, _, _, _, _, _ => none
 | k + 1, x1, x5, x8, x16, x17, x18, x22, x23, x24 => if x24 < x23 then (if 0 ≤ x24 then (if x24 < (x22.length : Int) then (if x24 < (x1.length : Int) then (Q3.l1 k x1 x5 (wrap64 (x8 + (wrap64 ((rd x22 x24) * (rd x1 x24))))) x16 x17 x18 x22 x23 (wrap64 (x24 + 1))) else (none)) else (none)) else (none)) else (if x5.length < 17592186044416 then (Q3.l0 k x1 (x5 ++ [x8]) x16 x17 (wrap64 (x18 + 1))) else (none))
end
def Q3.f (k : Nat) (ae : List (List Int)) (af : List (List Int)) (l1 : List Int) : Option (List Int) := (Zm.f ae af).bind fun t102 => (Q3.l0 k l1 ([] : List Int) t102 (t102.length : Int) 0)
theorem Q3.ZP : ∀ k, (∀ y0 y1 y2 y3 y4, LeO (Q3.l0 k y0 y1 y2 y3 y4) (Q3.l0 (k + 1) y0 y1 y2 y3 y4)) ∧ (∀ y0 y1 y2 y3 y4 y5 y6 y7 y8, LeO (Q3.l1 k y0 y1 y2 y3 y4 y5 y6 y7 y8) (Q3.l1 (k + 1) y0 y1 y2 y3 y4 y5 y6 y7 y8))
 | 0 => ⟨fun _ _ _ _ _ r h => by simp [Q3.l0] at h, fun _ _ _ _ _ _ _ _ _ r h => by simp [Q3.l1] at h⟩
 | k + 1 => by
  obtain ⟨ih0, ih1⟩ := Q3.ZP k; refine ⟨?_, ?_⟩ <;> intros <;> (first | unfold Q3.l0 | unfold Q3.l1) <;> repeat' first | (with_reducible exact ih0 _ _ _ _ _) | (with_reducible exact ih1 _ _ _ _ _ _ _ _ _) | (with_reducible exact LeO.refl _) | (with_reducible exact LeO.none _) | (with_reducible refine LeO.ite ?_ ?_) | (with_reducible refine LeO.bind ?_ (fun _ => ?_)) | exact ih0 _ _ _ _ _ | exact ih1 _ _ _ _ _ _ _ _ _ | exact LeO.none _ | refine LeO.ite ?_ ?_ | refine LeO.bind ?_ (fun _ => ?_)
theorem Q3.mono : ∀ a0 a1 a2 k, LeO (Q3.f k a0 a1 a2) (Q3.f (k + 1) a0 a1 a2) := by
 intro a0 a1 a2 k; obtain ⟨ih0, ih1⟩ := Q3.ZP k; unfold Q3.f; repeat' first | (with_reducible exact ih0 _ _ _ _ _) | (with_reducible exact ih1 _ _ _ _ _ _ _ _ _) | (with_reducible exact LeO.refl _) | (with_reducible exact LeO.none _) | (with_reducible refine LeO.ite ?_ ?_) | (with_reducible refine LeO.bind ?_ (fun _ => ?_)) | exact ih0 _ _ _ _ _ | exact ih1 _ _ _ _ _ _ _ _ _ | exact LeO.none _ | refine LeO.ite ?_ ?_ | refine LeO.bind ?_ (fun _ => ?_)
set_option maxHeartbeats 8000000 in
set_option maxRecDepth 100000 in
theorem Q3.calls (k : Nat) (ak : Option Addr) (an : Nat) (ae : List (List Int)) (aj : Option Addr) (al : Nat) (af : List (List Int)) (A1 : Option Addr) (c1 : Nat) (l1 : List Int) (r : List Int) (w : World) (aN : Kd.C (Kd.slice 3 (Kd.int .i64)) w ak ae.length ae) (aT : ae.length ≤ an) (aM : Kd.C (Kd.slice 3 (Kd.int .i64)) w aj af.length af) (aQ : af.length ≤ al) (hr1 : Kd.C (Kd.int .i64) w A1 l1.length l1) (hc1 : l1.length ≤ c1) (h : Q3.f k ae af l1 = some r) :
  Calls Try.prog 86 #[.agg #[.slice ak ae.length an, .slice aj af.length al], .slice A1 l1.length c1] w fun e w' => ∃ v0_ : Value, e = .returned (v0_) ∧ Kd.R (Kd.int .i64) 3 w' w.heap.size (fun _ => True) v0_ r ∧ Below w.heap.size w w' := by
 have en := Try.underlying24; have aw := aa.mk aN; have az := aa.mk aT; clear aN aT; have ay := aa.mk aM; have aA := aa.mk aQ; clear aM aQ; have HR1 := aa.mk hr1; have HC1 := aa.mk hc1; clear hr1 hc1; have HB := aa.mk (Below.refl w.heap.size w); have H : ((Zm.f ae af).bind fun t102 => (Q3.l0 k l1 ([] : List Int) t102 (t102.length : Int) 0)) = some r := h; clear h; replace H := Option.bind_eq_some_iff.mp H; obtain ⟨t102, A30, H⟩ := H; replace H : (Q3.l0 k l1 ([] : List Int) t102 (t102.length : Int) 0) = some r := H; have A3 := aa.mk A30; clear A30; have H' := aa.mk H; clear H; go_enter Try.func86, Try.ntmps86; go_wp2_with (first | ((with_reducible refine QO (N := 2) rfl ?_); refine Q4 ?hg (N := 2) ?hd (cs := #[.slice ak ae.length an, .slice aj af.length al]) (t := 24) ?hr ?_; (case hd => rfl); (case hg => rfl); (case hr => first | (go_simp; done) | (go_simp; rfl)); intro ag hg w4 hbox hb; have ab := aa.mk (hbox); have bo := aa.mk ((by rw [hg]; exact (Qc bB) : w.heap.size ≤ ag)); have aV := aa.mk ((by rw [hg]; exact (Qc bB) : w.heap.size ≤ ag)); replace HB := aa.mk (Qa bB hb); clear hb hbox hg; have gF : w4.cell? ⟨ag, 0, none⟩ = some (.slice ak ae.length an) := (Qd ab.out 0).trans rfl; have gE : w4.cell? ⟨ag, 1, none⟩ = some (.slice aj af.length al) := (Qd ab.out 1).trans rfl; have gD := Qb ab.out 0; have gC := Qb ab.out 1) | ((with_reducible refine QO (N := 15) rfl ?_); refine Two.build ?hg (N := 15) ?hd (v0 := .slice ak ae.length an) (v1 := .slice aj af.length al) ?hr ?_; (case hd => rfl); (case hg => rfl); (case hr => first | (go_simp; done) | (go_simp; rfl)); intro gq hgq wq hqb hqbel; replace HB := aa.mk (Qa bB hqbel); replace ab := aa.mk (Qq ab.out hqbel); have BQ := aa.mk hqb; clear hqb hqbel hgq) | ((with_reducible refine Qg (f := 76) rfl ?_); refine QG (some 16) rfl rfl Try.func76 (by kernel_rfl) rfl #[.slice (some ⟨gq, 0, none⟩) 2 2] rfl hA ?_; (with_reducible refine (Zm.calls (fun k_ => k_ < w.heap.size) _ _ ae (fun k_ => k_ < w.heap.size) _ _ af t102 _ _ BQ.out ?ah ?ai A3.out).mono ?_); (case ah => exact Kd.V_mk az.out (Kd.Yr (Kd.C_F (Kd.Yf 3 (Kd.Yv .i64)) aw.out) bB)); (case ai => exact Kd.V_mk aA.out (Kd.Yr (Kd.C_F (Kd.Yf 3 (Kd.Yv .i64)) ay.out) bB)); rintro e w6 ⟨iI, rfl, ho0, hb⟩; refine ⟨_, rfl, ?_⟩; have a8 := aa.mk (Kd.Yj (Kd.Ya (ok' := fun k_ => k_ ≠ ag) ho0 (fun k_ hk_ => Or.elim hk_ (fun hs_ => Or.elim hs_ (fun hs_ => fun e_ => Nat.not_le.2 hs_ (by rw [e_]; exact bo.out)) (fun hs_ => fun e_ => Nat.not_le.2 hs_ (by rw [e_]; exact bo.out))) (fun hn_ => (Kd.freshB (g := ag) (o := .cells #[.slice ak ae.length an, .slice aj af.length al] 24 (0, 0)) (by (with_reducible repeat (first | refine QC ?_ _ | refine QE ?_ | refine Qz ?_ _)); exact ab.out) k_ hn_)))) (Qc bB)); replace ab := aa.mk (Qq ab.out hb); replace HB := aa.mk (Qa bB hb); (try clear hb); (try clear hb2); (try clear hk); (try clear hi); (try clear ho0); obtain ⟨Ao7, co7, eo7⟩ := Kd.Yb a8.out; subst eo7))
 go_loopg [5, 18] k (fun kq v5 v18 w' => ∃ (ao : List Int) (cf : Int), v18 = .int .i64 cf ∧ aa (Q3.l0 kq l1 ao t102 (t102.length : Int) cf = some r) ∧ aa (kq ≤ k) ∧ aa (Kd.R (Kd.int .i64) 3 w' w.heap.size (fun _ => True) v5 ao) ∧ aa (Kd.N (Kd.slice 3 (Kd.int .i64)) 28 w' w.heap.size (fun k_ => some k_ ≠ (v5 : Value).ownBlock ∧ k_ ≠ ag) (.slice Ao7 t102.length co7) t102) ∧ aa (w'.heap[ag]? = some (.cells #[(.slice ak ae.length an), (.slice aj af.length al)] 24 (0, 0))) ∧ aa (Below w.heap.size w w'))
 case atStart => exact ⟨(([] : List Int)), (0), (by first | rfl | (simp; done) | (simp [*]; done)), H', ⟨Nat.le_refl _⟩, ⟨by first | exact Kd.Yg _ _ _ _ _ | exact Kd.Yp _ _ _ _ _ | exact Kd.V_nil _ _ _ _ _ | exact Kd.Q_nil _ _ _ _ _ | exact Kd.Ys _ _ _ _ _⟩, ⟨by (with_reducible repeat (first | apply Kd.N_alloc | apply Kd.Ye | apply Kd.Yn)); exact Kd.Ya a8.out (fun _ hk => ⟨(by simp [Value.ownBlock]), hk⟩)⟩, ⟨by (with_reducible repeat (first | refine QC ?_ _ | refine QE ?_ | refine Qz ?_ _)); exact ab.out⟩, ⟨bB⟩⟩
 case round =>
  clear H'; try clear c1
  try clear p2
  try clear c7
  try clear gF
  try clear gE
  try clear gD
  try clear gC
  obtain ⟨ao, cf, rfl, HA, HK1, bj, iE, ab, HB⟩ := hrel; cases gk with
  | zero => exact absurd HA.out (by simp [Q3.l0])
  | succ k1 =>
   have H := HA.out; clear HA; simp only [Q3.l0] at H; by_cases c8 : cf < (t102.length : Int)
   ·rw [if_pos c8] at H; have dQ : decide (cf < (t102.length : Int)) = true := decide_eq_true c8; clear c8; by_cases c9 : 0 ≤ cf
    ·rw [if_pos c9] at H; have eU : decide (0 ≤ cf) = true := decide_eq_true c9; clear c9; by_cases c10 : cf < (t102.length : Int)
     ·rw [if_pos c10] at H; have fq : decide (cf < (t102.length : Int)) = true := decide_eq_true c10; clear c10; have H' := aa.mk H; clear H; have cu : 0 ≤ (cf : Int) := of_decide_eq_true (by assumption); have cn : cf < (t102.length : Int) := of_decide_eq_true (by assumption); obtain ⟨fV, pJ, tA, fP, bN, iu, iy⟩ := ZO (Kd.Zi iE.out).2.2 cf cu cn; cases fP; obtain ⟨zU, sM, sT, oI⟩ := Kd.Y2 iE.out [] cf cu (by first | exact cn | exact of_decide_eq_true (by assumption) | (have e_ := (Kd.Zi iE.out).1; omega)); obtain ⟨wy, wm, rfl, kC, k5⟩ := Kd.Zs sT; have jw := oI 0 _ rfl; rw [Nat.add_zero, show ((Kd.slice 3 (Kd.int .i64))).sz = 1 from rfl, Nat.mul_one] at jw; replace jw := Option.some.inj (jw.symm.trans bN); injection jw with hva_ hvn_ hvc_
      rw [hva_] at k5; rw [hvc_] at kC; have xJ := aa.mk (show Kd.V (Kd.int .i64) 3 _ w.heap.size _ _ (Qu t102 cf) from Kd.V_mk kC k5); clear hva_ hvn_ hvc_ k5 kC; clear oI sM; have fc := aa.mk iy; have qY := aa.mk iu; clear iy iu; replace cu := eq_true cu; replace cn := eq_true cn; go_wp2; go_loopg [8, 24] k1 (fun kq v8 v24 w' => ∃ (bs : Int) (dd : Int), v8 = .int .i64 bs ∧ v24 = .int .i64 dd ∧ aa (Q3.l1 kq l1 ao bs t102 (t102.length : Int) cf (Qu t102 cf) ((Qu t102 cf).length : Int) dd = some r) ∧ aa (kq ≤ k1) ∧ aa (Kd.R (Kd.int .i64) 3 w' w.heap.size (fun _ => True) u5 ao) ∧ aa (Kd.N (Kd.slice 3 (Kd.int .i64)) 28 w' w.heap.size (fun k_ => some k_ ≠ (u5 : Value).ownBlock ∧ k_ ≠ ag) (.slice (some fV) t102.length co7) t102) ∧ aa (w'.heap[ag]? = some (.cells #[(.slice ak ae.length an), (.slice aj af.length al)] 24 (0, 0))) ∧ aa (Kd.C (Kd.int .i64) w' pJ (Qu t102 cf).length (Qu t102 cf)) ∧ aa (Below w.heap.size w w'))
      case atStart => exact ⟨(0), (0), (by first | rfl | (simp; done) | (simp [*]; done)), (by first | rfl | (simp; done) | (simp [*]; done)), H', ⟨Nat.le_refl _⟩, ⟨by (with_reducible repeat (first | apply Kd.R_alloc | apply Kd.QI | apply Kd.QN)); exact bj.out⟩, ⟨by (with_reducible repeat (first | apply Kd.N_alloc | apply Kd.Ye | apply Kd.Yn)); exact iE.out⟩, ⟨by (with_reducible repeat (first | refine QC ?_ _ | refine QE ?_ | refine Qz ?_ _)); exact ab.out⟩, ⟨by repeat (first | (with_reducible exact fc.out) | (with_reducible refine Kd.C_alloc ?_ _) | (with_reducible refine Kd.ZM ?_ _) | (with_reducible refine Kd.C_drew ?_) | exact fc.out)⟩, ⟨bB⟩⟩
      case round =>
       clear H'; try clear c1
       try clear p1
       try clear q1
       try clear hx1
       try clear p2
       try clear c7
       try clear c8
       try clear dQ
       try clear c9
       try clear eU
       try clear c10
       try clear fq
       try clear p10
       try clear q10
       try clear hZ
       try clear gF
       try clear gE
       try clear gD
       try clear gC
       try clear bN
       try clear cu
       try clear p2
       try clear cn
       obtain ⟨bs, dd, rfl, rfl, HA, HK2, bj, iE, ab, fc, HB⟩ := hrel; cases gk with
       | zero => exact absurd HA.out (by simp [Q3.l1])
       | succ k2 =>
        have H := HA.out; clear HA; simp only [Q3.l1] at H; by_cases c11 : dd < ((Qu t102 cf).length : Int)
        ·rw [if_pos c11] at H; have fp : decide (dd < ((Qu t102 cf).length : Int)) = true := decide_eq_true c11; clear c11; by_cases c12 : 0 ≤ dd
         ·rw [if_pos c12] at H; have eO : decide (0 ≤ dd) = true := decide_eq_true c12; clear c12; by_cases c13 : dd < ((Qu t102 cf).length : Int)
          ·rw [if_pos c13] at H; have ks : decide (dd < ((Qu t102 cf).length : Int)) = true := decide_eq_true c13; clear c13; by_cases c14 : dd < (l1.length : Int)
           ·rw [if_pos c14] at H; have gJ : decide (dd < (l1.length : Int)) = true := decide_eq_true c14; clear c14; have H' := aa.mk H; clear H; have dh : 0 ≤ (dd : Int) := of_decide_eq_true (by assumption); have dg : dd < ((Qu t102 cf).length : Int) := of_decide_eq_true (by assumption); obtain ⟨j8, iR, bc⟩ := Kd.Zh fc.out dd dh dg; cases iR; replace bc := by first | exact (HB.out.cell (World.block_lt_of_cell? w _ bc)).trans bc | exact bc
            replace dh := eq_true dh; replace dg := eq_true dg; have lA : 0 ≤ (dd : Int) := of_decide_eq_true (by assumption); have lz : dd < (l1.length : Int) := of_decide_eq_true (by assumption); obtain ⟨g9, tp, gR⟩ := Kd.Zh HR1.out dd lA lz; cases tp; replace gR := by first | exact (HB.out.cell (World.block_lt_of_cell? w _ gR)).trans gR | exact gR
            replace lA := eq_true lA; replace lz := eq_true lz; go_wp2; go_roundg k2
            case measure => have := HK1.out; have := HK2.out; omega
            case rel => exact ⟨(wrap64 (bs + (wrap64 ((rd (Qu t102 cf) dd) * (rd l1 dd))))), (wrap64 (dd + 1)), (by first | rfl | (simp; done) | (simp [*]; done)), (by first | rfl | (simp; done) | (simp [*]; done)), H', ⟨by have := HK1.out; have := HK2.out; omega⟩, ⟨by (with_reducible repeat (first | apply Kd.R_alloc | apply Kd.QI | apply Kd.QN)); exact bj.out⟩, ⟨by (with_reducible repeat (first | apply Kd.N_alloc | apply Kd.Ye | apply Kd.Yn)); exact iE.out⟩, ⟨by (with_reducible repeat (first | refine QC ?_ _ | refine QE ?_ | refine Qz ?_ _)); exact ab.out⟩, ⟨by repeat (first | (with_reducible exact fc.out) | (with_reducible refine Kd.C_alloc ?_ _) | (with_reducible refine Kd.ZM ?_ _) | (with_reducible refine Kd.C_drew ?_) | exact fc.out)⟩, ⟨bB⟩⟩
           ·rw [if_neg c14] at H; exact absurd H (by simp)
          ·rw [if_neg c13] at H; exact absurd H (by simp)
         ·rw [if_neg c12] at H; exact absurd H (by simp)
        ·rw [if_neg c11] at H; have fp : decide (dd < ((Qu t102 cf).length : Int)) = false := decide_eq_false c11; clear c11; by_cases c15 : ao.length < 17592186044416
         ·rw [if_pos c15] at H; have pq := aa.mk c15; clear c15; obtain ⟨dn, eb⟩ : ∃ y_ : List Int, y_ = (ao ++ [bs]) := ⟨_, rfl⟩; replace H : (Q3.l0 k2 l1 dn t102 (t102.length : Int) (wrap64 (cf + 1))) = some r := by first | (rw [eb]; with_reducible exact H) | (have H2_ := (Option.bind_some _ _).symm.trans H; rw [eb]; with_reducible exact H2_) | (have H2_ := (Option.bind_some _ _).symm.trans H; with_reducible exact H2_) | with_reducible exact H | (rw [eb]; exact H) | exact H
          have iA := aa.mk eb; clear eb; have H' := aa.mk H; clear H; go_wp2_with (first | ((with_reducible refine Zr (b := .append) (xs := #[.tmp 38, .tmp 40]) rfl ?_); at_builtin; refine Kd.Ym (Kd.int .i64) (w0 := w) w.heap.size rfl (.tmp 38) (.tmp 40) 28 3 (.int .i64 0) 8 rfl Try.underlying28 info3 rfl (by decide) (by omega) u5 ao bs [.int .i64 bs] (fun _ => True) (fun _ => False) rfl rfl ?aP (fun _ hk => hk.elim) ?aF ?aO ?aB ?aS ?aL ?_; (case aP => exact rfl); (case aB => exact bB); (case aF => exact (fun _ _ => trivial)); (case aO => exact bj.out); (case aS => exact (Qc bB)); (case aL => have := pq.out; omega); intro kp w16 ho hb hg hat; rw [← iA.out] at ho; replace iE := aa.mk (Kd.UX (ok := (fun k_ => k_ ≠ ag)) (by (with_reducible repeat (first | apply Kd.N_alloc | apply Kd.Ye | apply Kd.Yn)); exact Kd.Ya iE.out (fun _ hk => ⟨hk.2, hk.1⟩)) hg hat); replace ab := aa.mk (Yl (g := ag) (o := .cells #[.slice ak ae.length an, .slice aj af.length al] 24 (0, 0)) (by (with_reducible repeat (first | refine QC ?_ _ | refine QE ?_ | refine Qz ?_ _)); exact ab.out) hg (Kd.R_ne bj.out ab.out (by decide))); replace HB := aa.mk (hb); have cv := aa.mk (ho); clear bj; clear ho hb hg hat))
          go_roundg k2
          case measure => have := HK1.out; have := HK2.out; omega
          case rel => exact ⟨(dn), (wrap64 (cf + 1)), (by first | rfl | (simp; done) | (simp [*]; done)), H', ⟨by have := HK1.out; have := HK2.out; omega⟩, ⟨by (with_reducible repeat (first | apply Kd.R_alloc | apply Kd.QI | apply Kd.QN)); exact cv.out⟩, ⟨by (with_reducible repeat (first | apply Kd.N_alloc | apply Kd.Ye | apply Kd.Yn)); exact Kd.Ya iE.out (fun _ hk => ⟨hk.2, hk.1⟩)⟩, ⟨by (with_reducible repeat (first | refine QC ?_ _ | refine QE ?_ | refine Qz ?_ _)); exact ab.out⟩, ⟨bB⟩⟩
         ·rw [if_neg c15] at H; exact absurd H (by simp)
     ·rw [if_neg c10] at H; exact absurd H (by simp)
    ·rw [if_neg c9] at H; exact absurd H (by simp)
   ·rw [if_neg c8] at H; have dQ : decide (cf < (t102.length : Int)) = false := decide_eq_false c8; clear c8; obtain rfl := Option.some.inj H; go_wp2; go_ret; exact ⟨_, by first | rfl | (simp [Qj, Qi] <;> rfl) | (simp [*, Qj, Qi] <;> rfl), by (with_reducible repeat (first | apply Kd.R_alloc | apply Kd.QI | apply Kd.QN)); exact bj.out, bB⟩
def QZ.l0 : Nat → Bool → List Int → Int → Int → List (List Int) → List (List Int) → Option (Bool)
 | 0, _, _, _, _, _, _ => none
 | k + 1, x5, x10, x11, x12, au, av => if x12 < x11 then (if 0 ≤ x12 then (if x12 < (x10.length : Int) then (if x12 ≥ (au.length : Int) then (if (wrap64 (-(rd x10 x12))) < 0 then (some false) else (if x5 = true then (QZ.l0 k true x10 x11 (wrap64 (x12 + 1)) au av) else (QZ.l0 k (decide ((wrap64 (-(rd x10 x12))) > 0)) x10 x11 (wrap64 (x12 + 1)) au av))) else (if (rd x10 x12) < 0 then (some false) else (if x5 = true then (QZ.l0 k true x10 x11 (wrap64 (x12 + 1)) au av) else (QZ.l0 k (decide ((rd x10 x12) > 0)) x10 x11 (wrap64 (x12 + 1)) au av)))) else (none)) else (none)) else (some x5)
def QZ.f (k : Nat) (ae : List (List Int)) (af : List (List Int)) (l1 : List Int) : Option (Bool) := (Q3.f k ae af l1).bind fun t102 => (QZ.l0 k false t102 (t102.length : Int) 0 ae af)
theorem QZ.ZP : ∀ k, (∀ y0 y1 y2 y3 y4 y5, LeO (QZ.l0 k y0 y1 y2 y3 y4 y5) (QZ.l0 (k + 1) y0 y1 y2 y3 y4 y5))
 | 0 => fun _ _ _ _ _ _ r h => by simp [QZ.l0] at h
 | k + 1 => by
  have ih0 := QZ.ZP k
  ·intro y0 y1 y2 y3 y4 y5; unfold QZ.l0; repeat' first | (with_reducible exact ih0 _ _ _ _ _ _) | (with_reducible exact Q3.mono _ _ _ _) | (with_reducible exact LeO.refl _) | (with_reducible exact LeO.none _) | (with_reducible refine LeO.ite ?_ ?_) | (with_reducible refine LeO.bind ?_ (fun _ => ?_)) | exact ih0 _ _ _ _ _ _ | exact Q3.mono _ _ _ _ | exact LeO.none _ | refine LeO.ite ?_ ?_ | refine LeO.bind ?_ (fun _ => ?_)
theorem QZ.mono : ∀ a0 a1 a2 k, LeO (QZ.f k a0 a1 a2) (QZ.f (k + 1) a0 a1 a2) := by
 intro a0 a1 a2 k; have ih0 := QZ.ZP k; unfold QZ.f; repeat' first | (with_reducible exact ih0 _ _ _ _ _ _) | (with_reducible exact Q3.mono _ _ _ _) | (with_reducible exact LeO.refl _) | (with_reducible exact LeO.none _) | (with_reducible refine LeO.ite ?_ ?_) | (with_reducible refine LeO.bind ?_ (fun _ => ?_)) | exact ih0 _ _ _ _ _ _ | exact Q3.mono _ _ _ _ | exact LeO.none _ | refine LeO.ite ?_ ?_ | refine LeO.bind ?_ (fun _ => ?_)
set_option maxHeartbeats 8000000 in
set_option maxRecDepth 100000 in
theorem QZ.calls (k : Nat) (ak : Option Addr) (an : Nat) (ae : List (List Int)) (aj : Option Addr) (al : Nat) (af : List (List Int)) (A1 : Option Addr) (c1 : Nat) (l1 : List Int) (r : Bool) (w : World) (aN : Kd.C (Kd.slice 3 (Kd.int .i64)) w ak ae.length ae) (aT : ae.length ≤ an) (aM : Kd.C (Kd.slice 3 (Kd.int .i64)) w aj af.length af) (aQ : af.length ≤ al) (hr1 : Kd.C (Kd.int .i64) w A1 l1.length l1) (hc1 : l1.length ≤ c1) (h : QZ.f k ae af l1 = some r) :
  Calls Try.prog 83 #[.agg #[.slice ak ae.length an, .slice aj af.length al], .slice A1 l1.length c1] w fun e w' => e = .returned (.bool r) ∧ Below w.heap.size w w' := by
 have en := Try.underlying24; have aw := aa.mk aN; have az := aa.mk aT; clear aN aT; have ay := aa.mk aM; have aA := aa.mk aQ; clear aM aQ; have HR1 := aa.mk hr1; have HC1 := aa.mk hc1; clear hr1 hc1; have HB := aa.mk (Below.refl w.heap.size w); have H : ((Q3.f k ae af l1).bind fun t102 => (QZ.l0 k false t102 (t102.length : Int) 0 ae af)) = some r := h; clear h; replace H := Option.bind_eq_some_iff.mp H; obtain ⟨t102, A30, H⟩ := H; replace H : (QZ.l0 k false t102 (t102.length : Int) 0 ae af) = some r := H; have A3 := aa.mk A30; clear A30; have H' := aa.mk H; clear H; go_enter Try.func83, Try.ntmps83; go_wp2_with (first | ((with_reducible refine QO (N := 2) rfl ?_); refine Q4 ?hg (N := 2) ?hd (cs := #[.slice ak ae.length an, .slice aj af.length al]) (t := 24) ?hr ?_; (case hd => rfl); (case hg => rfl); (case hr => first | (go_simp; done) | (go_simp; rfl)); intro ag hg w4 hbox hb; have ab := aa.mk (hbox); have bo := aa.mk ((by rw [hg]; exact (Qc bB) : w.heap.size ≤ ag)); have aV := aa.mk ((by rw [hg]; exact (Qc bB) : w.heap.size ≤ ag)); replace HB := aa.mk (Qa bB hb); clear hb hbox hg; have gF : w4.cell? ⟨ag, 0, none⟩ = some (.slice ak ae.length an) := (Qd ab.out 0).trans rfl; have gE : w4.cell? ⟨ag, 1, none⟩ = some (.slice aj af.length al) := (Qd ab.out 1).trans rfl; have gD := Qb ab.out 0; have gC := Qb ab.out 1) | ((with_reducible refine Qg (f := 86) rfl ?_); refine QG (some 10) rfl rfl Try.func86 (by kernel_rfl) rfl #[.agg #[.slice ak ae.length an, .slice aj af.length al], .slice A1 l1.length c1] rfl hA ?_; (with_reducible refine (Q3.calls k _ _ ae _ _ af _ _ l1 t102 _ ?ah ?ai ?aq ?ar ?bh ?bg A3.out).mono ?_); (case ah => exact (Kd.Qo aw.out HB.out)); (case ai => exact az.out); (case aq => exact (Kd.Qo ay.out HB.out)); (case ar => exact aA.out); (case bh => exact (Kd.Qo HR1.out HB.out)); (case bg => exact HC1.out); rintro e w6 ⟨iI, rfl, ho0, hb⟩; refine ⟨_, rfl, ?_⟩; have a8 := aa.mk (Kd.Zg ho0 (Qc bB)); replace ab := aa.mk (Qq ab.out hb); replace HB := aa.mk (Qa bB hb); (try clear hb); (try clear hb2); (try clear hk); (try clear hi); (try clear ho0); obtain ⟨Ao7, co7, eo7⟩ := Kd.Zc a8.out; subst eo7))
 go_loopg [5, 12] k (fun kq v5 v12 w' => ∃ (ao : Bool) (bl : Int), v5 = .bool ao ∧ v12 = .int .i64 bl ∧ aa (QZ.l0 kq ao t102 (t102.length : Int) bl ae af = some r) ∧ aa (kq ≤ k) ∧ aa (Kd.R (Kd.int .i64) 3 w' w.heap.size (fun _ => True) (.slice Ao7 t102.length co7) t102) ∧ aa (w'.heap[ag]? = some (.cells #[(.slice ak ae.length an), (.slice aj af.length al)] 24 (0, 0))) ∧ aa (Below w.heap.size w w'))
 case atStart => exact ⟨(false), (0), (by first | rfl | (simp; done) | (simp [*]; done)), (by first | rfl | (simp; done) | (simp [*]; done)), H', ⟨Nat.le_refl _⟩, ⟨by (with_reducible repeat (first | apply Kd.R_alloc | apply Kd.QI | apply Kd.QN)); exact a8.out⟩, ⟨by (with_reducible repeat (first | refine QC ?_ _ | refine QE ?_ | refine Qz ?_ _)); exact ab.out⟩, ⟨bB⟩⟩
 case round =>
  clear H'; try clear c1
  try clear p2
  try clear gF
  try clear gE
  try clear gD
  try clear gC
  obtain ⟨ao, bl, rfl, rfl, HA, HK1, bO, ab, HB⟩ := hrel; cases gk with
  | zero => exact absurd HA.out (by simp [QZ.l0])
  | succ k1 =>
   have H := HA.out; clear HA; simp only [QZ.l0] at H; by_cases c8 : bl < (t102.length : Int)
   ·rw [if_pos c8] at H; have dQ : decide (bl < (t102.length : Int)) = true := decide_eq_true c8; clear c8; by_cases c9 : 0 ≤ bl
    ·rw [if_pos c9] at H; have eU : decide (0 ≤ bl) = true := decide_eq_true c9; clear c9; by_cases c10 : bl < (t102.length : Int)
     ·rw [if_pos c10] at H; have fq : decide (bl < (t102.length : Int)) = true := decide_eq_true c10; clear c10; by_cases c11 : bl ≥ (ae.length : Int)
      ·rw [if_pos c11] at H; have fp : decide ((ae.length : Int) ≤ bl) = true := decide_eq_true c11; clear c11; by_cases c12 : (wrap64 (-(rd t102 bl))) < 0
       ·rw [if_pos c12] at H; have eO : decide ((wrap64 (-(rd t102 bl))) < 0) = true := decide_eq_true c12; clear c12; obtain rfl := Option.some.inj H; have cu : 0 ≤ (bl : Int) := of_decide_eq_true (by assumption); have cn : bl < (t102.length : Int) := of_decide_eq_true (by assumption); obtain ⟨fV, fP, bN⟩ := Kd.Zh (Kd.QA bO.out).2.2 bl cu cn; cases fP; replace cu := eq_true cu; replace cn := eq_true cn; have dH : wr.cell? ⟨ag, 0, none⟩ = some (.slice ak ae.length an) := (Qd ab.out 0).trans rfl; have dG : wr.cell? ⟨ag, 1, none⟩ = some (.slice aj af.length al) := (Qd ab.out 1).trans rfl; have dF := Qb ab.out 0; have dE := Qb ab.out 1; go_wp2; go_ret; exact ⟨by first | rfl | (simp [Qj, Qi] <;> rfl) | (simp [*, Qj, Qi] <;> rfl), bB⟩
       ·rw [if_neg c12] at H; have eO : decide ((wrap64 (-(rd t102 bl))) < 0) = false := decide_eq_false c12; clear c12; by_cases c14 : ao = true
        ·subst c14; have H1 : (QZ.l0 k1 true t102 (t102.length : Int) (wrap64 (bl + 1)) ae af) = some r := by rw [if_pos rfl] at H; exact H
         clear H; have H := H1; clear H1; have H' := aa.mk H; clear H; have cu : 0 ≤ (bl : Int) := of_decide_eq_true (by assumption); have cn : bl < (t102.length : Int) := of_decide_eq_true (by assumption); obtain ⟨fV, fP, bN⟩ := Kd.Zh (Kd.QA bO.out).2.2 bl cu cn; cases fP; replace cu := eq_true cu; replace cn := eq_true cn; have fL : wr.cell? ⟨ag, 0, none⟩ = some (.slice ak ae.length an) := (Qd ab.out 0).trans rfl; have fK : wr.cell? ⟨ag, 1, none⟩ = some (.slice aj af.length al) := (Qd ab.out 1).trans rfl; have fH := Qb ab.out 0; have fG := Qb ab.out 1; go_wp2; go_roundg k1
         case measure => have := HK1.out; omega
         case rel => exact ⟨(true), (wrap64 (bl + 1)), (by first | rfl | (simp; done) | (simp [*]; done)), (by first | rfl | (simp; done) | (simp [*]; done)), H', ⟨by have := HK1.out; omega⟩, ⟨by (with_reducible repeat (first | apply Kd.R_alloc | apply Kd.QI | apply Kd.QN)); exact bO.out⟩, ⟨by (with_reducible repeat (first | refine QC ?_ _ | refine QE ?_ | refine Qz ?_ _)); exact ab.out⟩, ⟨bB⟩⟩
        ·replace c14 := Bool.eq_false_iff.mpr c14; subst c14; have H1 : (QZ.l0 k1 (decide ((wrap64 (-(rd t102 bl))) > 0)) t102 (t102.length : Int) (wrap64 (bl + 1)) ae af) = some r := by rw [if_neg (show ¬ (false = true) by decide)] at H; exact H
         clear H; have H := H1; clear H1; have H' := aa.mk H; clear H; have cu : 0 ≤ (bl : Int) := of_decide_eq_true (by assumption); have cn : bl < (t102.length : Int) := of_decide_eq_true (by assumption); obtain ⟨fV, fP, bN⟩ := Kd.Zh (Kd.QA bO.out).2.2 bl cu cn; cases fP; replace cu := eq_true cu; replace cn := eq_true cn; have jN : wr.cell? ⟨ag, 0, none⟩ = some (.slice ak ae.length an) := (Qd ab.out 0).trans rfl; have jM : wr.cell? ⟨ag, 1, none⟩ = some (.slice aj af.length al) := (Qd ab.out 1).trans rfl; have jH := Qb ab.out 0; have jG := Qb ab.out 1; go_wp2; go_roundg k1
         case measure => have := HK1.out; omega
         case rel => exact ⟨(decide ((wrap64 (-(rd t102 bl))) > 0)), (wrap64 (bl + 1)), (by first | rfl | (simp; done) | (simp [*]; done)), (by first | rfl | (simp; done) | (simp [*]; done)), H', ⟨by have := HK1.out; omega⟩, ⟨by (with_reducible repeat (first | apply Kd.R_alloc | apply Kd.QI | apply Kd.QN)); exact bO.out⟩, ⟨by (with_reducible repeat (first | refine QC ?_ _ | refine QE ?_ | refine Qz ?_ _)); exact ab.out⟩, ⟨bB⟩⟩
      ·rw [if_neg c11] at H; have fp : decide ((ae.length : Int) ≤ bl) = false := decide_eq_false c11; clear c11; by_cases c17 : (rd t102 bl) < 0
       ·rw [if_pos c17] at H; have fT : decide ((rd t102 bl) < 0) = true := decide_eq_true c17; clear c17; obtain rfl := Option.some.inj H; have cu : 0 ≤ (bl : Int) := of_decide_eq_true (by assumption); have cn : bl < (t102.length : Int) := of_decide_eq_true (by assumption); obtain ⟨fV, fP, bN⟩ := Kd.Zh (Kd.QA bO.out).2.2 bl cu cn; cases fP; replace cu := eq_true cu; replace cn := eq_true cn; have kX : wr.cell? ⟨ag, 0, none⟩ = some (.slice ak ae.length an) := (Qd ab.out 0).trans rfl; have kW : wr.cell? ⟨ag, 1, none⟩ = some (.slice aj af.length al) := (Qd ab.out 1).trans rfl; have kT := Qb ab.out 0; have kS := Qb ab.out 1; go_wp2; go_ret; exact ⟨by first | rfl | (simp [Qj, Qi] <;> rfl) | (simp [*, Qj, Qi] <;> rfl), bB⟩
       ·rw [if_neg c17] at H; have fT : decide ((rd t102 bl) < 0) = false := decide_eq_false c17; clear c17; by_cases c19 : ao = true
        ·subst c19; have H1 : (QZ.l0 k1 true t102 (t102.length : Int) (wrap64 (bl + 1)) ae af) = some r := by rw [if_pos rfl] at H; exact H
         clear H; have H := H1; clear H1; have H' := aa.mk H; clear H; have cu : 0 ≤ (bl : Int) := of_decide_eq_true (by assumption); have cn : bl < (t102.length : Int) := of_decide_eq_true (by assumption); obtain ⟨fV, fP, bN⟩ := Kd.Zh (Kd.QA bO.out).2.2 bl cu cn; cases fP; replace cu := eq_true cu; replace cn := eq_true cn; have qz : wr.cell? ⟨ag, 0, none⟩ = some (.slice ak ae.length an) := (Qd ab.out 0).trans rfl; have qy : wr.cell? ⟨ag, 1, none⟩ = some (.slice aj af.length al) := (Qd ab.out 1).trans rfl; have qg := Qb ab.out 0; have qf := Qb ab.out 1; go_wp2; go_roundg k1
         case measure => have := HK1.out; omega
         case rel => exact ⟨(true), (wrap64 (bl + 1)), (by first | rfl | (simp; done) | (simp [*]; done)), (by first | rfl | (simp; done) | (simp [*]; done)), H', ⟨by have := HK1.out; omega⟩, ⟨by (with_reducible repeat (first | apply Kd.R_alloc | apply Kd.QI | apply Kd.QN)); exact bO.out⟩, ⟨by (with_reducible repeat (first | refine QC ?_ _ | refine QE ?_ | refine Qz ?_ _)); exact ab.out⟩, ⟨bB⟩⟩
        ·replace c19 := Bool.eq_false_iff.mpr c19; subst c19; have H1 : (QZ.l0 k1 (decide ((rd t102 bl) > 0)) t102 (t102.length : Int) (wrap64 (bl + 1)) ae af) = some r := by rw [if_neg (show ¬ (false = true) by decide)] at H; exact H
         clear H; have H := H1; clear H1; have H' := aa.mk H; clear H; have cu : 0 ≤ (bl : Int) := of_decide_eq_true (by assumption); have cn : bl < (t102.length : Int) := of_decide_eq_true (by assumption); obtain ⟨fV, fP, bN⟩ := Kd.Zh (Kd.QA bO.out).2.2 bl cu cn; cases fP; replace cu := eq_true cu; replace cn := eq_true cn; have kV : wr.cell? ⟨ag, 0, none⟩ = some (.slice ak ae.length an) := (Qd ab.out 0).trans rfl; have kU : wr.cell? ⟨ag, 1, none⟩ = some (.slice aj af.length al) := (Qd ab.out 1).trans rfl; have kR := Qb ab.out 0; have kQ := Qb ab.out 1; go_wp2; go_roundg k1
         case measure => have := HK1.out; omega
         case rel => exact ⟨(decide ((rd t102 bl) > 0)), (wrap64 (bl + 1)), (by first | rfl | (simp; done) | (simp [*]; done)), (by first | rfl | (simp; done) | (simp [*]; done)), H', ⟨by have := HK1.out; omega⟩, ⟨by (with_reducible repeat (first | apply Kd.R_alloc | apply Kd.QI | apply Kd.QN)); exact bO.out⟩, ⟨by (with_reducible repeat (first | refine QC ?_ _ | refine QE ?_ | refine Qz ?_ _)); exact ab.out⟩, ⟨bB⟩⟩
     ·rw [if_neg c10] at H; exact absurd H (by simp)
    ·rw [if_neg c9] at H; exact absurd H (by simp)
   ·rw [if_neg c8] at H; have dQ : decide (bl < (t102.length : Int)) = false := decide_eq_false c8; clear c8; obtain rfl := Option.some.inj H; go_wp2; go_ret; exact ⟨by first | rfl | (simp [Qj, Qi] <;> rfl) | (simp [*, Qj, Qi] <;> rfl), bB⟩
def Zw.f (k : Nat) (ae : List (List Int)) (af : List (List Int)) (l1 : List Int) : Option (Int) := (Qk.f k ae af).bind fun t102 => (if t102 = 0 then (if 0 < (ae.length : Int) then ((Zo.f l1 ((Qu ae 0).length : Int) (-1000000) 1000000).bind fun t104 => (if t104 = true then (some 0) else (some 1))) else (none)) else (some t102))
theorem Zw.mono : ∀ a0 a1 a2 k, LeO (Zw.f k a0 a1 a2) (Zw.f (k + 1) a0 a1 a2) := by
 intro a0 a1 a2 k; unfold Zw.f; repeat' first | (with_reducible exact Qk.mono _ _ _) | (with_reducible exact LeO.refl _) | (with_reducible exact LeO.none _) | (with_reducible refine LeO.ite ?_ ?_) | (with_reducible refine LeO.bind ?_ (fun _ => ?_)) | exact Qk.mono _ _ _ | exact LeO.none _ | refine LeO.ite ?_ ?_ | refine LeO.bind ?_ (fun _ => ?_)
set_option maxHeartbeats 8000000 in
set_option maxRecDepth 100000 in
theorem Zw.calls (k : Nat) (ak : Option Addr) (an : Nat) (ae : List (List Int)) (aj : Option Addr) (al : Nat) (af : List (List Int)) (A1 : Option Addr) (c1 : Nat) (l1 : List Int) (r : Int) (w : World) (aN : Kd.C (Kd.slice 3 (Kd.int .i64)) w ak ae.length ae) (aT : ae.length ≤ an) (aM : Kd.C (Kd.slice 3 (Kd.int .i64)) w aj af.length af) (aQ : af.length ≤ al) (hr1 : Kd.C (Kd.int .i64) w A1 l1.length l1) (hc1 : l1.length ≤ c1) (h : Zw.f k ae af l1 = some r) :
  Calls Try.prog 85 #[.agg #[.slice ak ae.length an, .slice aj af.length al], .slice A1 l1.length c1] w fun e w' => e = .returned (.int .i64 r) ∧ Below w.heap.size w w' := by
 have en := Try.underlying24; have aw := aa.mk aN; have az := aa.mk aT; clear aN aT; have ay := aa.mk aM; have aA := aa.mk aQ; clear aM aQ; have HR1 := aa.mk hr1; have HC1 := aa.mk hc1; clear hr1 hc1; have HB := aa.mk (Below.refl w.heap.size w); have H : ((Qk.f k ae af).bind fun t102 => (if t102 = 0 then (if 0 < (ae.length : Int) then ((Zo.f l1 ((Qu ae 0).length : Int) (-1000000) 1000000).bind fun t104 => (if t104 = true then (some 0) else (some 1))) else (none)) else (some t102))) = some r := h; clear h; replace H := Option.bind_eq_some_iff.mp H; obtain ⟨t102, A30, H⟩ := H; replace H : (if t102 = 0 then (if 0 < (ae.length : Int) then ((Zo.f l1 ((Qu ae 0).length : Int) (-1000000) 1000000).bind fun t104 => (if t104 = true then (some 0) else (some 1))) else (none)) else (some t102)) = some r := H; have A3 := aa.mk A30; clear A30; by_cases c4 : t102 = 0
 ·rw [if_pos c4] at H; have bE : (t102 == 0) = true := beq_iff_eq.mpr c4; have dO : (t102 != 0) = false := bne_eq_false_iff_eq.mpr c4; clear c4; by_cases c5 : 0 < (ae.length : Int)
  ·rw [if_pos c5] at H; have dq : decide (0 < (ae.length : Int)) = true := decide_eq_true c5; have jn : decide (0 < ae.length) = true := decide_eq_true (by omega); clear c5; replace H := Option.bind_eq_some_iff.mp H; obtain ⟨t104, A60, H⟩ := H; replace H : (if t104 = true then (some 0) else (some 1)) = some r := H; have A6 := aa.mk A60; clear A60; by_cases c7 : t104 = true
   ·subst c7; have H1 : (some 0) = some r := by rw [if_pos rfl] at H; exact H
    clear H; have H := H1; clear H1; obtain rfl := Option.some.inj H; go_enter Try.func85, Try.ntmps85; go_wp2_with (first | ((with_reducible refine QO (N := 2) rfl ?_); refine Q4 ?hg (N := 2) ?hd (cs := #[.slice ak ae.length an, .slice aj af.length al]) (t := 24) ?hr ?_; (case hd => rfl); (case hg => rfl); (case hr => first | (go_simp; done) | (go_simp; rfl)); intro ag hg w8 hbox hb; have ab := aa.mk (hbox); have bo := aa.mk ((by rw [hg]; exact (Qc bB) : w.heap.size ≤ ag)); have aV := aa.mk ((by rw [hg]; exact (Qc bB) : w.heap.size ≤ ag)); replace HB := aa.mk (Qa bB hb); clear hb hbox hg; have oF : w8.cell? ⟨ag, 0, none⟩ = some (.slice ak ae.length an) := (Qd ab.out 0).trans rfl; have oE : w8.cell? ⟨ag, 1, none⟩ = some (.slice aj af.length al) := (Qd ab.out 1).trans rfl; have oD := Qb ab.out 0; have oC := Qb ab.out 1) | ((with_reducible refine Qg (f := 38) rfl ?_); refine QG (some 7) rfl rfl Try.func38 (by kernel_rfl) rfl #[.agg #[.slice ak ae.length an, .slice aj af.length al]] rfl hA ?_; (with_reducible refine (Qk.calls k _ _ ae _ _ af t102 _ ?ah ?ai ?aq ?ar A3.out).mono ?_); (case ah => exact (Kd.Qo aw.out HB.out)); (case ai => exact az.out); (case aq => exact (Kd.Qo ay.out HB.out)); (case ar => exact aA.out); rintro e w10 ⟨rfl, hb⟩; refine ⟨_, rfl, ?_⟩; replace ab := aa.mk (Qq ab.out hb); replace HB := aa.mk (Qa bB hb); (try clear hb); (try clear hb2); (try clear hk); (try clear hi); have cY : w10.cell? ⟨ag, 0, none⟩ = some (.slice ak ae.length an) := (Qd ab.out 0).trans rfl; have cX : w10.cell? ⟨ag, 1, none⟩ = some (.slice aj af.length al) := (Qd ab.out 1).trans rfl; have cU := Qb ab.out 0; have cT := Qb ab.out 1; have dN : 0 ≤ (0 : Int) := (by omega); have dM : 0 < (ae.length : Int) := of_decide_eq_true (by assumption); obtain ⟨jd, m6, mX, iS, a7, dA, dD⟩ := ZO aw.out 0 dN dM; cases iS; have uc : (0 < ae.length) = True := eq_true (by omega); (try rw [show ((0 : Int)).toNat = 0 from rfl] at a7); (try rw [Addr.add_zero'] at a7); replace a7 := (HB.out.cell (World.block_lt_of_cell? w _ a7)).trans a7; have lf := aa.mk dD; have lq := aa.mk dA; clear dD dA; replace dN := eq_true dN; replace dM := eq_true dM) | ((with_reducible refine Qg (f := 77) rfl ?_); refine QG (some 17) rfl rfl Try.func77 (by kernel_rfl) rfl #[.slice A1 l1.length c1, .int .i64 ((Qu ae 0).length : Int), .int .i64 (-1000000), .int .i64 1000000] rfl hA ?_; (with_reducible refine (Zo.calls _ _ l1 ((Qu ae 0).length : Int) (-1000000) 1000000 true _ ?ah ?ai A6.out).mono ?_); (case ah => exact (Kd.Qo HR1.out HB.out)); (case ai => exact HC1.out); rintro e w12 ⟨rfl, hb⟩; refine ⟨_, rfl, ?_⟩; replace ab := aa.mk (Qq ab.out hb); replace HB := aa.mk (Qa bB hb); (try clear hb); (try clear hb2); (try clear hk); (try clear hi)))
    go_ret; exact ⟨by first | rfl | (simp [Qj, Qi] <;> rfl) | (simp [*, Qj, Qi] <;> rfl), bB⟩
   ·replace c7 := Bool.eq_false_iff.mpr c7; subst c7; have H1 : (some 1) = some r := by rw [if_neg (show ¬ (false = true) by decide)] at H; exact H
    clear H; have H := H1; clear H1; obtain rfl := Option.some.inj H; go_enter Try.func85, Try.ntmps85; go_wp2_with (first | ((with_reducible refine QO (N := 2) rfl ?_); refine Q4 ?hg (N := 2) ?hd (cs := #[.slice ak ae.length an, .slice aj af.length al]) (t := 24) ?hr ?_; (case hd => rfl); (case hg => rfl); (case hr => first | (go_simp; done) | (go_simp; rfl)); intro ag hg w13 hbox hb; have ab := aa.mk (hbox); have bo := aa.mk ((by rw [hg]; exact (Qc bB) : w.heap.size ≤ ag)); have aV := aa.mk ((by rw [hg]; exact (Qc bB) : w.heap.size ≤ ag)); replace HB := aa.mk (Qa bB hb); clear hb hbox hg; have e9 : w13.cell? ⟨ag, 0, none⟩ = some (.slice ak ae.length an) := (Qd ab.out 0).trans rfl; have e8 : w13.cell? ⟨ag, 1, none⟩ = some (.slice aj af.length al) := (Qd ab.out 1).trans rfl; have e7 := Qb ab.out 0; have e6 := Qb ab.out 1) | ((with_reducible refine Qg (f := 38) rfl ?_); refine QG (some 7) rfl rfl Try.func38 (by kernel_rfl) rfl #[.agg #[.slice ak ae.length an, .slice aj af.length al]] rfl hA ?_; (with_reducible refine (Qk.calls k _ _ ae _ _ af t102 _ ?ah ?ai ?aq ?ar A3.out).mono ?_); (case ah => exact (Kd.Qo aw.out HB.out)); (case ai => exact az.out); (case aq => exact (Kd.Qo ay.out HB.out)); (case ar => exact aA.out); rintro e w15 ⟨rfl, hb⟩; refine ⟨_, rfl, ?_⟩; replace ab := aa.mk (Qq ab.out hb); replace HB := aa.mk (Qa bB hb); (try clear hb); (try clear hb2); (try clear hk); (try clear hi); have jN : w15.cell? ⟨ag, 0, none⟩ = some (.slice ak ae.length an) := (Qd ab.out 0).trans rfl; have jM : w15.cell? ⟨ag, 1, none⟩ = some (.slice aj af.length al) := (Qd ab.out 1).trans rfl; have jH := Qb ab.out 0; have jG := Qb ab.out 1; have dN : 0 ≤ (0 : Int) := (by omega); have dM : 0 < (ae.length : Int) := of_decide_eq_true (by assumption); obtain ⟨jd, m6, mX, iS, a7, dA, dD⟩ := ZO aw.out 0 dN dM; cases iS; have uc : (0 < ae.length) = True := eq_true (by omega); (try rw [show ((0 : Int)).toNat = 0 from rfl] at a7); (try rw [Addr.add_zero'] at a7); replace a7 := (HB.out.cell (World.block_lt_of_cell? w _ a7)).trans a7; have lf := aa.mk dD; have lq := aa.mk dA; clear dD dA; replace dN := eq_true dN; replace dM := eq_true dM) | ((with_reducible refine Qg (f := 77) rfl ?_); refine QG (some 17) rfl rfl Try.func77 (by kernel_rfl) rfl #[.slice A1 l1.length c1, .int .i64 ((Qu ae 0).length : Int), .int .i64 (-1000000), .int .i64 1000000] rfl hA ?_; (with_reducible refine (Zo.calls _ _ l1 ((Qu ae 0).length : Int) (-1000000) 1000000 false _ ?ah ?ai A6.out).mono ?_); (case ah => exact (Kd.Qo HR1.out HB.out)); (case ai => exact HC1.out); rintro e w17 ⟨rfl, hb⟩; refine ⟨_, rfl, ?_⟩; replace ab := aa.mk (Qq ab.out hb); replace HB := aa.mk (Qa bB hb); (try clear hb); (try clear hb2); (try clear hk); (try clear hi)))
    go_ret; exact ⟨by first | rfl | (simp [Qj, Qi] <;> rfl) | (simp [*, Qj, Qi] <;> rfl), bB⟩
  ·rw [if_neg c5] at H; exact absurd H (by simp)
 ·rw [if_neg c4] at H; have bE : (t102 == 0) = false := beq_eq_false_iff_ne.mpr c4; have dO : (t102 != 0) = true := bne_iff_ne.mpr c4; obtain rfl := Option.some.inj H; go_enter Try.func85, Try.ntmps85; go_wp2_with (first | ((with_reducible refine QO (N := 2) rfl ?_); refine Q4 ?hg (N := 2) ?hd (cs := #[.slice ak ae.length an, .slice aj af.length al]) (t := 24) ?hr ?_; (case hd => rfl); (case hg => rfl); (case hr => first | (go_simp; done) | (go_simp; rfl)); intro ag hg w18 hbox hb; have ab := aa.mk (hbox); have bo := aa.mk ((by rw [hg]; exact (Qc bB) : w.heap.size ≤ ag)); have aV := aa.mk ((by rw [hg]; exact (Qc bB) : w.heap.size ≤ ag)); replace HB := aa.mk (Qa bB hb); clear hb hbox hg; have nB : w18.cell? ⟨ag, 0, none⟩ = some (.slice ak ae.length an) := (Qd ab.out 0).trans rfl; have nA : w18.cell? ⟨ag, 1, none⟩ = some (.slice aj af.length al) := (Qd ab.out 1).trans rfl; have nw := Qb ab.out 0; have nv := Qb ab.out 1) | ((with_reducible refine Qg (f := 38) rfl ?_); refine QG (some 7) rfl rfl Try.func38 (by kernel_rfl) rfl #[.agg #[.slice ak ae.length an, .slice aj af.length al]] rfl hA ?_; (with_reducible refine (Qk.calls k _ _ ae _ _ af t102 _ ?ah ?ai ?aq ?ar A3.out).mono ?_); (case ah => exact (Kd.Qo aw.out HB.out)); (case ai => exact az.out); (case aq => exact (Kd.Qo ay.out HB.out)); (case ar => exact aA.out); rintro e w20 ⟨rfl, hb⟩; refine ⟨_, rfl, ?_⟩; replace ab := aa.mk (Qq ab.out hb); replace HB := aa.mk (Qa bB hb); (try clear hb); (try clear hb2); (try clear hk); (try clear hi)))
  go_ret; exact ⟨by first | rfl | (simp [Qj, Qi] <;> rfl) | (simp [*, Qj, Qi] <;> rfl), bB⟩
def Q7.f (k : Nat) (ae : List (List Int)) (af : List (List Int)) (l1 : List Int) : Option (Int) := (Zw.f k ae af l1).bind fun t102 => (if t102 = 0 then ((QZ.f k ae af l1).bind fun t103 => (if t103 = true then (some 0) else (some 7))) else (some t102))
theorem Q7.mono : ∀ a0 a1 a2 k, LeO (Q7.f k a0 a1 a2) (Q7.f (k + 1) a0 a1 a2) := by
 intro a0 a1 a2 k; unfold Q7.f; repeat' first | (with_reducible exact QZ.mono _ _ _ _) | (with_reducible exact Zw.mono _ _ _ _) | (with_reducible exact LeO.refl _) | (with_reducible exact LeO.none _) | (with_reducible refine LeO.ite ?_ ?_) | (with_reducible refine LeO.bind ?_ (fun _ => ?_)) | exact QZ.mono _ _ _ _ | exact Zw.mono _ _ _ _ | exact LeO.none _ | refine LeO.ite ?_ ?_ | refine LeO.bind ?_ (fun _ => ?_)
set_option maxHeartbeats 8000000 in
set_option maxRecDepth 100000 in
theorem Q7.calls (k : Nat) (ak : Option Addr) (an : Nat) (ae : List (List Int)) (aj : Option Addr) (al : Nat) (af : List (List Int)) (A1 : Option Addr) (c1 : Nat) (l1 : List Int) (r : Int) (w : World) (aN : Kd.C (Kd.slice 3 (Kd.int .i64)) w ak ae.length ae) (aT : ae.length ≤ an) (aM : Kd.C (Kd.slice 3 (Kd.int .i64)) w aj af.length af) (aQ : af.length ≤ al) (hr1 : Kd.C (Kd.int .i64) w A1 l1.length l1) (hc1 : l1.length ≤ c1) (h : Q7.f k ae af l1 = some r) :
  Calls Try.prog 43 #[.agg #[.slice ak ae.length an, .slice aj af.length al], .slice A1 l1.length c1] w fun e w' => e = .returned (.int .i64 r) ∧ Below w.heap.size w w' := by
 have en := Try.underlying24; have aw := aa.mk aN; have az := aa.mk aT; clear aN aT; have ay := aa.mk aM; have aA := aa.mk aQ; clear aM aQ; have HR1 := aa.mk hr1; have HC1 := aa.mk hc1; clear hr1 hc1; have HB := aa.mk (Below.refl w.heap.size w); have H : ((Zw.f k ae af l1).bind fun t102 => (if t102 = 0 then ((QZ.f k ae af l1).bind fun t103 => (if t103 = true then (some 0) else (some 7))) else (some t102))) = some r := h; clear h; replace H := Option.bind_eq_some_iff.mp H; obtain ⟨t102, A30, H⟩ := H; replace H : (if t102 = 0 then ((QZ.f k ae af l1).bind fun t103 => (if t103 = true then (some 0) else (some 7))) else (some t102)) = some r := H; have A3 := aa.mk A30; clear A30; by_cases c4 : t102 = 0
 ·rw [if_pos c4] at H; have bE : (t102 == 0) = true := beq_iff_eq.mpr c4; have dO : (t102 != 0) = false := bne_eq_false_iff_eq.mpr c4; clear c4; replace H := Option.bind_eq_some_iff.mp H; obtain ⟨t103, A50, H⟩ := H; replace H : (if t103 = true then (some 0) else (some 7)) = some r := H; have A5 := aa.mk A50; clear A50; by_cases c6 : t103 = true
  ·subst c6; have H1 : (some 0) = some r := by rw [if_pos rfl] at H; exact H
   clear H; have H := H1; clear H1; obtain rfl := Option.some.inj H; go_enter Try.func43, Try.ntmps43; go_wp2_with (first | ((with_reducible refine QO (N := 2) rfl ?_); refine Q4 ?hg (N := 2) ?hd (cs := #[.slice ak ae.length an, .slice aj af.length al]) (t := 24) ?hr ?_; (case hd => rfl); (case hg => rfl); (case hr => first | (go_simp; done) | (go_simp; rfl)); intro ag hg w7 hbox hb; have ab := aa.mk (hbox); have bo := aa.mk ((by rw [hg]; exact (Qc bB) : w.heap.size ≤ ag)); have aV := aa.mk ((by rw [hg]; exact (Qc bB) : w.heap.size ≤ ag)); replace HB := aa.mk (Qa bB hb); clear hb hbox hg; have mF : w7.cell? ⟨ag, 0, none⟩ = some (.slice ak ae.length an) := (Qd ab.out 0).trans rfl; have mE : w7.cell? ⟨ag, 1, none⟩ = some (.slice aj af.length al) := (Qd ab.out 1).trans rfl; have mD := Qb ab.out 0; have mC := Qb ab.out 1) | ((with_reducible refine Qg (f := 85) rfl ?_); refine QG (some 8) rfl rfl Try.func85 (by kernel_rfl) rfl #[.agg #[.slice ak ae.length an, .slice aj af.length al], .slice A1 l1.length c1] rfl hA ?_; (with_reducible refine (Zw.calls k _ _ ae _ _ af _ _ l1 t102 _ ?ah ?ai ?aq ?ar ?bh ?bg A3.out).mono ?_); (case ah => exact (Kd.Qo aw.out HB.out)); (case ai => exact az.out); (case aq => exact (Kd.Qo ay.out HB.out)); (case ar => exact aA.out); (case bh => exact (Kd.Qo HR1.out HB.out)); (case bg => exact HC1.out); rintro e w9 ⟨rfl, hb⟩; refine ⟨_, rfl, ?_⟩; replace ab := aa.mk (Qq ab.out hb); replace HB := aa.mk (Qa bB hb); (try clear hb); (try clear hb2); (try clear hk); (try clear hi); have da : w9.cell? ⟨ag, 0, none⟩ = some (.slice ak ae.length an) := (Qd ab.out 0).trans rfl; have cZ : w9.cell? ⟨ag, 1, none⟩ = some (.slice aj af.length al) := (Qd ab.out 1).trans rfl; have cW := Qb ab.out 0; have cV := Qb ab.out 1) | ((with_reducible refine Qg (f := 83) rfl ?_); refine QG (some 14) rfl rfl Try.func83 (by kernel_rfl) rfl #[.agg #[.slice ak ae.length an, .slice aj af.length al], .slice A1 l1.length c1] rfl hA ?_; (with_reducible refine (QZ.calls k _ _ ae _ _ af _ _ l1 true _ ?ah ?ai ?aq ?ar ?bh ?bg A5.out).mono ?_); (case ah => exact (Kd.Qo aw.out HB.out)); (case ai => exact az.out); (case aq => exact (Kd.Qo ay.out HB.out)); (case ar => exact aA.out); (case bh => exact (Kd.Qo HR1.out HB.out)); (case bg => exact HC1.out); rintro e w11 ⟨rfl, hb⟩; refine ⟨_, rfl, ?_⟩; replace ab := aa.mk (Qq ab.out hb); replace HB := aa.mk (Qa bB hb); (try clear hb); (try clear hb2); (try clear hk); (try clear hi)))
   go_ret; exact ⟨by first | rfl | (simp [Qj, Qi] <;> rfl) | (simp [*, Qj, Qi] <;> rfl), bB⟩
  ·replace c6 := Bool.eq_false_iff.mpr c6; subst c6; have H1 : (some 7) = some r := by rw [if_neg (show ¬ (false = true) by decide)] at H; exact H
   clear H; have H := H1; clear H1; obtain rfl := Option.some.inj H; go_enter Try.func43, Try.ntmps43; go_wp2_with (first | ((with_reducible refine QO (N := 2) rfl ?_); refine Q4 ?hg (N := 2) ?hd (cs := #[.slice ak ae.length an, .slice aj af.length al]) (t := 24) ?hr ?_; (case hd => rfl); (case hg => rfl); (case hr => first | (go_simp; done) | (go_simp; rfl)); intro ag hg w12 hbox hb; have ab := aa.mk (hbox); have bo := aa.mk ((by rw [hg]; exact (Qc bB) : w.heap.size ≤ ag)); have aV := aa.mk ((by rw [hg]; exact (Qc bB) : w.heap.size ≤ ag)); replace HB := aa.mk (Qa bB hb); clear hb hbox hg; have dH : w12.cell? ⟨ag, 0, none⟩ = some (.slice ak ae.length an) := (Qd ab.out 0).trans rfl; have dG : w12.cell? ⟨ag, 1, none⟩ = some (.slice aj af.length al) := (Qd ab.out 1).trans rfl; have dF := Qb ab.out 0; have dE := Qb ab.out 1) | ((with_reducible refine Qg (f := 85) rfl ?_); refine QG (some 8) rfl rfl Try.func85 (by kernel_rfl) rfl #[.agg #[.slice ak ae.length an, .slice aj af.length al], .slice A1 l1.length c1] rfl hA ?_; (with_reducible refine (Zw.calls k _ _ ae _ _ af _ _ l1 t102 _ ?ah ?ai ?aq ?ar ?bh ?bg A3.out).mono ?_); (case ah => exact (Kd.Qo aw.out HB.out)); (case ai => exact az.out); (case aq => exact (Kd.Qo ay.out HB.out)); (case ar => exact aA.out); (case bh => exact (Kd.Qo HR1.out HB.out)); (case bg => exact HC1.out); rintro e w14 ⟨rfl, hb⟩; refine ⟨_, rfl, ?_⟩; replace ab := aa.mk (Qq ab.out hb); replace HB := aa.mk (Qa bB hb); (try clear hb); (try clear hb2); (try clear hk); (try clear hi); have fL : w14.cell? ⟨ag, 0, none⟩ = some (.slice ak ae.length an) := (Qd ab.out 0).trans rfl; have fK : w14.cell? ⟨ag, 1, none⟩ = some (.slice aj af.length al) := (Qd ab.out 1).trans rfl; have fH := Qb ab.out 0; have fG := Qb ab.out 1) | ((with_reducible refine Qg (f := 83) rfl ?_); refine QG (some 14) rfl rfl Try.func83 (by kernel_rfl) rfl #[.agg #[.slice ak ae.length an, .slice aj af.length al], .slice A1 l1.length c1] rfl hA ?_; (with_reducible refine (QZ.calls k _ _ ae _ _ af _ _ l1 false _ ?ah ?ai ?aq ?ar ?bh ?bg A5.out).mono ?_); (case ah => exact (Kd.Qo aw.out HB.out)); (case ai => exact az.out); (case aq => exact (Kd.Qo ay.out HB.out)); (case ar => exact aA.out); (case bh => exact (Kd.Qo HR1.out HB.out)); (case bg => exact HC1.out); rintro e w16 ⟨rfl, hb⟩; refine ⟨_, rfl, ?_⟩; replace ab := aa.mk (Qq ab.out hb); replace HB := aa.mk (Qa bB hb); (try clear hb); (try clear hb2); (try clear hk); (try clear hi)))
   go_ret; exact ⟨by first | rfl | (simp [Qj, Qi] <;> rfl) | (simp [*, Qj, Qi] <;> rfl), bB⟩
 ·rw [if_neg c4] at H; have bE : (t102 == 0) = false := beq_eq_false_iff_ne.mpr c4; have dO : (t102 != 0) = true := bne_iff_ne.mpr c4; obtain rfl := Option.some.inj H; go_enter Try.func43, Try.ntmps43; go_wp2_with (first | ((with_reducible refine QO (N := 2) rfl ?_); refine Q4 ?hg (N := 2) ?hd (cs := #[.slice ak ae.length an, .slice aj af.length al]) (t := 24) ?hr ?_; (case hd => rfl); (case hg => rfl); (case hr => first | (go_simp; done) | (go_simp; rfl)); intro ag hg w17 hbox hb; have ab := aa.mk (hbox); have bo := aa.mk ((by rw [hg]; exact (Qc bB) : w.heap.size ≤ ag)); have aV := aa.mk ((by rw [hg]; exact (Qc bB) : w.heap.size ≤ ag)); replace HB := aa.mk (Qa bB hb); clear hb hbox hg; have kX : w17.cell? ⟨ag, 0, none⟩ = some (.slice ak ae.length an) := (Qd ab.out 0).trans rfl; have kW : w17.cell? ⟨ag, 1, none⟩ = some (.slice aj af.length al) := (Qd ab.out 1).trans rfl; have kT := Qb ab.out 0; have kS := Qb ab.out 1) | ((with_reducible refine Qg (f := 85) rfl ?_); refine QG (some 8) rfl rfl Try.func85 (by kernel_rfl) rfl #[.agg #[.slice ak ae.length an, .slice aj af.length al], .slice A1 l1.length c1] rfl hA ?_; (with_reducible refine (Zw.calls k _ _ ae _ _ af _ _ l1 t102 _ ?ah ?ai ?aq ?ar ?bh ?bg A3.out).mono ?_); (case ah => exact (Kd.Qo aw.out HB.out)); (case ai => exact az.out); (case aq => exact (Kd.Qo ay.out HB.out)); (case ar => exact aA.out); (case bh => exact (Kd.Qo HR1.out HB.out)); (case bg => exact HC1.out); rintro e w19 ⟨rfl, hb⟩; refine ⟨_, rfl, ?_⟩; replace ab := aa.mk (Qq ab.out hb); replace HB := aa.mk (Qa bB hb); (try clear hb); (try clear hb2); (try clear hk); (try clear hi)))
  go_ret; exact ⟨by first | rfl | (simp [Qj, Qi] <;> rfl) | (simp [*, Qj, Qi] <;> rfl), bB⟩
mutual
def Qm.l0 : Nat → List Int → List Int → List Int → List (List Int) → Int → Int → List (List Int) → List (List Int) → Option (List Int × List Int)
  | 0, _, _, _, _, _, _, _, _ => none
  | k + 1, x1, x6, x7, x29, x30, x31, au, av => if x31 < x30 then (if 0 ≤ x31 then (if x31 < (x29.length : Int) then (Qm.l1 k x1 x6 x7 x31 x29 x30 x31 (Qu x29 x31) ((Qu x29 x31).length : Int) 0 au av) else (none)) else (none)) else (Qm.l2 k x1 x6 x7 av (av.length : Int) 0 au av)
def Qm.l1 : Nat → List Int → List Int → List Int → Int → List (List Int) → Int → Int → List Int → Int → Int → List (List Int) → List (List Int) → Option (List Int × List Int)
  | 0, _, _, _, _, _, _, _, _, _, _, _, _ => none
  | k + 1, x1, x6, x7, x8, x29, x30, x31, x36, x37, x38, au, av => if x38 < x37 then (if 0 ≤ x38 then (if x38 < (x36.length : Int) then (if x38 < (x6.length : Int) then (if 0 ≤ x8 then (if x8 < (x1.length : Int) then (Qm.l1 k x1 (x6.set (x38 : Int).toNat (wrap64 ((rd x6 x38) + (wrap64 ((rd x1 x8) * (rd x36 x38)))))) x7 x8 x29 x30 x31 x36 x37 (wrap64 (x38 + 1)) au av) else (none)) else (none)) else (none)) else (none)) else (none)) else (Qm.l0 k x1 x6 x7 x29 x30 (wrap64 (x31 + 1)) au av)
def Qm.l2 : Nat → List Int → List Int → List Int → List (List Int) → Int → Int → List (List Int) → List (List Int) → Option (List Int × List Int)
  | 0, _, _, _, _, _, _, _, _ => none
  | k + 1, x1, x6, x7, x58, x59, x60, au, av => if x60 < x59 then (if 0 ≤ x60 then (if x60 < (x58.length : Int) then (Qm.l3 k x1 x6 x7 x60 x58 x59 x60 (Qu x58 x60) ((Qu x58 x60).length : Int) 0 au av) else (none)) else (none)) else (some (x6, x7))
def Qm.l3 : Nat → List Int → List Int → List Int → Int → List (List Int) → Int → Int → List Int → Int → Int → List (List Int) → List (List Int) → Option (List Int × List Int)
  | 0, _, _, _, _, _, _, _, _, _, _, _, _ => none
  | k + 1, x1, x6, x7, x12, x58, x59, x60, x65, x66, x67, au, av => if x67 < x66 then (if 0 ≤ x67 then (if x67 < (x65.length : Int) then (if x67 < (x7.length : Int) then (if 0 ≤ (wrap64 ((au.length : Int) + x12)) then (if (wrap64 ((au.length : Int) + x12)) < (x1.length : Int) then (Qm.l3 k x1 x6 (x7.set (x67 : Int).toNat (wrap64 ((rd x7 x67) + (wrap64 ((rd x1 (wrap64 ((au.length : Int) + x12))) * (rd x65 x67)))))) x12 x58 x59 x60 x65 x66 (wrap64 (x67 + 1)) au av) else (none)) else (none)) else (none)) else (none)) else (none)) else (Qm.l2 k x1 x6 x7 x58 x59 (wrap64 (x60 + 1)) au av)
end
def Qm.f (k : Nat) (ae : List (List Int)) (af : List (List Int)) (l1 : List Int) : Option (List Int × List Int) := if 0 < (ae.length : Int) then (if 0 ≤ ((Qu ae 0).length : Int) then (if (((Qu ae 0).length : Int) : Int).toNat ≤ 35184372088832 then (Qm.l0 k l1 (List.replicate (((Qu ae 0).length : Int) : Int).toNat 0) (List.replicate (((Qu ae 0).length : Int) : Int).toNat 0) ae (ae.length : Int) 0 ae af) else (none)) else (none)) else (none)
theorem Qm.ZP : ∀ k, (∀ y0 y1 y2 y3 y4 y5 y6 y7, LeO (Qm.l0 k y0 y1 y2 y3 y4 y5 y6 y7) (Qm.l0 (k + 1) y0 y1 y2 y3 y4 y5 y6 y7)) ∧ (∀ y0 y1 y2 y3 y4 y5 y6 y7 y8 y9 y10 y11, LeO (Qm.l1 k y0 y1 y2 y3 y4 y5 y6 y7 y8 y9 y10 y11) (Qm.l1 (k + 1) y0 y1 y2 y3 y4 y5 y6 y7 y8 y9 y10 y11)) ∧ (∀ y0 y1 y2 y3 y4 y5 y6 y7, LeO (Qm.l2 k y0 y1 y2 y3 y4 y5 y6 y7) (Qm.l2 (k + 1) y0 y1 y2 y3 y4 y5 y6 y7)) ∧ (∀ y0 y1 y2 y3 y4 y5 y6 y7 y8 y9 y10 y11, LeO (Qm.l3 k y0 y1 y2 y3 y4 y5 y6 y7 y8 y9 y10 y11) (Qm.l3 (k + 1) y0 y1 y2 y3 y4 y5 y6 y7 y8 y9 y10 y11))
  | 0 => ⟨fun _ _ _ _ _ _ _ _ r h => by simp [Qm.l0] at h, fun _ _ _ _ _ _ _ _ _ _ _ _ r h => by simp [Qm.l1] at h, fun _ _ _ _ _ _ _ _ r h => by simp [Qm.l2] at h, fun _ _ _ _ _ _ _ _ _ _ _ _ r h => by simp [Qm.l3] at h⟩
  | k + 1 => by
    obtain ⟨ih0, ih1, ih2, ih3⟩ := Qm.ZP k; refine ⟨?_, ?_, ?_, ?_⟩ <;> intros <;> (first | unfold Qm.l0 | unfold Qm.l1 | unfold Qm.l2 | unfold Qm.l3) <;> repeat' first | (with_reducible exact ih0 _ _ _ _ _ _ _ _) | (with_reducible exact ih1 _ _ _ _ _ _ _ _ _ _ _ _) | (with_reducible exact ih2 _ _ _ _ _ _ _ _) | (with_reducible exact ih3 _ _ _ _ _ _ _ _ _ _ _ _) | (with_reducible exact LeO.refl _) | (with_reducible exact LeO.none _) | (with_reducible refine LeO.ite ?_ ?_) | (with_reducible refine LeO.bind ?_ (fun _ => ?_)) | exact ih0 _ _ _ _ _ _ _ _ | exact ih1 _ _ _ _ _ _ _ _ _ _ _ _ | exact ih2 _ _ _ _ _ _ _ _ | exact ih3 _ _ _ _ _ _ _ _ _ _ _ _ | exact LeO.none _ | refine LeO.ite ?_ ?_ | refine LeO.bind ?_ (fun _ => ?_)
theorem Qm.mono : ∀ a0 a1 a2 k, LeO (Qm.f k a0 a1 a2) (Qm.f (k + 1) a0 a1 a2) := by
  intro a0 a1 a2 k; obtain ⟨ih0, ih1, ih2, ih3⟩ := Qm.ZP k; unfold Qm.f; repeat' first | (with_reducible exact ih0 _ _ _ _ _ _ _ _) | (with_reducible exact ih1 _ _ _ _ _ _ _ _ _ _ _ _) | (with_reducible exact ih2 _ _ _ _ _ _ _ _) | (with_reducible exact ih3 _ _ _ _ _ _ _ _ _ _ _ _) | (with_reducible exact LeO.refl _) | (with_reducible exact LeO.none _) | (with_reducible refine LeO.ite ?_ ?_) | (with_reducible refine LeO.bind ?_ (fun _ => ?_)) | exact ih0 _ _ _ _ _ _ _ _ | exact ih1 _ _ _ _ _ _ _ _ _ _ _ _ | exact ih2 _ _ _ _ _ _ _ _ | exact ih3 _ _ _ _ _ _ _ _ _ _ _ _ | exact LeO.none _ | refine LeO.ite ?_ ?_ | refine LeO.bind ?_ (fun _ => ?_)
def Qm.T1 : Bool × List (List Nat × List Nat) := (true, [([], []), ([0], [0]), ([1], [1]), ([2], [2]), ([3], [3]), ([4, 4], [4]), ([], []), ([6], [6]), ([7], [7]), ([8], [8]), ([9], [9]), ([10, 10], [10]), ([5, 0, 1, 2, 3, 4, 5], [5]), ([11, 12, 0, 1, 2, 3, 4, 5, 6, 7, 8, 9, 10, 11, 12], [11])])
def Qm.B1 : List Nat := [0, 1, 3, 7, 15, 31, 0, 64, 192, 448, 960, 1984, 63, 8191]
theorem Qm.tab1 : rtab .any (opsOf Try.f88 1) = Qm.T1 := by kernel_rfl
theorem Qm.bits1 : waitsOk Qm.T1.2 Qm.B1 = true := by kernel_rfl
def Qm.T8 : Bool × List (List Nat × List Nat) := (true, [([], []), ([], []), ([0, 1], [0, 1]), ([2], [2]), ([], []), ([], []), ([4, 5], [4, 5]), ([6], [6]), ([], []), ([7, 8], [7, 8]), ([3, 9], [3, 9]), ([0, 1, 0, 1, 2, 3, 4, 5, 6, 7, 8, 9, 10], [0, 1]), ([11, 10, 0, 1, 2, 3, 4, 5, 6, 7, 8, 9, 10], [10, 11])])
def Qm.B8 : List Nat := [0, 0, 3, 7, 0, 0, 48, 112, 0, 496, 1023, 2047, 4095]
theorem Qm.tab8 : rtab .any (opsOf Try.f88 8) = Qm.T8 := by kernel_rfl
theorem Qm.bits8 : waitsOk Qm.T8.2 Qm.B8 = true := by kernel_rfl
def Qm.T17 : Bool × List (List Nat × List Nat) := (true, [([], []), ([], []), ([0, 1], [0, 1]), ([2], [2]), ([], []), ([], []), ([5], [5]), ([6], [6]), ([], []), ([7, 8], [7, 8]), ([4, 9], [4, 9]), ([10], [10]), ([], []), ([11, 12], [11, 12]), ([3, 13], [3, 13]), ([0, 1, 0, 1, 2, 3, 4, 5, 6, 7, 8, 9, 10, 11, 12, 13, 14], [0, 1]), ([15, 14, 0, 1, 2, 3, 4, 5, 6, 7, 8, 9, 10, 11, 12, 13, 14], [14, 15])])
def Qm.B17 : List Nat := [0, 0, 3, 7, 0, 0, 32, 96, 0, 480, 1008, 2032, 0, 8176, 16383, 32767, 65535]
theorem Qm.tab17 : rtab .any (opsOf Try.f88 17) = Qm.T17 := by kernel_rfl
theorem Qm.bits17 : waitsOk Qm.T17.2 Qm.B17 = true := by kernel_rfl
set_option maxHeartbeats 8000000 in
set_option maxRecDepth 100000 in
theorem Qm.calls (k : Nat) (ak : Option Addr) (an : Nat) (ae : List (List Int)) (aj : Option Addr) (al : Nat) (af : List (List Int)) (A1 : Option Addr) (c1 : Nat) (l1 : List Int) (r1 : List Int) (r2 : List Int) (w : World) (aN : Kd.C (Kd.slice 3 (Kd.int .i64)) w ak ae.length ae) (aT : ae.length ≤ an) (aM : Kd.C (Kd.slice 3 (Kd.int .i64)) w aj af.length af) (aQ : af.length ≤ al) (hr1 : Kd.C (Kd.int .i64) w A1 l1.length l1) (hc1 : l1.length ≤ c1) (h : Qm.f k ae af l1 = some (r1, r2)) :
    Calls Try.prog 88 #[.agg #[.slice ak ae.length an, .slice aj af.length al], .slice A1 l1.length c1] w fun e w' => ∃ v0_ v1_ : Value, e = .returned (.tuple #[v0_, v1_]) ∧ Kd.R (Kd.int .i64) 3 w' w.heap.size (fun k_ => some k_ ≠ (v1_ : Value).ownBlock) v0_ r1 ∧ Kd.R (Kd.int .i64) 3 w' w.heap.size (fun k_ => some k_ ≠ (v0_ : Value).ownBlock) v1_ r2 ∧ Below w.heap.size w w' := by
  have en := Try.underlying24; have aw := aa.mk aN; have az := aa.mk aT; clear aN aT; have ay := aa.mk aM; have aA := aa.mk aQ; clear aM aQ; have HR1 := aa.mk hr1; have HC1 := aa.mk hc1; clear hr1 hc1; have HB := aa.mk (Below.refl w.heap.size w); have H : (if 0 < (ae.length : Int) then (if 0 ≤ ((Qu ae 0).length : Int) then (if (((Qu ae 0).length : Int) : Int).toNat ≤ 35184372088832 then (Qm.l0 k l1 (List.replicate (((Qu ae 0).length : Int) : Int).toNat 0) (List.replicate (((Qu ae 0).length : Int) : Int).toNat 0) ae (ae.length : Int) 0 ae af) else (none)) else (none)) else (none)) = some (r1, r2) := h; clear h; by_cases c3 : 0 < (ae.length : Int)
  · rw [if_pos c3] at H; have bH : decide (0 < (ae.length : Int)) = true := decide_eq_true c3; have cx : decide (0 < ae.length) = true := decide_eq_true (by omega); clear c3; by_cases c4 : 0 ≤ ((Qu ae 0).length : Int)
    · rw [if_pos c4] at H; have bE := eq_true c4; have dO : decide (0 ≤ ((Qu ae 0).length : Int)) = true := decide_eq_true c4; clear c4; by_cases c5 : (((Qu ae 0).length : Int) : Int).toNat ≤ 35184372088832
      · rw [if_pos c5] at H; have dq := eq_true c5; have jn : decide ((((Qu ae 0).length : Int) : Int).toNat ≤ 35184372088832) = true := decide_eq_true c5; clear c5; obtain ⟨du, ec⟩ : ∃ y_ : List Int, y_ = (List.replicate (((Qu ae 0).length : Int) : Int).toNat 0) := ⟨_, rfl⟩; replace H : (Qm.l0 k l1 du (List.replicate (((Qu ae 0).length : Int) : Int).toNat 0) ae (ae.length : Int) 0 ae af) = some (r1, r2) := by first | (rw [ec]; with_reducible exact H) | (have H2_ := (Option.bind_some _ _).symm.trans H; rw [ec]; with_reducible exact H2_) | (have H2_ := (Option.bind_some _ _).symm.trans H; with_reducible exact H2_) | with_reducible exact H | (rw [ec]; exact H) | exact H
        have iC := aa.mk ec; clear ec; obtain ⟨jh, gw⟩ : ∃ y_ : List Int, y_ = (List.replicate (((Qu ae 0).length : Int) : Int).toNat 0) := ⟨_, rfl⟩; replace H : (Qm.l0 k l1 du jh ae (ae.length : Int) 0 ae af) = some (r1, r2) := by first | (rw [gw]; with_reducible exact H) | (have H2_ := (Option.bind_some _ _).symm.trans H; rw [gw]; with_reducible exact H2_) | (have H2_ := (Option.bind_some _ _).symm.trans H; with_reducible exact H2_) | with_reducible exact H | (rw [gw]; exact H) | exact H
        have kx := aa.mk gw; clear gw; have H' := aa.mk H; clear H; go_enter Try.func88, Try.ntmps88; try go_wp2_with (first | ((with_reducible refine QO (N := 2) rfl ?_); refine Q4 ?hg (N := 2) ?hd (cs := #[.slice ak ae.length an, .slice aj af.length al]) (t := 24) ?hr ?_; (case hd => rfl); (case hg => rfl); (case hr => first | (go_simp; done) | (go_simp; rfl)); intro ag hg w6 hbox hb; have ab := aa.mk (hbox); have bo := aa.mk ((by rw [hg]; exact (Qc (by repeat (first | (with_reducible first | exact HB.out | apply Q0 | apply QF | apply QP) | exact HB.out))) : w.heap.size ≤ ag)); have aV := aa.mk ((by rw [hg]; exact (Qc (by repeat (first | (with_reducible first | exact HB.out | apply Q0 | apply QF | apply QP) | exact HB.out))) : w.heap.size ≤ ag)); replace HB := aa.mk (Qa (by repeat (first | (with_reducible first | exact HB.out | apply Q0 | apply QF | apply QP) | exact HB.out)) hb); clear hb hbox hg))
        replace ab := aa.mk (QE ab.out); replace HB := aa.mk (QP HB.out); have bD : 0 ≤ (0 : Int) := (by omega); have bC : 0 < (ae.length : Int) := of_decide_eq_true (by first | (with_reducible assumption) | assumption); obtain ⟨bI, eu, et, dP, aG, ch, ck⟩ := ZO aw.out 0 bD bC; have cS := aG; (try rw [show ((0 : Int)).toNat = 0 from rfl] at cS)
        (try rw [show 0 * 1 = 0 from rfl] at cS)
        (try rw [Addr.add_zero'] at cS)
        cases dP; have rf : (0 < ae.length) = True := eq_true (by omega); (try rw [show ((0 : Int)).toNat = 0 from rfl] at aG)
        (try rw [Addr.add_zero'] at aG)
        replace aG := (HB.out.cell (World.block_lt_of_cell? w _ aG)).trans aG; have dj := aa.mk ck; have dL := aa.mk ch; clear ck ch; replace bD := eq_true bD; replace bC := eq_true bC; have dh : 0 ≤ (0 : Int) := (by omega); have dg : 0 < (ae.length : Int) := of_decide_eq_true (by first | (with_reducible assumption) | assumption); obtain ⟨j8, zL, zl, iR, bc, nk, nr⟩ := ZO aw.out 0 dh dg; have cR := bc; (try rw [show ((0 : Int)).toNat = 0 from rfl] at cR)
        (try rw [show 0 * 1 = 0 from rfl] at cR)
        (try rw [Addr.add_zero'] at cR)
        obtain rfl : bI = j8 := (by injection iR); have zO : (0 < ae.length) = True := eq_true (by omega); (try rw [show ((0 : Int)).toNat = 0 from rfl] at bc)
        (try rw [Addr.add_zero'] at bc)
        replace bc := (HB.out.cell (World.block_lt_of_cell? w _ bc)).trans bc; have qR := aa.mk nr; have xN := aa.mk nk; clear nr nk; replace dh := eq_true dh; replace dg := eq_true dg; have ea_ := Option.some.inj (aG.symm.trans bc); injection ea_ with ea_ en_ ec_
        subst ea_; subst ec_; clear en_; refine Yt (n := 14) (S := fun w' => w'.cell? ⟨ag, 0, none⟩ = some (.slice (some bI) ae.length an) ∧ w'.cell? ⟨ag, 1, none⟩ = some (.slice aj af.length al) ∧ w'.cell? bI = some (.slice eu (Qu ae 0).length et) ∧ w'.cell? bI = some (.slice eu (Qu ae 0).length et)) (ds := []) #[false, false, false, false, false, false, false, false, false, false, false, false, false, false] (by kernel_rfl) rfl rfl ⟨(Qd ab.out 0).trans rfl, (Qd ab.out 1).trans rfl, ((HB.out.cell (World.block_lt_of_cell? w _ cS)).trans cS), ((HB.out.cell (World.block_lt_of_cell? w _ cR)).trans cR)⟩ (fun hHeld => ?_); refine ZV Qm.tab1 Qm.bits1 (fun HT_ HW_ => ?_); generalize w6.drew = w7 at ab HB dj qR aG bc hHeld ⊢; refine QX (i := 0) (N := some 16) (v := ?_) (a' := ?_) #[true, false, false, false, false, false, false, false, false, false, false, false, false, false] rfl rfl (QK HT_.out (by kernel_rfl)) (fun _ _ _ h => h) (Or.inl ⟨by rfl, ?_⟩) ?_ ?_; rotate_left
        · intro w'; go_simp; with_reducible rfl
        rotate_left
        · simp only [Act.put, zA, zB, zC, Qy, QB]; rfl
        refine QX (i := 6) (N := some 22) (v := ?_) (a' := ?_) #[true, false, false, false, false, false, true, false, false, false, false, false, false, false] rfl rfl (QK HT_.out (by kernel_rfl)) (fun _ _ _ h => h) (Or.inl ⟨by rfl, ?_⟩) ?_ ?_; rotate_left
        · intro w'; go_simp; with_reducible rfl
        rotate_left
        · simp only [Act.put, zA, zB, zC, Qy, QB]; rfl
        refine ZU (i := 1) (N := some 17) (v := ?_) (a' := ?_) #[true, true, false, false, false, false, true, false, false, false, false, false, false, false] rfl rfl (Zp HT_.out HW_.out (by kernel_rfl)) (fun _ _ _ h => h) (Or.inl ⟨by rfl, ?_⟩) hHeld ?_ ?_; rotate_left
        · rintro w' ⟨s0, s1, s2, s3⟩; go_simp; with_reducible rfl
        rotate_left
        · simp only [Act.put, zA, zB, zC, Qy, QB]; rfl
        refine QX (i := 2) (N := some 18) (v := ?_) (a' := ?_) #[true, true, true, false, false, false, true, false, false, false, false, false, false, false] rfl rfl (QK HT_.out (by kernel_rfl)) (fun _ _ _ h => h) (Or.inl ⟨by rfl, ?_⟩) ?_ ?_; rotate_left
        · intro w'; go_simp; with_reducible rfl
        rotate_left
        · simp only [Act.put, zA, zB, zC, Qy, QB]; rfl
        refine ZU (i := 3) (N := some 19) (v := ?_) (a' := ?_) #[true, true, true, true, false, false, true, false, false, false, false, false, false, false] rfl rfl (Zp HT_.out HW_.out (by kernel_rfl)) (fun _ _ _ h => h) (Or.inl ⟨by rfl, ?_⟩) hHeld ?_ ?_; rotate_left
        · rintro w' ⟨s0, s1, s2, s3⟩; go_simp; with_reducible rfl
        rotate_left
        · simp only [Act.put, zA, zB, zC, Qy, QB]; rfl
        refine QX (i := 4) (N := some 20) (v := ?_) (a' := ?_) #[true, true, true, true, true, false, true, false, false, false, false, false, false, false] rfl rfl (QK HT_.out (by kernel_rfl)) (fun _ _ _ h => h) (Or.inl ⟨by rfl, ?_⟩) ?_ ?_; rotate_left
        · intro w'; go_simp; with_reducible rfl
        rotate_left
        · simp only [Act.put, zA, zB, zC, Qy, QB]; rfl
        refine ZU (i := 7) (N := some 23) (v := ?_) (a' := ?_) #[true, true, true, true, true, false, true, true, false, false, false, false, false, false] rfl rfl (Zp HT_.out HW_.out (by kernel_rfl)) (fun _ _ _ h => h) (Or.inl ⟨by rfl, ?_⟩) hHeld ?_ ?_; rotate_left
        · rintro w' ⟨s0, s1, s2, s3⟩; go_simp; with_reducible rfl
        rotate_left
        · simp only [Act.put, zA, zB, zC, Qy, QB]; rfl
        refine QX (i := 8) (N := some 24) (v := ?_) (a' := ?_) #[true, true, true, true, true, false, true, true, true, false, false, false, false, false] rfl rfl (QK HT_.out (by kernel_rfl)) (fun _ _ _ h => h) (Or.inl ⟨by rfl, ?_⟩) ?_ ?_; rotate_left
        · intro w'; go_simp; with_reducible rfl
        rotate_left
        · simp only [Act.put, zA, zB, zC, Qy, QB]; rfl
        refine ZU (i := 9) (N := some 25) (v := ?_) (a' := ?_) #[true, true, true, true, true, false, true, true, true, true, false, false, false, false] rfl rfl (Zp HT_.out HW_.out (by kernel_rfl)) (fun _ _ _ h => h) (Or.inl ⟨by rfl, ?_⟩) hHeld ?_ ?_; rotate_left
        · rintro w' ⟨s0, s1, s2, s3⟩; go_simp; with_reducible rfl
        rotate_left
        · simp only [Act.put, zA, zB, zC, Qy, QB]; rfl
        refine QX (i := 10) (N := some 26) (v := ?_) (a' := ?_) #[true, true, true, true, true, false, true, true, true, true, true, false, false, false] rfl rfl (QK HT_.out (by kernel_rfl)) (fun _ _ _ h => h) (Or.inl ⟨by rfl, ?_⟩) ?_ ?_; rotate_left
        · intro w'; go_simp; with_reducible rfl
        rotate_left
        · simp only [Act.put, zA, zB, zC, Qy, QB]; rfl
        refine join_ (σ := Value × Value) 1 #[true, true, true, true, true, true, true, true, true, true, true, true, true, false] (fun s_ => [(21, s_.1), (27, s_.2), (6, s_.1)]) (fun s_ w' => (w'.cell? ⟨ag, 0, none⟩ = some (.slice (some bI) ae.length an) ∧ w'.cell? ⟨ag, 1, none⟩ = some (.slice aj af.length al) ∧ w'.cell? bI = some (.slice eu (Qu ae 0).length et) ∧ w'.cell? bI = some (.slice eu (Qu ae 0).length et)) ∧ (Kd.R (Kd.int .i64) 3 w' w.heap.size (fun k_ => some k_ ≠ (s_.2 : Value).ownBlock) s_.1 du) ∧ (Kd.R (Kd.int .i64) 3 w' w.heap.size (fun k_ => some k_ ≠ (s_.1 : Value).ownBlock) s_.2 jh) ∧ (w'.heap[ag]? = some (.cells #[.slice (some bI) ae.length an, .slice aj af.length al] 24 (0, 0))) ∧ (Below w.heap.size w w')) ?_ ?_; rotate_left
        · intro hCont; refine two_ (i := 5) (j := 11) (Ni := some 21) (Nj := some 27) #[true, true, true, true, true, true, true, true, true, true, true, false, false, false] #[true, true, true, true, true, false, true, true, true, true, true, true, false, false] rfl rfl rfl rfl (two_of HT_.out (by kernel_rfl)) (by decide) (by decide) (fun K hK => ?_) (fun K hK => ?_)
          · skip
            refine Kd.Y0 (Kd.int .i64) _ 3 (by rfl) (N := 21) rfl 28 _ _ rfl ((Qu ae 0).length : Int) rfl rfl Try.underlying28 (.int .i64 0) 8 info3 rfl (by decide) (by omega) 0 (ok := fun _ => True) (okp := fun _ => True) rfl (fun _ hk => hk) trivial (of_decide_eq_true (by first | (with_reducible assumption) | assumption)) (Nat.le_trans (Nat.mul_le_mul_right _ (of_decide_eq_true (by first | (with_reducible assumption) | assumption) : ((Qu ae 0).length : Int).toNat ≤ 35184372088832)) (by omega)) (Below.refl _ _) (Nat.le_refl _) ?_; intro ff w8 ho9 hb hg_ hnew_; clear hg_ hnew_; (first | rw [← iC.out] at ho9 | (simp only [Int.reduceToNat] at ho9; rw [← iC.out] at ho9))
            have bf := aa.mk (Kd.Zg ho9 (Qc (by repeat (first | (with_reducible first | exact HB.out | apply Q0 | apply QF | apply QP | refine Zl ?_ aV.out) | exact HB.out)))); replace ab := aa.mk (Qq (g := ag) (o := .cells #[.slice (some bI) ae.length an, .slice aj af.length al] 24 (0, 0)) (by (with_reducible repeat (first | refine QC ?_ _ | refine QE ?_ | refine Qz ?_ _)); exact ab.out) hb); replace HB := aa.mk (Qa (by repeat (first | (with_reducible first | exact HB.out | apply Q0 | apply QF | apply QP | refine Zl ?_ aV.out) | exact HB.out)) hb); clear hb ho9; refine hK.out _ _ ⟨(Qd ab.out 0).trans rfl, (Qd ab.out 1).trans rfl, ((HB.out.cell (World.block_lt_of_cell? w _ cS)).trans cS), ((HB.out.cell (World.block_lt_of_cell? w _ cR)).trans cR)⟩ (fun hHeld => ?_); clear hK K; refine Yc (a' := ?_) ?_ ?_; rotate_left
            · show Act.put _ (some 21) _ = _
              simp only [Act.put, zA, zB, zC, Qy, QB]; rfl
            refine QX (i := 12) (N := some 6) (v := ?_) (a' := ?_) #[true, true, true, true, true, true, true, true, true, true, true, false, true, false] rfl rfl (QK HT_.out (by kernel_rfl)) (fun _ _ _ h => h) (Or.inl ⟨by rfl, ?_⟩) ?_ ?_; rotate_left
            · intro w'; go_simp; with_reducible rfl
            rotate_left
            · simp only [Act.put, zA, zB, zC, Qy, QB]; rfl
            refine one_ (i := 11) (N := some 27) #[true, true, true, true, true, true, true, true, true, true, true, true, true, false] rfl rfl (ZT HT_.out (by kernel_rfl)) (by decide) (fun K hK => ?_); refine Kd.Y0 (Kd.int .i64) _ 3 (by rfl) (N := 27) rfl 28 _ _ rfl ((Qu ae 0).length : Int) rfl rfl Try.underlying28 (.int .i64 0) 8 info3 rfl (by decide) (by omega) 0 (ok := fun _ => True) (okp := fun _ => True) rfl (fun _ hk => hk) trivial (of_decide_eq_true (by first | (with_reducible assumption) | assumption)) (Nat.le_trans (Nat.mul_le_mul_right _ (of_decide_eq_true (by first | (with_reducible assumption) | assumption) : ((Qu ae 0).length : Int).toNat ≤ 35184372088832)) (by omega)) (Below.refl _ _) (Nat.le_refl _) ?_; intro de w10 fo hb hg_ hnew_; clear hg_ hnew_; (first | rw [← kx.out] at fo | (simp only [Int.reduceToNat] at fo; rw [← kx.out] at fo))
            have aW := aa.mk (Kd.Zg (Kd.Zt fo (Kd.R_lt (by (with_reducible repeat (first | apply Kd.R_alloc | apply Kd.QI | apply Kd.QN)); exact bf.out))) (Qc (by repeat (first | (with_reducible first | exact HB.out | apply Q0 | apply QF | apply QP | refine Zl ?_ aV.out) | exact HB.out)))); replace bf := aa.mk (Kd.Zd (by (with_reducible repeat (first | apply Kd.R_alloc | apply Kd.QI | apply Kd.QN)); exact bf.out) (Kd.QS fo) hb); replace ab := aa.mk (Qq (g := ag) (o := .cells #[.slice (some bI) ae.length an, .slice aj af.length al] 24 (0, 0)) (by (with_reducible repeat (first | refine QC ?_ _ | refine QE ?_ | refine Qz ?_ _)); exact ab.out) hb); replace HB := aa.mk (Qa (by repeat (first | (with_reducible first | exact HB.out | apply Q0 | apply QF | apply QP | refine Zl ?_ aV.out) | exact HB.out)) hb); clear hb fo; refine hK.out _ _ ⟨(Qd ab.out 0).trans rfl, (Qd ab.out 1).trans rfl, ((HB.out.cell (World.block_lt_of_cell? w _ cS)).trans cS), ((HB.out.cell (World.block_lt_of_cell? w _ cR)).trans cR)⟩ (fun hHeld => ?_); clear hK K; refine Yc (a' := ?_) ?_ ?_; rotate_left
            · show Act.put _ (some 27) _ = _
              simp only [Act.put, zA, zB, zC, Qy, QB]; rfl
            exact Yc (by simp only [putAll, Act.put, zA, zB, zC]) (hCont (ff, de) _ ⟨hHeld, (by (with_reducible repeat (first | apply Kd.R_alloc | apply Kd.QI | apply Kd.QN)); exact Kd.Q8 bf.out (fun _ hk => hk.2)), (by (with_reducible repeat (first | apply Kd.R_alloc | apply Kd.QI | apply Kd.QN)); exact Kd.Q8 aW.out (fun _ hk => hk.2)), (by (with_reducible repeat (first | refine QC ?_ _ | refine QE ?_ | refine Qz ?_ _)); exact ab.out), (by repeat (first | (with_reducible first | exact HB.out | apply Q0 | apply QF | apply QP | refine Zl ?_ aV.out) | exact HB.out))⟩)
          · skip
            refine Kd.Y0 (Kd.int .i64) _ 3 (by rfl) (N := 27) rfl 28 _ _ rfl ((Qu ae 0).length : Int) rfl rfl Try.underlying28 (.int .i64 0) 8 info3 rfl (by decide) (by omega) 0 (ok := fun _ => True) (okp := fun _ => True) rfl (fun _ hk => hk) trivial (of_decide_eq_true (by first | (with_reducible assumption) | assumption)) (Nat.le_trans (Nat.mul_le_mul_right _ (of_decide_eq_true (by first | (with_reducible assumption) | assumption) : ((Qu ae 0).length : Int).toNat ≤ 35184372088832)) (by omega)) (Below.refl _ _) (Nat.le_refl _) ?_; intro de w8 ho9 hb hg_ hnew_; clear hg_ hnew_; (first | rw [← kx.out] at ho9 | (simp only [Int.reduceToNat] at ho9; rw [← kx.out] at ho9))
            have aW := aa.mk (Kd.Zg ho9 (Qc (by repeat (first | (with_reducible first | exact HB.out | apply Q0 | apply QF | apply QP | refine Zl ?_ aV.out) | exact HB.out)))); replace ab := aa.mk (Qq (g := ag) (o := .cells #[.slice (some bI) ae.length an, .slice aj af.length al] 24 (0, 0)) (by (with_reducible repeat (first | refine QC ?_ _ | refine QE ?_ | refine Qz ?_ _)); exact ab.out) hb); replace HB := aa.mk (Qa (by repeat (first | (with_reducible first | exact HB.out | apply Q0 | apply QF | apply QP | refine Zl ?_ aV.out) | exact HB.out)) hb); clear hb ho9; refine hK.out _ _ ⟨(Qd ab.out 0).trans rfl, (Qd ab.out 1).trans rfl, ((HB.out.cell (World.block_lt_of_cell? w _ cS)).trans cS), ((HB.out.cell (World.block_lt_of_cell? w _ cR)).trans cR)⟩ (fun hHeld => ?_); clear hK K; refine Yc (a' := ?_) ?_ ?_; rotate_left
            · show Act.put _ (some 27) _ = _
              simp only [Act.put, zA, zB, zC, Qy, QB]; rfl
            refine one_ (i := 5) (N := some 21) #[true, true, true, true, true, true, true, true, true, true, true, true, false, false] rfl rfl (ZT HT_.out (by kernel_rfl)) (by decide) (fun K hK => ?_); refine Kd.Y0 (Kd.int .i64) _ 3 (by rfl) (N := 21) rfl 28 _ _ rfl ((Qu ae 0).length : Int) rfl rfl Try.underlying28 (.int .i64 0) 8 info3 rfl (by decide) (by omega) 0 (ok := fun _ => True) (okp := fun _ => True) rfl (fun _ hk => hk) trivial (of_decide_eq_true (by first | (with_reducible assumption) | assumption)) (Nat.le_trans (Nat.mul_le_mul_right _ (of_decide_eq_true (by first | (with_reducible assumption) | assumption) : ((Qu ae 0).length : Int).toNat ≤ 35184372088832)) (by omega)) (Below.refl _ _) (Nat.le_refl _) ?_; intro ff w10 fo hb hg_ hnew_; clear hg_ hnew_; (first | rw [← iC.out] at fo | (simp only [Int.reduceToNat] at fo; rw [← iC.out] at fo))
            have bf := aa.mk (Kd.Zg (Kd.Zt fo (Kd.R_lt (by (with_reducible repeat (first | apply Kd.R_alloc | apply Kd.QI | apply Kd.QN)); exact aW.out))) (Qc (by repeat (first | (with_reducible first | exact HB.out | apply Q0 | apply QF | apply QP | refine Zl ?_ aV.out) | exact HB.out)))); replace aW := aa.mk (Kd.Zd (by (with_reducible repeat (first | apply Kd.R_alloc | apply Kd.QI | apply Kd.QN)); exact aW.out) (Kd.QS fo) hb); replace ab := aa.mk (Qq (g := ag) (o := .cells #[.slice (some bI) ae.length an, .slice aj af.length al] 24 (0, 0)) (by (with_reducible repeat (first | refine QC ?_ _ | refine QE ?_ | refine Qz ?_ _)); exact ab.out) hb); replace HB := aa.mk (Qa (by repeat (first | (with_reducible first | exact HB.out | apply Q0 | apply QF | apply QP | refine Zl ?_ aV.out) | exact HB.out)) hb); clear hb fo; refine hK.out _ _ ⟨(Qd ab.out 0).trans rfl, (Qd ab.out 1).trans rfl, ((HB.out.cell (World.block_lt_of_cell? w _ cS)).trans cS), ((HB.out.cell (World.block_lt_of_cell? w _ cR)).trans cR)⟩ (fun hHeld => ?_); clear hK K; refine Yc (a' := ?_) ?_ ?_; rotate_left
            · show Act.put _ (some 21) _ = _
              simp only [Act.put, zA, zB, zC, Qy, QB]; rfl
            refine QX (i := 12) (N := some 6) (v := ?_) (a' := ?_) #[true, true, true, true, true, true, true, true, true, true, true, true, true, false] rfl rfl (QK HT_.out (by kernel_rfl)) (fun _ _ _ h => h) (Or.inl ⟨by rfl, ?_⟩) ?_ ?_; rotate_left
            · intro w'; go_simp; with_reducible rfl
            rotate_left
            · simp only [Act.put, zA, zB, zC, Qy, QB]; rfl
            exact Yc (by simp only [putAll, Act.put, zA, zB, zC]) (hCont (ff, de) _ ⟨hHeld, (by (with_reducible repeat (first | apply Kd.R_alloc | apply Kd.QI | apply Kd.QN)); exact Kd.Q8 bf.out (fun _ hk => hk.2)), (by (with_reducible repeat (first | apply Kd.R_alloc | apply Kd.QI | apply Kd.QN)); exact Kd.Q8 aW.out (fun _ hk => hk.2)), (by (with_reducible repeat (first | refine QC ?_ _ | refine QE ?_ | refine Qz ?_ _)); exact ab.out), (by repeat (first | (with_reducible first | exact HB.out | apply Q0 | apply QF | apply QP | refine Zl ?_ aV.out) | exact HB.out))⟩)
        rintro ⟨ff, de⟩ w12 ⟨hS_, h0_, h1_, h2_, h3_⟩; have n0_ : aa (Kd.R (Kd.int .i64) 3 w12 w.heap.size (fun k_ => some k_ ≠ (de : Value).ownBlock) ff du) := ⟨h0_⟩; have n1_ : aa (Kd.R (Kd.int .i64) 3 w12 w.heap.size (fun k_ => some k_ ≠ (ff : Value).ownBlock) de jh) := ⟨h1_⟩; have n2_ : aa (w12.heap[ag]? = some (.cells #[.slice (some bI) ae.length an, .slice aj af.length al] 24 (0, 0))) := ⟨h2_⟩; have n3_ : aa (Below w.heap.size w w12) := ⟨h3_⟩; clear ab; clear HB; clear h0_ h1_ h2_ h3_; have bf := n0_; have aW := n1_; have ab := n2_; have HB := n3_; clear n0_ n1_ n2_ n3_; have hHeld : w12.cell? ⟨ag, 0, none⟩ = some (.slice (some bI) ae.length an) ∧ w12.cell? ⟨ag, 1, none⟩ = some (.slice aj af.length al) ∧ w12.cell? bI = some (.slice eu (Qu ae 0).length et) ∧ w12.cell? bI = some (.slice eu (Qu ae 0).length et) := hS_; refine Yc (a' := ?_) ?_ ?_; rotate_left
        · simp only [putAll, Act.put, zA, zB, zC]; rfl
        refine QX (i := 13) (N := some 7) (v := ?_) (a' := ?_) #[true, true, true, true, true, true, true, true, true, true, true, true, true, true] rfl rfl (QK HT_.out (by kernel_rfl)) (fun _ _ _ h => h) (Or.inl ⟨by rfl, ?_⟩) ?_ ?_; rotate_left
        · intro w'; go_simp; with_reducible rfl
        rotate_left
        · simp only [Act.put, zA, zB, zC, Qy, QB]; rfl
        refine YM (Yi HT_.out (by kernel_rfl)) ?_; have dH : w12.cell? ⟨ag, 0, none⟩ = some (.slice (some bI) ae.length an) := (Qd ab.out 0).trans rfl; have dG : w12.cell? ⟨ag, 1, none⟩ = some (.slice aj af.length al) := (Qd ab.out 1).trans rfl; have dF := Qb ab.out 0; have dE := Qb ab.out 1; try go_wp2
        go_loopg [31] k (fun kq v31 w' => ∃ (ax : List Int) (bz : Int), v31 = .int .i64 bz ∧ aa (Qm.l0 kq l1 ax jh ae (ae.length : Int) bz ae af = some (r1, r2)) ∧ aa (kq ≤ k) ∧ aa (Kd.R (Kd.int .i64) 3 w' w.heap.size (fun k_ => some k_ ≠ (de : Value).ownBlock) ff ax) ∧ aa (Kd.R (Kd.int .i64) 3 w' w.heap.size (fun k_ => some k_ ≠ (ff : Value).ownBlock) de jh) ∧ aa (w'.heap[ag]? = some (.cells #[(.slice (some bI) ae.length an), (.slice aj af.length al)] 24 (0, 0))) ∧ aa (Below w.heap.size w w'))
        case atStart => exact ⟨(du), (0), (by first | rfl | (simp; done) | (simp [*]; done)), H', ⟨Nat.le_refl _⟩, ⟨by (with_reducible repeat (first | apply Kd.R_alloc | apply Kd.QI | apply Kd.QN)); exact bf.out⟩, ⟨by (with_reducible repeat (first | apply Kd.R_alloc | apply Kd.QI | apply Kd.QN)); exact aW.out⟩, ⟨by (with_reducible repeat (first | refine QC ?_ _ | refine QE ?_ | refine Qz ?_ _)); exact ab.out⟩, ⟨by repeat (first | (with_reducible first | exact HB.out | apply Q0 | apply QF | apply QP | refine Zl ?_ aV.out) | exact HB.out)⟩⟩
        case round =>
          clear H'; try clear c1
          try clear p1
          try clear q1
          try clear hx1
          try clear qi1
          try clear p2
          try clear c3
          try clear bH
          try clear cx
          try clear c4
          try clear bE
          try clear dO
          try clear c5
          try clear dq
          try clear jn
          try clear c8
          try clear c10
          try clear p10
          try clear q10
          try clear hZ
          try clear ly
          try clear dH
          try clear dG
          try clear dF
          try clear dE
          try clear aG
          try clear bc
          try clear bD
          try clear dh
          try clear bC
          try clear dg
          obtain ⟨ax, bz, rfl, HA, HK1, aI, aC, ab, HB⟩ := hrel; cases gk with
          | zero => exact absurd HA.out (by simp [Qm.l0])
          | succ k1 =>
            have H := HA.out; clear HA; simp only [Qm.l0] at H; by_cases c14 : bz < (ae.length : Int)
            · rw [if_pos c14] at H; have gJ : decide (bz < (ae.length : Int)) = true := decide_eq_true c14; clear c14; by_cases c15 : 0 ≤ bz
              · rw [if_pos c15] at H; have gI : decide (0 ≤ bz) = true := decide_eq_true c15; clear c15; by_cases c16 : bz < (ae.length : Int)
                · rw [if_pos c16] at H; have gH : decide (bz < (ae.length : Int)) = true := decide_eq_true c16; clear c16; have H' := aa.mk H; clear H; have fY : 0 ≤ (bz : Int) := of_decide_eq_true (by first | (with_reducible assumption) | assumption); have fW : bz < (ae.length : Int) := of_decide_eq_true (by first | (with_reducible assumption) | assumption); obtain ⟨nF, m5, mW, mP, bG, dz, dC⟩ := ZO aw.out bz fY fW; obtain rfl : bI = nF := (by injection mP); replace bG := (HB.out.cell (World.block_lt_of_cell? w _ bG)).trans bG; have jP := aa.mk dC; have lp := aa.mk dz; clear dC dz; replace fY := eq_true fY; replace fW := eq_true fW; go_wp2; go_loopg [38] k1 (fun kq v38 w' => ∃ (iH : List Int) (bV : Int), v38 = .int .i64 bV ∧ aa (Qm.l1 kq l1 iH jh bz ae (ae.length : Int) bz (Qu ae bz) ((Qu ae bz).length : Int) bV ae af = some (r1, r2)) ∧ aa (kq ≤ k1) ∧ aa (Kd.R (Kd.int .i64) 3 w' w.heap.size (fun k_ => some k_ ≠ (de : Value).ownBlock) ff iH) ∧ aa (Kd.R (Kd.int .i64) 3 w' w.heap.size (fun k_ => some k_ ≠ (ff : Value).ownBlock) de jh) ∧ aa (w'.heap[ag]? = some (.cells #[(.slice (some bI) ae.length an), (.slice aj af.length al)] 24 (0, 0))) ∧ aa (Below w.heap.size w w'))
                  case atStart => exact ⟨(ax), (0), (by first | rfl | (simp; done) | (simp [*]; done)), H', ⟨Nat.le_refl _⟩, ⟨by (with_reducible repeat (first | apply Kd.R_alloc | apply Kd.QI | apply Kd.QN)); exact aI.out⟩, ⟨by (with_reducible repeat (first | apply Kd.R_alloc | apply Kd.QI | apply Kd.QN)); exact aC.out⟩, ⟨by (with_reducible repeat (first | refine QC ?_ _ | refine QE ?_ | refine Qz ?_ _)); exact ab.out⟩, ⟨by repeat (first | (with_reducible first | exact HB.out | apply Q0 | apply QF | apply QP | refine Zl ?_ aV.out) | exact HB.out)⟩⟩
                  case round =>
                    clear H'; try clear c1
                    try clear p1
                    try clear q1
                    try clear hx1
                    try clear qi1
                    try clear p2
                    try clear c3
                    try clear bH
                    try clear cx
                    try clear c4
                    try clear bE
                    try clear dO
                    try clear c5
                    try clear dq
                    try clear jn
                    try clear c8
                    try clear c10
                    try clear p10
                    try clear q10
                    try clear hZ
                    try clear ly
                    try clear c11
                    try clear p11
                    try clear q11
                    try clear sr
                    try clear c14
                    try clear gJ
                    try clear c15
                    try clear gI
                    try clear c16
                    try clear gH
                    try clear dH
                    try clear dG
                    try clear dF
                    try clear dE
                    try clear aG
                    try clear bc
                    try clear bG
                    try clear p1
                    try clear p10
                    try clear bD
                    try clear dh
                    try clear fY
                    try clear p2
                    try clear q1
                    try clear q10
                    try clear bC
                    try clear dg
                    try clear fW
                    obtain ⟨iH, bV, rfl, HA, HK2, aI, aC, ab, HB⟩ := hrel; cases gk with
                    | zero => exact absurd HA.out (by simp [Qm.l1])
                    | succ k2 =>
                      have H := HA.out; clear HA; simp only [Qm.l1] at H; by_cases c17 : bV < ((Qu ae bz).length : Int)
                      · rw [if_pos c17] at H; have fT : decide (bV < ((Qu ae bz).length : Int)) = true := decide_eq_true c17; clear c17; by_cases c18 : 0 ≤ bV
                        · rw [if_pos c18] at H; have j6 : decide (0 ≤ bV) = true := decide_eq_true c18; clear c18; by_cases c19 : bV < ((Qu ae bz).length : Int)
                          · rw [if_pos c19] at H; have cN : decide (bV < ((Qu ae bz).length : Int)) = true := decide_eq_true c19; clear c19; by_cases c20 : bV < (iH.length : Int)
                            · rw [if_pos c20] at H; have gZ : decide (bV < (iH.length : Int)) = true := decide_eq_true c20; clear c20; by_cases c21 : 0 ≤ bz
                              · rw [if_pos c21] at H; have iZ : decide (0 ≤ bz) = true := decide_eq_true c21; clear c21; by_cases c22 : bz < (l1.length : Int)
                                · rw [if_pos c22] at H; have lY : decide (bz < (l1.length : Int)) = true := decide_eq_true c22; clear c22; obtain ⟨mf, gv⟩ : ∃ y_ : List Int, y_ = (iH.set (bV : Int).toNat (wrap64 ((rd iH bV) + (wrap64 ((rd l1 bz) * (rd (Qu ae bz) bV)))))) := ⟨_, rfl⟩; replace H : (Qm.l1 k2 l1 mf jh bz ae (ae.length : Int) bz (Qu ae bz) ((Qu ae bz).length : Int) (wrap64 (bV + 1)) ae af) = some (r1, r2) := by first | (rw [gv]; with_reducible exact H) | (have H2_ := (Option.bind_some _ _).symm.trans H; rw [gv]; with_reducible exact H2_) | (have H2_ := (Option.bind_some _ _).symm.trans H; with_reducible exact H2_) | with_reducible exact H | (rw [gv]; exact H) | exact H
                                  have nM := aa.mk gv; clear gv; have H' := aa.mk H; clear H; have iO : 0 ≤ (bV : Int) := of_decide_eq_true (by first | (with_reducible assumption) | assumption); have iL : bV < ((Qu ae bz).length : Int) := of_decide_eq_true (by first | (with_reducible assumption) | assumption); obtain ⟨ku, oZ, fB⟩ := Kd.Zh jP.out bV iO iL; cases oZ; replace fB := (HB.out.cell (World.block_lt_of_cell? w _ fB)).trans fB; replace iO := eq_true iO; replace iL := eq_true iL; try go_wp2
                                  replace aI := aa.mk (Kd.QN aI.out); replace aC := aa.mk (Kd.QN aC.out); replace ab := aa.mk (QE ab.out); replace HB := aa.mk (QP HB.out); obtain ⟨zG, qO, qG⟩ := Kd.Zc aI.out; (first | subst qG | (injection qG with f1_ f2_ f3_; have f4_ := f1_.symm; have f5_ := f3_.symm; clear f1_ f2_ f3_; subst f4_; subst f5_))
                                  have ej : 0 ≤ (bV : Int) := of_decide_eq_true (by first | (with_reducible assumption) | assumption); have ei : bV < (iH.length : Int) := of_decide_eq_true (by first | (with_reducible assumption) | assumption); obtain ⟨fv, j3, bq⟩ := Kd.Zh (Kd.QA aI.out).2.2 bV ej ei; cases j3; replace ej := eq_true ej; replace ei := eq_true ei; have iN : 0 ≤ (bz : Int) := of_decide_eq_true (by first | (with_reducible assumption) | assumption); have iK : bz < (l1.length : Int) := of_decide_eq_true (by first | (with_reducible assumption) | assumption); obtain ⟨l7, oY, b9⟩ := Kd.Zh HR1.out bz iN iK; have fC := b9; cases oY; replace b9 := (HB.out.cell (World.block_lt_of_cell? w _ b9)).trans b9; replace iN := eq_true iN; replace iK := eq_true iK; have p23 : 0 ≤ (bV : Int) := of_decide_eq_true (by first | (with_reducible assumption) | assumption); have q23 : (bV : Int) < ((iH.length : Int) : Int) := of_decide_eq_true (by first | (with_reducible assumption) | assumption); obtain ⟨sY, iT, n8, uR, yF, Bh, vI⟩ := Kd.VG aI.out (by omega); (first | cases n8 | (injection n8 with ea_ en_ ec_; (first | subst ea_ | (injection ea_ with ea_; subst ea_)); subst ec_; clear en_))
                                  have zz := aa.mk uR; have zv := aa.mk vI; clear uR yF vI; (first | simp only [Z4] at bq | skip)
                                  obtain ⟨mA, sF⟩ := Kd.Vr 0 aI.out (bV : Int) p23 q23; replace p23 := eq_true p23; replace q23 := eq_true q23; have tK := Kd.R_putn aI.out (bV : Int) (wrap64 ((rd iH bV) + (wrap64 ((rd l1 bz) * (rd (Qu ae bz) bV))))); rw [← nM.out] at tK; have vB := aa.mk tK; clear tK; refine Yt (n := 13) (S := fun w' => w'.cell? ⟨sY, (bV).toNat, none⟩ = some (.int .i64 (rd iH bV)) ∧ w'.cell? (l7.add (bz).toNat) = some (.int .i64 (rd l1 bz))) (ds := [12]) #[false, false, false, false, false, false, false, false, false, false, false, false, false] (by kernel_rfl) rfl rfl ⟨bq, ((HB.out.cell (World.block_lt_of_cell? w _ fC)).trans fC)⟩ (fun hHeld => ?_); refine ZV Qm.tab8 Qm.bits8 (fun HT_ HW_ => ?_); generalize wr.drew = w24 at aI aC ab HB zv vB sF bq b9 mA hHeld ⊢; refine QX (i := 0) (N := some 43) (v := ?_) (a' := ?_) #[true, false, false, false, false, false, false, false, false, false, false, false, false] rfl rfl (QK HT_.out (by kernel_rfl)) (fun _ _ _ h => h) (Or.inl ⟨by rfl, ?_⟩) ?_ ?_; rotate_left
                                  · intro w'; go_simp; with_reducible rfl
                                  rotate_left
                                  · simp only [Act.put, zA, zB, zC, Qy, QB]; rfl
                                  refine QX (i := 1) (N := some 44) (v := ?_) (a' := ?_) #[true, true, false, false, false, false, false, false, false, false, false, false, false] rfl rfl (QK HT_.out (by kernel_rfl)) (fun _ _ _ h => h) (Or.inl ⟨by rfl, ?_⟩) ?_ ?_; rotate_left
                                  · intro w'; go_simp; with_reducible rfl
                                  rotate_left
                                  · simp only [Act.put, zA, zB, zC, Qy, QB]; rfl
                                  refine QX (i := 2) (N := some 45) (v := ?_) (a' := ?_) #[true, true, true, false, false, false, false, false, false, false, false, false, false] rfl rfl (QK HT_.out (by kernel_rfl)) (fun _ _ _ h => h) (Or.inl ⟨by rfl, ?_⟩) ?_ ?_; rotate_left
                                  · intro w'; go_simp; with_reducible rfl
                                  rotate_left
                                  · simp only [Act.put, zA, zB, zC, Qy, QB]; rfl
                                  refine QX (i := 4) (N := some 47) (v := ?_) (a' := ?_) #[true, true, true, false, true, false, false, false, false, false, false, false, false] rfl rfl (QK HT_.out (by kernel_rfl)) (fun _ _ _ h => h) (Or.inl ⟨by rfl, ?_⟩) ?_ ?_; rotate_left
                                  · intro w'; go_simp; with_reducible rfl
                                  rotate_left
                                  · simp only [Act.put, zA, zB, zC, Qy, QB]; rfl
                                  refine QX (i := 5) (N := some 48) (v := ?_) (a' := ?_) #[true, true, true, false, true, true, false, false, false, false, false, false, false] rfl rfl (QK HT_.out (by kernel_rfl)) (fun _ _ _ h => h) (Or.inl ⟨by rfl, ?_⟩) ?_ ?_; rotate_left
                                  · intro w'; go_simp; with_reducible rfl
                                  rotate_left
                                  · simp only [Act.put, zA, zB, zC, Qy, QB]; rfl
                                  refine QX (i := 6) (N := some 49) (v := ?_) (a' := ?_) #[true, true, true, false, true, true, true, false, false, false, false, false, false] rfl rfl (QK HT_.out (by kernel_rfl)) (fun _ _ _ h => h) (Or.inl ⟨by rfl, ?_⟩) ?_ ?_; rotate_left
                                  · intro w'; go_simp; with_reducible rfl
                                  rotate_left
                                  · simp only [Act.put, zA, zB, zC, Qy, QB]; rfl
                                  refine QX (i := 8) (N := some 51) (v := ?_) (a' := ?_) #[true, true, true, false, true, true, true, false, true, false, false, false, false] rfl rfl (QK HT_.out (by kernel_rfl)) (fun _ _ _ h => h) (Or.inl ⟨by rfl, ?_⟩) ?_ ?_; rotate_left
                                  · intro w'; go_simp; with_reducible rfl
                                  rotate_left
                                  · simp only [Act.put, zA, zB, zC, Qy, QB]; rfl
                                  refine ZU (i := 3) (N := some 46) (v := ?_) (a' := ?_) #[true, true, true, true, true, true, true, false, true, false, false, false, false] rfl rfl (Zp HT_.out HW_.out (by kernel_rfl)) (fun _ _ _ h => h) (Or.inl ⟨by rfl, ?_⟩) hHeld ?_ ?_; rotate_left
                                  · rintro w' ⟨s0, s1⟩; go_simp; with_reducible rfl
                                  rotate_left
                                  · simp only [Act.put, zA, zB, zC, Qy, QB]; rfl
                                  refine ZU (i := 7) (N := some 50) (v := ?_) (a' := ?_) #[true, true, true, true, true, true, true, true, true, false, false, false, false] rfl rfl (Zp HT_.out HW_.out (by kernel_rfl)) (fun _ _ _ h => h) (Or.inl ⟨by rfl, ?_⟩) hHeld ?_ ?_; rotate_left
                                  · rintro w' ⟨s0, s1⟩; go_simp; with_reducible rfl
                                  rotate_left
                                  · simp only [Act.put, zA, zB, zC, Qy, QB]; rfl
                                  refine QX (i := 9) (N := some 52) (v := ?_) (a' := ?_) #[true, true, true, true, true, true, true, true, true, true, false, false, false] rfl rfl (QK HT_.out (by kernel_rfl)) (fun _ _ _ h => h) (Or.inl ⟨by rfl, ?_⟩) ?_ ?_; rotate_left
                                  · intro w'; go_simp; with_reducible rfl
                                  rotate_left
                                  · simp only [Act.put, zA, zB, zC, Qy, QB]; rfl
                                  refine QX (i := 10) (N := some 53) (v := ?_) (a' := ?_) #[true, true, true, true, true, true, true, true, true, true, true, false, false] rfl rfl (QK HT_.out (by kernel_rfl)) (fun _ _ _ h => h) (Or.inl ⟨by rfl, ?_⟩) ?_ ?_; rotate_left
                                  · intro w'; go_simp; with_reducible rfl
                                  rotate_left
                                  · simp only [Act.put, zA, zB, zC, Qy, QB]; rfl
                                  refine QX (i := 11) (N := some 54) (v := ?_) (a' := ?_) #[true, true, true, true, true, true, true, true, true, true, true, true, false] rfl rfl (QK HT_.out (by kernel_rfl)) (fun _ _ _ h => h) (Or.inl ⟨by rfl, ?_⟩) ?_ ?_; rotate_left
                                  · intro w'; go_simp; with_reducible rfl
                                  rotate_left
                                  · simp only [Act.put, zA, zB, zC, Qy, QB]; rfl
                                  refine last_ (i := 12) (N := none) #[true, true, true, true, true, true, true, true, true, true, true, true, true] rfl rfl (ZT HT_.out (by kernel_rfl)) (by decide) (fun K hK => ?_); refine skip_ (w1 := ?_) (by rfl) rfl ?_ ?_; rotate_left
                                  · go_simp; rfl
                                  refine hK.out _ _ ?_; clear hK K; refine YM (Yi HT_.out (by kernel_rfl)) ?_; try go_wp2
                                  go_roundg k2
                                  case measure => have := HK1.out; have := HK2.out; omega
                                  case rel => exact ⟨(mf), (wrap64 (bV + 1)), (by first | rfl | (simp; done) | (simp [*]; done)), H', ⟨by have := HK1.out; have := HK2.out; omega⟩, ⟨by (with_reducible repeat (first | apply Kd.R_alloc | apply Kd.QI | apply Kd.QN)); exact vB.out⟩, ⟨by (with_reducible repeat (first | apply Kd.R_alloc | apply Kd.QI | apply Kd.QN)); exact Kd.Q8 (Kd.R_far (p := ⟨sY, (bV : Int).toNat, none⟩) (Kd.Q8 aC.out (fun k_ hk => (⟨hk, fun e_ => hk (by rw [e_]; rfl)⟩ : _ ∧ k_ ≠ sY))) (fun _ hk => hk.2) (.int .i64 (wrap64 ((rd iH bV) + (wrap64 ((rd l1 bz) * (rd (Qu ae bz) bV))))))) (fun _ hk => hk.1)⟩, ⟨by (with_reducible repeat (first | refine QC ?_ _ | refine QE ?_ | refine Qz ?_ _)); refine blk_far ?_ (by have h_ := Kd.R_ne aI.out ab.out (by decide); intro e_; exact h_ (by rw [e_]; rfl)) _; (with_reducible repeat (first | refine QC ?_ _ | refine QE ?_ | refine Qz ?_ _)); exact ab.out⟩, ⟨by repeat (first | (with_reducible first | exact HB.out | apply Q0 | apply QF | apply QP | refine Zl ?_ zz.out | refine Zl ?_ aV.out) | exact HB.out)⟩⟩
                                · rw [if_neg c22] at H; exact absurd H (by simp)
                              · rw [if_neg c21] at H; exact absurd H (by simp)
                            · rw [if_neg c20] at H; exact absurd H (by simp)
                          · rw [if_neg c19] at H; exact absurd H (by simp)
                        · rw [if_neg c18] at H; exact absurd H (by simp)
                      · rw [if_neg c17] at H; have fT : decide (bV < ((Qu ae bz).length : Int)) = false := decide_eq_false c17; clear c17; have H' := aa.mk H; clear H; go_wp2; go_roundg k2
                        case measure => have := HK1.out; have := HK2.out; omega
                        case rel => exact ⟨(iH), (wrap64 (bz + 1)), (by first | rfl | (simp; done) | (simp [*]; done)), H', ⟨by have := HK1.out; have := HK2.out; omega⟩, ⟨by (with_reducible repeat (first | apply Kd.R_alloc | apply Kd.QI | apply Kd.QN)); exact aI.out⟩, ⟨by (with_reducible repeat (first | apply Kd.R_alloc | apply Kd.QI | apply Kd.QN)); exact aC.out⟩, ⟨by (with_reducible repeat (first | refine QC ?_ _ | refine QE ?_ | refine Qz ?_ _)); exact ab.out⟩, ⟨by repeat (first | (with_reducible first | exact HB.out | apply Q0 | apply QF | apply QP | refine Zl ?_ aV.out) | exact HB.out)⟩⟩
                · rw [if_neg c16] at H; exact absurd H (by simp)
              · rw [if_neg c15] at H; exact absurd H (by simp)
            · rw [if_neg c14] at H; have gJ : decide (bz < (ae.length : Int)) = false := decide_eq_false c14; clear c14; have H' := aa.mk H; clear H; have jJ : wr.cell? ⟨ag, 0, none⟩ = some (.slice (some bI) ae.length an) := (Qd ab.out 0).trans rfl; have jI : wr.cell? ⟨ag, 1, none⟩ = some (.slice aj af.length al) := (Qd ab.out 1).trans rfl; have jD := Qb ab.out 0; have jC := Qb ab.out 1; go_wp2; go_loopg [60] k1 (fun kq v60 w' => ∃ (aE : List Int) (bK : Int), v60 = .int .i64 bK ∧ aa (Qm.l2 kq l1 ax aE af (af.length : Int) bK ae af = some (r1, r2)) ∧ aa (kq ≤ k1) ∧ aa (Kd.R (Kd.int .i64) 3 w' w.heap.size (fun k_ => some k_ ≠ (de : Value).ownBlock) ff ax) ∧ aa (Kd.R (Kd.int .i64) 3 w' w.heap.size (fun k_ => some k_ ≠ (ff : Value).ownBlock) de aE) ∧ aa (w'.heap[ag]? = some (.cells #[(.slice (some bI) ae.length an), (.slice aj af.length al)] 24 (0, 0))) ∧ aa (Below w.heap.size w w'))
              case atStart => exact ⟨(jh), (0), (by first | rfl | (simp; done) | (simp [*]; done)), H', ⟨Nat.le_refl _⟩, ⟨by (with_reducible repeat (first | apply Kd.R_alloc | apply Kd.QI | apply Kd.QN)); exact aI.out⟩, ⟨by (with_reducible repeat (first | apply Kd.R_alloc | apply Kd.QI | apply Kd.QN)); exact aC.out⟩, ⟨by (with_reducible repeat (first | refine QC ?_ _ | refine QE ?_ | refine Qz ?_ _)); exact ab.out⟩, ⟨by repeat (first | (with_reducible first | exact HB.out | apply Q0 | apply QF | apply QP | refine Zl ?_ aV.out) | exact HB.out)⟩⟩
              case round =>
                clear H'; try clear c1
                try clear p1
                try clear q1
                try clear hx1
                try clear qi1
                try clear c2
                try clear p2
                try clear q2
                try clear hx2
                try clear hf2
                try clear c3
                try clear bH
                try clear cx
                try clear c4
                try clear bE
                try clear dO
                try clear c5
                try clear dq
                try clear jn
                try clear p6
                try clear c8
                try clear c10
                try clear p10
                try clear q10
                try clear hZ
                try clear ly
                try clear c11
                try clear p11
                try clear q11
                try clear sr
                try clear c14
                try clear gJ
                try clear c15
                try clear gI
                try clear c16
                try clear gH
                try clear c17
                try clear fT
                try clear c18
                try clear j6
                try clear c19
                try clear cN
                try clear c20
                try clear gZ
                try clear c21
                try clear iZ
                try clear c22
                try clear lY
                try clear p23
                try clear q23
                try clear yb
                try clear yu
                try clear dH
                try clear dG
                try clear jJ
                try clear jI
                try clear dF
                try clear dE
                try clear jD
                try clear jC
                try clear aG
                try clear bc
                try clear bG
                try clear fB
                try clear bq
                try clear b9
                try clear mA
                try clear p1
                try clear p10
                try clear bD
                try clear dh
                try clear p11
                try clear fY
                try clear iO
                try clear ej
                try clear iN
                try clear p2
                try clear p23
                try clear q1
                try clear q10
                try clear bC
                try clear dg
                try clear q11
                try clear fW
                try clear iL
                try clear ei
                try clear iK
                try clear q23
                obtain ⟨aE, bK, rfl, HA, HK2, aI, aC, ab, HB⟩ := hrel; cases gk with
                | zero => exact absurd HA.out (by simp [Qm.l2])
                | succ k2 =>
                  have H := HA.out; clear HA; simp only [Qm.l2] at H; by_cases c28 : bK < (af.length : Int)
                  · rw [if_pos c28] at H; have lX : decide (bK < (af.length : Int)) = true := decide_eq_true c28; clear c28; by_cases c29 : 0 ≤ bK
                    · rw [if_pos c29] at H; have lW : decide (0 ≤ bK) = true := decide_eq_true c29; clear c29; by_cases c30 : bK < (af.length : Int)
                      · rw [if_pos c30] at H; have nD : decide (bK < (af.length : Int)) = true := decide_eq_true c30; clear c30; have H' := aa.mk H; clear H; have hY : 0 ≤ (bK : Int) := of_decide_eq_true (by first | (with_reducible assumption) | assumption); have hU : bK < (af.length : Int) := of_decide_eq_true (by first | (with_reducible assumption) | assumption); obtain ⟨ew, kg, lb, oX, cQ, eW, eZ⟩ := ZO ay.out bK hY hU; cases oX; replace cQ := (HB.out.cell (World.block_lt_of_cell? w _ cQ)).trans cQ; have dV := aa.mk eZ; have nW := aa.mk eW; clear eZ eW; replace hY := eq_true hY; replace hU := eq_true hU; go_wp2; go_loopg [67] k2 (fun kq v67 w' => ∃ (db : List Int) (bJ : Int), v67 = .int .i64 bJ ∧ aa (Qm.l3 kq l1 ax db bK af (af.length : Int) bK (Qu af bK) ((Qu af bK).length : Int) bJ ae af = some (r1, r2)) ∧ aa (kq ≤ k2) ∧ aa (Kd.R (Kd.int .i64) 3 w' w.heap.size (fun k_ => some k_ ≠ (de : Value).ownBlock) ff ax) ∧ aa (Kd.R (Kd.int .i64) 3 w' w.heap.size (fun k_ => some k_ ≠ (ff : Value).ownBlock) de db) ∧ aa (w'.heap[ag]? = some (.cells #[(.slice (some bI) ae.length an), (.slice (some ew) af.length al)] 24 (0, 0))) ∧ aa (Below w.heap.size w w'))
                        case atStart => exact ⟨(aE), (0), (by first | rfl | (simp; done) | (simp [*]; done)), H', ⟨Nat.le_refl _⟩, ⟨by (with_reducible repeat (first | apply Kd.R_alloc | apply Kd.QI | apply Kd.QN)); exact aI.out⟩, ⟨by (with_reducible repeat (first | apply Kd.R_alloc | apply Kd.QI | apply Kd.QN)); exact aC.out⟩, ⟨by (with_reducible repeat (first | refine QC ?_ _ | refine QE ?_ | refine Qz ?_ _)); exact ab.out⟩, ⟨by repeat (first | (with_reducible first | exact HB.out | apply Q0 | apply QF | apply QP | refine Zl ?_ aV.out) | exact HB.out)⟩⟩
                        case round =>
                          clear H'; try clear c1
                          try clear p1
                          try clear q1
                          try clear hx1
                          try clear qi1
                          try clear c2
                          try clear p2
                          try clear q2
                          try clear hx2
                          try clear hf2
                          try clear c3
                          try clear bH
                          try clear cx
                          try clear c4
                          try clear bE
                          try clear dO
                          try clear c5
                          try clear dq
                          try clear jn
                          try clear p6
                          try clear c8
                          try clear c10
                          try clear p10
                          try clear q10
                          try clear hZ
                          try clear ly
                          try clear c11
                          try clear p11
                          try clear q11
                          try clear sr
                          try clear c14
                          try clear gJ
                          try clear c15
                          try clear gI
                          try clear c16
                          try clear gH
                          try clear c17
                          try clear fT
                          try clear c18
                          try clear j6
                          try clear c19
                          try clear cN
                          try clear c20
                          try clear gZ
                          try clear c21
                          try clear iZ
                          try clear c22
                          try clear lY
                          try clear p23
                          try clear q23
                          try clear yb
                          try clear yu
                          try clear c28
                          try clear lX
                          try clear c29
                          try clear lW
                          try clear c30
                          try clear nD
                          try clear dH
                          try clear dG
                          try clear jJ
                          try clear jI
                          try clear dF
                          try clear dE
                          try clear jD
                          try clear jC
                          try clear aG
                          try clear bc
                          try clear bG
                          try clear fB
                          try clear bq
                          try clear b9
                          try clear cQ
                          try clear mA
                          try clear p1
                          try clear p10
                          try clear bD
                          try clear dh
                          try clear p11
                          try clear fY
                          try clear iO
                          try clear ej
                          try clear iN
                          try clear hY
                          try clear p2
                          try clear p23
                          try clear p6
                          try clear q1
                          try clear q10
                          try clear bC
                          try clear dg
                          try clear q11
                          try clear fW
                          try clear iL
                          try clear ei
                          try clear iK
                          try clear hU
                          try clear q2
                          try clear q23
                          obtain ⟨db, bJ, rfl, HA, HK3, aI, aC, ab, HB⟩ := hrel; cases gk with
                          | zero => exact absurd HA.out (by simp [Qm.l3])
                          | succ k3 =>
                            have H := HA.out; clear HA; simp only [Qm.l3] at H; by_cases c31 : bJ < ((Qu af bK).length : Int)
                            · rw [if_pos c31] at H; have vf : decide (bJ < ((Qu af bK).length : Int)) = true := decide_eq_true c31; clear c31; by_cases c32 : 0 ≤ bJ
                              · rw [if_pos c32] at H; have Ad : decide (0 ≤ bJ) = true := decide_eq_true c32; clear c32; by_cases c33 : bJ < ((Qu af bK).length : Int)
                                · rw [if_pos c33] at H; have rJ : decide (bJ < ((Qu af bK).length : Int)) = true := decide_eq_true c33; clear c33; by_cases c34 : bJ < (db.length : Int)
                                  · rw [if_pos c34] at H; have Ac : decide (bJ < (db.length : Int)) = true := decide_eq_true c34; clear c34; obtain ⟨gS, oB⟩ : ∃ j_ : Int, (wrap64 ((ae.length : Int) + bK)) = j_ := ⟨_, rfl⟩; replace H : (if 0 ≤ (gS) then (if (gS) < (l1.length : Int) then (Qm.l3 k3 l1 ax (db.set (bJ : Int).toNat (wrap64 ((rd db bJ) + (wrap64 ((rd l1 (gS)) * (rd (Qu af bK) bJ)))))) bK af (af.length : Int) bK (Qu af bK) ((Qu af bK).length : Int) (wrap64 (bJ + 1)) ae af) else (none)) else (none)) = some (r1, r2) := by first | (rw [oB] at H; exact H) | (simp only [oB] at H ⊢; exact H)
                                    have yg : (IntKind.i64.wrap ((ae.length : Int) + bK)) = gS := (Qy _).trans oB; by_cases c36 : 0 ≤ (gS)
                                    · rw [if_pos c36] at H; have Ab : decide (0 ≤ (gS)) = true := decide_eq_true c36; clear c36; by_cases c37 : (gS) < (l1.length : Int)
                                      · rw [if_pos c37] at H; have Aa : decide ((gS) < (l1.length : Int)) = true := decide_eq_true c37; clear c37; obtain ⟨og, gp⟩ : ∃ y_ : List Int, y_ = (db.set (bJ : Int).toNat (wrap64 ((rd db bJ) + (wrap64 ((rd l1 (gS)) * (rd (Qu af bK) bJ)))))) := ⟨_, rfl⟩; replace H : (Qm.l3 k3 l1 ax og bK af (af.length : Int) bK (Qu af bK) ((Qu af bK).length : Int) (wrap64 (bJ + 1)) ae af) = some (r1, r2) := by first | (rw [gp]; with_reducible exact H) | (have H2_ := (Option.bind_some _ _).symm.trans H; rw [gp]; with_reducible exact H2_) | (have H2_ := (Option.bind_some _ _).symm.trans H; with_reducible exact H2_) | with_reducible exact H | (rw [gp]; exact H) | exact H
                                        have nI := aa.mk gp; clear gp; have H' := aa.mk H; clear H; have eT : 0 ≤ (bJ : Int) := of_decide_eq_true (by first | (with_reducible assumption) | assumption); have eS : bJ < ((Qu af bK).length : Int) := of_decide_eq_true (by first | (with_reducible assumption) | assumption); obtain ⟨fU, la, b8⟩ := Kd.Zh dV.out bJ eT eS; cases la; replace b8 := (HB.out.cell (World.block_lt_of_cell? w _ b8)).trans b8; replace eT := eq_true eT; replace eS := eq_true eS; try go_wp2
                                        replace aI := aa.mk (Kd.QN aI.out); replace aC := aa.mk (Kd.QN aC.out); replace ab := aa.mk (QE ab.out); replace HB := aa.mk (QP HB.out); obtain ⟨od, oa, lT⟩ := Kd.Zc aC.out; (first | subst lT | (injection lT with f1_ f2_ f3_; have f4_ := f1_.symm; have f5_ := f3_.symm; clear f1_ f2_ f3_; subst f4_; subst f5_))
                                        have eH : 0 ≤ (bJ : Int) := of_decide_eq_true (by first | (with_reducible assumption) | assumption); have eG : bJ < (db.length : Int) := of_decide_eq_true (by first | (with_reducible assumption) | assumption); obtain ⟨jc, k9, cG⟩ := Kd.Zh (Kd.QA aC.out).2.2 bJ eH eG; cases k9; replace eH := eq_true eH; replace eG := eq_true eG; have iM : 0 ≤ ((gS) : Int) := of_decide_eq_true (by first | (with_reducible assumption) | assumption); have iJ : (gS) < (l1.length : Int) := of_decide_eq_true (by first | (with_reducible assumption) | assumption); obtain ⟨l6, oW, dx⟩ := Kd.Zh HR1.out (gS) iM iJ; have nc := dx; cases oW; replace dx := (HB.out.cell (World.block_lt_of_cell? w _ dx)).trans dx; replace iM := eq_true iM; replace iJ := eq_true iJ; have p38 : 0 ≤ (bJ : Int) := of_decide_eq_true (by first | (with_reducible assumption) | assumption); have q38 : (bJ : Int) < ((db.length : Int) : Int) := of_decide_eq_true (by first | (with_reducible assumption) | assumption); obtain ⟨sX, Bc, uT, uP, yD, Bf, vF⟩ := Kd.VG aC.out (by omega); (first | cases uT | (injection uT with ea_ en_ ec_; (first | subst ea_ | (injection ea_ with ea_; subst ea_)); subst ec_; clear en_))
                                        have zx := aa.mk uP; have zu := aa.mk vF; clear uP yD vF; (first | simp only [Z4] at cG | skip)
                                        obtain ⟨sq, sE⟩ := Kd.Vr 0 aC.out (bJ : Int) p38 q38; replace p38 := eq_true p38; replace q38 := eq_true q38; have tJ := Kd.R_putn aC.out (bJ : Int) (wrap64 ((rd db bJ) + (wrap64 ((rd l1 (gS)) * (rd (Qu af bK) bJ))))); rw [← nI.out] at tJ; have vA := aa.mk tJ; clear tJ; refine Yt (n := 17) (S := fun w' => w'.cell? ⟨ag, 0, none⟩ = some (.slice (some bI) ae.length an) ∧ w'.cell? ⟨ag, 1, none⟩ = some (.slice (some ew) af.length al) ∧ w'.cell? ⟨sX, (bJ).toNat, none⟩ = some (.int .i64 (rd db bJ)) ∧ w'.cell? (l6.add ((gS)).toNat) = some (.int .i64 (rd l1 (gS)))) (ds := [16]) #[false, false, false, false, false, false, false, false, false, false, false, false, false, false, false, false, false] (by kernel_rfl) rfl rfl ⟨(Qd ab.out 0).trans rfl, (Qd ab.out 1).trans rfl, cG, ((HB.out.cell (World.block_lt_of_cell? w _ nc)).trans nc)⟩ (fun hHeld => ?_); refine ZV Qm.tab17 Qm.bits17 (fun HT_ HW_ => ?_); generalize wr.drew = w39 at aI aC ab HB zu vA sE cG dx sq hHeld ⊢; refine QX (i := 0) (N := some 72) (v := ?_) (a' := ?_) #[true, false, false, false, false, false, false, false, false, false, false, false, false, false, false, false, false] rfl rfl (QK HT_.out (by kernel_rfl)) (fun _ _ _ h => h) (Or.inl ⟨by rfl, ?_⟩) ?_ ?_; rotate_left
                                        · intro w'; go_simp; with_reducible rfl
                                        rotate_left
                                        · simp only [Act.put, zA, zB, zC, Qy, QB]; rfl
                                        refine QX (i := 1) (N := some 73) (v := ?_) (a' := ?_) #[true, true, false, false, false, false, false, false, false, false, false, false, false, false, false, false, false] rfl rfl (QK HT_.out (by kernel_rfl)) (fun _ _ _ h => h) (Or.inl ⟨by rfl, ?_⟩) ?_ ?_; rotate_left
                                        · intro w'; go_simp; with_reducible rfl
                                        rotate_left
                                        · simp only [Act.put, zA, zB, zC, Qy, QB]; rfl
                                        refine QX (i := 2) (N := some 74) (v := ?_) (a' := ?_) #[true, true, true, false, false, false, false, false, false, false, false, false, false, false, false, false, false] rfl rfl (QK HT_.out (by kernel_rfl)) (fun _ _ _ h => h) (Or.inl ⟨by rfl, ?_⟩) ?_ ?_; rotate_left
                                        · intro w'; go_simp; with_reducible rfl
                                        rotate_left
                                        · simp only [Act.put, zA, zB, zC, Qy, QB]; rfl
                                        refine QX (i := 4) (N := some 76) (v := ?_) (a' := ?_) #[true, true, true, false, true, false, false, false, false, false, false, false, false, false, false, false, false] rfl rfl (QK HT_.out (by kernel_rfl)) (fun _ _ _ h => h) (Or.inl ⟨by rfl, ?_⟩) ?_ ?_; rotate_left
                                        · intro w'; go_simp; with_reducible rfl
                                        rotate_left
                                        · simp only [Act.put, zA, zB, zC, Qy, QB]; rfl
                                        refine QX (i := 5) (N := some 77) (v := ?_) (a' := ?_) #[true, true, true, false, true, true, false, false, false, false, false, false, false, false, false, false, false] rfl rfl (QK HT_.out (by kernel_rfl)) (fun _ _ _ h => h) (Or.inl ⟨by rfl, ?_⟩) ?_ ?_; rotate_left
                                        · intro w'; go_simp; with_reducible rfl
                                        rotate_left
                                        · simp only [Act.put, zA, zB, zC, Qy, QB]; rfl
                                        refine QX (i := 8) (N := some 80) (v := ?_) (a' := ?_) #[true, true, true, false, true, true, false, false, true, false, false, false, false, false, false, false, false] rfl rfl (QK HT_.out (by kernel_rfl)) (fun _ _ _ h => h) (Or.inl ⟨by rfl, ?_⟩) ?_ ?_; rotate_left
                                        · intro w'; go_simp; with_reducible rfl
                                        rotate_left
                                        · simp only [Act.put, zA, zB, zC, Qy, QB]; rfl
                                        refine QX (i := 12) (N := some 84) (v := ?_) (a' := ?_) #[true, true, true, false, true, true, false, false, true, false, false, false, true, false, false, false, false] rfl rfl (QK HT_.out (by kernel_rfl)) (fun _ _ _ h => h) (Or.inl ⟨by rfl, ?_⟩) ?_ ?_; rotate_left
                                        · intro w'; go_simp; with_reducible rfl
                                        rotate_left
                                        · simp only [Act.put, zA, zB, zC, Qy, QB]; rfl
                                        refine ZU (i := 3) (N := some 75) (v := ?_) (a' := ?_) #[true, true, true, true, true, true, false, false, true, false, false, false, true, false, false, false, false] rfl rfl (Zp HT_.out HW_.out (by kernel_rfl)) (fun _ _ _ h => h) (Or.inl ⟨by rfl, ?_⟩) hHeld ?_ ?_; rotate_left
                                        · rintro w' ⟨s0, s1, s2, s3⟩; go_simp; with_reducible rfl
                                        rotate_left
                                        · simp only [Act.put, zA, zB, zC, Qy, QB]; rfl
                                        refine ZU (i := 6) (N := some 78) (v := ?_) (a' := ?_) #[true, true, true, true, true, true, true, false, true, false, false, false, true, false, false, false, false] rfl rfl (Zp HT_.out HW_.out (by kernel_rfl)) (fun _ _ _ h => h) (Or.inl ⟨by rfl, ?_⟩) hHeld ?_ ?_; rotate_left
                                        · rintro w' ⟨s0, s1, s2, s3⟩; go_simp; with_reducible rfl
                                        rotate_left
                                        · simp only [Act.put, zA, zB, zC, Qy, QB]; rfl
                                        refine QX (i := 7) (N := some 79) (v := ?_) (a' := ?_) #[true, true, true, true, true, true, true, true, true, false, false, false, true, false, false, false, false] rfl rfl (QK HT_.out (by kernel_rfl)) (fun _ _ _ h => h) (Or.inl ⟨by rfl, ?_⟩) ?_ ?_; rotate_left
                                        · intro w'; go_simp; with_reducible rfl
                                        rotate_left
                                        · simp only [Act.put, zA, zB, zC, Qy, QB]; rfl
                                        refine QX (i := 9) (N := some 81) (v := ?_) (a' := ?_) #[true, true, true, true, true, true, true, true, true, true, false, false, true, false, false, false, false] rfl rfl (QK HT_.out (by kernel_rfl)) (fun _ _ _ h => h) (Or.inl ⟨by rfl, ?_⟩) ?_ ?_; rotate_left
                                        · intro w'; go_simp; with_reducible rfl
                                        rotate_left
                                        · simp only [Act.put, zA, zB, zC, Qy, QB]; rfl
                                        refine QX (i := 10) (N := some 82) (v := ?_) (a' := ?_) #[true, true, true, true, true, true, true, true, true, true, true, false, true, false, false, false, false] rfl rfl (QK HT_.out (by kernel_rfl)) (fun _ _ _ h => h) (Or.inl ⟨by rfl, ?_⟩) ?_ ?_; rotate_left
                                        · intro w'; go_simp; with_reducible rfl
                                        rotate_left
                                        · simp only [Act.put, zA, zB, zC, Qy, QB]; rfl
                                        refine ZU (i := 11) (N := some 83) (v := ?_) (a' := ?_) #[true, true, true, true, true, true, true, true, true, true, true, true, true, false, false, false, false] rfl rfl (Zp HT_.out HW_.out (by kernel_rfl)) (fun _ _ _ h => h) (Or.inl ⟨by rfl, ?_⟩) hHeld ?_ ?_; rotate_left
                                        · rintro w' ⟨s0, s1, s2, s3⟩; go_simp; with_reducible rfl
                                        rotate_left
                                        · simp only [Act.put, zA, zB, zC, Qy, QB]; rfl
                                        refine QX (i := 13) (N := some 85) (v := ?_) (a' := ?_) #[true, true, true, true, true, true, true, true, true, true, true, true, true, true, false, false, false] rfl rfl (QK HT_.out (by kernel_rfl)) (fun _ _ _ h => h) (Or.inl ⟨by rfl, ?_⟩) ?_ ?_; rotate_left
                                        · intro w'; go_simp; with_reducible rfl
                                        rotate_left
                                        · simp only [Act.put, zA, zB, zC, Qy, QB]; rfl
                                        refine QX (i := 14) (N := some 86) (v := ?_) (a' := ?_) #[true, true, true, true, true, true, true, true, true, true, true, true, true, true, true, false, false] rfl rfl (QK HT_.out (by kernel_rfl)) (fun _ _ _ h => h) (Or.inl ⟨by rfl, ?_⟩) ?_ ?_; rotate_left
                                        · intro w'; go_simp; with_reducible rfl
                                        rotate_left
                                        · simp only [Act.put, zA, zB, zC, Qy, QB]; rfl
                                        refine QX (i := 15) (N := some 87) (v := ?_) (a' := ?_) #[true, true, true, true, true, true, true, true, true, true, true, true, true, true, true, true, false] rfl rfl (QK HT_.out (by kernel_rfl)) (fun _ _ _ h => h) (Or.inl ⟨by rfl, ?_⟩) ?_ ?_; rotate_left
                                        · intro w'; go_simp; with_reducible rfl
                                        rotate_left
                                        · simp only [Act.put, zA, zB, zC, Qy, QB]; rfl
                                        refine last_ (i := 16) (N := none) #[true, true, true, true, true, true, true, true, true, true, true, true, true, true, true, true, true] rfl rfl (ZT HT_.out (by kernel_rfl)) (by decide) (fun K hK => ?_); refine skip_ (w1 := ?_) (by rfl) rfl ?_ ?_; rotate_left
                                        · go_simp; rfl
                                        refine hK.out _ _ ?_; clear hK K; refine YM (Yi HT_.out (by kernel_rfl)) ?_; try go_wp2
                                        go_roundg k3
                                        case measure => have := HK1.out; have := HK2.out; have := HK3.out; omega
                                        case rel => exact ⟨(og), (wrap64 (bJ + 1)), (by first | rfl | (simp; done) | (simp [*]; done)), H', ⟨by have := HK1.out; have := HK2.out; have := HK3.out; omega⟩, ⟨by (with_reducible repeat (first | apply Kd.R_alloc | apply Kd.QI | apply Kd.QN)); exact Kd.Q8 (Kd.R_far (p := ⟨sX, (bJ : Int).toNat, none⟩) (Kd.Q8 aI.out (fun k_ hk => (⟨hk, fun e_ => hk (by rw [e_]; rfl)⟩ : _ ∧ k_ ≠ sX))) (fun _ hk => hk.2) (.int .i64 (wrap64 ((rd db bJ) + (wrap64 ((rd l1 (gS)) * (rd (Qu af bK) bJ))))))) (fun _ hk => hk.1)⟩, ⟨by (with_reducible repeat (first | apply Kd.R_alloc | apply Kd.QI | apply Kd.QN)); exact vA.out⟩, ⟨by (with_reducible repeat (first | refine QC ?_ _ | refine QE ?_ | refine Qz ?_ _)); refine blk_far ?_ (by have h_ := Kd.R_ne aC.out ab.out (by decide); intro e_; exact h_ (by rw [e_]; rfl)) _; (with_reducible repeat (first | refine QC ?_ _ | refine QE ?_ | refine Qz ?_ _)); exact ab.out⟩, ⟨by repeat (first | (with_reducible first | exact HB.out | apply Q0 | apply QF | apply QP | refine Zl ?_ zx.out | refine Zl ?_ aV.out) | exact HB.out)⟩⟩
                                      · rw [if_neg c37] at H; exact absurd H (by simp)
                                    · rw [if_neg c36] at H; exact absurd H (by simp)
                                  · rw [if_neg c34] at H; exact absurd H (by simp)
                                · rw [if_neg c33] at H; exact absurd H (by simp)
                              · rw [if_neg c32] at H; exact absurd H (by simp)
                            · rw [if_neg c31] at H; have vf : decide (bJ < ((Qu af bK).length : Int)) = false := decide_eq_false c31; clear c31; have H' := aa.mk H; clear H; go_wp2; go_roundg k3
                              case measure => have := HK1.out; have := HK2.out; have := HK3.out; omega
                              case rel => exact ⟨(db), (wrap64 (bK + 1)), (by first | rfl | (simp; done) | (simp [*]; done)), H', ⟨by have := HK1.out; have := HK2.out; have := HK3.out; omega⟩, ⟨by (with_reducible repeat (first | apply Kd.R_alloc | apply Kd.QI | apply Kd.QN)); exact aI.out⟩, ⟨by (with_reducible repeat (first | apply Kd.R_alloc | apply Kd.QI | apply Kd.QN)); exact aC.out⟩, ⟨by (with_reducible repeat (first | refine QC ?_ _ | refine QE ?_ | refine Qz ?_ _)); exact ab.out⟩, ⟨by repeat (first | (with_reducible first | exact HB.out | apply Q0 | apply QF | apply QP | refine Zl ?_ aV.out) | exact HB.out)⟩⟩
                      · rw [if_neg c30] at H; exact absurd H (by simp)
                    · rw [if_neg c29] at H; exact absurd H (by simp)
                  · rw [if_neg c28] at H; have lX : decide (bK < (af.length : Int)) = false := decide_eq_false c28; clear c28; simp only [Option.some.injEq, Prod.mk.injEq] at H; obtain ⟨rfl, rfl⟩ := H; go_wp2; go_ret2; exact ⟨_, _, by first | rfl | (simp [Qj, Qi] <;> rfl) | (simp [*, Qj, Qi] <;> rfl), by (with_reducible repeat (first | apply Kd.R_alloc | apply Kd.QI | apply Kd.QN)); exact aI.out, by (with_reducible repeat (first | apply Kd.R_alloc | apply Kd.QI | apply Kd.QN)); exact aC.out, by repeat (first | (with_reducible first | exact HB.out | apply Q0 | apply QF | apply QP | refine Zl ?_ aV.out) | exact HB.out)⟩
      · rw [if_neg c5] at H; exact absurd H (by simp)
    · rw [if_neg c4] at H; exact absurd H (by simp)
  · rw [if_neg c3] at H; exact absurd H (by simp)
def Ze.f (k : Nat) (ae : List (List Int)) (af : List (List Int)) (l1 : List Int) : Option (Bool) := (Qm.f k ae af l1).bind fun ft => ((QL.f k ft.1 ft.2).bind fun t108 => (some t108))
theorem Ze.mono : ∀ a0 a1 a2 k, LeO (Ze.f k a0 a1 a2) (Ze.f (k + 1) a0 a1 a2) := by
 intro a0 a1 a2 k; unfold Ze.f; repeat' first | (with_reducible exact QL.mono _ _ _) | (with_reducible exact Qm.mono _ _ _ _) | (with_reducible exact LeO.refl _) | (with_reducible exact LeO.none _) | (with_reducible refine LeO.ite ?_ ?_) | (with_reducible refine LeO.bind ?_ (fun _ => ?_)) | exact QL.mono _ _ _ | exact Qm.mono _ _ _ _ | exact LeO.none _ | refine LeO.ite ?_ ?_ | refine LeO.bind ?_ (fun _ => ?_)
set_option maxHeartbeats 8000000 in
set_option maxRecDepth 100000 in
theorem Ze.calls (k : Nat) (ak : Option Addr) (an : Nat) (ae : List (List Int)) (aj : Option Addr) (al : Nat) (af : List (List Int)) (A1 : Option Addr) (c1 : Nat) (l1 : List Int) (r : Bool) (w : World) (aN : Kd.C (Kd.slice 3 (Kd.int .i64)) w ak ae.length ae) (aT : ae.length ≤ an) (aM : Kd.C (Kd.slice 3 (Kd.int .i64)) w aj af.length af) (aQ : af.length ≤ al) (hr1 : Kd.C (Kd.int .i64) w A1 l1.length l1) (hc1 : l1.length ≤ c1) (h : Ze.f k ae af l1 = some r) :
  Calls Try.prog 95 #[.agg #[.slice ak ae.length an, .slice aj af.length al], .slice A1 l1.length c1] w fun e w' => e = .returned (.bool r) ∧ Below w.heap.size w w' := by
 have en := Try.underlying24; have aw := aa.mk aN; have az := aa.mk aT; clear aN aT; have ay := aa.mk aM; have aA := aa.mk aQ; clear aM aQ; have HR1 := aa.mk hr1; have HC1 := aa.mk hc1; clear hr1 hc1; have HB := aa.mk (Below.refl w.heap.size w); have H : ((Qm.f k ae af l1).bind fun ft => ((QL.f k ft.1 ft.2).bind fun t108 => (some t108))) = some r := h; clear h; replace H := Option.bind_eq_some_iff.mp H; obtain ⟨⟨t102, t105⟩, A30, H⟩ := H; replace H : ((QL.f k t102 t105).bind fun t108 => (some t108)) = some r := H; have A3 := aa.mk A30; clear A30; replace H := Option.bind_eq_some_iff.mp H; obtain ⟨t108, A40, H⟩ := H; replace H : (some t108) = some r := H; have A4 := aa.mk A40; clear A40; obtain rfl := Option.some.inj H; go_enter Try.func95, Try.ntmps95; go_wp2_with (first | ((with_reducible refine QO (N := 2) rfl ?_); refine Q4 ?hg (N := 2) ?hd (cs := #[.slice ak ae.length an, .slice aj af.length al]) (t := 24) ?hr ?_; (case hd => rfl); (case hg => rfl); (case hr => first | (go_simp; done) | (go_simp; rfl)); intro ag hg w5 hbox hb; have ab := aa.mk (hbox); have bo := aa.mk ((by rw [hg]; exact (Qc bB) : w.heap.size ≤ ag)); have aV := aa.mk ((by rw [hg]; exact (Qc bB) : w.heap.size ≤ ag)); replace HB := aa.mk (Qa bB hb); clear hb hbox hg; have fj : w5.cell? ⟨ag, 0, none⟩ = some (.slice ak ae.length an) := (Qd ab.out 0).trans rfl; have fi : w5.cell? ⟨ag, 1, none⟩ = some (.slice aj af.length al) := (Qd ab.out 1).trans rfl; have fh := Qb ab.out 0; have fg := Qb ab.out 1) | ((with_reducible refine Qg (f := 88) rfl ?_); refine QG (some 10) rfl rfl Try.func88 (by kernel_rfl) rfl #[.agg #[.slice ak ae.length an, .slice aj af.length al], .slice A1 l1.length c1] rfl hA ?_; (with_reducible refine (Qm.calls k _ _ ae _ _ af _ _ l1 t102 t105 _ ?ah ?ai ?aq ?ar ?bh ?bg A3.out).mono ?_); (case ah => exact (Kd.Qo aw.out HB.out)); (case ai => exact az.out); (case aq => exact (Kd.Qo ay.out HB.out)); (case ar => exact aA.out); (case bh => exact (Kd.Qo HR1.out HB.out)); (case bg => exact HC1.out); rintro e w7 ⟨iI, hH, rfl, ho0, ho1, hb⟩; refine ⟨_, rfl, ?_⟩; have a8 := aa.mk (Kd.Zg ho0 (Qc bB)); have bS := aa.mk (Kd.Zg ho1 (Qc bB)); replace ab := aa.mk (Qq ab.out hb); replace HB := aa.mk (Qa bB hb); (try clear hb); (try clear hb2); (try clear hk); (try clear hi); (try clear ho0); (try clear ho1); obtain ⟨Ao8, co8, eo8⟩ := Kd.Zc a8.out; subst eo8; obtain ⟨Ao9, co9, eo9⟩ := Kd.Zc bS.out; subst eo9) | ((with_reducible refine Qg (f := 122) rfl ?_); refine QG (some 15) rfl rfl Try.func122 (by kernel_rfl) rfl #[.slice Ao8 t102.length co8, .slice Ao9 t105.length co9] rfl hA ?_; (with_reducible refine (QL.calls k _ _ t102 _ _ t105 t108 _ ?ah ?ai ?aq ?ar A4.out).mono ?_); (case ah => exact (Kd.QA a8.out).2.2); (case ai => exact (Kd.QA a8.out).2.1); (case aq => exact (Kd.QA bS.out).2.2); (case ar => exact (Kd.QA bS.out).2.1); rintro e w' ⟨rfl, ⟨nd, rfl⟩⟩; refine ⟨_, rfl, ?_⟩))
 go_ret; exact ⟨by first | rfl | (simp [Qj, Qi] <;> rfl) | (simp [*, Qj, Qi] <;> rfl), bB⟩
def Zy.f (k : Nat) (ae : List (List Int)) (af : List (List Int)) (l1 : List Int) (l2 : List Int) : Option (Int) := (Zq.f k ae af l1).bind fun t102 => (if t102 = 0 then ((Zo.f l2 (ae.length : Int) 0 1000).bind fun t103 => (if t103 = true then ((Ql.f k l1).bind fun t104 => (if t104 ≤ 0 then (some 8) else ((Ze.f k ae af l1).bind fun t105 => (if t105 = true then (some 0) else (some 8))))) else (some 1))) else (some t102))
theorem Zy.mono : ∀ a0 a1 a2 a3 k, LeO (Zy.f k a0 a1 a2 a3) (Zy.f (k + 1) a0 a1 a2 a3) := by
 intro a0 a1 a2 a3 k; unfold Zy.f; repeat' first | (with_reducible exact Ql.mono _ _) | (with_reducible exact Ze.mono _ _ _ _) | (with_reducible exact Zq.mono _ _ _ _) | (with_reducible exact LeO.refl _) | (with_reducible exact LeO.none _) | (with_reducible refine LeO.ite ?_ ?_) | (with_reducible refine LeO.bind ?_ (fun _ => ?_)) | exact Ql.mono _ _ | exact Ze.mono _ _ _ _ | exact Zq.mono _ _ _ _ | exact LeO.none _ | refine LeO.ite ?_ ?_ | refine LeO.bind ?_ (fun _ => ?_)
set_option maxHeartbeats 8000000 in
set_option maxRecDepth 100000 in
theorem Zy.calls (k : Nat) (ak : Option Addr) (an : Nat) (ae : List (List Int)) (aj : Option Addr) (al : Nat) (af : List (List Int)) (A1 : Option Addr) (c1 : Nat) (l1 : List Int) (A2 : Option Addr) (c2 : Nat) (l2 : List Int) (r : Int) (w : World) (aN : Kd.C (Kd.slice 3 (Kd.int .i64)) w ak ae.length ae) (aT : ae.length ≤ an) (aM : Kd.C (Kd.slice 3 (Kd.int .i64)) w aj af.length af) (aQ : af.length ≤ al) (hr1 : Kd.C (Kd.int .i64) w A1 l1.length l1) (hc1 : l1.length ≤ c1) (hr2 : Kd.C (Kd.int .i64) w A2 l2.length l2) (hc2 : l2.length ≤ c2) (h : Zy.f k ae af l1 l2 = some r) :
  Calls Try.prog 89 #[.agg #[.slice ak ae.length an, .slice aj af.length al], .slice A1 l1.length c1, .slice A2 l2.length c2] w fun e w' => e = .returned (.int .i64 r) ∧ Below w.heap.size w w' := by
 have en := Try.underlying24; have aw := aa.mk aN; have az := aa.mk aT; clear aN aT; have ay := aa.mk aM; have aA := aa.mk aQ; clear aM aQ; have HR1 := aa.mk hr1; have HC1 := aa.mk hc1; clear hr1 hc1; have HR2 := aa.mk hr2; have HC2 := aa.mk hc2; clear hr2 hc2; have HB := aa.mk (Below.refl w.heap.size w); have H : ((Zq.f k ae af l1).bind fun t102 => (if t102 = 0 then ((Zo.f l2 (ae.length : Int) 0 1000).bind fun t103 => (if t103 = true then ((Ql.f k l1).bind fun t104 => (if t104 ≤ 0 then (some 8) else ((Ze.f k ae af l1).bind fun t105 => (if t105 = true then (some 0) else (some 8))))) else (some 1))) else (some t102))) = some r := h; clear h; replace H := Option.bind_eq_some_iff.mp H; obtain ⟨t102, A40, H⟩ := H; replace H : (if t102 = 0 then ((Zo.f l2 (ae.length : Int) 0 1000).bind fun t103 => (if t103 = true then ((Ql.f k l1).bind fun t104 => (if t104 ≤ 0 then (some 8) else ((Ze.f k ae af l1).bind fun t105 => (if t105 = true then (some 0) else (some 8))))) else (some 1))) else (some t102)) = some r := H; have A4 := aa.mk A40; clear A40; by_cases c5 : t102 = 0
 ·rw [if_pos c5] at H; have dq : (t102 == 0) = true := beq_iff_eq.mpr c5; have jn : (t102 != 0) = false := bne_eq_false_iff_eq.mpr c5; clear c5; replace H := Option.bind_eq_some_iff.mp H; obtain ⟨t103, A60, H⟩ := H; replace H : (if t103 = true then ((Ql.f k l1).bind fun t104 => (if t104 ≤ 0 then (some 8) else ((Ze.f k ae af l1).bind fun t105 => (if t105 = true then (some 0) else (some 8))))) else (some 1)) = some r := H; have A6 := aa.mk A60; clear A60; by_cases c7 : t103 = true
  ·subst c7; have H1 : ((Ql.f k l1).bind fun t104 => (if t104 ≤ 0 then (some 8) else ((Ze.f k ae af l1).bind fun t105 => (if t105 = true then (some 0) else (some 8))))) = some r := by rw [if_pos rfl] at H; exact H
   clear H; have H := H1; clear H1; replace H := Option.bind_eq_some_iff.mp H; obtain ⟨t104, A80, H⟩ := H; replace H : (if t104 ≤ 0 then (some 8) else ((Ze.f k ae af l1).bind fun t105 => (if t105 = true then (some 0) else (some 8)))) = some r := H; have A8 := aa.mk A80; clear A80; by_cases c9 : t104 ≤ 0
   ·rw [if_pos c9] at H; have eU : decide (t104 ≤ 0) = true := decide_eq_true c9; clear c9; obtain rfl := Option.some.inj H; go_enter Try.func89, Try.ntmps89; go_wp2_with (first | ((with_reducible refine QO (N := 3) rfl ?_); refine Q4 ?hg (N := 3) ?hd (cs := #[.slice ak ae.length an, .slice aj af.length al]) (t := 24) ?hr ?_; (case hd => rfl); (case hg => rfl); (case hr => first | (go_simp; done) | (go_simp; rfl)); intro ag hg w10 hbox hb; have ab := aa.mk (hbox); have bo := aa.mk ((by rw [hg]; exact (Qc bB) : w.heap.size ≤ ag)); have aV := aa.mk ((by rw [hg]; exact (Qc bB) : w.heap.size ≤ ag)); replace HB := aa.mk (Qa bB hb); clear hb hbox hg; have cY : w10.cell? ⟨ag, 0, none⟩ = some (.slice ak ae.length an) := (Qd ab.out 0).trans rfl; have cX : w10.cell? ⟨ag, 1, none⟩ = some (.slice aj af.length al) := (Qd ab.out 1).trans rfl; have cU := Qb ab.out 0; have cT := Qb ab.out 1) | ((with_reducible refine Qg (f := 87) rfl ?_); refine QG (some 10) rfl rfl Try.func87 (by kernel_rfl) rfl #[.agg #[.slice ak ae.length an, .slice aj af.length al], .slice A1 l1.length c1] rfl hA ?_; (with_reducible refine (Zq.calls k _ _ ae _ _ af _ _ l1 t102 _ ?ah ?ai ?aq ?ar ?bh ?bg A4.out).mono ?_); (case ah => exact (Kd.Qo aw.out HB.out)); (case ai => exact az.out); (case aq => exact (Kd.Qo ay.out HB.out)); (case ar => exact aA.out); (case bh => exact (Kd.Qo HR1.out HB.out)); (case bg => exact HC1.out); rintro e w12 ⟨rfl, hb⟩; refine ⟨_, rfl, ?_⟩; replace ab := aa.mk (Qq ab.out hb); replace HB := aa.mk (Qa bB hb); (try clear hb); (try clear hb2); (try clear hk); (try clear hi); have dH : w12.cell? ⟨ag, 0, none⟩ = some (.slice ak ae.length an) := (Qd ab.out 0).trans rfl; have dG : w12.cell? ⟨ag, 1, none⟩ = some (.slice aj af.length al) := (Qd ab.out 1).trans rfl; have dF := Qb ab.out 0; have dE := Qb ab.out 1) | ((with_reducible refine Qg (f := 77) rfl ?_); refine QG (some 18) rfl rfl Try.func77 (by kernel_rfl) rfl #[.slice A2 l2.length c2, .int .i64 (ae.length : Int), .int .i64 0, .int .i64 1000] rfl hA ?_; (with_reducible refine (Zo.calls _ _ l2 (ae.length : Int) 0 1000 true _ ?ah ?ai A6.out).mono ?_); (case ah => exact (Kd.Qo HR2.out HB.out)); (case ai => exact HC2.out); rintro e w14 ⟨rfl, hb⟩; refine ⟨_, rfl, ?_⟩; replace ab := aa.mk (Qq ab.out hb); replace HB := aa.mk (Qa bB hb); (try clear hb); (try clear hb2); (try clear hk); (try clear hi)) | ((with_reducible refine Qg (f := 84) rfl ?_); refine QG (some 21) rfl rfl Try.func84 (by kernel_rfl) rfl #[.slice A1 l1.length c1] rfl hA ?_; (with_reducible refine (Ql.calls k _ _ l1 t104 _ ?ah ?ai A8.out).mono ?_); (case ah => exact (Kd.Qo HR1.out HB.out)); (case ai => exact HC1.out); rintro e w15 ⟨rfl, hb⟩; refine ⟨_, rfl, ?_⟩; replace ab := aa.mk (Qq ab.out hb); replace HB := aa.mk (Qa bB hb); (try clear hb); (try clear hb2); (try clear hk); (try clear hi)))
    go_ret; exact ⟨by first | rfl | (simp [Qj, Qi] <;> rfl) | (simp [*, Qj, Qi] <;> rfl), bB⟩
   ·rw [if_neg c9] at H; have eU : decide (t104 ≤ 0) = false := decide_eq_false c9; clear c9; replace H := Option.bind_eq_some_iff.mp H; obtain ⟨t105, pG, H⟩ := H; replace H : (if t105 = true then (some 0) else (some 8)) = some r := H; have A16 := aa.mk pG; clear pG; by_cases c17 : t105 = true
    ·subst c17; have H1 : (some 0) = some r := by rw [if_pos rfl] at H; exact H
     clear H; have H := H1; clear H1; obtain rfl := Option.some.inj H; go_enter Try.func89, Try.ntmps89; go_wp2_with (first | ((with_reducible refine QO (N := 3) rfl ?_); refine Q4 ?hg (N := 3) ?hd (cs := #[.slice ak ae.length an, .slice aj af.length al]) (t := 24) ?hr ?_; (case hd => rfl); (case hg => rfl); (case hr => first | (go_simp; done) | (go_simp; rfl)); intro ag hg w18 hbox hb; have ab := aa.mk (hbox); have bo := aa.mk ((by rw [hg]; exact (Qc bB) : w.heap.size ≤ ag)); have aV := aa.mk ((by rw [hg]; exact (Qc bB) : w.heap.size ≤ ag)); replace HB := aa.mk (Qa bB hb); clear hb hbox hg; have nB : w18.cell? ⟨ag, 0, none⟩ = some (.slice ak ae.length an) := (Qd ab.out 0).trans rfl; have nA : w18.cell? ⟨ag, 1, none⟩ = some (.slice aj af.length al) := (Qd ab.out 1).trans rfl; have nw := Qb ab.out 0; have nv := Qb ab.out 1) | ((with_reducible refine Qg (f := 87) rfl ?_); refine QG (some 10) rfl rfl Try.func87 (by kernel_rfl) rfl #[.agg #[.slice ak ae.length an, .slice aj af.length al], .slice A1 l1.length c1] rfl hA ?_; (with_reducible refine (Zq.calls k _ _ ae _ _ af _ _ l1 t102 _ ?ah ?ai ?aq ?ar ?bh ?bg A4.out).mono ?_); (case ah => exact (Kd.Qo aw.out HB.out)); (case ai => exact az.out); (case aq => exact (Kd.Qo ay.out HB.out)); (case ar => exact aA.out); (case bh => exact (Kd.Qo HR1.out HB.out)); (case bg => exact HC1.out); rintro e w20 ⟨rfl, hb⟩; refine ⟨_, rfl, ?_⟩; replace ab := aa.mk (Qq ab.out hb); replace HB := aa.mk (Qa bB hb); (try clear hb); (try clear hb2); (try clear hk); (try clear hi); have kV : w20.cell? ⟨ag, 0, none⟩ = some (.slice ak ae.length an) := (Qd ab.out 0).trans rfl; have kU : w20.cell? ⟨ag, 1, none⟩ = some (.slice aj af.length al) := (Qd ab.out 1).trans rfl; have kR := Qb ab.out 0; have kQ := Qb ab.out 1) | ((with_reducible refine Qg (f := 77) rfl ?_); refine QG (some 18) rfl rfl Try.func77 (by kernel_rfl) rfl #[.slice A2 l2.length c2, .int .i64 (ae.length : Int), .int .i64 0, .int .i64 1000] rfl hA ?_; (with_reducible refine (Zo.calls _ _ l2 (ae.length : Int) 0 1000 true _ ?ah ?ai A6.out).mono ?_); (case ah => exact (Kd.Qo HR2.out HB.out)); (case ai => exact HC2.out); rintro e w22 ⟨rfl, hb⟩; refine ⟨_, rfl, ?_⟩; replace ab := aa.mk (Qq ab.out hb); replace HB := aa.mk (Qa bB hb); (try clear hb); (try clear hb2); (try clear hk); (try clear hi)) | ((with_reducible refine Qg (f := 84) rfl ?_); refine QG (some 21) rfl rfl Try.func84 (by kernel_rfl) rfl #[.slice A1 l1.length c1] rfl hA ?_; (with_reducible refine (Ql.calls k _ _ l1 t104 _ ?ah ?ai A8.out).mono ?_); (case ah => exact (Kd.Qo HR1.out HB.out)); (case ai => exact HC1.out); rintro e w23 ⟨rfl, hb⟩; refine ⟨_, rfl, ?_⟩; replace ab := aa.mk (Qq ab.out hb); replace HB := aa.mk (Qa bB hb); (try clear hb); (try clear hb2); (try clear hk); (try clear hi); have qv : w23.cell? ⟨ag, 0, none⟩ = some (.slice ak ae.length an) := (Qd ab.out 0).trans rfl; have qu : w23.cell? ⟨ag, 1, none⟩ = some (.slice aj af.length al) := (Qd ab.out 1).trans rfl; have qc := Qb ab.out 0; have qb := Qb ab.out 1) | (go_at_call 95; (with_reducible refine (Ze.calls k _ _ ae _ _ af _ _ l1 true _ ?ah ?ai ?aq ?ar ?bh ?bg A16.out).mono ?_); (case ah => exact (Kd.Qo aw.out HB.out)); (case ai => exact az.out); (case aq => exact (Kd.Qo ay.out HB.out)); (case ar => exact aA.out); (case bh => exact (Kd.Qo HR1.out HB.out)); (case bg => exact HC1.out); rintro e w25 ⟨rfl, hb⟩; replace ab := aa.mk (Qq ab.out hb); replace HB := aa.mk (Qa bB hb); (try clear hb); (try clear hb2); (try clear hk); (try clear hi)))
     go_ret; exact ⟨by first | rfl | (simp [Qj, Qi] <;> rfl) | (simp [*, Qj, Qi] <;> rfl), bB⟩
    ·replace c17 := Bool.eq_false_iff.mpr c17; subst c17; have H1 : (some 8) = some r := by rw [if_neg (show ¬ (false = true) by decide)] at H; exact H
     clear H; have H := H1; clear H1; obtain rfl := Option.some.inj H; go_enter Try.func89, Try.ntmps89; go_wp2_with (first | ((with_reducible refine QO (N := 3) rfl ?_); refine Q4 ?hg (N := 3) ?hd (cs := #[.slice ak ae.length an, .slice aj af.length al]) (t := 24) ?hr ?_; (case hd => rfl); (case hg => rfl); (case hr => first | (go_simp; done) | (go_simp; rfl)); intro ag hg w26 hbox hb; have ab := aa.mk (hbox); have bo := aa.mk ((by rw [hg]; exact (Qc bB) : w.heap.size ≤ ag)); have aV := aa.mk ((by rw [hg]; exact (Qc bB) : w.heap.size ≤ ag)); replace HB := aa.mk (Qa bB hb); clear hb hbox hg; have jJ : w26.cell? ⟨ag, 0, none⟩ = some (.slice ak ae.length an) := (Qd ab.out 0).trans rfl; have jI : w26.cell? ⟨ag, 1, none⟩ = some (.slice aj af.length al) := (Qd ab.out 1).trans rfl; have jD := Qb ab.out 0; have jC := Qb ab.out 1) | ((with_reducible refine Qg (f := 87) rfl ?_); refine QG (some 10) rfl rfl Try.func87 (by kernel_rfl) rfl #[.agg #[.slice ak ae.length an, .slice aj af.length al], .slice A1 l1.length c1] rfl hA ?_; (with_reducible refine (Zq.calls k _ _ ae _ _ af _ _ l1 t102 _ ?ah ?ai ?aq ?ar ?bh ?bg A4.out).mono ?_); (case ah => exact (Kd.Qo aw.out HB.out)); (case ai => exact az.out); (case aq => exact (Kd.Qo ay.out HB.out)); (case ar => exact aA.out); (case bh => exact (Kd.Qo HR1.out HB.out)); (case bg => exact HC1.out); rintro e w28 ⟨rfl, hb⟩; refine ⟨_, rfl, ?_⟩; replace ab := aa.mk (Qq ab.out hb); replace HB := aa.mk (Qa bB hb); (try clear hb); (try clear hb2); (try clear hk); (try clear hi); have ny : w28.cell? ⟨ag, 0, none⟩ = some (.slice ak ae.length an) := (Qd ab.out 0).trans rfl; have nx : w28.cell? ⟨ag, 1, none⟩ = some (.slice aj af.length al) := (Qd ab.out 1).trans rfl; have nu := Qb ab.out 0; have nt := Qb ab.out 1) | ((with_reducible refine Qg (f := 77) rfl ?_); refine QG (some 18) rfl rfl Try.func77 (by kernel_rfl) rfl #[.slice A2 l2.length c2, .int .i64 (ae.length : Int), .int .i64 0, .int .i64 1000] rfl hA ?_; (with_reducible refine (Zo.calls _ _ l2 (ae.length : Int) 0 1000 true _ ?ah ?ai A6.out).mono ?_); (case ah => exact (Kd.Qo HR2.out HB.out)); (case ai => exact HC2.out); rintro e w30 ⟨rfl, hb⟩; refine ⟨_, rfl, ?_⟩; replace ab := aa.mk (Qq ab.out hb); replace HB := aa.mk (Qa bB hb); (try clear hb); (try clear hb2); (try clear hk); (try clear hi)) | ((with_reducible refine Qg (f := 84) rfl ?_); refine QG (some 21) rfl rfl Try.func84 (by kernel_rfl) rfl #[.slice A1 l1.length c1] rfl hA ?_; (with_reducible refine (Ql.calls k _ _ l1 t104 _ ?ah ?ai A8.out).mono ?_); (case ah => exact (Kd.Qo HR1.out HB.out)); (case ai => exact HC1.out); rintro e w31 ⟨rfl, hb⟩; refine ⟨_, rfl, ?_⟩; replace ab := aa.mk (Qq ab.out hb); replace HB := aa.mk (Qa bB hb); (try clear hb); (try clear hb2); (try clear hk); (try clear hi); have qp : w31.cell? ⟨ag, 0, none⟩ = some (.slice ak ae.length an) := (Qd ab.out 0).trans rfl; have qo : w31.cell? ⟨ag, 1, none⟩ = some (.slice aj af.length al) := (Qd ab.out 1).trans rfl; have p8 := Qb ab.out 0; have p7 := Qb ab.out 1) | (go_at_call 95; (with_reducible refine (Ze.calls k _ _ ae _ _ af _ _ l1 false _ ?ah ?ai ?aq ?ar ?bh ?bg A16.out).mono ?_); (case ah => exact (Kd.Qo aw.out HB.out)); (case ai => exact az.out); (case aq => exact (Kd.Qo ay.out HB.out)); (case ar => exact aA.out); (case bh => exact (Kd.Qo HR1.out HB.out)); (case bg => exact HC1.out); rintro e w33 ⟨rfl, hb⟩; replace ab := aa.mk (Qq ab.out hb); replace HB := aa.mk (Qa bB hb); (try clear hb); (try clear hb2); (try clear hk); (try clear hi)))
     go_ret; exact ⟨by first | rfl | (simp [Qj, Qi] <;> rfl) | (simp [*, Qj, Qi] <;> rfl), bB⟩
  ·replace c7 := Bool.eq_false_iff.mpr c7; subst c7; have H1 : (some 1) = some r := by rw [if_neg (show ¬ (false = true) by decide)] at H; exact H
   clear H; have H := H1; clear H1; obtain rfl := Option.some.inj H; go_enter Try.func89, Try.ntmps89; go_wp2_with (first | ((with_reducible refine QO (N := 3) rfl ?_); refine Q4 ?hg (N := 3) ?hd (cs := #[.slice ak ae.length an, .slice aj af.length al]) (t := 24) ?hr ?_; (case hd => rfl); (case hg => rfl); (case hr => first | (go_simp; done) | (go_simp; rfl)); intro ag hg w34 hbox hb; have ab := aa.mk (hbox); have bo := aa.mk ((by rw [hg]; exact (Qc bB) : w.heap.size ≤ ag)); have aV := aa.mk ((by rw [hg]; exact (Qc bB) : w.heap.size ≤ ag)); replace HB := aa.mk (Qa bB hb); clear hb hbox hg; have xB : w34.cell? ⟨ag, 0, none⟩ = some (.slice ak ae.length an) := (Qd ab.out 0).trans rfl; have xA : w34.cell? ⟨ag, 1, none⟩ = some (.slice aj af.length al) := (Qd ab.out 1).trans rfl; have wY := Qb ab.out 0; have wX := Qb ab.out 1) | ((with_reducible refine Qg (f := 87) rfl ?_); refine QG (some 10) rfl rfl Try.func87 (by kernel_rfl) rfl #[.agg #[.slice ak ae.length an, .slice aj af.length al], .slice A1 l1.length c1] rfl hA ?_; (with_reducible refine (Zq.calls k _ _ ae _ _ af _ _ l1 t102 _ ?ah ?ai ?aq ?ar ?bh ?bg A4.out).mono ?_); (case ah => exact (Kd.Qo aw.out HB.out)); (case ai => exact az.out); (case aq => exact (Kd.Qo ay.out HB.out)); (case ar => exact aA.out); (case bh => exact (Kd.Qo HR1.out HB.out)); (case bg => exact HC1.out); rintro e w36 ⟨rfl, hb⟩; refine ⟨_, rfl, ?_⟩; replace ab := aa.mk (Qq ab.out hb); replace HB := aa.mk (Qa bB hb); (try clear hb); (try clear hb2); (try clear hk); (try clear hi); have xx : w36.cell? ⟨ag, 0, none⟩ = some (.slice ak ae.length an) := (Qd ab.out 0).trans rfl; have xw : w36.cell? ⟨ag, 1, none⟩ = some (.slice aj af.length al) := (Qd ab.out 1).trans rfl; have wU := Qb ab.out 0; have wT := Qb ab.out 1) | ((with_reducible refine Qg (f := 77) rfl ?_); refine QG (some 18) rfl rfl Try.func77 (by kernel_rfl) rfl #[.slice A2 l2.length c2, .int .i64 (ae.length : Int), .int .i64 0, .int .i64 1000] rfl hA ?_; (with_reducible refine (Zo.calls _ _ l2 (ae.length : Int) 0 1000 false _ ?ah ?ai A6.out).mono ?_); (case ah => exact (Kd.Qo HR2.out HB.out)); (case ai => exact HC2.out); rintro e w38 ⟨rfl, hb⟩; refine ⟨_, rfl, ?_⟩; replace ab := aa.mk (Qq ab.out hb); replace HB := aa.mk (Qa bB hb); (try clear hb); (try clear hb2); (try clear hk); (try clear hi)))
   go_ret; exact ⟨by first | rfl | (simp [Qj, Qi] <;> rfl) | (simp [*, Qj, Qi] <;> rfl), bB⟩
 ·rw [if_neg c5] at H; have dq : (t102 == 0) = false := beq_eq_false_iff_ne.mpr c5; have jn : (t102 != 0) = true := bne_iff_ne.mpr c5; obtain rfl := Option.some.inj H; go_enter Try.func89, Try.ntmps89; go_wp2_with (first | ((with_reducible refine QO (N := 3) rfl ?_); refine Q4 ?hg (N := 3) ?hd (cs := #[.slice ak ae.length an, .slice aj af.length al]) (t := 24) ?hr ?_; (case hd => rfl); (case hg => rfl); (case hr => first | (go_simp; done) | (go_simp; rfl)); intro ag hg w39 hbox hb; have ab := aa.mk (hbox); have bo := aa.mk ((by rw [hg]; exact (Qc bB) : w.heap.size ≤ ag)); have aV := aa.mk ((by rw [hg]; exact (Qc bB) : w.heap.size ≤ ag)); replace HB := aa.mk (Qa bB hb); clear hb hbox hg; have xv : w39.cell? ⟨ag, 0, none⟩ = some (.slice ak ae.length an) := (Qd ab.out 0).trans rfl; have xu : w39.cell? ⟨ag, 1, none⟩ = some (.slice aj af.length al) := (Qd ab.out 1).trans rfl; have wS := Qb ab.out 0; have wR := Qb ab.out 1) | ((with_reducible refine Qg (f := 87) rfl ?_); refine QG (some 10) rfl rfl Try.func87 (by kernel_rfl) rfl #[.agg #[.slice ak ae.length an, .slice aj af.length al], .slice A1 l1.length c1] rfl hA ?_; (with_reducible refine (Zq.calls k _ _ ae _ _ af _ _ l1 t102 _ ?ah ?ai ?aq ?ar ?bh ?bg A4.out).mono ?_); (case ah => exact (Kd.Qo aw.out HB.out)); (case ai => exact az.out); (case aq => exact (Kd.Qo ay.out HB.out)); (case ar => exact aA.out); (case bh => exact (Kd.Qo HR1.out HB.out)); (case bg => exact HC1.out); rintro e w41 ⟨rfl, hb⟩; refine ⟨_, rfl, ?_⟩; replace ab := aa.mk (Qq ab.out hb); replace HB := aa.mk (Qa bB hb); (try clear hb); (try clear hb2); (try clear hk); (try clear hi)))
  go_ret; exact ⟨by first | rfl | (simp [Qj, Qi] <;> rfl) | (simp [*, Qj, Qi] <;> rfl), bB⟩
mutual
def QT.l0 : Nat → List Int → List Int → Int → List Int → Int → Int → Option (Int × List Int × Int)
 | 0, _, _, _, _, _, _ => none
 | k + 1, x1, x2, x10, x23, x24, x25 => if x25 < x24 then (if 0 ≤ x25 then (if x25 < (x23.length : Int) then (if x25 < (x1.length : Int) then (if (rd x1 x25) = 0 then (none) else (QT.l0 k x1 x2 (mn x10 (wrap64 (Int.tdiv (rd x23 x25) (rd x1 x25)))) x23 x24 (wrap64 (x25 + 1)))) else (none)) else (none)) else (none)) else (QT.l1 k x1 x10 ([] : List Int) x2 (x2.length : Int) 0)
def QT.l1 : Nat → List Int → Int → List Int → List Int → Int → Int → Option (Int × List Int × Int)
 | 0, _, _, _, _, _, _ => none
 | k + 1, x1, x10, x13, x39, x40, x41 => if x41 < x40 then (if 0 ≤ x41 then (if x41 < (x39.length : Int) then (if x41 < (x1.length : Int) then (if (rd x39 x41) < (wrap64 ((wrap64 (x10 + 1)) * (rd x1 x41))) then (if x13.length < 17592186044416 then (QT.l1 k x1 x10 (x13 ++ [x41]) x39 x40 (wrap64 (x41 + 1))) else (none)) else (QT.l1 k x1 x10 x13 x39 x40 (wrap64 (x41 + 1)))) else (none)) else (none)) else (none)) else (some (x10, x13, 0))
end
def QT.f (k : Nat) (ae : List (List Int)) (af : List (List Int)) (l1 : List Int) (l2 : List Int) : Option (Int × List Int × Int) := (Zy.f k ae af l1 l2).bind fun t102 => (if t102 = 0 then (QT.l0 k l1 l2 1000 l2 (l2.length : Int) 0) else (some (0, ([] : List Int), t102)))
theorem QT.ZP : ∀ k, (∀ y0 y1 y2 y3 y4 y5, LeO (QT.l0 k y0 y1 y2 y3 y4 y5) (QT.l0 (k + 1) y0 y1 y2 y3 y4 y5)) ∧ (∀ y0 y1 y2 y3 y4 y5, LeO (QT.l1 k y0 y1 y2 y3 y4 y5) (QT.l1 (k + 1) y0 y1 y2 y3 y4 y5))
 | 0 => ⟨fun _ _ _ _ _ _ r h => by simp [QT.l0] at h, fun _ _ _ _ _ _ r h => by simp [QT.l1] at h⟩
 | k + 1 => by
  obtain ⟨ih0, ih1⟩ := QT.ZP k; refine ⟨?_, ?_⟩ <;> intros <;> (first | unfold QT.l0 | unfold QT.l1) <;> repeat' first | (with_reducible exact ih0 _ _ _ _ _ _) | (with_reducible exact ih1 _ _ _ _ _ _) | (with_reducible exact Zy.mono _ _ _ _ _) | (with_reducible exact LeO.refl _) | (with_reducible exact LeO.none _) | (with_reducible refine LeO.ite ?_ ?_) | (with_reducible refine LeO.bind ?_ (fun _ => ?_)) | exact ih0 _ _ _ _ _ _ | exact ih1 _ _ _ _ _ _ | exact Zy.mono _ _ _ _ _ | exact LeO.none _ | refine LeO.ite ?_ ?_ | refine LeO.bind ?_ (fun _ => ?_)
theorem QT.mono : ∀ a0 a1 a2 a3 k, LeO (QT.f k a0 a1 a2 a3) (QT.f (k + 1) a0 a1 a2 a3) := by
 intro a0 a1 a2 a3 k; obtain ⟨ih0, ih1⟩ := QT.ZP k; unfold QT.f; repeat' first | (with_reducible exact ih0 _ _ _ _ _ _) | (with_reducible exact ih1 _ _ _ _ _ _) | (with_reducible exact Zy.mono _ _ _ _ _) | (with_reducible exact LeO.refl _) | (with_reducible exact LeO.none _) | (with_reducible refine LeO.ite ?_ ?_) | (with_reducible refine LeO.bind ?_ (fun _ => ?_)) | exact ih0 _ _ _ _ _ _ | exact ih1 _ _ _ _ _ _ | exact Zy.mono _ _ _ _ _ | exact LeO.none _ | refine LeO.ite ?_ ?_ | refine LeO.bind ?_ (fun _ => ?_)
set_option maxHeartbeats 8000000 in
set_option maxRecDepth 100000 in
theorem QT.calls (k : Nat) (ak : Option Addr) (an : Nat) (ae : List (List Int)) (aj : Option Addr) (al : Nat) (af : List (List Int)) (A1 : Option Addr) (c1 : Nat) (l1 : List Int) (A2 : Option Addr) (c2 : Nat) (l2 : List Int) (r1 : Int) (r2 : List Int) (r3 : Int) (w : World) (aN : Kd.C (Kd.slice 3 (Kd.int .i64)) w ak ae.length ae) (aT : ae.length ≤ an) (aM : Kd.C (Kd.slice 3 (Kd.int .i64)) w aj af.length af) (aQ : af.length ≤ al) (hr1 : Kd.C (Kd.int .i64) w A1 l1.length l1) (hc1 : l1.length ≤ c1) (hr2 : Kd.C (Kd.int .i64) w A2 l2.length l2) (hc2 : l2.length ≤ c2) (h : QT.f k ae af l1 l2 = some (r1, r2, r3)) :
  Calls Try.prog 46 #[.agg #[.slice ak ae.length an, .slice aj af.length al], .slice A1 l1.length c1, .slice A2 l2.length c2] w fun e w' => ∃ v1_ : Value, e = .returned (.tuple #[.int .i64 r1, v1_, .int .i64 r3]) ∧ Kd.R (Kd.int .i64) 3 w' w.heap.size (fun _ => True) v1_ r2 ∧ Below w.heap.size w w' := by
 have en := Try.underlying24; have aw := aa.mk aN; have az := aa.mk aT; clear aN aT; have ay := aa.mk aM; have aA := aa.mk aQ; clear aM aQ; have HR1 := aa.mk hr1; have HC1 := aa.mk hc1; clear hr1 hc1; have HR2 := aa.mk hr2; have HC2 := aa.mk hc2; clear hr2 hc2; have HB := aa.mk (Below.refl w.heap.size w); have H : ((Zy.f k ae af l1 l2).bind fun t102 => (if t102 = 0 then (QT.l0 k l1 l2 1000 l2 (l2.length : Int) 0) else (some (0, ([] : List Int), t102)))) = some (r1, r2, r3) := h; clear h; replace H := Option.bind_eq_some_iff.mp H; obtain ⟨t102, A40, H⟩ := H; replace H : (if t102 = 0 then (QT.l0 k l1 l2 1000 l2 (l2.length : Int) 0) else (some (0, ([] : List Int), t102))) = some (r1, r2, r3) := H; have A4 := aa.mk A40; clear A40; by_cases c5 : t102 = 0
 ·rw [if_pos c5] at H; have dq : (t102 == 0) = true := beq_iff_eq.mpr c5; have jn : (t102 != 0) = false := bne_eq_false_iff_eq.mpr c5; clear c5; have H' := aa.mk H; clear H; go_enter Try.func46, Try.ntmps46; go_wp2_with (first | ((with_reducible refine QO (N := 3) rfl ?_); refine Q4 ?hg (N := 3) ?hd (cs := #[.slice ak ae.length an, .slice aj af.length al]) (t := 24) ?hr ?_; (case hd => rfl); (case hg => rfl); (case hr => first | (go_simp; done) | (go_simp; rfl)); intro ag hg w6 hbox hb; have ab := aa.mk (hbox); have bo := aa.mk ((by rw [hg]; exact (Qc bB) : w.heap.size ≤ ag)); have aV := aa.mk ((by rw [hg]; exact (Qc bB) : w.heap.size ≤ ag)); replace HB := aa.mk (Qa bB hb); clear hb hbox hg; have eM : w6.cell? ⟨ag, 0, none⟩ = some (.slice ak ae.length an) := (Qd ab.out 0).trans rfl; have eK : w6.cell? ⟨ag, 1, none⟩ = some (.slice aj af.length al) := (Qd ab.out 1).trans rfl; have eJ := Qb ab.out 0; have eI := Qb ab.out 1) | ((with_reducible refine Qg (f := 89) rfl ?_); refine QG (some 19) rfl rfl Try.func89 (by kernel_rfl) rfl #[.agg #[.slice ak ae.length an, .slice aj af.length al], .slice A1 l1.length c1, .slice A2 l2.length c2] rfl hA ?_; (with_reducible refine (Zy.calls k _ _ ae _ _ af _ _ l1 _ _ l2 t102 _ ?ah ?ai ?aq ?ar ?bh ?bg ?lx ?lv A4.out).mono ?_); (case ah => exact (Kd.Qo aw.out HB.out)); (case ai => exact az.out); (case aq => exact (Kd.Qo ay.out HB.out)); (case ar => exact aA.out); (case bh => exact (Kd.Qo HR1.out HB.out)); (case bg => exact HC1.out); (case lx => exact (Kd.Qo HR2.out HB.out)); (case lv => exact HC2.out); rintro e w8 ⟨rfl, hb⟩; refine ⟨_, rfl, ?_⟩; replace ab := aa.mk (Qq ab.out hb); replace HB := aa.mk (Qa bB hb); (try clear hb); (try clear hb2); (try clear hk); (try clear hi)))
  go_loopg [10, 25] k (fun kq v10 v25 w' => ∃ (gj : Int) (bW : Int), v10 = .int .i64 gj ∧ v25 = .int .i64 bW ∧ aa (QT.l0 kq l1 l2 gj l2 (l2.length : Int) bW = some (r1, r2, r3)) ∧ aa (kq ≤ k) ∧ aa (w'.heap[ag]? = some (.cells #[(.slice ak ae.length an), (.slice aj af.length al)] 24 (0, 0))) ∧ aa (Below w.heap.size w w'))
  case atStart => exact ⟨(1000), (0), (by first | rfl | (simp; done) | (simp [*]; done)), (by first | rfl | (simp; done) | (simp [*]; done)), H', ⟨Nat.le_refl _⟩, ⟨by (with_reducible repeat (first | refine QC ?_ _ | refine QE ?_ | refine Qz ?_ _)); exact ab.out⟩, ⟨bB⟩⟩
  case round =>
   clear H'; try clear c1
   try clear c2
   try clear p2
   try clear c4
   try clear c5
   try clear dq
   try clear jn
   try clear c8
   try clear eM
   try clear eK
   try clear eJ
   try clear eI
   obtain ⟨gj, bW, rfl, rfl, HA, HK1, ab, HB⟩ := hrel; cases gk with
   | zero => exact absurd HA.out (by simp [QT.l0])
   | succ k1 =>
    have H := HA.out; clear HA; simp only [QT.l0] at H; by_cases c9 : bW < (l2.length : Int)
    ·rw [if_pos c9] at H; have eU : decide (bW < (l2.length : Int)) = true := decide_eq_true c9; clear c9; by_cases c10 : 0 ≤ bW
     ·rw [if_pos c10] at H; have fq : decide (0 ≤ bW) = true := decide_eq_true c10; clear c10; by_cases c11 : bW < (l2.length : Int)
      ·rw [if_pos c11] at H; have fp : decide (bW < (l2.length : Int)) = true := decide_eq_true c11; clear c11; by_cases c12 : bW < (l1.length : Int)
       ·rw [if_pos c12] at H; have eO : decide (bW < (l1.length : Int)) = true := decide_eq_true c12; clear c12; by_cases c13 : (rd l1 bW) = 0
        ·rw [if_pos c13] at H; exact absurd H (by simp)
        ·rw [if_neg c13] at H; have ks : ((rd l1 bW) == 0) = false := beq_eq_false_iff_ne.mpr c13; have rR : ((rd l1 bW) != 0) = true := bne_iff_ne.mpr c13; obtain ⟨sj, nn⟩ : ∃ j_ : Int, (mn gj (wrap64 (Int.tdiv (rd l2 bW) (rd l1 bW)))) = j_ := ⟨_, rfl⟩; replace H : (QT.l0 k1 l1 l2 sj l2 (l2.length : Int) (wrap64 (bW + 1))) = some (r1, r2, r3) := by first | (rw [nn] at H; exact H) | (simp only [nn] at H ⊢; exact H)
         have yj : (if (wrap64 (Int.tdiv (rd l2 bW) (rd l1 bW))) < gj then (wrap64 (Int.tdiv (rd l2 bW) (rd l1 bW))) else gj) = sj := nn; have H' := aa.mk H; clear H; have dN : 0 ≤ (bW : Int) := of_decide_eq_true (by assumption); have dM : bW < (l2.length : Int) := of_decide_eq_true (by assumption); obtain ⟨jd, iS, a7⟩ := Kd.Zh HR2.out bW dN dM; cases iS; replace a7 := (HB.out.cell (World.block_lt_of_cell? w _ a7)).trans a7; replace dN := eq_true dN; replace dM := eq_true dM; have fZ : 0 ≤ (bW : Int) := of_decide_eq_true (by assumption); have fX : bW < (l1.length : Int) := of_decide_eq_true (by assumption); obtain ⟨rU, o7, bY⟩ := Kd.Zh HR1.out bW fZ fX; cases o7; replace bY := (HB.out.cell (World.block_lt_of_cell? w _ bY)).trans bY; replace fZ := eq_true fZ; replace fX := eq_true fX; go_wp2; go_roundg k1
         case measure => have := HK1.out; omega
         case rel => exact ⟨(sj), (wrap64 (bW + 1)), (by first | rfl | (simp; done) | (simp only [← nn] <;> (first | rfl | simp)) | (simp [*]; done)), (by first | rfl | (simp; done) | (simp [*]; done)), H', ⟨by have := HK1.out; omega⟩, ⟨by (with_reducible repeat (first | refine QC ?_ _ | refine QE ?_ | refine Qz ?_ _)); exact ab.out⟩, ⟨bB⟩⟩
       ·rw [if_neg c12] at H; exact absurd H (by simp)
      ·rw [if_neg c11] at H; exact absurd H (by simp)
     ·rw [if_neg c10] at H; exact absurd H (by simp)
    ·rw [if_neg c9] at H; have eU : decide (bW < (l2.length : Int)) = false := decide_eq_false c9; clear c9; have H' := aa.mk H; clear H; go_wp2; go_loopg [13, 41] k1 (fun kq v13 v41 w' => ∃ (jU : List Int) (bP : Int), v41 = .int .i64 bP ∧ aa (QT.l1 kq l1 gj jU l2 (l2.length : Int) bP = some (r1, r2, r3)) ∧ aa (kq ≤ k1) ∧ aa (Kd.R (Kd.int .i64) 3 w' w.heap.size (fun _ => True) v13 jU) ∧ aa (w'.heap[ag]? = some (.cells #[(.slice ak ae.length an), (.slice aj af.length al)] 24 (0, 0))) ∧ aa (Below w.heap.size w w'))
     case atStart => exact ⟨(([] : List Int)), (0), (by first | rfl | (simp; done) | (simp [*]; done)), H', ⟨Nat.le_refl _⟩, ⟨by first | exact Kd.Yg _ _ _ _ _ | exact Kd.Yp _ _ _ _ _ | exact Kd.V_nil _ _ _ _ _ | exact Kd.Q_nil _ _ _ _ _ | exact Kd.Ys _ _ _ _ _⟩, ⟨by (with_reducible repeat (first | refine QC ?_ _ | refine QE ?_ | refine Qz ?_ _)); exact ab.out⟩, ⟨bB⟩⟩
     case round =>
      clear H'; try clear c1
      try clear p1
      try clear q1
      try clear hx1
      try clear c2
      try clear p2
      try clear c4
      try clear c5
      try clear dq
      try clear jn
      try clear p6
      try clear c8
      try clear c9
      try clear eU
      try clear c10
      try clear fq
      try clear p10
      try clear q10
      try clear hZ
      try clear c11
      try clear fp
      try clear c12
      try clear eO
      try clear c13
      try clear ks
      try clear rR
      try clear eM
      try clear eK
      try clear eJ
      try clear eI
      try clear a7
      try clear bY
      try clear dN
      try clear fZ
      try clear p2
      try clear dM
      try clear fX
      obtain ⟨jU, bP, rfl, HA, HK2, mc, ab, HB⟩ := hrel; cases gk with
      | zero => exact absurd HA.out (by simp [QT.l1])
      | succ k2 =>
       have H := HA.out; clear HA; simp only [QT.l1] at H; by_cases c15 : bP < (l2.length : Int)
       ·rw [if_pos c15] at H; have gI : decide (bP < (l2.length : Int)) = true := decide_eq_true c15; clear c15; by_cases c16 : 0 ≤ bP
        ·rw [if_pos c16] at H; have gH : decide (0 ≤ bP) = true := decide_eq_true c16; clear c16; by_cases c17 : bP < (l2.length : Int)
         ·rw [if_pos c17] at H; have fT : decide (bP < (l2.length : Int)) = true := decide_eq_true c17; clear c17; by_cases c18 : bP < (l1.length : Int)
          ·rw [if_pos c18] at H; have j6 : decide (bP < (l1.length : Int)) = true := decide_eq_true c18; clear c18; by_cases c19 : (rd l2 bP) < (wrap64 ((wrap64 (gj + 1)) * (rd l1 bP)))
           ·rw [if_pos c19] at H; have cN : decide ((rd l2 bP) < (wrap64 ((wrap64 (gj + 1)) * (rd l1 bP)))) = true := decide_eq_true c19; clear c19; by_cases c20 : jU.length < 17592186044416
            ·rw [if_pos c20] at H; have ma := aa.mk c20; clear c20; obtain ⟨jh, gw⟩ : ∃ y_ : List Int, y_ = (jU ++ [bP]) := ⟨_, rfl⟩; replace H : (QT.l1 k2 l1 gj jh l2 (l2.length : Int) (wrap64 (bP + 1))) = some (r1, r2, r3) := by first | (rw [gw]; with_reducible exact H) | (have H2_ := (Option.bind_some _ _).symm.trans H; rw [gw]; with_reducible exact H2_) | (have H2_ := (Option.bind_some _ _).symm.trans H; with_reducible exact H2_) | with_reducible exact H | (rw [gw]; exact H) | exact H
             have kx := aa.mk gw; clear gw; have H' := aa.mk H; clear H; have cu : 0 ≤ (bP : Int) := of_decide_eq_true (by assumption); have cn : bP < (l2.length : Int) := of_decide_eq_true (by assumption); obtain ⟨fV, fP, bN⟩ := Kd.Zh HR2.out bP cu cn; cases fP; replace bN := (HB.out.cell (World.block_lt_of_cell? w _ bN)).trans bN; replace cu := eq_true cu; replace cn := eq_true cn; have dh : 0 ≤ (bP : Int) := of_decide_eq_true (by assumption); have dg : bP < (l1.length : Int) := of_decide_eq_true (by assumption); obtain ⟨j8, iR, bc⟩ := Kd.Zh HR1.out bP dh dg; cases iR; replace bc := (HB.out.cell (World.block_lt_of_cell? w _ bc)).trans bc; replace dh := eq_true dh; replace dg := eq_true dg; go_wp2_with (first | ((with_reducible refine Zr (b := .append) (xs := #[.tmp 55, .tmp 57]) rfl ?_); at_builtin; refine Kd.Ym (Kd.int .i64) (w0 := w) w.heap.size rfl (.tmp 55) (.tmp 57) 28 3 (.int .i64 0) 8 rfl Try.underlying28 info3 rfl (by decide) (by omega) u13 jU bP [.int .i64 bP] (fun _ => True) (fun _ => False) rfl rfl ?aP (fun _ hk => hk.elim) ?aF ?aO ?aB ?aS ?aL ?_; (case aP => exact rfl); (case aB => exact bB); (case aF => exact (fun _ _ => trivial)); (case aO => exact mc.out); (case aS => exact (Qc bB)); (case aL => have := ma.out; omega); intro de w21 ho hb hg hat; rw [← kx.out] at ho; replace ab := aa.mk (Yl (g := ag) (o := .cells #[.slice ak ae.length an, .slice aj af.length al] 24 (0, 0)) (by (with_reducible repeat (first | refine QC ?_ _ | refine QE ?_ | refine Qz ?_ _)); exact ab.out) hg (Kd.R_ne mc.out ab.out (by decide))); replace HB := aa.mk (hb); have aW := aa.mk (ho); clear mc; clear ho hb hg hat))
             go_roundg k2
             case measure => have := HK1.out; have := HK2.out; omega
             case rel => exact ⟨(jh), (wrap64 (bP + 1)), (by first | rfl | (simp; done) | (simp [*]; done)), H', ⟨by have := HK1.out; have := HK2.out; omega⟩, ⟨by (with_reducible repeat (first | apply Kd.R_alloc | apply Kd.QI | apply Kd.QN)); exact aW.out⟩, ⟨by (with_reducible repeat (first | refine QC ?_ _ | refine QE ?_ | refine Qz ?_ _)); exact ab.out⟩, ⟨bB⟩⟩
            ·rw [if_neg c20] at H; exact absurd H (by simp)
           ·rw [if_neg c19] at H; have cN : decide ((rd l2 bP) < (wrap64 ((wrap64 (gj + 1)) * (rd l1 bP)))) = false := decide_eq_false c19; clear c19; have H' := aa.mk H; clear H; have cu : 0 ≤ (bP : Int) := of_decide_eq_true (by assumption); have cn : bP < (l2.length : Int) := of_decide_eq_true (by assumption); obtain ⟨fV, fP, bN⟩ := Kd.Zh HR2.out bP cu cn; cases fP; replace bN := (HB.out.cell (World.block_lt_of_cell? w _ bN)).trans bN; replace cu := eq_true cu; replace cn := eq_true cn; have dh : 0 ≤ (bP : Int) := of_decide_eq_true (by assumption); have dg : bP < (l1.length : Int) := of_decide_eq_true (by assumption); obtain ⟨j8, iR, bc⟩ := Kd.Zh HR1.out bP dh dg; cases iR; replace bc := (HB.out.cell (World.block_lt_of_cell? w _ bc)).trans bc; replace dh := eq_true dh; replace dg := eq_true dg; go_wp2; go_roundg k2
            case measure => have := HK1.out; have := HK2.out; omega
            case rel => exact ⟨(jU), (wrap64 (bP + 1)), (by first | rfl | (simp; done) | (simp [*]; done)), H', ⟨by have := HK1.out; have := HK2.out; omega⟩, ⟨by (with_reducible repeat (first | apply Kd.R_alloc | apply Kd.QI | apply Kd.QN)); exact mc.out⟩, ⟨by (with_reducible repeat (first | refine QC ?_ _ | refine QE ?_ | refine Qz ?_ _)); exact ab.out⟩, ⟨bB⟩⟩
          ·rw [if_neg c18] at H; exact absurd H (by simp)
         ·rw [if_neg c17] at H; exact absurd H (by simp)
        ·rw [if_neg c16] at H; exact absurd H (by simp)
       ·rw [if_neg c15] at H; have gI : decide (bP < (l2.length : Int)) = false := decide_eq_false c15; clear c15; simp only [Option.some.injEq, Prod.mk.injEq] at H; obtain ⟨rfl, rfl, rfl⟩ := H; go_wp2; go_ret3
        exact ⟨_, by first | rfl | (simp [Qj, Qi] <;> rfl) | (simp [*, Qj, Qi] <;> rfl), by (with_reducible repeat (first | apply Kd.R_alloc | apply Kd.QI | apply Kd.QN)); exact mc.out, bB⟩
 ·rw [if_neg c5] at H; have dq : (t102 == 0) = false := beq_eq_false_iff_ne.mpr c5; have jn : (t102 != 0) = true := bne_iff_ne.mpr c5; simp only [Option.some.injEq, Prod.mk.injEq] at H; obtain ⟨rfl, rfl, rfl⟩ := H; go_enter Try.func46, Try.ntmps46; go_wp2_with (first | ((with_reducible refine QO (N := 3) rfl ?_); refine Q4 ?hg (N := 3) ?hd (cs := #[.slice ak ae.length an, .slice aj af.length al]) (t := 24) ?hr ?_; (case hd => rfl); (case hg => rfl); (case hr => first | (go_simp; done) | (go_simp; rfl)); intro ag hg w22 hbox hb; have ab := aa.mk (hbox); have bo := aa.mk ((by rw [hg]; exact (Qc bB) : w.heap.size ≤ ag)); have aV := aa.mk ((by rw [hg]; exact (Qc bB) : w.heap.size ≤ ag)); replace HB := aa.mk (Qa bB hb); clear hb hbox hg; have xH : w22.cell? ⟨ag, 0, none⟩ = some (.slice ak ae.length an) := (Qd ab.out 0).trans rfl; have xG : w22.cell? ⟨ag, 1, none⟩ = some (.slice aj af.length al) := (Qd ab.out 1).trans rfl; have xe := Qb ab.out 0; have xd := Qb ab.out 1) | ((with_reducible refine Qg (f := 89) rfl ?_); refine QG (some 19) rfl rfl Try.func89 (by kernel_rfl) rfl #[.agg #[.slice ak ae.length an, .slice aj af.length al], .slice A1 l1.length c1, .slice A2 l2.length c2] rfl hA ?_; (with_reducible refine (Zy.calls k _ _ ae _ _ af _ _ l1 _ _ l2 t102 _ ?ah ?ai ?aq ?ar ?bh ?bg ?lx ?lv A4.out).mono ?_); (case ah => exact (Kd.Qo aw.out HB.out)); (case ai => exact az.out); (case aq => exact (Kd.Qo ay.out HB.out)); (case ar => exact aA.out); (case bh => exact (Kd.Qo HR1.out HB.out)); (case bg => exact HC1.out); (case lx => exact (Kd.Qo HR2.out HB.out)); (case lv => exact HC2.out); rintro e w24 ⟨rfl, hb⟩; refine ⟨_, rfl, ?_⟩; replace ab := aa.mk (Qq ab.out hb); replace HB := aa.mk (Qa bB hb); (try clear hb); (try clear hb2); (try clear hk); (try clear hi)))
  go_ret3
  exact ⟨_, by first | rfl | (simp [Qj, Qi] <;> rfl) | (simp [*, Qj, Qi] <;> rfl), by first | exact Kd.Yg _ _ _ _ _ | exact Kd.Yp _ _ _ _ _ | exact Kd.V_nil _ _ _ _ _ | exact Kd.Q_nil _ _ _ _ _ | exact Kd.Ys _ _ _ _ _, bB⟩
def Zv.f  : Option ((List (List Int)) × (List (List Int))) := some ((([(([2, 0] : List Int)), (([0, 2] : List Int))] : List (List Int))), (([(([2, 1] : List Int))] : List (List Int))))
set_option maxHeartbeats 8000000 in
set_option maxRecDepth 100000 in
theorem Zv.calls  (r1 : List (List Int)) (r2 : List (List Int)) (w : World) (h : Zv.f  = some (r1, r2)) :
  Calls Try.prog 91 #[] w fun e w' => ∃ v0_ v1_ : Value, e = .returned (.agg #[v0_, v1_]) ∧ Kd.N (Kd.slice 3 (Kd.int .i64)) 28 w' w.heap.size (fun k_ => (w.heap.size ≤ k_) ∧ some k_ ≠ (v1_ : Value).ownBlock) v0_ r1 ∧ Kd.N (Kd.slice 3 (Kd.int .i64)) 28 w' w.heap.size (fun k_ => (w.heap.size ≤ k_) ∧ some k_ ≠ (v0_ : Value).ownBlock) v1_ r2 ∧ Below w.heap.size w w' := by
 have en := Try.underlying24; have HB := aa.mk (Below.refl w.heap.size w); have H : (some ((([(([2, 0] : List Int)), (([0, 2] : List Int))] : List (List Int))), (([(([2, 1] : List Int))] : List (List Int))))) = some (r1, r2) := h; clear h; obtain ⟨fw, ed⟩ : ∃ y_ : List Int, y_ = (([2, 0] : List Int)) := ⟨_, rfl⟩; replace H : (some ((([fw, (([0, 2] : List Int))] : List (List Int))), (([(([2, 1] : List Int))] : List (List Int))))) = some (r1, r2) := by first | (rw [ed]; with_reducible exact H) | (have H2_ := (Option.bind_some _ _).symm.trans H; rw [ed]; with_reducible exact H2_) | (have H2_ := (Option.bind_some _ _).symm.trans H; with_reducible exact H2_) | with_reducible exact H | (rw [ed]; exact H) | exact H
 have j9 := aa.mk ed; clear ed; obtain ⟨cL, cM⟩ : ∃ y_ : List Int, y_ = (([0, 2] : List Int)) := ⟨_, rfl⟩; replace H : (some ((([fw, cL] : List (List Int))), (([(([2, 1] : List Int))] : List (List Int))))) = some (r1, r2) := by first | (rw [cM]; with_reducible exact H) | (have H2_ := (Option.bind_some _ _).symm.trans H; rw [cM]; with_reducible exact H2_) | (have H2_ := (Option.bind_some _ _).symm.trans H; with_reducible exact H2_) | with_reducible exact H | (rw [cM]; exact H) | exact H
 have gN := aa.mk cM; clear cM; obtain ⟨dn, eb⟩ : ∃ y_ : List (List Int), y_ = (([fw, cL] : List (List Int))) := ⟨_, rfl⟩; replace H : (some (dn, (([(([2, 1] : List Int))] : List (List Int))))) = some (r1, r2) := by first | (rw [eb]; with_reducible exact H) | (have H2_ := (Option.bind_some _ _).symm.trans H; rw [eb]; with_reducible exact H2_) | (have H2_ := (Option.bind_some _ _).symm.trans H; with_reducible exact H2_) | with_reducible exact H | (rw [eb]; exact H) | exact H
 have iA := aa.mk eb; clear eb; obtain ⟨n2, lM⟩ : ∃ y_ : List Int, y_ = (([2, 1] : List Int)) := ⟨_, rfl⟩; replace H : (some (dn, (([n2] : List (List Int))))) = some (r1, r2) := by first | (rw [lM]; with_reducible exact H) | (have H2_ := (Option.bind_some _ _).symm.trans H; rw [lM]; with_reducible exact H2_) | (have H2_ := (Option.bind_some _ _).symm.trans H; with_reducible exact H2_) | with_reducible exact H | (rw [lM]; exact H) | exact H
 have r6 := aa.mk lM; clear lM; obtain ⟨mf, gv⟩ : ∃ y_ : List (List Int), y_ = (([n2] : List (List Int))) := ⟨_, rfl⟩; replace H : (some (dn, mf)) = some (r1, r2) := by first | (rw [gv]; with_reducible exact H) | (have H2_ := (Option.bind_some _ _).symm.trans H; rw [gv]; with_reducible exact H2_) | (have H2_ := (Option.bind_some _ _).symm.trans H; with_reducible exact H2_) | with_reducible exact H | (rw [gv]; exact H) | exact H
 have nM := aa.mk gv; clear gv; simp only [Option.some.injEq, Prod.mk.injEq] at H; obtain ⟨rfl, rfl⟩ := H; go_enter Try.func91, Try.ntmps91; go_wp2_with (first | ((with_reducible refine QO (N := 0) rfl ?_); refine Q4 ?hg (N := 0) ?hd (cs := #[.slice none 0 0, .slice none 0 0]) (t := 24) ?hr ?_; (case hd => rfl); (case hg => rfl); (case hr => first | (go_simp; done) | (go_simp; rfl)); intro ag hg w1 hbox hb; have ab := aa.mk (hbox); have bo := aa.mk ((by rw [hg]; exact (Qc bB) : w.heap.size ≤ ag)); have aV := aa.mk ((by rw [hg]; exact (Qc bB) : w.heap.size ≤ ag)); replace HB := aa.mk (Qa bB hb); clear hb hbox hg) | ((with_reducible refine QO (N := 1) rfl ?_); refine Kd.YS (Kd.int .i64) _ 3 ?hg (N := 1) ?hd (xs := ([2, 0] : List Int)) (inner := [.int .i64 2, .int .i64 0]) (ok := fun _ => True) (okp := fun _ => True) ?hr ?hp (fun _ hk => hk) trivial (Below.refl _ _) (Nat.le_refl _) (by simp) ?_; (case hd => rfl); (case hg => rfl); (case hr => first | (go_simp; done) | (go_simp; rfl)); (case hp => exact (Reps.one (show Kd.M (Kd.int .i64) _ _ _ 2 [.int .i64 2] from rfl) (Reps.one (show Kd.M (Kd.int .i64) _ _ _ 0 [.int .i64 0] from rfl) (Reps.none _ _)))); intro iI w2 ho3 hb hg_ hnew_; clear hg_ hnew_; (first | rw [← j9.out] at ho3 | (simp only [Int.reduceToNat] at ho3; rw [← j9.out] at ho3)); have a8 := aa.mk (Kd.Zg (Kd.V7 (M := fun k_ => (w.heap.size ≤ k_)) ho3 (Qc bB) (fun k_ h_ => h_)) (Qc bB)); replace ab := aa.mk (Qq ab.out hb); replace HB := aa.mk (Qa bB hb); clear hb ho3) | ((with_reducible refine QO (N := 2) rfl ?_); refine Kd.YS (Kd.int .i64) _ 3 ?hg (N := 2) ?hd (xs := ([0, 2] : List Int)) (inner := [.int .i64 0, .int .i64 2]) (ok := fun _ => True) (okp := fun _ => True) ?hr ?hp (fun _ hk => hk) trivial (Below.refl _ _) (Nat.le_refl _) (by simp) ?_; (case hd => rfl); (case hg => rfl); (case hr => first | (go_simp; done) | (go_simp; rfl)); (case hp => exact (Reps.one (show Kd.M (Kd.int .i64) _ _ _ 0 [.int .i64 0] from rfl) (Reps.one (show Kd.M (Kd.int .i64) _ _ _ 2 [.int .i64 2] from rfl) (Reps.none _ _)))); intro hH w4 ho5 hb hg_ hnew_; clear hg_ hnew_; (first | rw [← gN.out] at ho5 | (simp only [Int.reduceToNat] at ho5; rw [← gN.out] at ho5)); have bS := aa.mk (Kd.Zg (Kd.Zt (Kd.V7 (M := fun k_ => (w.heap.size ≤ k_)) ho5 (Qc bB) (fun k_ h_ => h_)) (Kd.R_lt a8.out)) (Qc bB)); replace a8 := aa.mk (Kd.Zd a8.out (Kd.QS ho5) hb); replace ab := aa.mk (Qq ab.out hb); replace HB := aa.mk (Qa bB hb); clear hb ho5; obtain ⟨Ao6, co6, eo6⟩ := Kd.Zc a8.out; subst eo6; obtain ⟨Ao7, co7, eo7⟩ := Kd.Zc bS.out; subst eo7) | ((with_reducible refine QO (N := 3) rfl ?_); refine Kd.N_lit (Kd.slice 3 (Kd.int .i64)) _ 28 ?hg (N' := 3) ?hd (xs := ([fw, cL] : List (List Int))) (inner := [.slice Ao6 fw.length co6, .slice Ao7 cL.length co7]) (ok := (fun k_ => (w.heap.size ≤ k_) ∧ k_ ≠ ag)) (okp := (fun k_ => (w.heap.size ≤ k_) ∧ k_ ≠ ag)) ?hr ?hp (fun _ hk => hk) ((show ∀ k_, w4.heap.size ≤ k_ → (fun k_ => (w.heap.size ≤ k_) ∧ k_ ≠ ag) k_ from fun k_ hk => ⟨(Nat.le_trans (Qc bB) hk), Kd.freshB (g := ag) (o := .cells #[.slice none 0 0, .slice none 0 0] 24 (0, 0)) (by (with_reducible repeat (first | refine QC ?_ _ | refine QE ?_ | refine Qz ?_ _)); exact ab.out) k_ hk⟩) _ (Nat.le_refl _)) (Below.refl _ _) (Nat.le_refl _) (by simp) ?_; (case hd => rfl); (case hg => rfl); (case hr => first | (go_simp; done) | (go_simp; rfl)); (case hp => exact (Reps.one (show Kd.FK (Kd.slice 3 (Kd.int .i64)) _ _ fw [.slice Ao6 fw.length co6] from (Kd.YC (Kd.QA (Kd.Q8 (ok' := (fun k_ => (w.heap.size ≤ k_) ∧ k_ ≠ ag)) (Kd.Vd (a8.out) ab.out (by decide)) (fun k_ hk => ⟨hk.1.1.1, hk.2⟩))).2.1 (Kd.R_F (Kd.Q8 (ok' := (fun k_ => (w.heap.size ≤ k_) ∧ k_ ≠ ag)) (Kd.Vd (a8.out) ab.out (by decide)) (fun k_ hk => ⟨hk.1.1.1, hk.2⟩))))) (Reps.one (show Kd.FK (Kd.slice 3 (Kd.int .i64)) _ _ cL [.slice Ao7 cL.length co7] from (Kd.YC (Kd.QA (Kd.Q8 (ok' := (fun k_ => (w.heap.size ≤ k_) ∧ k_ ≠ ag)) (Kd.Vd (bS.out) ab.out (by decide)) (fun k_ hk => ⟨hk.1.1.1, hk.2⟩))).2.1 (Kd.R_F (Kd.Q8 (ok' := (fun k_ => (w.heap.size ≤ k_) ∧ k_ ≠ ag)) (Kd.Vd (bS.out) ab.out (by decide)) (fun k_ hk => ⟨hk.1.1.1, hk.2⟩))))) (Reps.none _ _)))); intro kp w8 ho9 hb hg_ hnew_; clear hg_ hnew_; (first | rw [← iA.out] at ho9 | (simp only [Int.reduceToNat] at ho9; rw [← iA.out] at ho9)); have cv := aa.mk (Kd.Yj ho9 (Qc bB)); replace ab := aa.mk (Qq ab.out hb); replace HB := aa.mk (Qa bB hb); clear a8 bS; clear hb ho9) | ((with_reducible refine QO (N := 4) rfl ?_); refine Kd.YS (Kd.int .i64) _ 3 ?hg (N := 4) ?hd (xs := ([2, 1] : List Int)) (inner := [.int .i64 2, .int .i64 1]) (ok := fun _ => True) (okp := fun _ => True) ?hr ?hp (fun _ hk => hk) trivial (Below.refl _ _) (Nat.le_refl _) (by simp) ?_; (case hd => rfl); (case hg => rfl); (case hr => first | (go_simp; done) | (go_simp; rfl)); (case hp => exact (Reps.one (show Kd.M (Kd.int .i64) _ _ _ 2 [.int .i64 2] from rfl) (Reps.one (show Kd.M (Kd.int .i64) _ _ _ 1 [.int .i64 1] from rfl) (Reps.none _ _)))); intro AD w10 fo hb hg_ hnew_; clear hg_ hnew_; (first | rw [← r6.out] at fo | (simp only [Int.reduceToNat] at fo; rw [← r6.out] at fo)); replace cv := aa.mk (Kd.Zf cv.out (Kd.QS fo) hb); have nU := aa.mk (Kd.Zg (Kd.V7 (M := fun k_ => (w.heap.size ≤ k_)) fo (Qc bB) (fun k_ h_ => h_)) (Qc bB)); replace ab := aa.mk (Qq ab.out hb); replace HB := aa.mk (Qa bB hb); clear hb fo; obtain ⟨m2, mS, oV⟩ := Kd.Zc nU.out; subst oV) | ((with_reducible refine QO (N := 5) rfl ?_); refine Kd.N_lit (Kd.slice 3 (Kd.int .i64)) _ 28 ?hg (N' := 5) ?hd (xs := ([n2] : List (List Int))) (inner := [.slice m2 n2.length mS]) (ok := (fun k_ => (w.heap.size ≤ k_) ∧ some k_ ≠ (kp : Value).ownBlock ∧ k_ ≠ ag)) (okp := (fun k_ => (w.heap.size ≤ k_) ∧ some k_ ≠ (kp : Value).ownBlock ∧ k_ ≠ ag)) ?hr ?hp (fun _ hk => hk) ((show ∀ k_, w10.heap.size ≤ k_ → (fun k_ => (w.heap.size ≤ k_) ∧ some k_ ≠ (kp : Value).ownBlock ∧ k_ ≠ ag) k_ from fun k_ hk => ⟨(Nat.le_trans (Qc bB) hk), Kd.fresh' (Kd.N_lt cv.out) k_ hk, Kd.freshB (g := ag) (o := .cells #[.slice none 0 0, .slice none 0 0] 24 (0, 0)) (by (with_reducible repeat (first | refine QC ?_ _ | refine QE ?_ | refine Qz ?_ _)); exact ab.out) k_ hk⟩) _ (Nat.le_refl _)) (Below.refl _ _) (Nat.le_refl _) (by simp) ?_; (case hd => rfl); (case hg => rfl); (case hr => first | (go_simp; done) | (go_simp; rfl)); (case hp => exact (Reps.one (show Kd.FK (Kd.slice 3 (Kd.int .i64)) _ _ n2 [.slice m2 n2.length mS] from (Kd.YC (Kd.QA (Kd.Q8 (ok' := (fun k_ => (w.heap.size ≤ k_) ∧ some k_ ≠ (kp : Value).ownBlock ∧ k_ ≠ ag)) (Kd.Vd (Kd.ZD (nU.out) (Kd.ZG cv.out) (by decide)) ab.out (by decide)) (fun k_ hk => ⟨hk.1.1.1, ⟨hk.1.2, hk.2⟩⟩))).2.1 (Kd.R_F (Kd.Q8 (ok' := (fun k_ => (w.heap.size ≤ k_) ∧ some k_ ≠ (kp : Value).ownBlock ∧ k_ ≠ ag)) (Kd.Vd (Kd.ZD (nU.out) (Kd.ZG cv.out) (by decide)) ab.out (by decide)) (fun k_ hk => ⟨hk.1.1.1, ⟨hk.1.2, hk.2⟩⟩))))) (Reps.none _ _))); intro n3 w13 n5 hb hg_ hnew_; clear hg_ hnew_; (first | rw [← nM.out] at n5 | (simp only [Int.reduceToNat] at n5; rw [← nM.out] at n5)); replace cv := aa.mk (Kd.Zf cv.out (Kd.Z8 n5) hb); have hG := aa.mk (Kd.Yj n5 (Qc bB)); replace ab := aa.mk (Qq ab.out hb); replace HB := aa.mk (Qa bB hb); clear nU; clear hb n5; obtain ⟨tT, tu, yV⟩ := Kd.Yb hG.out; subst yV; obtain ⟨iX, gV, n9⟩ := Kd.Yb cv.out; subst n9; have fJ : w13.cell? ⟨ag, 0, none⟩ = some (.slice none 0 0) := (Qd ab.out 0).trans rfl; have fI : w13.cell? ⟨ag, 1, none⟩ = some (.slice none 0 0) := (Qd ab.out 1).trans rfl; have fF := Qb ab.out 0; have fE := Qb ab.out 1))
 refine bodyPost_ret (results_cell_row rfl _ _ ag 24 #[.slice iX dn.length gV, .slice tT mf.length tu] (0, 0) _ rfl (by (with_reducible repeat (first | refine QC ?_ _ | refine QE ?_ | refine Qz ?_ _)); refine blk_put (cs := #[.slice iX dn.length gV, .slice none 0 0]) ?_ 1 _ rfl; (with_reducible repeat (first | refine QC ?_ _ | refine QE ?_ | refine Qz ?_ _)); refine blk_put (cs := #[.slice none 0 0, .slice none 0 0]) ?_ 0 _ rfl; (with_reducible repeat (first | refine QC ?_ _ | refine QE ?_ | refine Qz ?_ _)); exact ab.out) Try.underlying24 rfl (by kernel_rfl)) rfl ?_; exact ⟨_, _, by first | rfl | (simp [Qj, Qi] <;> rfl) | (simp [*, Qj, Qi] <;> rfl), by (with_reducible repeat (first | apply Kd.N_alloc | apply Kd.Ye | apply Kd.Yn)); exact Kd.Ya (Kd.N_far (p := ⟨ag, 1, none⟩) (Kd.N_far (p := ⟨ag, 0, none⟩) (Kd.Ya cv.out (fun k_ hk => (⟨hk, hk.1.1.2⟩ : _ ∧ k_ ≠ ag))) (fun _ hk => hk.2) (.slice iX dn.length gV)) (fun _ hk => hk.2) (.slice tT mf.length tu)) (fun _ hk => ⟨hk.1.1.1.1, hk.1.2⟩), by (with_reducible repeat (first | apply Kd.N_alloc | apply Kd.Ye | apply Kd.Yn)); exact Kd.Ya (Kd.N_far (p := ⟨ag, 1, none⟩) (Kd.N_far (p := ⟨ag, 0, none⟩) (Kd.Ya hG.out (fun k_ hk => (⟨hk, hk.2.2⟩ : _ ∧ k_ ≠ ag))) (fun _ hk => hk.2) (.slice iX dn.length gV)) (fun _ hk => hk.2) (.slice tT mf.length tu)) (fun _ hk => ⟨hk.1.1, hk.1.2.1⟩), bB⟩
end Go.Proofs.Ytdneelgnmnpanaa.P
end
