/- What the claim's last text wants, part 6: functions of the translation as Lean functions with their contracts, and plain theorems; no conditions beyond those that each theorem names. -/
import Derived.Test.YtdneelgnmnpanaaZSi5
import Derived.SizedLaws
set_option linter.unusedVariables false
set_option linter.unusedSimpArgs false
section
namespace Go.Proofs.Ytdneelgnmnpanaa.P
open Go.RowKit Go.Proofs.YtdneelgnmnpanaaW.PrintWords Go.Proofs.YtdneelgnmnpanaaW.PrintLast Go.Proofs.YtdneelgnmnpanaaW.PrintMore
attribute [local go_sem] max2_int min2_int max_two min_two max_three min_three max_four min_four
def Zn.f (k : Nat) (ae : List (List Int)) (af : List (List Int)) : Option (Bool × Int) := (Qk.f k ae af).bind fun t102 => (if t102 = 0 then ((QU.f k ae af).bind fun lZ => (some (lZ.2, 0))) else (some (false, t102)))
set_option maxHeartbeats 8000000 in
set_option maxRecDepth 100000 in
theorem Zn.calls (k : Nat) (ak : Option Addr) (an : Nat) (ae : List (List Int)) (aj : Option Addr) (al : Nat) (af : List (List Int)) (r1 : Bool) (r2 : Int) (w : World) (aN : Kd.C (Kd.slice 3 (Kd.int .i64)) w ak ae.length ae) (aT : ae.length ≤ an) (aM : Kd.C (Kd.slice 3 (Kd.int .i64)) w aj af.length af) (aQ : af.length ≤ al) (h : Zn.f k ae af = some (r1, r2)) :
  Calls Try.prog 37 #[.agg #[.slice ak ae.length an, .slice aj af.length al]] w fun e w' => e = .returned (.tuple #[.bool r1, .int .i64 r2]) ∧ Below w.heap.size w w' := by
 have en := Try.underlying24; have aw := aa.mk aN; have az := aa.mk aT; clear aN aT; have ay := aa.mk aM; have aA := aa.mk aQ; clear aM aQ; have HB := aa.mk (Below.refl w.heap.size w); have H : ((Qk.f k ae af).bind fun t102 => (if t102 = 0 then ((QU.f k ae af).bind fun lZ => (some (lZ.2, 0))) else (some (false, t102)))) = some (r1, r2) := h; clear h; replace H := Option.bind_eq_some_iff.mp H; obtain ⟨t102, A20, H⟩ := H; replace H : (if t102 = 0 then ((QU.f k ae af).bind fun lZ => (some (lZ.2, 0))) else (some (false, t102))) = some (r1, r2) := H; have A2 := aa.mk A20; clear A20; by_cases c3 : t102 = 0
 ·rw [if_pos c3] at H; have bH : (t102 == 0) = true := beq_iff_eq.mpr c3; have cx : (t102 != 0) = false := bne_eq_false_iff_eq.mpr c3; clear c3; replace H := Option.bind_eq_some_iff.mp H; obtain ⟨⟨t103, t106⟩, A40, H⟩ := H; replace H : (some (t106, 0)) = some (r1, r2) := H; have A4 := aa.mk A40; clear A40; simp only [Option.some.injEq, Prod.mk.injEq] at H; obtain ⟨rfl, rfl⟩ := H; go_enter Try.func37, Try.ntmps37; go_wp2_with (first | ((with_reducible refine QO (N := 1) rfl ?_); refine Q4 ?hg (N := 1) ?hd (cs := #[.slice ak ae.length an, .slice aj af.length al]) (t := 24) ?hr ?_; (case hd => rfl); (case hg => rfl); (case hr => first | (go_simp; done) | (go_simp; rfl)); intro ag hg w5 hbox hb; have ab := aa.mk (hbox); have bo := aa.mk ((by rw [hg]; exact (Qc bB) : w.heap.size ≤ ag)); have aV := aa.mk ((by rw [hg]; exact (Qc bB) : w.heap.size ≤ ag)); replace HB := aa.mk (Qa bB hb); clear hb hbox hg; have fj : w5.cell? ⟨ag, 0, none⟩ = some (.slice ak ae.length an) := (Qd ab.out 0).trans rfl; have fi : w5.cell? ⟨ag, 1, none⟩ = some (.slice aj af.length al) := (Qd ab.out 1).trans rfl; have fh := Qb ab.out 0; have fg := Qb ab.out 1) | ((with_reducible refine Qg (f := 38) rfl ?_); refine QG (some 8) rfl rfl Try.func38 (by kernel_rfl) rfl #[.agg #[.slice ak ae.length an, .slice aj af.length al]] rfl hA ?_; (with_reducible refine (Qk.calls k _ _ ae _ _ af t102 _ ?ah ?ai ?aq ?ar A2.out).mono ?_); (case ah => exact (Kd.Qo aw.out HB.out)); (case ai => exact az.out); (case aq => exact (Kd.Qo ay.out HB.out)); (case ar => exact aA.out); rintro e w7 ⟨rfl, hb⟩; refine ⟨_, rfl, ?_⟩; replace ab := aa.mk (Qq ab.out hb); replace HB := aa.mk (Qa bB hb); (try clear hb); (try clear hb2); (try clear hk); (try clear hi); have mF : w7.cell? ⟨ag, 0, none⟩ = some (.slice ak ae.length an) := (Qd ab.out 0).trans rfl; have mE : w7.cell? ⟨ag, 1, none⟩ = some (.slice aj af.length al) := (Qd ab.out 1).trans rfl; have mD := Qb ab.out 0; have mC := Qb ab.out 1) | ((with_reducible refine Qg (f := 74) rfl ?_); refine QG (some 14) rfl rfl Try.func74 (by kernel_rfl) rfl #[.agg #[.slice ak ae.length an, .slice aj af.length al]] rfl hA ?_; (with_reducible refine (QU.calls k _ _ ae _ _ af t103 t106 _ ?ah ?ai ?aq ?ar A4.out).mono ?_); (case ah => exact (Kd.Qo aw.out HB.out)); (case ai => exact az.out); (case aq => exact (Kd.Qo ay.out HB.out)); (case ar => exact aA.out); rintro e w9 ⟨ff, rfl, ho0, hb⟩; refine ⟨_, rfl, ?_⟩; have bf := aa.mk (Kd.Zg ho0 (Qc bB)); replace ab := aa.mk (Qq ab.out hb); replace HB := aa.mk (Qa bB hb); (try clear hb); (try clear hb2); (try clear hk); (try clear hi); (try clear ho0)))
  go_ret2; exact ⟨by first | rfl | (simp [Qj, Qi] <;> rfl) | (simp [*, Qj, Qi] <;> rfl), bB⟩
 ·rw [if_neg c3] at H; have bH : (t102 == 0) = false := beq_eq_false_iff_ne.mpr c3; have cx : (t102 != 0) = true := bne_iff_ne.mpr c3; simp only [Option.some.injEq, Prod.mk.injEq] at H; obtain ⟨rfl, rfl⟩ := H; go_enter Try.func37, Try.ntmps37; go_wp2_with (first | ((with_reducible refine QO (N := 1) rfl ?_); refine Q4 ?hg (N := 1) ?hd (cs := #[.slice ak ae.length an, .slice aj af.length al]) (t := 24) ?hr ?_; (case hd => rfl); (case hg => rfl); (case hr => first | (go_simp; done) | (go_simp; rfl)); intro ag hg w10 hbox hb; have ab := aa.mk (hbox); have bo := aa.mk ((by rw [hg]; exact (Qc bB) : w.heap.size ≤ ag)); have aV := aa.mk ((by rw [hg]; exact (Qc bB) : w.heap.size ≤ ag)); replace HB := aa.mk (Qa bB hb); clear hb hbox hg; have cY : w10.cell? ⟨ag, 0, none⟩ = some (.slice ak ae.length an) := (Qd ab.out 0).trans rfl; have cX : w10.cell? ⟨ag, 1, none⟩ = some (.slice aj af.length al) := (Qd ab.out 1).trans rfl; have cU := Qb ab.out 0; have cT := Qb ab.out 1) | ((with_reducible refine Qg (f := 38) rfl ?_); refine QG (some 8) rfl rfl Try.func38 (by kernel_rfl) rfl #[.agg #[.slice ak ae.length an, .slice aj af.length al]] rfl hA ?_; (with_reducible refine (Qk.calls k _ _ ae _ _ af t102 _ ?ah ?ai ?aq ?ar A2.out).mono ?_); (case ah => exact (Kd.Qo aw.out HB.out)); (case ai => exact az.out); (case aq => exact (Kd.Qo ay.out HB.out)); (case ar => exact aA.out); rintro e w12 ⟨rfl, hb⟩; refine ⟨_, rfl, ?_⟩; replace ab := aa.mk (Qq ab.out hb); replace HB := aa.mk (Qa bB hb); (try clear hb); (try clear hb2); (try clear hk); (try clear hi)))
  go_ret2; exact ⟨by first | rfl | (simp [Qj, Qi] <;> rfl) | (simp [*, Qj, Qi] <;> rfl), bB⟩
def Qs.j0 : Nat → List Int → Bool → Bool → List (List Int) → List (List Int) → Option (Bool)
 | 0, _, _, _, _, _ => none
 | k + 1, x6, x7, x41, au, av => if x41 = true then (some false) else (if x7 = true then ((ZB.f k au av x6).bind fun jb => ((Zn.f k au av).bind fun gK => (if jb.2 = 0 then (if jb.1 = true then (if gK.2 = 0 then (if gK.1 = true then ((QV.f k).bind fun t119 => (some t119)) else (some false)) else (some false)) else (some false)) else (some false)))) else ((QV.f k).bind fun t120 => (some t120)))
def Qs.f (k : Nat) (ae : List (List Int)) (af : List (List Int)) : Option (Bool) := (QD.f k ae af).bind fun t102 => (if t102 = true then ((QV.f k).bind fun t103 => (some t103)) else ((Zx.f k ae af).bind fun eP => ((Q5.f k ae af).bind fun bn => (if (bn.2.1 != eP.2.1) = true then (Qs.j0 k bn.1 bn.2.1 true ae af) else (if bn.2.2 = eP.2.2 then ((Qn.f k bn.1 eP.1).bind fun t114 => (Qs.j0 k bn.1 bn.2.1 (!t114) ae af)) else (Qs.j0 k bn.1 bn.2.1 true ae af))))))
set_option maxHeartbeats 8000000 in
set_option maxRecDepth 100000 in
theorem Qs.calls (k : Nat) (ak : Option Addr) (an : Nat) (ae : List (List Int)) (aj : Option Addr) (al : Nat) (af : List (List Int)) (r : Bool) (w : World) (aN : Kd.C (Kd.slice 3 (Kd.int .i64)) w ak ae.length ae) (aT : ae.length ≤ an) (aM : Kd.C (Kd.slice 3 (Kd.int .i64)) w aj af.length af) (aQ : af.length ≤ al) (h : Qs.f k ae af = some r) :
  Calls Try.prog 31 #[.agg #[.slice ak ae.length an, .slice aj af.length al]] w fun e w' => e = .returned (.bool r) ∧ Below w.heap.size w w' := by
 have en := Try.underlying24; have aw := aa.mk aN; have az := aa.mk aT; clear aN aT; have ay := aa.mk aM; have aA := aa.mk aQ; clear aM aQ; have HB := aa.mk (Below.refl w.heap.size w); have H : ((QD.f k ae af).bind fun t102 => (if t102 = true then ((QV.f k).bind fun t103 => (some t103)) else ((Zx.f k ae af).bind fun eP => ((Q5.f k ae af).bind fun bn => (if (bn.2.1 != eP.2.1) = true then (Qs.j0 k bn.1 bn.2.1 true ae af) else (if bn.2.2 = eP.2.2 then ((Qn.f k bn.1 eP.1).bind fun t114 => (Qs.j0 k bn.1 bn.2.1 (!t114) ae af)) else (Qs.j0 k bn.1 bn.2.1 true ae af))))))) = some r := h; clear h; replace H := Option.bind_eq_some_iff.mp H; obtain ⟨t102, A20, H⟩ := H; replace H : (if t102 = true then ((QV.f k).bind fun t103 => (some t103)) else ((Zx.f k ae af).bind fun eP => ((Q5.f k ae af).bind fun bn => (if (bn.2.1 != eP.2.1) = true then (Qs.j0 k bn.1 bn.2.1 true ae af) else (if bn.2.2 = eP.2.2 then ((Qn.f k bn.1 eP.1).bind fun t114 => (Qs.j0 k bn.1 bn.2.1 (!t114) ae af)) else (Qs.j0 k bn.1 bn.2.1 true ae af)))))) = some r := H; have A2 := aa.mk A20; clear A20; by_cases c3 : t102 = true
 ·subst c3; have H1 : ((QV.f k).bind fun t103 => (some t103)) = some r := by rw [if_pos rfl] at H; exact H
  clear H; have H := H1; clear H1; replace H := Option.bind_eq_some_iff.mp H; obtain ⟨t103, A40, H⟩ := H; replace H : (some t103) = some r := H; have A4 := aa.mk A40; clear A40; obtain rfl := Option.some.inj H; go_enter Try.func31, Try.ntmps31; go_wp2_with (first | ((with_reducible refine QO (N := 1) rfl ?_); refine Q4 ?hg (N := 1) ?hd (cs := #[.slice ak ae.length an, .slice aj af.length al]) (t := 24) ?hr ?_; (case hd => rfl); (case hg => rfl); (case hr => first | (go_simp; done) | (go_simp; rfl)); intro ag hg w5 hbox hb; have ab := aa.mk (hbox); have bo := aa.mk ((by rw [hg]; exact (Qc bB) : w.heap.size ≤ ag)); have aV := aa.mk ((by rw [hg]; exact (Qc bB) : w.heap.size ≤ ag)); replace HB := aa.mk (Qa bB hb); clear hb hbox hg; have fj : w5.cell? ⟨ag, 0, none⟩ = some (.slice ak ae.length an) := (Qd ab.out 0).trans rfl; have fi : w5.cell? ⟨ag, 1, none⟩ = some (.slice aj af.length al) := (Qd ab.out 1).trans rfl; have fh := Qb ab.out 0; have fg := Qb ab.out 1) | ((with_reducible refine Qg (f := 36) rfl ?_); refine QG (some 14) rfl rfl Try.func36 (by kernel_rfl) rfl #[.agg #[.slice ak ae.length an, .slice aj af.length al]] rfl hA ?_; (with_reducible refine (QD.calls k _ _ ae _ _ af true _ ?ah ?ai ?aq ?ar A2.out).mono ?_); (case ah => exact (Kd.Qo aw.out HB.out)); (case ai => exact az.out); (case aq => exact (Kd.Qo ay.out HB.out)); (case ar => exact aA.out); rintro e w7 ⟨rfl, hb⟩; refine ⟨_, rfl, ?_⟩; replace ab := aa.mk (Qq ab.out hb); replace HB := aa.mk (Qa bB hb); (try clear hb); (try clear hb2); (try clear hk); (try clear hi)) | ((with_reducible refine Qg (f := 50) rfl ?_); refine QG (some 15) rfl rfl Try.func50 (by kernel_rfl) rfl #[] rfl hA ?_; (with_reducible refine (QV.calls k  t103 _ A4.out).mono ?_); rintro e w8 ⟨rfl, hb⟩; refine ⟨_, rfl, ?_⟩; replace ab := aa.mk (Qq ab.out hb); replace HB := aa.mk (Qa bB hb); (try clear hb); (try clear hb2); (try clear hk); (try clear hi)))
  go_ret; exact ⟨by first | rfl | (simp [Qj, Qi] <;> rfl) | (simp [*, Qj, Qi] <;> rfl), bB⟩
 ·replace c3 := Bool.eq_false_iff.mpr c3; subst c3; have H1 : ((Zx.f k ae af).bind fun eP => ((Q5.f k ae af).bind fun bn => (if (bn.2.1 != eP.2.1) = true then (Qs.j0 k bn.1 bn.2.1 true ae af) else (if bn.2.2 = eP.2.2 then ((Qn.f k bn.1 eP.1).bind fun t114 => (Qs.j0 k bn.1 bn.2.1 (!t114) ae af)) else (Qs.j0 k bn.1 bn.2.1 true ae af))))) = some r := by rw [if_neg (show ¬ (false = true) by decide)] at H; exact H
  clear H; have H := H1; clear H1; replace H := Option.bind_eq_some_iff.mp H; obtain ⟨⟨t104, t107, t108⟩, A90, H⟩ := H; replace H : ((Q5.f k ae af).bind fun bn => (if (bn.2.1 != t107) = true then (Qs.j0 k bn.1 bn.2.1 true ae af) else (if bn.2.2 = t108 then ((Qn.f k bn.1 t104).bind fun t114 => (Qs.j0 k bn.1 bn.2.1 (!t114) ae af)) else (Qs.j0 k bn.1 bn.2.1 true ae af)))) = some r := H; have A9 := aa.mk A90; clear A90; replace H := Option.bind_eq_some_iff.mp H; obtain ⟨⟨t109, t112, t113⟩, wj, H⟩ := H; replace H : (if (t112 != t107) = true then (Qs.j0 k t109 t112 true ae af) else (if t113 = t108 then ((Qn.f k t109 t104).bind fun t114 => (Qs.j0 k t109 t112 (!t114) ae af)) else (Qs.j0 k t109 t112 true ae af))) = some r := H; have A10 := aa.mk wj; clear wj; have tP := aa.mk H; clear H; go_enter Try.func31, Try.ntmps31; go_upto_region 5 with (first | ((with_reducible refine QO (N := 1) rfl ?_); refine Q4 ?hg (N := 1) ?hd (cs := #[.slice ak ae.length an, .slice aj af.length al]) (t := 24) ?hr ?_; (case hd => rfl); (case hg => rfl); (case hr => first | (go_simp; done) | (go_simp; rfl)); intro ag hg w12 hbox hb; have ab := aa.mk (hbox); have bo := aa.mk ((by rw [hg]; exact (Qc bB) : w.heap.size ≤ ag)); have aV := aa.mk ((by rw [hg]; exact (Qc bB) : w.heap.size ≤ ag)); replace HB := aa.mk (Qa bB hb); clear hb hbox hg; have dH : w12.cell? ⟨ag, 0, none⟩ = some (.slice ak ae.length an) := (Qd ab.out 0).trans rfl; have dG : w12.cell? ⟨ag, 1, none⟩ = some (.slice aj af.length al) := (Qd ab.out 1).trans rfl; have dF := Qb ab.out 0; have dE := Qb ab.out 1) | ((with_reducible refine Qg (f := 36) rfl ?_); refine QG (some 14) rfl rfl Try.func36 (by kernel_rfl) rfl #[.agg #[.slice ak ae.length an, .slice aj af.length al]] rfl hA ?_; (with_reducible refine (QD.calls k _ _ ae _ _ af false _ ?ah ?ai ?aq ?ar A2.out).mono ?_); (case ah => exact (Kd.Qo aw.out HB.out)); (case ai => exact az.out); (case aq => exact (Kd.Qo ay.out HB.out)); (case ar => exact aA.out); rintro e w14 ⟨rfl, hb⟩; refine ⟨_, rfl, ?_⟩; replace ab := aa.mk (Qq ab.out hb); replace HB := aa.mk (Qa bB hb); (try clear hb); (try clear hb2); (try clear hk); (try clear hi); have fL : w14.cell? ⟨ag, 0, none⟩ = some (.slice ak ae.length an) := (Qd ab.out 0).trans rfl; have fK : w14.cell? ⟨ag, 1, none⟩ = some (.slice aj af.length al) := (Qd ab.out 1).trans rfl; have fH := Qb ab.out 0; have fG := Qb ab.out 1) | ((with_reducible refine Qg (f := 66) rfl ?_); refine QG (some 18) rfl rfl Try.func66 (by kernel_rfl) rfl #[.agg #[.slice ak ae.length an, .slice aj af.length al]] rfl hA ?_; (with_reducible refine (Zx.calls k _ _ ae _ _ af t104 t107 t108 _ ?ah ?ai ?aq ?ar A9.out).mono ?_); (case ah => exact (Kd.Qo aw.out HB.out)); (case ai => exact az.out); (case aq => exact (Kd.Qo ay.out HB.out)); (case ar => exact aA.out); rintro e w16 ⟨ie, rfl, ho0, hb⟩; refine ⟨_, rfl, ?_⟩; have aY := aa.mk (Kd.Zg ho0 (Qc bB)); replace ab := aa.mk (Qq ab.out hb); replace HB := aa.mk (Qa bB hb); (try clear hb); (try clear hb2); (try clear hk); (try clear hi); (try clear ho0); have fJ : w16.cell? ⟨ag, 0, none⟩ = some (.slice ak ae.length an) := (Qd ab.out 0).trans rfl; have fI : w16.cell? ⟨ag, 1, none⟩ = some (.slice aj af.length al) := (Qd ab.out 1).trans rfl; have fF := Qb ab.out 0; have fE := Qb ab.out 1) | ((with_reducible refine Qg (f := 41) rfl ?_); refine QG (some 24) rfl rfl Try.func41 (by kernel_rfl) rfl #[.agg #[.slice ak ae.length an, .slice aj af.length al]] rfl hA ?_; (with_reducible refine (Q5.calls k _ _ ae _ _ af t109 t112 t113 _ ?ah ?ai ?aq ?ar A10.out).mono ?_); (case ah => exact (Kd.Qo aw.out HB.out)); (case ai => exact az.out); (case aq => exact (Kd.Qo ay.out HB.out)); (case ar => exact aA.out); rintro e w18 ⟨mg, rfl, ho0, hb⟩; refine ⟨_, rfl, ?_⟩; have di := aa.mk (Kd.Zg (Kd.Zt ho0 (Kd.R_lt aY.out)) (Qc bB)); replace aY := aa.mk (Kd.Zd aY.out (Kd.QS ho0) hb); replace ab := aa.mk (Qq ab.out hb); replace HB := aa.mk (Qa bB hb); (try clear hb); (try clear hb2); (try clear hk); (try clear hi); (try clear ho0)))
  (try simp only [Act.put, zA, zB, zC])
  go_cut [41] (fun v41 wc => ∃ (kq : Nat) (kA : Bool), v41 = .bool kA ∧ aa (Qs.j0 kq t109 t112 kA ae af = some r) ∧ aa (kq ≤ k) ∧ aa (Kd.R (Kd.int .i64) 3 wc w.heap.size (fun _ => True) mg t109) ∧ aa (wc.heap[ag]? = some (.cells #[(.slice ak ae.length an), (.slice aj af.length al)] 24 (0, 0))) ∧ aa (Below w.heap.size w wc))
  case first =>
   have H := tP.out; clear tP; by_cases c19 : (t112 != t107) = true
   ·rw [if_pos c19] at H; have cN : (t112 != t107) = true := c19; (try (have g8 : decide (t112 = t107) = false := by simpa using c19))
    (try (have rP : (t112 == t107) = false := by simpa using c19))
    (try (have Ag : ¬ (t112 = t107) := by simpa using c19))
    clear c19; (first | rw [cN] | (simp only [Qy, QB]; rw [cN]) | skip)
    have H' := aa.mk H; clear H; go_wp2; go_meet
    case rel => exact ⟨_, (true), (by first | rfl | (simp; done) | (simp [*]; done)), H', ⟨by first | omega | exact Nat.le_refl _⟩, ⟨by (with_reducible repeat (first | apply Kd.R_alloc | apply Kd.QI | apply Kd.QN)); exact Kd.Q8 di.out (fun _ hk => trivial)⟩, ⟨by (with_reducible repeat (first | refine QC ?_ _ | refine QE ?_ | refine Qz ?_ _)); exact ab.out⟩, ⟨bB⟩⟩
   ·rw [if_neg c19] at H; have cN : (t112 != t107) = false := by simpa using c19
    (try (have g8 : decide (t112 = t107) = true := by simpa using c19))
    (try (have rP : (t112 == t107) = true := by simpa using c19))
    clear c19; (first | rw [cN] | (simp only [Qy, QB]; rw [cN]) | skip)
    by_cases c20 : t113 = t108
    ·rw [if_pos c20] at H; have gZ : (t113 == t108) = true := beq_iff_eq.mpr c20; have rO : (t113 != t108) = false := bne_eq_false_iff_eq.mpr c20; clear c20; replace H := Option.bind_eq_some_iff.mp H; obtain ⟨t114, pF, H⟩ := H; replace H : (Qs.j0 k t109 t112 (!t114) ae af) = some r := H; have A21 := aa.mk pF; clear pF; have H' := aa.mk H; clear H; obtain ⟨jt, jl, tb⟩ := Kd.Zc di.out; subst tb; obtain ⟨jr, iT, n8⟩ := Kd.Zc aY.out; subst n8; go_wp2_with (first | (go_at_call 45; (with_reducible refine (Qn.calls k _ _ t109 _ _ t104 t114 _ ?ah ?ai ?aq ?ar A21.out).mono ?_); (case ah => exact (Kd.QA di.out).2.2); (case ai => exact (Kd.QA di.out).2.1); (case aq => exact (Kd.QA aY.out).2.2); (case ar => exact (Kd.QA aY.out).2.1); rintro e w' ⟨rfl, ⟨nd, rfl⟩⟩))
     go_meet
     case rel => exact ⟨_, (!t114), (by first | rfl | (simp; done) | (simp [*]; done)), H', ⟨by first | omega | exact Nat.le_refl _⟩, ⟨by (with_reducible repeat (first | apply Kd.R_alloc | apply Kd.QI | apply Kd.QN)); exact Kd.Q8 di.out (fun _ hk => trivial)⟩, ⟨by (with_reducible repeat (first | refine QC ?_ _ | refine QE ?_ | refine Qz ?_ _)); exact ab.out⟩, ⟨bB⟩⟩
    ·rw [if_neg c20] at H; have gZ : (t113 == t108) = false := beq_eq_false_iff_ne.mpr c20; have rO : (t113 != t108) = true := bne_iff_ne.mpr c20; have H' := aa.mk H; clear H; go_wp2; go_meet
     case rel => exact ⟨_, (true), (by first | rfl | (simp; done) | (simp [*]; done)), H', ⟨by first | omega | exact Nat.le_refl _⟩, ⟨by (with_reducible repeat (first | apply Kd.R_alloc | apply Kd.QI | apply Kd.QN)); exact Kd.Q8 di.out (fun _ hk => trivial)⟩, ⟨by (with_reducible repeat (first | refine QC ?_ _ | refine QE ?_ | refine Qz ?_ _)); exact ab.out⟩, ⟨bB⟩⟩
  case rest =>
   clear tP; try clear c1
   try clear c2
   try clear p2
   try clear c3
   try clear c4
   try clear c5
   try clear c6
   try clear c19
   try clear cN
   try clear g8
   try clear rP
   try clear c20
   try clear gZ
   try clear rO
   try clear dH
   try clear dG
   try clear fL
   try clear fK
   try clear fJ
   try clear fI
   try clear fj
   try clear fi
   try clear dF
   try clear dE
   try clear fH
   try clear fG
   try clear fF
   try clear fE
   try clear fh
   try clear fg
   obtain ⟨kq, kA, rfl, HA, Bu, aI, ab, HB⟩ := hcut; cases kq with
   | zero => exact absurd HA.out (by simp [Qs.j0])
   | succ ek =>
    have H := HA.out; clear HA; simp only [Qs.j0] at H; by_cases c24 : kA = true
    ·subst c24; have H1 : (some false) = some r := by rw [if_pos rfl] at H; exact H
     clear H; have H := H1; clear H1; obtain rfl := Option.some.inj H; go_wp2; go_ret; exact ⟨by first | rfl | (simp [Qj, Qi] <;> rfl) | (simp [*, Qj, Qi] <;> rfl), bB⟩
    ·replace c24 := Bool.eq_false_iff.mpr c24; subst c24; have H1 : (if t112 = true then ((ZB.f ek ae af t109).bind fun jb => ((Zn.f ek ae af).bind fun gK => (if jb.2 = 0 then (if jb.1 = true then (if gK.2 = 0 then (if gK.1 = true then ((QV.f ek).bind fun t119 => (some t119)) else (some false)) else (some false)) else (some false)) else (some false)))) else ((QV.f ek).bind fun t120 => (some t120))) = some r := by rw [if_neg (show ¬ (false = true) by decide)] at H; exact H
     clear H; have H := H1; clear H1; by_cases c25 : t112 = true
     ·subst c25; have H1 : ((ZB.f ek ae af t109).bind fun jb => ((Zn.f ek ae af).bind fun gK => (if jb.2 = 0 then (if jb.1 = true then (if gK.2 = 0 then (if gK.1 = true then ((QV.f ek).bind fun t119 => (some t119)) else (some false)) else (some false)) else (some false)) else (some false)))) = some r := by rw [if_pos rfl] at H; exact H
      clear H; have H := H1; clear H1; replace H := Option.bind_eq_some_iff.mp H; obtain ⟨⟨t115, t116⟩, pC, H⟩ := H; replace H : ((Zn.f ek ae af).bind fun gK => (if t116 = 0 then (if t115 = true then (if gK.2 = 0 then (if gK.1 = true then ((QV.f ek).bind fun t119 => (some t119)) else (some false)) else (some false)) else (some false)) else (some false))) = some r := H; have A26 := aa.mk pC; clear pC; replace H := Option.bind_eq_some_iff.mp H; obtain ⟨⟨t117, t118⟩, pB, H⟩ := H; replace H : (if t116 = 0 then (if t115 = true then (if t118 = 0 then (if t117 = true then ((QV.f ek).bind fun t119 => (some t119)) else (some false)) else (some false)) else (some false)) else (some false)) = some r := H; have A27 := aa.mk pB; clear pB; by_cases c28 : t116 = 0
      ·rw [if_pos c28] at H; have lX : (t116 == 0) = true := beq_iff_eq.mpr c28; have vk : (t116 != 0) = false := bne_eq_false_iff_eq.mpr c28; clear c28; by_cases c29 : t115 = true
       ·subst c29; have H1 : (if t118 = 0 then (if t117 = true then ((QV.f ek).bind fun t119 => (some t119)) else (some false)) else (some false)) = some r := by rw [if_pos rfl] at H; exact H
        clear H; have H := H1; clear H1; by_cases c30 : t118 = 0
        ·rw [if_pos c30] at H; have nD : (t118 == 0) = true := beq_iff_eq.mpr c30; have vh : (t118 != 0) = false := bne_eq_false_iff_eq.mpr c30; clear c30; by_cases c31 : t117 = true
         ·subst c31; have H1 : ((QV.f ek).bind fun t119 => (some t119)) = some r := by rw [if_pos rfl] at H; exact H
          clear H; have H := H1; clear H1; replace H := Option.bind_eq_some_iff.mp H; obtain ⟨t119, vY, H⟩ := H; replace H : (some t119) = some r := H; have A32 := aa.mk vY; clear vY; obtain rfl := Option.some.inj H; have qn : wc.cell? ⟨ag, 0, none⟩ = some (.slice ak ae.length an) := (Qd ab.out 0).trans rfl; have qm : wc.cell? ⟨ag, 1, none⟩ = some (.slice aj af.length al) := (Qd ab.out 1).trans rfl; have p5 := Qb ab.out 0; have p4 := Qb ab.out 1; obtain ⟨q9, qL, oR⟩ := Kd.Zc aI.out; subst oR; go_wp2_with (first | ((with_reducible refine Qg (f := 53) rfl ?_); refine QG (some 48) rfl rfl Try.func53 (by kernel_rfl) rfl #[.agg #[.slice ak ae.length an, .slice aj af.length al], .slice q9 t109.length qL] rfl hA ?_; (with_reducible refine (ZB.calls ek _ _ ae _ _ af _ _ t109 true t116 _ ?ah ?ai ?aq ?ar ?bh ?bg A26.out).mono ?_); (case ah => exact (Kd.Qo aw.out HB.out)); (case ai => exact az.out); (case aq => exact (Kd.Qo ay.out HB.out)); (case ar => exact aA.out); (case bh => exact (Kd.QA aI.out).2.2); (case bg => exact (Kd.QA aI.out).2.1); rintro e w35 ⟨rfl, hb⟩; refine ⟨_, rfl, ?_⟩; replace aI := aa.mk (Kd.QR aI.out hb); replace ab := aa.mk (Qq ab.out hb); replace HB := aa.mk (Qa bB hb); (try clear hb); (try clear hb2); (try clear hk); (try clear hi); have xz : w35.cell? ⟨ag, 0, none⟩ = some (.slice ak ae.length an) := (Qd ab.out 0).trans rfl; have xy : w35.cell? ⟨ag, 1, none⟩ = some (.slice aj af.length al) := (Qd ab.out 1).trans rfl; have wW := Qb ab.out 0; have wV := Qb ab.out 1) | ((with_reducible refine Qg (f := 37) rfl ?_); refine QG (some 53) rfl rfl Try.func37 (by kernel_rfl) rfl #[.agg #[.slice ak ae.length an, .slice aj af.length al]] rfl hA ?_; (with_reducible refine (Zn.calls ek _ _ ae _ _ af true t118 _ ?ah ?ai ?aq ?ar A27.out).mono ?_); (case ah => exact (Kd.Qo aw.out HB.out)); (case ai => exact az.out); (case aq => exact (Kd.Qo ay.out HB.out)); (case ar => exact aA.out); rintro e w37 ⟨rfl, hb⟩; refine ⟨_, rfl, ?_⟩; replace aI := aa.mk (Kd.QR aI.out hb); replace ab := aa.mk (Qq ab.out hb); replace HB := aa.mk (Qa bB hb); (try clear hb); (try clear hb2); (try clear hk); (try clear hi)) | (go_at_call 50; (with_reducible refine (QV.calls ek  t119 _ A32.out).mono ?_); rintro e w38 ⟨rfl, hb⟩; replace aI := aa.mk (Kd.QR aI.out hb); replace ab := aa.mk (Qq ab.out hb); replace HB := aa.mk (Qa bB hb); (try clear hb); (try clear hb2); (try clear hk); (try clear hi)))
          go_ret; exact ⟨by first | rfl | (simp [Qj, Qi] <;> rfl) | (simp [*, Qj, Qi] <;> rfl), bB⟩
         ·replace c31 := Bool.eq_false_iff.mpr c31; subst c31; have H1 : (some false) = some r := by rw [if_neg (show ¬ (false = true) by decide)] at H; exact H
          clear H; have H := H1; clear H1; obtain rfl := Option.some.inj H; have qk : wc.cell? ⟨ag, 0, none⟩ = some (.slice ak ae.length an) := (Qd ab.out 0).trans rfl; have qj : wc.cell? ⟨ag, 1, none⟩ = some (.slice aj af.length al) := (Qd ab.out 1).trans rfl; have p3 := Qb ab.out 0; have pZ := Qb ab.out 1; obtain ⟨od, oa, lT⟩ := Kd.Zc aI.out; subst lT; go_wp2_with (first | ((with_reducible refine Qg (f := 53) rfl ?_); refine QG (some 48) rfl rfl Try.func53 (by kernel_rfl) rfl #[.agg #[.slice ak ae.length an, .slice aj af.length al], .slice od t109.length oa] rfl hA ?_; (with_reducible refine (ZB.calls ek _ _ ae _ _ af _ _ t109 true t116 _ ?ah ?ai ?aq ?ar ?bh ?bg A26.out).mono ?_); (case ah => exact (Kd.Qo aw.out HB.out)); (case ai => exact az.out); (case aq => exact (Kd.Qo ay.out HB.out)); (case ar => exact aA.out); (case bh => exact (Kd.QA aI.out).2.2); (case bg => exact (Kd.QA aI.out).2.1); rintro e w41 ⟨rfl, hb⟩; refine ⟨_, rfl, ?_⟩; replace aI := aa.mk (Kd.QR aI.out hb); replace ab := aa.mk (Qq ab.out hb); replace HB := aa.mk (Qa bB hb); (try clear hb); (try clear hb2); (try clear hk); (try clear hi); have xt : w41.cell? ⟨ag, 0, none⟩ = some (.slice ak ae.length an) := (Qd ab.out 0).trans rfl; have xr : w41.cell? ⟨ag, 1, none⟩ = some (.slice aj af.length al) := (Qd ab.out 1).trans rfl; have wQ := Qb ab.out 0; have wP := Qb ab.out 1) | ((with_reducible refine Qg (f := 37) rfl ?_); refine QG (some 53) rfl rfl Try.func37 (by kernel_rfl) rfl #[.agg #[.slice ak ae.length an, .slice aj af.length al]] rfl hA ?_; (with_reducible refine (Zn.calls ek _ _ ae _ _ af false t118 _ ?ah ?ai ?aq ?ar A27.out).mono ?_); (case ah => exact (Kd.Qo aw.out HB.out)); (case ai => exact az.out); (case aq => exact (Kd.Qo ay.out HB.out)); (case ar => exact aA.out); rintro e w43 ⟨rfl, hb⟩; refine ⟨_, rfl, ?_⟩; replace aI := aa.mk (Kd.QR aI.out hb); replace ab := aa.mk (Qq ab.out hb); replace HB := aa.mk (Qa bB hb); (try clear hb); (try clear hb2); (try clear hk); (try clear hi)))
          go_ret; exact ⟨by first | rfl | (simp [Qj, Qi] <;> rfl) | (simp [*, Qj, Qi] <;> rfl), bB⟩
        ·rw [if_neg c30] at H; have nD : (t118 == 0) = false := beq_eq_false_iff_ne.mpr c30; have vh : (t118 != 0) = true := bne_iff_ne.mpr c30; obtain rfl := Option.some.inj H; have xq : wc.cell? ⟨ag, 0, none⟩ = some (.slice ak ae.length an) := (Qd ab.out 0).trans rfl; have xp : wc.cell? ⟨ag, 1, none⟩ = some (.slice aj af.length al) := (Qd ab.out 1).trans rfl; have wO := Qb ab.out 0; have wN := Qb ab.out 1; obtain ⟨mZ, mR, oQ⟩ := Kd.Zc aI.out; subst oQ; go_wp2_with (first | ((with_reducible refine Qg (f := 53) rfl ?_); refine QG (some 48) rfl rfl Try.func53 (by kernel_rfl) rfl #[.agg #[.slice ak ae.length an, .slice aj af.length al], .slice mZ t109.length mR] rfl hA ?_; (with_reducible refine (ZB.calls ek _ _ ae _ _ af _ _ t109 true t116 _ ?ah ?ai ?aq ?ar ?bh ?bg A26.out).mono ?_); (case ah => exact (Kd.Qo aw.out HB.out)); (case ai => exact az.out); (case aq => exact (Kd.Qo ay.out HB.out)); (case ar => exact aA.out); (case bh => exact (Kd.QA aI.out).2.2); (case bg => exact (Kd.QA aI.out).2.1); rintro e w46 ⟨rfl, hb⟩; refine ⟨_, rfl, ?_⟩; replace aI := aa.mk (Kd.QR aI.out hb); replace ab := aa.mk (Qq ab.out hb); replace HB := aa.mk (Qa bB hb); (try clear hb); (try clear hb2); (try clear hk); (try clear hi); have xo : w46.cell? ⟨ag, 0, none⟩ = some (.slice ak ae.length an) := (Qd ab.out 0).trans rfl; have xn : w46.cell? ⟨ag, 1, none⟩ = some (.slice aj af.length al) := (Qd ab.out 1).trans rfl; have wM := Qb ab.out 0; have wL := Qb ab.out 1) | ((with_reducible refine Qg (f := 37) rfl ?_); refine QG (some 53) rfl rfl Try.func37 (by kernel_rfl) rfl #[.agg #[.slice ak ae.length an, .slice aj af.length al]] rfl hA ?_; (with_reducible refine (Zn.calls ek _ _ ae _ _ af t117 t118 _ ?ah ?ai ?aq ?ar A27.out).mono ?_); (case ah => exact (Kd.Qo aw.out HB.out)); (case ai => exact az.out); (case aq => exact (Kd.Qo ay.out HB.out)); (case ar => exact aA.out); rintro e w48 ⟨rfl, hb⟩; refine ⟨_, rfl, ?_⟩; replace aI := aa.mk (Kd.QR aI.out hb); replace ab := aa.mk (Qq ab.out hb); replace HB := aa.mk (Qa bB hb); (try clear hb); (try clear hb2); (try clear hk); (try clear hi)))
         go_ret; exact ⟨by first | rfl | (simp [Qj, Qi] <;> rfl) | (simp [*, Qj, Qi] <;> rfl), bB⟩
       ·replace c29 := Bool.eq_false_iff.mpr c29; subst c29; have H1 : (some false) = some r := by rw [if_neg (show ¬ (false = true) by decide)] at H; exact H
        clear H; have H := H1; clear H1; obtain rfl := Option.some.inj H; have xm : wc.cell? ⟨ag, 0, none⟩ = some (.slice ak ae.length an) := (Qd ab.out 0).trans rfl; have xl : wc.cell? ⟨ag, 1, none⟩ = some (.slice aj af.length al) := (Qd ab.out 1).trans rfl; have wK := Qb ab.out 0; have wJ := Qb ab.out 1; obtain ⟨zE, zc, yK⟩ := Kd.Zc aI.out; subst yK; go_wp2_with (first | ((with_reducible refine Qg (f := 53) rfl ?_); refine QG (some 48) rfl rfl Try.func53 (by kernel_rfl) rfl #[.agg #[.slice ak ae.length an, .slice aj af.length al], .slice zE t109.length zc] rfl hA ?_; (with_reducible refine (ZB.calls ek _ _ ae _ _ af _ _ t109 false t116 _ ?ah ?ai ?aq ?ar ?bh ?bg A26.out).mono ?_); (case ah => exact (Kd.Qo aw.out HB.out)); (case ai => exact az.out); (case aq => exact (Kd.Qo ay.out HB.out)); (case ar => exact aA.out); (case bh => exact (Kd.QA aI.out).2.2); (case bg => exact (Kd.QA aI.out).2.1); rintro e w51 ⟨rfl, hb⟩; refine ⟨_, rfl, ?_⟩; replace aI := aa.mk (Kd.QR aI.out hb); replace ab := aa.mk (Qq ab.out hb); replace HB := aa.mk (Qa bB hb); (try clear hb); (try clear hb2); (try clear hk); (try clear hi); have xk : w51.cell? ⟨ag, 0, none⟩ = some (.slice ak ae.length an) := (Qd ab.out 0).trans rfl; have xj : w51.cell? ⟨ag, 1, none⟩ = some (.slice aj af.length al) := (Qd ab.out 1).trans rfl; have wI := Qb ab.out 0; have wH := Qb ab.out 1) | ((with_reducible refine Qg (f := 37) rfl ?_); refine QG (some 53) rfl rfl Try.func37 (by kernel_rfl) rfl #[.agg #[.slice ak ae.length an, .slice aj af.length al]] rfl hA ?_; (with_reducible refine (Zn.calls ek _ _ ae _ _ af t117 t118 _ ?ah ?ai ?aq ?ar A27.out).mono ?_); (case ah => exact (Kd.Qo aw.out HB.out)); (case ai => exact az.out); (case aq => exact (Kd.Qo ay.out HB.out)); (case ar => exact aA.out); rintro e w53 ⟨rfl, hb⟩; refine ⟨_, rfl, ?_⟩; replace aI := aa.mk (Kd.QR aI.out hb); replace ab := aa.mk (Qq ab.out hb); replace HB := aa.mk (Qa bB hb); (try clear hb); (try clear hb2); (try clear hk); (try clear hi)))
        go_ret; exact ⟨by first | rfl | (simp [Qj, Qi] <;> rfl) | (simp [*, Qj, Qi] <;> rfl), bB⟩
      ·rw [if_neg c28] at H; have lX : (t116 == 0) = false := beq_eq_false_iff_ne.mpr c28; have vk : (t116 != 0) = true := bne_iff_ne.mpr c28; obtain rfl := Option.some.inj H; have xi : wc.cell? ⟨ag, 0, none⟩ = some (.slice ak ae.length an) := (Qd ab.out 0).trans rfl; have xh : wc.cell? ⟨ag, 1, none⟩ = some (.slice aj af.length al) := (Qd ab.out 1).trans rfl; have wG := Qb ab.out 0; have wF := Qb ab.out 1; obtain ⟨zD, zb, yH⟩ := Kd.Zc aI.out; subst yH; go_wp2_with (first | ((with_reducible refine Qg (f := 53) rfl ?_); refine QG (some 48) rfl rfl Try.func53 (by kernel_rfl) rfl #[.agg #[.slice ak ae.length an, .slice aj af.length al], .slice zD t109.length zb] rfl hA ?_; (with_reducible refine (ZB.calls ek _ _ ae _ _ af _ _ t109 t115 t116 _ ?ah ?ai ?aq ?ar ?bh ?bg A26.out).mono ?_); (case ah => exact (Kd.Qo aw.out HB.out)); (case ai => exact az.out); (case aq => exact (Kd.Qo ay.out HB.out)); (case ar => exact aA.out); (case bh => exact (Kd.QA aI.out).2.2); (case bg => exact (Kd.QA aI.out).2.1); rintro e w56 ⟨rfl, hb⟩; refine ⟨_, rfl, ?_⟩; replace aI := aa.mk (Kd.QR aI.out hb); replace ab := aa.mk (Qq ab.out hb); replace HB := aa.mk (Qa bB hb); (try clear hb); (try clear hb2); (try clear hk); (try clear hi); have xg : w56.cell? ⟨ag, 0, none⟩ = some (.slice ak ae.length an) := (Qd ab.out 0).trans rfl; have xf : w56.cell? ⟨ag, 1, none⟩ = some (.slice aj af.length al) := (Qd ab.out 1).trans rfl; have wE := Qb ab.out 0; have wD := Qb ab.out 1) | ((with_reducible refine Qg (f := 37) rfl ?_); refine QG (some 53) rfl rfl Try.func37 (by kernel_rfl) rfl #[.agg #[.slice ak ae.length an, .slice aj af.length al]] rfl hA ?_; (with_reducible refine (Zn.calls ek _ _ ae _ _ af t117 t118 _ ?ah ?ai ?aq ?ar A27.out).mono ?_); (case ah => exact (Kd.Qo aw.out HB.out)); (case ai => exact az.out); (case aq => exact (Kd.Qo ay.out HB.out)); (case ar => exact aA.out); rintro e w58 ⟨rfl, hb⟩; refine ⟨_, rfl, ?_⟩; replace aI := aa.mk (Kd.QR aI.out hb); replace ab := aa.mk (Qq ab.out hb); replace HB := aa.mk (Qa bB hb); (try clear hb); (try clear hb2); (try clear hk); (try clear hi)))
       go_ret; exact ⟨by first | rfl | (simp [Qj, Qi] <;> rfl) | (simp [*, Qj, Qi] <;> rfl), bB⟩
     ·replace c25 := Bool.eq_false_iff.mpr c25; subst c25; have H1 : ((QV.f ek).bind fun t120 => (some t120)) = some r := by rw [if_neg (show ¬ (false = true) by decide)] at H; exact H
      clear H; have H := H1; clear H1; replace H := Option.bind_eq_some_iff.mp H; obtain ⟨t120, vU, H⟩ := H; replace H : (some t120) = some r := H; have A59 := aa.mk vU; clear vU; obtain rfl := Option.some.inj H; go_wp2_with (first | ((with_reducible refine Qg (f := 50) rfl ?_); refine QG (some 44) rfl rfl Try.func50 (by kernel_rfl) rfl #[] rfl hA ?_; (with_reducible refine (QV.calls ek  t120 _ A59.out).mono ?_); rintro e w60 ⟨rfl, hb⟩; refine ⟨_, rfl, ?_⟩; replace aI := aa.mk (Kd.QR aI.out hb); replace ab := aa.mk (Qq ab.out hb); replace HB := aa.mk (Qa bB hb); (try clear hb); (try clear hb2); (try clear hk); (try clear hi)))
      go_ret; exact ⟨by first | rfl | (simp [Qj, Qi] <;> rfl) | (simp [*, Qj, Qi] <;> rfl), bB⟩
def ZE.f (k : Nat) (ae cg : List (List Int)) (af ca : List (List Int)) : Option (Bool) := (QH.f k cg).bind fun t102 => ((QH.f k ca).bind fun t105 => ((Qs.f k ae af).bind fun t108 => (if t108 = true then ((Qx.f k t102 cg).bind fun t109 => (if t109 = true then ((Qx.f k t105 ca).bind fun t110 => (some t110)) else (some false))) else (some false))))
set_option maxHeartbeats 8000000 in
set_option maxRecDepth 100000 in
theorem ZE.calls (k : Nat) (ak : Option Addr) (ae cg : List (List Int)) (aj : Option Addr) (af ca : List (List Int)) (r : Bool) (w : World) (aN : Kd.C (Kd.slice 3 (Kd.int .i64)) w ak ae.length ae) (aT : ae.length ≤ cg.length) (rr : Kd.C Full.kd w ak cg.length cg) (aM : Kd.C (Kd.slice 3 (Kd.int .i64)) w aj af.length af) (aQ : af.length ≤ ca.length) (rq : Kd.C Full.kd w aj ca.length ca) (h : ZE.f k ae cg af ca = some r) :
  Calls Try.prog 13 #[.agg #[.slice ak ae.length cg.length, .slice aj af.length ca.length]] w fun e w' => e = .returned (.bool r) ∧ Below w.heap.size w w' := by
 have en := Try.underlying24; have aw := aa.mk aN; have az := aa.mk aT; have mb := aa.mk rr; clear aN aT rr; have ay := aa.mk aM; have aA := aa.mk aQ; have nR := aa.mk rq; clear aM aQ rq; have HB := aa.mk (Below.refl w.heap.size w); have H : ((QH.f k cg).bind fun t102 => ((QH.f k ca).bind fun t105 => ((Qs.f k ae af).bind fun t108 => (if t108 = true then ((Qx.f k t102 cg).bind fun t109 => (if t109 = true then ((Qx.f k t105 ca).bind fun t110 => (some t110)) else (some false))) else (some false))))) = some r := h; clear h; replace H := Option.bind_eq_some_iff.mp H; obtain ⟨t102, A20, H⟩ := H; replace H : ((QH.f k ca).bind fun t105 => ((Qs.f k ae af).bind fun t108 => (if t108 = true then ((Qx.f k t102 cg).bind fun t109 => (if t109 = true then ((Qx.f k t105 ca).bind fun t110 => (some t110)) else (some false))) else (some false)))) = some r := H; have A2 := aa.mk A20; clear A20; replace H := Option.bind_eq_some_iff.mp H; obtain ⟨t105, A30, H⟩ := H; replace H : ((Qs.f k ae af).bind fun t108 => (if t108 = true then ((Qx.f k t102 cg).bind fun t109 => (if t109 = true then ((Qx.f k t105 ca).bind fun t110 => (some t110)) else (some false))) else (some false))) = some r := H; have A3 := aa.mk A30; clear A30; replace H := Option.bind_eq_some_iff.mp H; obtain ⟨t108, A40, H⟩ := H; replace H : (if t108 = true then ((Qx.f k t102 cg).bind fun t109 => (if t109 = true then ((Qx.f k t105 ca).bind fun t110 => (some t110)) else (some false))) else (some false)) = some r := H; have A4 := aa.mk A40; clear A40; by_cases c5 : t108 = true
 ·subst c5; have H1 : ((Qx.f k t102 cg).bind fun t109 => (if t109 = true then ((Qx.f k t105 ca).bind fun t110 => (some t110)) else (some false))) = some r := by rw [if_pos rfl] at H; exact H
  clear H; have H := H1; clear H1; replace H := Option.bind_eq_some_iff.mp H; obtain ⟨t109, A60, H⟩ := H; replace H : (if t109 = true then ((Qx.f k t105 ca).bind fun t110 => (some t110)) else (some false)) = some r := H; have A6 := aa.mk A60; clear A60; by_cases c7 : t109 = true
  ·subst c7; have H1 : ((Qx.f k t105 ca).bind fun t110 => (some t110)) = some r := by rw [if_pos rfl] at H; exact H
   clear H; have H := H1; clear H1; replace H := Option.bind_eq_some_iff.mp H; obtain ⟨t110, A80, H⟩ := H; replace H : (some t110) = some r := H; have A8 := aa.mk A80; clear A80; obtain rfl := Option.some.inj H; go_enter Try.func13, Try.ntmps13; go_wp2_with (first | ((with_reducible refine QO (N := 1) rfl ?_); refine Q4 ?hg (N := 1) ?hd (cs := #[.slice ak ae.length cg.length, .slice aj af.length ca.length]) (t := 24) ?hr ?_; (case hd => rfl); (case hg => rfl); (case hr => first | (go_simp; done) | (go_simp; rfl)); intro ag hg w9 hbox hb; have ab := aa.mk (hbox); have bo := aa.mk ((by rw [hg]; exact (Qc bB) : w.heap.size ≤ ag)); have aV := aa.mk ((by rw [hg]; exact (Qc bB) : w.heap.size ≤ ag)); replace HB := aa.mk (Qa bB hb); clear hb hbox hg; have da : w9.cell? ⟨ag, 0, none⟩ = some (.slice ak ae.length cg.length) := (Qd ab.out 0).trans rfl; have cZ : w9.cell? ⟨ag, 1, none⟩ = some (.slice aj af.length ca.length) := (Qd ab.out 1).trans rfl; have cW := Qb ab.out 0; have cV := Qb ab.out 1) | ((with_reducible refine Qg (f := 17) rfl ?_); refine QG (some 7) rfl rfl Try.func17 (by kernel_rfl) rfl #[.slice ak ae.length cg.length] rfl hA ?_; (with_reducible refine (QH.calls k _ _ cg t102 _ ?ah ?ai A2.out).mono ?_); (case ah => exact (Kd.Qo mb.out HB.out)); (case ai => exact az.out); rintro e w11 ⟨iI, rfl, ho0, hb⟩; refine ⟨_, rfl, ?_⟩; have a8 := aa.mk (Kd.YY ho0 (Qc bB)); replace ab := aa.mk (Qq ab.out hb); replace HB := aa.mk (Qa bB hb); (try clear hb); (try clear hb2); (try clear hk); (try clear hi); (try clear ho0); have dU : w11.cell? ⟨ag, 0, none⟩ = some (.slice ak ae.length cg.length) := (Qd ab.out 0).trans rfl; have dT : w11.cell? ⟨ag, 1, none⟩ = some (.slice aj af.length ca.length) := (Qd ab.out 1).trans rfl; have dS := Qb ab.out 0; have dR := Qb ab.out 1) | ((with_reducible refine Qg (f := 17) rfl ?_); refine QG (some 10) rfl rfl Try.func17 (by kernel_rfl) rfl #[.slice aj af.length ca.length] rfl hA ?_; (with_reducible refine (QH.calls k _ _ ca t105 _ ?ah ?ai A3.out).mono ?_); (case ah => exact (Kd.Qo nR.out HB.out)); (case ai => exact aA.out); rintro e w13 ⟨hH, rfl, ho0, hb⟩; refine ⟨_, rfl, ?_⟩; have bS := aa.mk (Kd.YY (Kd.S_new' ho0 (Kd.S_lt a8.out)) (Qc bB)); replace a8 := aa.mk (Kd.YR a8.out (Kd.S_base ho0) hb); replace ab := aa.mk (Qq ab.out hb); replace HB := aa.mk (Qa bB hb); (try clear hb); (try clear hb2); (try clear hk); (try clear hi); (try clear ho0); have e9 : w13.cell? ⟨ag, 0, none⟩ = some (.slice ak ae.length cg.length) := (Qd ab.out 0).trans rfl; have e8 : w13.cell? ⟨ag, 1, none⟩ = some (.slice aj af.length ca.length) := (Qd ab.out 1).trans rfl; have e7 := Qb ab.out 0; have e6 := Qb ab.out 1) | ((with_reducible refine Qg (f := 31) rfl ?_); refine QG (some 12) rfl rfl Try.func31 (by kernel_rfl) rfl #[.agg #[.slice ak ae.length cg.length, .slice aj af.length ca.length]] rfl hA ?_; (with_reducible refine (Qs.calls k _ _ ae _ _ af true _ ?ah ?ai ?aq ?ar A4.out).mono ?_); (case ah => exact (Kd.Qo aw.out HB.out)); (case ai => exact az.out); (case aq => exact (Kd.Qo ay.out HB.out)); (case ar => exact aA.out); rintro e w15 ⟨rfl, hb⟩; refine ⟨_, rfl, ?_⟩; replace a8 := aa.mk (Kd.Vc a8.out hb); replace bS := aa.mk (Kd.Vc bS.out hb); replace ab := aa.mk (Qq ab.out hb); replace HB := aa.mk (Qa bB hb); (try clear hb); (try clear hb2); (try clear hk); (try clear hi); have jN : w15.cell? ⟨ag, 0, none⟩ = some (.slice ak ae.length cg.length) := (Qd ab.out 0).trans rfl; have jM : w15.cell? ⟨ag, 1, none⟩ = some (.slice aj af.length ca.length) := (Qd ab.out 1).trans rfl; have jH := Qb ab.out 0; have jG := Qb ab.out 1; obtain ⟨vT, uV, td⟩ := Kd.VT a8.out; subst td) | (go_at_call 19; (with_reducible refine (Qx.calls k _ _ t102 _ _ cg true _ ?ah ?ai ?aq ?ar A6.out).mono ?_); (case ah => exact (Kd.Yw a8.out).2.2); (case ai => exact (Kd.Yw a8.out).2.1); (case aq => exact (Kd.Qo mb.out HB.out)); (case ar => exact az.out); rintro e w' ⟨rfl, ⟨nd, rfl⟩⟩; obtain ⟨zH, ze, tc⟩ := Kd.VT bS.out; subst tc) | (go_at_call 19; (with_reducible refine (Qx.calls k _ _ t105 _ _ ca t110 _ ?ah ?ai ?aq ?ar A8.out).mono ?_); (case ah => exact (Kd.Yw bS.out).2.2); (case ai => exact (Kd.Yw bS.out).2.1); (case aq => repeat (first | exact (Kd.Qo nR.out bB) | (with_reducible refine Kd.C_alloc ?_ _) | (with_reducible refine Kd.ZM ?_ _) | (with_reducible refine Kd.C_drew ?_))); (case ar => exact aA.out); rintro e w' ⟨rfl, ⟨nd, rfl⟩⟩))
   go_ret; exact ⟨by first | rfl | (simp [Qj, Qi] <;> rfl) | (simp [*, Qj, Qi] <;> rfl), bB⟩
  ·replace c7 := Bool.eq_false_iff.mpr c7; subst c7; have H1 : (some false) = some r := by rw [if_neg (show ¬ (false = true) by decide)] at H; exact H
   clear H; have H := H1; clear H1; obtain rfl := Option.some.inj H; go_enter Try.func13, Try.ntmps13; go_wp2_with (first | ((with_reducible refine QO (N := 1) rfl ?_); refine Q4 ?hg (N := 1) ?hd (cs := #[.slice ak ae.length cg.length, .slice aj af.length ca.length]) (t := 24) ?hr ?_; (case hd => rfl); (case hg => rfl); (case hr => first | (go_simp; done) | (go_simp; rfl)); intro ag hg w19 hbox hb; have ab := aa.mk (hbox); have bo := aa.mk ((by rw [hg]; exact (Qc bB) : w.heap.size ≤ ag)); have aV := aa.mk ((by rw [hg]; exact (Qc bB) : w.heap.size ≤ ag)); replace HB := aa.mk (Qa bB hb); clear hb hbox hg; have qz : w19.cell? ⟨ag, 0, none⟩ = some (.slice ak ae.length cg.length) := (Qd ab.out 0).trans rfl; have qy : w19.cell? ⟨ag, 1, none⟩ = some (.slice aj af.length ca.length) := (Qd ab.out 1).trans rfl; have qg := Qb ab.out 0; have qf := Qb ab.out 1) | ((with_reducible refine Qg (f := 17) rfl ?_); refine QG (some 7) rfl rfl Try.func17 (by kernel_rfl) rfl #[.slice ak ae.length cg.length] rfl hA ?_; (with_reducible refine (QH.calls k _ _ cg t102 _ ?ah ?ai A2.out).mono ?_); (case ah => exact (Kd.Qo mb.out HB.out)); (case ai => exact az.out); rintro e w21 ⟨iI, rfl, ho0, hb⟩; refine ⟨_, rfl, ?_⟩; have a8 := aa.mk (Kd.YY ho0 (Qc bB)); replace ab := aa.mk (Qq ab.out hb); replace HB := aa.mk (Qa bB hb); (try clear hb); (try clear hb2); (try clear hk); (try clear hi); (try clear ho0); have qx : w21.cell? ⟨ag, 0, none⟩ = some (.slice ak ae.length cg.length) := (Qd ab.out 0).trans rfl; have qw : w21.cell? ⟨ag, 1, none⟩ = some (.slice aj af.length ca.length) := (Qd ab.out 1).trans rfl; have qe := Qb ab.out 0; have qd := Qb ab.out 1) | ((with_reducible refine Qg (f := 17) rfl ?_); refine QG (some 10) rfl rfl Try.func17 (by kernel_rfl) rfl #[.slice aj af.length ca.length] rfl hA ?_; (with_reducible refine (QH.calls k _ _ ca t105 _ ?ah ?ai A3.out).mono ?_); (case ah => exact (Kd.Qo nR.out HB.out)); (case ai => exact aA.out); rintro e w23 ⟨hH, rfl, ho0, hb⟩; refine ⟨_, rfl, ?_⟩; have bS := aa.mk (Kd.YY (Kd.S_new' ho0 (Kd.S_lt a8.out)) (Qc bB)); replace a8 := aa.mk (Kd.YR a8.out (Kd.S_base ho0) hb); replace ab := aa.mk (Qq ab.out hb); replace HB := aa.mk (Qa bB hb); (try clear hb); (try clear hb2); (try clear hk); (try clear hi); (try clear ho0); have qv : w23.cell? ⟨ag, 0, none⟩ = some (.slice ak ae.length cg.length) := (Qd ab.out 0).trans rfl; have qu : w23.cell? ⟨ag, 1, none⟩ = some (.slice aj af.length ca.length) := (Qd ab.out 1).trans rfl; have qc := Qb ab.out 0; have qb := Qb ab.out 1) | ((with_reducible refine Qg (f := 31) rfl ?_); refine QG (some 12) rfl rfl Try.func31 (by kernel_rfl) rfl #[.agg #[.slice ak ae.length cg.length, .slice aj af.length ca.length]] rfl hA ?_; (with_reducible refine (Qs.calls k _ _ ae _ _ af true _ ?ah ?ai ?aq ?ar A4.out).mono ?_); (case ah => exact (Kd.Qo aw.out HB.out)); (case ai => exact az.out); (case aq => exact (Kd.Qo ay.out HB.out)); (case ar => exact aA.out); rintro e w25 ⟨rfl, hb⟩; refine ⟨_, rfl, ?_⟩; replace a8 := aa.mk (Kd.Vc a8.out hb); replace bS := aa.mk (Kd.Vc bS.out hb); replace ab := aa.mk (Qq ab.out hb); replace HB := aa.mk (Qa bB hb); (try clear hb); (try clear hb2); (try clear hk); (try clear hi); have jL : w25.cell? ⟨ag, 0, none⟩ = some (.slice ak ae.length cg.length) := (Qd ab.out 0).trans rfl; have jK : w25.cell? ⟨ag, 1, none⟩ = some (.slice aj af.length ca.length) := (Qd ab.out 1).trans rfl; have jF := Qb ab.out 0; have jE := Qb ab.out 1; obtain ⟨tR, tq, ta⟩ := Kd.VT a8.out; subst ta) | (go_at_call 19; (with_reducible refine (Qx.calls k _ _ t102 _ _ cg false _ ?ah ?ai ?aq ?ar A6.out).mono ?_); (case ah => exact (Kd.Yw a8.out).2.2); (case ai => exact (Kd.Yw a8.out).2.1); (case aq => exact (Kd.Qo mb.out HB.out)); (case ar => exact az.out); rintro e w' ⟨rfl, ⟨nd, rfl⟩⟩))
   go_ret; exact ⟨by first | rfl | (simp [Qj, Qi] <;> rfl) | (simp [*, Qj, Qi] <;> rfl), bB⟩
 ·replace c5 := Bool.eq_false_iff.mpr c5; subst c5; have H1 : (some false) = some r := by rw [if_neg (show ¬ (false = true) by decide)] at H; exact H
  clear H; have H := H1; clear H1; obtain rfl := Option.some.inj H; go_enter Try.func13, Try.ntmps13; go_wp2_with (first | ((with_reducible refine QO (N := 1) rfl ?_); refine Q4 ?hg (N := 1) ?hd (cs := #[.slice ak ae.length cg.length, .slice aj af.length ca.length]) (t := 24) ?hr ?_; (case hd => rfl); (case hg => rfl); (case hr => first | (go_simp; done) | (go_simp; rfl)); intro ag hg w28 hbox hb; have ab := aa.mk (hbox); have bo := aa.mk ((by rw [hg]; exact (Qc bB) : w.heap.size ≤ ag)); have aV := aa.mk ((by rw [hg]; exact (Qc bB) : w.heap.size ≤ ag)); replace HB := aa.mk (Qa bB hb); clear hb hbox hg; have ny : w28.cell? ⟨ag, 0, none⟩ = some (.slice ak ae.length cg.length) := (Qd ab.out 0).trans rfl; have nx : w28.cell? ⟨ag, 1, none⟩ = some (.slice aj af.length ca.length) := (Qd ab.out 1).trans rfl; have nu := Qb ab.out 0; have nt := Qb ab.out 1) | ((with_reducible refine Qg (f := 17) rfl ?_); refine QG (some 7) rfl rfl Try.func17 (by kernel_rfl) rfl #[.slice ak ae.length cg.length] rfl hA ?_; (with_reducible refine (QH.calls k _ _ cg t102 _ ?ah ?ai A2.out).mono ?_); (case ah => exact (Kd.Qo mb.out HB.out)); (case ai => exact az.out); rintro e w30 ⟨iI, rfl, ho0, hb⟩; refine ⟨_, rfl, ?_⟩; have a8 := aa.mk (Kd.YY ho0 (Qc bB)); replace ab := aa.mk (Qq ab.out hb); replace HB := aa.mk (Qa bB hb); (try clear hb); (try clear hb2); (try clear hk); (try clear hi); (try clear ho0); have qt : w30.cell? ⟨ag, 0, none⟩ = some (.slice ak ae.length cg.length) := (Qd ab.out 0).trans rfl; have qq : w30.cell? ⟨ag, 1, none⟩ = some (.slice aj af.length ca.length) := (Qd ab.out 1).trans rfl; have qa := Qb ab.out 0; have p9 := Qb ab.out 1) | ((with_reducible refine Qg (f := 17) rfl ?_); refine QG (some 10) rfl rfl Try.func17 (by kernel_rfl) rfl #[.slice aj af.length ca.length] rfl hA ?_; (with_reducible refine (QH.calls k _ _ ca t105 _ ?ah ?ai A3.out).mono ?_); (case ah => exact (Kd.Qo nR.out HB.out)); (case ai => exact aA.out); rintro e w32 ⟨hH, rfl, ho0, hb⟩; refine ⟨_, rfl, ?_⟩; have bS := aa.mk (Kd.YY (Kd.S_new' ho0 (Kd.S_lt a8.out)) (Qc bB)); replace a8 := aa.mk (Kd.YR a8.out (Kd.S_base ho0) hb); replace ab := aa.mk (Qq ab.out hb); replace HB := aa.mk (Qa bB hb); (try clear hb); (try clear hb2); (try clear hk); (try clear hi); (try clear ho0); have qn : w32.cell? ⟨ag, 0, none⟩ = some (.slice ak ae.length cg.length) := (Qd ab.out 0).trans rfl; have qm : w32.cell? ⟨ag, 1, none⟩ = some (.slice aj af.length ca.length) := (Qd ab.out 1).trans rfl; have p5 := Qb ab.out 0; have p4 := Qb ab.out 1) | ((with_reducible refine Qg (f := 31) rfl ?_); refine QG (some 12) rfl rfl Try.func31 (by kernel_rfl) rfl #[.agg #[.slice ak ae.length cg.length, .slice aj af.length ca.length]] rfl hA ?_; (with_reducible refine (Qs.calls k _ _ ae _ _ af false _ ?ah ?ai ?aq ?ar A4.out).mono ?_); (case ah => exact (Kd.Qo aw.out HB.out)); (case ai => exact az.out); (case aq => exact (Kd.Qo ay.out HB.out)); (case ar => exact aA.out); rintro e w34 ⟨rfl, hb⟩; refine ⟨_, rfl, ?_⟩; replace a8 := aa.mk (Kd.Vc a8.out hb); replace bS := aa.mk (Kd.Vc bS.out hb); replace ab := aa.mk (Qq ab.out hb); replace HB := aa.mk (Qa bB hb); (try clear hb); (try clear hb2); (try clear hk); (try clear hi)))
  go_ret; exact ⟨by first | rfl | (simp [Qj, Qi] <;> rfl) | (simp [*, Qj, Qi] <;> rfl), bB⟩
end Go.Proofs.Ytdneelgnmnpanaa.P
end
section
namespace Go.Proofs.Ytdneelgnmnpanaa.P
open Go.RowKit Go.Proofs.YtdneelgnmnpanaaW.PrintWords
theorem Zz {n m : Nat} (h : n < m) (hm : m ≤ 9223372036854775807) : wrap64 ((n : Int) + 1) = ((n + 1 : Nat) : Int) := by
  rw [wrp (by omega) (by omega)]; omega
theorem rdn (l : List Int) (n : Nat) : rd l (n : Int) = l.getD n 0 := by simp [rd]
theorem rdL (l : List (List Int)) (n : Nat) : Qu l (n : Int) = l.getD n [] := by simp [Qu]
theorem rdL0 (l : List (List Int)) : Qu l 0 = l.getD 0 [] := rdL l 0
theorem Q6 {α : Type} (l : List α) (n : Nat) (d : α) (h : n < l.length) : l.getD n d = l[n] := by
  rw [List.getD_eq_getElem?_getD, List.getElem?_eq_getElem h]; rfl
def Sh (I O : List (List Int)) : Prop := I.length ≤ 50 ∧ O.length ≤ 50 ∧ ∀ r ∈ I ++ O, r.length ≤ 50
theorem long_l1 (I O : List (List Int)) (hO : O.length ≤ 50) : ∀ (d n : Nat), n + d = O.length → ∃ b, Ev (fun k => QD.l1 k (n : Int) I O) b ∧ (b = false → ∀ r ∈ O.drop n, r.length ≤ 50) := by
  intro d; induction d with
  | zero =>
    intro n hn; refine ⟨false, Ev.step (fun k => by rw [QD.l1]) ?_, fun _ => by rw [List.drop_eq_nil_of_le (by omega)]; simp⟩; simp only [show ¬ ((n : Int) < (O.length : Int)) by omega, if_false]; exact Ev.now _
  | succ d ih =>
    intro n hn; have hlt : n < O.length := by omega
    obtain ⟨b, hb, hf⟩ := ih (n + 1) (by omega); by_cases hl : ((O.getD n []).length : Int) > 50
    · refine ⟨true, Ev.step (fun k => by rw [QD.l1]) ?_, fun h => by cases h⟩; simp only [show ((n : Int) < (O.length : Int)) by omega, show (0 : Int) ≤ (n : Int) by omega, if_true, rdL, hl]; exact Ev.now _
    · refine ⟨b, Ev.step (fun k => by rw [QD.l1]) ?_, fun h => ?_⟩
      · simp only [show ((n : Int) < (O.length : Int)) by omega, show (0 : Int) ≤ (n : Int) by omega, if_true, rdL, hl, if_false]; rw [Zz (m := O.length) hlt (by omega)]; exact hb
      · rw [List.drop_eq_getElem_cons hlt]; intro r hr; rcases List.mem_cons.1 hr with rfl | hr
        · rw [Q6 _ _ _ hlt] at hl; omega
        · exact hf h r hr
theorem long_l0 (I O : List (List Int)) (hI : I.length ≤ 50) (hO : O.length ≤ 50) : ∀ (d n : Nat), n + d = I.length → ∃ b, Ev (fun k => QD.l0 k (n : Int) I O) b ∧ (b = false → (∀ r ∈ I.drop n, r.length ≤ 50) ∧ ∀ r ∈ O, r.length ≤ 50) := by
  intro d; induction d with
  | zero =>
    intro n hn; obtain ⟨b, hb, hf⟩ := long_l1 I O hO O.length 0 (by omega); refine ⟨b, Ev.step (fun k => by rw [QD.l0]) ?_, fun h => ⟨by rw [List.drop_eq_nil_of_le (by omega)]; simp, by have := hf h; rwa [List.drop_zero] at this⟩⟩; simp only [show ¬ ((n : Int) < (I.length : Int)) by omega, if_false]; exact hb
  | succ d ih =>
    intro n hn; have hlt : n < I.length := by omega
    obtain ⟨b, hb, hf⟩ := ih (n + 1) (by omega); by_cases hl : ((I.getD n []).length : Int) > 50
    · refine ⟨true, Ev.step (fun k => by rw [QD.l0]) ?_, fun h => by cases h⟩; simp only [show ((n : Int) < (I.length : Int)) by omega, show (0 : Int) ≤ (n : Int) by omega, if_true, rdL, hl]; exact Ev.now _
    · refine ⟨b, Ev.step (fun k => by rw [QD.l0]) ?_, fun h => ⟨?_, (hf h).2⟩⟩
      · simp only [show ((n : Int) < (I.length : Int)) by omega, show (0 : Int) ≤ (n : Int) by omega, if_true, rdL, hl, if_false]; rw [Zz (m := I.length) hlt (by omega)]; exact hb
      · rw [List.drop_eq_getElem_cons hlt]; intro r hr; rcases List.mem_cons.1 hr with rfl | hr
        · rw [Q6 _ _ _ hlt] at hl; omega
        · exact (hf h).1 r hr
theorem long_ev (I O : List (List Int)) : ∃ b, Ev (fun k => QD.f k I O) b ∧ (b = false → Sh I O) := by
  unfold QD.f; by_cases h1 : (I.length : Int) > 50
  · refine ⟨true, ?_, fun h => by cases h⟩; simp only [h1, if_true]; refine Ev.step (fun k => by rw [QD.j0]) ?_; simp only [if_true]; exact Ev.now _
  · by_cases h2 : (O.length : Int) > 50
    · refine ⟨true, ?_, fun h => by cases h⟩; simp only [h1, if_false, h2, decide_true]; refine Ev.step (fun k => by rw [QD.j0]) ?_; simp only [if_true]; exact Ev.now _
    · obtain ⟨b, hb, hf⟩ := long_l0 I O (by omega) (by omega) I.length 0 (by omega); refine ⟨b, ?_, fun h => ⟨by omega, by omega, fun r hr => ?_⟩⟩
      · simp only [h1, if_false, h2, decide_false]; refine Ev.step (fun k => by rw [QD.j0]) ?_; simp only [Bool.false_eq_true, if_false]; exact hb
      · have := hf h; rw [List.drop_zero] at this; rcases List.mem_append.1 hr with hr | hr
        · exact this.1 r hr
        · exact this.2 r hr
def inR (lo hi : Int) (l : List Int) : Bool := l.all fun x => decide (lo ≤ x ∧ x ≤ hi)
def okr (n : Nat) (c : List Int) : Bool := decide (c.length = n) && (inR 0 9 c && !c.all (fun x => decide (x = 0)))
def vsz (I O : List (List Int)) : Bool := decide (1 ≤ I.length ∧ I.length ≤ 3) && (decide (1 ≤ O.length ∧ O.length ≤ 3) && decide (1 ≤ (I.getD 0 []).length ∧ (I.getD 0 []).length ≤ 4))
def vl (I O : List (List Int)) : Int := if vsz I O = true ∧ (I ++ O).all (okr (I.getD 0 []).length) = true then 0 else 1
theorem all_eq (l : List Int) (a lo hi : Int) (h : l.length ≤ 1000) : Zo.f l a lo hi = some (decide ((l.length : Int) = a) && inR lo hi l) := by
  unfold Zo.f; rw [if_pos h]; congr 2; unfold inR; induction l with
  | nil => rfl
  | cons x l ih =>
    rw [List.any_cons, List.all_cons, Bool.not_or, ih (by simp at h; omega)]; simp [bad]
theorem rwithin (n lo hi : Int) : QQ.f n lo hi = some (decide (lo ≤ n ∧ n ≤ hi)) := by
  unfold QQ.f; by_cases h : n ≥ lo
  · simp [h]
  · simp [h]
theorem max_l0 (c : List Int) (hc : c.length ≤ 1000) : ∀ (d n : Nat) (m : Int), n + d = c.length → Ev (fun k => Qv.l0 k c m (n : Int)) ((c.drop n).foldl mx m) := by
  intro d; induction d with
  | zero =>
    intro n m hn; refine Ev.step (fun k => by rw [Qv.l0]) ?_; simp only [show ¬ ((n : Int) < (c.length : Int)) by omega, if_false]; rw [List.drop_eq_nil_of_le (by omega)]; exact Ev.now _
  | succ d ih =>
    intro n m hn; have hlt : n < c.length := by omega
    refine Ev.step (fun k => by rw [Qv.l0]) ?_; simp only [show ((n : Int) < (c.length : Int)) by omega, show (0 : Int) ≤ (n : Int) by omega, if_true, rdn]; rw [Zz (m := c.length) hlt (by omega), List.drop_eq_getElem_cons hlt, List.foldl_cons, Q6 _ _ _ hlt]; exact ih (n + 1) _ (by omega)
theorem max_ev (c : List Int) (hc : c.length ≤ 1000) (h1 : 1 ≤ c.length) : Ev (fun k => Qv.f k c) ((c.drop 1).foldl mx (c.getD 0 0)) := by
  unfold Qv.f; simp only [show ¬ ((c.length : Int) < 1) by omega, if_false]; refine Ev.step (fun k => by rw [Qv.j0]) ?_; simp only [show (0 : Int) < (c.length : Int) by omega, if_true]; have := max_l0 c hc (c.length - 1) 1 (rd c 0) (by omega); rw [show rd c 0 = c.getD 0 0 from rdn c 0] at this ⊢; exact this
theorem max_zero : ∀ (l : List Int) (m : Int), 0 ≤ m → (∀ x ∈ l, 0 ≤ x) → (l.foldl mx m = 0 ↔ m = 0 ∧ ∀ x ∈ l, x = 0)
  | [], m, _, _ => by simp
  | x :: l, m, hm, h => by
    have hx := h x (List.mem_cons_self ..); rw [List.foldl_cons, max_zero l (mx m x) (by unfold mx; split <;> omega) (fun y hy => h y (List.mem_cons_of_mem _ hy))]; have : mx m x = 0 ↔ m = 0 ∧ x = 0 := by unfold mx; split <;> omega
    rw [this]; simp [and_assoc]
theorem val_l0 (I O : List (List Int)) (hI : 0 < I.length) (hn1 : 1 ≤ (I.getD 0 []).length) (L : List (List Int)) (hL : L.length ≤ 1000) (hr : ∀ r ∈ L, r.length ≤ 50) : ∀ (d n : Nat), n + d = L.length →
    Ev (fun k => Qk.l0 k L (L.length : Int) (n : Int) I O) (if (L.drop n).all (okr (I.getD 0 []).length) = true then 0 else 1) := by
  intro d; induction d with
  | zero =>
    intro n hn; refine Ev.step (fun k => by rw [Qk.l0]) ?_; simp only [show ¬ ((n : Int) < (L.length : Int)) by omega, if_false]; rw [List.drop_eq_nil_of_le (by omega)]; exact Ev.now _
  | succ d ih =>
    intro n hn; have hlt : n < L.length := by omega
    have hrl := hr _ (List.getElem_mem hlt); refine Ev.step (fun k => by rw [Qk.l0]) ?_; simp only [show ((n : Int) < (L.length : Int)) by omega, show (0 : Int) ≤ (n : Int) by omega, show (0 : Int) < (I.length : Int) by omega, if_true, rdL, rdL0]; rw [List.drop_eq_getElem_cons hlt, List.all_cons, Q6 L n _ hlt, Zz (m := L.length) hlt (by omega)]; generalize L[n] = c at hrl; refine Ev.bind (Ev.congr (fun k => all_eq c _ 0 9 (by omega)) (Ev.now _)) ?_; unfold okr; rw [show decide ((c.length : Int) = ((I.getD 0 []).length : Int)) = decide (c.length = (I.getD 0 []).length) from by congr 1; exact propext (by omega)]; by_cases h1 : c.length = (I.getD 0 []).length
    · by_cases h2 : inR 0 9 c = true
      · simp only [h1, h2, decide_true, Bool.true_and, if_true]; refine Ev.bind (max_ev c (by omega) (by omega)) ?_; have hpos : ∀ x ∈ c, 0 ≤ x := fun x hx => (of_decide_eq_true (List.all_eq_true.1 h2 x hx)).1
        have hc0 : 0 < c.length := by omega
        have hz := max_zero (c.drop 1) (c.getD 0 0) (by rw [Q6 c 0 _ hc0]; exact hpos _ (List.getElem_mem hc0)) (fun x hx => hpos x (List.mem_of_mem_drop hx)); have hall : c.all (fun x => decide (x = 0)) = true ↔ c.getD 0 0 = 0 ∧ ∀ x ∈ c.drop 1, x = 0 := by
          rw [Q6 c 0 _ hc0]; constructor
          · intro h; have h' := fun x hx => of_decide_eq_true (List.all_eq_true.1 h x hx)
            exact ⟨h' _ (List.getElem_mem hc0), fun x hx => h' x (List.mem_of_mem_drop hx)⟩
          · rintro ⟨ha, hb⟩; refine List.all_eq_true.2 fun x hx => decide_eq_true ?_
            have hcd : c = c[0] :: c.drop 1 := by
              have := List.drop_eq_getElem_cons hc0; rwa [List.drop_zero] at this
            rw [hcd] at hx; rcases List.mem_cons.1 hx with rfl | hx
            · exact ha
            · exact hb x hx
        by_cases h3 : (c.drop 1).foldl mx (c.getD 0 0) = 0
        · have h4 := hall.2 (hz.1 h3); simp only [h3, h4, if_true, Bool.not_true, Bool.false_and, Bool.false_eq_true, if_false]; exact Ev.now _
        · have h4 : c.all (fun x => decide (x = 0)) = false := by
            cases hq : c.all (fun x => decide (x = 0)) with
            | true => exact absurd (hz.2 (hall.1 hq)) h3
            | false => rfl
          simp only [h3, h4, if_false, Bool.not_false, Bool.true_and]; exact ih (n + 1) (by omega)
      · simp only [h1, Bool.not_eq_true] at h2 ⊢; simp only [h2, decide_true, Bool.true_and, Bool.false_and, Bool.false_eq_true, if_false]; exact Ev.now _
    · simp only [h1, decide_false, Bool.false_and, Bool.false_eq_true, if_false]; exact Ev.now _
theorem Jq {I O : List (List Int)} (h : Sh I O) : Ev (fun k => Qk.f k I O) (vl I O) := by
  obtain ⟨s1, s2, s3⟩ := h; unfold Qk.f vl vsz; have hno : ∀ (k : Nat), Qk.j0 (k + 1) true I O = some 1 := fun k => by rw [Qk.j0]; rfl
  have hnoE : Ev (fun k => Qk.j0 k true I O) 1 := Ev.step hno (Ev.now _); refine Ev.bind (Ev.congr (fun k => within _ 1 3) (Ev.now _)) ?_; by_cases h1 : 1 ≤ I.length ∧ I.length ≤ 3
  · have h1' : (1 : Int) ≤ (I.length : Int) ∧ (I.length : Int) ≤ 3 := by omega
    simp only [h1, h1', and_self, decide_true, if_true, Bool.true_and]; refine Ev.bind (Ev.congr (fun k => within _ 1 3) (Ev.now _)) ?_; by_cases h2 : 1 ≤ O.length ∧ O.length ≤ 3
    · have h2' : (1 : Int) ≤ (O.length : Int) ∧ (O.length : Int) ≤ 3 := by omega
      simp only [h2, h2', and_self, decide_true, if_true, Bool.true_and, show (0 : Int) < (I.length : Int) by omega, rdL0]; refine Ev.bind (Ev.congr (fun k => within _ 1 4) (Ev.now _)) ?_; by_cases h3 : 1 ≤ (I.getD 0 []).length ∧ (I.getD 0 []).length ≤ 4
      · have h3' : (1 : Int) ≤ ((I.getD 0 []).length : Int) ∧ ((I.getD 0 []).length : Int) ≤ 4 := by omega
        simp only [h3, h3', and_self, decide_true, Bool.not_true, true_and]; refine Ev.step (fun k => by rw [Qk.j0]) ?_; simp only [Bool.false_eq_true, if_false]; have hcc : Zm.f I O = some (I ++ O) := by unfold Zm.f; rw [if_pos (by omega)]
        simp only [hcc, Option.bind_some]; have := val_l0 I O (by omega) h3.1 (I ++ O) (by simp; omega) s3 (I ++ O).length 0 (by omega); rw [List.drop_zero] at this; exact this
      · have h3' : ¬ ((1 : Int) ≤ ((I.getD 0 []).length : Int) ∧ ((I.getD 0 []).length : Int) ≤ 4) := by omega
        simp only [h3, h3', decide_false, Bool.not_false, Bool.false_eq_true, false_and, if_false]; exact hnoE
    · have h2' : ¬ ((1 : Int) ≤ (O.length : Int) ∧ (O.length : Int) ≤ 3) := by omega
      simp only [h2, h2', decide_false, Bool.false_eq_true, if_false, Bool.false_and, false_and]; exact hnoE
  · have h1' : ¬ ((1 : Int) ≤ (I.length : Int) ∧ (I.length : Int) ≤ 3) := by omega
    simp only [h1, h1', decide_false, Bool.false_eq_true, if_false, Bool.false_and, false_and]; exact hnoE
theorem keepInts (q : List Int) (h : q.length * 8 ≤ reachBytes) : ZJ.f q = some q := by
  have : reachBytes < 2 ^ 47 := reachBytes_lt; unfold ZJ.f; simp only [Option.bind_some, List.length_nil, List.nil_append]; rw [if_pos (by omega)]
theorem keptInts_l (q : List Int) (h : q.length ≤ 9223372036854775807) : ∀ d n : Nat, n + d = q.length → Ev (fun k => QW.l0 k q q (n : Int)) true := by
  intro d; induction d with
  | zero =>
    intro n hn; refine Ev.step (fun k => by rw [QW.l0]) ?_; simp only [show ¬ ((n : Int) < (q.length : Int)) by omega, if_false]; exact Ev.now _
  | succ d ih =>
    intro n hn; refine Ev.step (fun k => by rw [QW.l0]) ?_; simp only [show ((n : Int) < (q.length : Int)) by omega, show (0 : Int) ≤ (n : Int) by omega, if_true]; rw [Zz (m := q.length) (by omega) h]; exact ih (n + 1) (by omega)
theorem keptInts (q : List Int) (h : q.length * 8 ≤ reachBytes) : Ev (fun k => QW.f k q q) true := by
  have : reachBytes < 2 ^ 47 := reachBytes_lt; unfold QW.f; simp only [if_true]; exact keptInts_l q (by omega) q.length 0 (by omega)
theorem keepTable_l (Q : List (List Int)) (h : Q.length * 24 ≤ reachBytes) (hq : ∀ q ∈ Q, q.length * 8 ≤ reachBytes) : ∀ (d n : Nat) (out : List (List Int)), n + d = Q.length → out.length ≤ n → Ev (fun k => QH.l0 k Q out (n : Int)) (out ++ Q.drop n) := by
  have hr : reachBytes < 2 ^ 47 := reachBytes_lt; intro d; induction d with
  | zero =>
    intro n out hn ho; refine Ev.step (fun k => by rw [QH.l0]) ?_; simp only [show ¬ ((n : Int) < (Q.length : Int)) by omega, if_false]; rw [List.drop_eq_nil_of_le (by omega), List.append_nil]; exact Ev.now _
  | succ d ih =>
    intro n out hn ho; have hlt : n < Q.length := by omega
    refine Ev.step (fun k => by rw [QH.l0]) ?_; simp only [show ((n : Int) < (Q.length : Int)) by omega, show (0 : Int) ≤ (n : Int) by omega, if_true, rdL, Q6 Q n _ hlt, keepInts _ (hq _ (List.getElem_mem hlt)), Option.bind_some, show out.length < 5864062014805 by omega]; rw [Zz (m := Q.length) hlt (by omega), List.drop_eq_getElem_cons hlt]; have := ih (n + 1) (out ++ [Q[n]]) (by omega) (by simp; omega); rw [List.append_assoc] at this; exact this
theorem keepTable (Q : List (List Int)) (h : Q.length * 24 ≤ reachBytes) (hq : ∀ q ∈ Q, q.length * 8 ≤ reachBytes) : Ev (fun k => QH.f k Q) Q := by
  unfold QH.f; have := keepTable_l Q h hq Q.length 0 [] (by omega) (by simp); rw [List.drop_zero, List.nil_append] at this; exact this
theorem keptTable_l (Q : List (List Int)) (h : Q.length * 24 ≤ reachBytes) (hq : ∀ q ∈ Q, q.length * 8 ≤ reachBytes) : ∀ d n : Nat, n + d = Q.length → Ev (fun k => Qx.l0 k Q Q (n : Int)) true := by
  have hr : reachBytes < 2 ^ 47 := reachBytes_lt; intro d; induction d with
  | zero =>
    intro n hn; refine Ev.step (fun k => by rw [Qx.l0]) ?_; simp only [show ¬ ((n : Int) < (Q.length : Int)) by omega, if_false]; exact Ev.now _
  | succ d ih =>
    intro n hn; have hlt : n < Q.length := by omega
    refine Ev.step (fun k => by rw [Qx.l0]) ?_; simp only [show ((n : Int) < (Q.length : Int)) by omega, show (0 : Int) ≤ (n : Int) by omega, if_true, rdL, Q6 Q n _ hlt]; refine Ev.bind (keptInts _ (hq _ (List.getElem_mem hlt))) ?_; simp only [if_true]; rw [Zz (m := Q.length) hlt (by omega)]; exact ih (n + 1) (by omega)
theorem keptTable (Q : List (List Int)) (h : Q.length * 24 ≤ reachBytes) (hq : ∀ q ∈ Q, q.length * 8 ≤ reachBytes) : Ev (fun k => Qx.f k Q Q) true := by
  unfold Qx.f; simp only [if_true]; exact keptTable_l Q h hq Q.length 0 (by omega)
theorem sum_zero : ∀ (l : List Int), (∀ x ∈ l, 0 ≤ x) → 0 ≤ l.sum ∧ (l.sum = 0 ↔ ∀ x ∈ l, x = 0)
  | [], _ => by simp
  | x :: l, h => by
    have hx := h x (List.mem_cons_self ..); obtain ⟨h1, h2⟩ := sum_zero l (fun y hy => h y (List.mem_cons_of_mem _ hy)); rw [List.sum_cons]; refine ⟨by omega, ?_⟩; rw [List.forall_mem_cons, ← h2]; omega
theorem rval_l1 (I O : List (List Int)) (L : List (List Int)) (n : Nat) (hn : n < L.length) (hr : L[n].length ≤ 50) (R : Int) (hR : Ev (fun k => Qe.l0 k L (wrap64 ((n : Int) + 1)) I O) R) : ∀ (d j : Nat) (s : Int), j + d = L[n].length → 0 ≤ s → s ≤ 9 * (j : Int) →
    Ev (fun k => Qe.l1 k L (n : Int) s (j : Int) I O) (if inR 0 9 (L[n].drop j) = true then (if s + (L[n].drop j).sum = 0 then 1 else R) else 1) := by
  intro d; induction d with
  | zero =>
    intro j s hj h0 h9; refine Ev.step (fun k => by rw [Qe.l1]) ?_; simp only [show (0 : Int) ≤ (n : Int) by omega, show (n : Int) < (L.length : Int) by omega, if_true, rdL, Q6 L n _ hn, show ¬ ((j : Int) < (L[n].length : Int)) by omega, if_false]; rw [List.drop_eq_nil_of_le (by omega)]; simp only [inR, List.all_nil, if_true, List.sum_nil, Int.add_zero]; by_cases h : s = 0
    · simp only [h, if_true]; exact Ev.now _
    · simp only [h, if_false]; exact hR
  | succ d ih =>
    intro j s hj h0 h9; have hlt : j < L[n].length := by omega
    refine Ev.step (fun k => by rw [Qe.l1]) ?_; simp only [show (0 : Int) ≤ (n : Int) by omega, show (n : Int) < (L.length : Int) by omega, if_true, rdL, Q6 L n _ hn, show ((j : Int) < (L[n].length : Int)) by omega, show (0 : Int) ≤ (j : Int) by omega, rdn, Q6 L[n] j _ hlt]; refine Ev.bind (Ev.congr (fun k => rwithin _ 0 9) (Ev.now _)) ?_; rw [List.drop_eq_getElem_cons hlt, Zz (m := L[n].length) hlt (by omega)]; by_cases h : 0 ≤ L[n][j] ∧ L[n][j] ≤ 9
    · rw [wrp (x := s + L[n][j]) (by omega) (by omega)]; have := ih (j + 1) (s + L[n][j]) (by omega) (by omega) (by omega); simp only [h, and_self, decide_true, if_true, inR, List.all_cons, Bool.true_and, List.sum_cons, ← Int.add_assoc]; exact this
    · simp only [h, decide_false, Bool.false_eq_true, if_false, inR, List.all_cons, Bool.false_and]; exact Ev.now _
theorem rval_l0 (I O : List (List Int)) (hI : 0 < I.length) (L : List (List Int)) (hL : L.length ≤ 1000) (hr : ∀ r ∈ L, r.length ≤ 50) : ∀ (d n : Nat), n + d = L.length →
    Ev (fun k => Qe.l0 k L (n : Int) I O) (if (L.drop n).all (okr (I.getD 0 []).length) = true then 0 else 1) := by
  intro d; induction d with
  | zero =>
    intro n hn; refine Ev.step (fun k => by rw [Qe.l0]) ?_; simp only [show ¬ ((n : Int) < (L.length : Int)) by omega, if_false]; rw [List.drop_eq_nil_of_le (by omega)]; exact Ev.now _
  | succ d ih =>
    intro n hn; have hlt : n < L.length := by omega
    have hrl := hr _ (List.getElem_mem hlt); have h1 := rval_l1 I O L n hlt hrl _ (by rw [Zz (m := L.length) hlt (by omega)]; exact ih (n + 1) (by omega)) L[n].length 0 0 (by omega) (by omega) (by omega); refine Ev.step (fun k => by rw [Qe.l0]) ?_; simp only [show ((n : Int) < (L.length : Int)) by omega, show (0 : Int) ≤ (n : Int) by omega, show (0 : Int) < (I.length : Int) by omega, if_true, rdL, rdL0]; rw [List.drop_eq_getElem_cons hlt, List.all_cons, Q6 L n _ hlt]; rw [List.drop_zero, Int.zero_add] at h1; unfold okr; by_cases c1 : L[n].length = (I.getD 0 []).length
    · simp only [show ((L[n].length : Int) = ((I.getD 0 []).length : Int)) by omega, if_true, c1, decide_true, Bool.true_and]; by_cases c2 : inR 0 9 L[n] = true
      · have hpos : ∀ x ∈ L[n], 0 ≤ x := fun x hx => (of_decide_eq_true (List.all_eq_true.1 c2 x hx)).1
        obtain ⟨-, hz⟩ := sum_zero _ hpos; simp only [c2, if_true] at h1; simp only [c2, Bool.true_and]; by_cases c3 : L[n].sum = 0
        · have c4 : L[n].all (fun x => decide (x = 0)) = true := List.all_eq_true.2 fun x hx => decide_eq_true (hz.1 c3 x hx)
          simp only [c3, if_true] at h1; simp only [c4, Bool.not_true, Bool.false_and, Bool.false_eq_true, if_false]; exact h1
        · have c4 : L[n].all (fun x => decide (x = 0)) = false := by
            cases hq : L[n].all (fun x => decide (x = 0)) with
            | true => exact absurd (hz.2 (fun x hx => of_decide_eq_true (List.all_eq_true.1 hq x hx))) c3
            | false => rfl
          simp only [c3, if_false] at h1; simp only [c4, Bool.not_false, Bool.true_and]; exact h1
      · simp only [c2, if_false] at h1; rw [Bool.not_eq_true] at c2; simp only [c2, Bool.false_and, Bool.false_eq_true, if_false]; exact h1
    · simp only [show ¬ ((L[n].length : Int) = ((I.getD 0 []).length : Int)) by omega, if_false, c1, decide_false, Bool.false_and, Bool.false_eq_true]; exact Ev.now _
theorem rval_ev {I O : List (List Int)} (h : Sh I O) : Ev (fun k => Qe.f k I O) (vl I O) := by
  obtain ⟨s1, s2, s3⟩ := h; unfold Qe.f vl vsz; have hnoE : Ev (fun k => Qe.j0 k true I O) 1 := Ev.step (fun k => by rw [Qe.j0]) (by simp only [if_true]; exact Ev.now _); refine Ev.bind (Ev.congr (fun k => rwithin _ 1 3) (Ev.now _)) ?_; by_cases h1 : 1 ≤ I.length ∧ I.length ≤ 3
  · have h1' : (1 : Int) ≤ (I.length : Int) ∧ (I.length : Int) ≤ 3 := by omega
    simp only [h1, h1', and_self, decide_true, if_true, Bool.true_and]; refine Ev.bind (Ev.congr (fun k => rwithin _ 1 3) (Ev.now _)) ?_; by_cases h2 : 1 ≤ O.length ∧ O.length ≤ 3
    · have h2' : (1 : Int) ≤ (O.length : Int) ∧ (O.length : Int) ≤ 3 := by omega
      simp only [h2, h2', and_self, decide_true, if_true, Bool.true_and, show (0 : Int) < (I.length : Int) by omega, rdL0]; refine Ev.bind (Ev.congr (fun k => rwithin _ 1 4) (Ev.now _)) ?_; by_cases h3 : 1 ≤ (I.getD 0 []).length ∧ (I.getD 0 []).length ≤ 4
      · have h3' : (1 : Int) ≤ ((I.getD 0 []).length : Int) ∧ ((I.getD 0 []).length : Int) ≤ 4 := by omega
        simp only [h3, h3', and_self, decide_true, Bool.not_true, true_and]; refine Ev.step (fun k => by rw [Qe.j0]) ?_; simp only [Bool.false_eq_true, if_false, Option.bind_some, List.length_nil, List.nil_append, show 0 + I.length < 5864062014805 by omega, show I.length + O.length < 5864062014805 by omega, if_true]; have := rval_l0 I O (by omega) (I ++ O) (by simp; omega) s3 (I ++ O).length 0 (by omega); rw [List.drop_zero] at this; exact this
      · have h3' : ¬ ((1 : Int) ≤ ((I.getD 0 []).length : Int) ∧ ((I.getD 0 []).length : Int) ≤ 4) := by omega
        simp only [h3, h3', decide_false, Bool.not_false, Bool.false_eq_true, false_and, if_false]; exact hnoE
    · have h2' : ¬ ((1 : Int) ≤ (O.length : Int) ∧ (O.length : Int) ≤ 3) := by omega
      simp only [h2, h2', decide_false, Bool.false_eq_true, if_false, Bool.false_and, false_and]; exact hnoE
  · have h1' : ¬ ((1 : Int) ≤ (I.length : Int) ∧ (I.length : Int) ≤ 3) := by omega
    simp only [h1, h1', decide_false, Bool.false_eq_true, if_false, Bool.false_and, false_and]; exact hnoE
def lerr (n : Nat) (lo hi : Int) (l : List Int) : Int := if l.length = n ∧ inR lo hi l = true then 0 else 1
theorem lerr_of (l : List Int) (n : Nat) (lo hi : Int) (a : Int) (ha : a = (n : Int)) : (if (decide ((l.length : Int) = a) && inR lo hi l) = true then (some (0 : Int)) else some 1) = some (lerr n lo hi l) := by
  subst ha; unfold lerr; by_cases h : l.length = n
  · subst h; cases inR lo hi l <;> simp
  · have : ¬ ((l.length : Int) = (n : Int)) := by omega
    simp [h, this]
def tm (I O : List (List Int)) (t : List Int) : Int := if vl I O = 0 then lerr (I.length + O.length) (-1000000) 1000000 t else vl I O
theorem ZW {I O : List (List Int)} (h : vl I O = 0) : 1 ≤ I.length ∧ I.length ≤ 3 ∧ 1 ≤ O.length ∧ O.length ≤ 3 ∧ 1 ≤ (I.getD 0 []).length ∧ (I.getD 0 []).length ≤ 4 ∧ ∀ c ∈ I ++ O, c.length = (I.getD 0 []).length ∧ ∀ x ∈ c, 0 ≤ x ∧ x ≤ 9 := by
  unfold vl at h; split at h
  case isFalse => cases h
  rename_i hc
  obtain ⟨h1, h2⟩ := hc; unfold vsz at h1; simp only [Bool.and_eq_true, decide_eq_true_eq] at h1; refine ⟨h1.1.1, h1.1.2, h1.2.1.1, h1.2.1.2, h1.2.2.1, h1.2.2.2, fun c hcm => ?_⟩; have := List.all_eq_true.1 h2 c hcm; unfold okr at this; simp only [Bool.and_eq_true, decide_eq_true_eq] at this; exact ⟨this.1, fun x hx => of_decide_eq_true (List.all_eq_true.1 this.2.1 x hx)⟩
theorem timed_ev {I O : List (List Int)} (h : Sh I O) (t : List Int) (ht : t.length ≤ 1000) : Ev (fun k => Zq.f k I O t) (tm I O t) := by
  unfold Zq.f tm; refine Ev.bind (Jq h) ?_; by_cases c : vl I O = 0
  · simp only [c, if_true]; have hs := ZW c; have h1 : QY.f I O = some ((I.length + O.length : Nat) : Int) := by unfold QY.f; rw [wrp (by omega) (by omega)]; rfl
    simp only [h1, Option.bind_some, all_eq t _ _ _ ht]; exact Ev.congr (fun k => lerr_of t (I.length + O.length) _ _ _ rfl) (Ev.now _)
  · simp only [c, if_false]; exact Ev.now _
theorem lerr_zero {n : Nat} {lo hi : Int} {l : List Int} (h : lerr n lo hi l = 0) : l.length = n ∧ ∀ x ∈ l, lo ≤ x ∧ x ≤ hi := by
  unfold lerr at h; split at h
  case isFalse => cases h
  rename_i hc
  exact ⟨hc.1, fun x hx => of_decide_eq_true (List.all_eq_true.1 hc.2 x hx)⟩
theorem tm_zero {I O : List (List Int)} {t : List Int} (h : tm I O t = 0) : vl I O = 0 ∧ t.length = I.length + O.length ∧ ∀ x ∈ t, -1000000 ≤ x ∧ x ≤ 1000000 := by
  unfold tm at h; split at h
  · rename_i hv
    exact ⟨hv, lerr_zero h⟩
  · rename_i hv
    exact absurd h hv
def arow (t : Int) (v c : List Int) : List Int := List.zipWith (fun a b => wrap64 (a + wrap64 (t * b))) v c
def sacc : List (List Int) → List Int → List Int → List Int
  | c :: cs, t :: ts, v => sacc cs ts (arow t v c)
  | _, _, v => v
theorem YB (t : Int) (v c : List Int) (h : c.length = v.length) : (arow t v c).length = v.length := by simp [arow, h]
theorem mix_get (A v : List Int) (j : Nat) (hA : A.length = v.length) (hj : j < v.length) : (A.take j ++ v.drop j).getD j 0 = v[j] := by
  rw [List.getD_eq_getElem?_getD, List.getElem?_append_right (by rw [List.length_take]; omega), List.length_take, Nat.min_eq_left (by omega), Nat.sub_self, List.getElem?_drop, Nat.add_zero, List.getElem?_eq_getElem hj]; rfl
theorem mix_set (A v : List Int) (j : Nat) (hA : A.length = v.length) (hj : j < v.length) : (A.take j ++ v.drop j).set j (A[j]'(by omega)) = A.take (j + 1) ++ v.drop (j + 1) := by
  rw [List.set_append_right _ _ (by rw [List.length_take]; omega), List.length_take, Nat.min_eq_left (by omega), Nat.sub_self, List.drop_eq_getElem_cons hj, List.set_cons_zero, List.take_succ_eq_append_getElem (by omega), List.append_assoc]; rfl
theorem UE (A v : List Int) (j : Nat) (hA : A.length = v.length) (hj : j ≤ v.length) : (A.take j ++ v.drop j).length = v.length := by simp; omega
theorem sides_l1 (t v2 : List Int) (I O : List (List Int)) (n : Nat) (hnt : n < t.length) (c v : List Int) (hcv : c.length = v.length) (hc : c.length ≤ 1000) (R : List Int × List Int)
    (h : Ev (fun k => Qm.l0 k t (arow t[n] v c) v2 I (I.length : Int) (wrap64 ((n : Int) + 1)) I O) R) : ∀ (d j : Nat), j + d = c.length →
    Ev (fun k => Qm.l1 k t ((arow t[n] v c).take j ++ v.drop j) v2 (n : Int) I (I.length : Int) (n : Int) c (c.length : Int) (j : Int) I O) R := by
  have hA := YB t[n] v c hcv; intro d; induction d with
  | zero =>
    intro j hj; refine Ev.step (fun k => by rw [Qm.l1]) ?_; simp only [show ¬ ((j : Int) < (c.length : Int)) by omega, if_false]; rw [List.take_of_length_le (by omega), List.drop_eq_nil_of_le (by omega), List.append_nil]; exact h
  | succ d ih =>
    intro j hj; have hlt : j < c.length := by omega
    have hlv : j < v.length := by omega
    refine Ev.step (fun k => by rw [Qm.l1]) ?_; simp only [show ((j : Int) < (c.length : Int)) by omega, show (0 : Int) ≤ (j : Int) by omega, UE _ v j hA (by omega), show ((j : Int) < (v.length : Int)) by omega, show (0 : Int) ≤ (n : Int) by omega, show ((n : Int) < (t.length : Int)) by omega, if_true, rdn, mix_get _ v j hA hlv, Q6 c j _ hlt, Q6 t n _ hnt, Int.toNat_natCast]; rw [Zz (m := c.length) hlt (by omega)]; have hs := mix_set (arow t[n] v c) v j hA hlv; rw [show (arow t[n] v c)[j]'(by omega) = wrap64 (v[j] + wrap64 (t[n] * c[j])) by simp [arow]] at hs; rw [hs]; exact ih (j + 1) (by omega)
theorem sides_l3 (t v1 : List Int) (I O : List (List Int)) (hI : I.length ≤ 1000) (n : Nat) (hn : n ≤ 1000) (hnt : I.length + n < t.length) (c v : List Int) (hcv : c.length = v.length) (hc : c.length ≤ 1000) (R : List Int × List Int)
    (h : Ev (fun k => Qm.l2 k t v1 (arow t[I.length + n] v c) O (O.length : Int) (wrap64 ((n : Int) + 1)) I O) R) : ∀ (d j : Nat), j + d = c.length →
    Ev (fun k => Qm.l3 k t v1 ((arow t[I.length + n] v c).take j ++ v.drop j) (n : Int) O (O.length : Int) (n : Int) c (c.length : Int) (j : Int) I O) R := by
  have hA := YB t[I.length + n] v c hcv; intro d; induction d with
  | zero =>
    intro j hj; refine Ev.step (fun k => by rw [Qm.l3]) ?_; simp only [show ¬ ((j : Int) < (c.length : Int)) by omega, if_false]; rw [List.take_of_length_le (by omega), List.drop_eq_nil_of_le (by omega), List.append_nil]; exact h
  | succ d ih =>
    intro j hj; have hlt : j < c.length := by omega
    have hlv : j < v.length := by omega
    have hw : wrap64 ((I.length : Int) + (n : Int)) = ((I.length + n : Nat) : Int) := by rw [wrp (by omega) (by omega)]; omega
    refine Ev.step (fun k => by rw [Qm.l3]) ?_; simp only [show ((j : Int) < (c.length : Int)) by omega, show (0 : Int) ≤ (j : Int) by omega, UE _ v j hA (by omega), show ((j : Int) < (v.length : Int)) by omega, hw, show (0 : Int) ≤ ((I.length + n : Nat) : Int) by omega, show (((I.length + n : Nat) : Int) < (t.length : Int)) by omega, if_true, rdn, mix_get _ v j hA hlv, Q6 c j _ hlt, Q6 t (I.length + n) _ hnt, Int.toNat_natCast]; rw [Zz (m := c.length) hlt (by omega)]; have hs := mix_set (arow t[I.length + n] v c) v j hA hlv; rw [show (arow t[I.length + n] v c)[j]'(by omega) = wrap64 (v[j] + wrap64 (t[I.length + n] * c[j])) by simp [arow]] at hs; rw [hs]; exact ih (j + 1) (by omega)
theorem Jb (L : List (List Int)) (t v : List Int) (n m : Nat) (hn : n < L.length) (hm : m < t.length) : sacc (L.drop n) (t.drop m) v = sacc (L.drop (n + 1)) (t.drop (m + 1)) (arow t[m] v L[n]) := by
  rw [List.drop_eq_getElem_cons hn, List.drop_eq_getElem_cons hm, sacc]
theorem sides_l2 (t v1 : List Int) (I O : List (List Int)) (hI : I.length ≤ 1000) (hO : O.length ≤ 1000) (ht : t.length = I.length + O.length) (m : Nat) (hm : m ≤ 1000) (hc : ∀ c ∈ O, c.length = m) : ∀ (d n : Nat) (v : List Int), n + d = O.length → v.length = m →
    Ev (fun k => Qm.l2 k t v1 v O (O.length : Int) (n : Int) I O) (v1, sacc (O.drop n) (t.drop (I.length + n)) v) := by
  intro d; induction d with
  | zero =>
    intro n v hn hv; refine Ev.step (fun k => by rw [Qm.l2]) ?_; simp only [show ¬ ((n : Int) < (O.length : Int)) by omega, if_false]; rw [List.drop_eq_nil_of_le (by omega), sacc]
    · exact Ev.now _
    · intros; contradiction
  | succ d ih =>
    intro n v hn hv; have hlt : n < O.length := by omega
    have hlc := hc _ (List.getElem_mem hlt); refine Ev.step (fun k => by rw [Qm.l2]) ?_; simp only [show ((n : Int) < (O.length : Int)) by omega, show (0 : Int) ≤ (n : Int) by omega, if_true, rdL, Q6 O n _ hlt]; rw [Jb O t v n (I.length + n) hlt (by omega)]; have := sides_l3 t v1 I O hI n (by omega) (by omega) O[n] v (by omega) (by omega) _ (by
      rw [Zz (m := O.length) hlt (by omega)]; exact ih (n + 1) (arow t[I.length + n] v O[n]) (by omega) (by rw [YB _ _ _ (by omega), hv])) O[n].length 0 (by omega)
    rw [List.take_zero, List.drop_zero, List.nil_append] at this; exact this
theorem sides_l0 (t v2 : List Int) (I O : List (List Int)) (hI : I.length ≤ 1000) (ht : t.length = I.length + O.length) (m : Nat) (hm : m ≤ 1000) (hc : ∀ c ∈ I, c.length = m) (R : List Int × List Int) : ∀ (d n : Nat) (v : List Int), n + d = I.length → v.length = m →
    Ev (fun k => Qm.l2 k t (sacc (I.drop n) (t.drop n) v) v2 O (O.length : Int) 0 I O) R → Ev (fun k => Qm.l0 k t v v2 I (I.length : Int) (n : Int) I O) R := by
  intro d; induction d with
  | zero =>
    intro n v hn hv h; refine Ev.step (fun k => by rw [Qm.l0]) ?_; simp only [show ¬ ((n : Int) < (I.length : Int)) by omega, if_false]; rw [List.drop_eq_nil_of_le (by omega), sacc] at h
    · exact h
    · intros; contradiction
  | succ d ih =>
    intro n v hn hv h; have hlt : n < I.length := by omega
    have hlc := hc _ (List.getElem_mem hlt); refine Ev.step (fun k => by rw [Qm.l0]) ?_; simp only [show ((n : Int) < (I.length : Int)) by omega, show (0 : Int) ≤ (n : Int) by omega, if_true, rdL, Q6 I n _ hlt]; rw [Jb I t v n n hlt (by omega)] at h; have := sides_l1 t v2 I O n (by omega) I[n] v (by omega) (by omega) R (by
      rw [Zz (m := I.length) hlt (by omega)]; exact ih (n + 1) (arow t[n] v I[n]) (by omega) (by rw [YB _ _ _ (by omega), hv]) h) I[n].length 0 (by omega)
    rw [List.take_zero, List.drop_zero, List.nil_append] at this; exact this
def zs (n : Nat) : List Int := List.replicate n 0
def inS (I O : List (List Int)) (t : List Int) : List Int := sacc I t (zs (I.getD 0 []).length)
def outS (I O : List (List Int)) (t : List Int) : List Int := sacc O (t.drop I.length) (zs (I.getD 0 []).length)
theorem sides_ev {I O : List (List Int)} (h : vl I O = 0) (t : List Int) (ht : t.length = I.length + O.length) : Ev (fun k => Qm.f k I O t) (inS I O t, outS I O t) := by
  obtain ⟨s1, s2, s3, s4, s5, s6, s7⟩ := ZW h; unfold Qm.f; simp only [show (0 : Int) < (I.length : Int) by omega, rdL0, show (0 : Int) ≤ ((I.getD 0 []).length : Int) by omega, Int.toNat_natCast, show (I.getD 0 []).length ≤ 35184372088832 by omega, if_true]; have h2 := sides_l2 t (inS I O t) I O (by omega) (by omega) ht (I.getD 0 []).length (by omega) (fun c hc => (s7 c (List.mem_append_right _ hc)).1) O.length 0 (zs (I.getD 0 []).length) (by omega) (by simp [zs]); rw [List.drop_zero, Nat.add_zero] at h2; have h0 := sides_l0 t (zs (I.getD 0 []).length) I O (by omega) ht (I.getD 0 []).length (by omega) (fun c hc => (s7 c (List.mem_append_left _ hc)).1) (inS I O t, outS I O t) I.length 0 (zs (I.getD 0 []).length) (by omega) (by simp [zs]) (by rw [List.drop_zero, List.drop_zero]; exact h2); exact h0
theorem Vg (m : Nat) : ∀ (L : List (List Int)) (t v : List Int), (∀ c ∈ L, c.length = m) → v.length = m → (sacc L t v).length = m
  | [], _, v, _, hv => by rw [sacc]; exact hv; intros; contradiction
  | c :: L, [], v, _, hv => by rw [sacc]; exact hv; intros; contradiction
  | c :: L, t :: ts, v, h, hv => by
    rw [sacc]; exact Vg m L ts _ (fun x hx => h x (List.mem_cons_of_mem _ hx)) (by rw [YB _ _ _ (by rw [h c (List.mem_cons_self ..), hv]), hv])
def dot : List Int → List Int → Int
  | x :: c, y :: w => x * y + dot c w
  | _, _ => 0
theorem dot_nil (w : List Int) : dot [] w = 0 := by rw [dot]; intros; contradiction
theorem dot_nil2 (c : List Int) : dot c [] = 0 := by cases c <;> (rw [dot]; intros; contradiction)
theorem mulb {x y : Int} {A B : Nat} (hx : x.natAbs ≤ A) (hy : y.natAbs ≤ B) : (x * y).natAbs ≤ A * B := by
  rw [Int.natAbs_mul]; exact Nat.mul_le_mul hx hy
def Atoms (c : List Int) : Prop := ∀ x ∈ c, 0 ≤ x ∧ x ≤ 9
def Coefs (c : List Int) : Prop := ∀ x ∈ c, -1000000 ≤ x ∧ x ≤ 1000000
theorem JS {t a b : Int} {B : Nat} (ht : t.natAbs ≤ 1000000) (hb : 0 ≤ b ∧ b ≤ 9) (ha : a.natAbs ≤ B) (hB : B + 9000000 ≤ 4611686018427387904) : wrap64 (a + wrap64 (t * b)) = a + t * b ∧ (a + t * b).natAbs ≤ B + 9000000 := by
  have h3 := mulb (x := t) (y := b) (A := 1000000) (B := 9) ht (by omega); rw [wrp (x := t * b) (by omega) (by omega), wrp (x := a + t * b) (by omega) (by omega)]; exact ⟨rfl, by omega⟩
theorem UR {t : Int} {B : Nat} (ht : t.natAbs ≤ 1000000) (hB : B + 9000000 ≤ 4611686018427387904) : ∀ (v c w : List Int), (∀ x ∈ v, x.natAbs ≤ B) → Atoms c → v.length = c.length → dot (arow t v c) w = dot v w + t * dot c w ∧ ∀ x ∈ arow t v c, x.natAbs ≤ B + 9000000
  | [], [], w, _, _, _ => by simp [arow, dot_nil]
  | a :: v, b :: c, [], hv, hc, hl => by
    have ha := JS ht (hc b (List.mem_cons_self ..)) (hv a (List.mem_cons_self ..)) hB; have := (UR ht hB v c [] (fun z hz => hv z (List.mem_cons_of_mem _ hz)) (fun z hz => hc z (List.mem_cons_of_mem _ hz)) (by simpa using hl)).2; refine ⟨by simp [dot_nil2], fun x hx => ?_⟩; unfold arow at hx; rw [List.zipWith_cons_cons] at hx; rcases List.mem_cons.1 hx with rfl | hx
    · rw [ha.1]; exact ha.2
    · exact this x hx
  | a :: v, b :: c, y :: w, hv, hc, hl => by
    have ha := JS ht (hc b (List.mem_cons_self ..)) (hv a (List.mem_cons_self ..)) hB; obtain ⟨h1, h2⟩ := UR ht hB v c w (fun z hz => hv z (List.mem_cons_of_mem _ hz)) (fun z hz => hc z (List.mem_cons_of_mem _ hz)) (by simpa using hl); have e : arow t (a :: v) (b :: c) = (a + t * b) :: arow t v c := by
      unfold arow; rw [List.zipWith_cons_cons, ha.1]
    rw [e]; refine ⟨?_, fun x hx => ?_⟩
    · rw [dot, dot, dot, h1, Int.add_mul, Int.mul_add, Int.mul_assoc]; omega
    · rcases List.mem_cons.1 hx with rfl | hx
      · exact ha.2
      · exact h2 x hx
theorem eq_l0 (a b : List Int) (hl : a.length = b.length) (h : a.length ≤ 1000) : ∀ (d n : Nat), n + d = a.length → Ev (fun k => QL.l0 k a b (a.length : Int) (n : Int)) (decide (a.drop n = b.drop n)) := by
  intro d; induction d with
  | zero =>
    intro n hn; refine Ev.step (fun k => by rw [QL.l0]) ?_; simp only [show ¬ ((n : Int) < (a.length : Int)) by omega, if_false]; rw [List.drop_eq_nil_of_le (by omega), List.drop_eq_nil_of_le (by omega)]; exact Ev.now _
  | succ d ih =>
    intro n hn; have h1 : n < a.length := by omega
    have h2 : n < b.length := by omega
    refine Ev.step (fun k => by rw [QL.l0]) ?_; simp only [show ((n : Int) < (a.length : Int)) by omega, show (0 : Int) ≤ (n : Int) by omega, show ((n : Int) < (b.length : Int)) by omega, if_true, rdn, Q6 a n _ h1, Q6 b n _ h2]; rw [Zz (m := a.length) h1 (by omega), List.drop_eq_getElem_cons h1, List.drop_eq_getElem_cons h2]; by_cases c : a[n] = b[n]
    · simp only [c, if_true, List.cons.injEq, true_and]; exact ih (n + 1) (by omega)
    · simp only [c, if_false, List.cons.injEq, false_and, decide_false]; exact Ev.now _
theorem eq_ev (a b : List Int) (h : a.length ≤ 1000) : Ev (fun k => QL.f k a b) (decide (a = b)) := by
  unfold QL.f; by_cases hl : a.length = b.length
  · simp only [show ((a.length : Int) = (b.length : Int)) by omega, if_true]; have := eq_l0 a b hl h a.length 0 (by omega); rw [List.drop_zero, List.drop_zero] at this; rw [← hl]; exact this
  · have : a ≠ b := fun e => hl (by rw [e])
    simp only [show ¬ ((a.length : Int) = (b.length : Int)) by omega, if_false, this, decide_false]; exact Ev.now _
theorem sm_l0 (a b : List Int) (hl : a.length = b.length) (h : a.length ≤ 1000) : ∀ (d n : Nat), n + d = a.length → Ev (fun k => Qn.l0 k a b (n : Int)) (decide (a.drop n = b.drop n)) := by
  intro d; induction d with
  | zero =>
    intro n hn; refine Ev.step (fun k => by rw [Qn.l0]) ?_; simp only [show ¬ ((n : Int) < (a.length : Int)) by omega, if_false]; rw [List.drop_eq_nil_of_le (by omega), List.drop_eq_nil_of_le (by omega)]; exact Ev.now _
  | succ d ih =>
    intro n hn; have h1 : n < a.length := by omega
    have h2 : n < b.length := by omega
    refine Ev.step (fun k => by rw [Qn.l0]) ?_; simp only [show ((n : Int) < (a.length : Int)) by omega, show (0 : Int) ≤ (n : Int) by omega, show ((n : Int) < (b.length : Int)) by omega, if_true, rdn, Q6 a n _ h1, Q6 b n _ h2]; rw [Zz (m := a.length) h1 (by omega), List.drop_eq_getElem_cons h1, List.drop_eq_getElem_cons h2]; by_cases c : a[n] = b[n]
    · simp only [c, if_true, List.cons.injEq, true_and]; exact ih (n + 1) (by omega)
    · simp only [c, if_false, List.cons.injEq, false_and, decide_false]; exact Ev.now _
theorem sm_ev (a b : List Int) (h : a.length ≤ 1000) : Ev (fun k => Qn.f k a b) (decide (a = b)) := by
  unfold Qn.f; by_cases hl : a.length = b.length
  · simp only [show ((a.length : Int) = (b.length : Int)) by omega, if_true]; have := sm_l0 a b hl h a.length 0 (by omega); rw [List.drop_zero, List.drop_zero] at this; exact this
  · have : a ≠ b := fun e => hl (by rw [e])
    simp only [show ¬ ((a.length : Int) = (b.length : Int)) by omega, if_false, this, decide_false]; exact Ev.now _
theorem side_len {I O : List (List Int)} (h : vl I O = 0) (t : List Int) : (inS I O t).length = (I.getD 0 []).length ∧ (outS I O t).length = (I.getD 0 []).length := by
  obtain ⟨s1, s2, s3, s4, s5, s6, s7⟩ := ZW h; exact ⟨Vg _ I t _ (fun c hc => (s7 c (List.mem_append_left _ hc)).1) (by simp [zs]), Vg _ O _ _ (fun c hc => (s7 c (List.mem_append_right _ hc)).1) (by simp [zs])⟩
theorem balances_ev {I O : List (List Int)} (h : vl I O = 0) (t : List Int) (ht : t.length = I.length + O.length) : Ev (fun k => Ze.f k I O t) (decide (inS I O t = outS I O t)) := by
  unfold Ze.f; refine Ev.bind (sides_ev h t ht) ?_; have hl := side_len h t; have hs := ZW h; exact Ev.bind (eq_ev (inS I O t) (outS I O t) (by omega)) (Ev.now _)
def csum : List (List Int) → List Int → Nat → Int
  | c :: cs, t :: ts, e => t * c.getD e 0 + csum cs ts e
  | _, _, _ => 0
theorem VQ (t : List Int) (e : Nat) : csum [] t e = 0 := by rw [csum]; intros; contradiction
theorem V1 (L : List (List Int)) (e : Nat) : csum L [] e = 0 := by cases L <;> (rw [csum]; intros; contradiction)
theorem VS {c : List Int} (h : Atoms c) (e : Nat) : 0 ≤ c.getD e 0 ∧ c.getD e 0 ≤ 9 := by
  by_cases hl : e < c.length
  · rw [Q6 c e _ hl]; exact h _ (List.getElem_mem hl)
  · rw [List.getD_eq_getElem?_getD, List.getElem?_eq_none (by omega)]; simp
theorem Jt {m : Nat} (e : Nat) (he : e < m) : ∀ (L : List (List Int)) (t v : List Int) (B : Nat), (∀ c ∈ L, c.length = m ∧ Atoms c) → Coefs t → v.length = m → (∀ x ∈ v, x.natAbs ≤ B) → B + 9000000 * L.length ≤ 4611686018427387904 → (sacc L t v).getD e 0 = v.getD e 0 + csum L t e
  | [], t, v, B, _, _, _, _, _ => by rw [sacc, VQ, Int.add_zero]; all_goals (intro _ _ _ _ p q; first | (cases p; done) | (cases q; done))
  | c :: L, [], v, B, _, _, _, _, _ => by rw [sacc, V1, Int.add_zero]; all_goals (intro _ _ _ _ p q; first | (cases p; done) | (cases q; done))
  | c :: L, t :: ts, v, B, hL, ht, hv, hB, hb => by
    rw [List.length_cons, Nat.mul_add, Nat.mul_one] at hb; have hb1 : B + 9000000 ≤ 4611686018427387904 := Nat.le_trans (Nat.add_le_add_left (Nat.le_add_left 9000000 _) B) hb; have h0 := ht t (List.mem_cons_self ..); have hc := hL c (List.mem_cons_self ..); obtain ⟨h1, h2⟩ := UR (t := t) (B := B) (by omega) hb1 v c [] hB hc.2 (by omega); have hal := YB t v c (by omega); rw [sacc, csum, Jt e he L ts (arow t v c) (B + 9000000) (fun x hx => hL x (List.mem_cons_of_mem _ hx)) (fun x hx => ht x (List.mem_cons_of_mem _ hx)) (by rw [hal, hv]) h2 (by omega)]; have e1 : (arow t v c).getD e 0 = v.getD e 0 + t * c.getD e 0 := by
      rw [Q6 _ e _ (by omega), Q6 v e _ (by omega), Q6 c e _ (by omega)]; have ha := JS (t := t) (a := v[e]) (b := c[e]) (B := B) (by omega) (hc.2 _ (List.getElem_mem (by omega))) (hB _ (List.getElem_mem (by omega))) (by omega); unfold arow; rw [List.getElem_zipWith, ha.1]
    rw [e1]; omega
theorem Uj (e : Nat) : ∀ (L M : List (List Int)) (t : List Int), L.length ≤ t.length → csum (L ++ M) t e = csum L t e + csum M (t.drop L.length) e
  | [], M, t, _ => by rw [VQ]; simp
  | c :: L, M, [], h => by simp at h
  | c :: L, M, t :: ts, h => by rw [List.cons_append, csum, csum, Uj e L M ts (by simpa using h), List.length_cons, List.drop_succ_cons]; omega
def negc (c : List Int) : List Int := c.map fun x => wrap64 (-x)
theorem Un {c : List Int} (h : Atoms c) (e : Nat) : (negc c).getD e 0 = -c.getD e 0 := by
  unfold negc; by_cases hl : e < c.length
  · rw [Q6 _ e _ (by simpa using hl), Q6 c e _ hl, List.getElem_map]; have := h _ (List.getElem_mem hl); exact wrp (by omega) (by omega)
  · rw [List.getD_eq_getElem?_getD, List.getElem?_eq_none (by simpa using hl), List.getD_eq_getElem?_getD, List.getElem?_eq_none (by omega)]; simp
theorem csum_neg (e : Nat) : ∀ (L : List (List Int)) (t : List Int), (∀ c ∈ L, Atoms c) → csum (L.map negc) t e = -csum L t e
  | [], t, _ => by rw [List.map_nil, VQ]; rfl
  | c :: L, [], _ => by rw [V1, V1]; rfl
  | c :: L, t :: ts, h => by
    rw [List.map_cons, csum, csum, csum_neg e L ts (fun x hx => h x (List.mem_cons_of_mem _ hx)), Un (h c (List.mem_cons_self ..)), Int.mul_neg]; omega
theorem cols_l2 (I O : List (List Int)) (out : List (List Int)) (n : Nat) (hn : n < O.length) (hc : O[n].length ≤ 1000) (ho : out.length ≤ 1000) (R : List (List Int)) : ∀ (d j : Nat) (s : List Int), j + d = O[n].length → s.length ≤ j →
    Ev (fun k => Qr.l1 k (out ++ [s ++ negc (O[n].drop j)]) (wrap64 ((n : Int) + 1)) I O) R → Ev (fun k => Qr.l2 k out (n : Int) s (j : Int) I O) R := by
  intro d; induction d with
  | zero =>
    intro j s hj hs h; refine Ev.step (fun k => by rw [Qr.l2]) ?_; rw [List.drop_eq_nil_of_le (by omega)] at h; simp only [show (0 : Int) ≤ (n : Int) by omega, show ((n : Int) < (O.length : Int)) by omega, if_true, rdL, Q6 O n _ hn, show ¬ ((j : Int) < (O[n].length : Int)) by omega, if_false, show out.length < 5864062014805 by omega]; simpa [negc] using h
  | succ d ih =>
    intro j s hj hs h; have hlt : j < O[n].length := by omega
    refine Ev.step (fun k => by rw [Qr.l2]) ?_; rw [List.drop_eq_getElem_cons hlt] at h; simp only [show (0 : Int) ≤ (n : Int) by omega, show ((n : Int) < (O.length : Int)) by omega, if_true, rdL, Q6 O n _ hn, show ((j : Int) < (O[n].length : Int)) by omega, show (0 : Int) ≤ (j : Int) by omega, show s.length < 17592186044416 by omega, rdn, Q6 O[n] j _ hlt]; rw [Zz (m := O[n].length) hlt (by omega)]; refine ih (j + 1) (s ++ [wrap64 (-O[n][j])]) (by omega) (by simp; omega) ?_; rw [List.append_assoc]; exact h
theorem cols_l1 (I O : List (List Int)) (hO : O.length ≤ 500) (hc : ∀ c ∈ O, c.length ≤ 1000) : ∀ (d n : Nat) (out : List (List Int)), n + d = O.length → out.length ≤ 500 + n → Ev (fun k => Qr.l1 k out (n : Int) I O) (out ++ (O.drop n).map negc) := by
  intro d; induction d with
  | zero =>
    intro n out hn ho; refine Ev.step (fun k => by rw [Qr.l1]) ?_; simp only [show ¬ ((n : Int) < (O.length : Int)) by omega, if_false]; rw [List.drop_eq_nil_of_le (by omega), List.map_nil, List.append_nil]; exact Ev.now _
  | succ d ih =>
    intro n out hn ho; have hlt : n < O.length := by omega
    refine Ev.step (fun k => by rw [Qr.l1]) ?_; simp only [show ((n : Int) < (O.length : Int)) by omega, if_true]; rw [List.drop_eq_getElem_cons hlt, List.map_cons]; refine cols_l2 I O out n hlt (hc _ (List.getElem_mem hlt)) (by omega) _ O[n].length 0 [] (by omega) (by simp) ?_; rw [Zz (m := O.length) hlt (by omega), List.drop_zero, List.nil_append]; have := ih (n + 1) (out ++ [negc O[n]]) (by omega) (by simp; omega); rw [List.append_assoc] at this; exact this
theorem cols_l0 (I O : List (List Int)) (hI : I.length ≤ 500) (hc : ∀ c ∈ I, c.length ≤ 1000) (R : List (List Int)) : ∀ (d n : Nat) (out : List (List Int)), n + d = I.length → out.length ≤ n → Ev (fun k => Qr.l1 k (out ++ I.drop n) 0 I O) R → Ev (fun k => Qr.l0 k out (n : Int) I O) R := by
  intro d; induction d with
  | zero =>
    intro n out hn ho h; refine Ev.step (fun k => by rw [Qr.l0]) ?_; rw [List.drop_eq_nil_of_le (by omega), List.append_nil] at h; simp only [show ¬ ((n : Int) < (I.length : Int)) by omega, if_false]; exact h
  | succ d ih =>
    intro n out hn ho h; have hlt : n < I.length := by omega
    have hl := hc _ (List.getElem_mem hlt); refine Ev.step (fun k => by rw [Qr.l0]) ?_; rw [List.drop_eq_getElem_cons hlt] at h; simp only [show ((n : Int) < (I.length : Int)) by omega, if_true, Option.bind_some, show (0 : Int) ≤ (n : Int) by omega, rdL, Q6 I n _ hlt, List.length_nil, show 0 + I[n].length < 17592186044416 by omega, show out.length < 5864062014805 by omega, List.nil_append]; rw [Zz (m := I.length) hlt (by omega)]; refine ih (n + 1) (out ++ [I[n]]) (by omega) (by simp; omega) ?_; rw [List.append_assoc]; exact h
def cols (I O : List (List Int)) : List (List Int) := I ++ O.map negc
theorem cols_ev {I O : List (List Int)} (h : vl I O = 0) : Ev (fun k => Qr.f k I O) (cols I O) := by
  obtain ⟨s1, s2, s3, s4, s5, s6, s7⟩ := ZW h; unfold Qr.f; refine cols_l0 I O (by omega) (fun c hc => by have := (s7 c (List.mem_append_left _ hc)).1; omega) _ I.length 0 [] (by omega) (by simp) ?_; rw [List.drop_zero, List.nil_append]; have := cols_l1 I O (by omega) (fun c hc => by have := (s7 c (List.mem_append_right _ hc)).1; omega) O.length 0 I (by omega) (by omega); rw [List.drop_zero] at this; exact this
theorem balance_iff {I O : List (List Int)} {t : List Int} (h : vl I O = 0) (htl : t.length = I.length + O.length) (ht : Coefs t) : inS I O t = outS I O t ↔ ∀ q, q < (I.getD 0 []).length → csum I t q = csum O (t.drop I.length) q := by
  obtain ⟨s1, s2, s3, s4, s5, s6, s7⟩ := ZW h; have hz : ∀ x ∈ zs (I.getD 0 []).length, x.natAbs ≤ 0 := fun x hx => by
    have := List.eq_of_mem_replicate hx; omega
  have hzd : ∀ q, (zs (I.getD 0 []).length).getD q 0 = 0 := fun q => by
    unfold zs; rw [List.getD_eq_getElem?_getD, List.getElem?_replicate]; split <;> rfl
  have e1 := fun q hq => Jt (m := (I.getD 0 []).length) q hq I t (zs (I.getD 0 []).length) 0 (fun c hc => s7 c (List.mem_append_left _ hc)) ht (by simp [zs]) hz (by omega)
  have e2 := fun q hq => Jt (m := (I.getD 0 []).length) q hq O (t.drop I.length) (zs (I.getD 0 []).length) 0 (fun c hc => s7 c (List.mem_append_right _ hc)) (fun x hx => ht x (List.mem_of_mem_drop hx)) (by simp [zs]) hz (by omega)
  obtain ⟨l1, l2⟩ := side_len h t; constructor
  · intro he q hq; have a := e1 q hq; have b := e2 q hq; rw [hzd, Int.zero_add] at a b; rw [← a, ← b]; exact congrArg (fun v => v.getD q 0) he
  · intro hall; apply List.ext_getElem (by rw [l1, l2]); intro q hq1 hq2; have a := e1 q (by omega); have b := e2 q (by omega); rw [hzd, Int.zero_add] at a b; have := hall q (by omega); rw [← Q6 _ q 0 hq1, ← Q6 _ q 0 hq2]; show (inS I O t).getD q 0 = (outS I O t).getD q 0
    unfold inS outS; rw [a, b, this]
theorem min_l0 (c : List Int) (hc : c.length ≤ 1000) : ∀ (d n : Nat) (m : Int), n + d = c.length → Ev (fun k => Ql.l0 k c m (n : Int)) ((c.drop n).foldl mn m) := by
  intro d; induction d with
  | zero =>
    intro n m hn; refine Ev.step (fun k => by rw [Ql.l0]) ?_; simp only [show ¬ ((n : Int) < (c.length : Int)) by omega, if_false]; rw [List.drop_eq_nil_of_le (by omega)]; exact Ev.now _
  | succ d ih =>
    intro n m hn; have hlt : n < c.length := by omega
    refine Ev.step (fun k => by rw [Ql.l0]) ?_; simp only [show ((n : Int) < (c.length : Int)) by omega, show (0 : Int) ≤ (n : Int) by omega, if_true, rdn]; rw [Zz (m := c.length) hlt (by omega), List.drop_eq_getElem_cons hlt, List.foldl_cons, Q6 _ _ _ hlt]; exact ih (n + 1) _ (by omega)
theorem min_ev (c : List Int) (hc : c.length ≤ 1000) (h1 : 1 ≤ c.length) : Ev (fun k => Ql.f k c) ((c.drop 1).foldl mn (c.getD 0 0)) := by
  unfold Ql.f; simp only [show ¬ ((c.length : Int) < 1) by omega, if_false]; refine Ev.step (fun k => by rw [Ql.j0]) ?_; simp only [show (0 : Int) < (c.length : Int) by omega, if_true]; have := min_l0 c hc (c.length - 1) 1 (rd c 0) (by omega); rw [show rd c 0 = c.getD 0 0 from rdn c 0] at this ⊢; exact this
theorem le_mn (r a b : Int) : r ≤ mn a b ↔ r ≤ a ∧ r ≤ b := by
  unfold mn; split <;> omega
theorem min_pos : ∀ (l : List Int) (m : Int), 1 ≤ l.foldl mn m ↔ 1 ≤ m ∧ ∀ x ∈ l, 1 ≤ x
  | [], m => by simp
  | y :: l, m => by
    rw [List.foldl_cons, min_pos l (mn m y), le_mn]; constructor
    · rintro ⟨⟨a, b⟩, c⟩; exact ⟨a, fun x hx => by rcases List.mem_cons.1 hx with rfl | hx; exact b; exact c x hx⟩
    · rintro ⟨a, c⟩; exact ⟨⟨a, c y (List.mem_cons_self ..)⟩, fun x hx => c x (List.mem_cons_of_mem _ hx)⟩
def pos (t : List Int) : Bool := t.all fun x => decide (1 ≤ x)
theorem VL (c : List Int) (h1 : 1 ≤ c.length) : (c.drop 1).foldl mn (c.getD 0 0) ≤ 0 ↔ ¬ pos c = true := by
  have h := min_pos (c.drop 1) (c.getD 0 0); have h2 : pos c = true ↔ 1 ≤ (c.drop 1).foldl mn (c.getD 0 0) := by
    rw [h]; cases c with
    | nil => simp at h1
    | cons a c => simp [pos]
  rw [h2]; omega
def shl (r : Int) : List Int → List Int → Int → List Int
  | a :: s, t :: ts, i => if a < (r + 1) * t then i :: shl r s ts (i + 1) else shl r s ts (i + 1)
  | _, _, _ => []
def bal (I O : List (List Int)) (t : List Int) : Bool × Int := if tm I O t = 0 then (decide (inS I O t = outS I O t), 0) else (false, tm I O t)
theorem Balances_ev {I O : List (List Int)} (h : Sh I O) (t : List Int) (ht : t.length ≤ 1000) : Ev (fun k => ZB.f k I O t) (bal I O t) := by
  unfold ZB.f bal; refine Ev.bind (timed_ev h t ht) ?_; by_cases c : tm I O t = 0
  · simp only [c, if_true]; obtain ⟨h1, h2, -⟩ := tm_zero c; exact Ev.bind (balances_ev h1 t h2) (Ev.now _)
  · simp only [c, if_false]; exact Ev.now _
theorem UG : Ev (fun k => QV.f k) true := Ev.of (fun k => QV.mono k) (k := 40) (by decide +kernel)
end Go.Proofs.Ytdneelgnmnpanaa.P
end
section
namespace Go.Proofs.Det
variable {K : Type}
def sgn (f : List (K → Int) → Int) (j : K) : List (K → Int) → List (K → Int) → Int
  | _, [] => 0
  | pre, v :: post => v j * f (pre ++ post) - sgn f j (pre ++ [v]) post
def det : List K → List (K → Int) → Int
  | [], _ => 1
  | j :: J, I => sgn (det J) j [] I
def comb (a : Int) (u : K → Int) (b : Int) (v : K → Int) : K → Int := fun j => a * u j + b * v j
def Lin (n : Nat) (f : List (K → Int) → Int) : Prop := ∀ p q u v a b, p.length + q.length + 1 = n → f (p ++ comb a u b v :: q) = a * f (p ++ u :: q) + b * f (p ++ v :: q)
def Alt (n : Nat) (f : List (K → Int) → Int) : Prop := ∀ p q u, p.length + q.length + 2 = n → f (p ++ u :: u :: q) = 0
theorem V9 {n : Nat} {f : List (K → Int) → Int} (h : Lin n f) (j : K) : ∀ (post p q : List (K → Int)) (u v : K → Int) (a b : Int), p.length + q.length + 1 + post.length = n + 1 → sgn f j (p ++ comb a u b v :: q) post = a * sgn f j (p ++ u :: q) post + b * sgn f j (p ++ v :: q) post
  | [], p, q, u, v, a, b, _ => by simp [sgn]
  | w :: post, p, q, u, v, a, b, e => by
    simp only [List.length_cons] at e; have ih := V9 h j post p (q ++ [w]) u v a b (by simp; omega); have h1 := h p (q ++ post) u v a b (by simp; omega); simp only [sgn, List.append_assoc, List.cons_append]; rw [ih, h1]; grind
theorem sgn_lin {n : Nat} {f : List (K → Int) → Int} (h : Lin n f) (j : K) : ∀ (p pre q : List (K → Int)) (u v : K → Int) (a b : Int), pre.length + p.length + q.length + 1 = n + 1 → sgn f j pre (p ++ comb a u b v :: q) = a * sgn f j pre (p ++ u :: q) + b * sgn f j pre (p ++ v :: q)
  | [], pre, q, u, v, a, b, e => by
    have h1 := V9 h j q pre [] u v a b (by simp at e ⊢; omega); simp only [List.nil_append, sgn]; rw [h1]; simp only [comb]; grind
  | w :: p, pre, q, u, v, a, b, e => by
    simp only [List.length_cons] at e; have ih := sgn_lin h j p (pre ++ [w]) q u v a b (by simp; omega); have h1 := h (pre ++ p) q u v a b (by simp; omega); simp only [List.append_assoc] at h1; simp only [List.cons_append, sgn]; rw [ih, h1]; grind
theorem Y9 : ∀ J : List K, Lin J.length (det J)
  | [] => fun p q u v a b e => by simp at e
  | j :: J => fun p q u v a b e => sgn_lin (Y9 J) j p [] q u v a b (by simp at e ⊢; omega)
theorem Ua {n : Nat} {f : List (K → Int) → Int} (h : Alt n f) (j : K) : ∀ (post p q : List (K → Int)) (u : K → Int), p.length + q.length + 2 + post.length = n + 1 → sgn f j (p ++ u :: u :: q) post = 0
  | [], p, q, u, _ => rfl
  | w :: post, p, q, u, e => by
    simp only [List.length_cons] at e; have ih := Ua h j post p (q ++ [w]) u (by simp; omega); have h1 := h p (q ++ post) u (by simp; omega); simp only [sgn, List.append_assoc, List.cons_append]; rw [ih, h1]; simp
theorem sgn_alt {n : Nat} {f : List (K → Int) → Int} (h : Alt n f) (j : K) : ∀ (p pre q : List (K → Int)) (u : K → Int), pre.length + p.length + q.length + 2 = n + 1 → sgn f j pre (p ++ u :: u :: q) = 0
  | [], pre, q, u, e => by
    have h1 := Ua h j q pre [] u (by simp at e ⊢; omega); simp only [List.nil_append, sgn, List.append_assoc, List.singleton_append]; rw [h1]; omega
  | w :: p, pre, q, u, e => by
    simp only [List.length_cons] at e; have ih := sgn_alt h j p (pre ++ [w]) q u (by simp; omega); have h1 := h (pre ++ p) q u (by simp; omega); simp only [List.append_assoc] at h1; simp only [List.cons_append, sgn]; rw [ih, h1]; simp
theorem Ur : ∀ J : List K, Alt J.length (det J)
  | [] => fun p q u e => by simp at e
  | j :: J => fun p q u e => sgn_alt (Ur J) j p [] q u (by simp at e ⊢; omega)
theorem swap {n : Nat} {f : List (K → Int) → Int} (hl : Lin n f) (ha : Alt n f) (p q : List (K → Int)) (u v : K → Int) (e : p.length + q.length + 2 = n) : f (p ++ u :: v :: q) = - f (p ++ v :: u :: q) := by
  have h0 := ha p q (comb 1 u 1 v) e; have h1 := hl p (comb 1 u 1 v :: q) u v 1 1 (by simp; omega); have h2 := hl (p ++ [u]) q u v 1 1 (by simp; omega); have h3 := hl (p ++ [v]) q u v 1 1 (by simp; omega); have h4 := ha p q u e; have h5 := ha p q v e; simp only [List.append_assoc, List.singleton_append] at h2 h3; rw [h1, h2, h3, h4, h5] at h0; omega
theorem VB {n : Nat} {f : List (K → Int) → Int} (hl : Lin n f) (ha : Alt n f) : ∀ (q p r : List (K → Int)) (u : K → Int), p.length + q.length + r.length + 2 = n → f (p ++ u :: (q ++ u :: r)) = 0
  | [], p, r, u, e => ha p r u (by simp at e; omega)
  | w :: q, p, r, u, e => by
    simp only [List.length_cons] at e; have h1 := swap hl ha p (q ++ u :: r) u w (by simp; omega); have ih := VB hl ha q (p ++ [w]) r u (by simp; omega); simp only [List.append_assoc, List.singleton_append] at ih; rw [List.cons_append, h1, ih]; rfl
theorem zero_row {n : Nat} {f : List (K → Int) → Int} (hl : Lin n f) (p q : List (K → Int)) (e : p.length + q.length + 1 = n) : f (p ++ (fun _ => 0) :: q) = 0 := by
  have h := hl p q (fun _ => 0) (fun _ => 0) 0 0 e; rw [show comb 0 (fun _ => 0) 0 (fun _ => 0) = (fun _ : K => (0 : Int)) from by funext j; simp [comb]] at h; omega
inductive Gen (S : (K → Int) → Prop) : (K → Int) → Prop
  | base {v} : S v → Gen S v
  | zero : Gen S (fun _ => 0)
  | comb {u v} (a b : Int) : Gen S u → Gen S v → Gen S (comb a u b v)
  | quot {u v} (d : Int) : d ≠ 0 → Gen S u → (∀ j, u j = d * v j) → Gen S v
theorem Jm {S S' : (K → Int) → Prop} (h : ∀ v, S v → Gen S' v) {v : K → Int} (hv : Gen S v) : Gen S' v := by
  induction hv with
  | base h1 => exact h _ h1
  | zero => exact .zero
  | comb a b _ _ h1 h2 => exact .comb a b h1 h2
  | quot d hd _ e h1 => exact .quot d hd h1 e
theorem UL {S : (K → Int) → Prop} (g : (K → Int) → Int) (hg : ∀ a u b v, g (comb a u b v) = a * g u + b * g v) (h : ∀ v, S v → g v = 0) {v : K → Int} (hv : Gen S v) : g v = 0 := by
  have h0 : g (fun _ => 0) = 0 := by
    have := hg 0 (fun _ => 0) 0 (fun _ => 0); rw [show comb 0 (fun _ => 0) 0 (fun _ => 0) = (fun _ : K => (0 : Int)) from by funext j; simp [comb]] at this; omega
  induction hv with
  | base h1 => exact h _ h1
  | zero => exact h0
  | comb a b _ _ h1 h2 => rw [hg, h1, h2]; simp
  | @quot u v d hd _ e h1 =>
    have h2 : u = comb d v 0 v := by funext j; simp [comb, e j]
    rw [h2, hg] at h1; have : d * g v = 0 := by omega
    rcases Int.mul_eq_zero.1 this with h3 | h3
    · exact absurd h3 hd
    · exact h3
theorem UK {n : Nat} {f : List (K → Int) → Int} (hl : Lin n f) {S : (K → Int) → Prop} (h : ∀ I : List (K → Int), I.length = n → (∀ v ∈ I, S v) → f I = 0) : ∀ (p q : List (K → Int)), p.length + q.length = n → (∀ v ∈ p, Gen S v) → (∀ v ∈ q, S v) → f (p ++ q) = 0 := by
  intro p; induction hp : p.length generalizing p with
  | zero =>
    intro q e _ hq; rw [List.eq_nil_of_length_eq_zero hp, List.nil_append]; exact h q (by omega) hq
  | succ k ih =>
    intro q e hpg hq; obtain ⟨p', w, rfl⟩ : ∃ p' w, p = p' ++ [w] := ⟨p.dropLast, p.getLast (by intro h0; rw [h0] at hp; simp at hp), (List.dropLast_concat_getLast _).symm⟩; have hk : p'.length = k := by simpa using hp
    rw [List.append_assoc, List.singleton_append]; refine UL (S := S) (fun v => f (p' ++ v :: q)) (fun a u b v => hl p' q u v a b (by omega)) (fun v hv => ?_) (hpg w (by simp)); have := ih p' hk (v :: q) (by simp; omega) (fun x hx => hpg x (by simp [hx])) (fun x hx => by
      rcases List.mem_cons.1 hx with rfl | hx
      · exact hv
      · exact hq x hx)
    exact this
variable {K : Type}
def Van (r : Nat) (S : (K → Int) → Prop) : Prop := ∀ J : List K, J.length = r → ∀ I : List (K → Int), I.length = r → (∀ v ∈ I, S v) → det J I = 0
theorem van_gen {r : Nat} {S S' : (K → Int) → Prop} (h : Van r S) (hg : ∀ v, S' v → Gen S v) : Van r S' := by
  intro J hJ I hI hv; have hl := Y9 J; rw [hJ] at hl; have := UK hl (S := S) (fun I hI hv => h J hJ I hI hv) I [] (by simpa using hI) (fun v hv' => hg v (hv v hv')) (by simp); simpa using this
theorem sgn_zero (f : List (K → Int) → Int) (j : K) : ∀ (post pre : List (K → Int)), (∀ v ∈ post, v j = 0) → sgn f j pre post = 0
  | [], _, _ => rfl
  | v :: post, pre, h => by
    rw [sgn, h v (List.mem_cons_self ..), sgn_zero f j post _ (fun u hu => h u (List.mem_cons_of_mem _ hu))]; simp
def Steps : List K → List (K → Int) → Prop
  | [], [] => True
  | j :: J, v :: R => v j ≠ 0 ∧ (∀ u ∈ R, u j = 0) ∧ Steps J R
  | _, _ => False
theorem U8 : ∀ (J : List K) (R : List (K → Int)), Steps J R → det J R ≠ 0
  | [], [], _ => by simp [det]
  | [], _ :: _, h => h.elim
  | _ :: _, [], h => h.elim
  | j :: J, v :: R, h => by
    obtain ⟨h1, h2, h3⟩ := h; rw [det, sgn, List.nil_append, List.nil_append, sgn_zero _ _ _ _ h2, Int.sub_zero]; exact Int.mul_ne_zero h1 (U8 J R h3)
theorem YP : ∀ (r : Nat) (l : List Nat), l.Nodup → (∀ x ∈ l, x < r) → l.length ≤ r
  | 0, l, _, h => by
    cases l with
    | nil => simp
    | cons x t => have := h x (List.mem_cons_self ..); omega
  | r + 1, l, hn, h => by
    by_cases c : r ∈ l
    · have h1 := YP r (l.erase r) (hn.erase r) (fun x hx => by
        have h2 := (hn.mem_erase_iff).1 hx; have := h x h2.2; have := h2.1; omega)
      rw [List.length_erase_of_mem c] at h1; omega
    · have := YP r l hn (fun x hx => by
        have h1 := h x hx; have : x ≠ r := fun e => c (e ▸ hx)
        omega)
      omega
theorem Yz : ∀ (l : List Nat), ¬ l.Nodup → ∃ p a q s, l = p ++ a :: (q ++ a :: s)
  | [], h => (h List.nodup_nil).elim
  | x :: t, h => by
    by_cases c : x ∈ t
    · obtain ⟨q, s, e⟩ := List.append_of_mem c; exact ⟨[], x, q, s, by rw [e]; rfl⟩
    · obtain ⟨p, a, q, s, e⟩ := Yz t (fun hn => h (List.nodup_cons.2 ⟨c, hn⟩)); exact ⟨x :: p, a, q, s, by rw [e]; rfl⟩
theorem van_short (R : List (K → Int)) : Van (R.length + 1) (fun v => v ∈ R) := by
  intro J hJ I hI hv; obtain ⟨l, hl, hI2⟩ : ∃ l : List Nat, (∀ x ∈ l, x < R.length) ∧ I = l.map (fun x => R.getD x (fun _ => 0)) := by
    clear hI; induction I with
    | nil => exact ⟨[], by simp, rfl⟩
    | cons v I ih =>
      obtain ⟨l, h1, h2⟩ := ih (fun u hu => hv u (List.mem_cons_of_mem _ hu)); obtain ⟨n, hn, e⟩ := List.getElem_of_mem (hv v (List.mem_cons_self ..)); refine ⟨n :: l, fun x hx => ?_, ?_⟩
      · rcases List.mem_cons.1 hx with rfl | hx
        · exact hn
        · exact h1 x hx
      · rw [List.map_cons, ← h2, List.getD_eq_getElem?_getD, List.getElem?_eq_getElem hn, e]; rfl
  have hll : l.length = R.length + 1 := by rw [hI2] at hI; simpa using hI
  obtain ⟨p, a, q, s, e⟩ := Yz l (fun hn => by have := YP R.length l hn hl; omega); rw [hI2, e]; simp only [List.map_append, List.map_cons]; have h1 := Y9 J; have h2 := Ur J; rw [hJ] at h1 h2; refine VB h1 h2 _ _ _ _ ?_; rw [e] at hll; simp at hll ⊢; omega
theorem van_up {r : Nat} {S : (K → Int) → Prop} (h : Van r S) : Van (r + 1) S := by
  intro J hJ I hI hv; match J, hJ with
  | j :: J, hJ =>
    have : ∀ (post pre : List (K → Int)), pre.length + post.length = r + 1 → (∀ v ∈ pre, S v) → (∀ v ∈ post, S v) → sgn (det J) j pre post = 0 := by
      intro post; induction post with
      | nil => intros; rfl
      | cons v post ih =>
        intro pre e h1 h2; rw [sgn, ih (pre ++ [v]) (by simp at e ⊢; omega) (fun u hu => by
          rcases List.mem_append.1 hu with hu | hu
          · exact h1 u hu
          · rw [List.mem_singleton.1 hu]; exact h2 v (List.mem_cons_self ..)) (fun u hu => h2 u (List.mem_cons_of_mem _ hu)),
          h J (by simpa using hJ) (pre ++ post) (by simp at e ⊢; omega) (fun u hu => by
          rcases List.mem_append.1 hu with hu | hu
          · exact h1 u hu
          · exact h2 u (List.mem_cons_of_mem _ hu))]
        simp
    exact this I [] (by simpa using hI) (by simp) hv
theorem argmax {α : Type} (f g : α → Int) : ∀ (l : List α), l ≠ [] → (∀ x ∈ l, 0 < g x) → ∃ M ∈ l, ∀ x ∈ l, f x * g M ≤ f M * g x
  | [], h, _ => absurd rfl h
  | [a], _, _ => ⟨a, by simp, fun x hx => by rw [List.mem_singleton.1 hx]; omega⟩
  | a :: b :: l, _, hg => by
    obtain ⟨M, hM, h⟩ := argmax f g (b :: l) (by simp) (fun x hx => hg x (List.mem_cons_of_mem _ hx)); have ga := hg a (List.mem_cons_self ..); have gM := hg M (List.mem_cons_of_mem _ hM); by_cases c : f a * g M ≤ f M * g a
    · exact ⟨M, List.mem_cons_of_mem _ hM, fun x hx => by
        rcases List.mem_cons.1 hx with rfl | hx
        · exact c
        · exact h x hx⟩
    · refine ⟨a, List.mem_cons_self .., fun x hx => ?_⟩; rcases List.mem_cons.1 hx with rfl | hx
      · omega
      · have gx := hg x (List.mem_cons_of_mem _ hx); have h1 := Int.mul_le_mul_of_nonneg_right (h x hx) (show 0 ≤ g a by omega); have h2 := Int.mul_le_mul_of_nonneg_right (show f M * g a ≤ f a * g M by omega) (show 0 ≤ g x by omega); have e1 : f x * g a * g M = f x * g M * g a := by grind
        have e2 : f M * g x * g a = f M * g a * g x := by grind
        have e3 : f a * g x * g M = f a * g M * g x := by grind
        exact Int.le_of_mul_le_mul_right (show f x * g a * g M ≤ f a * g x * g M by omega) gM
def Cl (V : (Nat → Int) → Prop) : Prop := ∀ a u b v, V u → V v → V (comb a u b v)
def Prp (n : Nat) (u w : Nat → Int) : Prop := ∀ j, j < n → ∀ k, k < n → w j * u k = w k * u j
def spt (n : Nat) (v : Nat → Int) : List Nat := (List.range n).filter fun j => v j ≠ 0
theorem YD {n : Nat} {v : Nat → Int} {j : Nat} : j ∈ spt n v ↔ j < n ∧ v j ≠ 0 := by simp [spt]
theorem Jo {α : Type} (p q : α → Bool) : ∀ (l : List α), (∀ x ∈ l, p x = true → q x = true) → (l.filter p).length ≤ (l.filter q).length
  | [], _ => by simp
  | a :: l, h => by
    have := Jo p q l (fun x hx => h x (List.mem_cons_of_mem _ hx)); have ha := h a (List.mem_cons_self ..); cases hp : p a
    · rw [List.filter_cons_of_neg (by simp [hp])]; cases hq : q a
      · rw [List.filter_cons_of_neg (by simp [hq])]; exact this
      · rw [List.filter_cons_of_pos hq, List.length_cons]; omega
    · rw [List.filter_cons_of_pos hp, List.filter_cons_of_pos (ha hp), List.length_cons, List.length_cons]; omega
theorem Jn {α : Type} (p q : α → Bool) : ∀ (l : List α), (∀ x ∈ l, p x = true → q x = true) → (∃ x ∈ l, q x = true ∧ p x = false) → (l.filter p).length < (l.filter q).length
  | [], _, h => by obtain ⟨x, hx, _⟩ := h; simp at hx
  | a :: l, h1, h2 => by
    have hl := Jo p q l (fun x hx => h1 x (List.mem_cons_of_mem _ hx)); obtain ⟨x, hx, hq, hp⟩ := h2; rcases List.mem_cons.1 hx with rfl | hx
    · rw [List.filter_cons_of_neg (by simp [hp]), List.filter_cons_of_pos hq, List.length_cons]; omega
    · have ih := Jn p q l (fun x hx => h1 x (List.mem_cons_of_mem _ hx)) ⟨x, hx, hq, hp⟩; have ha := h1 a (List.mem_cons_self ..); cases hp : p a
      · rw [List.filter_cons_of_neg (by simp [hp])]; cases hq : q a
        · rw [List.filter_cons_of_neg (by simp [hq])]; exact ih
        · rw [List.filter_cons_of_pos hq, List.length_cons]; omega
      · rw [List.filter_cons_of_pos hp, List.filter_cons_of_pos (ha hp), List.length_cons, List.length_cons]; omega
theorem spt_lt {n : Nat} {u v : Nat → Int} (h : ∀ j, j < n → u j ≠ 0 → v j ≠ 0) {M : Nat} (hM : M < n) (h1 : v M ≠ 0) (h2 : u M = 0) : (spt n u).length < (spt n v).length :=
  Jn _ _ _ (fun x hx hp => by simpa using h x (List.mem_range.1 hx) (by simpa using hp)) ⟨M, List.mem_range.2 hM, by simpa using h1, by simpa using h2⟩
theorem U9 {V : (Nat → Int) → Prop} (hV : Cl V) (n i : Nat) (hi : i < n) : ∀ (d : Nat) (v : Nat → Int), (spt n v).length ≤ d → V v → (∀ j, j < n → 0 ≤ v j) → 0 < v i →
    ∃ u, V u ∧ (∀ j, j < n → 0 ≤ u j) ∧ 0 < u i ∧ (∀ j, j < n → u j ≠ 0 → v j ≠ 0) ∧ ∀ w, V w → (∀ j, j < n → w j ≠ 0 → u j ≠ 0) → Prp n u w
  | 0, v, hd, _, _, hvi => by
    have : i ∈ spt n v := YD.2 ⟨hi, by omega⟩; have := List.length_pos_of_mem this; omega
  | d + 1, v, hd, hv, h0, hvi => by
    by_cases hex : ∃ w, V w ∧ (∀ j, j < n → w j ≠ 0 → v j ≠ 0) ∧ ∃ j, j < n ∧ w i * v j < w j * v i
    · obtain ⟨w, hw, hs, j, hj, hlt⟩ := hex; have hvj : v j ≠ 0 := fun e => by
        have : w j = 0 := by
          by_cases c : w j = 0
          · exact c
          · exact absurd e (hs j hj c)
        rw [e, this] at hlt; omega
      have hpos : ∀ x ∈ spt n v, 0 < v x := fun x hx => by
        obtain ⟨a, b⟩ := YD.1 hx; have := h0 x a; omega
      obtain ⟨M, hM, hmax⟩ := argmax w v (spt n v) (List.ne_nil_of_mem (YD.2 ⟨hj, hvj⟩)) hpos; have vM := hpos M hM; obtain ⟨hMn, hM0⟩ := YD.1 hM; have hu0 : ∀ x, x < n → 0 ≤ comb (w M) v (-(v M)) w x := fun x hx => by
        show 0 ≤ w M * v x + -(v M) * w x
        by_cases c : v x = 0
        · have : w x = 0 := by
            by_cases c2 : w x = 0
            · exact c2
            · exact absurd c (hs x hx c2)
          rw [c, this]; simp
        · have := hmax x (YD.2 ⟨hx, c⟩); rw [Int.neg_mul, Int.mul_comm (v M)]; omega
      have hsub : ∀ x, x < n → comb (w M) v (-(v M)) w x ≠ 0 → v x ≠ 0 := fun x hx h e => by
        apply h; have : w x = 0 := by
          by_cases c2 : w x = 0
          · exact c2
          · exact absurd e (hs x hx c2)
        show w M * v x + -(v M) * w x = 0
        rw [e, this]; simp
      have hui : 0 < comb (w M) v (-(v M)) w i := by
        show 0 < w M * v i + -(v M) * w i
        have h1 := hmax j (YD.2 ⟨hj, hvj⟩); have vj := hpos j (YD.2 ⟨hj, hvj⟩); have h2 := Int.mul_lt_mul_of_pos_right hlt vM; have h3 := Int.mul_le_mul_of_nonneg_right h1 (show 0 ≤ v i by omega); have e1 : w i * v j * v M = w i * v M * v j := by grind
        have e2 : w j * v i * v M = w j * v M * v i := by grind
        have e3 : w M * v j * v i = w M * v i * v j := by grind
        have h4 : w i * v M * v j < w M * v i * v j := by omega
        have := Int.lt_of_mul_lt_mul_right h4 (show 0 ≤ v j by omega); rw [Int.neg_mul, Int.mul_comm (v M)]; omega
      have huM : comb (w M) v (-(v M)) w M = 0 := by
        show w M * v M + -(v M) * w M = 0
        rw [Int.neg_mul, Int.mul_comm (v M)]; omega
      have hl := spt_lt hsub hMn hM0 huM; obtain ⟨u, a1, a2, a3, a4, a5⟩ := U9 hV n i hi d _ (by omega) (hV _ _ _ _ hv hw) hu0 hui; exact ⟨u, a1, a2, a3, fun x hx h => hsub x hx (a4 x hx h), a5⟩
    · refine ⟨v, hv, h0, hvi, fun _ _ h => h, fun w hw hs => ?_⟩; have hle : ∀ j, j < n → w j * v i ≤ w i * v j := fun j hj => by
        by_cases c : w i * v j < w j * v i
        · exact absurd ⟨w, hw, hs, j, hj, c⟩ hex
        · omega
      have hge : ∀ j, j < n → w i * v j ≤ w j * v i := fun j hj => by
        by_cases c : w j * v i < w i * v j
        · refine absurd ⟨comb (-1) w 0 w, hV _ _ _ _ hw hw, fun x hx h => hs x hx (fun e => h (by simp [comb, e])), j, hj, ?_⟩ hex; simp only [comb, Int.zero_mul, Int.add_zero, Int.neg_mul, Int.one_mul]; omega
        · omega
      intro j hj k hk; refine Int.eq_of_mul_eq_mul_right (a := v i) (by omega) ?_; have e1 : w j * v i = w i * v j := Int.le_antisymm (hle j hj) (hge j hj); have e2 : w k * v i = w i * v k := Int.le_antisymm (hle k hk) (hge k hk); rw [show w j * v k * v i = w j * v i * v k by grind, show w k * v j * v i = w k * v i * v j by grind, e1, e2]; grind
def dt : Nat → (Nat → Int) → (Nat → Int) → Int
  | 0, _, _ => 0
  | m + 1, y, a => dt m y a + y m * a m
theorem VO (m : Nat) (y : Nat → Int) (p q : Int) (u v : Nat → Int) : dt m y (comb p u q v) = p * dt m y u + q * dt m y v := by
  induction m with
  | zero => simp [dt]
  | succ m ih =>
    rw [dt, dt, dt, ih]; simp only [comb]; grind
theorem UQ (m : Nat) (y a : Nat → Int) : dt m y a = dt m a y := by
  induction m with
  | zero => rfl
  | succ m ih => rw [dt, dt, ih, Int.mul_comm]
theorem Y7 (m : Nat) {y z a b : Nat → Int} (h : ∀ k, k < m → y k = z k) (h2 : ∀ k, k < m → a k = b k) : dt m y a = dt m z b := by
  induction m with
  | zero => rfl
  | succ m ih => rw [dt, dt, ih (fun k hk => h k (by omega)) (fun k hk => h2 k (by omega)), h m (by omega), h2 m (by omega)]
def unt (m : Nat) (s : Int) : Nat → Int := fun k => if k = m then s else 0
theorem Y8 : ∀ (n : Nat) (r v : Nat → Int), (∀ j, j < n → r j * v j = 0) → dt n r v = 0
  | 0, _, _, _ => rfl
  | n + 1, r, v, h => by rw [dt, Y8 n r v (fun j hj => h j (by omega)), h n (by omega)]; rfl
theorem VP : ∀ (n : Nat) (r v : Nat → Int) (c : Nat), c < n → (∀ j, j < n → j ≠ c → r j * v j = 0) → dt n r v = r c * v c
  | 0, _, _, c, h, _ => by omega
  | n + 1, r, v, c, hc, h => by
    rw [dt]; by_cases e : c = n
    · rw [Y8 n r v (fun j hj => h j (by omega) (by omega)), e]; omega
    · rw [VP n r v c (by omega) (fun j hj => h j (by omega)), h n (by omega) (by omega)]; omega
theorem JI : ∀ (n : Nat) (r v : Nat → Int) (c f : Nat), c < n → f < n → c ≠ f → (∀ j, j < n → j ≠ c → j ≠ f → r j * v j = 0) → dt n r v = r c * v c + r f * v f
  | 0, _, _, c, _, h, _, _, _ => by omega
  | n + 1, r, v, c, f, hc, hf, hne, h => by
    rw [dt]; by_cases e : c = n
    · rw [VP n r v f (by omega) (fun j hj h2 => h j (by omega) (by omega) h2), e]; omega
    · by_cases e2 : f = n
      · rw [VP n r v c (by omega) (fun j hj h2 => h j (by omega) h2 (by omega)), e2]
      · rw [JI n r v c f (by omega) (by omega) hne (fun j hj => h j (by omega)), h n (by omega) (by omega) (by omega)]; omega
def Ker (n : Nat) (S : (Nat → Int) → Prop) (v : Nat → Int) : Prop := ∀ r, S r → dt n r v = 0
theorem ker_cl (n : Nat) (S : (Nat → Int) → Prop) : Cl (Ker n S) := fun a u b v hu hv r hr => by rw [VO, hu r hr, hv r hr]; simp
theorem ker_gen {n : Nat} {S S' : (Nat → Int) → Prop} (h : ∀ r, S r → Gen S' r) {v : Nat → Int} (hv : Ker n S' v) : Ker n S v := fun r hr =>
  UL (fun r => dt n r v) (fun a u b w => by rw [UQ, VO, UQ n v u, UQ n v w]) hv (h r hr)
def Gnr (n : Nat) (V : (Nat → Int) → Prop) (v : Nat → Int) : Prop := V v ∧ (∃ j, j < n ∧ v j ≠ 0) ∧ ∀ w, V w → Prp n v w
theorem Uq {n : Nat} {V W : (Nat → Int) → Prop} (h : ∀ v, V v ↔ W v) {v : Nat → Int} (hv : Gnr n V v) : Gnr n W v := ⟨(h v).1 hv.1, hv.2.1, fun w hw => hv.2.2 w ((h w).2 hw)⟩
structure Ech (n : Nat) (A : Nat → Nat → Int) (Q : List Nat) : Prop where
  inc : Q.Pairwise (· < ·)
  lt : ∀ q ∈ Q, q < n
  piv : ∀ a c : Nat, Q[a]? = some c → A a c ≠ 0
  zer : ∀ a c : Nat, Q[a]? = some c → ∀ b, b ≠ a → A b c = 0
  low : ∀ b, Q.length ≤ b → ∀ c, c < n → A b c = 0
def Rws (A : Nat → Nat → Int) (r : Nat → Int) : Prop := ∃ b, r = A b
theorem VV : ∀ (l r : List Nat), l.Nodup → (∀ x ∈ l, x ∈ r) → l.length ≤ r.length
  | [], _, _, _ => by simp
  | a :: l, r, hn, h => by
    rw [List.nodup_cons] at hn; have h1 := VV l (r.erase a) hn.2 (fun x hx => by
      have := h x (List.mem_cons_of_mem _ hx); exact (List.mem_erase_of_ne (fun e => hn.1 (by rw [← e]; exact hx))).2 this)
    have ha := h a (List.mem_cons_self ..); rw [List.length_erase_of_mem ha] at h1; have := List.length_pos_of_mem ha; rw [List.length_cons]; omega
namespace Ech
variable {n : Nat} {A : Nat → Nat → Int} {Q : List Nat}
theorem nodup (h : Ech n A Q) : Q.Nodup := h.inc.imp (fun h => by omega)
theorem miss (h : Ech n A Q) (hl : Q.length < n) : ∃ f, f < n ∧ f ∉ Q := by
  by_cases c : ∃ f, f < n ∧ f ∉ Q
  · exact c
  · have := VV (List.range n) Q List.nodup_range (fun x hx => by
      by_cases c2 : x ∈ Q
      · exact c2
      · exact absurd ⟨x, List.mem_range.1 hx, c2⟩ c)
    rw [List.length_range] at this; omega
theorem miss2 (h : Ech n A Q) (hl : Q.length + 1 < n) {f : Nat} : ∃ g, g < n ∧ g ∉ Q ∧ g ≠ f := by
  by_cases c : ∃ g, g < n ∧ g ∉ Q ∧ g ≠ f
  · exact c
  · have := VV (List.range n) (f :: Q) List.nodup_range (fun x hx => by
      by_cases c3 : x = f
      · rw [c3]; exact List.mem_cons_self ..
      · by_cases c2 : x ∈ Q
        · exact List.mem_cons_of_mem _ c2
        · exact absurd ⟨x, List.mem_range.1 hx, c2, c3⟩ c)
    rw [List.length_range, List.length_cons] at this; omega
theorem cover (h : Ech n A Q) (hl : Q.length + 1 = n) {f : Nat} (hf : f < n) (hfQ : f ∉ Q) {j : Nat} (hj : j < n) : j ∈ Q ∨ j = f := by
  by_cases c : j ∈ Q
  · exact .inl c
  · by_cases c2 : j = f
    · exact .inr c2
    · have := YP n (j :: f :: Q) (by
        rw [List.nodup_cons, List.nodup_cons]; exact ⟨fun hm => by rcases List.mem_cons.1 hm with e | e; exact c2 e; exact c e, hfQ, h.nodup⟩) (fun x hx => by
        rcases List.mem_cons.1 hx with rfl | hx
        · exact hj
        · rcases List.mem_cons.1 hx with rfl | hx
          · exact hf
          · exact h.lt x hx)
      simp only [List.length_cons] at this; omega
theorem full (h : Ech n A Q) (hl : Q.length = n) {j : Nat} (hj : j < n) : j ∈ Q := by
  by_cases c : j ∈ Q
  · exact c
  · have := YP n (j :: Q) (by rw [List.nodup_cons]; exact ⟨c, h.nodup⟩) (fun x hx => by
      rcases List.mem_cons.1 hx with rfl | hx
      · exact hj
      · exact h.lt x hx)
    simp only [List.length_cons] at this; omega
theorem VW (h : Ech n A Q) : Q.length ≤ n := YP n Q h.nodup h.lt
theorem same (h : Ech n A Q) {a b c : Nat} (ha : Q[a]? = some c) (hb : Q[b]? = some c) : a = b := by
  by_cases e : a = b
  · exact e
  · exact absurd (h.zer a c ha b (fun x => e x.symm)) (h.piv b c hb)
theorem idx {j : Nat} (hj : j ∈ Q) : ∃ a : Nat, Q[a]? = some j := by
  obtain ⟨a, ha, e⟩ := List.getElem_of_mem hj; exact ⟨a, by rw [List.getElem?_eq_getElem ha, e]⟩
theorem ker1 (h : Ech n A Q) {f : Nat} (hf : f < n) (hfQ : f ∉ Q) {v : Nat → Int} (hz : ∀ j, j < n → j ∉ Q → j ≠ f → v j = 0) (hv : ∀ a c : Nat, Q[a]? = some c → A a c * v c + A a f * v f = 0) : Ker n (Rws A) v := by
  rintro r ⟨b, rfl⟩; by_cases hb : b < Q.length
  · have hq : Q[b]? = some Q[b] := List.getElem?_eq_getElem hb; have hm : Q[b] ∈ Q := List.getElem_mem hb; rw [JI n (A b) v Q[b] f (h.lt _ hm) hf (fun e => hfQ (e ▸ hm)) (fun j hj h1 h2 => ?_)]
    · exact hv b _ hq
    · by_cases c : j ∈ Q
      · obtain ⟨a, ha⟩ := idx c; rw [h.zer a j ha b (fun e => h1 (by rw [← e] at ha; rw [hq] at ha; exact (Option.some.inj ha).symm))]; simp
      · rw [hz j hj c h2]; simp
  · exact Y8 n (A b) v (fun j hj => by rw [h.low b (by omega) j hj]; simp)
theorem ker_at (h : Ech n A Q) (hl : Q.length + 1 = n) {f : Nat} (hf : f < n) (hfQ : f ∉ Q) {v : Nat → Int} (hv : Ker n (Rws A) v) {a c : Nat} (ha : Q[a]? = some c) : A a c * v c + A a f * v f = 0 := by
  have hm : c ∈ Q := List.mem_of_getElem? ha; have := hv (A a) ⟨a, rfl⟩; rw [JI n (A a) v c f (h.lt _ hm) hf (fun e => hfQ (e ▸ hm)) (fun j hj h1 h2 => ?_)] at this
  · exact this
  · rcases h.cover hl hf hfQ hj with c | c
    · obtain ⟨b, hb⟩ := idx c; rw [h.zer b j hb a (fun e => h1 (by rw [e] at ha; rw [ha] at hb; exact (Option.some.inj hb).symm))]; simp
    · exact absurd c h2
theorem gnr1 (h : Ech n A Q) (hl : Q.length + 1 = n) {f : Nat} (hf : f < n) (hfQ : f ∉ Q) {v : Nat → Int} (hv : Ker n (Rws A) v) (hvf : v f ≠ 0) : Gnr n (Ker n (Rws A)) v := by
  refine ⟨hv, ⟨f, hf, hvf⟩, fun w hw => ?_⟩; have key : ∀ j, j < n → w j * v f = w f * v j := fun j hj => by
    rcases h.cover hl hf hfQ hj with c | c
    · obtain ⟨a, ha⟩ := idx c; have h1 := h.ker_at hl hf hfQ hv ha; have h2 := h.ker_at hl hf hfQ hw ha; refine Int.eq_of_mul_eq_mul_left (h.piv a j ha) ?_; rw [← Int.mul_assoc, show A a j * w j = -(A a f * w f) by omega, show A a j * (w f * v j) = w f * (A a j * v j) by grind, show A a j * v j = -(A a f * v f) by omega]; grind
    · rw [c]
  intro j hj k hk; refine Int.eq_of_mul_eq_mul_right hvf ?_; rw [show w j * v k * v f = w j * v f * v k by grind, show w k * v j * v f = w k * v f * v j by grind, key j hj, key k hk]; grind
theorem prod : ∀ (l : List Int), (∀ x ∈ l, x ≠ 0) → ∃ L : Int, L ≠ 0 ∧ ∀ x ∈ l, x ∣ L
  | [], _ => ⟨1, by omega, by simp⟩
  | a :: l, h => by
    obtain ⟨L, h1, h2⟩ := prod l (fun x hx => h x (List.mem_cons_of_mem _ hx)); refine ⟨a * L, Int.mul_ne_zero (h a (List.mem_cons_self ..)) h1, fun x hx => ?_⟩; rcases List.mem_cons.1 hx with rfl | hx
    · exact ⟨L, rfl⟩
    · exact Int.dvd_mul_of_dvd_right (h2 x hx)
theorem pivs (h : Ech n A Q) : ∃ L : Int, L ≠ 0 ∧ ∀ a c : Nat, Q[a]? = some c → A a c ∣ L := by
  obtain ⟨L, h1, h2⟩ := prod ((List.range Q.length).map fun a => A a (Q.getD a 0)) (fun x hx => by
    obtain ⟨a, ha, rfl⟩ := List.mem_map.1 hx; have hl := List.mem_range.1 ha; refine h.piv a _ ?_; rw [List.getD_eq_getElem?_getD, List.getElem?_eq_getElem hl]; rfl)
  refine ⟨L, h1, fun a c ha => h2 _ (List.mem_map.2 ⟨a, List.mem_range.2 ?_, ?_⟩)⟩
  · exact (List.getElem?_eq_some_iff.1 ha).1
  · rw [List.getD_eq_getElem?_getD, ha]; rfl
theorem UH (h : Ech n A Q) {f : Nat} (hf : f < n) (hfQ : f ∉ Q) : ∃ v, Ker n (Rws A) v ∧ v f ≠ 0 ∧ ∀ j, j < n → j ∉ Q → j ≠ f → v j = 0 := by
  obtain ⟨L, hL, hd⟩ := h.pivs; let v : Nat → Int := fun j => if j = f then L else if j ∈ Q then -(A (Q.idxOf j) f) * (L / A (Q.idxOf j) j) else 0
  have hvf : v f = L := if_pos rfl; refine ⟨v, h.ker1 hf hfQ (fun j hj h1 h2 => by show (if j = f then L else if j ∈ Q then _ else 0) = 0; rw [if_neg h2, if_neg h1]) (fun a c ha => ?_), by rw [hvf]; exact hL, fun j hj h1 h2 => by show (if j = f then L else if j ∈ Q then _ else 0) = 0; rw [if_neg h2, if_neg h1]⟩; have hm : c ∈ Q := List.mem_of_getElem? ha; have hcf : c ≠ f := fun e => hfQ (e ▸ hm)
  have hi : Q[Q.idxOf c]? = some c := by
    have := List.idxOf_lt_length_iff.2 hm; rw [List.getElem?_eq_getElem this, List.getElem_idxOf this]
  have e := h.same hi ha; have hvc : v c = -(A a f) * (L / A a c) := by
    show (if c = f then L else if c ∈ Q then -(A (Q.idxOf c) f) * (L / A (Q.idxOf c) c) else 0) = _
    rw [if_neg hcf, if_pos hm, e]
  rw [hvc, hvf]; have := Int.mul_ediv_cancel' (hd a c ha); rw [show A a c * (-(A a f) * (L / A a c)) = -(A a f) * (A a c * (L / A a c)) by grind, this, Int.neg_mul]; omega
theorem gnr_iff_len (h : Ech n A Q) : (∃ v, Gnr n (Ker n (Rws A)) v) ↔ Q.length + 1 = n := by
  constructor
  · rintro ⟨v, hv, ⟨j, hj, hj0⟩, hp⟩; have hle := h.VW; by_cases c1 : Q.length = n
    · exfalso
      obtain ⟨a, ha⟩ := idx (h.full c1 hj); have := hv (A a) ⟨a, rfl⟩; rw [VP n (A a) v j hj (fun k hk hne => by
        obtain ⟨b, hb⟩ := idx (h.full c1 hk); rw [h.zer b k hb a (fun e => hne (by rw [e] at ha; rw [ha] at hb; exact (Option.some.inj hb).symm))]; simp)] at this
      rcases Int.mul_eq_zero.1 this with e | e
      · exact h.piv a j ha e
      · exact hj0 e
    · by_cases c2 : Q.length + 1 = n
      · exact c2
      · exfalso
        obtain ⟨f, hf, hfQ⟩ := h.miss (by omega); obtain ⟨g, hg, hgQ, hne⟩ := h.miss2 (by omega) (f := f); obtain ⟨u, u1, u2, u3⟩ := h.UH hf hfQ; obtain ⟨w, w1, w2, w3⟩ := h.UH hg hgQ; have e1 := hp u u1 f hf g hg; rw [u3 g hg hgQ hne, Int.zero_mul] at e1; have vg : v g = 0 := by
          rcases Int.mul_eq_zero.1 e1 with e | e
          · exact absurd e u2
          · exact e
        have e2 := hp w w1 g hg j hj; rw [vg, Int.mul_zero] at e2; rcases Int.mul_eq_zero.1 e2 with e | e
        · exact w2 e
        · exact hj0 e
  · intro hl; obtain ⟨f, hf, hfQ⟩ := h.miss (by omega); obtain ⟨v, h1, h2, h3⟩ := h.UH hf hfQ; exact ⟨v, h.gnr1 hl hf hfQ h1 h2⟩
end Ech
variable {K : Type}
def csg (g : List K → Int) (u : K → Int) : List K → List K → Int
  | _, [] => 0
  | pre, j :: post => u j * g (pre ++ post) - csg g u (pre ++ [j]) post
theorem csg_cons (g : List K → Int) (u : K → Int) (j : K) : ∀ (post pre : List K), csg g u (j :: pre) post = csg (fun J => g (j :: J)) u pre post
  | [], _ => rfl
  | k :: post, pre => by
    have ih := csg_cons g u j post (pre ++ [k]); simp only [csg, List.cons_append] at ih ⊢; rw [ih]
theorem csg_zero (u : K → Int) : ∀ (post pre : List K), csg (fun _ => 0) u pre post = 0
  | [], _ => rfl
  | k :: post, pre => by
    rw [csg, csg_zero u post]; simp
theorem csg_sub (g h : List K → Int) (a : Int) (u : K → Int) : ∀ (post pre : List K), csg (fun J => a * g J - h J) u pre post = a * csg g u pre post - csg h u pre post
  | [], _ => by simp [csg]
  | k :: post, pre => by
    rw [csg, csg, csg, csg_sub g h a u post]; grind
theorem exch (u : K → Int) (j : K) (J : List K) (hJ : ∀ R : List (K → Int), R.length + 1 = J.length → det J (u :: R) = csg (fun J' => det J' R) u [] J) : ∀ (q p : List (K → Int)), p.length + q.length = J.length →
    sgn (det J) j (u :: p) q = csg (fun J' => sgn (det J') j p q) u [] J
  | [], p, _ => by
    simp only [sgn]; rw [csg_zero]
  | v :: q, p, e => by
    simp only [List.length_cons] at e; have ih := exch u j J hJ q (p ++ [v]) (by simp; omega); simp only [sgn, List.cons_append] at ih ⊢; rw [ih, hJ (p ++ q) (by simp; omega), csg_sub (fun J' => det J' (p ++ q)) (fun J' => sgn (det J') j (p ++ [v]) q)]
theorem det_row (u : K → Int) : ∀ (J : List K) (R : List (K → Int)), R.length + 1 = J.length → det J (u :: R) = csg (fun J' => det J' R) u [] J
  | [], R, h => by simp at h
  | j :: J, R, h => by
    have e := exch u j J (fun R h => det_row u J R h) R [] (by simp at h ⊢; omega); rw [det, sgn, csg, List.nil_append, List.nil_append, List.nil_append]; rw [List.nil_append, e, csg_cons]; rfl
def sm : Nat → Nat → (Nat → Int) → Int
  | _, 0, _ => 0
  | j, d + 1, f => f j + sm (j + 1) d f
theorem sm_last : ∀ (d j : Nat) (f : Nat → Int), sm j (d + 1) f = sm j d f + f (j + d)
  | 0, j, f => by simp [sm]
  | d + 1, j, f => by
    rw [sm, sm_last d (j + 1) f, sm, show j + 1 + d = j + (d + 1) by omega]; omega
theorem JH : ∀ (n : Nat) (u v : Nat → Int), dt n u v = sm 0 n fun k => u k * v k
  | 0, _, _ => rfl
  | n + 1, u, v => by rw [sm_last, dt, JH n u v, Nat.zero_add]
def sgx (j : Nat) : Int := if j % 2 = 0 then 1 else -1
theorem sgx_succ (j : Nat) : sgx (j + 1) = -sgx j := by
  unfold sgx; split <;> split <;> omega
theorem sgx_sq (j : Nat) : sgx j * sgx j = 1 := by
  unfold sgx; split <;> rfl
def but (n c : Nat) : List Nat := List.range' 0 c ++ List.range' (c + 1) (n - c - 1)
theorem Vb {n c : Nat} (h : c < n) : (but n c).length = n - 1 := by
  unfold but; rw [List.length_append, List.length_range', List.length_range']; omega
theorem csg_sm (g : List Nat → Int) (u : Nat → Int) (n : Nat) : ∀ (d j : Nat), j + d = n → csg g u (List.range' 0 j) (List.range' j d) = sgx j * sm j d fun i => u i * (sgx i * g (but n i))
  | 0, j, _ => by simp [csg, sm]
  | d + 1, j, h => by
    have e : List.range' 0 j ++ [j] = List.range' 0 (j + 1) := by
      have := List.range'_concat (s := 0) (n := j) (step := 1); rw [this]; simp
    have e2 : List.range' 0 j ++ List.range' (j + 1) d = but n j := by unfold but; rw [show n - j - 1 = d by omega]
    rw [List.range'_succ, csg, e, csg_sm g u n d (j + 1) (by omega), sm, sgx_succ, e2, Int.mul_add]; have := sgx_sq j; rw [show sgx j * (u j * (sgx j * g (but n j))) = sgx j * sgx j * (u j * g (but n j)) by grind, this]; grind
def cof (n : Nat) (I : List (Nat → Int)) (c : Nat) : Int := sgx c * det (but n c) I
theorem cof_dot (n : Nat) (u : Nat → Int) (I : List (Nat → Int)) (h : I.length + 1 = n) : dt n u (cof n I) = det (List.range' 0 n) (u :: I) := by
  rw [det_row u (List.range' 0 n) I (by rw [List.length_range']; exact h), JH]; have := csg_sm (fun J => det J I) u n n 0 (by omega); rw [show List.range' 0 0 = ([] : List Nat) from rfl] at this; rw [this, show sgx 0 = 1 from rfl, Int.one_mul]; rfl
theorem cof_ker {n : Nat} {S : (Nat → Int) → Prop} (hV : Van n S) {I : List (Nat → Int)} (hI : I.length + 1 = n) (hS : ∀ v ∈ I, S v) : Ker n S (cof n I) := fun r hr => by
  rw [cof_dot n r I hI]; exact hV _ (by rw [List.length_range']) _ (by rw [List.length_cons]; exact hI) (fun v hv => by
    rcases List.mem_cons.1 hv with rfl | hv
    · exact hr
    · exact hS v hv)
def Dq : Nat → Nat
  | 0 => 1
  | n + 1 => (n + 1) * (9 * Dq n)
theorem det_le {K : Type} : ∀ (J : List K) (I : List (K → Int)), I.length = J.length → (∀ v ∈ I, ∀ j ∈ J, (v j).natAbs ≤ 9) → (det J I).natAbs ≤ Dq J.length
  | [], _, _, _ => by rw [det]; exact Nat.le_refl _
  | j :: J, I, hl, hs => by
    have key : ∀ (post pre : List (K → Int)), pre ++ post = I → (sgn (det J) j pre post).natAbs ≤ post.length * (9 * Dq J.length) := by
      intro post; induction post with
      | nil => intro pre _; rw [sgn]; simp
      | cons v post ih =>
        intro pre hp; have h1 := ih (pre ++ [v]) (by simpa using hp); have hsub : ∀ u ∈ pre ++ post, u ∈ I := fun u hu => by rw [← hp]; rcases List.mem_append.1 hu with h | h <;> simp [h]
        have h2 := det_le J (pre ++ post) (by rw [← hp] at hl; simp at hl ⊢; omega) (fun u hu x hx => hs u (hsub u hu) x (List.mem_cons_of_mem _ hx)); have h3 := hs v (by rw [← hp]; simp) j (List.mem_cons_self ..); rw [sgn, List.length_cons]; have h4 : (v j * det J (pre ++ post)).natAbs ≤ 9 * Dq J.length := by
          rw [Int.natAbs_mul]; exact Nat.mul_le_mul h3 h2
        rw [Nat.add_mul, Nat.one_mul]; omega
    have := key I [] rfl; rw [det, List.length_cons, Dq]; rw [hl, List.length_cons] at this; exact this
theorem dq_ok : ∀ n, n ≤ 4 → Dq n ≤ 157464 := by decide +kernel
theorem cof_le {n : Nat} {I : List (Nat → Int)} (hI : I.length + 1 = n) (h4 : n ≤ 5) (hs : ∀ v ∈ I, ∀ j, (v j).natAbs ≤ 9) {c : Nat} (hc : c < n) : (cof n I c).natAbs ≤ 157464 := by
  have h1 := det_le (but n c) I (by rw [Vb hc]; omega) (fun v hv j _ => hs v hv j); rw [Vb hc] at h1; have h2 := dq_ok (n - 1) (by omega); unfold cof; rw [Int.natAbs_mul]; have : (sgx c).natAbs = 1 := by unfold sgx; split <;> rfl
  rw [this]; omega
theorem inc_ext : ∀ (l r : List Nat), l.Pairwise (· < ·) → r.Pairwise (· < ·) → (∀ x, x ∈ l ↔ x ∈ r) → l = r
  | [], [], _, _, _ => rfl
  | [], b :: r, _, _, h => by have := (h b).2 (List.mem_cons_self ..); simp at this
  | a :: l, [], _, _, h => by have := (h a).1 (List.mem_cons_self ..); simp at this
  | a :: l, b :: r, hl, hr, h => by
    rw [List.pairwise_cons] at hl hr; have e : a = b := by
      have h1 := (h a).1 (List.mem_cons_self ..); have h2 := (h b).2 (List.mem_cons_self ..); rcases List.mem_cons.1 h1 with e | e
      · exact e
      · rcases List.mem_cons.1 h2 with e2 | e2
        · exact e2.symm
        · have := hr.1 a e; have := hl.1 b e2; omega
    subst e; rw [inc_ext l r hl.2 hr.2 (fun x => ?_)]; constructor
    · intro hx; have h1 := hl.1 x hx; rcases List.mem_cons.1 ((h x).1 (List.mem_cons_of_mem _ hx)) with e | e
      · omega
      · exact e
    · intro hx; have h1 := hr.1 x hx; rcases List.mem_cons.1 ((h x).2 (List.mem_cons_of_mem _ hx)) with e | e
      · omega
      · exact e
theorem mem_but {n c x : Nat} (h : c < n) : x ∈ but n c ↔ x < n ∧ x ≠ c := by
  unfold but; rw [List.mem_append, List.mem_range'_1, List.mem_range'_1]; omega
theorem but_inc {n c : Nat} : (but n c).Pairwise (· < ·) := by
  unfold but; rw [List.pairwise_append]; refine ⟨List.pairwise_lt_range', List.pairwise_lt_range', fun a ha b hb => ?_⟩; rw [List.mem_range'_1] at ha hb; omega
theorem sm_shift : ∀ (d j : Nat) (f : Nat → Int), sm (j + 1) d f = sm j d fun k => f (k + 1)
  | 0, _, _ => rfl
  | d + 1, j, f => by rw [sm, sm, sm_shift d (j + 1) f]
theorem dt_front (n : Nat) (u v : Nat → Int) : dt (n + 1) u v = u 0 * v 0 + dt n (fun k => u (k + 1)) fun k => v (k + 1) := by
  rw [JH, JH, sm, sm_shift]
def ext : List Nat → (Nat → Int) → Nat → Int
  | [], _, _ => 0
  | b :: B, w, j => if j = b then w 0 else ext B (fun k => w (k + 1)) j
def rst (B : List Nat) (v : Nat → Int) : Nat → Int := fun k => v (B.getD k 0)
theorem YV : ∀ (B : List Nat) (w : Nat → Int) (j : Nat), j ∉ B → ext B w j = 0
  | [], _, _, _ => rfl
  | b :: B, w, j, h => by
    rw [ext, if_neg (fun e => h (by rw [e]; exact List.mem_cons_self ..))]; exact YV B _ j (fun hh => h (List.mem_cons_of_mem _ hh))
theorem VA : ∀ (B : List Nat) (w : Nat → Int) (k : Nat), B.Nodup → k < B.length → ext B w (B.getD k 0) = w k
  | [], _, k, _, h => by simp at h
  | b :: B, w, 0, _, _ => by rw [ext, List.getD_cons_zero, if_pos rfl]
  | b :: B, w, k + 1, hn, h => by
    rw [List.nodup_cons] at hn; have hk : k < B.length := by simpa using h
    have hm : B.getD k 0 ∈ B := by
      rw [List.getD_eq_getElem?_getD, List.getElem?_eq_getElem hk]; exact List.getElem_mem hk
    have hne : ¬ B.getD k 0 = b := fun e => hn.1 (e ▸ hm)
    rw [List.getD_cons_succ, ext, if_neg hne, VA B _ k hn.2 hk]
theorem ext_rst {B : List Nat} (hB : B.Nodup) {v : Nat → Int} {j : Nat} (h : v j ≠ 0 → j ∈ B) : ext B (rst B v) j = v j := by
  by_cases c : j ∈ B
  · obtain ⟨k, hk, rfl⟩ := List.getElem_of_mem c; have e : B.getD k 0 = B[k] := by rw [List.getD_eq_getElem?_getD, List.getElem?_eq_getElem hk]; rfl
    rw [← e, VA B _ k hB hk]; rfl
  · rw [YV B _ j c]; by_cases c2 : v j = 0
    · exact c2.symm
    · exact absurd (h c2) c
theorem dt_ext (n : Nat) (r : Nat → Int) : ∀ (B : List Nat) (w : Nat → Int), B.Nodup → (∀ b ∈ B, b < n) → dt n r (ext B w) = dt B.length (rst B r) w
  | [], w, _, _ => Y8 n r _ (fun j _ => by rw [ext]; simp)
  | b :: B, w, hn, hb => by
    rw [List.nodup_cons] at hn; have ih := dt_ext n r B (fun k => w (k + 1)) hn.2 (fun x hx => hb x (List.mem_cons_of_mem _ hx)); have e : dt n r (ext (b :: B) w) = dt n r (comb 1 (unt b (w 0)) 1 (ext B fun k => w (k + 1))) := Y7 n (fun _ _ => rfl) (fun j _ => by
      rw [ext]; show _ = 1 * (if j = b then w 0 else 0) + 1 * ext B (fun k => w (k + 1)) j
      by_cases c : j = b
      · rw [if_pos c, if_pos c, YV B _ j (fun hh => hn.1 (c ▸ hh))]; omega
      · rw [if_neg c, if_neg c]; omega)
    have e2 : dt n r (unt b (w 0)) = r b * w 0 := by
      rw [VP n r (unt b (w 0)) b (hb b (List.mem_cons_self ..)) (fun j _ hj => by rw [unt, if_neg hj]; simp), unt, if_pos rfl]
    rw [e, VO, e2, ih, List.length_cons, dt_front]; show _ = r b * w 0 + _
    rw [Int.one_mul, Int.one_mul]; rfl
theorem dt_rst {n : Nat} {B : List Nat} (hB : B.Nodup) (hb : ∀ b ∈ B, b < n) (r : Nat → Int) {v : Nat → Int} (hv : ∀ j, j < n → v j ≠ 0 → j ∈ B) : dt n r v = dt B.length (rst B r) (rst B v) := by
  rw [← dt_ext n r B _ hB hb]; exact Y7 n (fun _ _ => rfl) (fun j hj => (ext_rst hB (hv j hj)).symm)
end Go.Proofs.Det
end
section
namespace Go.Proofs.Ytdneelgnmnpanaa.P
open Go.RowKit Go.Proofs.YtdneelgnmnpanaaW.PrintWords Go.Proofs.Det
theorem Vk : ∀ (m : List Int) (d : Nat), ((m.foldl (fun d n => Int.gcd d n) d : Nat) : Int) ∣ (d : Int) ∧ ∀ x ∈ m, ((m.foldl (fun d n => Int.gcd d n) d : Nat) : Int) ∣ x
  | [], d => ⟨Int.dvd_refl _, fun x hx => absurd hx (by simp)⟩
  | y :: m, d => by
    obtain ⟨h1, h2⟩ := Vk m (Int.gcd d y); rw [List.foldl_cons]; refine ⟨Int.dvd_trans h1 (Int.gcd_dvd_left ..), fun x hx => ?_⟩; rcases List.mem_cons.1 hx with rfl | hx
    · exact Int.dvd_trans h1 (Int.gcd_dvd_right ..)
    · exact h2 x hx
theorem ZR {l : List Int} {j : Nat} (h : l.length ≤ j) : l.getD j 0 = 0 := by
  rw [List.getD_eq_getElem?_getD, List.getElem?_eq_none h]; rfl
theorem getD_some {l : List Int} {j : Nat} (h : j < l.length) : l.getD j 0 = l[j] := by
  rw [List.getD_eq_getElem?_getD, List.getElem?_eq_getElem h]; rfl
theorem Jx (m : List Int) : ∃ g : Int, g ≠ 0 ∧ ∀ j, m.getD j 0 = g * (pln m).getD j 0 ∧ ((pln m).getD j 0).natAbs ≤ (m.getD j 0).natAbs := by
  unfold pln; by_cases h : 1 < gc m
  · rw [if_pos h]; refine ⟨(gc m : Int), by omega, fun j => ?_⟩; by_cases hj : j < m.length
    · rw [getD_some hj, getD_some (by simpa using hj), List.getElem_map]; have hd : (gc m : Int) ∣ m[j] := (Vk m 0).2 _ (List.getElem_mem hj); have he : (gc m : Int) * (m[j].tdiv (gc m : Int)) = m[j] := Int.mul_tdiv_cancel' hd; refine ⟨he.symm, ?_⟩; generalize m[j].tdiv (gc m : Int) = y at *; rw [← he, Int.natAbs_mul, Int.natAbs_natCast]; exact Nat.le_mul_of_pos_left _ (by omega)
    · rw [ZR (by omega), ZR (by simp; omega)]; simp
  · rw [if_neg h]; exact ⟨1, by omega, fun j => ⟨by omega, Nat.le_refl _⟩⟩
def upd (i : Nat) (t r : List Int) : List Int := if r.getD i 0 = 0 then r else pln (cmb (t.getD i 0) (r.getD i 0) r t)
theorem JL (p q : Int) {r t : List Int} (h : r.length = t.length) (j : Nat) : (cmb p q r t).getD j 0 = r.getD j 0 * p - t.getD j 0 * q := by
  by_cases hj : j < r.length
  · rw [getD_some hj, getD_some (show j < t.length by omega), getD_some (by rw [Va _ _ _ _ h]; exact hj)]; simp only [cmb, List.getElem_zipWith]
  · rw [ZR (l := cmb p q r t) (by rw [Va _ _ _ _ h]; omega), ZR (l := r) (by omega), ZR (l := t) (by omega)]; omega
theorem upd_length (i : Nat) {t r : List Int} (h : r.length = t.length) : (upd i t r).length = r.length := by
  unfold upd; split
  · rfl
  · rw [YO, Va _ _ _ _ h]
theorem upd_spec (i : Nat) {t r : List Int} (h : r.length = t.length) (ht : t.getD i 0 ≠ 0) : ∃ g p q : Int, g ≠ 0 ∧ p ≠ 0 ∧ (∀ j, p * r.getD j 0 + (-q) * t.getD j 0 = g * (upd i t r).getD j 0) ∧ (upd i t r).getD i 0 = 0 := by
  unfold upd; by_cases c : r.getD i 0 = 0
  · rw [if_pos c]; exact ⟨1, 1, 0, by omega, by omega, fun j => by simp, c⟩
  · rw [if_neg c]; obtain ⟨g, hg, hj⟩ := Jx (cmb (t.getD i 0) (r.getD i 0) r t); refine ⟨g, t.getD i 0, r.getD i 0, hg, ht, fun j => ?_, ?_⟩
    · rw [← (hj j).1, JL _ _ h, Int.neg_mul, Int.mul_comm (t.getD i 0), Int.mul_comm (r.getD i 0) (t.getD j 0)]; omega
    · have h1 := (hj i).1; rw [JL _ _ h, Int.mul_comm (t.getD i 0), Int.sub_self] at h1; rcases Int.mul_eq_zero.1 h1.symm with h2 | h2
      · exact absurd h2 hg
      · exact h2
theorem nmul {x y : Int} {A B : Nat} (hx : x.natAbs ≤ A) (hy : y.natAbs ≤ B) : (x * y).natAbs ≤ A * B := by
  rw [Int.natAbs_mul]; exact Nat.mul_le_mul hx hy
theorem upd_bd (i : Nat) {t r : List Int} (h : r.length = t.length) (B : Nat) (h1 : ∀ j, (r.getD j 0).natAbs ≤ B) (h2 : ∀ j, (t.getD j 0).natAbs ≤ B) (hB : 1 ≤ B) : ∀ j, ((upd i t r).getD j 0).natAbs ≤ 2 * (B * B) := by
  intro j; unfold upd; have hb : B ≤ B * B := Nat.le_mul_of_pos_left _ hB; by_cases c : r.getD i 0 = 0
  · rw [if_pos c]; have := h1 j; omega
  · rw [if_neg c]; obtain ⟨g, hg, hj⟩ := Jx (cmb (t.getD i 0) (r.getD i 0) r t); have a := (hj j).2; rw [JL _ _ h] at a; have b := nmul (h1 j) (h2 i); have d := nmul (h2 j) (h1 i); omega
def Sgd (s : Nat → Int) (r : List Int) : Prop := ∃ g : Int, (g = 1 ∨ g = -1) ∧ ∀ j, 0 ≤ g * (s j * r.getD j 0)
theorem upd_bd1 (i : Nat) {t r : List Int} (h : r.length = t.length) (B : Nat) (h1 : ∀ j, (r.getD j 0).natAbs ≤ B) (h2 : ∀ j, (t.getD j 0).natAbs ≤ B) (hB : 1 ≤ B) (s : Nat → Int) (hs : ∀ j, s j = 1 ∨ s j = -1) (hr : Sgd s r) (ht : Sgd s t) : ∀ j, ((upd i t r).getD j 0).natAbs ≤ B * B := by
  intro j; unfold upd; have hb : B ≤ B * B := Nat.le_mul_of_pos_left _ hB; by_cases c : r.getD i 0 = 0
  · rw [if_pos c]; have := h1 j; omega
  · rw [if_neg c]; obtain ⟨g, hg, hj⟩ := Jx (cmb (t.getD i 0) (r.getD i 0) r t); have a := (hj j).2; rw [JL _ _ h] at a; have b := nmul (h1 j) (h2 i); have d := nmul (h2 j) (h1 i); obtain ⟨x, hx, hr⟩ := hr; obtain ⟨y, hy, ht⟩ := ht; have e := Int.mul_nonneg (hr j) (ht i); have f := Int.mul_nonneg (ht j) (hr i); have mm : ∀ p q a b c d : Int, p * (a * b) * (q * (c * d)) = p * q * (a * c) * (b * d) := by intros; grind
    rw [mm] at e f; rw [Int.mul_comm y x] at f; generalize r.getD j 0 * t.getD i 0 = X at *; generalize t.getD j 0 * r.getD i 0 = Y at *; have : x * y * (s j * s i) = 1 ∨ x * y * (s j * s i) = -1 := by rcases hs j with a | a <;> rcases hs i with b | b <;> rcases hx with c | c <;> rcases hy with d | d <;> rw [a, b, c, d] <;> decide
    rcases this with x | x <;> rw [x] at e f <;> omega
theorem V0 : ∀ (m : List Int) (d : Nat) (c : Int), c ∣ (d : Int) → (∀ x ∈ m, c ∣ x) → c ∣ ((m.foldl (fun d n => Int.gcd d n) d : Nat) : Int)
  | [], _, _, h, _ => h
  | y :: m, d, c, h, hm => by
    rw [List.foldl_cons]; exact V0 m _ c (Int.dvd_coe_gcd h (hm y (List.mem_cons_self ..))) (fun x hx => hm x (List.mem_cons_of_mem _ hx))
theorem gc_pln (m : List Int) : gc (pln m) ≤ 1 := by
  unfold pln; by_cases h : 1 < gc m
  · rw [if_pos h]; have h1 : ((gc (m.map (·.tdiv (gc m))) : Nat) : Int) * (gc m : Int) ∣ (gc m : Int) := V0 m 0 _ (by simp) (fun x hx => by
      have hd : (gc m : Int) ∣ x := (Vk m 0).2 x hx; have h2 := (Vk (m.map (·.tdiv (gc m))) 0).2 (x.tdiv (gc m)) (List.mem_map.2 ⟨x, hx, rfl⟩); have h3 := Int.mul_dvd_mul_right (gc m : Int) h2; rw [Int.tdiv_mul_cancel hd] at h3; exact h3)
    rw [← Int.natCast_mul, Int.natCast_dvd_natCast] at h1; have := Nat.le_of_dvd (by omega) h1; by_cases c : gc (m.map (·.tdiv (gc m))) ≤ 1
    · exact c
    · have h4 : 2 * gc m ≤ gc (m.map (·.tdiv (gc m))) * gc m := Nat.mul_le_mul_right _ (by omega); omega
  · rw [if_neg h]; omega
theorem Vz (M : List (List Int)) (j : Nat) (r : List Int) (k : Nat) (hj : j < M.length) : lineAt (M.set j r) k = if k = j then r else lineAt M k := by
  unfold lineAt; rw [List.getD_eq_getElem?_getD, List.getElem?_set, List.getD_eq_getElem?_getD]; by_cases h : j = k
  · subst h; rw [if_pos rfl, if_pos rfl, if_pos hj]; rfl
  · rw [if_neg h, if_neg (fun e => h e.symm)]
theorem ZN (M : List (List Int)) (k : Nat) (h : M.length ≤ k) : lineAt M k = [] := by
  unfold lineAt; rw [List.getD_eq_getElem?_getD, List.getElem?_eq_none h]; rfl
theorem UP (i top : Nat) : ∀ (d j : Nat) (M : List (List Int)), j + d ≤ M.length → (∀ k, j ≤ k → k < j + d → k ≠ top → (lineAt M k).getD i 0 ≠ 0 → Okc ((lineAt M top).getD i 0) ((lineAt M k).getD i 0) (lineAt M k) (lineAt M top)) →
    ∃ M', elims i top d j M = some M' ∧ M'.length = M.length ∧ ∀ k, lineAt M' k = if j ≤ k ∧ k < j + d ∧ k ≠ top then upd i (lineAt M top) (lineAt M k) else lineAt M k
  | 0, j, M, _, _ => ⟨M, rfl, rfl, fun k => by rw [if_neg (by omega)]⟩
  | d + 1, j, M, hl, hok => by
    have h1 : elim i top j M = some (M.set j (if j = top then lineAt M j else upd i (lineAt M top) (lineAt M j))) := by
      have hself : M.set j (lineAt M j) = M := by
        rw [ZY M j (by omega)]; exact List.set_getElem_self _
      unfold elim; by_cases c : j = top
      · rw [if_pos (.inl c), if_pos c, hself]
      · rw [if_neg c]; unfold upd; by_cases c2 : (lineAt M j).getD i 0 = 0
        · rw [if_pos (.inr c2), if_pos c2, hself]
        · rw [if_neg (by rintro (h | h); exact c h; exact c2 h), if_neg c2, if_pos (hok j (Nat.le_refl _) (by omega) c c2)]
    have hst : ∀ k, lineAt (M.set j (if j = top then lineAt M j else upd i (lineAt M top) (lineAt M j))) k = if k = j ∧ k ≠ top then upd i (lineAt M top) (lineAt M k) else lineAt M k := fun k => by
      rw [Vz M j _ k (by omega)]; by_cases c : k = j
      · subst c; rw [if_pos rfl]; by_cases c2 : k = top
        · rw [if_pos c2, if_neg (fun h => h.2 c2)]
        · rw [if_neg c2, if_pos ⟨rfl, c2⟩]
      · rw [if_neg c, if_neg (fun h => c h.1)]
    obtain ⟨M', e, l, hk⟩ := UP i top d (j + 1) (M.set j (if j = top then lineAt M j else upd i (lineAt M top) (lineAt M j))) (by rw [List.length_set]; omega) (fun k h2 h3 h4 h5 => by
      rw [hst top, if_neg (fun h => h.2 rfl), hst k, if_neg (by omega)]; rw [hst k, if_neg (by omega)] at h5; exact hok k (by omega) (by omega) h4 h5)
    refine ⟨M', by rw [elims, h1]; exact e, by rw [l, List.length_set], fun k => ?_⟩; have htop : lineAt (M.set j (if j = top then lineAt M j else upd i (lineAt M top) (lineAt M j))) top = lineAt M top := by rw [hst top, if_neg (fun h => h.2 rfl)]
    rw [hk k, htop, hst k]; by_cases c : j + 1 ≤ k ∧ k < j + 1 + d ∧ k ≠ top
    · rw [if_pos c, if_neg (by omega), if_pos (by omega)]
    · rw [if_neg c]; by_cases c2 : k = j ∧ k ≠ top
      · rw [if_pos c2, if_pos (by omega)]
      · rw [if_neg c2, if_neg (by omega)]
theorem fst_neg (i : Nat) : ∀ (rows : List (List Int)), fst i rows < 0 → ∀ k, (lineAt rows k).getD i 0 = 0
  | [], _, k => by rw [ZN _ _ (by simp)]; rfl
  | r :: l, h, k => by
    rw [fst] at h; by_cases c : r.getD i 0 = 0
    · rw [if_neg (fun hh => hh c)] at h; cases k with
      | zero => exact c
      | succ k =>
        refine fst_neg i l ?_ k; by_cases c2 : fst i l < 0
        · exact c2
        · rw [if_neg c2] at h; omega
    · rw [if_pos c] at h; omega
theorem fst_pos (i : Nat) : ∀ (rows : List (List Int)), ¬ fst i rows < 0 → (lineAt rows (fst i rows).toNat).getD i 0 ≠ 0
  | [], h => absurd (show fst i [] < 0 by simp [fst]) h
  | r :: l, h => by
    rw [fst] at h ⊢; by_cases c : r.getD i 0 = 0
    · rw [if_neg (fun hh => hh c)] at h ⊢; by_cases c2 : fst i l < 0
      · rw [if_pos c2] at h; omega
      · rw [if_neg c2]; have := fst_pos i l c2; rw [show (fst i l + 1).toNat = (fst i l).toNat + 1 by omega]; exact this
    · rw [if_pos c]; exact c
def Bn : Nat → Nat
  | 0 => 9
  | 1 => 81
  | n + 2 => 2 * (Bn (n + 1) * Bn (n + 1))
theorem bn_ok : ∀ p, p ≤ 3 → Bn p * Bn p ≤ 2305843009213693952 := by decide +kernel
theorem bn_pos : ∀ p, p ≤ 3 → 1 ≤ Bn p := by decide +kernel
def fn (r : List Int) : Nat → Int := fun j => r.getD j 0
def Sp (M : List (List Int)) (v : Nat → Int) : Prop := ∃ b, v = fn (lineAt M b)
structure Inv (s : Nat → Int) (M0 : List (List Int)) (n : Nat) (M : List (List Int)) (Q : List Nat) : Prop where
  len : M.length = M0.length
  six : Six M
  ql : Q.length ≤ M.length
  inc : Q.Pairwise (· < ·)
  lt : ∀ q ∈ Q, q < n
  piv : ∀ a c : Nat, Q[a]? = some c → (lineAt M a).getD c 0 ≠ 0
  zer : ∀ a c : Nat, Q[a]? = some c → ∀ b, b ≠ a → (lineAt M b).getD c 0 = 0
  low : ∀ b, Q.length ≤ b → ∀ c, c < n → (lineAt M b).getD c 0 = 0
  bd : ∀ b j, ((lineAt M b).getD j 0).natAbs ≤ Bn Q.length
  sg : Q.length = 0 → ∀ b, Sgd s (lineAt M b)
  pr : ∀ b, (∀ j, ((lineAt M b).getD j 0).natAbs ≤ 9) ∨ gc (lineAt M b) ≤ 1
  g1 : ∀ b, Gen (Sp M0) (fn (lineAt M b))
  g2 : ∀ b, Gen (Sp M) (fn (lineAt M0 b))
theorem Ug (M : List (List Int)) (p k : Nat) : lineAt (M.drop p) k = lineAt M (p + k) := by
  unfold lineAt; rw [List.getD_eq_getElem?_getD, List.getElem?_drop, List.getD_eq_getElem?_getD]
theorem app_at (Q : List Nat) (n a c : Nat) (h : (Q ++ [n])[a]? = some c) : (a < Q.length ∧ Q[a]? = some c) ∨ (a = Q.length ∧ c = n) := by
  by_cases ha : a < Q.length
  · rw [List.getElem?_append_left ha] at h; exact .inl ⟨ha, h⟩
  · rw [List.getElem?_append_right (by omega)] at h; by_cases h0 : a - Q.length = 0
    · rw [h0] at h; exact .inr ⟨by omega, by simpa using h.symm⟩
    · rw [List.getElem?_eq_none (by simp; omega)] at h; cases h
theorem bd_mem {r : List Int} {B : Nat} (h : ∀ j, (r.getD j 0).natAbs ≤ B) : ∀ a ∈ r, a.natAbs ≤ B := fun a ha => by
  obtain ⟨i, hi, rfl⟩ := List.mem_iff_getElem.1 ha; have := h i; rw [getD_some hi] at this; exact this
theorem line6 {M : List (List Int)} (h : Six M) (k : Nat) (hk : k < M.length) : (lineAt M k).length = 6 := by
  rw [ZY M k hk]; exact h _ (List.getElem_mem hk)
theorem gen_upd {S : (Nat → Int) → Prop} {r t u : List Int} {g p q : Int} (hg : g ≠ 0) (hj : ∀ j, p * r.getD j 0 + (-q) * t.getD j 0 = g * u.getD j 0) (hr : Gen S (fn r)) (ht : Gen S (fn t)) : Gen S (fn u) :=
  .quot g hg (.comb p (-q) hr ht) (fun j => hj j)
theorem gen_dn {S : (Nat → Int) → Prop} {r t u : List Int} {g p q : Int} (hp : p ≠ 0) (hj : ∀ j, p * r.getD j 0 + (-q) * t.getD j 0 = g * u.getD j 0) (hu : Gen S (fn u)) (ht : Gen S (fn t)) : Gen S (fn r) :=
  .quot p hp (.comb g q hu ht) (fun j => by
    have := hj j; rw [Int.neg_mul] at this; show g * u.getD j 0 + q * t.getD j 0 = p * r.getD j 0
    omega)
def Four (M0 : List (List Int)) : Prop := M0.length ≤ 4 ∨ ∀ b j, 4 ≤ j → (lineAt M0 b).getD j 0 = 0
theorem Inv.col {s : Nat → Int} {M0 : List (List Int)} {n : Nat} {M : List (List Int)} {Q : List Nat} (h : Inv s M0 n M Q) {j : Nat} (hj : ∀ b, (lineAt M0 b).getD j 0 = 0) (b : Nat) : (lineAt M b).getD j 0 = 0 :=
  UL (fun v => v j) (fun a u b v => rfl) (fun v hv => by obtain ⟨b, rfl⟩ := hv; exact hj b) (h.g1 b)
theorem Inv.VW {s : Nat → Int} {M0 : List (List Int)} {n : Nat} {M : List (List Int)} {Q : List Nat} (h : Inv s M0 n M Q) : Q.length ≤ n := YP n Q (h.inc.imp (fun h => by omega)) h.lt
theorem step_inv {s : Nat → Int} (hs : ∀ j, s j = 1 ∨ s j = -1) {M0 : List (List Int)} (h4 : Four M0) {n : Nat} {M : List (List Int)} {Q : List Nat} (h : Inv s M0 n M Q) :
    ∃ M' Q', stepc n M (Q.map (fun x : Nat => (x : Int))) = some (M', Q'.map (fun x : Nat => (x : Int))) ∧ Inv s M0 (n + 1) M' Q' := by
  unfold stepc; rw [List.length_map]; by_cases c : fst n (M.drop Q.length) < 0
  · rw [if_pos c]; refine ⟨M, Q, rfl, ⟨h.len, h.six, h.ql, h.inc, fun q hq => Nat.lt_succ_of_lt (h.lt q hq), h.piv, h.zer, fun b hb x hx => ?_, h.bd, h.sg, h.pr, h.g1, h.g2⟩⟩; by_cases hx2 : x < n
    · exact h.low b hb x hx2
    · have := fst_neg n _ c (b - Q.length); rw [Ug, show Q.length + (b - Q.length) = b by omega] at this; rw [show x = n by omega]; exact this
  · rw [if_neg c]; have hq := fst_pos n _ c; have hlt := fst_lt n (M.drop Q.length); rw [List.length_drop] at hlt; rw [Ug] at hq; generalize (fst n (M.drop Q.length)).toNat = q at *; have hpq : Q.length + q < M.length := by
      by_cases hh : Q.length + q < M.length
      · exact hh
      · rw [ZN M _ (by omega)] at hq; exact absurd (ZR (by simp)) hq
    clear hlt c; have hm := h.len; have hk1 : ∀ k, lineAt (swp M Q.length (Q.length + q)) k = if k = Q.length + q then lineAt M Q.length else if k = Q.length then lineAt M (Q.length + q) else lineAt M k := fun k => by
      unfold swp; rw [Vz _ _ _ k (by rw [List.length_set]; exact hpq), Vz _ _ _ k (by omega)]
    have htop : lineAt (swp M Q.length (Q.length + q)) Q.length = lineAt M (Q.length + q) := by
      rw [hk1]; by_cases h0 : Q.length = Q.length + q
      · rw [if_pos h0, ← h0]
      · rw [if_neg h0, if_pos rfl]
    have hrow : ∀ k, k < M.length → k ≠ Q.length → ∃ k', k' < M.length ∧ lineAt (swp M Q.length (Q.length + q)) k = lineAt M k' ∧ (k < Q.length → k' = k) ∧ (Q.length ≤ k → Q.length ≤ k') ∧ (∀ a, a < Q.length → k ≠ a → k' ≠ a) := fun k hk hkp => by
      rw [hk1]; by_cases h0 : k = Q.length + q
      · rw [if_pos h0]; exact ⟨Q.length, by omega, rfl, by omega, by omega, by omega⟩
      · rw [if_neg h0, if_neg hkp]; exact ⟨k, hk, rfl, fun _ => rfl, fun x => x, fun a _ x => x⟩
    have hQ3 : Q.length ≤ 3 := by
      rcases h4 with h4 | h4
      · omega
      · by_cases c : 4 ≤ n
        · exact absurd (h.col (fun b => h4 b n c) _) hq
        · have := h.VW; omega
    have hB := bn_ok Q.length (by omega); have hB1 := bn_pos Q.length (by omega); have ht6 := line6 h.six _ hpq; obtain ⟨M', e, l, hk⟩ := UP n Q.length M.length 0 (swp M Q.length (Q.length + q)) (by rw [Y3]; omega) (fun k _ h2 h3 _ => by
      obtain ⟨k', _, hk', _⟩ := hrow k (by omega) h3; rw [htop, hk']; constructor
      · intro a ha; have := nmul (bd_mem (h.bd k') a ha) (h.bd (Q.length + q) n); omega
      · intro a ha; have := nmul (bd_mem (h.bd (Q.length + q)) a ha) (h.bd k' n); omega)
    rw [Y3] at l; have hp' : lineAt M' Q.length = lineAt M (Q.length + q) := by rw [hk, if_neg (by omega), htop]
    have hn' : ∀ k, M.length ≤ k → lineAt M' k = [] := fun k hk' => ZN _ _ (by omega)
    have hu' : ∀ k, k < M.length → k ≠ Q.length → lineAt M' k = upd n (lineAt M (Q.length + q)) (lineAt (swp M Q.length (Q.length + q)) k) := fun k h1 h2 => by rw [hk, if_pos (by omega), htop]
    refine ⟨M', Q ++ [n], by rw [e, List.map_append]; rfl, ?_⟩; have tz : ∀ a x : Nat, Q[a]? = some x → (lineAt M (Q.length + q)).getD x 0 = 0 := fun a x hx => by
      obtain ⟨ha, -⟩ := List.getElem?_eq_some_iff.1 hx; exact h.zer a x hx _ (by omega)
    have key : ∀ k, k < M.length → k ≠ Q.length → ∃ k', k' < M.length ∧ (k < Q.length → k' = k) ∧ (Q.length ≤ k → Q.length ≤ k') ∧ (∀ a, a < Q.length → k ≠ a → k' ≠ a) ∧ lineAt (swp M Q.length (Q.length + q)) k = lineAt M k' ∧ lineAt M' k = upd n (lineAt M (Q.length + q)) (lineAt M k') ∧ ∃ g p r : Int, g ≠ 0 ∧ p ≠ 0 ∧ (∀ j, p * (lineAt M k').getD j 0 + (-r) * (lineAt M (Q.length + q)).getD j 0 = g * (lineAt M' k).getD j 0) ∧ (lineAt M' k).getD n 0 = 0 := fun k h1 h2 => by
      obtain ⟨k', a1, a2, a3, a4, a5⟩ := hrow k h1 h2; have hu := hu' k h1 h2; rw [a2] at hu; obtain ⟨g, p, r, b1, b2, b3, b4⟩ := upd_spec n (t := lineAt M (Q.length + q)) (r := lineAt M k') (by rw [ht6, line6 h.six _ a1]) hq; rw [← hu] at b3 b4; exact ⟨k', a1, a3, a4, a5, a2, hu, g, p, r, b1, b2, b3, b4⟩
    have hz0 : ∀ {g y : Int}, g ≠ 0 → 0 = g * y → y = 0 := fun hg hy => by
      rcases Int.mul_eq_zero.1 hy.symm with h2 | h2
      · exact absurd h2 hg
      · exact h2
    have lenQ : (Q ++ [n]).length = Q.length + 1 := by simp
    refine ⟨by omega, ?_, by rw [lenQ]; omega, ?_, ?_, ?_, ?_, ?_, ?_, by rw [lenQ]; omega, ?_, ?_, ?_⟩
    · intro r hr; obtain ⟨k, hkl, rfl⟩ := List.mem_iff_getElem.1 hr; rw [← ZY M' k hkl]; by_cases hkp : k = Q.length
      · rw [hkp, hp', ht6]
      · obtain ⟨k', a1, -, -, -, -, a6, -⟩ := key k (by omega) hkp; rw [a6, upd_length _ (by rw [ht6, line6 h.six _ a1]), line6 h.six _ a1]
    · rw [List.pairwise_append]; exact ⟨h.inc, by simp, fun a ha b hb => by rw [List.mem_singleton.1 hb]; exact h.lt a ha⟩
    · intro x hx; rcases List.mem_append.1 hx with hx | hx
      · exact Nat.lt_succ_of_lt (h.lt x hx)
      · rw [List.mem_singleton.1 hx]; omega
    · intro a x hx; rcases app_at _ _ _ _ hx with ⟨ha, hx⟩ | ⟨rfl, rfl⟩
      · obtain ⟨k', a1, a3, a4, a5, a2, a6, g, p, r, b1, b2, b3, b4⟩ := key a (by omega) (by omega); intro h0; have := b3 x; rw [tz a x hx, h0, Int.mul_zero, Int.mul_zero, Int.add_zero, a3 ha] at this; exact h.piv a x hx (hz0 b2 this.symm)
      · rw [hp']; exact hq
    · intro a x hx b hb; by_cases hbl : b < M.length
      · rcases app_at _ _ _ _ hx with ⟨ha, hx⟩ | ⟨rfl, rfl⟩
        · by_cases hbp : b = Q.length
          · rw [hbp, hp']; exact tz a x hx
          · obtain ⟨k', a1, a3, a4, a5, a2, a6, g, p, r, b1, b2, b3, b4⟩ := key b hbl hbp; have := b3 x; rw [tz a x hx, h.zer a x hx k' (a5 a ha hb), Int.mul_zero, Int.mul_zero, Int.add_zero] at this; exact hz0 b1 this
        · obtain ⟨k', a1, a3, a4, a5, a2, a6, g, p, r, b1, b2, b3, b4⟩ := key b hbl hb; exact b4
      · rw [hn' b (by omega)]; exact ZR (by simp)
    · intro b hb x hx; rw [lenQ] at hb; by_cases hbl : b < M.length
      · obtain ⟨k', a1, a3, a4, a5, a2, a6, g, p, r, b1, b2, b3, b4⟩ := key b hbl (by omega); by_cases hxn : x < n
        · have := b3 x; rw [h.low k' (a4 (by omega)) x hxn, h.low _ (by omega) x hxn, Int.mul_zero, Int.mul_zero, Int.add_zero] at this; exact hz0 b1 this
        · rw [show x = n by omega]; exact b4
      · rw [hn' b (by omega)]; exact ZR (by simp)
    · intro b j; rw [lenQ]; have hmono : Bn Q.length ≤ Bn (Q.length + 1) := by
        cases hQ : Q.length with
        | zero => decide
        | succ p =>
          have hb0 := bn_pos (p + 1) (by omega); have : Bn (p + 1) ≤ Bn (p + 1) * Bn (p + 1) := Nat.le_mul_of_pos_left _ hb0; show Bn (p + 1) ≤ 2 * (Bn (p + 1) * Bn (p + 1))
          omega
      by_cases hbl : b < M.length
      · by_cases hbp : b = Q.length
        · rw [hbp, hp']; exact Nat.le_trans (h.bd _ _) hmono
        · obtain ⟨k', a1, a3, a4, a5, a2, a6, -⟩ := key b hbl hbp; rw [a6]; have hl : (lineAt M k').length = (lineAt M (Q.length + q)).length := by rw [ht6, line6 h.six _ a1]
          cases hQ : Q.length with
          | zero =>
            have h1 := h.bd k'; have h2 := h.bd (Q.length + q); have hb9 : Bn Q.length = 9 := by rw [hQ]; rfl
            rw [hb9] at h1 h2; have := upd_bd1 n hl 9 h1 h2 (by omega) s hs (h.sg hQ k') (h.sg hQ _) j; rw [hQ] at this; exact this
          | succ p =>
            have h1 := h.bd k'; have h2 := h.bd (Q.length + q); have := upd_bd n hl (Bn Q.length) h1 h2 hB1 j; rw [hQ] at this; exact this
      · rw [hn' b (by omega)]; simp
    · intro b; by_cases hbl : b < M.length
      · by_cases hbp : b = Q.length
        · rw [hbp, hp']; exact h.pr _
        · obtain ⟨k', a1, a3, a4, a5, a2, a6, -⟩ := key b hbl hbp; rw [a6]; unfold upd; split
          · exact h.pr _
          · exact .inr (gc_pln _)
      · rw [hn' b (by omega)]; exact .inl (by simp)
    · intro b; by_cases hbl : b < M.length
      · by_cases hbp : b = Q.length
        · rw [hbp, hp']; exact h.g1 _
        · obtain ⟨k', a1, a3, a4, a5, a2, a6, g, p, r, b1, b2, b3, b4⟩ := key b hbl hbp; exact gen_upd b1 b3 (h.g1 k') (h.g1 _)
      · rw [hn' b (by omega)]; exact .zero
    · intro b; refine Jm (fun v hv => ?_) (h.g2 b); obtain ⟨k, rfl⟩ := hv; have ht : Gen (Sp M') (fn (lineAt M (Q.length + q))) := .base ⟨Q.length, by rw [hp']⟩; have hk2 : ∀ k, k < M.length → k ≠ Q.length → Gen (Sp M') (fn (lineAt (swp M Q.length (Q.length + q)) k)) := fun k hkl hkp => by
        obtain ⟨k', a1, a3, a4, a5, a2, a6, g, p, r, b1, b2, b3, b4⟩ := key k hkl hkp; rw [a2]; exact gen_dn b2 b3 (.base ⟨k, rfl⟩) ht
      by_cases hkl : k < M.length
      · by_cases e1 : k = Q.length + q
        · rw [e1]; exact ht
        · by_cases e2 : k = Q.length
          · have := hk2 (Q.length + q) hpq (by omega); rw [hk1, if_pos rfl] at this; rw [e2]; exact this
          · have := hk2 k hkl e2; rw [hk1, if_neg e1, if_neg e2] at this; exact this
      · rw [ZN M k (by omega)]; exact .zero
theorem redc_inv {s : Nat → Int} (hs : ∀ j, s j = 1 ∨ s j = -1) {M0 : List (List Int)} (h4 : Four M0) : ∀ (d n : Nat) (M : List (List Int)) (Q : List Nat), Inv s M0 n M Q →
    ∃ M' Q', redc d n M (Q.map (fun x : Nat => (x : Int))) = some (M', Q'.map (fun x : Nat => (x : Int))) ∧ Inv s M0 (n + d) M' Q'
  | 0, n, M, Q, h => ⟨M, Q, rfl, h⟩
  | d + 1, n, M, Q, h => by
    obtain ⟨M1, Q1, e1, h1⟩ := step_inv hs h4 h; obtain ⟨M2, Q2, e2, h2⟩ := redc_inv hs h4 d (n + 1) M1 Q1 h1; refine ⟨M2, Q2, ?_, by rw [show n + (d + 1) = n + 1 + d by omega]; exact h2⟩; rw [redc, e1]; exact e2
theorem red_inv {s : Nat → Int} (hs : ∀ j, s j = 1 ∨ s j = -1) {M0 : List (List Int)} (h4 : Four M0) (h6 : Six M0) (hb : ∀ b j, ((lineAt M0 b).getD j 0).natAbs ≤ 9) (hg : ∀ b, Sgd s (lineAt M0 b)) :
    ∃ M Q, red M0 = some (M, Q.map (fun x : Nat => (x : Int))) ∧ Inv s M0 6 M Q := by
  have := redc_inv hs h4 6 0 M0 [] ⟨rfl, h6, by simp, by simp, by simp, by simp, by simp, by simp, hb, fun _ => hg, fun b => .inl (hb b), fun b => .base ⟨b, rfl⟩, fun b => .base ⟨b, rfl⟩⟩; exact this
variable {K : Type}
theorem van_more {r : Nat} {S : (K → Int) → Prop} (h : Van r S) : ∀ d, Van (r + d) S
  | 0 => h
  | d + 1 => van_up (van_more h d)
theorem perm_zero {n : Nat} {f : List (K → Int) → Int} (hl : Lin n f) (ha : Alt n f) {l1 l2 : List (K → Int)} (hp : l1.Perm l2) : ∀ p, p.length + l1.length = n → (f (p ++ l1) = 0 ↔ f (p ++ l2) = 0) := by
  induction hp with
  | nil => exact fun p _ => Iff.rfl
  | cons x hp ih =>
    intro p e; have := ih (p ++ [x]) (by simp at e ⊢; omega); simpa using this
  | swap x y l =>
    intro p e; rw [swap hl ha p l y x (by simpa [Nat.add_assoc] using e)]; omega
  | trans h1 h2 i1 i2 =>
    intro p e; rw [i1 p e, i2 p (by rw [← h1.length_eq]; exact e)]
theorem sp_list (M : List (List Int)) : ∀ (I : List (Nat → Int)), (∀ v ∈ I, Sp M v) → ∃ l : List Nat, I = l.map fun b => fn (lineAt M b)
  | [], _ => ⟨[], rfl⟩
  | v :: I, h => by
    obtain ⟨b, rfl⟩ := h v (List.mem_cons_self ..); obtain ⟨l, rfl⟩ := sp_list M I (fun u hu => h u (List.mem_cons_of_mem _ hu)); exact ⟨b :: l, rfl⟩
theorem VM : ∀ (l : List Nat), l.Pairwise (· ≤ ·) → l.Nodup → l.Pairwise (· < ·)
  | [], _, _ => .nil
  | a :: l, h, hn => by
    rw [List.pairwise_cons] at h ⊢; rw [List.nodup_cons] at hn; exact ⟨fun b hb => Nat.lt_of_le_of_ne (h.1 b hb) (fun e => hn.1 (e ▸ hb)), VM l h.2 hn.2⟩
theorem Js {J : List Nat} {M : List (List Int)} {I : List (Nat → Int)} (hI : I.length = J.length) (hS : ∀ v ∈ I, Sp M v) (hd : det J I ≠ 0) :
    ∃ l : List Nat, l.Pairwise (· < ·) ∧ (∀ b ∈ l, b < M.length) ∧ l.length = J.length ∧ det J (l.map fun b => fn (lineAt M b)) ≠ 0 := by
  obtain ⟨l, rfl⟩ := sp_list M I hS; have hlen : l.length = J.length := by simpa using hI
  have hb : ∀ b ∈ l, b < M.length := fun b hb => by
    by_cases c : b < M.length
    · exact c
    · exfalso
      obtain ⟨p, q, rfl⟩ := List.append_of_mem hb; apply hd; rw [List.map_append, List.map_cons, ZN M b (by omega)]; refine zero_row (Y9 J) _ _ ?_; simp at hlen ⊢; omega
  have hn : l.Nodup := by
    by_cases c : l.Nodup
    · exact c
    · exfalso
      obtain ⟨p, a, q, s, rfl⟩ := Yz l c; apply hd; rw [List.map_append, List.map_cons, List.map_append, List.map_cons]; refine VB (Y9 J) (Ur J) _ _ _ _ ?_; simp at hlen ⊢; omega
  have hp : (l.mergeSort (fun a b => decide (a ≤ b))).Perm l := List.mergeSort_perm l _; have hso : (l.mergeSort (fun a b => decide (a ≤ b))).Pairwise (· ≤ ·) := by
    have := List.pairwise_mergeSort (le := fun a b : Nat => decide (a ≤ b)) (fun a b c h1 h2 => by simp at h1 h2 ⊢; omega) (fun a b => by simp; omega) l; exact this.imp (fun h => by simpa using h)
  refine ⟨_, VM _ hso (hp.nodup_iff.2 hn), fun b hbm => hb b (hp.mem_iff.1 hbm), by rw [hp.length_eq, hlen], fun h0 => hd ?_⟩; have := perm_zero (Y9 J) (Ur J) (hp.map (fun b => fn (lineAt M b))) [] (by simp [hlen]); exact this.1 h0
theorem JG {Q : List Nat} {a c : Nat} (h : Q[a]? = some c) : Q.drop a = c :: Q.drop (a + 1) := by
  obtain ⟨ha, rfl⟩ := List.getElem?_eq_some_iff.1 h; exact List.drop_eq_getElem_cons ha
theorem Jk {s : Nat → Int} {M0 M : List (List Int)} {n : Nat} {Q : List Nat} (h : Inv s M0 n M Q) : ∀ (d a : Nat), a + d = Q.length → Det.Steps (Q.drop a) ((List.range' a d).map fun k => fn (lineAt M k))
  | 0, a, e => by
    rw [List.drop_eq_nil_of_le (by omega)]; exact True.intro
  | d + 1, a, e => by
    have hq : Q[a]? = some Q[a] := List.getElem?_eq_getElem (by omega); rw [JG hq, List.range'_succ, List.map_cons]; refine ⟨h.piv a _ hq, fun u hu => ?_, Jk h d (a + 1) (by omega)⟩; obtain ⟨k, hk, rfl⟩ := List.mem_map.1 hu; exact h.zer a _ hq k (by rw [List.mem_range'_1] at hk; omega)
theorem Jl {s : Nat → Int} {M0 M : List (List Int)} {n : Nat} {Q : List Nat} (h : Inv s M0 n M Q) :
    ∃ l : List Nat, l.Pairwise (· < ·) ∧ (∀ b ∈ l, b < M0.length) ∧ l.length = Q.length ∧ det Q (l.map fun b => fn (lineAt M0 b)) ≠ 0 := by
  have h1 : det Q ((List.range' 0 Q.length).map fun k => fn (lineAt M k)) ≠ 0 := U8 _ _ (by
    have := Jk h Q.length 0 (by omega); rwa [List.drop_zero] at this)
  by_cases hex : ∃ I : List (Nat → Int), I.length = Q.length ∧ (∀ v ∈ I, Sp M0 v) ∧ det Q I ≠ 0
  · obtain ⟨I, a, b, c⟩ := hex; exact Js a b c
  · exfalso
    have hz : ∀ I : List (Nat → Int), I.length = Q.length → (∀ v ∈ I, Sp M0 v) → det Q I = 0 := fun I a b => by
      by_cases c : det Q I = 0
      · exact c
      · exact absurd ⟨I, a, b, c⟩ hex
    have := UK (Y9 Q) hz ((List.range' 0 Q.length).map fun k => fn (lineAt M k)) [] (by simp) (fun v hv => by
      obtain ⟨k, -, rfl⟩ := List.mem_map.1 hv; exact h.g1 k) (by simp)
    rw [List.append_nil] at this; exact h1 this
theorem JC {s : Nat → Int} {M0 M : List (List Int)} {Q : List Nat} (h : Inv s M0 6 M Q) (d : Nat) : Van (Q.length + 1 + d) (Sp M0) := by
  refine van_more ?_ d; have hR := van_short ((List.range Q.length).map fun k => fn (lineAt M k)); rw [List.length_map, List.length_range] at hR; refine van_gen hR (fun v hv => ?_); obtain ⟨b, rfl⟩ := hv; refine Jm (fun u hu => ?_) (h.g2 b); obtain ⟨k, rfl⟩ := hu; by_cases hk : k < Q.length
  · exact .base (List.mem_map.2 ⟨k, List.mem_range.2 hk, rfl⟩)
  · have hz : fn (lineAt M k) = fun _ => 0 := by
      funext j
      by_cases hj : j < 6
      · exact h.low k (by omega) j hj
      · by_cases hkl : k < M.length
        · exact ZR (by rw [line6 h.six k hkl]; omega)
        · rw [ZN M k (by omega)]; exact ZR (by simp)
    rw [hz]; exact .zero
def el (e : Nat) : List Int → Int := fun c => c.getD e 0
def Dn : Nat → Nat
  | 0 => 1
  | n + 1 => (n + 1) * (9 * Dn n)
def Small (X : List (List Int)) (js : List Nat) : Prop := ∀ c ∈ X, ∀ e ∈ js, e < c.length ∧ (c.getD e 0).natAbs ≤ 9
theorem det_bd : ∀ (X : List (List Int)) (js : List Nat), js.length = X.length → Small X js → (det X (js.map el)).natAbs ≤ Dn X.length
  | [], js, _, _ => by rw [det]; exact Nat.le_refl _
  | c :: X, js, hl, hs => by
    have hX : Small X js := fun d hd => hs d (List.mem_cons_of_mem _ hd)
    have key : ∀ (post pre : List Nat), pre ++ post = js → (sgn (det X) c (pre.map el) (post.map el)).natAbs ≤ post.length * (9 * Dn X.length) := by
      intro post; induction post with
      | nil => intro pre _; rw [List.map_nil, sgn]; simp
      | cons e post ih =>
        intro pre hp; have h1 := ih (pre ++ [e]) (by simpa using hp); have h2 := det_bd X (pre ++ post) (by rw [← hp] at hl; simp at hl ⊢; omega) (fun d hd x hx => hX d hd x (by rw [← hp]; rcases List.mem_append.1 hx with h | h <;> simp [h])); have h3 := (hs c (List.mem_cons_self ..) e (by rw [← hp]; simp)).2; rw [List.map_cons, sgn, List.length_cons, ← List.map_append]; rw [List.map_append] at h1; have h4 := nmul (x := el e c) h3 h2; rw [Nat.add_mul, Nat.one_mul]; have h5 : (sgn (det X) c (pre.map el ++ [el e]) (post.map el)).natAbs ≤ post.length * (9 * Dn X.length) := h1; omega
    have := key js [] rfl; rw [det, List.length_cons, Dn]; rw [hl, List.length_cons] at this; exact this
theorem dn_ok : ∀ n, n ≤ 3 → Dn n ≤ 4374 := by decide +kernel
theorem obs {α β : Type} (a : α) (f : α → Option β) : (some a).bind f = f a := by simp
theorem wstep {sum sg v D : Int} {p : Nat} (hsg : sg = 1 ∨ sg = -1) (hv : v.natAbs ≤ 9) (hD : D.natAbs ≤ 4374) (hs : sum.natAbs ≤ 40000 * p) (hp : p ≤ 4) : wrap64 (sum + wrap64 (wrap64 (sg * v) * D)) = sum + sg * v * D ∧ (sum + sg * v * D).natAbs ≤ 40000 * (p + 1) ∧ wrap64 (-sg) = -sg ∧ (-sg = 1 ∨ -sg = -1) := by
  have h1 : (sg * v).natAbs ≤ 9 := by rcases hsg with rfl | rfl <;> omega
  have h2 := nmul h1 hD; generalize sg * v = y at *; rw [wrp (x := y) (by omega) (by omega)]; generalize y * D = z at *; rw [wrp (x := z) (by omega) (by omega), wrp (x := sum + z) (by omega) (by omega)]; exact ⟨rfl, by omega, wrp (by omega) (by omega), by omega⟩
theorem eestep (sum sg v D S : Int) : sum + sg * (v * D - S) = sum + sg * v * D + -sg * S := by
  rw [Int.mul_sub, Int.neg_mul, Int.mul_assoc]; omega
theorem det_ev : ∀ (X : List (List Int)) (js : List Nat), js.length = X.length → X.length ≤ 4 → Small X js →
    Ev (fun k => Qf.f k X (js.map fun e : Nat => (e : Int))) (det X (js.map el))
  | [], js, hl, _, _ => by
    have : js = [] := List.eq_nil_of_length_eq_zero (by simpa using hl); subst this; refine Ev.step (fun k => by rw [Qf.f]) ?_; simp only [List.map_nil, List.length_nil, show ((0 : Nat) : Int) = 0 from rfl, if_true]; exact Ev.now _
  | c :: X, js, hl, h4, hs => by
    rw [List.length_cons] at hl h4; have hX : Small X js := fun d hd => hs d (List.mem_cons_of_mem _ hd)
    have hjl : js.length ≤ 4 := by omega
    have hdn := dn_ok X.length (by omega); have key : ∀ (post pre : List Nat) (sum sg : Int), pre ++ post = js → (sg = 1 ∨ sg = -1) → sum.natAbs ≤ 40000 * pre.length →
        Ev (fun k => Qf.l0 k (c :: X) (js.map fun e : Nat => (e : Int)) sum sg (pre.length : Int)) (sum + sg * sgn (det X) c (pre.map el) (post.map el)) := by
      intro post; induction post with
      | nil =>
        intro pre sum sg hp hsg hsum; rw [List.append_nil] at hp; subst hp; refine Ev.step (fun k => by rw [Qf.l0]) ?_; rw [List.map_nil, sgn, Int.mul_zero, Int.add_zero]; simp only [List.length_map, show ¬ ((pre.length : Int) < (pre.length : Int)) by omega, if_false]; exact Ev.now _
      | cons e post ih =>
        intro pre sum sg hp hsg hsum; have hlen : pre.length + post.length + 1 = js.length := by rw [← hp]; simp; omega
        have hpp : Small X (pre ++ post) := fun d hd x hx => hX d hd x (by rw [← hp]; rcases List.mem_append.1 hx with h | h <;> simp [h])
        have hd := det_ev X (pre ++ post) (by simp; omega) (by omega) hpp; have hb : (det X ((pre ++ post).map el)).natAbs ≤ 4374 := Nat.le_trans (det_bd X (pre ++ post) (by simp; omega) hpp) hdn; obtain ⟨he, h9⟩ := hs c (List.mem_cons_self ..) e (by rw [← hp]; simp); have f1 : ((pre.length : Int) < (js.length : Int)) := by omega
        have f2 : ((pre.length : Int) ≤ (js.length : Int)) := by omega
        have f3 : (((pre.length + 1 : Nat) : Int) ≤ (js.length : Int)) := by omega
        have f4 : 0 + pre.length < 17592186044416 := by omega
        have f5 : pre.length + post.length < 17592186044416 := by omega
        have f6 : ((e : Int) < (c.length : Int)) := by omega
        have f7 : (0 : Int) < ((X.length + 1 : Nat) : Int) := by omega
        have f9 : pre.length ≤ 4 := by omega
        have f8 : (1 : Int) ≤ ((X.length + 1 : Nat) : Int) := by omega
        have htake : (js.map fun e : Nat => (e : Int)).take pre.length = pre.map fun e : Nat => (e : Int) := by
          rw [← hp, List.map_append, List.take_left' (by simp)]
        have hdrop : (js.map fun e : Nat => (e : Int)).drop (pre.length + 1) = post.map fun e : Nat => (e : Int) := by
          rw [← hp, List.map_append, List.map_cons, ← List.singleton_append, ← List.append_assoc, List.drop_left' (by simp)]
        have hat : (js.map fun e : Nat => (e : Int)).getD pre.length 0 = (e : Int) := by
          rw [← hp, List.map_append, List.map_cons, List.getD_eq_getElem?_getD, List.getElem?_append_right (by simp)]; simp
        have hw : wrap64 ((pre.length : Int) + 1) = ((pre.length + 1 : Nat) : Int) := by rw [wrp (by omega) (by omega)]; omega
        refine Ev.step (fun k => by rw [Qf.l0]) ?_; simp only [List.length_map, f1, if_true]; simp only [obs]; simp only [List.nil_append, List.length_nil, hw]; simp only [Int.toNat_natCast, htake, hdrop, List.length_map]; simp only [Int.natCast_nonneg, f2, f3, f4, f5, if_true, rdn, hat, rdL0, List.length_cons, f6, f7, f8, List.getD_cons_zero, List.drop_succ_cons, List.drop_zero]; rw [List.map_append] at hd; refine Ev.bind hd ?_; have hce : c.getD e 0 = el e c := rfl; rw [hce] at h9 ⊢; obtain ⟨w1, w2, w3, w4⟩ := wstep hsg h9 hb hsum f9; rw [w1, w3, List.map_cons, sgn, ← List.map_append, eestep]; have := ih (pre ++ [e]) _ (-sg) (by simpa using hp) w4 (by rw [List.length_append, List.length_singleton]; exact w2); have e1 : (pre ++ [e]).map el = pre.map el ++ [el e] := by simp
        rw [List.length_append, List.length_singleton, e1] at this; exact this
    refine Ev.step (fun k => by rw [Qf.f]) ?_; have h0 : ¬ ((js.length : Int) = 0) := by omega
    simp only [List.length_map, h0, if_false]; have := key js [] 0 1 rfl (.inl rfl) (by simp); rw [List.length_nil, Int.zero_add, Int.one_mul, List.map_nil] at this; rw [det]; exact this
theorem sgn_map {K L : Type} (g : K → L) (f : List (L → Int) → Int) (f' : List (K → Int) → Int) (h : ∀ R, f R = f' (R.map fun v => v ∘ g)) (j : K) : ∀ (post pre : List (L → Int)), sgn f (g j) pre post = sgn f' j (pre.map fun v => v ∘ g) (post.map fun v => v ∘ g)
  | [], pre => by rw [sgn, List.map_nil, sgn]
  | v :: post, pre => by
    rw [sgn, List.map_cons, sgn, h, sgn_map g f f' h j post (pre ++ [v]), List.map_append, List.map_append]; rfl
theorem JJ {K L : Type} (g : K → L) : ∀ (J : List K) (I : List (L → Int)), det (J.map g) I = det J (I.map fun v => v ∘ g)
  | [], I => by rw [List.map_nil, det, det]
  | j :: J, I => by
    rw [List.map_cons, det, det, sgn_map g _ _ (fun R => JJ g J R) j I []]; rfl
theorem pick_l0 (X : List (List Int)) (js : List Nat) (hj : ∀ e ∈ js, e < X.length) (h6 : js.length ≤ 1000) : ∀ (d n : Nat) (out : List (List Int)), n + d = js.length → out.length = n →
    Ev (fun k => Zb.l0 k X (js.map fun e : Nat => (e : Int)) out (n : Int)) (out ++ (js.drop n).map fun e => X.getD e []) := by
  intro d; induction d with
  | zero =>
    intro n out hn ho; refine Ev.step (fun k => by rw [Zb.l0]) ?_; rw [List.drop_eq_nil_of_le (by omega)]; simp only [List.length_map, show ¬ ((n : Int) < (js.length : Int)) by omega, if_false, List.map_nil, List.append_nil]; exact Ev.now _
  | succ d ih =>
    intro n out hn ho; have h1 : n < js.length := by omega
    have he := hj _ (List.getElem_mem h1); have hat : (js.map fun e : Nat => (e : Int)).getD n 0 = (js[n] : Int) := by
      rw [Q6 _ n _ (by simpa using h1), List.getElem_map]
    refine Ev.step (fun k => by rw [Zb.l0]) ?_; rw [List.drop_eq_getElem_cons h1, List.map_cons]; simp only [List.length_map, show ((n : Int) < (js.length : Int)) by omega, show (0 : Int) ≤ (n : Int) by omega, if_true, rdn, hat, show (0 : Int) ≤ (js[n] : Int) by omega, show ((js[n] : Int) < (X.length : Int)) by omega, show out.length < 5864062014805 by omega, rdL]; rw [Zz (m := js.length) h1 (by omega)]; have := ih (n + 1) (out ++ [X.getD js[n] []]) (by omega) (by simp; omega); rw [List.append_assoc] at this; exact this
theorem pick_ev (X : List (List Int)) (js : List Nat) (hj : ∀ e ∈ js, e < X.length) (h6 : js.length ≤ 1000) : Ev (fun k => Zb.f k X (js.map fun e : Nat => (e : Int))) (js.map fun e => X.getD e []) := by
  unfold Zb.f; have := pick_l0 X js hj h6 js.length 0 [] (by omega) rfl; rw [List.drop_zero, List.nil_append] at this; exact this
theorem lines_l0 (X : List (List Int)) (m : Nat) (h0 : 0 < X.length) (hm : (X.getD 0 []).length = m) (h4 : m ≤ 1000) : ∀ (d n : Nat), n + d = m →
    Ev (fun k => Q9.l0 k X ((List.range n).map fun e : Nat => (e : Int)) (n : Int)) ((List.range m).map fun e : Nat => (e : Int)) := by
  intro d; induction d with
  | zero =>
    intro n hn; have hnm : n = m := by omega
    refine Ev.step (fun k => by rw [Q9.l0]) ?_; simp only [show (0 : Int) < (X.length : Int) by omega, if_true, rdL0, hm, show ¬ ((n : Int) < (m : Int)) by omega, if_false]; rw [hnm]; exact Ev.now _
  | succ d ih =>
    intro n hn; refine Ev.step (fun k => by rw [Q9.l0]) ?_; simp only [show (0 : Int) < (X.length : Int) by omega, if_true, rdL0, hm, show ((n : Int) < (m : Int)) by omega, List.length_map, List.length_range, show n < 17592186044416 by omega]; rw [Zz (m := m) (by omega) (by omega)]; have := ih (n + 1) (by omega); rw [List.range_succ, List.map_append] at this; exact this
theorem lines_ev (X : List (List Int)) (m : Nat) (h0 : 0 < X.length) (hm : (X.getD 0 []).length = m) (h4 : m ≤ 1000) : Ev (fun k => Q9.f k X) ((List.range m).map fun e : Nat => (e : Int)) := by
  unfold Q9.f; have := lines_l0 X m h0 hm h4 m 0 (by omega); exact this
section
variable {s : Nat → Int} {M0 M : List (List Int)} {Q : List Nat} {n : Nat}
def Wid (n : Nat) (M0 : List (List Int)) : Prop := ∀ b j, n ≤ j → (lineAt M0 b).getD j 0 = 0
theorem Inv.ech (h : Inv s M0 6 M Q) (hn : n ≤ 6) (hz : Wid n M0) : Ech n (fun b => fn (lineAt M b)) Q where
  inc := h.inc
  lt q hq := by
    by_cases c : q < n
    · exact c
    · obtain ⟨a, ha⟩ := Ech.idx hq; exact absurd (h.col (fun b => hz b q (by omega)) a) (h.piv a q ha)
  piv := h.piv
  zer := h.zer
  low b hb c hc := h.low b hb c (by omega)
theorem Inv.ker (h : Inv s M0 6 M Q) (v : Nat → Int) : Ker n (Rws fun b => fn (lineAt M b)) v ↔ Ker n (Sp M0) v :=
  ⟨fun hv => ker_gen (S' := Sp M) (fun r hr => by obtain ⟨b, rfl⟩ := hr; exact h.g2 b) hv, fun hv => ker_gen (S := Sp M) (fun r hr => by obtain ⟨b, rfl⟩ := hr; exact h.g1 b) hv⟩
theorem Inv.one (h : Inv s M0 6 M Q) (hn : n ≤ 6) (hz : Wid n M0) : (∃ v, Gnr n (Ker n (Sp M0)) v) ↔ Q.length + 1 = n := by
  rw [← (h.ech hn hz).gnr_iff_len]; exact ⟨fun ⟨v, hv⟩ => ⟨v, Uq (fun v => (h.ker v).symm) hv⟩, fun ⟨v, hv⟩ => ⟨v, Uq (fun v => h.ker v) hv⟩⟩
theorem Inv.four (h : Inv s M0 6 M Q) (h4 : Four M0) : Q.length ≤ 4 := by
  rcases h4 with h4 | h4
  · have := h.ql; have := h.len; omega
  · exact (h.ech (n := 4) (by omega) h4).VW
theorem Inv.cof (h : Inv s M0 6 M Q) (h4 : Four M0) (hn : n ≤ 6) (hz : Wid n M0) (hl : Q.length + 1 = n) (h9 : ∀ b j, ((lineAt M0 b).getD j 0).natAbs ≤ 9) :
    ∃ l : List Nat, l.Pairwise (· < ·) ∧ (∀ b ∈ l, b < M0.length) ∧ l.length + 1 = n ∧ Gnr n (Ker n (Sp M0)) (Det.cof n (l.map fun b => fn (lineAt M0 b))) ∧ ∀ c, c < n → (Det.cof n (l.map fun b => fn (lineAt M0 b)) c).natAbs ≤ 157464 := by
  obtain ⟨l, h1, h2, h3, h5⟩ := Jl h; have hV := JC h 0; rw [Nat.add_zero, hl] at hV; have hI : (l.map fun b => fn (lineAt M0 b)).length + 1 = n := by rw [List.length_map]; omega
  have hS : ∀ v ∈ l.map fun b => fn (lineAt M0 b), Sp M0 v := fun v hv => by
    obtain ⟨b, -, rfl⟩ := List.mem_map.1 hv; exact ⟨b, rfl⟩
  have hk := cof_ker hV hI hS; have he := h.ech hn hz; obtain ⟨f, hf, hfQ⟩ := he.miss (by omega); have hQ : but n f = Q := inc_ext _ _ but_inc h.inc (fun x => by
    rw [mem_but hf]; constructor
    · rintro ⟨a, b⟩; rcases he.cover hl hf hfQ a with c | c
      · exact c
      · exact absurd c b
    · exact fun a => ⟨he.lt x a, fun e => hfQ (e ▸ a)⟩)
  have hcf : Det.cof n (l.map fun b => fn (lineAt M0 b)) f ≠ 0 := by
    unfold Det.cof; rw [hQ]; refine Int.mul_ne_zero ?_ h5; unfold sgx; split <;> omega
  refine ⟨l, h1, h2, by omega, Uq (fun v => h.ker v) (he.gnr1 hl hf hfQ ((h.ker _).2 hk) hcf), fun c hc => cof_le hI (by have := h.four h4; omega) (fun v hv j => ?_) hc⟩; obtain ⟨b, -, rfl⟩ := List.mem_map.1 hv; exact h9 b j
theorem Inv.cofs (h : Inv s M0 6 M Q) (hl : Q.length + 1 = n) (I : List (Nat → Int)) (hI : I.length + 1 = n) (hS : ∀ v ∈ I, Sp M0 v) : Ker n (Sp M0) (Det.cof n I) := by
  have hV := JC h 0; rw [Nat.add_zero, hl] at hV; exact cof_ker hV hI hS
end
theorem frg_spec : ∀ (d f : Nat) (P : List Int) (x : Nat), f ≤ x → x < f + d → (x : Int) ∉ P → ((frg d f P : Nat) : Int) ∉ P ∧ frg d f P ≤ x
  | 0, f, P, x, h1, h2, _ => by omega
  | d + 1, f, P, x, h1, h2, h3 => by
    rw [frg]; by_cases c : (f : Int) ∈ P
    · rw [if_pos c]; exact frg_spec d (f + 1) P x (by
        have : x ≠ f := fun e => h3 (e ▸ c)
        omega) (by omega) h3
    · rw [if_neg c]; exact ⟨c, h1⟩
theorem lcm_step {a e B : Int} (ha : a ≠ 0) (he : e ≠ 0) (h1 : a ∣ B) (h2 : e ∣ B) : a.tdiv (Int.gcd a e) * e ∣ B ∧ a ∣ a.tdiv (Int.gcd a e) * e ∧ e ∣ a.tdiv (Int.gcd a e) * e ∧ a.tdiv (Int.gcd a e) * e ≠ 0 := by
  have hg : (Int.gcd a e : Int) ∣ a := Int.gcd_dvd_left ..; have hg2 : (Int.gcd a e : Int) ∣ e := Int.gcd_dvd_right ..; have hg0 : (Int.gcd a e : Int) ≠ 0 := fun h => ha (Int.gcd_eq_zero_iff.1 (by exact_mod_cast h)).1
  have ea := Int.mul_tdiv_cancel' hg; have hab : (a.tdiv (Int.gcd a e) * e).natAbs = Nat.lcm a.natAbs e.natAbs := by
    rw [Int.natAbs_mul, Int.natAbs_tdiv, Int.natAbs_natCast]; show a.natAbs / Nat.gcd a.natAbs e.natAbs * e.natAbs = a.natAbs * e.natAbs / Nat.gcd a.natAbs e.natAbs
    rw [Nat.div_mul_right_comm (Nat.gcd_dvd_left ..)]
  have hd : ∀ x : Int, x ∣ a.tdiv (Int.gcd a e) * e ↔ x.natAbs ∣ Nat.lcm a.natAbs e.natAbs := fun x => by rw [← hab, Int.natAbs_dvd_natAbs]
  refine ⟨?_, (hd a).2 (Nat.dvd_lcm_left ..), (hd e).2 (Nat.dvd_lcm_right ..), ?_⟩
  · rw [← Int.natAbs_dvd_natAbs, hab]; exact Nat.lcm_dvd (Int.natAbs_dvd_natAbs.2 h1) (Int.natAbs_dvd_natAbs.2 h2)
  · intro h; rw [h] at hab; have := Nat.lcm_ne_zero (m := a.natAbs) (n := e.natAbs) (by omega) (by omega); exact this hab.symm
theorem Vp {a B : Int} (hB : B ≠ 0) (h : a ∣ B) : a.natAbs ≤ B.natAbs := Nat.le_of_dvd (by omega) (Int.natAbs_dvd_natAbs.2 h)
theorem alls_ok (B : Int) (hB : B ≠ 0) (hb : B.natAbs ≤ 400000000) : ∀ (l : List (List Int × Int)) (a : Int), a ≠ 0 → a ∣ B → (∀ x ∈ l, 0 ≤ x.2 ∧ x.2 < 6 ∧ x.1.getD x.2.toNat 0 ∣ B) → ∃ r, alls l a = some r ∧ r ≠ 0 ∧ r ∣ B ∧ a ∣ r ∧ ∀ x ∈ l, x.1.getD x.2.toNat 0 ∣ r
  | [], a, h0, h1, _ => ⟨a, rfl, h0, h1, Int.dvd_refl _, by simp⟩
  | x :: l, a, h0, h1, h => by
    obtain ⟨x1, x2, x3⟩ := h x (List.mem_cons_self ..); have he : x.1.getD x.2.toNat 0 ≠ 0 := fun e => by
      rw [e] at x3; exact hB (Int.zero_dvd.1 x3)
    obtain ⟨s1, s2, s3, s4⟩ := lcm_step h0 he h1 x3; obtain ⟨r, r1, r2, r3, r4, r5⟩ := alls_ok B hB hb l _ s4 s1 (fun y hy => h y (List.mem_cons_of_mem _ hy)); have b1 := Vp hB h1; have b2 := Vp hB x3; have b3 := Vp hB s1; have hg : Int.gcd a (x.1.getD x.2.toNat 0) ≠ 0 := fun h => h0 (Int.gcd_eq_zero_iff.1 h).1
    refine ⟨r, ?_, r2, r3, Int.dvd_trans s2 r4, fun y hy => ?_⟩
    · rw [alls, if_pos ⟨x1, x2, by unfold Lim; omega, by unfold Lim; omega, hg, by unfold Lim; omega⟩]; exact r1
    · rcases List.mem_cons.1 hy with rfl | hy
      · exact Int.dvd_trans s3 r4
      · exact r5 y hy
theorem outs_ok (f : Nat) (all : Int) (ha : Lim all) : ∀ (l : List (List Int × Int)) (o : List Int), (l.map (·.2)).Nodup → o.length = 6 →
    (∀ x ∈ l, 0 ≤ x.2 ∧ x.2 < 6 ∧ Lim (x.1.getD f 0) ∧ x.1.getD x.2.toNat 0 ≠ 0 ∧ Lim (-(x.1.getD f 0) * all.tdiv (x.1.getD x.2.toNat 0))) →
    ∃ r, outs f all l o = some r ∧ r.length = 6 ∧ (∀ x ∈ l, r.getD x.2.toNat 0 = -(x.1.getD f 0) * all.tdiv (x.1.getD x.2.toNat 0)) ∧ ∀ j : Nat, (∀ x ∈ l, x.2 ≠ (j : Int)) → r.getD j 0 = o.getD j 0
  | [], o, _, h6, _ => ⟨o, rfl, h6, by simp, fun _ _ => rfl⟩
  | x :: l, o, hn, h6, h => by
    obtain ⟨x1, x2, x3, x4, x5⟩ := h x (List.mem_cons_self ..); rw [List.map_cons, List.nodup_cons] at hn; obtain ⟨r, r1, r2, r3, r4⟩ := outs_ok f all ha l (o.set x.2.toNat (-(x.1.getD f 0) * all.tdiv (x.1.getD x.2.toNat 0))) hn.2 (by rw [List.length_set]; exact h6) (fun y hy => h y (List.mem_cons_of_mem _ hy)); refine ⟨r, ?_, r2, fun y hy => ?_, fun j hj => ?_⟩
    · rw [outs, if_pos ⟨x1, x2, ha, x3, x4, x5⟩]; exact r1
    · rcases List.mem_cons.1 hy with rfl | hy
      · rw [r4 y.2.toNat (fun z hz e => hn.1 (by
          rw [show y.2 = z.2 by omega]; exact List.mem_map.2 ⟨z, hz, rfl⟩)), List.getD_eq_getElem?_getD, List.getElem?_set, if_pos rfl, if_pos (by omega)]
        rfl
      · exact r3 y hy
    · rw [r4 j (fun z hz => hj z (List.mem_cons_of_mem _ hz)), List.getD_eq_getElem?_getD, List.getElem?_set, if_neg (fun e => hj x (List.mem_cons_self ..) (by omega)), List.getD_eq_getElem?_getD]
theorem dot_scal {n : Nat} {r u v : Nat → Int} {g : Int} (h : ∀ j, u j = g * v j) : dt n r u = g * dt n r v := by
  have : u = comb g v 0 v := by funext j; simp [comb, h j]
  rw [this, VO]; omega
theorem row_dvd {A B x y : Int} {h : Int} (hA : A ≠ 0) (e : A * x + B * y = 0) (hg : (Int.gcd A B : Int) ∣ h) : A ∣ h * y := by
  have g0 : Int.gcd A B ≠ 0 := fun h => hA (Int.gcd_eq_zero_iff.1 h).1
  have h1 : A ∣ (Int.gcd A B : Int) * y := by
    have e1 : A ∣ B * y := ⟨-x, by rw [Int.mul_neg]; omega⟩; have e2 : A ∣ A * y := ⟨y, rfl⟩; rw [← Int.natAbs_dvd_natAbs, Int.natAbs_mul] at e1 e2 ⊢; have := Nat.dvd_gcd e2 e1; rw [Nat.gcd_mul_right] at this; rw [Int.natAbs_natCast]; exact this
  obtain ⟨c, hc⟩ := hg; rw [hc, show (Int.gcd A B : Int) * c * y = c * ((Int.gcd A B : Int) * y) by grind]; exact Int.dvd_mul_of_dvd_right h1
theorem small_dvd : ∀ g : Nat, g < 10 → 0 < g → g ∣ 2520 := by decide
section
variable {s : Nat → Int} {M0 M : List (List Int)} {Q : List Nat} {n : Nat}
theorem gcd_row {r : List Int} {c f : Nat} (h9 : (∀ j, (r.getD j 0).natAbs ≤ 9) ∨ gc r ≤ 1) (hz : ∀ j, j ≠ c → j ≠ f → r.getD j 0 = 0) (h0 : r.getD c 0 ≠ 0) : (Int.gcd (r.getD c 0) (r.getD f 0) : Int) ∣ 2520 := by
  have hp : 0 < Int.gcd (r.getD c 0) (r.getD f 0) := Nat.pos_of_ne_zero fun h => h0 (Int.gcd_eq_zero_iff.1 h).1
  rcases h9 with h | h
  · have h1 := Nat.le_of_dvd (by omega) (Int.natAbs_dvd_natAbs.2 (Int.gcd_dvd_left (a := r.getD c 0) (b := r.getD f 0))); have h2 := h c; rw [Int.natAbs_natCast] at h1; exact Int.natCast_dvd_natCast.2 (small_dvd _ (by omega) hp)
  · have : ((Int.gcd (r.getD c 0) (r.getD f 0) : Nat) : Int) ∣ (gc r : Int) := V0 r 0 _ (by simp) (fun x hx => by
      obtain ⟨j, hj, rfl⟩ := List.mem_iff_getElem.1 hx; rw [← getD_some hj]; by_cases c1 : j = c
      · rw [c1]; exact Int.gcd_dvd_left ..
      · by_cases c2 : j = f
        · rw [c2]; exact Int.gcd_dvd_right ..
        · rw [hz j c1 c2]; exact Int.dvd_zero _)
    have h0' : gc r ≠ 0 := fun e => by
      have h3 := (Vk r 0).2 (r.getD c 0) (by
        by_cases hc : c < r.length
        · rw [getD_some hc]; exact List.getElem_mem hc
        · exact absurd (ZR (by omega)) h0)
      have h4 : ((gc r : Nat) : Int) ∣ r.getD c 0 := h3; rw [e] at h4; exact h0 (Int.zero_dvd.1 h4)
    have h1 : gc r = 1 := by omega
    rw [h1] at this; exact Int.dvd_trans this ⟨2520, rfl⟩
theorem bn_lim : ∀ p, p ≤ 4 → Bn p ≤ 4611686018427387904 := by decide +kernel
theorem nzi_nn : ∀ (l : List Int) (j : Nat), l.getD j 0 ≠ 0 → 0 ≤ nzi l ∧ (nzi l).toNat < l.length ∧ l.getD (nzi l).toNat 0 ≠ 0
  | [], j, h => absurd rfl h
  | x :: l, j, h => by
    rw [nzi]; by_cases c : x ≠ 0
    · rw [if_pos c]; exact ⟨by omega, by simp, by simpa using c⟩
    · rw [if_neg c]; cases j with
      | zero => exact absurd h (by simpa using c)
      | succ j =>
        obtain ⟨h1, h2, h3⟩ := nzi_nn l j (by simpa using h); rw [if_neg (by omega), show (nzi l + 1).toNat = (nzi l).toNat + 1 by omega]; exact ⟨by omega, by simpa using h2, by simpa using h3⟩
theorem Jp {α : Type} {R : List α} {Q : List Nat} (hl : R.length = Q.length) {x : α × Int} (hx : x ∈ R.zip (Q.map fun x : Nat => (x : Int))) : ∃ a c : Nat, Q[a]? = some c ∧ x.2 = (c : Int) ∧ R[a]? = some x.1 := by
  obtain ⟨a, ha, e⟩ := List.getElem_of_mem hx; rw [List.length_zip, List.length_map] at ha; rw [List.getElem_zip] at e; subst e; refine ⟨a, Q[a]'(by omega), List.getElem?_eq_getElem (by omega), by simp, List.getElem?_eq_getElem (by omega)⟩
theorem sol_one (h : Inv s M0 6 M Q) (h4 : Four M0) (hn : n ≤ 6) (hz : Wid n M0) (h9 : ∀ b j, ((lineAt M0 b).getD j 0).natAbs ≤ 9) (hl : Q.length + 1 = n) :
    ∃ r, sol (M.take Q.length) (Q.map fun x : Nat => (x : Int)) n = some (r, true) ∧ r.length = n ∧ Gnr n (Ker n (Sp M0)) (fn r) ∧ gc r = 1 ∧ 0 ≤ nzi r ∧ 0 < r.getD (nzi r).toNat 0 := by
  have he := h.ech hn hz; have h44 := h.four h4; obtain ⟨l, -, -, -, hg, hb⟩ := h.cof h4 hn hz hl h9; generalize Det.cof n (l.map fun b => fn (lineAt M0 b)) = v at hg hb; obtain ⟨f0, hf0, yv⟩ := he.miss (by omega); have hQi : ∀ x : Nat, (x : Int) ∈ Q.map (fun x : Nat => (x : Int)) ↔ x ∈ Q := fun x => by
    rw [List.mem_map]; exact ⟨fun ⟨y, hy, e⟩ => by rw [show x = y by omega]; exact hy, fun hx => ⟨x, hx, rfl⟩⟩
  obtain ⟨hfQ', hfle⟩ := frg_spec 7 0 (Q.map fun x : Nat => (x : Int)) f0 (by omega) (by omega) (fun hh => yv ((hQi f0).1 hh)); generalize hfr : frg 7 0 (Q.map fun x : Nat => (x : Int)) = f at *; have hf : f < n := by omega
  have hfQ : f ∉ Q := fun hh => hfQ' ((hQi f).2 hh)
  have hk := (h.ker v).2 hg.1; have kat : ∀ a c : Nat, Q[a]? = some c → (lineAt M a).getD c 0 * v c + (lineAt M a).getD f 0 * v f = 0 := fun a c ha => he.ker_at hl hf hfQ hk ha
  have hvf : v f ≠ 0 := fun e => by
    obtain ⟨j, hj, hj0⟩ := hg.2.1; rcases he.cover hl hf hfQ hj with c | c
    · obtain ⟨a, ha⟩ := Ech.idx c; have := kat a j ha; rw [e, Int.mul_zero, Int.add_zero] at this; rcases Int.mul_eq_zero.1 this with e | e
      · exact h.piv a j ha e
      · exact hj0 e
    · exact hj0 (by rw [c]; exact e)
  have hzero : ∀ a c : Nat, Q[a]? = some c → ∀ j, j ≠ c → j ≠ f → (lineAt M a).getD j 0 = 0 := fun a c ha j h1 h2 => by
    by_cases hj : j < n
    · rcases he.cover hl hf hfQ hj with x | x
      · obtain ⟨b, hb⟩ := Ech.idx x; exact h.zer b j hb a (fun e => h1 (by rw [e] at ha; rw [ha] at hb; exact (Option.some.inj hb).symm))
      · exact absurd x h2
    · exact h.col (fun b => hz b j (by omega)) a
  have hdv : ∀ a c : Nat, Q[a]? = some c → (lineAt M a).getD c 0 ∣ 2520 * v f := fun a c ha =>
    row_dvd (h.piv a c ha) (kat a c ha) (gcd_row (h.pr a) (hzero a c ha) (h.piv a c ha))
  have hB0 : 2520 * v f ≠ 0 := by omega
  have hvb := hb f hf; have hRl : (M.take Q.length).length = Q.length := by rw [List.length_take]; have := h.ql; omega
  have hR : ∀ a x, (M.take Q.length)[a]? = some x → x = lineAt M a := fun a x hx => by
    obtain ⟨ha, e⟩ := List.getElem?_eq_some_iff.1 hx; rw [← e, List.getElem_take]; exact (ZY M a _).symm
  obtain ⟨all, a1, a2, a3, -, a5⟩ := alls_ok (2520 * v f) hB0 (by omega) ((M.take Q.length).zip (Q.map fun x : Nat => (x : Int))) 1 (by omega) (Int.one_dvd _) (fun x hx => by
    obtain ⟨a, c, h1, h2, h3⟩ := Jp hRl hx; rw [h2, hR a _ h3]; have := he.lt c (List.mem_of_getElem? h1); exact ⟨by omega, by omega, by rw [Int.toNat_natCast]; exact hdv a c h1⟩)
  have hallb := Vp hB0 a3; have hall : Lim all := by unfold Lim; omega
  have alld : ∀ a c : Nat, Q[a]? = some c → (lineAt M a).getD c 0 ∣ all := fun a c ha => by
    obtain ⟨hal, e⟩ := List.getElem?_eq_some_iff.1 ha; have hm : (lineAt M a, (c : Int)) ∈ (M.take Q.length).zip (Q.map fun x : Nat => (x : Int)) := by
      refine List.mem_iff_getElem?.2 ⟨a, ?_⟩; have hMa : a < M.length := by have := h.ql; omega
      rw [List.getElem?_zip_eq_some]; refine ⟨?_, ?_⟩
      · rw [List.getElem?_take, if_pos hal, List.getElem?_eq_getElem hMa, ZY M a hMa]
      · rw [List.getElem?_map, ha]; rfl
    have := a5 _ hm; rwa [Int.toNat_natCast] at this
  have hval : ∀ a c : Nat, Q[a]? = some c → (-((lineAt M a).getD f 0) * all.tdiv ((lineAt M a).getD c 0)) * (lineAt M a).getD c 0 = -((lineAt M a).getD f 0) * all := fun a c ha => by
    rw [Int.mul_assoc, Int.tdiv_mul_cancel (alld a c ha)]
  have hvl : ∀ a c : Nat, Q[a]? = some c → (-((lineAt M a).getD f 0) * all.tdiv ((lineAt M a).getD c 0)) * v f = v c * all := fun a c ha => by
    refine Int.eq_of_mul_eq_mul_right (h.piv a c ha) ?_; have h1 := hval a c ha; have h2 := kat a c ha; rw [show (-((lineAt M a).getD f 0) * all.tdiv ((lineAt M a).getD c 0)) * v f * (lineAt M a).getD c 0 = ((-((lineAt M a).getD f 0) * all.tdiv ((lineAt M a).getD c 0)) * (lineAt M a).getD c 0) * v f by grind, h1, show v c * all * (lineAt M a).getD c 0 = ((lineAt M a).getD c 0 * v c) * all by grind, show (lineAt M a).getD c 0 * v c = -((lineAt M a).getD f 0 * v f) by omega]; grind
  have hvlim : ∀ a c : Nat, Q[a]? = some c → Lim (-((lineAt M a).getD f 0) * all.tdiv ((lineAt M a).getD c 0)) := fun a c ha => by
    have h1 := congrArg Int.natAbs (hvl a c ha); rw [Int.natAbs_mul, Int.natAbs_mul (v c)] at h1; have h2 := Nat.mul_le_mul (hb c (he.lt c (List.mem_of_getElem? ha))) hallb; have h3 : (-((lineAt M a).getD f 0) * all.tdiv ((lineAt M a).getD c 0)).natAbs * 1 ≤ (-((lineAt M a).getD f 0) * all.tdiv ((lineAt M a).getD c 0)).natAbs * (v f).natAbs := Nat.mul_le_mul_left _ (by omega); have h4 : 157464 * (2520 * v f).natAbs ≤ 157464 * 400000000 := Nat.mul_le_mul_left _ (by omega); unfold Lim; omega
  have hbl := bn_lim Q.length (by omega); obtain ⟨o, o1, o2, o3, o4⟩ := outs_ok f all hall ((M.take Q.length).zip (Q.map fun x : Nat => (x : Int))) (zeros6.set f all) (by
      rw [List.map_snd_zip (by rw [List.length_map]; omega)]; exact List.Pairwise.map _ (fun a b hab => by omega) he.nodup) (by rw [List.length_set]; rfl) (fun x hx => by
    obtain ⟨a, c, h1, h2, h3⟩ := Jp hRl hx; rw [h2, hR a _ h3, Int.toNat_natCast]; have := he.lt c (List.mem_of_getElem? h1); have hbb := h.bd a f; exact ⟨by omega, by omega, by unfold Lim; omega, h.piv a c h1, hvlim a c h1⟩)
  have oc : ∀ a c : Nat, Q[a]? = some c → o.getD c 0 = -((lineAt M a).getD f 0) * all.tdiv ((lineAt M a).getD c 0) := fun a c ha => by
    obtain ⟨hal, e⟩ := List.getElem?_eq_some_iff.1 ha; have hMa : a < M.length := by have := h.ql; omega
    have hm : (lineAt M a, (c : Int)) ∈ (M.take Q.length).zip (Q.map fun x : Nat => (x : Int)) := by
      refine List.mem_iff_getElem?.2 ⟨a, ?_⟩; rw [List.getElem?_zip_eq_some]; refine ⟨?_, ?_⟩
      · rw [List.getElem?_take, if_pos hal, List.getElem?_eq_getElem hMa, ZY M a hMa]
      · rw [List.getElem?_map, ha]; rfl
    have := o3 _ hm; rwa [Int.toNat_natCast] at this
  have hmemQ : ∀ x ∈ (M.take Q.length).zip (Q.map fun x : Nat => (x : Int)), ∀ j : Nat, j ∉ Q → x.2 ≠ (j : Int) := fun x hx j hj e => by
    obtain ⟨a, c, h1, h2, h3⟩ := Jp hRl hx; exact hj (by rw [show j = c by omega]; exact List.mem_of_getElem? h1)
  have of : o.getD f 0 = all := by
    rw [o4 f (fun x hx => hmemQ x hx f hfQ), List.getD_eq_getElem?_getD, List.getElem?_set, if_pos rfl, if_pos (by show f < 6; omega)]; rfl
  have oz : ∀ j, j ∉ Q → j ≠ f → o.getD j 0 = 0 := fun j h1 h2 => by
    rw [o4 j (fun x hx => hmemQ x hx j h1), List.getD_eq_getElem?_getD, List.getElem?_set, if_neg (fun e => h2 e.symm), ← List.getD_eq_getElem?_getD]; exact Uu j
  have olim : ∀ x ∈ o, Lim x := fun x hx => by
    obtain ⟨j, hj, rfl⟩ := List.mem_iff_getElem.1 hx; rw [← getD_some hj]; by_cases c : j ∈ Q
    · obtain ⟨a, ha⟩ := Ech.idx c; rw [oc a j ha]; exact hvlim a j ha
    · by_cases c2 : j = f
      · rw [c2, of]; exact hall
      · rw [oz j c c2]; unfold Lim; decide
  have ok : Ker n (Rws fun b => fn (lineAt M b)) (fn o) := he.ker1 hf hfQ (fun j _ h1 h2 => oz j h1 h2) (fun a c ha => by
    show (lineAt M a).getD c 0 * o.getD c 0 + (lineAt M a).getD f 0 * o.getD f 0 = 0
    rw [oc a c ha, of, Int.mul_comm, hval a c ha, Int.neg_mul]; omega)
  obtain ⟨g, hg0, hgj⟩ := Jx o; have p6 : (pln o).length = 6 := by rw [YO, o2]
  have pz : ∀ j, o.getD j 0 = 0 → (pln o).getD j 0 = 0 := fun j e => by
    have := (hgj j).1; rw [e] at this; rcases Int.mul_eq_zero.1 this.symm with x | x
    · exact absurd x hg0
    · exact x
  have pf : (pln o).getD f 0 ≠ 0 := fun e => by
    have := (hgj f).1; rw [e, of, Int.mul_zero] at this; exact a2 this
  have pk : Ker n (Rws fun b => fn (lineAt M b)) (fn (pln o)) := fun r hr => by
    have := ok r hr; rw [dot_scal (u := fn o) (v := fn (pln o)) (fun j => (hgj j).1)] at this; rcases Int.mul_eq_zero.1 this with x | x
    · exact absurd x hg0
    · exact x
  have hPout : ∀ j, n ≤ j → (pln o).getD j 0 = 0 := fun j hj => pz j (oz j (fun hq => by have := he.lt j hq; omega) (by omega))
  have tk : ∀ j, ((pln o).take n).getD j 0 = (pln o).getD j 0 := fun j => by
    by_cases hj : j < n
    · rw [List.getD_eq_getElem?_getD, List.getElem?_take, if_pos hj, List.getD_eq_getElem?_getD]
    · rw [hPout j (by omega)]; exact ZR (by rw [List.length_take]; omega)
  have hnz := nzi_nn ((pln o).take n) f (by rw [tk]; exact pf); have neg : ∀ j, (((pln o).map fun x => -x).take n).getD j 0 = -(pln o).getD j 0 := fun j => by
    rw [← List.map_take, ← tk j, List.getD_eq_getElem?_getD, List.getElem?_map, List.getD_eq_getElem?_getD]; cases ((pln o).take n)[j]? <;> simp
  have gc1 : ∀ r : List Int, r.length = n → (∀ j, (r.getD j 0).natAbs = ((pln o).getD j 0).natAbs) → gc r = 1 := fun r hr hj => by
    have h1 : (gc r : Int) ∣ (gc (pln o) : Int) := V0 (pln o) 0 _ (by simp) (fun x hx => by
      obtain ⟨j, hjl, rfl⟩ := List.mem_iff_getElem.1 hx; rw [← getD_some hjl]; by_cases c : j < n
      · have : (gc r : Int) ∣ r.getD j 0 := (Vk r 0).2 _ (by rw [getD_some (by omega)]; exact List.getElem_mem _); rw [← Int.natAbs_dvd_natAbs] at this ⊢; rw [← hj j]; exact this
      · rw [hPout j (by omega)]; exact Int.dvd_zero _)
    have h2 := gc_pln o; have h3 : gc (pln o) ≠ 0 := fun e => by
      have h4 : (gc (pln o) : Int) ∣ (pln o).getD f 0 := (Vk (pln o) 0).2 _ (by rw [getD_some (by omega)]; exact List.getElem_mem _); rw [e] at h4; exact pf (Int.zero_dvd.1 h4)
    rw [show gc (pln o) = 1 by omega] at h1; exact Nat.dvd_one.1 (Int.natCast_dvd_natCast.1 h1)
  have gn : ∀ r : List Int, (∃ c : Int, c ≠ 0 ∧ ∀ j, r.getD j 0 = c * (pln o).getD j 0) → Gnr n (Ker n (Sp M0)) (fn r) := fun r hr => by
    obtain ⟨c, hc0, hc⟩ := hr; refine Uq (fun v => h.ker v) (he.gnr1 hl hf hfQ (fun x hx => ?_) ?_)
    · rw [dot_scal (u := fn r) (v := fn (pln o)) (fun j => hc j), pk x hx, Int.mul_zero]
    · show r.getD f 0 ≠ 0
      rw [hc f]; exact Int.mul_ne_zero hc0 pf
  have hfin : ∃ r, fin o n = some r ∧ r.length = n ∧ Gnr n (Ker n (Sp M0)) (fn r) ∧ gc r = 1 ∧ 0 ≤ nzi r ∧ 0 < r.getD (nzi r).toNat 0 := by
    unfold fin; rw [if_pos ⟨olim, hnz.1⟩]; refine ⟨_, rfl, ?_⟩; by_cases c : (pln o).getD (nzi ((pln o).take n)).toNat 0 < 0
    · rw [if_pos c]; have hn2 : ∀ (l : List Int), nzi (l.map fun x => -x) = nzi l := fun l => by
        induction l with
        | nil => rfl
        | cons x l ih => simp [nzi, ih]
      have e2 : nzi (((pln o).map fun x => -x).take n) = nzi ((pln o).take n) := by rw [← List.map_take, hn2]
      refine ⟨by rw [List.length_take, List.length_map]; omega, gn _ ⟨-1, by omega, fun j => by rw [neg]; omega⟩, gc1 _ (by rw [List.length_take, List.length_map]; omega) (fun j => by rw [neg, Int.natAbs_neg]), by rw [e2]; exact hnz.1, ?_⟩; rw [e2, neg]; omega
    · rw [if_neg c]; refine ⟨by rw [List.length_take]; omega, gn _ ⟨1, by omega, fun j => by rw [tk]; omega⟩, gc1 _ (by rw [List.length_take]; omega) (fun j => by rw [tk]), hnz.1, ?_⟩; have := hnz.2.2; rw [tk] at this ⊢; omega
  obtain ⟨r, r1, r2⟩ := hfin; refine ⟨r, ?_, r2⟩; unfold sol; rw [List.length_map, if_neg (by omega), hfr, if_pos ⟨fun hh => hfQ ((hQi f).1 hh), by omega, hRl⟩, a1]; simp only [Option.bind_some]; rw [o1]; simp only [Option.bind_some]; rw [r1]; rfl
theorem sol_none (h : Inv s M0 6 M Q) (hl : Q.length + 1 ≠ n) : sol (M.take Q.length) (Q.map fun x : Nat => (x : Int)) n = some ([], false) := by
  unfold sol; rw [List.length_map, if_pos (by omega)]
end
theorem getD_map0 (l : List (List Int)) (k j : Nat) : (l.map fun c => c.getD k 0).getD j 0 = (l.getD j []).getD k 0 := by
  rw [List.getD_eq_getElem?_getD, List.getElem?_map, List.getD_eq_getElem?_getD (l := l)]; cases l[j]? <;> simp
theorem lineOf_cols (I O : List (List Int)) (hO : ∀ c ∈ O, Atoms c) (k : Nat) : I.map (fun c => c.getD k 0) ++ O.map (fun c => wrap64 (-(c.getD k 0))) = (cols I O).map fun c => c.getD k 0 := by
  unfold cols; rw [List.map_append, List.map_map]; congr 1; refine List.map_congr_left fun c hc => ?_
  show wrap64 (-(c.getD k 0)) = (negc c).getD k 0
  have := VS (hO c hc) k; rw [Un (hO c hc), wrp (by omega) (by omega)]
theorem pad_getD (l : List Int) (j : Nat) : (pad l).getD j 0 = l.getD j 0 := by
  unfold pad; by_cases h : j < l.length
  · rw [List.getD_eq_getElem?_getD, List.getElem?_append_left h, List.getD_eq_getElem?_getD]
  · rw [ZR (l := l) (by omega), List.getD_eq_getElem?_getD, List.getElem?_append_right (by omega), List.getElem?_replicate]; split <;> rfl
theorem JB (I O : List (List Int)) (hO : ∀ c ∈ O, Atoms c) (k : Nat) : fn (lineOf I O k) = el k ∘ fun j => (cols I O).getD j [] := by
  funext j
  show (lineOf I O k).getD j 0 = ((cols I O).getD j []).getD k 0
  unfold lineOf; rw [pad_getD, lineOf_cols I O hO k, getD_map0]
def csn (n : Nat) (j : Nat) : Int := if j < n then 1 else -1
theorem csn_one (n j : Nat) : csn n j = 1 ∨ csn n j = -1 := by
  unfold csn; split
  · exact .inl rfl
  · exact .inr rfl
theorem Y5 (I O : List (List Int)) (hI : ∀ c ∈ I, Atoms c) (hO : ∀ c ∈ O, Atoms c) (k j : Nat) : 0 ≤ csn I.length j * (lineOf I O k).getD j 0 ∧ ((lineOf I O k).getD j 0).natAbs ≤ 9 := by
  have h1 : (lineOf I O k).getD j 0 = ((cols I O).getD j []).getD k 0 := congrFun (JB I O hO k) j; rw [h1]; unfold cols csn; by_cases c : j < I.length
  · rw [if_pos c, Q6 _ j _ (by simp; omega), List.getElem_append_left c]; have := VS (hI _ (List.getElem_mem c)) k; omega
  · rw [if_neg c]; by_cases c2 : j < I.length + O.length
    · rw [Q6 _ j _ (by simp; omega), List.getElem_append_right (by omega), List.getElem_map]; have hm : O[j - I.length]'(by omega) ∈ O := List.getElem_mem _; have := VS (hO _ hm) k; rw [Un (hO _ hm)]; omega
    · rw [show (I ++ O.map negc).getD j [] = [] by rw [List.getD_eq_getElem?_getD, List.getElem?_eq_none (by simp; omega)]; rfl]; simp
end Go.Proofs.Ytdneelgnmnpanaa.P
end
section
namespace Go.Proofs.Ytdneelgnmnpanaa.P
open Go.RowKit Go.Proofs.YtdneelgnmnpanaaW.PrintWords
set_option maxRecDepth 100000
def bits (m : Nat) : List Nat := (List.range 6).filter fun i => m.testBit i
def chs (n r : Nat) : List Nat := (List.range (2 ^ n)).filter fun m => (bits m).length == r
def toI (l : List Nat) : List Int := l.map fun e : Nat => (e : Int)
theorem list_dec : ∀ m : Nat, m < 64 → Qt.f 10 (m : Int) = some (toI (bits m)) := by decide +kernel
theorem choose_dec : ∀ n : Nat, n < 7 → ∀ r : Nat, r < 7 → Qw.f 80 (n : Int) (r : Int) = some (toI (chs n r)) := by decide +kernel
theorem JA {m : Nat} (h : m < 64) : Ev (fun k => Qt.f k (m : Int)) (toI (bits m)) := Ev.of (fun k => Qt.mono _ k) (k := 10) (list_dec m h)
theorem V2 {n r : Nat} (h : n < 7) (h2 : r < 7) : Ev (fun k => Qw.f k (n : Int) (r : Int)) (toI (chs n r)) := Ev.of (fun k => Qw.mono _ _ k) (k := 80) (choose_dec n h r h2)
def msk (l : List Nat) : Nat := (l.map fun i => 2 ^ i).sum
def subs : List Nat → List (List Nat)
  | [] => [[]]
  | a :: l => subs l ++ (subs l).map (a :: ·)
theorem mem_subs {l r : List Nat} (h : l.Sublist r) : l ∈ subs r := by
  induction h with
  | slnil => simp [subs]
  | cons a _ ih => exact List.mem_append_left _ ih
  | cons_cons a _ ih => exact List.mem_append_right _ (List.mem_map.2 ⟨_, ih, rfl⟩)
theorem Vw : ∀ (d a : Nat) (l : List Nat), l.Pairwise (· < ·) → (∀ x ∈ l, a ≤ x ∧ x < a + d) → l.Sublist (List.range' a d)
  | _, _, [], _, _ => List.nil_sublist _
  | 0, a, x :: l, _, h => by
    have := h x (List.mem_cons_self ..); omega
  | d + 1, a, x :: l, hp, h => by
    rw [List.range'_succ]; have hx := h x (List.mem_cons_self ..); rw [List.pairwise_cons] at hp; by_cases c : x = a
    · subst c; exact (Vw d (x + 1) l hp.2 (fun y hy => by have := hp.1 y hy; have := h y (List.mem_cons_of_mem _ hy); omega)).cons_cons x
    · refine .cons a (Vw d (a + 1) (x :: l) (List.pairwise_cons.2 hp) (fun y hy => ?_)); have h1 := h y hy; rcases List.mem_cons.1 hy with rfl | hy
      · omega
      · have := hp.1 y hy; omega
theorem subs_dec : ∀ n : Nat, n < 7 → ∀ l ∈ subs (List.range n), msk l < 2 ^ n ∧ bits (msk l) = l := by decide +kernel
theorem Uk : ∀ n : Nat, n < 7 → ∀ m : Nat, m < 2 ^ n → ∀ i ∈ bits m, i < n := by decide +kernel
theorem VR : ∀ m : Nat, m < 64 → (bits m).Pairwise (· < ·) := by decide +kernel
theorem Up {n : Nat} (h : n < 7) {l : List Nat} (hp : l.Pairwise (· < ·)) (hb : ∀ x ∈ l, x < n) : msk l ∈ chs n l.length ∧ bits (msk l) = l := by
  have hm := mem_subs (Vw n 0 l hp (fun x hx => ⟨Nat.zero_le _, by have := hb x hx; omega⟩)); rw [← List.range_eq_range'] at hm; obtain ⟨h1, h2⟩ := subs_dec n h l hm; exact ⟨List.mem_filter.2 ⟨List.mem_range.2 h1, by rw [h2]; exact beq_self_eq_true _⟩, h2⟩
theorem YW {n r m : Nat} (h : n < 7) (hm : m ∈ chs n r) : m < 64 ∧ (bits m).length = r ∧ (bits m).Pairwise (· < ·) ∧ ∀ i ∈ bits m, i < n := by
  obtain ⟨h1, h2⟩ := List.mem_filter.1 hm; have h3 := List.mem_range.1 h1; have h4 : 2 ^ n ≤ 2 ^ 6 := Nat.pow_le_pow_right (by omega) (by omega); have h5 : m < 64 := by omega
  exact ⟨h5, eq_of_beq h2, VR m h5, Uk n h m h3⟩
end Go.Proofs.Ytdneelgnmnpanaa.P
end
section
namespace Go.Proofs.Ytdneelgnmnpanaa.P
open Go.RowKit Go.Proofs.YtdneelgnmnpanaaW.PrintWords Go.Proofs.Det
def mnr (X : List (List Int)) (js : List Nat) (c q : Nat) : Int := det ((bits c).map fun e => X.getD e []) (((bits q).map fun e => js.getD e 0).map el)
theorem rr_l3 (X : List (List Int)) (js : List Nat) (r c : Nat) (cs rs : List Int) (i j : Int) (q : Nat) (hq : (bits q).length ≤ 1000) (hql : ∀ e ∈ bits q, e < js.length) (R : Int)
    (hend : Ev (fun k => Qp.l3 k X (toI js) r cs rs i j (toI ((bits q).map fun e => js.getD e 0)) (toI (bits q)) ((bits q).length : Int) ((bits q).length : Int)) R) : ∀ (d t : Nat), t + d = (bits q).length →
    Ev (fun k => Qp.l3 k X (toI js) r cs rs i j (toI (((bits q).take t).map fun e => js.getD e 0)) (toI (bits q)) ((bits q).length : Int) (t : Int)) R := by
  intro d; induction d with
  | zero =>
    intro t ht; rw [List.take_of_length_le (by omega), show t = (bits q).length by omega]; exact hend
  | succ d ih =>
    intro t ht; have h1 : t < (bits q).length := by omega
    have he := hql _ (List.getElem_mem h1); have hat : (toI (bits q)).getD t 0 = ((bits q)[t] : Int) := by
      rw [Q6 _ t _ (by simpa [toI] using h1)]; simp only [toI, List.getElem_map]
    have sR : (toI js).getD (bits q)[t] 0 = ((js.getD (bits q)[t] 0 : Nat) : Int) := by
      rw [Q6 _ _ _ (by simpa [toI] using he), Q6 _ _ _ he]; simp only [toI, List.getElem_map]
    have hl1 : (toI (bits q)).length = (bits q).length := by simp [toI]
    have hl2 : (toI js).length = js.length := by simp [toI]
    have hl3 : (toI (((bits q).take t).map fun e => js.getD e 0)).length = t := by simp [toI]; omega
    refine Ev.step (fun k => by rw [Qp.l3]) ?_; simp only [show ((t : Int) < ((bits q).length : Int)) by omega, show (0 : Int) ≤ (t : Int) by omega, if_true, hl1, rdn, hat, show (0 : Int) ≤ ((bits q)[t] : Int) by omega, hl2, show (((bits q)[t] : Int) < (js.length : Int)) by omega, hl3, show t < 17592186044416 by omega, sR]; rw [Zz (m := (bits q).length) h1 (by omega)]; have e1 : toI (((bits q).take t).map fun e => js.getD e 0) ++ [((js.getD (bits q)[t] 0 : Nat) : Int)] = toI (((bits q).take (t + 1)).map fun e => js.getD e 0) := by
      unfold toI; rw [List.take_succ_eq_append_getElem h1, List.map_append, List.map_append]; rfl
    rw [e1]; exact ih (t + 1) (by omega)
theorem rr_end (X : List (List Int)) (js : List Nat) (m r c q : Nat) (hjm : js.length = m) (hn : X.length < 7) (hm : m < 7) (h4 : r ≤ 4) (hX : Small X js) (hc : c ∈ chs X.length r) (hq : q ∈ chs m r) (cs rs : List Int) (i : Nat) (j : Int) (hi : i < cs.length) (hci : cs.getD i 0 = (c : Int)) (R : Int)
    (h : (mnr X js c q = 0 ∧ Ev (fun k => Qp.l2 k X (toI js) r cs rs (i : Int) (wrap64 (j + 1))) R) ∨ (mnr X js c q ≠ 0 ∧ R = r)) :
    Ev (fun k => Qp.l3 k X (toI js) r cs rs (i : Int) j (toI ((bits q).map fun e => js.getD e 0)) (toI (bits q)) ((bits q).length : Int) ((bits q).length : Int)) R := by
  obtain ⟨c1, c2, c3, c4⟩ := YW hn hc; obtain ⟨q1, q2, q3, q4⟩ := YW hm hq; refine Ev.step (fun k => by rw [Qp.l3]) ?_; have hlt : ¬ (((bits q).length : Int) < ((bits q).length : Int)) := by omega
  have hi0 : (0 : Int) ≤ (i : Int) := by omega
  have hi1 : ((i : Int) < (cs.length : Int)) := by omega
  simp only [hlt, if_false, hi0, hi1, if_true, rdn, hci]; refine Ev.bind (JA c1) ?_; refine Ev.bind (pick_ev X (bits c) c4 (by omega)) ?_; have hsm : Small ((bits c).map fun e => X.getD e []) ((bits q).map fun e => js.getD e 0) := fun d hd e he => by
    obtain ⟨x, hx, rfl⟩ := List.mem_map.1 hd; obtain ⟨y, hy, rfl⟩ := List.mem_map.1 he; rw [Q6 X x _ (c4 x hx), Q6 js y _ (by rw [hjm]; exact q4 y hy)]; exact hX _ (List.getElem_mem _) _ (List.getElem_mem _)
  have hdet := det_ev ((bits c).map fun e => X.getD e []) ((bits q).map fun e => js.getD e 0) (by rw [List.length_map, List.length_map, c2, q2]) (by rw [List.length_map, c2]; exact h4) hsm; refine Ev.bind hdet ?_; rcases h with ⟨h0, h1⟩ | ⟨h0, rfl⟩
  · unfold mnr at h0; simp only [h0, if_true]; exact h1
  · unfold mnr at h0; simp only [h0, if_false]; exact Ev.now _
theorem JN (n r : Nat) (h : n < 7) : (chs n r).length ≤ 64 := by
  unfold chs; refine Nat.le_trans (List.length_filter_le _ _) ?_; rw [List.length_range]; exact Nat.le_trans (Nat.pow_le_pow_right (by omega) (show n ≤ 6 by omega)) (by decide)
theorem Jr (l : List Nat) (i : Nat) (h : i < l.length) : (toI l).getD i 0 = (l[i] : Int) := by
  rw [Q6 _ i _ (by simpa [toI] using h)]; simp only [toI, List.getElem_map]
theorem Yh (l : List Nat) : (toI l).length = l.length := by simp [toI]
theorem rr_l2 (X : List (List Int)) (js : List Nat) (m r c : Nat) (hjm : js.length = m) (hn : X.length < 7) (hm : m < 7) (h4 : r ≤ 4) (hX : Small X js) (hc : c ∈ chs X.length r) (i : Nat) (hi : i < (chs X.length r).length) (hci : (chs X.length r)[i] = c) (R : Int) : ∀ (d j : Nat), j + d = (chs m r).length →
    ((∀ q ∈ (chs m r).drop j, mnr X js c q = 0) → Ev (fun k => Qp.l1 k X (toI js) r (toI (chs X.length r)) (toI (chs m r)) (wrap64 ((i : Int) + 1))) R) →
    ((∃ q ∈ (chs m r).drop j, mnr X js c q ≠ 0) → R = r) →
    Ev (fun k => Qp.l2 k X (toI js) r (toI (chs X.length r)) (toI (chs m r)) (i : Int) (j : Int)) R := by
  have h64 := JN m r hm; intro d; induction d with
  | zero =>
    intro j hj hgo _; refine Ev.step (fun k => by rw [Qp.l2]) ?_; have f1 : ¬ ((j : Int) < ((chs m r).length : Int)) := by omega
    simp only [Yh, f1, if_false]; exact hgo (by rw [List.drop_eq_nil_of_le (by omega)]; simp)
  | succ d ih =>
    intro j hj hgo hno; have h1 : j < (chs m r).length := by omega
    have hq : (chs m r)[j] ∈ chs m r := List.getElem_mem h1; obtain ⟨q1, q2, q3, q4⟩ := YW hm hq; rw [List.drop_eq_getElem_cons h1] at hgo hno; refine Ev.step (fun k => by rw [Qp.l2]) ?_; have f1 : ((j : Int) < ((chs m r).length : Int)) := by omega
    have f2 : (0 : Int) ≤ (j : Int) := by omega
    simp only [Yh, f1, f2, if_true, rdn, Jr _ j h1]; refine Ev.bind (JA q1) ?_; simp only [Yh]; refine rr_l3 X js r c _ _ _ _ (chs m r)[j] (by omega) (fun e he => by rw [hjm]; exact q4 e he) R ?_ (bits (chs m r)[j]).length 0 (by omega); refine rr_end X js m r c (chs m r)[j] hjm hn hm h4 hX hc hq _ _ i _ (by rw [Yh]; exact hi) (by rw [Jr _ i hi, hci]) R ?_; by_cases hz : mnr X js c (chs m r)[j] = 0
    · refine .inl ⟨hz, ?_⟩; rw [Zz (m := (chs m r).length) h1 (by omega)]; refine ih (j + 1) (by omega) (fun hall => hgo (fun q hq => ?_)) (fun hex => hno ?_)
      · rcases List.mem_cons.1 hq with rfl | hq
        · exact hz
        · exact hall q hq
      · obtain ⟨q, hq, hne⟩ := hex; exact ⟨q, List.mem_cons_of_mem _ hq, hne⟩
    · exact .inr ⟨hz, hno ⟨_, List.mem_cons_self .., hz⟩⟩
theorem rr_l1 (X : List (List Int)) (js : List Nat) (m r : Nat) (hjm : js.length = m) (hn : X.length < 7) (hm : m < 7) (h4 : r ≤ 4) (hX : Small X js) (R : Int) : ∀ (d i : Nat), i + d = (chs X.length r).length →
    ((∀ c ∈ (chs X.length r).drop i, ∀ q ∈ chs m r, mnr X js c q = 0) → Ev (fun k => Qp.l0 k X (toI js) (wrap64 ((r : Int) - 1))) R) →
    ((∃ c ∈ (chs X.length r).drop i, ∃ q ∈ chs m r, mnr X js c q ≠ 0) → R = r) →
    Ev (fun k => Qp.l1 k X (toI js) r (toI (chs X.length r)) (toI (chs m r)) (i : Int)) R := by
  have h64 := JN X.length r hn; intro d; induction d with
  | zero =>
    intro i hi hgo _; refine Ev.step (fun k => by rw [Qp.l1]) ?_; have f1 : ¬ ((i : Int) < ((chs X.length r).length : Int)) := by omega
    simp only [Yh, f1, if_false]; exact hgo (by rw [List.drop_eq_nil_of_le (by omega)]; simp)
  | succ d ih =>
    intro i hi hgo hno; have h1 : i < (chs X.length r).length := by omega
    rw [List.drop_eq_getElem_cons h1] at hgo hno; refine Ev.step (fun k => by rw [Qp.l1]) ?_; have f1 : ((i : Int) < ((chs X.length r).length : Int)) := by omega
    simp only [Yh, f1, if_true]; refine rr_l2 X js m r (chs X.length r)[i] hjm hn hm h4 hX (List.getElem_mem h1) i h1 rfl R (chs m r).length 0 (by omega) (fun hall => ?_) (fun hex => hno ?_)
    · rw [Zz (m := (chs X.length r).length) h1 (by omega)]; rw [List.drop_zero] at hall; refine ih (i + 1) (by omega) (fun uA => hgo (fun c hc => ?_)) (fun hex => hno ?_)
      · rcases List.mem_cons.1 hc with rfl | hc
        · exact hall
        · exact uA c hc
      · obtain ⟨c, hc, hne⟩ := hex; exact ⟨c, List.mem_cons_of_mem _ hc, hne⟩
    · rw [List.drop_zero] at hex; exact ⟨_, List.mem_cons_self .., hex⟩
theorem rr_l0 (X : List (List Int)) (js : List Nat) (m : Nat) (hjm : js.length = m) (hn : X.length < 7) (hm : m < 7) (hX : Small X js) (R : Nat) (hnz : R = 0 ∨ ∃ c ∈ chs X.length R, ∃ q ∈ chs m R, mnr X js c q ≠ 0) : ∀ (r : Nat), R ≤ r → r ≤ 4 → (∀ r', R < r' → r' ≤ r → ∀ c ∈ chs X.length r', ∀ q ∈ chs m r', mnr X js c q = 0) →
    Ev (fun k => Qp.l0 k X (toI js) (r : Int)) (R : Int)
  | 0, h0, _, _ => by
    refine Ev.step (fun k => by rw [Qp.l0]) ?_; have f1 : ¬ (((0 : Nat) : Int) > 0) := by omega
    simp only [f1, if_false]; rw [show R = 0 by omega]; exact Ev.now _
  | r + 1, hr, h4, hz => by
    refine Ev.step (fun k => by rw [Qp.l0]) ?_; have f1 : (((r + 1 : Nat) : Int) > 0) := by omega
    simp only [f1, if_true, Yh, hjm]; refine Ev.bind (V2 hn (by omega)) ?_; refine Ev.bind (V2 hm (by omega)) ?_; refine rr_l1 X js m (r + 1) hjm hn hm h4 hX R (chs X.length (r + 1)).length 0 (by omega) (fun hall => ?_) (fun hex => ?_)
    · rw [show wrap64 (((r + 1 : Nat) : Int) - 1) = (r : Int) by rw [wrp (by omega) (by omega)]; omega]; rw [List.drop_zero] at hall; have hRr : R ≤ r := by
        by_cases c : R ≤ r
        · exact c
        · exfalso
          rcases hnz with h | ⟨c1, hc1, q1, hq1, hne⟩
          · omega
          · rw [show R = r + 1 by omega] at hc1 hq1; exact hne (hall c1 hc1 q1 hq1)
      exact rr_l0 X js m hjm hn hm hX R hnz r hRr (by omega) (fun r' h1 h2 => hz r' h1 (by omega))
    · rw [List.drop_zero] at hex; obtain ⟨c1, hc1, q1, hq1, hne⟩ := hex; by_cases c : R = r + 1
      · rw [c]
      · exact absurd (hz (r + 1) (by omega) (Nat.le_refl _) c1 hc1 q1 hq1) hne
structure Lns (X : List (List Int)) (js : List Nat) (M0 : List (List Int)) : Prop where
  len : M0.length = js.length
  six : Six M0
  fn : ∀ k, k < js.length → fn (lineAt M0 k) = el (js.getD k 0) ∘ fun j => X.getD j []
section
variable {X : List (List Int)} {js : List Nat} {M0 M : List (List Int)} {s : Nat → Int} {Q : List Nat}
theorem Lns.wid (h : Lns X js M0) : Wid X.length M0 := fun b j hj => by
  by_cases hb : b < js.length
  · have := congrFun (h.fn b hb) j; refine Eq.trans this ?_; show (X.getD j []).getD (js.getD b 0) 0 = 0
    rw [List.getD_eq_getElem?_getD (l := X), List.getElem?_eq_none hj]; rfl
  · rw [ZN M0 b (by have := h.len; omega)]; rfl
theorem mnr_eq (h : Lns X js M0) (c q : Nat) (hq : ∀ e ∈ bits q, e < js.length) : mnr X js c q = det (bits c) ((bits q).map fun k => Go.Proofs.Ytdneelgnmnpanaa.P.fn (lineAt M0 k)) := by
  unfold mnr; rw [JJ, List.map_map, List.map_map]; congr 1; refine List.map_congr_left fun k hk => ?_
  exact (h.fn k (hq k hk)).symm
theorem rank_ev (h : Lns X js M0) (hi : Inv s M0 6 M Q) (hn : X.length < 7) (hm : js.length ≤ 4) (hX : Small X js) : Ev (fun k => Qp.f k X (toI js)) (Q.length : Int) := by
  unfold Qp.f; have he := hi.ech (n := X.length) (by omega) h.wid; have hql := he.VW; have hqm : Q.length ≤ js.length := by have := hi.ql; have := hi.len; have := h.len; omega
  rw [Yh, show mn (X.length : Int) (js.length : Int) = ((min X.length js.length : Nat) : Int) by unfold mn; split <;> omega]; refine rr_l0 X js js.length rfl hn (by omega) hX Q.length ?_ _ (by omega) (by omega) (fun r' h1 h2 c hc q hq => ?_)
  · by_cases h0 : Q.length = 0
    · exact .inl h0
    · right; obtain ⟨l, l1, l2, l3, l4⟩ := Jl hi; obtain ⟨c1, c2⟩ := Up (n := X.length) (by omega) hi.inc he.lt; obtain ⟨q1, q2⟩ := Up (n := js.length) (by omega) l1 (fun x hx => by rw [← h.len]; exact l2 x hx); refine ⟨msk Q, c1, msk l, by rw [l3] at q1; exact q1, ?_⟩; rw [mnr_eq h _ _ (fun e he => by rw [q2] at he; rw [← h.len]; exact l2 e he), c2, q2]; exact l4
  · obtain ⟨_, c2, _, c4⟩ := YW (n := X.length) (by omega) hc; obtain ⟨_, q2, _, q4⟩ := YW (n := js.length) (by omega) hq; rw [mnr_eq h c q q4]; have hV := JC hi (r' - (Q.length + 1)); rw [show Q.length + 1 + (r' - (Q.length + 1)) = r' by omega] at hV; refine hV _ c2 _ (by rw [List.length_map, q2]) (fun v hv => ?_); obtain ⟨k, -, rfl⟩ := List.mem_map.1 hv; exact ⟨k, rfl⟩
end
theorem YE (I O : List (List Int)) (h : I.length + O.length ≤ 6) : QY.f I O = some ((I.length + O.length : Nat) : Int) := by
  unfold QY.f; rw [wrp (by omega) (by omega)]; congr 1
def ml (I O : List (List Int)) : List (List Int) := (List.range (I.getD 0 []).length).map (lineOf I O)
def rkL (M0 : List (List Int)) : Nat := match red M0 with | some (_, P) => P.length | none => 0
theorem Y1 {I O : List (List Int)} (h : vl I O = 0) : (∀ c ∈ I, Atoms c) ∧ ∀ c ∈ O, Atoms c := by
  obtain ⟨-, -, -, -, -, -, h7⟩ := ZW h; exact ⟨fun c hc => (h7 c (List.mem_append_left _ hc)).2, fun c hc => (h7 c (List.mem_append_right _ hc)).2⟩
theorem ZH (I O : List (List Int)) : (cols I O).length = I.length + O.length := by simp [cols]
theorem Yk (I O : List (List Int)) : (ml I O).length = (I.getD 0 []).length := by simp [ml]
theorem Ji (I O : List (List Int)) (k : Nat) (h : k < (I.getD 0 []).length) : lineAt (ml I O) k = lineOf I O k := by
  rw [ZY _ k (by rw [Yk]; exact h)]; simp [ml]
theorem ml_six {I O : List (List Int)} (h : vl I O = 0) : Six (ml I O) := fun r hr => by
  obtain ⟨k, -, rfl⟩ := List.mem_map.1 hr; obtain ⟨-, h2, -, h4, -⟩ := ZW h; exact UD (by simp; omega)
theorem ml_lns {I O : List (List Int)} (h : vl I O = 0) : Lns (cols I O) (List.range (I.getD 0 []).length) (ml I O) where
  len := by rw [Yk, List.length_range]
  six := ml_six h
  fn k hk := by
    rw [List.length_range] at hk; rw [Ji I O k hk, JB I O (Y1 h).2, Q6 _ _ _ (by rw [List.length_range]; exact hk), List.getElem_range]
theorem UU {I O : List (List Int)} (h : vl I O = 0) : Small (cols I O) (List.range (I.getD 0 []).length) := fun c hc e he => by
  obtain ⟨-, -, -, -, -, -, h7⟩ := ZW h; obtain ⟨a1, a2⟩ := Y1 h; have he := List.mem_range.1 he; rcases List.mem_append.1 hc with hc | hc
  · have := VS (a1 c hc) e; exact ⟨by rw [(h7 c (List.mem_append_left _ hc)).1]; exact he, by omega⟩
  · obtain ⟨d, hd, rfl⟩ := List.mem_map.1 hc; have := VS (a2 d hd) e; rw [Un (a2 d hd)]; refine ⟨?_, by omega⟩; unfold negc; rw [List.length_map, (h7 d (List.mem_append_right _ hd)).1]; exact he
theorem ml_inv {I O : List (List Int)} (h : vl I O = 0) : ∃ M Q, red (ml I O) = some (M, Q.map (fun x : Nat => (x : Int))) ∧ Inv (csn I.length) (ml I O) 6 M Q := by
  obtain ⟨-, h2, -, h4, h5, h6, h7⟩ := ZW h; obtain ⟨a1, a2⟩ := Y1 h; refine red_inv (csn_one I.length) (.inl (by rw [Yk]; omega)) (ml_six h) (fun b j => ?_) (fun b => ?_)
  · by_cases hb : b < (I.getD 0 []).length
    · rw [Ji I O b hb]; exact (Y5 I O a1 a2 b j).2
    · rw [ZN _ _ (by rw [Yk]; omega)]; simp
  · refine ⟨1, .inl rfl, fun j => ?_⟩; rw [Int.one_mul]; by_cases hb : b < (I.getD 0 []).length
    · rw [Ji I O b hb]; exact (Y5 I O a1 a2 b j).1
    · rw [ZN _ _ (by rw [Yk]; omega)]; simp
theorem rkL_eq {M0 M : List (List Int)} {Q : List Nat} (h : red M0 = some (M, Q.map (fun x : Nat => (x : Int)))) : rkL M0 = Q.length := by
  unfold rkL; rw [h]; simp
theorem UF {I O : List (List Int)} (h : vl I O = 0) : ZK.f I O = some ((ml I O).map mk6) := by
  obtain ⟨h1, h2, h3, h4, h5, h6, h7⟩ := ZW h; unfold ZK.f; rw [rdL0, if_pos ⟨by omega, by omega, ⟨by omega, h6⟩, fun r hr => by rw [(h7 r hr).1]; exact Nat.le_refl _⟩]; simp [ml]
def spc (I O : List (List Int)) : Int × Int := if vl I O = 0 then ((I.length + O.length : Nat) - (rkL (ml I O) : Int), 0) else (0, vl I O)
theorem spc_rank {I O : List (List Int)} (h : vl I O = 0) : rkL (ml I O) ≤ (I.getD 0 []).length ∧ rkL (ml I O) ≤ I.length + O.length := by
  obtain ⟨M, Q, h1, h2⟩ := ml_inv h; rw [rkL_eq h1]; have := h2.ql; have := h2.len; rw [Yk] at this; have he := (h2.ech (n := (cols I O).length) (by rw [ZH]; have := ZW h; omega) (ml_lns h).wid).VW; rw [ZH] at he; omega
end Go.Proofs.Ytdneelgnmnpanaa.P
end
