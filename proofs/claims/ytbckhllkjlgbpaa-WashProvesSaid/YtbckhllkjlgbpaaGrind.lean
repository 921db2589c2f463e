/- The lot after moves: what the program's Grind does; a contract for all lots and moves. -/
import Derived.Test.YtbckhllkjlgbpaaSpread
import Derived.Test.YtbckhllkjlgbpaaVld
namespace Go.Proofs.Ytbckhllkjlgbpaa.P
open Go.RowKit Go.Proofs.YtbckhllkjlgbpaaW.PrintWords Go.Proofs.YtbckhllkjlgbpaaW.PrintLast Go.Proofs.YtbckhllkjlgbpaaW.PrintMore
set_option linter.unusedVariables false
/-- A move that is right. -/
def MvOk (x : S83) : Prop := x.f0 ≤ 20 ∧ 1 ≤ x.f1 ∧ x.f1 < x.f0 ∧ 1 ≤ x.f2 ∧ x.f2 ≤ 100
instance (x : S83) : Decidable (MvOk x) := by unfold MvOk; infer_instance
/-- The masses after moves, if there is enough for each. -/
def mvs : List S83 → List Int → Option (List Int)
  | [], m => some m
  | x :: r, m => if m.getD x.f0.toNat 0 < x.f2 then none else mvs r ((m.set x.f0.toNat (m.getD x.f0.toNat 0 - x.f2)).set x.f1.toNat (m.getD x.f1.toNat 0 + x.f2))
/-- What Grind answers. -/
def gr (l : List S58) (v : List S83) : List S58 × Int :=
  if vld l = 0 then if (v.length : Int) > 12 then ([], 3) else if ∀ x ∈ v, MvOk x then
    (match mvs v (spr l zeros21) with
    | none => ([], 9)
    | some m => if vld (col 0 m) = 0 then (col 0 m, 0) else ([], vld (col 0 m)))
    else ([], 1) else ([], vld l)
def wash_Grind.f (l : List S58) (v : List S83) : Option (List S58 × Int) := some (gr l v)
theorem rd83_n (l : List S83) (n : Nat) (h : n < l.length) : rd_T83 l (n : Int) = l[n] := by
  simp [rd_T83, h]
set_option maxHeartbeats 4000000 in
set_option maxRecDepth 100000 in
theorem grind_calls (A0 : Option Addr) (c0 : Nat) (l0 : List S58) (A1 : Option Addr) (c1 : Nat) (l1 : List S83) (r : List S58 × Int) (w : World) (hr0 : Kd.C k58 w A0 l0.length l0) (hc0 : l0.length ≤ c0) (hr1 : Kd.C k83 w A1 l1.length l1) (hc1 : l1.length ≤ c1)
    (hv0 : Valid l0) (hl : l1.length ≤ 12) (hg : r = gr l0 l1) :
    Calls Try.prog 77 #[.slice A0 l0.length c0, .slice A1 l1.length c1] w fun e w' => ∃ v0_ : Value, e = .returned (.tuple #[v0_, .int .i64 r.2]) ∧ Kd.R k58 58 w' w.heap.size (fun _ => True) v0_ r.1 ∧ Below w.heap.size w w' := by
  have hg1 : r = if ∀ x ∈ l1, MvOk x then
    (match mvs l1 (spr l0 zeros21) with
    | none => ([], 9)
    | some m => if vld (col 0 m) = 0 then (col 0 m, 0) else ([], vld (col 0 m)))
    else ([], 1) := by
    rw [hg]
    unfold gr
    rw [if_pos ((vld_zero l0).2 hv0), if_neg (by omega)]
  obtain ⟨K0, hK0⟩ := wash_vld l0
  have A2 := Aside0.mk (show wash_Validate.f K0 l0 = some 0 from (hK0 K0 (Nat.le_refl _)).trans (congrArg some ((vld_zero l0).2 hv0)))
  have HR0 := Aside0.mk hr0
  have HC0 := Aside0.mk hc0
  have HR1 := Aside0.mk hr1
  have HC1 := Aside0.mk hc1
  have ha := spr_length l0 zeros21
  have hra := spr_range l0 zeros21 (fun x hx => by have := hv0.2.mass x hx; omega) zeros21_range
  have hsp0 := fun W HR HC => spread_calls A0 c0 l0 W HR HC (fun x hx => by have := hv0.2.mass x hx; omega) hv0.small.1
  generalize spr l0 zeros21 = a at *
  have HSP0 := Aside0.mk hsp0
  have HLA := Aside0.mk (show a.length = 21 from ha)
  have HRA := Aside0.mk hra
  have HG := Aside0.mk hg1
  clear hr0 hc0 hr1 hc1 hv0 ha hra hsp0 hg1 hg hK0
  have HB := Aside0.mk (Below.refl w.heap.size w)
  have hu98 := Try.underlying98
  have hu83 := Try.underlying83
  have hu58 := Try.underlying58
  obtain ⟨hz98, hs98⟩ := zero_of_info info98
  have HIA := Aside0.mk (show (Try.prog.info? 98).map (·.size) = some (arr a).size by rw [arr_size, HLA.out]; exact hs98)
  have HOA := Aside0.mk (show (arr zeros21).size = (arr a).size by rw [arr_size, arr_size, HLA.out]; rfl)
  go_enter Try.func77, Try.ntmps77
  go_wp2_with (first
    | ((with_reducible refine gate_callee (f := 58) rfl ?_); refine goesL_ (some 15) rfl rfl Try.func58 (by kernel_rfl) rfl #[.slice A0 l0.length c0] rfl (by (try simp only [List.map_toArray, List.map_cons, List.map_nil]); first | done | rfl) ?_; (with_reducible refine (wash_Validate.calls K0 _ _ l0 0 _ (Kd.C_below HR0.out HB.out) HC0.out A2.out).mono ?_); rintro e w11 ⟨rfl, hb⟩; refine ⟨_, rfl, ?_⟩; have n0_ := Aside0.mk (below_step (by repeat (first | (with_reducible first | exact HB.out | apply below_alloc | apply pw_below_drewN | apply below_drew1) | exact HB.out)) hb); clear HB; have HB := n0_; clear n0_; (try clear hb)))
  go_loopw [24] (fun i w' => ∃ n : Nat, n ≤ l1.length ∧ i = .int .i64 n ∧ Aside0 (∀ j (hj : j < l1.length), j < n → MvOk l1[j]) ∧ Aside0 (Below w.heap.size w w')) (fun i _ => l1.length - (intOf i).toNat)
  case atStart => exact ⟨0, by omega, rfl, ⟨fun j _ h => absurd h (Nat.not_lt_zero _)⟩, HB⟩
  case round =>
    clear HB
    obtain ⟨n, hn, rfl, HMO, HB⟩ := hrel
    by_cases hlt : n < l1.length
    · have p1 : 0 ≤ (n : Int) := by omega
      have q1 : (n : Int) < (l1.length : Int) := by omega
      obtain ⟨ad1, e1, hx0, hx1, hx2⟩ := at_T83 HR1.out (n : Int) p1 q1
      cases e1
      replace hx0 := (HB.out.cell (World.block_lt_of_cell? w _ hx0)).trans hx0
      replace hx1 := (HB.out.cell (World.block_lt_of_cell? w _ hx1)).trans hx1
      replace hx2 := (HB.out.cell (World.block_lt_of_cell? w _ hx2)).trans hx2
      rw [rd83_n l1 n hlt] at hx0 hx1 hx2
      have HBAD := Aside0.mk (show ¬ MvOk l1[n] → r = ([], 1) from fun h => by rw [HG.out, if_neg (fun h2 => h (h2 _ (List.getElem_mem hlt)))])
      have HOKN := Aside0.mk (show MvOk l1[n] → ∀ j (hj : j < l1.length), j < n + 1 → MvOk l1[j] from fun h j hj hjn => by
        by_cases e : j = n
        · subst e; exact h
        · exact HMO.out j hj (by omega))
      generalize l1[n] = x at hx0 hx1 hx2 HBAD HOKN
      simp only [Int.toNat_natCast] at hx0 hx1 hx2
      by_cases k1 : x.f0 > 20
      · have hr := HBAD.out (by unfold MvOk; omega)
        subst hr
        clear HBAD HOKN HG
        go_wp2_with fail
        go_ret2
        exact ⟨_, rfl, Kd.R_nil _ _ _ _ _, by repeat (first | (with_reducible first | exact HB.out | apply below_alloc | apply pw_below_drewN | apply below_drew1) | exact HB.out)⟩
      by_cases k2 : x.f1 < 1
      · have hr := HBAD.out (by unfold MvOk; omega)
        subst hr
        clear HBAD HOKN HG
        go_wp2_with fail
        go_ret2
        exact ⟨_, rfl, Kd.R_nil _ _ _ _ _, by repeat (first | (with_reducible first | exact HB.out | apply below_alloc | apply pw_below_drewN | apply below_drew1) | exact HB.out)⟩
      by_cases k3 : x.f0 ≤ x.f1
      · have hr := HBAD.out (by unfold MvOk; omega)
        subst hr
        clear HBAD HOKN HG
        go_wp2_with fail
        go_ret2
        exact ⟨_, rfl, Kd.R_nil _ _ _ _ _, by repeat (first | (with_reducible first | exact HB.out | apply below_alloc | apply pw_below_drewN | apply below_drew1) | exact HB.out)⟩
      by_cases k4 : x.f2 < 1
      · have hr := HBAD.out (by unfold MvOk; omega)
        subst hr
        clear HBAD HOKN HG
        go_wp2_with fail
        go_ret2
        exact ⟨_, rfl, Kd.R_nil _ _ _ _ _, by repeat (first | (with_reducible first | exact HB.out | apply below_alloc | apply pw_below_drewN | apply below_drew1) | exact HB.out)⟩
      by_cases k5 : x.f2 > 100
      · have hr := HBAD.out (by unfold MvOk; omega)
        subst hr
        clear HBAD HOKN HG
        go_wp2_with fail
        go_ret2
        exact ⟨_, rfl, Kd.R_nil _ _ _ _ _, by repeat (first | (with_reducible first | exact HB.out | apply below_alloc | apply pw_below_drewN | apply below_drew1) | exact HB.out)⟩
      have hmo := HOKN.out (by unfold MvOk; omega)
      have HMO2 := Aside0.mk hmo
      clear hmo HMO HBAD HOKN
      go_wp2_with fail
      go_roundw
      case rel => exact ⟨n + 1, by omega, by go_num, HMO2, ⟨by repeat (first | (with_reducible first | exact HB.out | apply below_alloc | apply pw_below_drewN | apply below_drew1) | exact HB.out)⟩⟩
      case measure => simp [intOf]; omega
    · have hall : ∀ x ∈ l1, MvOk x := fun x hx => by
        obtain ⟨j, hj, rfl⟩ := List.mem_iff_getElem.1 hx
        exact HMO.out j hj (by omega)
      have hg := HG.out
      rw [if_pos hall] at hg
      have HALL := Aside0.mk hall
      have HG2 := Aside0.mk hg
      clear hg hall HG HMO
      go_wp2_with (first
        | ((with_reducible refine gate_callee (f := 92) rfl ?_); refine goesL_ (some 55) rfl rfl Try.func92 (by kernel_rfl) rfl #[.slice A0 l0.length c0] rfl (by (try simp only [List.map_toArray, List.map_cons, List.map_nil]); first | done | rfl) ?_; (with_reducible refine (HSP0.out _ (Kd.C_below HR0.out HB.out) HC0.out).mono ?_); rintro e w13 ⟨rfl, hb⟩; refine ⟨_, rfl, ?_⟩; have n0_ := Aside0.mk (below_step (by repeat (first | (with_reducible first | exact HB.out | apply below_alloc | apply pw_below_drewN | apply below_drew1) | exact HB.out)) hb); clear HB; have HB := n0_; clear n0_; (try clear hb))
        | (refine wpList_store_row rfl 98 (.tmp 9) (.tmp 55) rfl _ (arr a) rfl rfl 98 (arr zeros21) (heap_alloc_last _ _) HIA.out HOA.out (arr_one a) ?_))
      have f0 : ((w13.alloc (.cells (arr zeros21) 98)).setRow w13.heap.size (arr a)).heap[w13.heap.size]? = some (.cells (arr a) 98 (0, 0)) := setRow_heap _ _ _ _ _ _ (heap_alloc_last _ _)
      have hsz := HB.out.size
      have fb : Below w.heap.size w ((w13.alloc (.cells (arr zeros21) 98)).setRow w13.heap.size (arr a)) := below_setRow (HB.out.alloc hsz _) hsz _
      have F0 := Aside0.mk f0
      have FB := Aside0.mk fb
      have HSZ := Aside0.mk hsz
      clear f0 fb hsz HB
      generalize hG : w13.heap.size = G at *
      clear hG
      go_loopw [58] (fun i w' => ∃ n : Nat, n ≤ l1.length ∧ i = .int .i64 n ∧ Aside0 (∃ m : List Int, m.length = 21 ∧ (∀ v ∈ m, 0 ≤ v ∧ v ≤ 100 + 100 * n) ∧ mvs l1 a = mvs (l1.drop n) m ∧ w'.heap[G]? = some (.cells (arr m) 98 (0, 0))) ∧ Aside0 (Below w.heap.size w w')) (fun i _ => l1.length - (intOf i).toNat)
      case atStart => exact ⟨0, by omega, rfl, ⟨a, HLA.out, fun v hv => by have := HRA.out v hv; omega, rfl, F0.out⟩, FB⟩
      case round =>
        clear F0 FB
        obtain ⟨n, hn, rfl, ⟨m, hml, hmr, hms, hgm⟩, HB⟩ := hrel
        have HML := Aside0.mk hml
        have HMR := Aside0.mk hmr
        have HMS := Aside0.mk hms
        have HGM := Aside0.mk hgm
        clear hml hmr hms hgm
        by_cases hlt : n < l1.length
        · have p1 : 0 ≤ (n : Int) := by omega
          have q1 : (n : Int) < (l1.length : Int) := by omega
          obtain ⟨ad1, e1, hx0, hx1, hx2⟩ := at_T83 HR1.out (n : Int) p1 q1
          cases e1
          replace hx0 := (HB.out.cell (World.block_lt_of_cell? w _ hx0)).trans hx0
          replace hx1 := (HB.out.cell (World.block_lt_of_cell? w _ hx1)).trans hx1
          replace hx2 := (HB.out.cell (World.block_lt_of_cell? w _ hx2)).trans hx2
          rw [rd83_n l1 n hlt] at hx0 hx1 hx2
          have hok := HALL.out _ (List.getElem_mem hlt)
          have hms := HMS.out
          rw [List.drop_eq_getElem_cons hlt, mvs] at hms
          generalize l1[n] = x at hx0 hx1 hx2 hok hms
          obtain ⟨o1, o2, o3, o4, o5⟩ := hok
          obtain ⟨f, hf⟩ := Int.eq_ofNat_of_zero_le (show 0 ≤ x.f0 by omega)
          obtain ⟨t, ht⟩ := Int.eq_ofNat_of_zero_le (show 0 ≤ x.f1 by omega)
          rw [hf] at hx0 hms
          rw [ht] at hx1 hms
          simp only [Int.toNat_natCast] at hx0 hx1 hx2 hms
          have hft : t < f := by omega
          have hf20 : f ≤ 20 := by omega
          generalize x.f2 = q at hx2 hms o4 o5
          clear o1 o2 o3 hf ht
          have hl21 := HML.out
          have rf := HMR.out _ (List.getElem_mem (show f < m.length by omega))
          have rt := HMR.out _ (List.getElem_mem (show t < m.length by omega))
          have hcf := arr_cell HGM.out f (by omega)
          have hct := arr_cell HGM.out t (by omega)
          have hff := arr_frozen HGM.out f
          have hft' := arr_frozen HGM.out t
          have gf : m.getD f 0 = m[f] := by rw [List.getD_eq_getElem?_getD, List.getElem?_eq_getElem (show f < m.length by omega)]; rfl
          have gt : m.getD t 0 = m[t] := by rw [List.getD_eq_getElem?_getD, List.getElem?_eq_getElem (show t < m.length by omega)]; rfl
          rw [gf] at hcf hms
          rw [gt] at hct hms
          have hz : G < wr.heap.size := arr_lt HGM.out
          have hst : ((wr.setCell ⟨G, f, none⟩ (.int .i64 (m[f] - q))).setCell ⟨G, t, none⟩ (.int .i64 (m[t] + q))).heap[G]? = some (.cells (arr ((m.set f (m[f] - q)).set t (m[t] + q))) 98 (0, 0)) := arr_store (arr_store HGM.out f _) t _
          have HRN := Aside0.mk (show ¬ m[f] < q → ∀ v ∈ (m.set f (m[f] - q)).set t (m[t] + q), 0 ≤ v ∧ v ≤ 100 + 100 * ((n + 1 : Nat) : Int) from fun hq v hv => by
            rcases List.mem_or_eq_of_mem_set hv with h1 | rfl
            · rcases List.mem_or_eq_of_mem_set h1 with h2 | rfl
              · have := HMR.out v h2; omega
              · omega
            · omega)
          have HLN := Aside0.mk (show ((m.set f (m[f] - q)).set t (m[t] + q)).length = 21 by simp [HML.out])
          generalize hm2 : (m.set f (m[f] - q)).set t (m[t] + q) = m2 at *
          generalize m[f] = vf at *
          generalize m[t] = vt at *
          have HST := Aside0.mk hst
          have HMS2 := Aside0.mk hms
          have b1 := rf.1
          have b2 := rf.2
          have b3 := rt.1
          have b4 := rt.2
          have b5 : (n : Int) ≤ 12 := by omega
          clear hst hms rf rt gf gt HMS HGM HMR hl21 hm2
          by_cases hq : vf < q
          · have hs := HMS2.out
            rw [if_pos hq] at hs
            have hr := HG2.out
            rw [hs] at hr
            subst hr
            clear hs HMS2 HG2
            go_wp2_with fail
            go_region
            go_wp2_with fail
            go_ret2
            exact ⟨_, rfl, Kd.R_nil _ _ _ _ _, by first | exact (HB.out.alloc HB.out.size _).drew | exact (HB.out.alloc HB.out.size _)⟩
          · have hs := HMS2.out
            rw [if_neg hq] at hs
            have HMS := Aside0.mk hs
            have hrn := HRN.out hq
            have HRN2 := Aside0.mk hrn
            clear hs HMS2 hrn HRN
            go_wp2_with fail
            go_region
            go_wp2_with fail
            go_region
            go_wp2_with fail
            go_region
            go_wp2_with fail
            go_roundw
            case rel => exact ⟨n + 1, by omega, by go_num, ⟨_, HLN.out, HRN2.out, HMS.out, heap_old HST.out _⟩, ⟨(((HB.out.setCell HSZ.out _).setCell HSZ.out _).alloc (by simpa using HB.out.size) _).drew.drew.drew⟩⟩
            case measure => simp [intOf]; omega
        · have hms := HMS.out
          rw [List.drop_eq_nil_of_le (by omega), mvs] at hms
          have hr := HG2.out
          rw [hms] at hr
          have hg := HGM.out
          have hzl := HML.out
          clear HMS HGM HMR HML HG2 hms
          obtain ⟨z, hz⟩ : ∃ z, z = m := ⟨_, rfl⟩
          subst hz
          have HZL := Aside0.mk hzl
          have HGZ := Aside0.mk hg
          have HIZ := Aside0.mk (show (Try.prog.info? 98).map (·.size) = some (arr z).size by rw [arr_size, HZL.out]; exact hs98)
          have HCC := Aside0.mk (fun W => collect_calls z W hzl)
          simp only [] at hr
          generalize hq : col 0 z = q at *
          obtain ⟨K2, hK2⟩ := wash_vld q
          have A4 := Aside0.mk (show wash_Validate.f K2 q = some (vld q) from hK2 K2 (Nat.le_refl _))
          clear hg hzl hK2 hq
          by_cases hv : vld q = 0
          · rw [if_pos hv] at hr
            rw [hv] at A4
            subst hr
            clear hv
            go_wp2_with (first
              | (refine wpList_load_row rfl 98 (.tmp 9) rfl G rfl 98 (arr z) (0, 0) _ HGZ.out Try.underlying98 rfl HIZ.out ?_)
              | ((with_reducible refine gate_callee (f := 93) rfl ?_); refine goesL_ (some 87) rfl rfl Try.func93 (by kernel_rfl) rfl #[.agg (arr z)] rfl (by (try simp only [List.map_toArray, List.map_cons, List.map_nil]); first | done | rfl) ?_; (with_reducible refine (HCC.out _).mono ?_); rintro e w15 ⟨v16, rfl, ho0, hb⟩; refine ⟨_, rfl, ?_⟩; have n0_ := Aside0.mk (Kd.R_lower ho0 (below_size (by repeat (first | (with_reducible first | exact HB.out | apply below_alloc | apply pw_below_drewN | apply below_drew1) | exact HB.out)))); have n1_ := Aside0.mk (below_step (by repeat (first | (with_reducible first | exact HB.out | apply below_alloc | apply pw_below_drewN | apply below_drew1) | exact HB.out)) hb); clear HB; have HO := n0_; have HB := n1_; clear n0_ n1_; (try clear hb); (try clear ho0); obtain ⟨Ao, co, eo⟩ := Kd.R_slice HO.out; subst eo)
              | ((with_reducible refine gate_callee (f := 58) rfl ?_); refine goesL_ (some 89) rfl rfl Try.func58 (by kernel_rfl) rfl #[.slice Ao q.length co] rfl (by (try simp only [List.map_toArray, List.map_cons, List.map_nil]); first | done | rfl) ?_; (with_reducible refine (wash_Validate.calls K2 _ _ q 0 _ (Kd.R_reads' HO.out).2.2 (Kd.R_reads' HO.out).2.1 A4.out).mono ?_); rintro e w17 ⟨rfl, hb⟩; refine ⟨_, rfl, ?_⟩; have n0_ := Aside0.mk (Kd.R_below (by (with_reducible repeat (first | apply Kd.R_alloc | apply Kd.R_drewN | apply Kd.R_drew)); exact HO.out) hb); have n1_ := Aside0.mk (below_step (by repeat (first | (with_reducible first | exact HB.out | apply below_alloc | apply pw_below_drewN | apply below_drew1) | exact HB.out)) hb); clear HO; clear HB; have HO := n0_; have HB := n1_; clear n0_ n1_; (try clear hb)))
            go_ret2
            exact ⟨_, rfl, HO.out, HB.out⟩
          · rw [if_neg hv] at hr
            subst hr
            have hv1 : (vld q != 0) = true := bne_iff_ne.mpr hv
            have hv2 : (vld q == 0) = false := beq_eq_false_iff_ne.mpr hv
            clear hv
            go_wp2_with (first
              | (refine wpList_load_row rfl 98 (.tmp 9) rfl G rfl 98 (arr z) (0, 0) _ HGZ.out Try.underlying98 rfl HIZ.out ?_)
              | ((with_reducible refine gate_callee (f := 93) rfl ?_); refine goesL_ (some 87) rfl rfl Try.func93 (by kernel_rfl) rfl #[.agg (arr z)] rfl (by (try simp only [List.map_toArray, List.map_cons, List.map_nil]); first | done | rfl) ?_; (with_reducible refine (HCC.out _).mono ?_); rintro e w15 ⟨v16, rfl, ho0, hb⟩; refine ⟨_, rfl, ?_⟩; have n0_ := Aside0.mk (Kd.R_lower ho0 (below_size (by repeat (first | (with_reducible first | exact HB.out | apply below_alloc | apply pw_below_drewN | apply below_drew1) | exact HB.out)))); have n1_ := Aside0.mk (below_step (by repeat (first | (with_reducible first | exact HB.out | apply below_alloc | apply pw_below_drewN | apply below_drew1) | exact HB.out)) hb); clear HB; have HO := n0_; have HB := n1_; clear n0_ n1_; (try clear hb); (try clear ho0); obtain ⟨Ao, co, eo⟩ := Kd.R_slice HO.out; subst eo)
              | ((with_reducible refine gate_callee (f := 58) rfl ?_); refine goesL_ (some 89) rfl rfl Try.func58 (by kernel_rfl) rfl #[.slice Ao q.length co] rfl (by (try simp only [List.map_toArray, List.map_cons, List.map_nil]); first | done | rfl) ?_; (with_reducible refine (wash_Validate.calls K2 _ _ q (vld q) _ (Kd.R_reads' HO.out).2.2 (Kd.R_reads' HO.out).2.1 A4.out).mono ?_); rintro e w17 ⟨rfl, hb⟩; refine ⟨_, rfl, ?_⟩; have n1_ := Aside0.mk (below_step (by repeat (first | (with_reducible first | exact HB.out | apply below_alloc | apply pw_below_drewN | apply below_drew1) | exact HB.out)) hb); clear HB; have HB := n1_; clear n1_; (try clear hb)))
            go_ret2
            exact ⟨_, rfl, Kd.R_nil _ _ _ _ _, HB.out⟩
set_option maxHeartbeats 1000000 in
set_option maxRecDepth 100000 in
theorem wash_Grind.calls (A0 : Option Addr) (c0 : Nat) (l0 : List S58) (A1 : Option Addr) (c1 : Nat) (l1 : List S83) (r1 : List S58) (r2 : Int) (w : World) (hr0 : Kd.C k58 w A0 l0.length l0) (hc0 : l0.length ≤ c0) (hr1 : Kd.C k83 w A1 l1.length l1) (hc1 : l1.length ≤ c1) (h : wash_Grind.f l0 l1 = some (r1, r2)) :
    Calls Try.prog 77 #[.slice A0 l0.length c0, .slice A1 l1.length c1] w fun e w' => ∃ v0_ : Value, e = .returned (.tuple #[v0_, .int .i64 r2]) ∧ Kd.R k58 58 w' w.heap.size (fun _ => True) v0_ r1 ∧ Below w.heap.size w w' := by
  have hj : gr l0 l1 = (r1, r2) := Option.some.inj h
  by_cases cv0 : vld l0 = 0
  · by_cases hl : (l1.length : Int) > 12
    · rw [show gr l0 l1 = ([], 3) by unfold gr; rw [if_pos cv0, if_pos hl]] at hj
      obtain ⟨rfl, rfl⟩ := Prod.mk.inj hj
      obtain ⟨K0, hK0⟩ := wash_vld l0
      have A2 := Aside0.mk (show wash_Validate.f K0 l0 = some 0 from (hK0 K0 (Nat.le_refl _)).trans (congrArg some cv0))
      have HR0 := Aside0.mk hr0
      have HC0 := Aside0.mk hc0
      have hl' : 12 < l1.length := by omega
      clear hr0 hc0 hr1 hc1 hK0 hj h cv0
      have HB := Aside0.mk (Below.refl w.heap.size w)
      go_enter Try.func77, Try.ntmps77
      go_wp2_with (first
        | ((with_reducible refine gate_callee (f := 58) rfl ?_); refine goesL_ (some 15) rfl rfl Try.func58 (by kernel_rfl) rfl #[.slice A0 l0.length c0] rfl (by (try simp only [List.map_toArray, List.map_cons, List.map_nil]); first | done | rfl) ?_; (with_reducible refine (wash_Validate.calls K0 _ _ l0 0 _ (Kd.C_below HR0.out HB.out) HC0.out A2.out).mono ?_); rintro e w11 ⟨rfl, hb⟩; refine ⟨_, rfl, ?_⟩; have n0_ := Aside0.mk (below_step (by repeat (first | (with_reducible first | exact HB.out | apply below_alloc | apply pw_below_drewN | apply below_drew1) | exact HB.out)) hb); clear HB; have HB := n0_; clear n0_; (try clear hb)))
      go_ret2
      exact ⟨_, rfl, Kd.R_nil _ _ _ _ _, HB.out⟩
    · have := grind_calls A0 c0 l0 A1 c1 l1 (gr l0 l1) w hr0 hc0 hr1 hc1 ((vld_zero l0).1 cv0) (by omega) rfl
      rw [hj] at this
      exact this
  · rw [show gr l0 l1 = ([], vld l0) by unfold gr; rw [if_neg cv0]] at hj
    obtain ⟨rfl, rfl⟩ := Prod.mk.inj hj
    obtain ⟨K0, hK0⟩ := wash_vld l0
    have A2 := Aside0.mk (show wash_Validate.f K0 l0 = some (vld l0) from hK0 K0 (Nat.le_refl _))
    have HR0 := Aside0.mk hr0
    have HC0 := Aside0.mk hc0
    have hv1 : (vld l0 != 0) = true := bne_iff_ne.mpr cv0
    have hv2 : (vld l0 == 0) = false := beq_eq_false_iff_ne.mpr cv0
    clear hr0 hc0 hr1 hc1 hK0 hj h cv0
    have HB := Aside0.mk (Below.refl w.heap.size w)
    go_enter Try.func77, Try.ntmps77
    go_wp2_with (first
      | ((with_reducible refine gate_callee (f := 58) rfl ?_); refine goesL_ (some 15) rfl rfl Try.func58 (by kernel_rfl) rfl #[.slice A0 l0.length c0] rfl (by (try simp only [List.map_toArray, List.map_cons, List.map_nil]); first | done | rfl) ?_; (with_reducible refine (wash_Validate.calls K0 _ _ l0 (vld l0) _ (Kd.C_below HR0.out HB.out) HC0.out A2.out).mono ?_); rintro e w11 ⟨rfl, hb⟩; refine ⟨_, rfl, ?_⟩; have n0_ := Aside0.mk (below_step (by repeat (first | (with_reducible first | exact HB.out | apply below_alloc | apply pw_below_drewN | apply below_drew1) | exact HB.out)) hb); clear HB; have HB := n0_; clear n0_; (try clear hb)))
    go_ret2
    exact ⟨_, rfl, Kd.R_nil _ _ _ _ _, HB.out⟩
end Go.Proofs.Ytbckhllkjlgbpaa.P
