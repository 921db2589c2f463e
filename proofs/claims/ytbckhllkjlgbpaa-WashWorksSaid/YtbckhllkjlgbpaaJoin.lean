/- The lot of two lots: what the program's Join does; a contract for all lots. -/
import Derived.Test.YtbckhllkjlgbpaaSpread
import Derived.Test.YtbckhllkjlgbpaaVld
namespace Go.Proofs.Ytbckhllkjlgbpaa.P
open Go.RowKit Go.Proofs.YtbckhllkjlgbpaaW.PrintWords Go.Proofs.YtbckhllkjlgbpaaW.PrintLast Go.Proofs.YtbckhllkjlgbpaaW.PrintMore
set_option linter.unusedVariables false
/-- What Join answers. -/
def jn (l m : List S58) : List S58 × Int :=
  if vld l = 0 then if vld m = 0 then if vld (col 0 (List.zipWith (· + ·) (spr l zeros21) (spr m zeros21))) = 0 then (col 0 (List.zipWith (· + ·) (spr l zeros21) (spr m zeros21)), 0) else ([], vld (col 0 (List.zipWith (· + ·) (spr l zeros21) (spr m zeros21)))) else ([], vld m) else ([], vld l)
def wash_Join.f (l m : List S58) : Option (List S58 × Int) := some (jn l m)
set_option maxHeartbeats 2000000 in
set_option maxRecDepth 100000 in
theorem join_calls (A0 : Option Addr) (c0 : Nat) (l0 : List S58) (A1 : Option Addr) (c1 : Nat) (l1 : List S58) (w : World) (hr0 : Kd.C k58 w A0 l0.length l0) (hc0 : l0.length ≤ c0) (hr1 : Kd.C k58 w A1 l1.length l1) (hc1 : l1.length ≤ c1)
    (hv0 : Valid l0) (hv1 : Valid l1) :
    Calls Try.prog 72 #[.slice A0 l0.length c0, .slice A1 l1.length c1] w fun e w' => ∃ v0 : Value, e = .returned (.tuple #[v0, .int .i64 (jn l0 l1).2]) ∧ Kd.R k58 58 w' w.heap.size (fun _ => True) v0 (jn l0 l1).1 ∧ Below w.heap.size w w' := by
  have HR0 := Aside0.mk hr0
  have HC0 := Aside0.mk hc0
  have HR1 := Aside0.mk hr1
  have HC1 := Aside0.mk hc1
  have HS0 := Aside0.mk (show ∀ x ∈ l0, 0 ≤ x.f0 ∧ x.f0 ≤ 20 from fun x hx => by have := hv0.2.mass x hx; omega)
  have HS1 := Aside0.mk (show ∀ x ∈ l1, 0 ≤ x.f0 ∧ x.f0 ≤ 20 from fun x hx => by have := hv1.2.mass x hx; omega)
  have HN0 := Aside0.mk hv0.small.1
  have HN1 := Aside0.mk hv1.small.1
  have HV0 := Aside0.mk hv0
  have HV1 := Aside0.mk hv1
  obtain ⟨K0, hK0⟩ := wash_vld l0
  obtain ⟨K1, hK1⟩ := wash_vld l1
  have A2 := Aside0.mk (show wash_Validate.f K0 l0 = some 0 from (hK0 K0 (Nat.le_refl _)).trans (congrArg some ((vld_zero l0).2 hv0)))
  have A3 := Aside0.mk (show wash_Validate.f K1 l1 = some 0 from (hK1 K1 (Nat.le_refl _)).trans (congrArg some ((vld_zero l1).2 hv1)))
  have ha := spr_length l0 zeros21
  have hb := spr_length l1 zeros21
  have hra := spr_range l0 zeros21 (fun x hx => by have := hv0.2.mass x hx; omega) zeros21_range
  have hrb := spr_range l1 zeros21 (fun x hx => by have := hv1.2.mass x hx; omega) zeros21_range
  obtain ⟨jl, hjl⟩ : ∃ jl, jl = jn l0 l1 := ⟨_, rfl⟩
  have hj : jl = if vld (col 0 (List.zipWith (· + ·) (spr l0 zeros21) (spr l1 zeros21))) = 0 then (col 0 (List.zipWith (· + ·) (spr l0 zeros21) (spr l1 zeros21)), 0) else ([], vld (col 0 (List.zipWith (· + ·) (spr l0 zeros21) (spr l1 zeros21)))) := by
    rw [hjl]; unfold jn; rw [if_pos ((vld_zero l0).2 hv0), if_pos ((vld_zero l1).2 hv1)]
  rw [← hjl]
  have hsp0 := fun W HR HC => spread_calls A0 c0 l0 W HR HC HS0.out HN0.out
  have hsp1 := fun W HR HC => spread_calls A1 c1 l1 W HR HC HS1.out HN1.out
  generalize spr l0 zeros21 = a at *
  generalize spr l1 zeros21 = b at *
  have HSP0 := Aside0.mk hsp0
  have HSP1 := Aside0.mk hsp1
  have HLA := Aside0.mk (show a.length = 21 from ha)
  have HLB := Aside0.mk (show b.length = 21 from hb)
  have HRA := Aside0.mk hra
  have HRB := Aside0.mk hrb
  have HJ := Aside0.mk hj
  clear hr0 hc0 hr1 hc1 hK0 hK1 hv0 hv1 ha hb hra hrb hjl hj hsp0 hsp1
  have HB := Aside0.mk (Below.refl w.heap.size w)
  have hu58 := Try.underlying58
  have hu98 := Try.underlying98
  obtain ⟨hz98, hs98⟩ := zero_of_info info98
  have HIA := Aside0.mk (show (Try.prog.info? 98).map (·.size) = some (arr a).size by rw [arr_size, HLA.out]; exact hs98)
  have HIB := Aside0.mk (show (Try.prog.info? 98).map (·.size) = some (arr b).size by rw [arr_size, HLB.out]; exact hs98)
  have HOA := Aside0.mk (show (arr zeros21).size = (arr a).size by rw [arr_size, arr_size, HLA.out]; rfl)
  have HOB := Aside0.mk (show (arr zeros21).size = (arr b).size by rw [arr_size, arr_size, HLB.out]; rfl)
  go_enter Try.func72, Try.ntmps72
  go_wp2_with (first
    | ((with_reducible refine gate_callee (f := 58) rfl ?_); refine goesL_ (some 14) rfl rfl Try.func58 (by kernel_rfl) rfl #[.slice A0 l0.length c0] rfl (by (try simp only [List.map_toArray, List.map_cons, List.map_nil]); first | done | rfl) ?_; (with_reducible refine (wash_Validate.calls K0 _ _ l0 0 _ HR0.out HC0.out A2.out).mono ?_); rintro e w11 ⟨rfl, hb⟩; refine ⟨_, rfl, ?_⟩; have n0_ := Aside0.mk (below_step (by repeat (first | (with_reducible first | exact HB.out | apply below_alloc | apply pw_below_drewN | apply below_drew1) | exact HB.out)) hb); clear HB; have HB := n0_; clear n0_; (try clear hb))
    | ((with_reducible refine gate_callee (f := 58) rfl ?_); refine goesL_ (some 19) rfl rfl Try.func58 (by kernel_rfl) rfl #[.slice A1 l1.length c1] rfl (by (try simp only [List.map_toArray, List.map_cons, List.map_nil]); first | done | rfl) ?_; (with_reducible refine (wash_Validate.calls K1 _ _ l1 0 _ (Kd.C_below HR1.out HB.out) HC1.out A3.out).mono ?_); rintro e w12 ⟨rfl, hb⟩; refine ⟨_, rfl, ?_⟩; have n0_ := Aside0.mk (below_step (by repeat (first | (with_reducible first | exact HB.out | apply below_alloc | apply pw_below_drewN | apply below_drew1) | exact HB.out)) hb); clear HB; have HB := n0_; clear n0_; (try clear hb))
    | ((with_reducible refine gate_callee (f := 92) rfl ?_); refine goesL_ (some 24) rfl rfl Try.func92 (by kernel_rfl) rfl #[.slice A0 l0.length c0] rfl (by (try simp only [List.map_toArray, List.map_cons, List.map_nil]); first | done | rfl) ?_; (with_reducible refine (HSP0.out _ (Kd.C_below HR0.out HB.out) HC0.out).mono ?_); rintro e w13 ⟨rfl, hb⟩; refine ⟨_, rfl, ?_⟩; have n0_ := Aside0.mk (below_step (by repeat (first | (with_reducible first | exact HB.out | apply below_alloc | apply pw_below_drewN | apply below_drew1) | exact HB.out)) hb); clear HB; have HB := n0_; clear n0_; (try clear hb))
    | ((with_reducible refine gate_callee (f := 92) rfl ?_); refine goesL_ (some 26) rfl rfl Try.func92 (by kernel_rfl) rfl #[.slice A1 l1.length c1] rfl (by (try simp only [List.map_toArray, List.map_cons, List.map_nil]); first | done | rfl) ?_; (with_reducible refine (HSP1.out _ (Kd.C_below HR1.out HB.out) HC1.out).mono ?_); rintro e w14 ⟨rfl, hb⟩; refine ⟨_, rfl, ?_⟩; have n0_ := Aside0.mk (below_step (by repeat (first | (with_reducible first | exact HB.out | apply below_alloc | apply pw_below_drewN | apply below_drew1) | exact HB.out)) hb); clear HB; have HB := n0_; clear n0_; (try clear hb))
    | (refine wpList_store_row rfl 98 (.tmp 8) (.tmp 24) rfl _ (arr a) rfl rfl 98 (arr zeros21) (heap_alloc2_old _ _ _) HIA.out HOA.out (arr_one a) ?_)
    | (refine wpList_store_row rfl 98 (.tmp 9) (.tmp 26) rfl _ (arr b) rfl rfl 98 (arr zeros21) ((setRow_other _ _ _ _ (Nat.succ_ne_self _)).trans (heap_alloc2_new _ _ _)) HIB.out HOB.out (arr_one b) ?_))
  have f0 : ((((w14.alloc (.cells (arr zeros21) 98)).alloc (.cells (arr zeros21) 98)).setRow w14.heap.size (arr a)).setRow (w14.heap.size + 1) (arr b)).heap[w14.heap.size]? = some (.cells (arr a) 98 (0, 0)) := (setRow_other _ _ _ _ (by omega)).trans (setRow_heap _ _ _ _ _ _ (heap_alloc2_old _ _ _))
  have f1 : ((((w14.alloc (.cells (arr zeros21) 98)).alloc (.cells (arr zeros21) 98)).setRow w14.heap.size (arr a)).setRow (w14.heap.size + 1) (arr b)).heap[w14.heap.size + 1]? = some (.cells (arr b) 98 (0, 0)) := setRow_heap _ _ _ _ _ _ ((setRow_other _ _ _ _ (Nat.succ_ne_self _)).trans (heap_alloc2_new _ _ _))
  have hsz := HB.out.size
  have fb : Below w.heap.size w ((((w14.alloc (.cells (arr zeros21) 98)).alloc (.cells (arr zeros21) 98)).setRow w14.heap.size (arr a)).setRow (w14.heap.size + 1) (arr b)) := below_setRow (below_setRow ((HB.out.alloc hsz _).alloc (by simp; omega) _) hsz _) (by omega) _
  have F0 := Aside0.mk f0
  have F1 := Aside0.mk f1
  have FB := Aside0.mk fb
  have HSZ := Aside0.mk hsz
  clear f0 f1 fb hsz HB
  generalize hG : w14.heap.size = G at *
  clear hG
  go_loopw [27] (fun i w' => ∃ n : Nat, n ≤ 21 ∧ i = .int .i64 n ∧ Aside0 (w'.heap[G]? = some (.cells (arr (List.zipWith (· + ·) (a.take n) (b.take n) ++ a.drop n)) 98 (0, 0))) ∧ Aside0 (w'.heap[G + 1]? = some (.cells (arr b) 98 (0, 0))) ∧ Aside0 (Below w.heap.size w w')) (fun i _ => 21 - (intOf i).toNat)
  case atStart => exact ⟨0, by omega, rfl, ⟨by simpa using F0.out⟩, F1, FB⟩
  case round =>
    clear F0 F1 FB
    obtain ⟨n, hn, rfl, HG0, HG1, HB⟩ := hrel
    by_cases hlt : n < 21
    · have hla := HLA.out
      have hlb := HLB.out
      have hna : n < a.length := by omega
      have hnb : n < b.length := by omega
      have hzl : (List.zipWith (· + ·) (a.take n) (b.take n)).length = n := by simp; omega
      have hc0' := arr_cell HG0.out n (by simp; omega)
      have hf0 := arr_frozen HG0.out n
      have hc1' := arr_cell HG1.out n (by omega)
      have hget : (List.zipWith (· + ·) (a.take n) (b.take n) ++ a.drop n).getD n 0 = a[n] := by
        rw [List.getD_eq_getElem?_getD, List.getElem?_append_right (by omega), hzl, Nat.sub_self, List.getElem?_drop, Nat.add_zero, List.getElem?_eq_getElem hna]
        rfl
      have hgetb : b.getD n 0 = b[n] := by rw [List.getD_eq_getElem?_getD, List.getElem?_eq_getElem hnb]; rfl
      rw [hget] at hc0'
      rw [hgetb] at hc1'
      have ra := HRA.out _ (List.getElem_mem hna)
      have rb := HRB.out _ (List.getElem_mem hnb)
      have hset : (List.zipWith (· + ·) (a.take n) (b.take n) ++ a.drop n).set n (a[n] + b[n]) = List.zipWith (· + ·) (a.take (n + 1)) (b.take (n + 1)) ++ a.drop (n + 1) := by
        rw [List.drop_eq_getElem_cons hna, List.set_append_right _ _ (by omega), hzl, Nat.sub_self, List.set_cons_zero, List.take_succ_eq_append_getElem hna, List.take_succ_eq_append_getElem hnb, List.zipWith_append (by simp; omega)]
        simp
      have hst := arr_store HG0.out n (a[n] + b[n])
      rw [hset] at hst
      obtain ⟨va, hva⟩ : ∃ va, va = a[n] := ⟨_, rfl⟩
      obtain ⟨vb, hvb⟩ : ∃ vb, vb = b[n] := ⟨_, rfl⟩
      rw [← hva] at hc0' ra hst
      rw [← hvb] at hc1' rb hst
      have HST := Aside0.mk hst
      have h0a := ra.1
      have h1a := ra.2
      have h0b := rb.1
      have h1b := rb.2
      clear hst hset hget hgetb ra rb hva hvb hzl hla hlb hna hnb
      go_wp2_with fail
      go_region
      go_wp2_with fail
      go_roundw
      case rel => exact ⟨n + 1, by omega, by go_num, ⟨HST.out⟩, ⟨heap_far HG1.out (by simp) _⟩, ⟨by first | exact (HB.out.drew.setCell HSZ.out _) | exact (HB.out.setCell HSZ.out _).drew⟩⟩
      case measure => simp [intOf]; omega
    · have hz : List.zipWith (· + ·) (a.take n) (b.take n) ++ a.drop n = List.zipWith (· + ·) a b := by
        rw [List.take_of_length_le (by have := HLA.out; omega), List.take_of_length_le (by have := HLB.out; omega), List.drop_eq_nil_of_le (by have := HLA.out; omega), List.append_nil]
      have hg := HG0.out
      rw [hz] at hg
      have hzl : (List.zipWith (· + ·) a b).length = 21 := by simp [HLA.out, HLB.out]
      generalize List.zipWith (· + ·) a b = z at *
      have HZL := Aside0.mk hzl
      have HGZ := Aside0.mk hg
      have HIZ := Aside0.mk (show (Try.prog.info? 98).map (·.size) = some (arr z).size by rw [arr_size, HZL.out]; exact hs98)
      have HCC := Aside0.mk (fun W => collect_calls z W hzl)
      generalize hq : col 0 z = q at *
      obtain ⟨K2, hK2⟩ := wash_vld q
      have A4 := Aside0.mk (show wash_Validate.f K2 q = some (vld q) from hK2 K2 (Nat.le_refl _))
      clear hz hg hzl hK2 hq
      by_cases hv : vld q = 0
      · have hj := HJ.out
        rw [if_pos hv] at hj
        rw [hv] at A4
        subst hj
        clear HJ hv
        go_wp2_with (first
          | (refine wpList_load_row rfl 98 (.tmp 8) rfl G rfl 98 (arr z) (0, 0) _ HGZ.out Try.underlying98 rfl HIZ.out ?_)
          | ((with_reducible refine gate_callee (f := 93) rfl ?_); refine goesL_ (some 40) rfl rfl Try.func93 (by kernel_rfl) rfl #[.agg (arr z)] rfl (by (try simp only [List.map_toArray, List.map_cons, List.map_nil]); first | done | rfl) ?_; (with_reducible refine (HCC.out _).mono ?_); rintro e w15 ⟨v16, rfl, ho0, hb⟩; refine ⟨_, rfl, ?_⟩; have n0_ := Aside0.mk (Kd.R_lower ho0 (below_size (by repeat (first | (with_reducible first | exact HB.out | apply below_alloc | apply pw_below_drewN | apply below_drew1) | exact HB.out)))); have n1_ := Aside0.mk (below_step (by repeat (first | (with_reducible first | exact HB.out | apply below_alloc | apply pw_below_drewN | apply below_drew1) | exact HB.out)) hb); clear HB; have HO := n0_; have HB := n1_; clear n0_ n1_; (try clear hb); (try clear ho0); obtain ⟨Ao, co, eo⟩ := Kd.R_slice HO.out; subst eo)
          | ((with_reducible refine gate_callee (f := 58) rfl ?_); refine goesL_ (some 42) rfl rfl Try.func58 (by kernel_rfl) rfl #[.slice Ao q.length co] rfl (by (try simp only [List.map_toArray, List.map_cons, List.map_nil]); first | done | rfl) ?_; (with_reducible refine (wash_Validate.calls K2 _ _ q 0 _ (Kd.R_reads' HO.out).2.2 (Kd.R_reads' HO.out).2.1 A4.out).mono ?_); rintro e w17 ⟨rfl, hb⟩; refine ⟨_, rfl, ?_⟩; have n0_ := Aside0.mk (Kd.R_below (by (with_reducible repeat (first | apply Kd.R_alloc | apply Kd.R_drewN | apply Kd.R_drew)); exact HO.out) hb); have n1_ := Aside0.mk (below_step (by repeat (first | (with_reducible first | exact HB.out | apply below_alloc | apply pw_below_drewN | apply below_drew1) | exact HB.out)) hb); clear HO; clear HB; have HO := n0_; have HB := n1_; clear n0_ n1_; (try clear hb)))
        go_ret2
        exact ⟨_, rfl, HO.out, HB.out⟩
      · have hj := HJ.out
        rw [if_neg hv] at hj
        subst hj
        clear HJ
        have hv1 : (vld q != 0) = true := bne_iff_ne.mpr hv
        have hv2 : (vld q == 0) = false := beq_eq_false_iff_ne.mpr hv
        clear hv
        go_wp2_with (first
          | (refine wpList_load_row rfl 98 (.tmp 8) rfl G rfl 98 (arr z) (0, 0) _ HGZ.out Try.underlying98 rfl HIZ.out ?_)
          | ((with_reducible refine gate_callee (f := 93) rfl ?_); refine goesL_ (some 40) rfl rfl Try.func93 (by kernel_rfl) rfl #[.agg (arr z)] rfl (by (try simp only [List.map_toArray, List.map_cons, List.map_nil]); first | done | rfl) ?_; (with_reducible refine (HCC.out _).mono ?_); rintro e w15 ⟨v16, rfl, ho0, hb⟩; refine ⟨_, rfl, ?_⟩; have n0_ := Aside0.mk (Kd.R_lower ho0 (below_size (by repeat (first | (with_reducible first | exact HB.out | apply below_alloc | apply pw_below_drewN | apply below_drew1) | exact HB.out)))); have n1_ := Aside0.mk (below_step (by repeat (first | (with_reducible first | exact HB.out | apply below_alloc | apply pw_below_drewN | apply below_drew1) | exact HB.out)) hb); clear HB; have HO := n0_; have HB := n1_; clear n0_ n1_; (try clear hb); (try clear ho0); obtain ⟨Ao, co, eo⟩ := Kd.R_slice HO.out; subst eo)
          | ((with_reducible refine gate_callee (f := 58) rfl ?_); refine goesL_ (some 42) rfl rfl Try.func58 (by kernel_rfl) rfl #[.slice Ao q.length co] rfl (by (try simp only [List.map_toArray, List.map_cons, List.map_nil]); first | done | rfl) ?_; (with_reducible refine (wash_Validate.calls K2 _ _ q (vld q) _ (Kd.R_reads' HO.out).2.2 (Kd.R_reads' HO.out).2.1 A4.out).mono ?_); rintro e w17 ⟨rfl, hb⟩; refine ⟨_, rfl, ?_⟩; have n1_ := Aside0.mk (below_step (by repeat (first | (with_reducible first | exact HB.out | apply below_alloc | apply pw_below_drewN | apply below_drew1) | exact HB.out)) hb); clear HB; have HB := n1_; clear n1_; (try clear hb)))
        go_ret2
        exact ⟨_, rfl, Kd.R_nil _ _ _ _ _, HB.out⟩
set_option maxHeartbeats 1000000 in
set_option maxRecDepth 100000 in
theorem wash_Join.calls (A0 : Option Addr) (c0 : Nat) (l0 : List S58) (A1 : Option Addr) (c1 : Nat) (l1 : List S58) (r1 : List S58) (r2 : Int) (w : World) (hr0 : Kd.C k58 w A0 l0.length l0) (hc0 : l0.length ≤ c0) (hr1 : Kd.C k58 w A1 l1.length l1) (hc1 : l1.length ≤ c1) (h : wash_Join.f l0 l1 = some (r1, r2)) :
    Calls Try.prog 72 #[.slice A0 l0.length c0, .slice A1 l1.length c1] w fun e w' => ∃ v0_ : Value, e = .returned (.tuple #[v0_, .int .i64 r2]) ∧ Kd.R k58 58 w' w.heap.size (fun _ => True) v0_ r1 ∧ Below w.heap.size w w' := by
  have hj : jn l0 l1 = (r1, r2) := Option.some.inj h
  by_cases cv0 : vld l0 = 0
  · by_cases cv1 : vld l1 = 0
    · have := join_calls A0 c0 l0 A1 c1 l1 w hr0 hc0 hr1 hc1 ((vld_zero l0).1 cv0) ((vld_zero l1).1 cv1)
      rw [hj] at this
      exact this
    · rw [show jn l0 l1 = ([], vld l1) by unfold jn; rw [if_pos cv0, if_neg cv1]] at hj
      obtain ⟨rfl, rfl⟩ := Prod.mk.inj hj
      obtain ⟨K0, hK0⟩ := wash_vld l0
      obtain ⟨K1, hK1⟩ := wash_vld l1
      have A2 := Aside0.mk (show wash_Validate.f K0 l0 = some 0 from (hK0 K0 (Nat.le_refl _)).trans (congrArg some cv0))
      have A3 := Aside0.mk (show wash_Validate.f K1 l1 = some (vld l1) from hK1 K1 (Nat.le_refl _))
      have HR0 := Aside0.mk hr0
      have HC0 := Aside0.mk hc0
      have HR1 := Aside0.mk hr1
      have HC1 := Aside0.mk hc1
      have hv1 : (vld l1 != 0) = true := bne_iff_ne.mpr cv1
      have hv2 : (vld l1 == 0) = false := beq_eq_false_iff_ne.mpr cv1
      clear hr0 hc0 hr1 hc1 hK0 hK1 hj h cv0 cv1
      have HB := Aside0.mk (Below.refl w.heap.size w)
      go_enter Try.func72, Try.ntmps72
      go_wp2_with (first
        | ((with_reducible refine gate_callee (f := 58) rfl ?_); refine goesL_ (some 14) rfl rfl Try.func58 (by kernel_rfl) rfl #[.slice A0 l0.length c0] rfl (by (try simp only [List.map_toArray, List.map_cons, List.map_nil]); first | done | rfl) ?_; (with_reducible refine (wash_Validate.calls K0 _ _ l0 0 _ (Kd.C_below HR0.out HB.out) HC0.out A2.out).mono ?_); rintro e w11 ⟨rfl, hb⟩; refine ⟨_, rfl, ?_⟩; have n0_ := Aside0.mk (below_step (by repeat (first | (with_reducible first | exact HB.out | apply below_alloc | apply pw_below_drewN | apply below_drew1) | exact HB.out)) hb); clear HB; have HB := n0_; clear n0_; (try clear hb))
        | ((with_reducible refine gate_callee (f := 58) rfl ?_); refine goesL_ (some 19) rfl rfl Try.func58 (by kernel_rfl) rfl #[.slice A1 l1.length c1] rfl (by (try simp only [List.map_toArray, List.map_cons, List.map_nil]); first | done | rfl) ?_; (with_reducible refine (wash_Validate.calls K1 _ _ l1 (vld l1) _ (Kd.C_below HR1.out HB.out) HC1.out A3.out).mono ?_); rintro e w12 ⟨rfl, hb⟩; refine ⟨_, rfl, ?_⟩; have n0_ := Aside0.mk (below_step (by repeat (first | (with_reducible first | exact HB.out | apply below_alloc | apply pw_below_drewN | apply below_drew1) | exact HB.out)) hb); clear HB; have HB := n0_; clear n0_; (try clear hb)))
      go_ret2
      exact ⟨_, rfl, Kd.R_nil _ _ _ _ _, HB.out⟩
  · rw [show jn l0 l1 = ([], vld l0) by unfold jn; rw [if_neg cv0]] at hj
    obtain ⟨rfl, rfl⟩ := Prod.mk.inj hj
    obtain ⟨K0, hK0⟩ := wash_vld l0
    have A2 := Aside0.mk (show wash_Validate.f K0 l0 = some (vld l0) from hK0 K0 (Nat.le_refl _))
    have HR0 := Aside0.mk hr0
    have HC0 := Aside0.mk hc0
    have hv1 : (vld l0 != 0) = true := bne_iff_ne.mpr cv0
    have hv2 : (vld l0 == 0) = false := beq_eq_false_iff_ne.mpr cv0
    clear hr0 hc0 hr1 hc1 hK0 hj h cv0
    have HB := Aside0.mk (Below.refl w.heap.size w)
    go_enter Try.func72, Try.ntmps72
    go_wp2_with (first
      | ((with_reducible refine gate_callee (f := 58) rfl ?_); refine goesL_ (some 14) rfl rfl Try.func58 (by kernel_rfl) rfl #[.slice A0 l0.length c0] rfl (by (try simp only [List.map_toArray, List.map_cons, List.map_nil]); first | done | rfl) ?_; (with_reducible refine (wash_Validate.calls K0 _ _ l0 (vld l0) _ (Kd.C_below HR0.out HB.out) HC0.out A2.out).mono ?_); rintro e w11 ⟨rfl, hb⟩; refine ⟨_, rfl, ?_⟩; have n0_ := Aside0.mk (below_step (by repeat (first | (with_reducible first | exact HB.out | apply below_alloc | apply pw_below_drewN | apply below_drew1) | exact HB.out)) hb); clear HB; have HB := n0_; clear n0_; (try clear hb)))
    go_ret2
    exact ⟨_, rfl, Kd.R_nil _ _ _ _ _, HB.out⟩
end Go.Proofs.Ytbckhllkjlgbpaa.P
