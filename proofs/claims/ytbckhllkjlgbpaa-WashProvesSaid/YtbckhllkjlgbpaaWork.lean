/- How much more lies below each size: what the program's work does; a contract for all right lots. -/
import Derived.Test.YtbckhllkjlgbpaaSpread
import Derived.Test.YtbckhllkjlgbpaaVld
namespace Go.Proofs.Ytbckhllkjlgbpaa.P
open Go.RowKit Go.Proofs.YtbckhllkjlgbpaaW.PrintWords Go.Proofs.YtbckhllkjlgbpaaW.PrintLast Go.Proofs.YtbckhllkjlgbpaaW.PrintMore
set_option linter.unusedVariables false
/-- The sum of what lies more below each size, and whether nowhere less lies there. -/
def wk : List Int → List Int → Int → Int → Int × Bool
  | x :: a, y :: b, ah, s => if ah + (x - y) < 0 then (0, false) else wk a b (ah + (x - y)) (s + (ah + (x - y)))
  | _, _, _, s => (s, true)
def wash_work.f (l m : List S58) : Option (Int × Bool) := if vld l = 0 ∧ vld m = 0 then some (wk (spr l zeros21) (spr m zeros21) 0 0) else none
set_option maxHeartbeats 2000000 in
set_option maxRecDepth 100000 in
theorem wash_work.calls (A0 : Option Addr) (c0 : Nat) (l0 : List S58) (A1 : Option Addr) (c1 : Nat) (l1 : List S58) (r1 : Int) (r2 : Bool) (w : World) (hr0 : Kd.C k58 w A0 l0.length l0) (hc0 : l0.length ≤ c0) (hr1 : Kd.C k58 w A1 l1.length l1) (hc1 : l1.length ≤ c1) (h : wash_work.f l0 l1 = some (r1, r2)) :
    Calls Try.prog 98 #[.slice A0 l0.length c0, .slice A1 l1.length c1] w fun e w' => e = .returned (.tuple #[.int .i64 r1, .bool r2]) ∧ Below w.heap.size w w' := by
  obtain ⟨cv0, cv1⟩ : vld l0 = 0 ∧ vld l1 = 0 := by
    unfold wash_work.f at h
    split at h
    · rename_i h1; exact h1
    · cases h
  have hwk : wk (spr l0 zeros21) (spr l1 zeros21) 0 0 = (r1, r2) := by
    unfold wash_work.f at h
    rw [if_pos ⟨cv0, cv1⟩] at h
    exact Option.some.inj h
  have hv0 := (vld_zero l0).1 cv0
  have hv1 := (vld_zero l1).1 cv1
  have HR0 := Aside0.mk hr0
  have HC0 := Aside0.mk hc0
  have HR1 := Aside0.mk hr1
  have HC1 := Aside0.mk hc1
  have ha := spr_length l0 zeros21
  have hb := spr_length l1 zeros21
  have hra := spr_range l0 zeros21 (fun x hx => by have := hv0.2.mass x hx; omega) zeros21_range
  have hrb := spr_range l1 zeros21 (fun x hx => by have := hv1.2.mass x hx; omega) zeros21_range
  have hsp0 := fun W HR HC => spread_calls A0 c0 l0 W HR HC (fun x hx => by have := hv0.2.mass x hx; omega) hv0.small.1
  have hsp1 := fun W HR HC => spread_calls A1 c1 l1 W HR HC (fun x hx => by have := hv1.2.mass x hx; omega) hv1.small.1
  generalize spr l0 zeros21 = a at *
  generalize spr l1 zeros21 = b at *
  have HSP0 := Aside0.mk hsp0
  have HSP1 := Aside0.mk hsp1
  have HLA := Aside0.mk (show a.length = 21 from ha)
  have HLB := Aside0.mk (show b.length = 21 from hb)
  have HRA := Aside0.mk hra
  have HRB := Aside0.mk hrb
  have HW := Aside0.mk hwk
  clear hr0 hc0 hr1 hc1 hv0 hv1 cv0 cv1 ha hb hra hrb hsp0 hsp1 hwk h
  have HB := Aside0.mk (Below.refl w.heap.size w)
  have hu98 := Try.underlying98
  obtain ⟨hz98, hs98⟩ := zero_of_info info98
  have HIA := Aside0.mk (show (Try.prog.info? 98).map (·.size) = some (arr a).size by rw [arr_size, HLA.out]; exact hs98)
  have HIB := Aside0.mk (show (Try.prog.info? 98).map (·.size) = some (arr b).size by rw [arr_size, HLB.out]; exact hs98)
  have HOA := Aside0.mk (show (arr zeros21).size = (arr a).size by rw [arr_size, arr_size, HLA.out]; rfl)
  have HOB := Aside0.mk (show (arr zeros21).size = (arr b).size by rw [arr_size, arr_size, HLB.out]; rfl)
  go_enter Try.func98, Try.ntmps98
  go_wp2_with (first
    | ((with_reducible refine gate_callee (f := 92) rfl ?_); refine goesL_ (some 12) rfl rfl Try.func92 (by kernel_rfl) rfl #[.slice A0 l0.length c0] rfl (by (try simp only [List.map_toArray, List.map_cons, List.map_nil]); first | done | rfl) ?_; (with_reducible refine (HSP0.out _ (Kd.C_below HR0.out HB.out) HC0.out).mono ?_); rintro e w13 ⟨rfl, hb⟩; refine ⟨_, rfl, ?_⟩; have n0_ := Aside0.mk (below_step (by repeat (first | (with_reducible first | exact HB.out | apply below_alloc | apply pw_below_drewN | apply below_drew1) | exact HB.out)) hb); clear HB; have HB := n0_; clear n0_; (try clear hb))
    | ((with_reducible refine gate_callee (f := 92) rfl ?_); refine goesL_ (some 14) rfl rfl Try.func92 (by kernel_rfl) rfl #[.slice A1 l1.length c1] rfl (by (try simp only [List.map_toArray, List.map_cons, List.map_nil]); first | done | rfl) ?_; (with_reducible refine (HSP1.out _ (Kd.C_below HR1.out HB.out) HC1.out).mono ?_); rintro e w14 ⟨rfl, hb⟩; refine ⟨_, rfl, ?_⟩; have n0_ := Aside0.mk (below_step (by repeat (first | (with_reducible first | exact HB.out | apply below_alloc | apply pw_below_drewN | apply below_drew1) | exact HB.out)) hb); clear HB; have HB := n0_; clear n0_; (try clear hb))
    | (refine wpList_store_row rfl 98 (.tmp 6) (.tmp 12) rfl _ (arr a) rfl rfl 98 (arr zeros21) (heap_alloc2_old _ _ _) HIA.out HOA.out (arr_one a) ?_)
    | (refine wpList_store_row rfl 98 (.tmp 7) (.tmp 14) rfl _ (arr b) rfl rfl 98 (arr zeros21) ((setRow_other _ _ _ _ (Nat.succ_ne_self _)).trans (heap_alloc2_new _ _ _)) HIB.out HOB.out (arr_one b) ?_))
  have f0 : ((((w14.alloc (.cells (arr zeros21) 98)).alloc (.cells (arr zeros21) 98)).setRow w14.heap.size (arr a)).setRow (w14.heap.size + 1) (arr b)).heap[w14.heap.size]? = some (.cells (arr a) 98 (0, 0)) := (setRow_other _ _ _ _ (by omega)).trans (setRow_heap _ _ _ _ _ _ (heap_alloc2_old _ _ _))
  have f1 : ((((w14.alloc (.cells (arr zeros21) 98)).alloc (.cells (arr zeros21) 98)).setRow w14.heap.size (arr a)).setRow (w14.heap.size + 1) (arr b)).heap[w14.heap.size + 1]? = some (.cells (arr b) 98 (0, 0)) := setRow_heap _ _ _ _ _ _ ((setRow_other _ _ _ _ (Nat.succ_ne_self _)).trans (heap_alloc2_new _ _ _))
  have hsz := HB.out.size
  have fb : Below w.heap.size w ((((w14.alloc (.cells (arr zeros21) 98)).alloc (.cells (arr zeros21) 98)).setRow w14.heap.size (arr a)).setRow (w14.heap.size + 1) (arr b)) := below_setRow (below_setRow ((HB.out.alloc hsz _).alloc (by simp; omega) _) hsz _) (by omega) _
  have F0 := Aside0.mk f0
  have F1 := Aside0.mk f1
  have FB := Aside0.mk fb
  have HSZ := Aside0.mk hsz
  clear f0 f1 fb hsz HB
  generalize hG : w14.heap.size = G at *
  clear hG
  go_loopw [8, 9, 15] (fun sv av i w' => ∃ (n : Nat) (s ah : Int), n ≤ 21 ∧ i = .int .i64 n ∧ sv = .int .i64 s ∧ av = .int .i64 ah ∧ 0 ≤ ah ∧ ah ≤ 100 * n ∧ 0 ≤ s ∧ s ≤ 2100 * n ∧ Aside0 (wk (a.drop n) (b.drop n) ah s = (r1, r2)) ∧ Aside0 (w'.heap[G]? = some (.cells (arr a) 98 (0, 0))) ∧ Aside0 (w'.heap[G + 1]? = some (.cells (arr b) 98 (0, 0))) ∧ Aside0 (Below w.heap.size w w')) (fun _ _ i _ => 21 - (intOf i).toNat)
  case atStart => exact ⟨0, 0, 0, by omega, rfl, rfl, rfl, by omega, by omega, by omega, by omega, HW, F0, F1, FB⟩
  case round =>
    clear F0 F1 FB
    obtain ⟨n, s, ah, hn, rfl, rfl, rfl, ha0, ha1, hs0, hs1, HW, HG0, HG1, HB⟩ := hrel
    by_cases hlt : n < 21
    · have hla := HLA.out
      have hlb := HLB.out
      have hna : n < a.length := by omega
      have hnb : n < b.length := by omega
      have hc0' := arr_cell HG0.out n hna
      have hc1' := arr_cell HG1.out n hnb
      have hget : a.getD n 0 = a[n] := by rw [List.getD_eq_getElem?_getD, List.getElem?_eq_getElem hna]; rfl
      have hgetb : b.getD n 0 = b[n] := by rw [List.getD_eq_getElem?_getD, List.getElem?_eq_getElem hnb]; rfl
      rw [hget] at hc0'
      rw [hgetb] at hc1'
      have ra := HRA.out _ (List.getElem_mem hna)
      have rb := HRB.out _ (List.getElem_mem hnb)
      have hw := HW.out
      rw [List.drop_eq_getElem_cons hna, List.drop_eq_getElem_cons hnb, wk] at hw
      generalize a[n] = va at *
      generalize b[n] = vb at *
      have h0a := ra.1
      have h1a := ra.2
      have h0b := rb.1
      have h1b := rb.2
      have HW2 := Aside0.mk hw
      clear hw HW hget hgetb ra rb hla hlb hna hnb
      by_cases hneg : ah + (va - vb) < 0
      · have hw := HW2.out
        rw [if_pos hneg] at hw
        obtain ⟨rfl, rfl⟩ := Prod.mk.inj hw
        clear hw HW2
        go_wp2_with fail
        go_region
        go_wp2_with fail
        go_ret2
        exact ⟨rfl, by first | exact HB.out.drew | exact HB.out⟩
      · have hw := HW2.out
        rw [if_neg hneg] at hw
        have HW := Aside0.mk hw
        clear hw HW2
        go_wp2_with fail
        go_region
        go_wp2_with fail
        go_roundw
        case rel => exact ⟨n + 1, _, _, by omega, by go_num, rfl, rfl, by omega, by omega, by omega, by omega, HW, ⟨HG0.out⟩, ⟨HG1.out⟩, ⟨by first | exact HB.out.drew | exact HB.out⟩⟩
        case measure => simp [intOf]; omega
    · have hw := HW.out
      rw [List.drop_eq_nil_of_le (by have := HLA.out; omega), wk] at hw
      · obtain ⟨rfl, rfl⟩ := Prod.mk.inj hw
        clear hw HW
        go_wp2_with fail
        go_ret2
        exact ⟨rfl, HB.out⟩
      · intro x l y l2 h1
        cases h1
end Go.Proofs.Ytbckhllkjlgbpaa.P
