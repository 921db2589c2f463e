/- The first number of a list that is not 0 (slices.IndexFunc with the program's closure), and slices.Contains; for lists that are not long. -/
import Derived.Test.YtdneelgnmnpanaaPlain
import Derived.Test.YtdneelgnmnpanaaPa
namespace Go.Proofs.Ytdneelgnmnpanaa.P
open Go.RowKit Go.Proofs.YtdneelgnmnpanaaW.PrintWords Go.Proofs.YtdneelgnmnpanaaW.PrintLast Go.Proofs.YtdneelgnmnpanaaW.PrintMore
set_option linter.unusedVariables false
set_option linter.unusedSimpArgs false
def nzi : List Int → Int
  | [] => -1
  | x :: l => if x ≠ 0 then 0 else if nzi l < 0 then -1 else nzi l + 1
theorem nzi_at : ∀ (l : List Int) (n : Nat) (hn : n < l.length), (∀ k, k < n → l.getD k 0 = 0) → l[n] ≠ 0 → nzi l = n
  | [], n, hn, _, _ => by simp at hn
  | x :: l, 0, hn, _, h0 => by rw [nzi, if_pos (by simpa using h0)]; rfl
  | x :: l, n + 1, hn, h, h0 => by
    have hx := h 0 (by omega)
    simp only [List.getD_cons_zero] at hx
    rw [nzi, if_neg (fun hh => hh hx), nzi_at l n (by simpa using hn) (fun k hk => by have := h (k + 1) (by omega); simpa using this) (by simpa using h0), if_neg (by omega)]
    omega
theorem nzi_none : ∀ (l : List Int), (∀ k, k < l.length → l.getD k 0 = 0) → nzi l = -1
  | [], _ => rfl
  | x :: l, h => by
    have hx := h 0 (by simp)
    simp only [List.getD_cons_zero] at hx
    rw [nzi, if_neg (fun hh => hh hx), nzi_none l (fun k hk => by have := h (k + 1) (by simpa using hk); simpa using this)]
    rfl
theorem nzi_lt : ∀ (l : List Int), nzi l < l.length
  | [] => by simp [nzi]
  | x :: l => by
    have := nzi_lt l
    rw [nzi]
    split
    · rw [List.length_cons]; omega
    · split <;> rw [List.length_cons] <;> omega
theorem rd_nat (l : List Int) (n : Nat) (h : n < l.length) : rd l (n : Int) = l[n] := by simp [rd, h]
theorem index_find (l : List Int) (a : Int) (hl : l.length ≤ 1000) : ∀ (d n : Nat), n + d = l.length → ∃ k r, slices_Index_int_int.l0 k l a (l.length : Int) (n : Int) = some r ∧ decide (r ≥ 0) = decide (a ∈ l.drop n) := by
  intro d
  induction d with
  | zero =>
    intro n hn
    refine ⟨1, -1, ?_, ?_⟩
    · rw [slices_Index_int_int.l0, if_neg (by omega)]
    · rw [List.drop_eq_nil_of_le (by omega)]
      simp
  | succ d ih =>
    intro n hn
    have hlt : n < l.length := by omega
    by_cases h : a = l[n]
    · refine ⟨1, (n : Int), ?_, ?_⟩
      · rw [slices_Index_int_int.l0, if_pos (by omega), if_pos (by omega), if_pos (by omega), rd_nat l n hlt, if_pos h]
      · have : a ∈ l.drop n := by rw [List.drop_eq_getElem_cons hlt, ← h]; exact List.mem_cons_self ..
        rw [decide_eq_true this, decide_eq_true (by omega)]
    · obtain ⟨k, r, h1, h2⟩ := ih (n + 1) (by omega)
      refine ⟨k + 1, r, ?_, ?_⟩
      · rw [slices_Index_int_int.l0, if_pos (by omega), if_pos (by omega), if_pos (by omega), rd_nat l n hlt, if_neg h, wrp (by omega) (by omega)]
        exact h1
      · rw [h2, List.drop_eq_getElem_cons hlt]
        have : a ∈ l[n] :: l.drop (n + 1) ↔ a ∈ l.drop (n + 1) := ⟨fun hh => by rcases List.mem_cons.1 hh with e | e; exact absurd e h; exact e, fun hh => List.mem_cons_of_mem _ hh⟩
        exact (decide_eq_decide.2 this).symm
theorem contains_calls (A0 : Option Addr) (c0 : Nat) (l0 : List Int) (a : Int) (w : World) (hr0 : Kd.C (Kd.int .i64) w A0 l0.length l0) (hc0 : l0.length ≤ c0) (hl : l0.length ≤ 1000) :
    Calls Try.prog 116 #[.slice A0 l0.length c0, .int .i64 a] w fun e w' => e = .returned (.bool (decide (a ∈ l0))) ∧ Below w.heap.size w w' := by
  obtain ⟨k, r, h1, h2⟩ := index_find l0 a hl l0.length 0 (by omega)
  have h : slices_Contains_int_int.f k l0 a = some (decide (a ∈ l0)) := by
    unfold slices_Contains_int_int.f slices_Index_int_int.f
    rw [show slices_Index_int_int.l0 k l0 a (l0.length : Int) 0 = some r from h1, Option.bind_some, h2, List.drop_zero]
  exact (slices_Contains_int_int.calls k A0 c0 l0 a _ w hr0 hc0 h).mono fun e w' hh => ⟨hh.1, hh.2.below⟩
set_option maxHeartbeats 1000000 in
set_option maxRecDepth 100000 in
theorem isnz_calls (t : Int) (w : World) : Calls Try.prog 120 #[.int .i64 t] w fun e w' => e = .returned (.bool (t != 0)) ∧ Below w.heap.size w w' := by
  obtain ⟨b, hb⟩ : ∃ b, b = (t != 0) := ⟨_, rfl⟩
  go_enter Try.func120, Try.ntmps120
  go_wp2_with fail
  go_ret
  exact ⟨rfl, Below.refl _ _⟩
set_option maxHeartbeats 2000000 in
set_option maxRecDepth 100000 in
theorem nzi_calls (A0 : Option Addr) (c0 : Nat) (l0 : List Int) (w : World) (hr0 : Kd.C (Kd.int .i64) w A0 l0.length l0) (hc0 : l0.length ≤ c0) (hl : l0.length ≤ 1000) :
    Calls Try.prog 119 #[.slice A0 l0.length c0, .func (.func 120) #[] #[]] w fun e w' => e = .returned (.int .i64 (nzi l0)) ∧ Below w.heap.size w w' := by
  have HR0 := Aside0.mk hr0
  have HC0 := Aside0.mk hc0
  have HL := Aside0.mk hl
  clear hr0 hc0
  have HB := Aside0.mk (Below.refl w.heap.size w)
  go_enter Try.func119, Try.ntmps119
  go_wp2_with fail
  go_loopw [8] (fun i w' => ∃ n : Nat, n ≤ l0.length ∧ i = .int .i64 n ∧ Aside0 (∀ k, k < n → l0.getD k 0 = 0) ∧ Aside0 (Below w.heap.size w w')) (fun i _ => l0.length - (intOf i).toNat)
  case atStart => exact ⟨0, by omega, rfl, ⟨fun q hq => absurd hq (by omega)⟩, by first | exact HB | exact ⟨HB.out.drew⟩⟩
  case round =>
    clear HB
    obtain ⟨n, hn, rfl, HA, HB⟩ := hrel
    by_cases hlt : n < l0.length
    · have p1 : 0 ≤ (n : Int) := by omega
      have q1 : (n : Int) < (l0.length : Int) := by omega
      obtain ⟨ad1, e1, hx0⟩ := Kd.at_int HR0.out (n : Int) p1 q1
      cases e1
      replace hx0 := (HB.out.cell (World.block_lt_of_cell? w _ hx0)).trans hx0
      rw [rd_nat l0 n hlt] at hx0
      simp only [Int.toNat_natCast] at hx0
      obtain ⟨x, hx⟩ : ∃ x, x = l0[n] := ⟨_, rfl⟩
      rw [← hx] at hx0
      have HX := Aside0.mk hx
      have HY := Aside0.mk (fun W => isnz_calls x W)
      obtain ⟨b, hb⟩ : ∃ b, b = (x != 0) := ⟨_, rfl⟩
      rw [← hb] at HY
      have HBB := Aside0.mk hb
      clear hx hb
      cases b with
      | true =>
        go_wp2_with (first
          | ((with_reducible refine gate_dst (N := 16) rfl ?_); refine goesC_ (some 16) rfl rfl 11 #[] rfl Try.func120 (by kernel_rfl) rfl rfl #[.int .i64 x] (by (try simp only [List.map_toArray, List.map_cons, List.map_nil]); first | done | rfl) ?_; (with_reducible refine (HY.out _).mono ?_); rintro e w9 ⟨rfl, hb⟩; refine ⟨_, rfl, ?_⟩; have n0_ := Aside0.mk (below_step (by repeat (first | (with_reducible first | exact HB.out | apply below_alloc | apply pw_below_drewN | apply below_drew1) | exact HB.out)) hb); clear HB; have HB := n0_; clear n0_; (try clear hb)))
        go_ret
        refine ⟨?_, HB.out⟩
        have h1 := HBB.out.symm
        rw [nzi_at l0 n hlt HA.out (by rw [← HX.out]; simpa using h1)]
        rfl
      | false =>
        go_wp2_with (first
          | ((with_reducible refine gate_dst (N := 16) rfl ?_); refine goesC_ (some 16) rfl rfl 11 #[] rfl Try.func120 (by kernel_rfl) rfl rfl #[.int .i64 x] (by (try simp only [List.map_toArray, List.map_cons, List.map_nil]); first | done | rfl) ?_; (with_reducible refine (HY.out _).mono ?_); rintro e w9 ⟨rfl, hb⟩; refine ⟨_, rfl, ?_⟩; have n0_ := Aside0.mk (below_step (by repeat (first | (with_reducible first | exact HB.out | apply below_alloc | apply pw_below_drewN | apply below_drew1) | exact HB.out)) hb); clear HB; have HB := n0_; clear n0_; (try clear hb)))
        go_roundw
        case rel =>
          refine ⟨n + 1, by omega, by go_num, ⟨fun k hk => ?_⟩, HB⟩
          by_cases hk2 : k < n
          · exact HA.out k hk2
          · obtain rfl : k = n := by omega
            have h1 := HBB.out.symm
            have h2 : x = 0 := by simpa using h1
            have h3 : l0.getD k 0 = l0[k] := by rw [List.getD_eq_getElem?_getD, List.getElem?_eq_getElem hlt]; rfl
            exact h3.trans (HX.out.symm.trans h2)
        case measure => simp [intOf]; omega
    · obtain rfl : n = l0.length := by omega
      go_wp2_with fail
      go_ret
      exact ⟨by rw [nzi_none l0 HA.out]; rfl, HB.out⟩
end Go.Proofs.Ytdneelgnmnpanaa.P
