/- Lines of six numbers in a block: cells, ranges, stores; the program's closure that looks at one number of a line, slices.IndexFunc with it, and the exchange of two lines. -/
import Derived.Test.YtdneelgnmnpanaaP0
import Derived.Deep.MidRow
import Derived.Deep.WholeRow
import Derived.RegionTactic
import Derived.Deep.QuietTactic
import Derived.BigQuiet
import Derived.WalkSpells
import Derived.ChangeAlike
import Derived.Test.YtdneelgnmnpanaaAll
namespace Go.Proofs.Ytdneelgnmnpanaa.P
open Go.RowKit Go.Proofs.YtdneelgnmnpanaaW.PrintWords Go.Proofs.YtdneelgnmnpanaaW.PrintLast Go.Proofs.YtdneelgnmnpanaaW.PrintMore
set_option linter.unusedVariables false
set_option linter.unusedSimpArgs false
/-- Numbers as cells. -/
def arr (m : List Int) : Array Value := ⟨m.map (Value.int .i64)⟩
theorem arr_size (m : List Int) : (arr m).size = m.length := by simp [arr]
theorem arr_get (m : List Int) (i : Nat) (h : i < m.length) : (arr m)[i]? = some (.int .i64 (m.getD i 0)) := by simp [arr, h]
theorem arr_set (m : List Int) (i : Nat) (v : Int) : (arr m).setIfInBounds i (.int .i64 v) = arr (m.set i v) := by
  apply Array.ext'
  simp [arr, List.map_set]
theorem arr_one (m : List Int) : (arr m).all (·.oneCell') = true := by
  simp [arr, Value.oneCell']
theorem arr_cell {w : World} {g : Nat} {m : List Int} {t : TypeId} (h : w.heap[g]? = some (.cells (arr m) t (0, 0))) (i : Nat) (hi : i < m.length) : w.cell? ⟨g, i, none⟩ = some (.int .i64 (m.getD i 0)) := by
  rw [cell_of_row w g i (arr m) t (0, 0) h]
  exact arr_get m i hi
theorem arr_frozen {w : World} {g : Nat} {m : List Int} {t : TypeId} (h : w.heap[g]? = some (.cells (arr m) t (0, 0))) (i : Nat) : w.frozen? ⟨g, i, none⟩ = false := frozen_of_row w g i _ _ h
theorem arr_store {w : World} {g : Nat} {m : List Int} {t : TypeId} (h : w.heap[g]? = some (.cells (arr m) t (0, 0))) (i : Nat) (v : Int) : (w.setCell ⟨g, i, none⟩ (.int .i64 v)).heap[g]? = some (.cells (arr (m.set i v)) t (0, 0)) := by
  rw [heap_setCell_same _ g i (arr m) t _ h, arr_set]
/-- The numbers from a place on are others. -/
def put : List Int → Nat → List Int → List Int
  | m, _, [] => m
  | m, o, v :: r => put (m.set o v) (o + 1) r
theorem put_length : ∀ (r m : List Int) (o : Nat), (put m o r).length = m.length
  | [], _, _ => rfl
  | v :: r, m, o => by rw [put, put_length r]; simp
theorem arr_stores {g : Nat} {t : TypeId} : ∀ (r m : List Int) (o : Nat) (w : World), w.heap[g]? = some (.cells (arr m) t (0, 0)) → (w.setCells g o (r.map (Value.int .i64))).heap[g]? = some (.cells (arr (put m o r)) t (0, 0))
  | [], _, _, _, h => h
  | v :: r, m, o, w, h => by
    rw [List.map_cons, World.setCells, put]
    exact arr_stores r _ _ _ (arr_store h o v)
/-- The line that begins at a place. -/
def row (m : List Int) (o : Nat) : List Int := (m.drop o).take 6
theorem row_length (m : List Int) (o : Nat) (h : o + 6 ≤ m.length) : (row m o).length = 6 := by
  simp [row]
  omega
theorem arr_range {w : World} {g : Nat} {m : List Int} {t : TypeId} (h : w.heap[g]? = some (.cells (arr m) t (0, 0))) (o : Nat) (ho : o + 6 ≤ m.length) : w.rangeAt g o ((row m o).map (Value.int .i64)) := by
  intro j v hj
  have hjl : j < 6 := by
    have := (List.getElem?_eq_some_iff.1 hj).1
    simp [row] at this
    omega
  rw [arr_cell h (o + j) (by omega), ← hj]
  simp [row, hjl, List.getElem?_take, List.getElem?_drop, List.getElem?_eq_getElem (show o + j < m.length by omega)]
theorem arr_there {w : World} {g : Nat} {m : List Int} {t : TypeId} (h : w.heap[g]? = some (.cells (arr m) t (0, 0))) (o n : Nat) (ho : o + n ≤ m.length) : w.there g o n := by
  intro j hj
  exact ⟨by rw [arr_cell h (o + j) (by omega)]; rfl, arr_frozen h _⟩
theorem size76 : (Try.prog.info? 76).map (·.size) = some 6 := by kernel_rfl
set_option maxHeartbeats 1000000 in
set_option maxRecDepth 100000 in
theorem nz_calls (m : List Int) (i g : Nat) (w : World) (hm : m.length = 6) (hi : i < 6) (hbx : w.cell? ⟨g, 0, none⟩ = some (.int .i64 (i : Int))) :
    Calls Try.prog 127 #[.agg (arr m), .pointer (some ⟨g, 0, none⟩)] w fun e w' => e = .returned (.bool (m.getD i 0 != 0)) ∧ Below w.heap.size w w' := by
  have hu76 := Try.underlying76
  have HB := Aside0.mk (Below.refl w.heap.size w)
  have HM := Aside0.mk hm
  obtain ⟨v, hv⟩ : ∃ v, v = m.getD i 0 := ⟨_, rfl⟩
  rw [← hv]
  have HV := Aside0.mk hv
  clear hm hv
  go_enter Try.func127, Try.ntmps127
  go_wp2_with (first
      | ((with_reducible refine gate_dst (N := 2) rfl ?_); refine box_event ?hg (N := 2) ?hd (cs := arr m) (t := 76) ?hr ?_; (case hd => rfl); (case hg => rfl); (case hr => first | (go_simp; done) | (go_simp; rfl)); intro g2 hg2 w1 hbox hbe; have hc1 := arr_cell hbox i (by rw [HM.out]; exact hi); rw [← HV.out] at hc1; have hb1 := (hbe.cell (World.block_lt_of_cell? w _ hbx)).trans hbx; have n0_ := Aside0.mk (below_step HB.out hbe); clear HB; have HB := n0_; clear n0_; clear hbox hbe hg2))
  go_ret
  exact ⟨rfl, HB.out⟩
/-- The first line that has a number, not 0, at a place. -/
def fst (i : Nat) : List (List Int) → Int
  | [] => -1
  | r :: l => if r.getD i 0 ≠ 0 then 0 else if fst i l < 0 then -1 else fst i l + 1
theorem rowD (rows : List (List Int)) (q : Nat) (hq : q < rows.length) : rows.getD q [] = rows[q] := by
  rw [List.getD_eq_getElem?_getD, List.getElem?_eq_getElem hq, Option.getD_some]
theorem zero_of {r s : List Int} {i : Nat} (e : r = s) (h : false = (s.getD i 0 != 0)) : r.getD i 0 = 0 := by
  subst e
  have := h.symm
  simpa [-List.getD_eq_getElem?_getD] using this
/-- What a slice of lines reads as. -/
def Rd (w : World) (A : Option Addr) (rows : List (List Int)) : Prop := rows ≠ [] → ∃ b o, A = some ⟨b, o, none⟩ ∧ ∀ k r, rows[k]? = some r → r.length = 6 ∧ w.rangeAt b (o + k * 6) (r.map (Value.int .i64))
theorem range_below {w w' : World} {b o : Nat} {cs : List Value} (h : w.rangeAt b o cs) (hb : Below w.heap.size w w') : w'.rangeAt b o cs := fun j v hj => (hb.cell (World.block_lt_of_cell? w _ (h j v hj))).trans (h j v hj)
theorem fst_drop (i : Nat) (rows : List (List Int)) (n : Nat) (hn : n < rows.length) (h : ∀ k, k < n → (rows.getD k []).getD i 0 = 0) : fst i rows = if rows[n].getD i 0 ≠ 0 then (n : Int) else if fst i (rows.drop (n + 1)) < 0 then -1 else fst i (rows.drop (n + 1)) + n + 1 := by
  induction n generalizing rows with
  | zero =>
    cases rows with
    | nil => simp at hn
    | cons r l => rw [fst]; simp
  | succ n ih =>
    cases rows with
    | nil => simp at hn
    | cons r l =>
      have h0 := h 0 (by omega)
      simp only [List.getD_cons_zero] at h0
      have hn' : n < l.length := by simpa using hn
      have e := ih l hn' (fun k hk => by have := h (k + 1) (by omega); simpa using this)
      rw [fst, if_neg (fun hh => hh h0), e]
      simp only [List.getElem_cons_succ, List.drop_succ_cons]
      split
      · rw [if_neg (by omega)]; omega
      · split
        · rfl
        · rw [if_neg (by omega)]; omega
theorem fst_none (i : Nat) : ∀ (rows : List (List Int)), (∀ r ∈ rows, r.getD i 0 = 0) → fst i rows = -1
  | [], _ => rfl
  | r :: l, h => by
    rw [fst, if_neg (fun hh => hh (h r (List.mem_cons_self ..))), fst_none i l (fun x hx => h x (List.mem_cons_of_mem _ hx))]
    rfl
set_option maxHeartbeats 2000000 in
set_option maxRecDepth 100000 in
theorem idxL_calls (A : Option Addr) (c : Nat) (rows : List (List Int)) (i g : Nat) (w : World) (hA : Rd w A rows) (hl : rows.length ≤ 1000) (hc : rows.length ≤ c) (hi : i < 6) (hbx : w.cell? ⟨g, 0, none⟩ = some (.int .i64 (i : Int))) :
    Calls Try.prog 126 #[.slice A rows.length c, .func (.func 127) #[] #[.pointer (some ⟨g, 0, none⟩)]] w fun e w' => e = .returned (.int .i64 (fst i rows)) ∧ Below w.heap.size w w' := by
  have hu76 := Try.underlying76
  have hu65 := Try.underlying65
  have hs76 := size76
  have HR := Aside0.mk hA
  have HBX := Aside0.mk hbx
  have HL := Aside0.mk hl
  have HC := Aside0.mk hc
  clear hA hbx hc
  have HB := Aside0.mk (Below.refl w.heap.size w)
  go_enter Try.func126, Try.ntmps126
  go_wp2_with fail
  go_loopw [8] (fun i_ w' => ∃ n : Nat, n ≤ rows.length ∧ i_ = .int .i64 n ∧ Aside0 (∀ q, q < n → (rows.getD q []).getD i 0 = 0) ∧ Aside0 (Below w.heap.size w w')) (fun i_ _ => rows.length - (intOf i_).toNat)
  case atStart => exact ⟨0, by omega, rfl, ⟨fun q hq => absurd hq (by omega)⟩, by first | exact HB | exact ⟨HB.out.drew⟩⟩
  case round =>
    clear HB
    obtain ⟨n, hn, rfl, HA, HB⟩ := hrel
    by_cases hlt : n < rows.length
    · have p1 : 0 ≤ (n : Int) := by omega
      have q1 : (n : Int) < (rows.length : Int) := by omega
      obtain ⟨b, o, rfl, hr⟩ := HR.out (by intro e; rw [e] at hlt; simp at hlt)
      obtain ⟨hr6, hrange⟩ := hr n rows[n] (List.getElem?_eq_getElem hlt)
      have hbx := (HB.out.cell (World.block_lt_of_cell? w _ HBX.out)).trans HBX.out
      have HRG := Aside0.mk (range_below hrange HB.out)
      have HY := Aside0.mk (nz_calls rows[n] i g _ hr6 hi hbx)
      have HI := Aside0.mk (show (Try.prog.info? 76).map (·.size) = some (rows[n].map (Value.int .i64)).length by rw [List.length_map, hr6]; exact hs76)
      clear hrange hr
      obtain ⟨bb, hbb⟩ : ∃ bb, bb = (rows[n].getD i 0 != 0) := ⟨_, rfl⟩
      rw [← hbb] at HY
      have HBB := Aside0.mk hbb
      have HF := Aside0.mk (fst_drop i rows n hlt HA.out)
      clear hbb hr6 hbx
      cases bb with
      | true =>
        go_wp2_with (first
          | (refine wpList_load_mid rfl 76 _ rfl b (o + n * 6) rfl _ _ HRG.out Try.underlying76 rfl HI.out ?_)
          | ((with_reducible refine gate_dst (N := 16) rfl ?_); refine goesC_ (some 16) rfl rfl 11 #[.pointer (some ⟨g, 0, none⟩)] rfl Try.func127 (by kernel_rfl) rfl rfl #[.agg (arr rows[n]), .pointer (some ⟨g, 0, none⟩)] (by (try simp only [List.map_toArray, List.map_cons, List.map_nil]); first | done | rfl) ?_; (with_reducible refine HY.out.mono ?_); rintro e w9 ⟨rfl, hb⟩; refine ⟨_, rfl, ?_⟩; have n0_ := Aside0.mk (below_step (by repeat (first | (with_reducible first | exact HB.out | apply below_alloc | apply pw_below_drewN | apply below_drew1) | exact HB.out)) hb); clear HB; have HB := n0_; clear n0_; (try clear hb)))
        go_ret
        refine ⟨?_, HB.out⟩
        have h1 := HBB.out
        rw [HF.out, if_pos (by intro e; rw [e] at h1; simp at h1)]
        rfl
      | false =>
        go_wp2_with (first
          | (refine wpList_load_mid rfl 76 _ rfl b (o + n * 6) rfl _ _ HRG.out Try.underlying76 rfl HI.out ?_)
          | ((with_reducible refine gate_dst (N := 16) rfl ?_); refine goesC_ (some 16) rfl rfl 11 #[.pointer (some ⟨g, 0, none⟩)] rfl Try.func127 (by kernel_rfl) rfl rfl #[.agg (arr rows[n]), .pointer (some ⟨g, 0, none⟩)] (by (try simp only [List.map_toArray, List.map_cons, List.map_nil]); first | done | rfl) ?_; (with_reducible refine HY.out.mono ?_); rintro e w9 ⟨rfl, hb⟩; refine ⟨_, rfl, ?_⟩; have n0_ := Aside0.mk (below_step (by repeat (first | (with_reducible first | exact HB.out | apply below_alloc | apply pw_below_drewN | apply below_drew1) | exact HB.out)) hb); clear HB; have HB := n0_; clear n0_; (try clear hb)))
        go_roundw
        case rel =>
          refine ⟨n + 1, by omega, by go_num, ⟨fun q hq => ?_⟩, HB⟩
          by_cases hqn : q < n
          · exact HA.out q hqn
          · obtain rfl : q = n := by omega
            exact zero_of (rowD rows q hlt) HBB.out
        case measure => simp [intOf]; omega
    · go_wp2_with fail
      go_ret
      refine ⟨?_, HB.out⟩
      rw [fst_none i rows (fun r hr => by
        obtain ⟨q, hq, e⟩ := List.mem_iff_getElem.1 hr
        have h3 := HA.out q (by omega)
        have h4 : rows.getD q [] = r := (rowD rows q hq).trans e
        exact h4 ▸ h3)]
      rfl
end Go.Proofs.Ytdneelgnmnpanaa.P
