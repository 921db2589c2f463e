/- The masses by size: what the program's spread and collect do, with arrays of 21 numbers; no conditions beyond those that each theorem names. -/
import Derived.Test.YtbckhllkjlgbpaaSame
import Derived.Laws.Rows
import Derived.Deep.WholeRow
import Derived.ChangeKeysEq
namespace Go.Proofs.Ytbckhllkjlgbpaa.P
open Go.RowKit Go.Proofs.YtbckhllkjlgbpaaW.PrintWords Go.Proofs.YtbckhllkjlgbpaaW.PrintLast Go.Proofs.YtbckhllkjlgbpaaW.PrintMore
set_option linter.unusedVariables false
/-- A list of numbers as an array's cells. -/
def arr (m : List Int) : Array Value := ⟨m.map (Value.int .i64)⟩
def zeros21 : List Int := List.replicate 21 0
/-- The mass of each size, set grain by grain. -/
def spr : List S58 → List Int → List Int
  | [], m => m
  | x :: r, m => spr r (m.set x.f0.toNat x.f1)
theorem arr_size (m : List Int) : (arr m).size = m.length := by simp [arr]
theorem arr_get (m : List Int) (i : Nat) (h : i < m.length) : (arr m)[i]? = some (.int .i64 (m.getD i 0)) := by simp [arr, h]
theorem arr_set (m : List Int) (i : Nat) (v : Int) : (arr m).setIfInBounds i (.int .i64 v) = arr (m.set i v) := by
  apply Array.ext'
  simp [arr, List.map_set]
theorem arr_one (m : List Int) : (arr m).all (·.oneCell') = true := by
  simp [arr, Value.oneCell']
/-- A cell of an array's block. -/
theorem arr_cell {w : World} {g : Nat} {m : List Int} {t : TypeId} (h : w.heap[g]? = some (.cells (arr m) t (0, 0))) (i : Nat) (hi : i < m.length) : w.cell? ⟨g, i, none⟩ = some (.int .i64 (m.getD i 0)) := by
  rw [cell_of_row w g i (arr m) t (0, 0) h]
  exact arr_get m i hi
theorem arr_frozen {w : World} {g : Nat} {m : List Int} {t : TypeId} (h : w.heap[g]? = some (.cells (arr m) t (0, 0))) (i : Nat) : w.frozen? ⟨g, i, none⟩ = false := frozen_of_row w g i _ _ h
theorem arr_lt {w : World} {g : Nat} {c : Array Value} {t : TypeId} {fr : Nat × Nat} (h : w.heap[g]? = some (.cells c t fr)) : g < w.heap.size := (Array.getElem?_eq_some_iff.1 h).1
/-- A store into an array's block. -/
theorem arr_store {w : World} {g : Nat} {m : List Int} {t : TypeId} (h : w.heap[g]? = some (.cells (arr m) t (0, 0))) (i : Nat) (v : Int) : (w.setCell ⟨g, i, none⟩ (.int .i64 v)).heap[g]? = some (.cells (arr (m.set i v)) t (0, 0)) := by
  rw [heap_setCell_same _ g i (arr m) t _ h, arr_set]
theorem heap_old {w : World} {g : Nat} {o : Obj} (h : w.heap[g]? = some o) (o2 : Obj) : (w.alloc o2).heap[g]? = some o := by
  rw [Go.heap_alloc_old w o2 (Array.getElem?_eq_some_iff.1 h).1]
  exact h
theorem heap_far {w : World} {g : Nat} {o : Obj} (h : w.heap[g]? = some o) {a : Addr} (hne : g ≠ a.block) (v : Value) : (w.setCell a v).heap[g]? = some o := (heap_setCell_other w a g v hne).trans h
theorem below_setRow {B : Nat} {w0 w : World} (h : Below B w0 w) {g : Nat} (hg : B ≤ g) (cs : Array Value) : Below B w0 (w.setRow g cs) :=
  ⟨h.os, h.tape, h.output, by simpa using h.size, fun i hi => (setRow_other w g i cs (by omega)).trans (h.block i hi)⟩
theorem info98 : (Try.prog.info? 98).map (fun i => (i.zero, i.size)) = some (some (.agg (arr zeros21)), 21) := by kernel_rfl
set_option maxHeartbeats 1000000 in
set_option maxRecDepth 100000 in
theorem spread_calls (A0 : Option Addr) (c0 : Nat) (l0 : List S58) (w : World) (hr0 : Kd.C k58 w A0 l0.length l0) (hc0 : l0.length ≤ c0) (hm : ∀ x ∈ l0, 0 ≤ x.f0 ∧ x.f0 ≤ 20) (hlen : l0.length ≤ 1000) :
    Calls Try.prog 92 #[.slice A0 l0.length c0] w fun e w' => e = .returned (.agg (arr (spr l0 zeros21))) ∧ Below w.heap.size w w' := by
  have HR0 := Aside0.mk hr0
  have HC0 := Aside0.mk hc0
  have HM := Aside0.mk hm
  clear hr0 hc0 hm
  have HB := Aside0.mk (Below.refl w.heap.size w)
  have hu58 := Try.underlying58
  have hu98 := Try.underlying98
  obtain ⟨hz98, hs98⟩ := zero_of_info info98
  go_enter Try.func92, Try.ntmps92
  go_wp2_with fail
  have hB1 : Below w.heap.size w ((w.alloc (.cells (arr zeros21) 98)).alloc (.cells (arr zeros21) 98)) := ((Below.refl _ _).alloc (Nat.le_refl _) _).alloc (by simp) _
  have HB1 := Aside0.mk hB1
  have HG1 := Aside0.mk (heap_alloc2_new w (.cells (arr zeros21) 98) (.cells (arr zeros21) 98))
  have HG0 := Aside0.mk (heap_alloc2_old w (.cells (arr zeros21) 98) (.cells (arr zeros21) 98))
  clear hB1
  go_loopw [8] (fun i w' => ∃ n : Nat, n ≤ l0.length ∧ i = .int .i64 n ∧ Aside0 (∃ m : List Int, m.length = 21 ∧ spr l0 zeros21 = spr (l0.drop n) m ∧ w'.heap[w.heap.size + 1]? = some (.cells (arr m) 98 (0, 0)) ∧ w'.heap[w.heap.size]? = some (.cells (arr zeros21) 98 (0, 0)) ∧ Below w.heap.size w w')) (fun i _ => l0.length - (intOf i).toNat)
  case atStart => exact ⟨0, Nat.zero_le _, rfl, ⟨zeros21, rfl, rfl, HG1.out, HG0.out, HB1.out⟩⟩
  case round =>
    obtain ⟨n, hn, rfl, ⟨m, hml, hms, hg1, hg0, hbw⟩⟩ := hrel
    clear HG1 HG0 HB1 HB
    have HG1 := Aside0.mk hg1
    have HG0 := Aside0.mk hg0
    have HB := Aside0.mk hbw
    have HML := Aside0.mk hml
    have HMS := Aside0.mk hms
    clear hg1 hg0 hbw hml hms
    by_cases hlt : n < l0.length
    · have p1 : 0 ≤ (n : Int) := by omega
      have q1 : (n : Int) < (l0.length : Int) := by omega
      obtain ⟨ad1, e1, hx0, hx1⟩ := at_T58 HR0.out (n : Int) p1 q1
      cases e1
      replace hx0 := (HB.out.cell (World.block_lt_of_cell? w _ hx0)).trans hx0
      replace hx1 := (HB.out.cell (World.block_lt_of_cell? w _ hx1)).trans hx1
      generalize hxx : rd_T58 l0 (n : Int) = x at *
      simp only [Int.toNat_natCast] at hx0 hx1
      have hxm : x ∈ l0 := by rw [← hxx]; simp only [rd_T58, Int.toNat_natCast]; rw [List.getD_eq_getElem?_getD, List.getElem?_eq_getElem hlt]; exact List.getElem_mem hlt
      have hb0 : 0 ≤ x.f0 := (HM.out x hxm).1
      have hb1 : x.f0 ≤ 20 := (HM.out x hxm).2
      have hi : x.f0.toNat < m.length := by have := HML.out; omega
      have hc := arr_cell HG1.out x.f0.toNat hi
      have hf := arr_frozen HG1.out x.f0.toNat
      have hz : w.heap.size + 1 < wr.heap.size := arr_lt HG1.out
      have hxe : l0[n] = x := by rw [← hxx]; exact (rd58_n l0 n hlt).symm
      have HXE := Aside0.mk hxe
      clear hxe
      clear hxx hi hxm
      go_wp2_with fail
      go_roundw
      case rel => exact ⟨n + 1, by omega, by go_num, ⟨⟨m.set x.f0.toNat x.f1, by simp [HML.out], by rw [HMS.out, List.drop_eq_getElem_cons hlt, spr, HXE.out], heap_old (arr_store HG1.out _ _) _, heap_old (heap_far HG0.out (by simp) _) _, (HB.out.setCell (by simp) _).alloc (by simpa using HB.out.size) _⟩⟩⟩
      case measure => simp [intOf]; omega
    · have hi : (Try.prog.info? 98).map (·.size) = some (arr m).size := by rw [arr_size, HML.out]; exact hs98
      have hmm : spr l0 zeros21 = m := by rw [HMS.out, List.drop_eq_nil_of_le (by omega)]; rfl
      have HI := Aside0.mk hi
      have HMM := Aside0.mk hmm
      clear hi hmm
      go_wp2_with (first | (refine wpList_load_row rfl 98 _ rfl (w.heap.size + 1) rfl 98 (arr m) (0, 0) _ HG1.out Try.underlying98 rfl HI.out ?_) | (refine wpList_store_row rfl 98 _ _ rfl w.heap.size (arr m) rfl rfl 98 (arr zeros21) HG0.out HI.out (by rw [arr_size, arr_size, HML.out]; rfl) (arr_one m) ?_))
      refine bodyPost_ret (results_cell_row rfl _ _ w.heap.size 98 (arr m) (0, 0) _ rfl (setRow_heap _ _ _ _ _ _ HG0.out) Try.underlying98 rfl HI.out) rfl ?_
      exact ⟨by rw [HMM.out], below_setRow HB.out (Nat.le_refl _) _⟩

/-- The lot of the masses of sizes from n on. -/
def col : Nat → List Int → List S58
  | _, [] => []
  | n, v :: r => if v > 0 then ⟨(n : Int), v⟩ :: col (n + 1) r else col (n + 1) r
theorem col_cons (n : Nat) (v : Int) (r : List Int) : col n (v :: r) = (if v > 0 then [⟨(n : Int), v⟩] else []) ++ col (n + 1) r := by
  rw [col]
  split <;> rfl
theorem run_index_arr (t e : TypeId) (m : List Int) (i : Nat) (h : Try.prog.underlying t = some (.array m.length e)) (he : Try.prog.plainKey e = true) (hs : (Try.prog.info? e).map (·.size) = some 1) (hi : i < m.length) (w : World) :
    (Instr.index t (.agg (arr m)) (.int .i64 (i : Int))).run Try.prog w = .ok (.int .i64 (m.getD i 0)) w := by
  have hsz : (sizeOf e).run Try.prog w = .ok 1 w := by
    cases hq : Try.prog.info? e with
    | none => simp [hq] at hs
    | some j =>
      have : j.size = 1 := by simpa [hq] using hs
      simp [sizeOf, typeInfo, hq, this]
  have hp := run_part_plain (P := Try.prog) w he (xs := arr m) (off := i) (arr_get m i hi)
  simp only [Instr.index, run_underlying h, asIntOf, hi, hsz, Sem.run_bind, Sem.run_pure, Result.andThen, Int.natCast_nonneg, Int.ofNat_lt, and_self, if_true, Int.toNat_natCast, Nat.mul_one]
  exact hp
set_option maxHeartbeats 1000000 in
set_option maxRecDepth 100000 in
theorem collect_calls (m : List Int) (w : World) (hm : m.length = 21) :
    Calls Try.prog 93 #[.agg (arr m)] w fun e w' => ∃ v0 : Value, e = .returned v0 ∧ Kd.R k58 58 w' w.heap.size (fun _ => True) v0 (col 0 m) ∧ Below w.heap.size w w' := by
  have hu58 := Try.underlying58
  have hu98 := Try.underlying98
  have hs98 := (zero_of_info info98).2
  have hi : (Try.prog.info? 98).map (·.size) = some (arr m).size := by rw [arr_size, hm]; exact hs98
  have HI := Aside0.mk hi
  have HML := Aside0.mk hm
  have HG := Aside0.mk (heap_alloc_last w (.cells (arr m) 98))
  have hix0 : ∀ (n : Nat), n < 21 → ∀ W : World, (Instr.index 98 (.agg (arr m)) (.int .i64 (n : Int))).run Try.prog W = .ok (.int .i64 (m.getD n 0)) W := fun n hn W => run_index_arr 98 3 m n (by rw [hm]; exact Try.underlying98) (by kernel_rfl) (by kernel_rfl) (by omega) W
  have HIX := Aside0.mk hix0
  have HB := Aside0.mk ((Below.refl w.heap.size w).alloc (Nat.le_refl _) (.cells (arr m) 98))
  clear hi hm hix0
  go_enter Try.func93, Try.ntmps93
  go_wp2_with (refine wpList_load_row rfl 98 _ rfl w.heap.size rfl 98 (arr m) (0, 0) _ HG.out Try.underlying98 rfl HI.out ?_)
  go_loopw [3, 7] (fun v3 i w' => ∃ n : Nat, n ≤ 21 ∧ i = .int .i64 n ∧ Aside0 (∃ L : List S58, L ++ col n (m.drop n) = col 0 m ∧ L.length ≤ n ∧ Kd.R k58 58 w' w.heap.size (fun _ => True) v3 L) ∧ Aside0 (Below w.heap.size w w')) (fun _ i _ => 21 - (intOf i).toNat)
  case atStart => exact ⟨0, by omega, rfl, ⟨[], rfl, Nat.le_refl _, Kd.R_nil _ _ _ _ _⟩, HB⟩
  case round =>
    clear HB
    obtain ⟨n, hn, rfl, ⟨L, hL, hLn, hR⟩, HB⟩ := hrel
    have HL := Aside0.mk hL
    have HLN := Aside0.mk hLn
    have HO := Aside0.mk hR
    clear hL hLn hR
    by_cases hlt : n < 21
    · have hix := HIX.out n hlt
      have hcol : col n (m.drop n) = (if m.getD n 0 > 0 then [⟨(n : Int), m.getD n 0⟩] else []) ++ col (n + 1) (m.drop (n + 1)) := by
        have h1 : n < m.length := by have := HML.out; omega
        rw [List.drop_eq_getElem_cons h1, col_cons, List.getD_eq_getElem?_getD, List.getElem?_eq_getElem h1]
        rfl
      have HCOL := Aside0.mk hcol
      clear hcol
      generalize m.getD n 0 = v at hix HCOL
      by_cases hv : 0 < v
      · have hvb : decide (0 < v) = true := decide_eq_true hv
        have hcol : (L ++ [(⟨(n : Int), v⟩ : S58)]) ++ col (n + 1) (m.drop (n + 1)) = col 0 m := by rw [← HL.out, HCOL.out, if_pos hv, List.append_assoc]
        have HC2 := Aside0.mk hcol
        clear hcol hv
        go_wp2_with (first | ((with_reducible refine gate_builtin (b := .append) (xs := #[.tmp 13, .tmp 17]) rfl ?_); at_builtin; refine Kd.R_append k58 (w0 := w) w.heap.size rfl (.tmp 13) (.tmp 17) 22 58 (.agg #[(.int .i64 0), (.int .i64 0)]) 16 rfl Try.underlying22 info58 rfl (by decide) (by omega) u3 L (⟨(n : Int), v⟩ : S58) [.int .i64 (n : Int), .int .i64 v] (fun _ => True) (fun _ => False) rfl rfl ?aP (fun _ hk => hk.elim) ?aF ?aO ?aB ?aS ?aL ?_; (case aP => exact k58_mkM _ _ _ (⟨(n : Int), v⟩ : S58)); (case aB => exact (by repeat (first | (with_reducible first | exact HB.out | apply below_alloc | apply pw_below_drewN | apply below_drew1) | exact HB.out))); (case aF => exact (fun _ _ => trivial)); (case aO => exact (by (with_reducible repeat (first | apply Kd.R_alloc | apply Kd.R_drewN | apply Kd.R_drew)); exact HO.out)); (case aS => exact (below_size (by repeat (first | (with_reducible first | exact HB.out | apply below_alloc | apply pw_below_drewN | apply below_drew1) | exact HB.out)))); (case aL => have := HLN.out; omega); intro v104 w6 ho hb hg hat; have n0_ := Aside0.mk (hb); have n1_ := Aside0.mk (ho); clear HB; clear HO; have HB := n0_; have HO := n1_; clear n0_ n1_; clear ho hb hg hat))
        go_roundw
        case rel => exact ⟨n + 1, by omega, by go_num, ⟨_, HC2.out, by simp; exact HLN.out, HO.out⟩, HB⟩
        case measure => simp [intOf]; omega
      · have hvb : decide (0 < v) = false := decide_eq_false hv
        have hcol : L ++ col (n + 1) (m.drop (n + 1)) = col 0 m := by rw [← HL.out, HCOL.out, if_neg hv, List.nil_append]
        have HC2 := Aside0.mk hcol
        clear hcol hv
        go_wp2_with fail
        go_roundw
        case rel => exact ⟨n + 1, by omega, by go_num, ⟨_, HC2.out, by have := HLN.out; omega, HO.out⟩, HB⟩
        case measure => simp [intOf]; omega
    · have hL2 : L = col 0 m := by
        have h1 := HL.out
        rw [List.drop_eq_nil_of_le (by have := HML.out; omega), col, List.append_nil] at h1
        exact h1
      have HL2 := Aside0.mk hL2
      clear hL2
      go_wp2_with fail
      go_ret
      exact ⟨_, rfl, by rw [← HL2.out]; exact HO.out, HB.out⟩

theorem spr_length : ∀ (l : List S58) (m : List Int), (spr l m).length = m.length
  | [], _ => rfl
  | x :: r, m => by rw [spr, spr_length r]; simp
theorem spr_range : ∀ (l : List S58) (m : List Int), (∀ x ∈ l, 0 ≤ x.f1 ∧ x.f1 ≤ 100) → (∀ v ∈ m, 0 ≤ v ∧ v ≤ 100) → ∀ v ∈ spr l m, 0 ≤ v ∧ v ≤ 100
  | [], _, _, h => h
  | x :: r, m, hl, h => by
    rw [spr]
    refine spr_range r _ (fun y hy => hl y (List.mem_cons_of_mem _ hy)) (fun v hv => ?_)
    rcases List.mem_or_eq_of_mem_set hv with h1 | rfl
    · exact h v h1
    · exact hl x (List.mem_cons_self ..)
theorem zeros21_range : ∀ v ∈ zeros21, 0 ≤ v ∧ v ≤ 100 := by decide
end Go.Proofs.Ytbckhllkjlgbpaa.P
