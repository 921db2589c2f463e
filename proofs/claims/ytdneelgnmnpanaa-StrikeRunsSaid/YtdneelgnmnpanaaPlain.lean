/- A line divided by what divides all of its numbers: the program's divisor and plain; for numbers of at most 2^62. -/
import Derived.Test.YtdneelgnmnpanaaBl
import Derived.Test.YtdneelgnmnpanaaPa
import Derived.Laws.Rows
import Derived.Deep.WholeRow
import Derived.ChangeKeysEq
namespace Go.Proofs.Ytdneelgnmnpanaa.P
open Go.RowKit Go.Proofs.YtdneelgnmnpanaaW.PrintWords Go.Proofs.YtdneelgnmnpanaaW.PrintLast Go.Proofs.YtdneelgnmnpanaaW.PrintMore
set_option linter.unusedVariables false
set_option linter.unusedSimpArgs false
theorem wrp {x : Int} (h0 : -9223372036854775808 ≤ x) (h1 : x ≤ 9223372036854775807) : wrap64 x = x := by
  unfold wrap64
  omega
/-- A number of at most 2^62. -/
def Lim (x : Int) : Prop := x.natAbs ≤ 4611686018427387904
theorem divisor_gcd : ∀ (n : Nat) (a b : Int), b.natAbs < n → Lim a → Lim b → ∃ k, strike_divisor.f k a b = some (Int.gcd a b : Int)
  | 0, _, _, h, _, _ => by omega
  | n + 1, a, b, h, ha, hb => by
    unfold Lim at ha hb
    by_cases h0 : b = 0
    · subst h0
      refine ⟨1, ?_⟩
      unfold strike_divisor.f strike_divisor.l0
      rw [if_pos rfl, wrp (by omega) (by omega)]
      have : (Int.gcd a 0 : Int) = a.natAbs := by simp
      rw [this]
      unfold mx
      congr 1
      split <;> omega
    · have h1 : (Int.tmod a b).natAbs = a.natAbs % b.natAbs := Int.natAbs_tmod a b
      have h2 : a.natAbs % b.natAbs < b.natAbs := Nat.mod_lt _ (by omega)
      obtain ⟨k, hk⟩ := divisor_gcd n b (Int.tmod a b) (by omega) (by unfold Lim; omega) (by unfold Lim; omega)
      refine ⟨k + 1, ?_⟩
      unfold strike_divisor.f strike_divisor.l0
      rw [if_neg h0]
      refine Eq.trans hk ?_
      congr 2
      show Nat.gcd b.natAbs (Int.tmod a b).natAbs = Nat.gcd a.natAbs b.natAbs
      rw [h1, Nat.gcd_comm a.natAbs, Nat.gcd_comm b.natAbs, ← Nat.gcd_rec]
theorem divisor_calls (a b : Int) (ha : Lim a) (hb : Lim b) (w : World) : Calls Try.prog 117 #[.int .i64 a, .int .i64 b] w fun e w' => e = .returned (.int .i64 (Int.gcd a b : Int)) ∧ Below w.heap.size w w' := by
  obtain ⟨k, hk⟩ := divisor_gcd (b.natAbs + 1) a b (by omega) ha hb
  exact strike_divisor.calls k a b _ w hk
/-- What divides all numbers. -/
def gc (m : List Int) : Nat := m.foldl (fun d n => Int.gcd d n) 0
def pln (m : List Int) : List Int := if 1 < gc m then m.map (·.tdiv (gc m)) else m
theorem gcd_lim {d x : Int} (hd : Lim d) (hx : Lim x) : Lim (Int.gcd d x : Int) := by
  unfold Lim at *
  by_cases h : x = 0
  · subst h
    simp
    omega
  · have := Nat.gcd_le_right d.natAbs (show 0 < x.natAbs by omega)
    show ((Nat.gcd d.natAbs x.natAbs : Nat) : Int).natAbs ≤ _
    omega
theorem gc_lim : ∀ (m : List Int) (d : Nat), Lim d → (∀ x ∈ m, Lim x) → Lim (m.foldl (fun d n => Int.gcd d n) d : Nat)
  | [], d, hd, _ => hd
  | x :: m, d, hd, h => gc_lim m _ (gcd_lim hd (h x (List.mem_cons_self ..))) (fun y hy => h y (List.mem_cons_of_mem _ hy))
theorem lim0 : Lim (0 : Nat) := by unfold Lim; decide
theorem gc_take (m : List Int) (i : Nat) (hi : i < m.length) : gc (m.take (i + 1)) = Int.gcd (gc (m.take i)) m[i] := by
  rw [List.take_succ_eq_append_getElem hi]
  unfold gc
  rw [List.foldl_append]
  rfl
theorem run_index_arr (t e : TypeId) (m : List Int) (i : Nat) (h : Try.prog.underlying t = some (.array m.length e)) (he : Try.prog.plainKey e = true) (hs : (Try.prog.info? e).map (·.size) = some 1) (hi : i < m.length) (w : World) :
    (Instr.index t (.agg (arr m)) (.int .i64 (i : Int))).run Try.prog w = .ok (.int .i64 (m.getD i 0)) w := by
  have hsz : (sizeOf e).run Try.prog w = .ok 1 w := by
    cases hq : Try.prog.info? e with
    | none => simp [hq] at hs
    | some j =>
      have : j.size = 1 := by simpa [hq] using hs
      simp [sizeOf, typeInfo, hq, this]
  have hp := run_part_plain (P := Try.prog) w he (xs := arr m) (off := i) (arr_get m i hi)
  simp only [Instr.index, run_underlying h, asIntOf, hi, hsz, Sem.run_bind, Sem.run_pure, Result.andThen, Int.natCast_nonneg, Int.ofNat_lt, and_self, if_true, Int.toNat_natCast, Nat.mul_one]
  exact hp
def zeros6 : List Int := List.replicate 6 0
theorem info76z : (Try.prog.info? 76).map (fun i => (i.zero, i.size)) = some (some (.agg (arr zeros6)), 6) := by kernel_rfl
theorem below_setRow {B : Nat} {w0 w : World} (h : Below B w0 w) {g : Nat} (hg : B ≤ g) (cs : Array Value) : Below B w0 (w.setRow g cs) :=
  ⟨h.os, h.tape, h.output, by simpa using h.size, fun i hi => (setRow_other w g i cs (by omega)).trans (h.block i hi)⟩
set_option maxHeartbeats 2000000 in
set_option maxRecDepth 100000 in
theorem plain_calls (m : List Int) (w : World) (hm : m.length = 6) (hl : ∀ x ∈ m, Lim x) :
    Calls Try.prog 118 #[.agg (arr m)] w fun e w' => e = .returned (.agg (arr (pln m))) ∧ Below w.heap.size w w' := by
  have hu76 := Try.underlying76
  obtain ⟨hz76, hs76⟩ := zero_of_info info76z
  have HI0 := Aside0.mk (show (Try.prog.info? 76).map (·.size) = some (arr m).size by rw [arr_size, hm]; exact hs76)
  have HML := Aside0.mk hm
  have HL := Aside0.mk hl
  have HIX := Aside0.mk (fun (n : Nat) (hn : n < 6) (W : World) => run_index_arr 76 3 m n (by rw [hm]; exact Try.underlying76) (by kernel_rfl) (by kernel_rfl) (by omega) W)
  clear hm hl
  have HB := Aside0.mk (Below.refl w.heap.size w)
  go_enter Try.func118, Try.ntmps118
  go_wp2_with (first
    | ((with_reducible refine gate_dst (N := 1) rfl ?_); refine box_event ?hg (N := 1) ?hd (cs := arr m) (t := 76) ?hr ?_; (case hd => rfl); (case hg => rfl); (case hr => first | (go_simp; done) | (go_simp; rfl)); intro gb hgb w7 hbox hb; have HGB := Aside0.mk (show w.heap.size ≤ gb by omega); have BK := Aside0.mk hbox; have n0_ := Aside0.mk (below_step HB.out hb); have HB7 := Aside0.mk hb; clear HB; have HB := n0_; clear n0_ hgb hbox hb)
    | (refine wpList_load_row rfl 76 _ rfl gb rfl 76 (arr m) (0, 0) _ (blk_alloc BK.out _) Try.underlying76 rfl HI0.out ?_))
  have HG2 := Aside0.mk (heap_alloc_last w7 (.cells (arr zeros6) 76))
  have BK2 := Aside0.mk (blk_alloc BK.out (.cells (arr zeros6) 76))
  have HNE := Aside0.mk (show gb ≠ w7.heap.size from fun e => by have := blk_lt BK.out; omega)
  have HB2 := Aside0.mk (show Below w.heap.size w (w7.alloc (.cells (arr zeros6) 76)) from HB.out.alloc HB7.out.size _)
  have HG2W := Aside0.mk (show w.heap.size ≤ w7.heap.size from HB7.out.size)
  clear HB BK
  generalize w7.heap.size = g2 at *
  go_loopw [3, 8] (fun d_ i_ w' => ∃ i : Nat, i ≤ 6 ∧ i_ = .int .i64 i ∧ d_ = .int .i64 (gc (m.take i) : Int) ∧ Aside0 (w'.heap[gb]? = some (.cells (arr m) 76 (0, 0))) ∧ Aside0 (w'.heap[g2]? = some (.cells (arr zeros6) 76 (0, 0))) ∧ Aside0 (Below w.heap.size w w')) (fun _ i_ _ => 6 - (intOf i_).toNat)
  case atStart => exact ⟨0, by omega, rfl, rfl, BK2, HG2, HB2⟩
  case round =>
    clear BK2 HG2 HB2
    obtain ⟨i, hi, rfl, rfl, BK, HG2, HB⟩ := hrel
    by_cases hlt : i < 6
    · have hix := HIX.out i hlt
      have him : i < m.length := by rw [HML.out]; exact hlt
      have hgd : m.getD i 0 = m[i] := by rw [List.getD_eq_getElem?_getD, List.getElem?_eq_getElem him]; rfl
      rw [hgd] at hix
      have HGT := Aside0.mk (gc_take m i him)
      have HDV := Aside0.mk (fun W => divisor_calls (gc (m.take i) : Int) m[i] (gc_lim (m.take i) 0 lim0 (fun x hx => HL.out x (List.mem_of_mem_take hx))) (HL.out _ (List.getElem_mem him)) W)
      clear hgd
      generalize m[i] = x at *
      go_wp2_with (first
        | ((with_reducible refine gate_callee (f := 117) rfl ?_); refine goesL_ (some 13) rfl rfl Try.func117 (by kernel_rfl) rfl #[.int .i64 (gc (m.take i) : Int), .int .i64 x] rfl (by (try simp only [List.map_toArray, List.map_cons, List.map_nil]); first | done | rfl) ?_; (with_reducible refine (HDV.out _).mono ?_); rintro e w9 ⟨rfl, hb⟩; refine ⟨_, rfl, ?_⟩; have n0_ := Aside0.mk (below_step (by repeat (first | (with_reducible first | exact HB.out | apply below_alloc | apply pw_below_drewN | apply below_drew1) | exact HB.out)) hb); have n1_ := Aside0.mk (blk_below BK.out hb); have n2_ := Aside0.mk (blk_below HG2.out hb); clear HB BK HG2; have HB := n0_; have BK := n1_; have HG2 := n2_; clear n0_ n1_ n2_ hb))
      go_roundw
      case rel => exact ⟨i + 1, by omega, by go_num, by rw [HGT.out], BK, HG2, HB⟩
      case measure => simp [intOf]; omega
    · obtain rfl : i = 6 := by omega
      have he : gc (m.take 6) = gc m := by rw [List.take_of_length_le (by rw [HML.out]; exact Nat.le_refl _)]
      rw [he]
      have hgl := gc_lim m 0 lim0 HL.out
      obtain ⟨d, hd⟩ : ∃ d, d = gc m := ⟨_, rfl⟩
      have HD := Aside0.mk hd
      have hgl2 : d ≤ 4611686018427387904 := by rw [hd]; exact hgl
      rw [← hd]
      clear he hgl hd HIX
      by_cases h1 : 1 < d
      · have c1 : decide ((1 : Int) < (d : Int)) = true := decide_eq_true (by omega)
        go_wp2_with fail
        go_loopw [17] (fun i_ w' => ∃ (i : Nat) (q : List Int), i ≤ 6 ∧ i_ = .int .i64 i ∧ Aside0 (q = (m.take i).map (·.tdiv d) ++ m.drop i) ∧ Aside0 (w'.heap[gb]? = some (.cells (arr q) 76 (0, 0))) ∧ Aside0 (w'.heap[g2]? = some (.cells (arr zeros6) 76 (0, 0))) ∧ Aside0 (Below w.heap.size w w')) (fun i_ _ => 6 - (intOf i_).toNat)
        case atStart => exact ⟨0, m, by omega, rfl, ⟨by simp⟩, BK, HG2, HB⟩
        case round =>
          clear BK HG2 HB
          obtain ⟨i, q, hi, rfl, HQ, BK, HG2, HB⟩ := hrel
          have hql : q.length = 6 := by rw [HQ.out]; simp [HML.out]; omega
          by_cases hlt : i < 6
          · have him : i < m.length := by rw [HML.out]; exact hlt
            have hqi : q.getD i 0 = m[i] := by
              rw [HQ.out, List.getD_eq_getElem?_getD, List.getElem?_append_right (by simp; omega), List.length_map, List.length_take, Nat.min_eq_left (by omega), Nat.sub_self, List.getElem?_drop, Nat.add_zero, List.getElem?_eq_getElem him]
              rfl
            have hset : q.set i (m[i].tdiv d) = (m.take (i + 1)).map (·.tdiv d) ++ m.drop (i + 1) := by
              rw [HQ.out, List.set_append_right _ _ (by simp; omega), List.length_map, List.length_take, Nat.min_eq_left (by omega), Nat.sub_self, List.drop_eq_getElem_cons him, List.set_cons_zero, List.take_succ_eq_append_getElem him, List.map_append, List.append_assoc]
              rfl
            have HSET := Aside0.mk hset
            have hc := arr_cell BK.out i (by omega)
            rw [hqi] at hc
            have hf := arr_frozen BK.out i
            have hx := HL.out _ (List.getElem_mem him)
            generalize m[i] = x at *
            unfold Lim at hx
            have hdv : (Int.tdiv x d).natAbs ≤ x.natAbs := by rw [Int.natAbs_tdiv]; exact Nat.div_le_self _ _
            have hwr : wrap64 (Int.tdiv x d) = Int.tdiv x d := wrp (by omega) (by omega)
            have hd0 : ((d : Int) == 0) = false := beq_eq_false_iff_ne.mpr (by omega)
            have hd1 : ¬ (d : Int) = 0 := by omega
            have HWR := Aside0.mk hwr
            clear hqi hset hdv
            go_wp2_with fail
            go_roundw
            case rel => exact ⟨i + 1, q.set i (Int.tdiv x d), by omega, by go_num, HSET, ⟨arr_store BK.out i _⟩, ⟨(heap_setCell_other _ _ _ _ (fun e => HNE.out e.symm)).trans HG2.out⟩, ⟨HB.out.setCell HGB.out _⟩⟩
            case measure => simp [intOf]; omega
          · obtain rfl : i = 6 := by omega
            have hq : q = pln m := by
              rw [HQ.out, List.take_of_length_le (by rw [HML.out]; exact Nat.le_refl _), List.drop_eq_nil_of_le (by rw [HML.out]; exact Nat.le_refl _), List.append_nil]
              unfold pln
              rw [← HD.out, if_pos h1]
            have HQL := Aside0.mk hql
            have HQP := Aside0.mk hq
            have HIQ := Aside0.mk (show (Try.prog.info? 76).map (·.size) = some (arr q).size by rw [arr_size, hql]; exact hs76)
            clear hq hql
            go_wp2_with (first
              | (refine wpList_load_row rfl 76 _ rfl gb rfl 76 (arr q) (0, 0) _ BK.out Try.underlying76 rfl HIQ.out ?_)
              | (refine wpList_store_row rfl 76 _ _ rfl g2 (arr q) rfl rfl 76 (arr zeros6) HG2.out HIQ.out (by rw [arr_size, arr_size, HQL.out]; rfl) (arr_one q) ?_))
            refine bodyPost_ret (results_cell_row rfl _ _ g2 76 (arr q) (0, 0) _ rfl (setRow_heap _ _ _ _ _ _ HG2.out) Try.underlying76 rfl HIQ.out) rfl ?_
            exact ⟨by rw [HQP.out], below_setRow HB.out HG2W.out _⟩
      · have c1 : decide ((1 : Int) < (d : Int)) = false := decide_eq_false (by omega)
        have HQP := Aside0.mk (show m = pln m by unfold pln; rw [← HD.out, if_neg h1])
        go_wp2_with (first
          | (refine wpList_load_row rfl 76 _ rfl gb rfl 76 (arr m) (0, 0) _ BK.out Try.underlying76 rfl HI0.out ?_)
          | (refine wpList_store_row rfl 76 _ _ rfl g2 (arr m) rfl rfl 76 (arr zeros6) HG2.out HI0.out (by rw [arr_size, arr_size, HML.out]; rfl) (arr_one m) ?_))
        refine bodyPost_ret (results_cell_row rfl _ _ g2 76 (arr m) (0, 0) _ rfl (setRow_heap _ _ _ _ _ _ HG2.out) Try.underlying76 rfl HI0.out) rfl ?_
        exact ⟨by rw [← HQP.out], below_setRow HB.out HG2W.out _⟩
end Go.Proofs.Ytdneelgnmnpanaa.P
