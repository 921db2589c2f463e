/- Both lots of a sieve: what the program's Sieve does; a contract for all lots and sizes. -/
import Derived.Test.YtbckhllkjlgbpaaVld
import Derived.Test.YtbckhllkjlgbpaaSpread
import Derived.Laws.CopyOwn
import Derived.Deep.Slices
import Derived.Laws.MakeOwn
namespace Go.Proofs.Ytbckhllkjlgbpaa.P
open Go.RowKit Go.Proofs.YtbckhllkjlgbpaaW.PrintWords Go.Proofs.YtbckhllkjlgbpaaW.PrintLast Go.Proofs.YtbckhllkjlgbpaaW.PrintMore
set_option linter.unusedVariables false
/-- copy over a whole row of the call's own. -/
theorem run_copy_whole {P : Program} (w : World) (dT sT ty elem : TypeId) (sz g n dCap sCap : Nat) (sp : Option Addr) (cur : Array Value) (t : TypeId) (cs : List Value)
    (hu : P.underlying dT = some (.slice elem)) (hs : (P.info? elem).map (·.size) = some sz) (hg : w.heap[g]? = some (.cells cur t (0, 0))) (hn : cs.length = n * sz) (hcur : cur.size = cs.length)
    (hsrc : 0 < n → ∃ ad, sp = some ad ∧ ∀ j v, cs[j]? = some v → w.cell? (ad.add j) = some v) (h1 : ∀ v ∈ cs, v.oneCell' = true) :
    (Builtin.copy_ #[dT, sT] ty #[.slice (some ⟨g, 0, none⟩) n dCap, .slice sp n sCap]).run P w = .ok (goInt n) (w.setRow g cs.toArray) := by
  have hst := run_storeCells_at P g 0 t cs 0 cur w hg (by omega) h1
  have e1 : (cur.toList.take (0 + 0) ++ cs ++ cur.toList.drop (0 + 0 + cs.length)).toArray = cs.toArray := by
    rw [List.drop_eq_nil_of_le (by simp; omega)]
    simp
  rw [e1] at hst
  cases hq : P.info? elem with
  | none => simp [hq] at hs
  | some i =>
    have hi : i.size = sz := by simpa [hq] using hs
    by_cases h0 : 0 < n
    · obtain ⟨ad, rfl, hc⟩ := hsrc h0
      have hl := run_loadCells_list (P := P) w ad cs hc
      simp [Builtin.copy_, run_underlying hu, Builtin.lenOf, Builtin.firstCells, sizeOf, typeInfo, hq, hi, ← hn, hl, hst]
    · obtain rfl : n = 0 := by omega
      obtain rfl : cs = [] := List.eq_nil_of_length_eq_zero (by omega)
      cases sp with
      | none =>
        have hst' : (storeCells ⟨g, 0, none⟩ [] 0).run P w = .ok () (w.setRow g #[]) := hst
        simp [Builtin.copy_, run_underlying hu, Builtin.lenOf, Builtin.firstCells, sizeOf, typeInfo, hq, hst']
      | some ad =>
        have hl := run_loadCells_list (P := P) w ad [] (by simp)
        simp only [List.length_nil] at hl
        have hst' : (storeCells ⟨g, 0, none⟩ [] 0).run P w = .ok () (w.setRow g #[]) := hst
        simp [Builtin.copy_, run_underlying hu, Builtin.lenOf, Builtin.firstCells, sizeOf, typeInfo, hq, hl, hst']
theorem wpList_copy_whole {P : Program} {w : World} {ops : Array Oper} {rest : List Oper} {o : Oper} {a : Act} {Q : Exit → Act → World → Prop} (hgd : o.guard = none) (d s : Operand) (dT sT : TypeId)
    (ho : o.op = .call { callee := .builtin .copy, args := #[d, s], argTypes := #[dT, sT] }) (elem : TypeId) (sz : Nat) (hu : P.underlying dT = some (.slice elem)) (hs : (P.info? elem).map (·.size) = some sz)
    (g n dCap sCap : Nat) (sp : Option Addr) (hd : a.eval d = .slice (some ⟨g, 0, none⟩) n dCap) (hsv : a.eval s = .slice sp n sCap) (cur : Array Value) (t : TypeId) (cs : List Value) (hg : w.heap[g]? = some (.cells cur t (0, 0))) (hn : cs.length = n * sz) (hcur : cur.size = cs.length)
    (hsrc : 0 < n → ∃ ad, sp = some ad ∧ ∀ j v, cs[j]? = some v → w.cell? (ad.add j) = some v) (h1 : ∀ v ∈ cs, v.oneCell' = true)
    (h : wpList P ops Q rest (a.put o.dst (goInt n)) (w.setRow g cs.toArray)) : wpList P ops Q (o :: rest) a w := by
  refine wpList_plain hgd fun K hK => ?_
  have hrun := run_copy_whole (P := P) w dT sT o.type elem sz g n dCap sCap sp cur t cs hu hs hg hn hcur hsrc h1
  unfold Oper.wp
  simp [execOp, ho, resolve, invoke, builtin, hd, hsv, hrun, Result.andThen]
  exact hK _ _ h
/-- A made slice of grains. -/
theorem run_make58 (n : Nat) (hn : n ≤ 100000) (w : World) :
    (Instr.makeSlice 22 (.int .i64 (n : Int)) (.int .i64 (n : Int))).run Try.prog w = .ok (.slice (some ⟨w.heap.size, 0, none⟩) n n) (w.alloc (.cells (madeCells #[.int .i64 0, .int .i64 0] (n * 2)) 58)) := by
  have hi := info58
  cases hq : Try.prog.info? 58 with
  | none => rw [hq] at hi; simp at hi
  | some i =>
    rw [hq] at hi
    simp at hi
    obtain ⟨hz, hs, hb⟩ := hi
    have hr := run_make (P := Try.prog) w 22 58 i _ Try.underlying22 hq hz .i64 .i64 n n (by omega) (by omega) (by rw [hb]; omega) (by omega)
    simp only [Int.toNat_natCast, hs] at hr
    exact hr
/-- The cells of a lot. -/
def cells58 (l : List S58) : List Value := l.flatMap fun x => [.int .i64 x.f0, .int .i64 x.f1]
theorem cells58_length (l : List S58) : (cells58 l).length = l.length * 2 := by
  induction l with
  | nil => rfl
  | cons x r ih =>
    have h : cells58 (x :: r) = .int .i64 x.f0 :: .int .i64 x.f1 :: cells58 r := rfl
    rw [h]
    simp [ih]
    omega
theorem cells58_one (l : List S58) : ∀ v ∈ cells58 l, v.oneCell' = true := by
  intro v hv
  obtain ⟨x, _, hx⟩ := List.mem_flatMap.1 hv
  simp only [List.mem_cons, List.not_mem_nil, or_false] at hx
  rcases hx with rfl | rfl <;> rfl
theorem cells58_reps (w : World) (base : Nat) (ok : Nat → Prop) : ∀ l : List S58, Reps (k58.M w base ok) 2 l (cells58 l)
  | [] => Reps.none _ _
  | x :: r => Reps.c2 (k58_mkM w base ok x) (cells58_reps w base ok r)
theorem cells58_at : ∀ (l : List S58) (j : Nat) (v : Value), (cells58 l)[j]? = some v → ∃ x, l[j / 2]? = some x ∧ [Value.int .i64 x.f0, .int .i64 x.f1][j % 2]? = some v
  | [], j, v, h => by simp [cells58] at h
  | x :: r, 0, v, h => ⟨x, rfl, h⟩
  | x :: r, 1, v, h => ⟨x, rfl, h⟩
  | x :: r, j + 2, v, h => by
    have h2 : (cells58 r)[j]? = some v := h
    obtain ⟨y, hy, hv⟩ := cells58_at r j v h2
    refine ⟨y, ?_, ?_⟩
    · rw [show (j + 2) / 2 = j / 2 + 1 by omega, List.getElem?_cons_succ]
      exact hy
    · rw [show (j + 2) % 2 = j % 2 by omega]
      exact hv
/-- The cells behind a row's address. -/
theorem row_cells {w : World} {ad : Addr} {l : List S58} (h : Kd.C k58 w (some ad) l.length l) (j : Nat) (v : Value) (hj : (cells58 l)[j]? = some v) : w.cell? (ad.add j) = some v := by
  obtain ⟨x, hx, hv⟩ := cells58_at l j v hj
  have hpos : 0 < l.length := by
    have := (List.getElem?_eq_some_iff.1 hx).1
    omega
  obtain ⟨ad', e, hc⟩ := h.2.2 hpos
  cases e
  obtain ⟨c, _, hK, hcell⟩ := hc (j / 2) x hx
  obtain rfl := k58_open hK
  have := hcell (j % 2) v hv
  rw [show j / 2 * k58.sz + j % 2 = j by show j / 2 * 2 + j % 2 = j; omega] at this
  exact this
/-- A row that holds a lot, in a block of its own. -/
theorem row_own {w : World} {base g : Nat} {l : List S58} {ok : Nat → Prop} (hg : w.heap[g]? = some (.cells (cells58 l).toArray 58 (0, 0))) (hb : base ≤ g) (hl : l.length ≤ 1000) (hok : ok g) : Kd.R k58 58 w base ok (.slice (some ⟨g, 0, none⟩) l.length l.length) l := by
  refine ⟨fun k hk => ?_, cells58 l, ⟨cells58_length l, .inr ⟨g, l.length, _, rfl, hb, hg, Nat.le_refl _, by unfold maxLen; omega, by simp [cells58_length]; rfl, ?_⟩⟩, cells58_reps _ _ _ l⟩
  · have : g = k := by simpa [Value.ownBlock] using hk
    subst this
    exact hok
  · rw [List.take_of_length_le (by simp [cells58_length]; exact Nat.le_refl _)]
theorem fin_ {w W : World} {l0 : List S58} {n m g1 g2 B : Nat} {m1 m2 : Array Value} (hlt : (l0.take n).length = n) (hld : (l0.drop n).length = l0.length - n) (hm : m = l0.length - n) (h6 : l0.length ≤ 6) (hB : w.heap.size ≤ B) (hne : g1 ≠ g2)
    (h1 : W.heap[g1]? = some (.cells m1 58 (0, 0))) (h2 : W.heap[g2]? = some (.cells m2 58 (0, 0))) (hg1 : B ≤ g1) (hg2 : B ≤ g2) (hb : Below w.heap.size w W) :
    ∃ v0_ v1_ : Value, Ending.returned (.tuple #[.slice (some ⟨g1, 0, none⟩) n n, .slice (some ⟨g2, 0, none⟩) m m, .int .i64 0]) = .returned (.tuple #[v0_, v1_, .int .i64 0]) ∧ Kd.R k58 58 ((W.setRow g1 (cells58 (l0.take n)).toArray).setRow g2 (cells58 (l0.drop n)).toArray) w.heap.size (fun k_ => some k_ ≠ (v1_ : Value).ownBlock) v0_ (l0.take n) ∧ Kd.R k58 58 ((W.setRow g1 (cells58 (l0.take n)).toArray).setRow g2 (cells58 (l0.drop n)).toArray) w.heap.size (fun k_ => some k_ ≠ (v0_ : Value).ownBlock) v1_ (l0.drop n) ∧ Below w.heap.size w ((W.setRow g1 (cells58 (l0.take n)).toArray).setRow g2 (cells58 (l0.drop n)).toArray) := by
  have f1 : ((W.setRow g1 (cells58 (l0.take n)).toArray).setRow g2 (cells58 (l0.drop n)).toArray).heap[g1]? = some (.cells (cells58 (l0.take n)).toArray 58 (0, 0)) := (setRow_other _ _ _ _ hne).trans (setRow_heap _ _ _ _ _ _ h1)
  have f2 : ((W.setRow g1 (cells58 (l0.take n)).toArray).setRow g2 (cells58 (l0.drop n)).toArray).heap[g2]? = some (.cells (cells58 (l0.drop n)).toArray 58 (0, 0)) := setRow_heap _ _ _ _ _ _ ((setRow_other _ _ _ _ (Ne.symm hne)).trans h2)
  refine ⟨_, _, rfl, ?_, ?_, below_setRow (below_setRow hb (by omega) _) (by omega) _⟩
  · have r := row_own (base := w.heap.size) (ok := fun k_ => some k_ ≠ (Value.slice (some ⟨g2, 0, none⟩) m m).ownBlock) f1 (by omega) (by simp; omega) (by simp [Value.ownBlock]; exact hne)
    rw [hlt] at r
    exact r
  · have r := row_own (base := w.heap.size) (ok := fun k_ => some k_ ≠ (Value.slice (some ⟨g1, 0, none⟩) n n).ownBlock) f2 (by omega) (by simp; omega) (by simp [Value.ownBlock]; exact Ne.symm hne)
    rw [hld, ← hm] at r
    exact r
set_option maxHeartbeats 1000000 in
set_option maxRecDepth 100000 in
theorem sieve_calls (A0 : Option Addr) (c0 : Nat) (l0 : List S58) (s : Int) (w : World) (hr0 : Kd.C k58 w A0 l0.length l0) (hc0 : l0.length ≤ c0) (hv0 : Valid l0) (n : Nat) (hn : n = (l0.takeWhile fun x => decide (x.f0 ≤ s)).length) :
    Calls Try.prog 70 #[.slice A0 l0.length c0, .int .i64 s] w fun e w' => ∃ v0_ v1_ : Value, e = .returned (.tuple #[v0_, v1_, .int .i64 0]) ∧ Kd.R k58 58 w' w.heap.size (fun k_ => some k_ ≠ (v1_ : Value).ownBlock) v0_ (l0.take n) ∧ Kd.R k58 58 w' w.heap.size (fun k_ => some k_ ≠ (v0_ : Value).ownBlock) v1_ (l0.drop n) ∧ Below w.heap.size w w' := by
  have hnl : n ≤ l0.length := by rw [hn]; exact (List.takeWhile_sublist _).length_le
  obtain ⟨K0, hK0⟩ := wash_vld l0
  obtain ⟨K1, hK1⟩ := wash_upTo_ev l0 s hv0.small.1
  have A2 := Aside0.mk (show wash_Validate.f K0 l0 = some 0 from (hK0 K0 (Nat.le_refl _)).trans (congrArg some ((vld_zero l0).2 hv0)))
  have A3 := Aside0.mk (show wash_upTo.f K1 l0 s = some (n : Int) from (hK1 K1 (Nat.le_refl _)).trans (by rw [hn]))
  have HR0 := Aside0.mk hr0
  have HC0 := Aside0.mk hc0
  have HL6 := Aside0.mk hv0.1
  have hmk1 := fun W => run_make58 n (by have := hv0.1; omega) W
  have hmk2 := fun W => run_make58 (l0.length - n) (by have := hv0.1; omega) W
  have hsub : ((l0.length - n : Nat) : Int) = (l0.length : Int) - (n : Int) := by omega
  rw [hsub] at hmk2
  have HN := Aside0.mk hnl
  have h6 : l0.length ≤ 6 := hv0.1
  clear hr0 hv0 hn hK0 hK1 hsub
  have HB := Aside0.mk (Below.refl w.heap.size w)
  have hu58 := Try.underlying58
  have HS58 := Aside0.mk (show (Try.prog.info? 58).map (·.size) = some 2 by kernel_rfl)
  have hlt : (l0.take n).length = n := by simp; omega
  have hld : (l0.drop n).length = l0.length - n := by simp
  have HCA := Aside0.mk (cells58_length (l0.take n))
  have HCB := Aside0.mk (cells58_length (l0.drop n))
  rw [hlt] at HCA
  rw [hld] at HCB
  have HLT := Aside0.mk hlt
  have HLD := Aside0.mk hld
  clear hlt hld
  have hcn : n ≤ c0 := by omega
  have hsub2 : ∀ (j : Nat) (v : Value), (cells58 (l0.take n))[j]? = some v → (cells58 l0)[j]? = some v := by
    intro j v hj
    have e : cells58 l0 = cells58 (l0.take n) ++ cells58 (l0.drop n) := by
      unfold cells58
      rw [← List.flatMap_append, List.take_append_drop]
    rw [e, List.getElem?_append_left (List.getElem?_eq_some_iff.1 hj).1]
    exact hj
  have hsub3 : ∀ (j : Nat) (v : Value), (cells58 (l0.drop n))[j]? = some v → (cells58 l0)[n * 2 + j]? = some v := by
    intro j v hj
    have e : cells58 l0 = cells58 (l0.take n) ++ cells58 (l0.drop n) := by
      unfold cells58
      rw [← List.flatMap_append, List.take_append_drop]
    rw [e, List.getElem?_append_right (by rw [HCA.out]; omega), HCA.out, Nat.add_sub_cancel_left]
    exact hj
  have HSRC1 := Aside0.mk (show 0 < n → ∃ ad, A0 = some ad ∧ ∀ (j : Nat) (v : Value), (cells58 (l0.take n))[j]? = some v → ∀ W, Below w.heap.size w W → W.cell? (ad.add j) = some v from fun h => by
    obtain ⟨ad, e, _⟩ := HR0.out.2.2 (by omega)
    subst e
    refine ⟨ad, rfl, fun j v hj W hW => ?_⟩
    have hc := row_cells HR0.out j v (hsub2 j v hj)
    exact (hW.cell (World.block_lt_of_cell? w _ hc)).trans hc)
  have HSRC2 := Aside0.mk (show 0 < l0.length - n → ∃ ad, A0 = some ad ∧ ∀ (j : Nat) (v : Value), (cells58 (l0.drop n))[j]? = some v → ∀ W, Below w.heap.size w W → W.cell? ((ad.add (n * 2)).add j) = some v from fun h => by
    obtain ⟨ad, e, _⟩ := HR0.out.2.2 (by omega)
    subst e
    refine ⟨ad, rfl, fun j v hj W hW => ?_⟩
    rw [Go.Deep.add_add]
    have hc := row_cells HR0.out _ v (hsub3 j v hj)
    exact (hW.cell (World.block_lt_of_cell? w _ hc)).trans hc)
  clear hsub2 hsub3
  go_enter Try.func70, Try.ntmps70
  go_wp2_with (first
    | ((with_reducible refine gate_callee (f := 58) rfl ?_); refine goesL_ (some 12) rfl rfl Try.func58 (by kernel_rfl) rfl #[.slice A0 l0.length c0] rfl (by (try simp only [List.map_toArray, List.map_cons, List.map_nil]); first | done | rfl) ?_; (with_reducible refine (wash_Validate.calls K0 _ _ l0 0 _ (Kd.C_below HR0.out HB.out) HC0.out A2.out).mono ?_); rintro e w11 ⟨rfl, hb⟩; refine ⟨_, rfl, ?_⟩; have n0_ := Aside0.mk (below_step (by repeat (first | (with_reducible first | exact HB.out | apply below_alloc | apply pw_below_drewN | apply below_drew1) | exact HB.out)) hb); clear HB; have HB := n0_; clear n0_; (try clear hb))
    | ((with_reducible refine gate_callee (f := 89) rfl ?_); refine goesL_ (some 18) rfl rfl Try.func89 (by kernel_rfl) rfl #[.slice A0 l0.length c0, .int .i64 s] rfl (by (try simp only [List.map_toArray, List.map_cons, List.map_nil]); first | done | rfl) ?_; (with_reducible refine (wash_upTo.calls K1 _ _ l0 s (n : Int) _ (Kd.C_below HR0.out HB.out) HC0.out A3.out).mono ?_); rintro e w12 ⟨rfl, ⟨nd, rfl⟩⟩; refine ⟨_, rfl, ?_⟩))
  have hsz0 : w.heap.size ≤ w11.heap.size := HB.out.size
  have HZ := Aside0.mk hsz0
  have HZ1 := Aside0.mk (Nat.le_succ_of_le hsz0)
  clear hsz0
  go_region
  all_goals
    cases A0 with
    | none =>
      have hl0 : l0.length - n = 0 := by
        rcases Nat.eq_zero_or_pos (l0.length - n) with h | h
        · exact h
        · obtain ⟨_, e, _⟩ := HSRC2.out h
          cases e
      have HL0 := Aside0.mk hl0
      clear hl0
      go_wp2_with (first
        | (refine wpList_copy_whole rfl (.tmp 26) (.tmp 29) 22 22 rfl 58 2 Try.underlying22 HS58.out _ n n _ _ rfl rfl (madeCells #[.int .i64 0, .int .i64 0] (n * 2)) 58 (cells58 (l0.take n)) ?g1 HCA.out ?g3 ?g4 (cells58_one _) ?_; (case g1 => first | exact heap_alloc2_new _ _ _ | exact heap_alloc2_old _ _ _); (case g3 => rw [size_madeCells, HCA.out]); (case g4 => exact fun h => by obtain ⟨ad', e, hc⟩ := HSRC1.out h; exact ⟨ad', e, fun j v hj => hc j v hj _ (by repeat (first | (with_reducible first | exact HB.out | apply below_alloc | apply pw_below_drewN | apply below_drew1) | exact HB.out))⟩))
        | (refine wpList_copy_whole rfl (.tmp 31) (.tmp 34) 22 22 rfl 58 2 Try.underlying22 HS58.out _ (l0.length - n) (l0.length - n) _ _ rfl rfl (madeCells #[.int .i64 0, .int .i64 0] ((l0.length - n) * 2)) 58 (cells58 (l0.drop n)) ?g1 HCB.out ?g3 ?g4 (cells58_one _) ?_; (case g1 => refine (setRow_other _ _ _ _ (by simp)).trans ?_; first | exact heap_alloc2_new _ _ _ | exact heap_alloc2_old _ _ _); (case g3 => rw [size_madeCells, HCB.out]); (case g4 => exact fun h => absurd h (by rw [HL0.out]; exact Nat.lt_irrefl _))))
      go_ret3
      exact fin_ HLT.out HLD.out (by first | rfl | exact HL0.out.symm) h6 HZ.out (by simp) (by first | exact heap_alloc2_new _ _ _ | exact heap_alloc2_old _ _ _) (by first | exact heap_alloc2_new _ _ _ | exact heap_alloc2_old _ _ _) (by simp) (by simp) (by repeat (first | (with_reducible first | exact HB.out | apply below_alloc | apply pw_below_drewN | apply below_drew1) | exact HB.out))
    | some ad =>
      by_cases hcc : n = c0
      · have HL0 := Aside0.mk (show l0.length - n = 0 by have := HC0.out; omega)
        have HCB0 := Aside0.mk (show (cells58 (l0.drop n)).length = 0 * 2 by rw [HCB.out, HL0.out])
        obtain rfl : n = c0 := hcc
        go_wp2_with (first
          | (refine wpList_copy_whole rfl (.tmp 26) (.tmp 29) 22 22 rfl 58 2 Try.underlying22 HS58.out _ n n _ _ rfl rfl (madeCells #[.int .i64 0, .int .i64 0] (n * 2)) 58 (cells58 (l0.take n)) ?g1 HCA.out ?g3 ?g4 (cells58_one _) ?_; (case g1 => first | exact heap_alloc2_new _ _ _ | exact heap_alloc2_old _ _ _); (case g3 => rw [size_madeCells, HCA.out]); (case g4 => exact fun h => by obtain ⟨ad', e, hc⟩ := HSRC1.out h; exact ⟨ad', e, fun j v hj => hc j v hj _ (by repeat (first | (with_reducible first | exact HB.out | apply below_alloc | apply pw_below_drewN | apply below_drew1) | exact HB.out))⟩))
          | (refine wpList_copy_whole rfl (.tmp 31) (.tmp 34) 22 22 rfl 58 2 Try.underlying22 HS58.out _ 0 0 _ _ rfl rfl (madeCells #[.int .i64 0, .int .i64 0] 0) 58 (cells58 (l0.drop n)) ?g1 HCB0.out ?g3 ?g4 (cells58_one _) ?_; (case g1 => refine (setRow_other _ _ _ _ (by simp)).trans ?_; first | exact heap_alloc2_new _ _ _ | exact heap_alloc2_old _ _ _); (case g3 => rw [size_madeCells, HCB0.out]); (case g4 => exact fun h => absurd h (Nat.lt_irrefl _))))
        go_ret3
        exact fin_ HLT.out HLD.out (by first | rfl | exact HL0.out.symm) h6 HZ.out (by simp) (by first | exact heap_alloc2_new _ _ _ | exact heap_alloc2_old _ _ _) (by first | exact heap_alloc2_new _ _ _ | exact heap_alloc2_old _ _ _) (by simp) (by simp) (by repeat (first | (with_reducible first | exact HB.out | apply below_alloc | apply pw_below_drewN | apply below_drew1) | exact HB.out))
      · have hcc2 : ¬ n = c0 := fun e => hcc e
        have hlt2 : n < c0 := by omega
        go_wp2_with (first
          | (refine wpList_copy_whole rfl (.tmp 26) (.tmp 29) 22 22 rfl 58 2 Try.underlying22 HS58.out _ n n _ _ rfl rfl (madeCells #[.int .i64 0, .int .i64 0] (n * 2)) 58 (cells58 (l0.take n)) ?g1 HCA.out ?g3 ?g4 (cells58_one _) ?_; (case g1 => first | exact heap_alloc2_new _ _ _ | exact heap_alloc2_old _ _ _); (case g3 => rw [size_madeCells, HCA.out]); (case g4 => exact fun h => by obtain ⟨ad', e, hc⟩ := HSRC1.out h; exact ⟨ad', e, fun j v hj => hc j v hj _ (by repeat (first | (with_reducible first | exact HB.out | apply below_alloc | apply pw_below_drewN | apply below_drew1) | exact HB.out))⟩))
          | (refine wpList_copy_whole rfl (.tmp 31) (.tmp 34) 22 22 rfl 58 2 Try.underlying22 HS58.out _ (l0.length - n) (l0.length - n) _ _ rfl rfl (madeCells #[.int .i64 0, .int .i64 0] ((l0.length - n) * 2)) 58 (cells58 (l0.drop n)) ?g1 HCB.out ?g3 ?g4 (cells58_one _) ?_; (case g1 => refine (setRow_other _ _ _ _ (by simp)).trans ?_; first | exact heap_alloc2_new _ _ _ | exact heap_alloc2_old _ _ _); (case g3 => rw [size_madeCells, HCB.out]); (case g4 => exact fun h => by obtain ⟨ad', e, hc⟩ := HSRC2.out h; cases e; exact ⟨_, rfl, fun j v hj => hc j v hj _ (Go.below_setRow (by repeat (first | (with_reducible first | exact HB.out | apply below_alloc | apply pw_below_drewN | apply below_drew1) | exact HB.out)) (by first | exact HZ.out | exact HZ1.out) _)⟩)))
        go_ret3
        exact fin_ HLT.out HLD.out (by first | rfl | exact HL0.out.symm) h6 HZ.out (by simp) (by first | exact heap_alloc2_new _ _ _ | exact heap_alloc2_old _ _ _) (by first | exact heap_alloc2_new _ _ _ | exact heap_alloc2_old _ _ _) (by simp) (by simp) (by repeat (first | (with_reducible first | exact HB.out | apply below_alloc | apply pw_below_drewN | apply below_drew1) | exact HB.out))
/-- What Sieve answers. -/
def siv (l : List S58) (s : Int) : List S58 × List S58 × Int :=
  if vld l = 0 then (l.take (l.takeWhile fun x => decide (x.f0 ≤ s)).length, l.drop (l.takeWhile fun x => decide (x.f0 ≤ s)).length, 0) else ([], [], vld l)
def wash_Sieve.f (l : List S58) (s : Int) : Option (List S58 × List S58 × Int) := some (siv l s)
set_option maxHeartbeats 1000000 in
set_option maxRecDepth 100000 in
theorem wash_Sieve.calls (A0 : Option Addr) (c0 : Nat) (l0 : List S58) (a1 : Int) (r1 : List S58) (r2 : List S58) (r3 : Int) (w : World) (hr0 : Kd.C k58 w A0 l0.length l0) (hc0 : l0.length ≤ c0) (h : wash_Sieve.f l0 a1 = some (r1, r2, r3)) :
    Calls Try.prog 70 #[.slice A0 l0.length c0, .int .i64 a1] w fun e w' => ∃ v0_ v1_ : Value, e = .returned (.tuple #[v0_, v1_, .int .i64 r3]) ∧ Kd.R k58 58 w' w.heap.size (fun k_ => some k_ ≠ (v1_ : Value).ownBlock) v0_ r1 ∧ Kd.R k58 58 w' w.heap.size (fun k_ => some k_ ≠ (v0_ : Value).ownBlock) v1_ r2 ∧ Below w.heap.size w w' := by
  have hj : siv l0 a1 = (r1, r2, r3) := Option.some.inj h
  by_cases cv0 : vld l0 = 0
  · have := sieve_calls A0 c0 l0 a1 w hr0 hc0 ((vld_zero l0).1 cv0) _ rfl
    unfold siv at hj
    rw [if_pos cv0] at hj
    simp only [Prod.mk.injEq] at hj
    obtain ⟨rfl, rfl, rfl⟩ := hj
    exact this
  · unfold siv at hj
    rw [if_neg cv0] at hj
    simp only [Prod.mk.injEq] at hj
    obtain ⟨rfl, rfl, rfl⟩ := hj
    obtain ⟨K0, hK0⟩ := wash_vld l0
    have A2 := Aside0.mk (show wash_Validate.f K0 l0 = some (vld l0) from hK0 K0 (Nat.le_refl _))
    have HR0 := Aside0.mk hr0
    have HC0 := Aside0.mk hc0
    have hv1 : (vld l0 != 0) = true := bne_iff_ne.mpr cv0
    have hv2 : (vld l0 == 0) = false := beq_eq_false_iff_ne.mpr cv0
    clear hr0 hc0 hK0 h cv0
    have HB := Aside0.mk (Below.refl w.heap.size w)
    go_enter Try.func70, Try.ntmps70
    go_wp2_with (first
      | ((with_reducible refine gate_callee (f := 58) rfl ?_); refine goesL_ (some 12) rfl rfl Try.func58 (by kernel_rfl) rfl #[.slice A0 l0.length c0] rfl (by (try simp only [List.map_toArray, List.map_cons, List.map_nil]); first | done | rfl) ?_; (with_reducible refine (wash_Validate.calls K0 _ _ l0 (vld l0) _ (Kd.C_below HR0.out HB.out) HC0.out A2.out).mono ?_); rintro e w11 ⟨rfl, hb⟩; refine ⟨_, rfl, ?_⟩; have n0_ := Aside0.mk (below_step (by repeat (first | (with_reducible first | exact HB.out | apply below_alloc | apply pw_below_drewN | apply below_drew1) | exact HB.out)) hb); clear HB; have HB := n0_; clear n0_; (try clear hb)))
    go_ret3
    exact ⟨_, _, rfl, Kd.R_nil _ _ _ _ _, Kd.R_nil _ _ _ _ _, HB.out⟩
end Go.Proofs.Ytbckhllkjlgbpaa.P
