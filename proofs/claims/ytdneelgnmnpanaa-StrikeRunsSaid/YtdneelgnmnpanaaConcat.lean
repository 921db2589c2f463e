/- slices.Concat of two tables: the row that it makes holds the rows of both, one after another; for any two tables of at most 1000 rows together. -/
import Derived.Test.YtdneelgnmnpanaaP0
import Derived.Great.BuildSlice
import Derived.Lib.AppendZeros
import Derived.WalkSpells
namespace Go.Proofs.Ytdneelgnmnpanaa.P
open Go.RowKit Go.Proofs.YtdneelgnmnpanaaW.PrintWords Go.Proofs.YtdneelgnmnpanaaW.PrintLast Go.Proofs.YtdneelgnmnpanaaW.PrintMore
set_option linter.unusedVariables false
set_option linter.unusedSimpArgs false
theorem info22 : (Try.prog.info? 22).map (fun i => (i.zero, i.size)) = some (some (.slice none 0 0), 1) := by kernel_rfl
/-- A slice literal of two tables: its block. -/
theorem Two.build {P : Program} {ops : Array Oper} {rest : List Oper} {o : Oper} {a : Act} {W : World} {Q : Exit → Act → World → Prop} (hgd : o.guard = none) {N : Tmp} (_hd : o.dst = some N) {v0 v1 : Value}
    (hrun : (execOp a.eval o).run P W = .ok (.value (.slice (some ⟨W.heap.size, 0, none⟩) 2 2)) (W.alloc (.cells #[v0, v1] 22)))
    (h : ∀ g, g = W.heap.size → ∀ w1, w1.heap[g]? = some (.cells #[v0, v1] 22 (0, 0)) → Below W.heap.size W w1 → wpList P ops Q rest (a.put o.dst (.slice (some ⟨g, 0, none⟩) 2 2)) w1) : wpList P ops Q (o :: rest) a W :=
  Kd.event_run hgd hrun (h _ rfl _ (blk_new W _) (below_alloc (Below.refl _ _) _))
def slices_Concat_int_int.f (l0 l1 : List (List Int)) : Option (List (List Int)) := if l0.length + l1.length ≤ 1000 then some (l0 ++ l1) else none
set_option maxHeartbeats 1000000 in
set_option maxRecDepth 100000 in
/-- slices.Grow of nothing: an empty row with room. -/
theorem grow_calls (n : Nat) (hn : n ≤ 1000) (w : World) :
    Calls Try.prog 113 #[.slice none 0 0, .int .i64 n] w fun e w' => ∃ v, e = .returned v ∧ Kd.N (Kd.slice 3 (Kd.int .i64)) 28 w' w.heap.size (fun k => w.heap.size ≤ k) v [] ∧ Below w.heap.size w w' := by
  have hu22 := Try.underlying22
  have hu3 := Try.underlying3
  by_cases h0 : n = 0
  · subst h0
    go_enter Try.func113, Try.ntmps113
    go_wp2_with fail
    go_ret
    exact ⟨_, rfl, Kd.N_nil _ _ _ _ _, Below.refl _ _⟩
  · have hp : 0 < n := by omega
    obtain ⟨i28, hi28, hz28, hs28, hb28⟩ : ∃ i, Try.prog.info? 28 = some i ∧ i.zero = some (.slice none 0 0) ∧ i.size = 1 ∧ i.bytes = 24 := by
      have h := info28
      cases hq : Try.prog.info? 28 with
      | none => rw [hq] at h; cases h
      | some i =>
        rw [hq] at h
        simp only [Option.map_some, Option.some.injEq, Prod.mk.injEq] at h
        exact ⟨i, rfl, h.1, h.2.1, h.2.2⟩
    have c1 : decide ((n : Int) < 0) = false := decide_eq_false (by omega)
    have c2 : decide (0 < (n : Int)) = true := decide_eq_true (by omega)
    have happ : ∀ W : World, (Builtin.append_ #[22, 3] 22 #[.slice none 0 0, .int .i64 (n : Int)]).run Try.prog W = .ok (.slice (some ⟨W.heap.size, 0, none⟩) n (grownCap W n 0 28)) (W.drew.alloc (.cells (Builtin.zeroCells (Value.slice none 0 0).cells n ++ Builtin.zeroCells (Value.slice none 0 0).cells (grownCap W n 0 28 - n)) 28)) :=
      fun W => Lib.run_append_nil_zeros W 22 3 22 28 i28 _ .i64 .i64 hu22 hu3 hi28 hz28 n hp (by omega) (by omega) (by rw [hb28]; omega)
    go_enter Try.func113, Try.ntmps113
    go_wp2_with (at_builtin; refine Lib.wpList_append_run _ rfl _ _ _ _ rfl _ _ rfl rfl _ _ (happ _) ?_)
    go_ret
    refine ⟨_, rfl, Kd.R_N ⟨fun k hk => ?_, [], ⟨rfl, .inr ⟨w.heap.size, grownCap w n 0 28, _, rfl, Nat.le_refl _, heap_alloc_new w _, Nat.zero_le _, grownCap_le_maxLen w n 0 28 (by simp [maxLen]; omega), ?_, rfl⟩⟩, Reps.none _ _⟩, (((Below.refl _ _).alloc (Nat.le_refl _) _).drew)⟩
    · simp [Value.ownBlock] at hk
      omega
    · have := grownCap_ge w n 0 28
      simp [Builtin.zeroCells, Kd.slice]
      omega
set_option maxHeartbeats 2000000 in
set_option maxRecDepth 100000 in
theorem slices_Concat_int_int.calls (P0_ : Nat → Prop) (A0 : Option Addr) (c0 : Nat) (l0 : List (List Int)) (P1_ : Nat → Prop) (A1 : Option Addr) (c1 : Nat) (l1 : List (List Int)) (r : List (List Int)) (w : World) (g : Nat) (hg : w.heap[g]? = some (.cells #[.slice A0 l0.length c0, .slice A1 l1.length c1] 22 (0, 0)))
    (hs0 : Kd.V (Kd.slice 3 (Kd.int .i64)) 28 w w.heap.size (fun k_ => P0_ k_) (.slice A0 l0.length c0) l0) (hs1 : Kd.V (Kd.slice 3 (Kd.int .i64)) 28 w w.heap.size (fun k_ => P1_ k_) (.slice A1 l1.length c1) l1) (h : slices_Concat_int_int.f l0 l1 = some r) :
    Calls Try.prog 76 #[.slice (some ⟨g, 0, none⟩) 2 2] w fun e w' => ∃ v0_ : Value, e = .returned (v0_) ∧ Kd.N (Kd.slice 3 (Kd.int .i64)) 28 w' w.heap.size (fun k_ => ((P0_ k_ ∨ P1_ k_) ∨ w.heap.size ≤ k_)) v0_ r ∧ Below w.heap.size w w' := by
  unfold slices_Concat_int_int.f at h
  by_cases hl : l0.length + l1.length ≤ 1000
  case neg => rw [if_neg hl] at h; cases h
  rw [if_pos hl] at h
  obtain rfl := Option.some.inj h
  clear h
  have hu22 := Try.underlying22
  have hu3 := Try.underlying3
  have hu91 := Try.underlying91
  have HB := Aside0.mk (Below.refl w.heap.size w)
  have HV0 := Aside0.mk hs0
  have HV1 := Aside0.mk hs1
  have HG := Aside0.mk hg
  have HL := Aside0.mk hl
  clear hs0 hs1 hg hl
  go_enter Try.func76, Try.ntmps76
  go_wp2_with fail
  go_loopw [3, 11] (fun s i w' => ∃ n : Nat, n ≤ 2 ∧ i = .int .i64 n ∧ (s = .int .i64 (if n = 0 then 0 else if n = 1 then (l0.length : Int) else ((l0.length + l1.length : Nat) : Int))) ∧ Aside0 (Below w.heap.size w w')) (fun _ i _ => 2 - (intOf i).toNat)
  case atStart => exact ⟨0, by omega, rfl, rfl, by first | exact HB | exact ⟨HB.out.drew⟩⟩
  case round =>
    clear HB
    obtain ⟨n, hn, rfl, rfl, HB⟩ := hrel
    have hg := blk_below HG.out HB.out
    have hx0 : wr.cell? ⟨g, 0, none⟩ = some (.slice A0 l0.length c0) := (blk_cell hg 0).trans rfl
    have hx1 : wr.cell? ⟨g, 1, none⟩ = some (.slice A1 l1.length c1) := (blk_cell hg 1).trans rfl
    have hl := HL.out
    clear hg
    obtain rfl | rfl | rfl : n = 0 ∨ n = 1 ∨ n = 2 := by omega
    · have k1 : decide ((l0.length : Int) < 0) = false := decide_eq_false (by omega)
      go_wp2_with fail
      go_roundw
      case rel => exact ⟨1, by omega, by go_num, by simp, HB⟩
      case measure => simp [intOf]
    · have k2 : decide ((l0.length : Int) + (l1.length : Int) < 0) = false := decide_eq_false (by omega)
      go_wp2_with fail
      go_roundw
      case rel => exact ⟨2, by omega, by go_num, by simp, HB⟩
      case measure => simp [intOf]
    · have HW := Aside0.mk (grow_calls (l0.length + l1.length) hl)
      clear hx0 hx1
      go_wp2_with (first
        | ((with_reducible refine gate_callee (f := 113) rfl ?_); refine goesL_ (some 24) rfl rfl Try.func113 (by kernel_rfl) rfl #[.slice none 0 0, .int .i64 ((l0.length + l1.length : Nat) : Int)] rfl (by (try simp only [List.map_toArray, List.map_cons, List.map_nil]); first | done | rfl) ?_; (with_reducible refine (HW.out _).mono ?_); rintro e w9 ⟨v9, rfl, ho0, hb⟩; refine ⟨_, rfl, ?_⟩; have n0_ := Aside0.mk (Kd.N_lower ho0 (below_size HB.out)); have n1_ := Aside0.mk (Kd.N_mono (ok' := fun k_ => ((P0_ k_ ∨ P1_ k_) ∨ w.heap.size ≤ k_)) n0_.out (fun k_ hk_ => .inr (Nat.le_trans (below_size HB.out) hk_))); have n2_ := Aside0.mk (below_step HB.out hb); clear HB n0_; have HO := n1_; have HB := n2_; clear n1_ n2_; clear hb ho0; obtain ⟨Ao, co, eo⟩ := Kd.N_slice HO.out; subst eo))
      have HO2 := Aside0.mk (show Kd.N (Kd.slice 3 (Kd.int .i64)) 28 _ w.heap.size (fun k_ => ((P0_ k_ ∨ P1_ k_) ∨ w.heap.size ≤ k_)) (.slice Ao ([] : List (List Int)).length co) (if 0 = 0 then [] else if 0 = 1 then l0 else l0 ++ l1) from HO.out)
      clear HO HW
      go_loopw [6, 27] (fun v i w' => ∃ n : Nat, n ≤ 2 ∧ i = .int .i64 n ∧ Aside0 (Kd.N (Kd.slice 3 (Kd.int .i64)) 28 w' w.heap.size (fun k_ => ((P0_ k_ ∨ P1_ k_) ∨ w.heap.size ≤ k_)) v (if n = 0 then [] else if n = 1 then l0 else l0 ++ l1)) ∧ Aside0 (Below w.heap.size w w')) (fun _ i _ => 2 - (intOf i).toNat)
      case atStart => exact ⟨0, by omega, rfl, HO2, by first | exact HB | exact ⟨HB.out.drew⟩⟩
      case round =>
        clear HB HO2
        obtain ⟨n, hn, rfl, HO, HB⟩ := hrel
        have hg := blk_below HG.out HB.out
        have hx0 : wr.cell? ⟨g, 0, none⟩ = some (.slice A0 l0.length c0) := (blk_cell hg 0).trans rfl
        have hx1 : wr.cell? ⟨g, 1, none⟩ = some (.slice A1 l1.length c1) := (blk_cell hg 1).trans rfl
        have hl := HL.out
        clear hg
        obtain rfl | rfl | rfl : n = 0 ∨ n = 1 ∨ n = 2 := by omega
        · have n1_ := Aside0.mk (show Kd.N (Kd.slice 3 (Kd.int .i64)) 28 wr w.heap.size (fun k_ => ((P0_ k_ ∨ P1_ k_) ∨ w.heap.size ≤ k_)) u6 [] from HO.out)
          clear HO
          have HO := n1_
          clear n1_
          go_wp2_with (first | ((with_reducible refine gate_builtin (b := .append) (xs := #[.tmp 31, .tmp 32]) rfl ?_); at_builtin; refine Kd.N_append_rows (Kd.slice 3 (Kd.int .i64)) (w0 := w) w.heap.size rfl (.tmp 31) (.tmp 32) 22 28 (.slice none 0 0) 24 rfl Try.underlying22 info28 rfl (by decide) (by omega) u6 [] l0 _ _ _ (fun k_ => ((P0_ k_ ∨ P1_ k_) ∨ w.heap.size ≤ k_)) (fun k_ => P0_ k_ ∧ some k_ ≠ (u6 : Value).ownBlock) rfl rfl HO.out (Kd.V_F (Kd.V_elder' HV0.out (Kd.N_base HO.out) HB.out)) (fun k_ hk_ => ⟨.inl (.inl hk_.1), hk_.2⟩) (fun k_ hk_ => .inr (Nat.le_trans (below_size HB.out) hk_)) HB.out (below_size HB.out) (by have := HL.out; simp; omega) ?_; intro v15 w15 ho hb hg hat; have n0_ := Aside0.mk hb; have n1_ := Aside0.mk ho; clear HB HO; have HB := n0_; have HO := n1_; clear n0_ n1_; clear ho hb hg hat))
          go_roundw
          case rel => exact ⟨1, by omega, by go_num, HO, HB⟩
          case measure => simp [intOf]
        · have n1_ := Aside0.mk (show Kd.N (Kd.slice 3 (Kd.int .i64)) 28 wr w.heap.size (fun k_ => ((P0_ k_ ∨ P1_ k_) ∨ w.heap.size ≤ k_)) u6 l0 from HO.out)
          clear HO
          have HO := n1_
          clear n1_
          go_wp2_with (first | ((with_reducible refine gate_builtin (b := .append) (xs := #[.tmp 31, .tmp 32]) rfl ?_); at_builtin; refine Kd.N_append_rows (Kd.slice 3 (Kd.int .i64)) (w0 := w) w.heap.size rfl (.tmp 31) (.tmp 32) 22 28 (.slice none 0 0) 24 rfl Try.underlying22 info28 rfl (by decide) (by omega) u6 l0 l1 _ _ _ (fun k_ => ((P0_ k_ ∨ P1_ k_) ∨ w.heap.size ≤ k_)) (fun k_ => P1_ k_ ∧ some k_ ≠ (u6 : Value).ownBlock) rfl rfl HO.out (Kd.V_F (Kd.V_elder' HV1.out (Kd.N_base HO.out) HB.out)) (fun k_ hk_ => ⟨.inl (.inr hk_.1), hk_.2⟩) (fun k_ hk_ => .inr (Nat.le_trans (below_size HB.out) hk_)) HB.out (below_size HB.out) (by have := HL.out; simp; omega) ?_; intro v15 w15 ho hb hg hat; have n0_ := Aside0.mk hb; have n1_ := Aside0.mk ho; clear HB HO; have HB := n0_; have HO := n1_; clear n0_ n1_; clear ho hb hg hat))
          go_roundw
          case rel => exact ⟨2, by omega, by go_num, HO, HB⟩
          case measure => simp [intOf]
        · have n1_ := Aside0.mk (show Kd.N (Kd.slice 3 (Kd.int .i64)) 28 wr w.heap.size (fun k_ => ((P0_ k_ ∨ P1_ k_) ∨ w.heap.size ≤ k_)) u6 (l0 ++ l1) from HO.out)
          go_wp2_with fail
          go_ret
          exact ⟨_, rfl, n1_.out, HB.out⟩
end Go.Proofs.Ytdneelgnmnpanaa.P
