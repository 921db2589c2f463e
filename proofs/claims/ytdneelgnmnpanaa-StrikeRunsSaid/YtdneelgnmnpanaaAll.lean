/- Whether all numbers of a list are within bounds: what the program's all does, its closure under ContainsFunc and IndexFunc; contracts for short lists. -/
import Derived.Test.YtdneelgnmnpanaaPa
namespace Go.Proofs.Ytdneelgnmnpanaa.P
open Go.RowKit Go.Proofs.YtdneelgnmnpanaaW.PrintWords Go.Proofs.YtdneelgnmnpanaaW.PrintLast Go.Proofs.YtdneelgnmnpanaaW.PrintMore
set_option linter.unusedVariables false
section
variable {P : Program} {ops : Array Oper} {Q : Exit → Act → World → Prop}
/-- The operation calls a closure of a function without first arguments. -/
theorem goesC_ {rest : List Oper} {oi : Oper} {a : Act} {w : World} (N : Option Tmp) (hd : oi.dst = N) (hg : oi.guard = none) (k : Tmp) {f : FuncId} (cap : Array Value) {fn : Func} {xs : Array Operand} {ts : Array TypeId} (hop : oi.op = .call { callee := .value (.tmp k), args := xs, argTypes := ts })
    (hf : P.funcs[f]? = some fn) (hname : (fn.name == "runtime.NumGoroutine") = false) (hb : fn.body.isSome = true) (hk : a.eval (.tmp k) = .func (.func f) #[] cap) (args : Array Value) (hargs : xs.map a.eval ++ cap = args)
    (h : Calls P f args w fun e w' => ∃ v, e = .returned v ∧ wpList P ops Q rest (a.put N v) w') : wpList P ops Q (oi :: rest) a w := by
  refine wpList_plain hg fun K hK => ?_
  have he := enters_ hf hname hb args w
  have hrun : (execOp a.eval oi).run P w = .ok (.enter f args) w := by
    unfold execOp
    simp [hop, resolve, Deferred.ofValue, invoke, hk, hargs, he]
  unfold Oper.wp
  rw [hrun, Oper.upon_enter]
  refine h.mono fun e w'' hh => ?_
  obtain ⟨v, rfl, hk⟩ := hh
  subst hd
  exact hK _ _ hk
end
/-- A number that is not within bounds. -/
def bad (lo hi n : Int) : Bool := !decide (lo ≤ n ∧ n ≤ hi)
theorem within (n lo hi : Int) : strike_within.f n lo hi = some (decide (lo ≤ n ∧ n ≤ hi)) := by
  unfold strike_within.f
  by_cases h : n ≥ lo
  · simp [h]
  · simp [h]
set_option maxHeartbeats 1000000 in
set_option maxRecDepth 100000 in
theorem all1_calls (t lo hi : Int) (g g2 : Nat) (w : World) (hbx : w.cell? ⟨g, 0, none⟩ = some (.int .i64 lo)) (hby : w.cell? ⟨g2, 0, none⟩ = some (.int .i64 hi)) :
    Calls Try.prog 115 #[.int .i64 t, .pointer (some ⟨g, 0, none⟩), .pointer (some ⟨g2, 0, none⟩)] w fun e w' => e = .returned (.bool (bad lo hi t)) ∧ Below w.heap.size w w' := by
  have A1 := Aside0.mk (within t lo hi)
  have hbad : (!decide (lo ≤ t ∧ t ≤ hi)) = bad lo hi t := rfl
  generalize bad lo hi t = b at *
  generalize decide (lo ≤ t ∧ t ≤ hi) = c at *
  subst hbad
  have HB := Aside0.mk (Below.refl w.heap.size w)
  go_enter Try.func115, Try.ntmps115
  go_wp2_with (first
    | ((with_reducible refine gate_callee (f := 75) rfl ?_); refine goesL_ (some 8) rfl rfl Try.func75 (by kernel_rfl) rfl #[.int .i64 t, .int .i64 lo, .int .i64 hi] rfl (by (try simp only [List.map_toArray, List.map_cons, List.map_nil]); first | done | rfl) ?_; (with_reducible refine (strike_within.calls t lo hi c _ A1.out).mono ?_); rintro e w' ⟨rfl, ⟨nd, rfl⟩⟩; refine ⟨_, rfl, ?_⟩))
  go_ret
  exact ⟨rfl, by repeat (first | (with_reducible first | exact HB.out | apply below_alloc | apply pw_below_drewN | apply below_drew1) | exact HB.out)⟩
set_option maxHeartbeats 2000000 in
set_option maxRecDepth 100000 in
theorem index_calls (A0 : Option Addr) (c0 : Nat) (l0 : List Int) (lo hi : Int) (g g2 : Nat) (w : World) (hr0 : Kd.C (Kd.int .i64) w A0 l0.length l0) (hc0 : l0.length ≤ c0) (hl : l0.length ≤ 1000) (hbx : w.cell? ⟨g, 0, none⟩ = some (.int .i64 lo)) (hby : w.cell? ⟨g2, 0, none⟩ = some (.int .i64 hi)) :
    Calls Try.prog 119 #[.slice A0 l0.length c0, .func (.func 115) #[] #[.pointer (some ⟨g, 0, none⟩), .pointer (some ⟨g2, 0, none⟩)]] w fun e w' => ∃ r : Int, e = .returned (.int .i64 r) ∧ decide (0 ≤ r) = l0.any (bad lo hi) ∧ Below w.heap.size w w' := by
  have HR0 := Aside0.mk hr0
  have HC0 := Aside0.mk hc0
  have HBX := Aside0.mk hbx
  have HBY := Aside0.mk hby
  have HL := Aside0.mk hl
  clear hr0 hc0 hbx hby
  have HB := Aside0.mk (Below.refl w.heap.size w)
  go_enter Try.func119, Try.ntmps119
  go_wp2_with fail
  go_loopw [8] (fun i w' => ∃ n : Nat, n ≤ l0.length ∧ i = .int .i64 n ∧ Aside0 (l0.any (bad lo hi) = (l0.drop n).any (bad lo hi)) ∧ Aside0 (Below w.heap.size w w')) (fun i _ => l0.length - (intOf i).toNat)
  case atStart => exact ⟨0, by omega, rfl, ⟨rfl⟩, by first | exact HB | exact ⟨HB.out.drew⟩⟩
  case round =>
    clear HB
    obtain ⟨n, hn, rfl, HA, HB⟩ := hrel
    by_cases hlt : n < l0.length
    · have p1 : 0 ≤ (n : Int) := by omega
      have q1 : (n : Int) < (l0.length : Int) := by omega
      obtain ⟨ad1, e1, hx0⟩ := Kd.at_int HR0.out (n : Int) p1 q1
      cases e1
      replace hx0 := (HB.out.cell (World.block_lt_of_cell? w _ hx0)).trans hx0
      have hbx := (HB.out.cell (World.block_lt_of_cell? w _ HBX.out)).trans HBX.out
      have hby := (HB.out.cell (World.block_lt_of_cell? w _ HBY.out)).trans HBY.out
      generalize hxx : rd l0 (n : Int) = x at *
      simp only [Int.toNat_natCast] at hx0
      have hxe : l0[n] = x := by rw [← hxx]; simp [rd, hlt]
      have ha := HA.out
      rw [List.drop_eq_getElem_cons hlt, List.any_cons, hxe] at ha
      have HA2 := Aside0.mk ha
      clear HA ha hxe hxx
      have HY := Aside0.mk (all1_calls x lo hi g g2 _ hbx hby)
      generalize bad lo hi x = b at *
      cases b with
      | true =>
        go_wp2_with (first
          | ((with_reducible refine gate_dst (N := 16) rfl ?_); refine goesC_ (some 16) rfl rfl 11 #[.pointer (some ⟨g, 0, none⟩), .pointer (some ⟨g2, 0, none⟩)] rfl Try.func115 (by kernel_rfl) rfl rfl #[.int .i64 x, .pointer (some ⟨g, 0, none⟩), .pointer (some ⟨g2, 0, none⟩)] (by (try simp only [List.map_toArray, List.map_cons, List.map_nil]); first | done | rfl) ?_; (with_reducible refine HY.out.mono ?_); rintro e w9 ⟨rfl, hb⟩; refine ⟨_, rfl, ?_⟩; have n0_ := Aside0.mk (below_step (by repeat (first | (with_reducible first | exact HB.out | apply below_alloc | apply pw_below_drewN | apply below_drew1) | exact HB.out)) hb); clear HB; have HB := n0_; clear n0_; (try clear hb)))
        go_ret
        exact ⟨(n : Int), rfl, by rw [HA2.out, Bool.true_or]; simp, HB.out⟩
      | false =>
        go_wp2_with (first
          | ((with_reducible refine gate_dst (N := 16) rfl ?_); refine goesC_ (some 16) rfl rfl 11 #[.pointer (some ⟨g, 0, none⟩), .pointer (some ⟨g2, 0, none⟩)] rfl Try.func115 (by kernel_rfl) rfl rfl #[.int .i64 x, .pointer (some ⟨g, 0, none⟩), .pointer (some ⟨g2, 0, none⟩)] (by (try simp only [List.map_toArray, List.map_cons, List.map_nil]); first | done | rfl) ?_; (with_reducible refine HY.out.mono ?_); rintro e w9 ⟨rfl, hb⟩; refine ⟨_, rfl, ?_⟩; have n0_ := Aside0.mk (below_step (by repeat (first | (with_reducible first | exact HB.out | apply below_alloc | apply pw_below_drewN | apply below_drew1) | exact HB.out)) hb); clear HB; have HB := n0_; clear n0_; (try clear hb)))
        go_roundw
        case rel => exact ⟨n + 1, by omega, by go_num, ⟨by rw [HA2.out, Bool.false_or]⟩, ⟨by first | exact HB.out.drew | exact HB.out⟩⟩
        case measure => simp [intOf]; omega
    · have hq : n = l0.length := by omega
      subst hq
      go_wp2_with fail
      go_ret
      exact ⟨-1, rfl, by rw [HA.out, List.drop_length]; rfl, HB.out⟩
set_option maxHeartbeats 1000000 in
set_option maxRecDepth 100000 in
theorem any_calls (A0 : Option Addr) (c0 : Nat) (l0 : List Int) (lo hi : Int) (g g2 : Nat) (w : World) (hr0 : Kd.C (Kd.int .i64) w A0 l0.length l0) (hc0 : l0.length ≤ c0) (hl : l0.length ≤ 1000) (hbx : w.cell? ⟨g, 0, none⟩ = some (.int .i64 lo)) (hby : w.cell? ⟨g2, 0, none⟩ = some (.int .i64 hi)) :
    Calls Try.prog 114 #[.slice A0 l0.length c0, .func (.func 115) #[] #[.pointer (some ⟨g, 0, none⟩), .pointer (some ⟨g2, 0, none⟩)]] w fun e w' => e = .returned (.bool (l0.any (bad lo hi))) ∧ Below w.heap.size w w' := by
  have HY := Aside0.mk (index_calls A0 c0 l0 lo hi g g2 w hr0 hc0 hl hbx hby)
  clear hr0 hc0 hl hbx hby
  have HB := Aside0.mk (Below.refl w.heap.size w)
  generalize l0.any (bad lo hi) = b at *
  go_enter Try.func114, Try.ntmps114
  go_wp2_with (first
    | ((with_reducible refine gate_callee (f := 119) rfl ?_); refine goesL_ (some 7) rfl rfl Try.func119 (by kernel_rfl) rfl #[.slice A0 l0.length c0, .func (.func 115) #[] #[.pointer (some ⟨g, 0, none⟩), .pointer (some ⟨g2, 0, none⟩)]] rfl (by (try simp only [List.map_toArray, List.map_cons, List.map_nil]); first | done | rfl) ?_; (with_reducible refine HY.out.mono ?_); rintro e w9 ⟨r, rfl, hb0, hb⟩; refine ⟨_, rfl, ?_⟩))
  subst hb0
  go_ret
  exact ⟨rfl, hb⟩
/-- What all answers, for lists that are not long. -/
def strike_all.f (l : List Int) (count lo hi : Int) : Option Bool := if l.length ≤ 1000 then some (decide ((l.length : Int) = count) && !l.any (bad lo hi)) else none
set_option maxHeartbeats 2000000 in
set_option maxRecDepth 100000 in
theorem strike_all.calls (A0 : Option Addr) (c0 : Nat) (l0 : List Int) (a1 a2 a3 : Int) (r : Bool) (w : World) (hr0 : Kd.C (Kd.int .i64) w A0 l0.length l0) (hc0 : l0.length ≤ c0) (h : strike_all.f l0 a1 a2 a3 = some r) :
    Calls Try.prog 77 #[.slice A0 l0.length c0, .int .i64 a1, .int .i64 a2, .int .i64 a3] w fun e w' => e = .returned (.bool r) ∧ Below w.heap.size w w' := by
  obtain ⟨hl, hr⟩ : l0.length ≤ 1000 ∧ (decide ((l0.length : Int) = a1) && !l0.any (bad a2 a3)) = r := by
    unfold strike_all.f at h
    split at h
    · rename_i h1
      exact ⟨h1, Option.some.inj h⟩
    · cases h
  have HR0 := Aside0.mk hr0
  have HC0 := Aside0.mk hc0
  have HL := Aside0.mk hl
  clear hr0 hc0 h hl
  have HB := Aside0.mk (Below.refl w.heap.size w)
  by_cases c : (l0.length : Int) = a1
  · subst c
    simp only [decide_true, Bool.true_and] at hr
    go_enter Try.func77, Try.ntmps77
    go_wp2_with (first
      | ((with_reducible refine gate_dst (N := 6) rfl ?_); refine box_event ?hg (N := 6) ?hd (cs := #[.int .i64 a2]) (t := 3) ?hr ?_; (case hd => rfl); (case hg => rfl); (case hr => first | (go_simp; done) | (go_simp; rfl)); intro g hg w1 hbox hbe; have BK1 := Aside0.mk hbox; have n0_ := Aside0.mk (below_step HB.out hbe); clear HB; have HB := n0_; clear n0_; clear hg hbox hbe)
      | ((with_reducible refine gate_dst (N := 7) rfl ?_); refine box_event ?hg (N := 7) ?hd (cs := #[.int .i64 a3]) (t := 3) ?hr ?_; (case hd => rfl); (case hg => rfl); (case hr => first | (go_simp; done) | (go_simp; rfl)); intro g2 hg w2 hbox hbe; have BK2 := Aside0.mk hbox; have n1_ := Aside0.mk (blk_below BK1.out hbe); have n0_ := Aside0.mk (below_step HB.out hbe); clear HB BK1; have HB := n0_; have BK1 := n1_; clear n0_ n1_; clear hg hbox hbe)
      | ((with_reducible refine gate_callee (f := 114) rfl ?_); (try (refine gate_guard (by rfl) ?_)); refine goesL_ (some 16) rfl rfl Try.func114 (by kernel_rfl) rfl #[.slice A0 l0.length c0, .func (.func 115) #[] #[.pointer (some ⟨g, 0, none⟩), .pointer (some ⟨g2, 0, none⟩)]] rfl (by (try simp only [List.map_toArray, List.map_cons, List.map_nil]); first | done | rfl) ?_; (with_reducible refine (any_calls A0 c0 l0 a2 a3 g g2 _ (Kd.C_below HR0.out HB.out) HC0.out HL.out (by have := BK1.out; simp [World.cell?, this]) (by have := BK2.out; simp [World.cell?, this])).mono ?_); rintro e w9 ⟨rfl, hb⟩; refine ⟨_, rfl, ?_⟩; have n0_ := Aside0.mk (below_step HB.out hb); clear HB; have HB := n0_; clear n0_; (try clear hb)))
    go_ret
    exact ⟨rfl, HB.out⟩
  · simp only [c, decide_false, Bool.false_and] at hr
    have c2 : ((l0.length : Int) == a1) = false := beq_eq_false_iff_ne.mpr c
    clear c
    subst hr
    go_enter Try.func77, Try.ntmps77
    go_wp2_with (first
      | ((with_reducible refine gate_dst (N := 6) rfl ?_); refine box_event ?hg (N := 6) ?hd (cs := #[.int .i64 a2]) (t := 3) ?hr ?_; (case hd => rfl); (case hg => rfl); (case hr => first | (go_simp; done) | (go_simp; rfl)); intro g hg w1 hbox hbe; have n0_ := Aside0.mk (below_step HB.out hbe); clear HB; have HB := n0_; clear n0_; clear hg hbox hbe)
      | ((with_reducible refine gate_dst (N := 7) rfl ?_); refine box_event ?hg (N := 7) ?hd (cs := #[.int .i64 a3]) (t := 3) ?hr ?_; (case hd => rfl); (case hg => rfl); (case hr => first | (go_simp; done) | (go_simp; rfl)); intro g2 hg w2 hbox hbe; have n0_ := Aside0.mk (below_step HB.out hbe); clear HB; have HB := n0_; clear n0_; clear hg hbox hbe))
    go_ret
    exact ⟨rfl, HB.out⟩
end Go.Proofs.Ytdneelgnmnpanaa.P
