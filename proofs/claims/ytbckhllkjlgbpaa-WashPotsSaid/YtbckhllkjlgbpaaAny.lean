/- Whether some time is none that water can settle: what the program's closure in Pots does, under ContainsFunc and IndexFunc; contracts for short lists. -/
import Derived.Test.YtbckhllkjlgbpaaRat
import Derived.Test.YtbckhllkjlgbpaaPa
namespace Go.Proofs.Ytbckhllkjlgbpaa.P
open Go.RowKit Go.Proofs.YtbckhllkjlgbpaaW.PrintWords Go.Proofs.YtbckhllkjlgbpaaW.PrintLast Go.Proofs.YtbckhllkjlgbpaaW.PrintMore
set_option linter.unusedVariables false
section
variable {P : Program} {ops : Array Oper} {Q : Exit → Act → World → Prop}
/-- The operation calls a closure of a function without first arguments. -/
theorem goesC_ {rest : List Oper} {oi : Oper} {a : Act} {w : World} (N : Option Tmp) (hd : oi.dst = N) (hg : oi.guard = none) (k : Tmp) {f : FuncId} (cap : Array Value) {fn : Func} {xs : Array Operand} {ts : Array TypeId} (hop : oi.op = .call { callee := .value (.tmp k), args := xs, argTypes := ts })
    (hf : P.funcs[f]? = some fn) (hname : (fn.name == "runtime.NumGoroutine") = false) (hb : fn.body.isSome = true) (hk : a.eval (.tmp k) = .func (.func f) #[] cap) (args : Array Value) (hargs : xs.map a.eval ++ cap = args)
    (h : Calls P f args w fun e w' => ∃ v, e = .returned v ∧ wpList P ops Q rest (a.put N v) w') : wpList P ops Q (oi :: rest) a w := by
  refine wpList_plain hg fun K hK => ?_
  have he := enters_ hf hname hb args w
  have hrun : (execOp a.eval oi).run P w = .ok (.enter f args) w := by
    unfold execOp
    simp [hop, resolve, Deferred.ofValue, invoke, hk, hargs, he]
  unfold Oper.wp
  rw [hrun, Oper.upon_enter]
  refine h.mono fun e w'' hh => ?_
  obtain ⟨v, rfl, hk⟩ := hh
  subst hd
  exact hK _ _ hk
end
/-- A time that is none, with this depth. -/
def bad (d t : Int) : Bool := !decide (0 ≤ t ∧ t ≤ 100 ∧ 1 ≤ d ∧ d ≤ 20)
def slices_ContainsFunc_int_int.f (l : List Int) (d : Int) : Option Bool := some (l.any (bad d))
set_option maxHeartbeats 1000000 in
set_option maxRecDepth 100000 in
theorem pots1_calls (t d : Int) (g : Nat) (w : World) (hbx : w.cell? ⟨g, 0, none⟩ = some (.int .i64 d)) :
    Calls Try.prog 91 #[.int .i64 t, .pointer (some ⟨g, 0, none⟩)] w fun e w' => e = .returned (.bool (bad d t)) ∧ Below w.heap.size w w' := by
  have A1 := Aside0.mk (isTime t d)
  have hbad : (!decide (0 ≤ t ∧ t ≤ 100 ∧ 1 ≤ d ∧ d ≤ 20)) = bad d t := rfl
  generalize bad d t = b at *
  generalize decide (0 ≤ t ∧ t ≤ 100 ∧ 1 ≤ d ∧ d ≤ 20) = c at *
  subst hbad
  have HB := Aside0.mk (Below.refl w.heap.size w)
  go_enter Try.func91, Try.ntmps91
  go_wp2_with (first
    | ((with_reducible refine gate_callee (f := 51) rfl ?_); refine goesL_ (some 6) rfl rfl Try.func51 (by kernel_rfl) rfl #[.int .i64 t, .int .i64 d] rfl (by (try simp only [List.map_toArray, List.map_cons, List.map_nil]); first | done | rfl) ?_; (with_reducible refine (wash_isTime.calls t d c _ A1.out).mono ?_); rintro e w' ⟨rfl, ⟨nd, rfl⟩⟩; refine ⟨_, rfl, ?_⟩))
  go_ret
  exact ⟨rfl, by repeat (first | (with_reducible first | exact HB.out | apply below_alloc | apply pw_below_drewN | apply below_drew1) | exact HB.out)⟩
set_option maxHeartbeats 2000000 in
set_option maxRecDepth 100000 in
theorem index_calls (A0 : Option Addr) (c0 : Nat) (l0 : List Int) (d : Int) (g : Nat) (w : World) (hr0 : Kd.C (Kd.int .i64) w A0 l0.length l0) (hc0 : l0.length ≤ c0) (hl : l0.length ≤ 1000) (hbx : w.cell? ⟨g, 0, none⟩ = some (.int .i64 d)) :
    Calls Try.prog 101 #[.slice A0 l0.length c0, .func (.func 91) #[] #[.pointer (some ⟨g, 0, none⟩)]] w fun e w' => ∃ r : Int, e = .returned (.int .i64 r) ∧ decide (0 ≤ r) = l0.any (bad d) ∧ Below w.heap.size w w' := by
  have HR0 := Aside0.mk hr0
  have HC0 := Aside0.mk hc0
  have HBX := Aside0.mk hbx
  have HL := Aside0.mk hl
  clear hr0 hc0 hbx
  have HB := Aside0.mk (Below.refl w.heap.size w)
  go_enter Try.func101, Try.ntmps101
  go_wp2_with fail
  go_loopw [8] (fun i w' => ∃ n : Nat, n ≤ l0.length ∧ i = .int .i64 n ∧ Aside0 (l0.any (bad d) = (l0.drop n).any (bad d)) ∧ Aside0 (Below w.heap.size w w')) (fun i _ => l0.length - (intOf i).toNat)
  case atStart => exact ⟨0, by omega, rfl, ⟨rfl⟩, by first | exact HB | exact ⟨HB.out.drew⟩⟩
  case round =>
    clear HB
    obtain ⟨n, hn, rfl, HA, HB⟩ := hrel
    by_cases hlt : n < l0.length
    · have p1 : 0 ≤ (n : Int) := by omega
      have q1 : (n : Int) < (l0.length : Int) := by omega
      obtain ⟨ad1, e1, hx0⟩ := Kd.at_int HR0.out (n : Int) p1 q1
      cases e1
      replace hx0 := (HB.out.cell (World.block_lt_of_cell? w _ hx0)).trans hx0
      have hbx := (HB.out.cell (World.block_lt_of_cell? w _ HBX.out)).trans HBX.out
      generalize hxx : rd l0 (n : Int) = x at *
      simp only [Int.toNat_natCast] at hx0
      have hxe : l0[n] = x := by rw [← hxx]; simp [rd, hlt]
      have ha := HA.out
      rw [List.drop_eq_getElem_cons hlt, List.any_cons, hxe] at ha
      have HA2 := Aside0.mk ha
      clear HA ha hxe hxx
      have HY := Aside0.mk (pots1_calls x d g _ hbx)
      generalize bad d x = b at *
      cases b with
      | true =>
        go_wp2_with (first
          | ((with_reducible refine gate_dst (N := 16) rfl ?_); refine goesC_ (some 16) rfl rfl 11 #[.pointer (some ⟨g, 0, none⟩)] rfl Try.func91 (by kernel_rfl) rfl rfl #[.int .i64 x, .pointer (some ⟨g, 0, none⟩)] (by (try simp only [List.map_toArray, List.map_cons, List.map_nil]); first | done | rfl) ?_; (with_reducible refine HY.out.mono ?_); rintro e w9 ⟨rfl, hb⟩; refine ⟨_, rfl, ?_⟩; have n0_ := Aside0.mk (below_step (by repeat (first | (with_reducible first | exact HB.out | apply below_alloc | apply pw_below_drewN | apply below_drew1) | exact HB.out)) hb); clear HB; have HB := n0_; clear n0_; (try clear hb)))
        go_ret
        exact ⟨(n : Int), rfl, by rw [HA2.out, Bool.true_or]; simp, HB.out⟩
      | false =>
        go_wp2_with (first
          | ((with_reducible refine gate_dst (N := 16) rfl ?_); refine goesC_ (some 16) rfl rfl 11 #[.pointer (some ⟨g, 0, none⟩)] rfl Try.func91 (by kernel_rfl) rfl rfl #[.int .i64 x, .pointer (some ⟨g, 0, none⟩)] (by (try simp only [List.map_toArray, List.map_cons, List.map_nil]); first | done | rfl) ?_; (with_reducible refine HY.out.mono ?_); rintro e w9 ⟨rfl, hb⟩; refine ⟨_, rfl, ?_⟩; have n0_ := Aside0.mk (below_step (by repeat (first | (with_reducible first | exact HB.out | apply below_alloc | apply pw_below_drewN | apply below_drew1) | exact HB.out)) hb); clear HB; have HB := n0_; clear n0_; (try clear hb)))
        go_roundw
        case rel => exact ⟨n + 1, by omega, by go_num, ⟨by rw [HA2.out, Bool.false_or]⟩, ⟨by first | exact HB.out.drew | exact HB.out⟩⟩
        case measure => simp [intOf]; omega
    · have hq : n = l0.length := by omega
      subst hq
      go_wp2_with fail
      go_ret
      exact ⟨-1, rfl, by rw [HA.out, List.drop_length]; rfl, HB.out⟩
set_option maxHeartbeats 1000000 in
set_option maxRecDepth 100000 in
theorem any_calls (A0 : Option Addr) (c0 : Nat) (l0 : List Int) (d : Int) (g : Nat) (r : Bool) (w : World) (hr0 : Kd.C (Kd.int .i64) w A0 l0.length l0) (hc0 : l0.length ≤ c0) (hl : l0.length ≤ 1000) (hbx : w.cell? ⟨g, 0, none⟩ = some (.int .i64 d)) (h : slices_ContainsFunc_int_int.f l0 d = some r) :
    Calls Try.prog 90 #[.slice A0 l0.length c0, .func (.func 91) #[] #[.pointer (some ⟨g, 0, none⟩)]] w fun e w' => e = .returned (.bool r) ∧ Below w.heap.size w w' := by
  obtain rfl : l0.any (bad d) = r := Option.some.inj h
  have HY := Aside0.mk (index_calls A0 c0 l0 d g w hr0 hc0 hl hbx)
  clear hr0 hc0 hl hbx h
  have HB := Aside0.mk (Below.refl w.heap.size w)
  generalize l0.any (bad d) = b at *
  go_enter Try.func90, Try.ntmps90
  go_wp2_with (first
    | ((with_reducible refine gate_callee (f := 101) rfl ?_); refine goesL_ (some 7) rfl rfl Try.func101 (by kernel_rfl) rfl #[.slice A0 l0.length c0, .func (.func 91) #[] #[.pointer (some ⟨g, 0, none⟩)]] rfl (by (try simp only [List.map_toArray, List.map_cons, List.map_nil]); first | done | rfl) ?_; (with_reducible refine HY.out.mono ?_); rintro e w9 ⟨r, rfl, hb0, hb⟩; refine ⟨_, rfl, ?_⟩))
  subst hb0
  go_ret
  exact ⟨rfl, hb⟩
end Go.Proofs.Ytbckhllkjlgbpaa.P
