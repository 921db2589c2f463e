/- slices.Clone of lines: a contract for lists that are not long. -/
import Derived.Test.YtdneelgnmnpanaaBl
import Derived.WalkSpells
namespace Go.Proofs.Ytdneelgnmnpanaa.P
open Go.RowKit Go.Proofs.YtdneelgnmnpanaaW.PrintWords Go.Proofs.YtdneelgnmnpanaaW.PrintLast Go.Proofs.YtdneelgnmnpanaaW.PrintMore
set_option linter.unusedVariables false
set_option linter.unusedSimpArgs false
def strike_line_108.f (l0 : List S76) : Option (List S76) := if l0.length < 1000 then some l0 else none
set_option maxHeartbeats 1000000 in
set_option maxRecDepth 100000 in
theorem strike_line_108.calls (A0 : Option Addr) (c0 : Nat) (l0 : List S76) (r : List S76) (w : World) (hr0 : Kd.C k76 w A0 l0.length l0) (hc0 : l0.length ≤ c0) (h : strike_line_108.f l0 = some r) :
    Calls Try.prog 108 #[.slice A0 l0.length c0] w fun e w' => ∃ v0_ : Value, e = .returned (v0_) ∧ Kd.R k76 76 w' w.heap.size (fun _ => True) v0_ r ∧ Below w.heap.size w w' := by
  unfold strike_line_108.f at h
  by_cases hl : l0.length < 1000
  case neg => rw [if_neg hl] at h; cases h
  rw [if_pos hl] at h
  obtain rfl := Option.some.inj h
  clear h
  have HB := Aside0.mk (Below.refl w.heap.size w)
  have hu76 := Try.underlying76
  cases A0 with
  | none =>
    obtain rfl : l0 = [] := by
      cases l0 with
      | nil => rfl
      | cons x r => obtain ⟨ad, e, _⟩ := hr0.2.2 (by simp); cases e
    have hnil : ∀ W, (binOp .eql 65 (.slice none 0 c0) (.slice none 0 0)).run Try.prog W = .ok (.bool true) W := fun W => Lib.run_eql_slice_nil W _ _ none 0 c0 0 0 Try.underlying65
    clear hr0 hc0
    go_enter Try.func108, Try.ntmps108
    go_wp2_with fail
    go_ret
    exact ⟨_, rfl, Kd.R_nil _ _ _ _ _, HB.out⟩
  | some ad =>
    have hnil : ∀ W, (binOp .eql 65 (.slice (some ad) l0.length c0) (.slice none 0 0)).run Try.prog W = .ok (.bool false) W := fun W => Lib.run_eql_slice_nil W _ _ (some ad) _ c0 0 0 Try.underlying65
    have HR0 := Aside0.mk hr0
    have Ny101 := Aside0.mk (show ([] : List S76) = ([] : List S76) from rfl)
    obtain ⟨y101, hy101⟩ : ∃ y_ : List S76, y_ = (([] : List S76)) := ⟨_, rfl⟩
    obtain ⟨y104, hy104⟩ : ∃ y_ : List S76, y_ = (y101 ++ l0) := ⟨_, rfl⟩
    have HY := Aside0.mk (show y104 = l0 by rw [hy104, hy101]; rfl)
    have LMc2 := Aside0.mk (show y101.length + l0.length < 1000 by rw [hy101]; simpa using hl)
    clear Ny101
    have Ny101 := Aside0.mk hy101
    have Ny104 := Aside0.mk hy104
    clear hr0 hc0 hl hy101 hy104
    go_enter Try.func108, Try.ntmps108
    go_wp2_with (first | ((with_reducible refine gate_dst (N := 5) rfl ?_); refine Kd.R_lit k76 _ 76 ?hg (N := 5) ?hd (xs := ([] : List S76)) (inner := []) (ok := fun _ => True) (okp := fun _ => True) ?hr ?hp (fun _ hk => hk) trivial (Below.refl _ _) (Nat.le_refl _) (by simp) ?_; (case hd => rfl); (case hg => rfl); (case hr => first | (go_simp; done) | (go_simp; rfl)); (case hp => exact (Reps.none _ _)); intro v102 w3 ho4 hb hg_ hnew_; clear hg_ hnew_; (first | rw [← Ny101.out] at ho4 | (simp only [Int.reduceToNat] at ho4; rw [← Ny101.out] at ho4)); have n0_ := Aside0.mk (Kd.R_lower ho4 (below_size (by repeat (first | (with_reducible first | exact HB.out | apply below_alloc | apply pw_below_drewN | apply below_drew1) | exact HB.out)))); have n1_ := Aside0.mk (below_step (by repeat (first | (with_reducible first | exact HB.out | apply below_alloc | apply pw_below_drewN | apply below_drew1) | exact HB.out)) hb); clear HB; have HO103 := n0_; have HB := n1_; clear n0_ n1_; clear hb ho4) | ((with_reducible refine gate_builtin (b := .append) (xs := #[.tmp 5, .tmp 6]) rfl ?_); at_builtin; refine Kd.R_append_rows k76 (Rr := k76.K w) (w0 := w) w.heap.size rfl (.tmp 5) (.tmp 6) 65 76 (.agg #[(.int .i64 0), (.int .i64 0), (.int .i64 0), (.int .i64 0), (.int .i64 0), (.int .i64 0)]) 48 rfl Try.underlying65 info76 rfl (by decide) (by omega) v102 y101 l0 _ _ _ (fun _ => True) (fun _ => False) rfl rfl ?aO ?aR (fun x cs hK => by rw [k76_open hK]; exact k76_mkM _ _ _ x) (fun _ h => h.elim) ?aF ?aB ?aS ?aL ?_; (case aR => exact ReadsRow.imp_ HR0.out HB.out (fun _ _ hp => hp)); (case aB => exact (by repeat (first | (with_reducible first | exact HB.out | apply below_alloc | apply pw_below_drewN | apply below_drew1) | exact HB.out))); (case aF => exact (fun _ _ => trivial)); (case aO => exact (by (with_reducible repeat (first | apply Kd.R_alloc | apply Kd.R_drewN | apply Kd.R_drew)); exact HO103.out)); (case aS => exact (below_size (by repeat (first | (with_reducible first | exact HB.out | apply below_alloc | apply pw_below_drewN | apply below_drew1) | exact HB.out)))); (case aL => have := LMc2.out; omega); intro v105 w5 ho hb hg hat; rw [← Ny104.out] at ho; have n0_ := Aside0.mk (hb); have n1_ := Aside0.mk (ho); clear HB; clear HO103; have HB := n0_; have HO106 := n1_; clear n0_ n1_; clear ho hb hg hat))
    go_ret
    exact ⟨_, rfl, by rw [← HY.out]; exact HO106.out, HB.out⟩
end Go.Proofs.Ytdneelgnmnpanaa.P
