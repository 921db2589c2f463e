/- What the claim's last text wants, part 3: functions of the translation as Lean functions with their contracts, and plain theorems; no conditions beyond those that each theorem names. -/
import Derived.Test.YtdneelgnmnpanaaZJo2
import Derived.Great.BuildSlice
import Derived.Lib.AppendZeros
import Derived.WalkSpells
import Derived.Deep.MidRow
import Derived.Deep.WholeRow
import Derived.RegionTactic
import Derived.Deep.QuietTactic
import Derived.BigQuiet
import Derived.ChangeAlike
import Derived.Laws.Rows
import Derived.ChangeKeysEq
import Derived.Deep.Slices
import Derived.Deep.Fields
import Derived.ChangeSame
import Derived.ChangeSlices
import Derived.SizedLaws
import Derived.Lib.SmallJoins
set_option linter.unusedVariables false
set_option linter.unusedSimpArgs false
section
namespace Go.Proofs.Ytdneelgnmnpanaa.P
open Go.RowKit Go.Proofs.YtdneelgnmnpanaaW.PrintWords Go.Proofs.YtdneelgnmnpanaaW.PrintLast Go.Proofs.YtdneelgnmnpanaaW.PrintMore
theorem Two.build {P : Program} {ops : Array Oper} {rest : List Oper} {o : Oper} {a : Act} {W : World} {Q : Exit → Act → World → Prop} (hgd : o.guard = none) {N : Tmp} (_hd : o.dst = some N) {v0 v1 : Value}
    (hrun : (execOp a.eval o).run P W = .ok (.value (.slice (some ⟨W.heap.size, 0, none⟩) 2 2)) (W.alloc (.cells #[v0, v1] 22)))
    (h : ∀ g, g = W.heap.size → ∀ w1, w1.heap[g]? = some (.cells #[v0, v1] 22 (0, 0)) → Below W.heap.size W w1 → wpList P ops Q rest (a.put o.dst (.slice (some ⟨g, 0, none⟩) 2 2)) w1) : wpList P ops Q (o :: rest) a W :=
  Kd.VM hgd hrun (h _ rfl _ (YK W _) (QU (Below.refl _ _) _))
def Zf.f (l0 l1 : List (List Int)) : Option (List (List Int)) := if l0.length + l1.length ≤ 1000 then some (l0 ++ l1) else none
set_option maxHeartbeats 1000000 in
set_option maxRecDepth 100000 in
theorem grow_calls (n : Nat) (hn : n ≤ 1000) (w : World) :
    Calls Try.prog 113 #[.slice none 0 0, .int .i64 n] w fun e w' => ∃ v, e = .returned v ∧ Kd.N (Kd.slice 3 (Kd.int .i64)) 28 w' w.heap.size (fun k => w.heap.size ≤ k) v [] ∧ Below w.heap.size w w' := by
  have s6 := Try.underlying22; have hu3 := Try.underlying3; by_cases h0 : n = 0
  · subst h0; go_enter Try.func113, Try.ntmps113; go_wp2_with fail
    go_ret; exact ⟨_, rfl, Kd.Yh _ _ _ _ _, Below.refl _ _⟩
  · have hp : 0 < n := by omega
    obtain ⟨i28, CL, Bi, Fv, CV⟩ : ∃ i, Try.prog.info? 28 = some i ∧ i.zero = some (.slice none 0 0) ∧ i.size = 1 ∧ i.bytes = 24 := by
      have h := info28; cases hq : Try.prog.info? 28 with
      | none => rw [hq] at h; cases h
      | some i =>
        rw [hq] at h; simp only [Option.map_some, Option.some.injEq, Prod.mk.injEq] at h; exact ⟨i, rfl, h.1, h.2.1, h.2.2⟩
    have c1 : decide ((n : Int) < 0) = false := decide_eq_false (by omega); have c2 : decide (0 < (n : Int)) = true := decide_eq_true (by omega); have happ : ∀ W : World, (Builtin.append_ #[22, 3] 22 #[.slice none 0 0, .int .i64 (n : Int)]).run Try.prog W = .ok (.slice (some ⟨W.heap.size, 0, none⟩) n (grownCap W n 0 28)) (W.drew.alloc (.cells (Builtin.zeroCells (Value.slice none 0 0).cells n ++ Builtin.zeroCells (Value.slice none 0 0).cells (grownCap W n 0 28 - n)) 28)) :=
      fun W => Lib.run_append_nil_zeros W 22 3 22 28 i28 _ .i64 .i64 s6 hu3 CL Bi n hp (by omega) (by omega) (by rw [CV]; omega)
    go_enter Try.func113, Try.ntmps113; go_wp2_with (at_builtin; refine Lib.wpList_append_run _ rfl _ _ _ _ rfl _ _ rfl rfl _ _ (happ _) ?_)
    go_ret; refine ⟨_, rfl, Kd.R_N ⟨fun k hk => ?_, [], ⟨rfl, .inr ⟨w.heap.size, grownCap w n 0 28, _, rfl, Nat.le_refl _, heap_alloc_new w _, Nat.zero_le _, grownCap_le_maxLen w n 0 28 (by simp [maxLen]; omega), ?_, rfl⟩⟩, Reps.none _ _⟩, (((Below.refl _ _).alloc (Nat.le_refl _) _).drew)⟩
    · simp [Value.ownBlock] at hk; omega
    · have := grownCap_ge w n 0 28; simp [Builtin.zeroCells, Kd.slice]; omega
set_option maxHeartbeats 2000000 in
set_option maxRecDepth 100000 in
theorem Zf.calls (P0_ : Nat → Prop) (A0 : Option Addr) (c0 : Nat) (l0 : List (List Int)) (P1_ : Nat → Prop) (A1 : Option Addr) (c1 : Nat) (l1 : List (List Int)) (r : List (List Int)) (w : World) (g : Nat) (hg : w.heap[g]? = some (.cells #[.slice A0 l0.length c0, .slice A1 l1.length c1] 22 (0, 0)))
    (hs0 : Kd.V (Kd.slice 3 (Kd.int .i64)) 28 w w.heap.size (fun k_ => P0_ k_) (.slice A0 l0.length c0) l0) (hs1 : Kd.V (Kd.slice 3 (Kd.int .i64)) 28 w w.heap.size (fun k_ => P1_ k_) (.slice A1 l1.length c1) l1) (h : Zf.f l0 l1 = some r) :
    Calls Try.prog 76 #[.slice (some ⟨g, 0, none⟩) 2 2] w fun e w' => ∃ v0_ : Value, e = .returned (v0_) ∧ Kd.N (Kd.slice 3 (Kd.int .i64)) 28 w' w.heap.size (fun k_ => ((P0_ k_ ∨ P1_ k_) ∨ w.heap.size ≤ k_)) v0_ r ∧ Below w.heap.size w w' := by
  unfold Zf.f at h; by_cases hl : l0.length + l1.length ≤ 1000
  case neg => rw [if_neg hl] at h; cases h
  rw [if_pos hl] at h; obtain rfl := Option.some.inj h; clear h; have s6 := Try.underlying22; have hu3 := Try.underlying3; have Fu := Try.underlying91; have HB := aa.mk (Below.refl w.heap.size w); have HV0 := aa.mk hs0; have HV1 := aa.mk hs1; have HG := aa.mk hg; have HL := aa.mk hl; clear hs0 hs1 hg hl; go_enter Try.func76, Try.ntmps76; go_wp2_with fail
  go_loopw [3, 11] (fun s i w' => ∃ n : Nat, n ≤ 2 ∧ i = .int .i64 n ∧ (s = .int .i64 (if n = 0 then 0 else if n = 1 then (l0.length : Int) else ((l0.length + l1.length : Nat) : Int))) ∧ aa (Below w.heap.size w w')) (fun _ i _ => 2 - (intOf i).toNat)
  case atStart => exact ⟨0, by omega, rfl, rfl, by first | exact HB | exact ⟨HB.out.drew⟩⟩
  case round =>
    clear HB; obtain ⟨n, hn, rfl, rfl, HB⟩ := hrel; have hg := Qc HG.out HB.out; have hx0 : wr.cell? ⟨g, 0, none⟩ = some (.slice A0 l0.length c0) := (Qa hg 0).trans rfl; have hx1 : wr.cell? ⟨g, 1, none⟩ = some (.slice A1 l1.length c1) := (Qa hg 1).trans rfl; have hl := HL.out; clear hg; obtain rfl | rfl | rfl : n = 0 ∨ n = 1 ∨ n = 2 := by omega
    · have k1 : decide ((l0.length : Int) < 0) = false := decide_eq_false (by omega); go_wp2_with fail
      go_roundw
      case rel => exact ⟨1, by omega, by go_num, by simp, HB⟩
      case measure => simp [intOf]
    · have k2 : decide ((l0.length : Int) + (l1.length : Int) < 0) = false := decide_eq_false (by omega); go_wp2_with fail
      go_roundw
      case rel => exact ⟨2, by omega, by go_num, by simp, HB⟩
      case measure => simp [intOf]
    · have HW := aa.mk (grow_calls (l0.length + l1.length) hl); clear hx0 hx1; go_wp2_with (first
        | ((with_reducible refine Qk (f := 113) rfl ?_); refine QE (some 24) rfl rfl Try.func113 (by kernel_rfl) rfl #[.slice none 0 0, .int .i64 ((l0.length + l1.length : Nat) : Int)] rfl (by (try simp only [List.map_toArray, List.map_cons, List.map_nil]); first | done | rfl) ?_; (with_reducible refine (HW.out _).mono ?_); rintro e w9 ⟨v9, rfl, ho0, hb⟩; refine ⟨_, rfl, ?_⟩; have n0_ := aa.mk (Kd.ZY ho0 (Qe HB.out)); have n1_ := aa.mk (Kd.QZ (ok' := fun k_ => ((P0_ k_ ∨ P1_ k_) ∨ w.heap.size ≤ k_)) n0_.out (fun k_ hk_ => .inr (Nat.le_trans (Qe HB.out) hk_))); have n2_ := aa.mk (Qd HB.out hb); clear HB n0_; have HO := n1_; have HB := n2_; clear n1_ n2_; clear hb ho0; obtain ⟨Ao, co, eo⟩ := Kd.ZS HO.out; subst eo))
      have HO2 := aa.mk (show Kd.N (Kd.slice 3 (Kd.int .i64)) 28 _ w.heap.size (fun k_ => ((P0_ k_ ∨ P1_ k_) ∨ w.heap.size ≤ k_)) (.slice Ao ([] : List (List Int)).length co) (if 0 = 0 then [] else if 0 = 1 then l0 else l0 ++ l1) from HO.out); clear HO HW; go_loopw [6, 27] (fun v i w' => ∃ n : Nat, n ≤ 2 ∧ i = .int .i64 n ∧ aa (Kd.N (Kd.slice 3 (Kd.int .i64)) 28 w' w.heap.size (fun k_ => ((P0_ k_ ∨ P1_ k_) ∨ w.heap.size ≤ k_)) v (if n = 0 then [] else if n = 1 then l0 else l0 ++ l1)) ∧ aa (Below w.heap.size w w')) (fun _ i _ => 2 - (intOf i).toNat)
      case atStart => exact ⟨0, by omega, rfl, HO2, by first | exact HB | exact ⟨HB.out.drew⟩⟩
      case round =>
        clear HB HO2; obtain ⟨n, hn, rfl, HO, HB⟩ := hrel; have hg := Qc HG.out HB.out; have hx0 : wr.cell? ⟨g, 0, none⟩ = some (.slice A0 l0.length c0) := (Qa hg 0).trans rfl; have hx1 : wr.cell? ⟨g, 1, none⟩ = some (.slice A1 l1.length c1) := (Qa hg 1).trans rfl; have hl := HL.out; clear hg; obtain rfl | rfl | rfl : n = 0 ∨ n = 1 ∨ n = 2 := by omega
        · replace HO := aa.mk (show Kd.N (Kd.slice 3 (Kd.int .i64)) 28 wr w.heap.size (fun k_ => ((P0_ k_ ∨ P1_ k_) ∨ w.heap.size ≤ k_)) u6 [] from HO.out); go_wp2_with (first | ((with_reducible refine ZM (b := .append) (xs := #[.tmp 31, .tmp 32]) rfl ?_); at_builtin; refine Kd.Vq (Kd.slice 3 (Kd.int .i64)) (w0 := w) w.heap.size rfl (.tmp 31) (.tmp 32) 22 28 (.slice none 0 0) 24 rfl Try.underlying22 info28 rfl (by decide) (by omega) u6 [] l0 _ _ _ (fun k_ => ((P0_ k_ ∨ P1_ k_) ∨ w.heap.size ≤ k_)) (fun k_ => P0_ k_ ∧ some k_ ≠ (u6 : Value).ownBlock) rfl rfl HO.out (Kd.V_F (Kd.VI HV0.out (Kd.ZO HO.out) HB.out)) (fun k_ hk_ => ⟨.inl (.inl hk_.1), hk_.2⟩) (fun k_ hk_ => .inr (Nat.le_trans (Qe HB.out) hk_)) HB.out (Qe HB.out) (by have := HL.out; simp; omega) ?_; intro v15 w15 ho hb hg hat; replace HB := aa.mk hb; replace HO := aa.mk ho; clear ho hb hg hat))
          go_roundw
          case rel => exact ⟨1, by omega, by go_num, HO, HB⟩
          case measure => simp [intOf]
        · replace HO := aa.mk (show Kd.N (Kd.slice 3 (Kd.int .i64)) 28 wr w.heap.size (fun k_ => ((P0_ k_ ∨ P1_ k_) ∨ w.heap.size ≤ k_)) u6 l0 from HO.out); go_wp2_with (first | ((with_reducible refine ZM (b := .append) (xs := #[.tmp 31, .tmp 32]) rfl ?_); at_builtin; refine Kd.Vq (Kd.slice 3 (Kd.int .i64)) (w0 := w) w.heap.size rfl (.tmp 31) (.tmp 32) 22 28 (.slice none 0 0) 24 rfl Try.underlying22 info28 rfl (by decide) (by omega) u6 l0 l1 _ _ _ (fun k_ => ((P0_ k_ ∨ P1_ k_) ∨ w.heap.size ≤ k_)) (fun k_ => P1_ k_ ∧ some k_ ≠ (u6 : Value).ownBlock) rfl rfl HO.out (Kd.V_F (Kd.VI HV1.out (Kd.ZO HO.out) HB.out)) (fun k_ hk_ => ⟨.inl (.inr hk_.1), hk_.2⟩) (fun k_ hk_ => .inr (Nat.le_trans (Qe HB.out) hk_)) HB.out (Qe HB.out) (by have := HL.out; simp; omega) ?_; intro v15 w15 ho hb hg hat; replace HB := aa.mk hb; replace HO := aa.mk ho; clear ho hb hg hat))
          go_roundw
          case rel => exact ⟨2, by omega, by go_num, HO, HB⟩
          case measure => simp [intOf]
        · have n1_ := aa.mk (show Kd.N (Kd.slice 3 (Kd.int .i64)) 28 wr w.heap.size (fun k_ => ((P0_ k_ ∨ P1_ k_) ∨ w.heap.size ≤ k_)) u6 (l0 ++ l1) from HO.out); go_wp2_with fail
          go_ret; exact ⟨_, rfl, n1_.out, HB.out⟩
def arr (m : List Int) : Array Value := ⟨m.map (Value.int .i64)⟩
theorem ZW (m : List Int) : (arr m).size = m.length := by simp [arr]
theorem Ua (m : List Int) (i : Nat) (h : i < m.length) : (arr m)[i]? = some (.int .i64 (m.getD i 0)) := by simp [arr, h]
theorem Jq (m : List Int) (i : Nat) (v : Int) : (arr m).setIfInBounds i (.int .i64 v) = arr (m.set i v) := by
  apply Array.ext'; simp [arr, List.map_set]
theorem YU (m : List Int) : (arr m).all (·.oneCell') = true := by
  simp [arr, Value.oneCell']
theorem Yx {w : World} {g : Nat} {m : List Int} {t : TypeId} (h : w.heap[g]? = some (.cells (arr m) t (0, 0))) (i : Nat) (hi : i < m.length) : w.cell? ⟨g, i, none⟩ = some (.int .i64 (m.getD i 0)) := by
  rw [cell_of_row w g i (arr m) t (0, 0) h]; exact Ua m i hi
theorem Vx {w : World} {g : Nat} {m : List Int} {t : TypeId} (h : w.heap[g]? = some (.cells (arr m) t (0, 0))) (i : Nat) : w.frozen? ⟨g, i, none⟩ = false := frozen_of_row w g i _ _ h
theorem VO {w : World} {g : Nat} {m : List Int} {t : TypeId} (h : w.heap[g]? = some (.cells (arr m) t (0, 0))) (i : Nat) (v : Int) : (w.setCell ⟨g, i, none⟩ (.int .i64 v)).heap[g]? = some (.cells (arr (m.set i v)) t (0, 0)) := by
  rw [heap_setCell_same _ g i (arr m) t _ h, Jq]
def row (m : List Int) (o : Nat) : List Int := (m.drop o).take 6
theorem size76 : (Try.prog.info? 76).map (·.size) = some 6 := by kernel_rfl
set_option maxHeartbeats 1000000 in
set_option maxRecDepth 100000 in
theorem nz_calls (m : List Int) (i g : Nat) (w : World) (hm : m.length = 6) (hi : i < 6) (hbx : w.cell? ⟨g, 0, none⟩ = some (.int .i64 (i : Int))) :
    Calls Try.prog 127 #[.agg (arr m), .pointer (some ⟨g, 0, none⟩)] w fun e w' => e = .returned (.bool (m.getD i 0 != 0)) ∧ Below w.heap.size w w' := by
  have mI := Try.underlying76; have HB := aa.mk (Below.refl w.heap.size w); have HM := aa.mk hm; obtain ⟨v, hv⟩ : ∃ v, v = m.getD i 0 := ⟨_, rfl⟩; rw [← hv]; have HV := aa.mk hv; clear hm hv; go_enter Try.func127, Try.ntmps127; go_wp2_with (first
      | ((with_reducible refine QD (N := 2) rfl ?_); refine QJ ?hg (N := 2) ?hd (cs := arr m) (t := 76) ?hr ?_; (case hd => rfl); (case hg => rfl); (case hr => first | (go_simp; done) | (go_simp; rfl)); intro g2 hg2 w1 hbox hbe; have hc1 := Yx hbox i (by rw [HM.out]; exact hi); rw [← HV.out] at hc1; have hb1 := (hbe.cell (World.block_lt_of_cell? w _ hbx)).trans hbx; replace HB := aa.mk (Qd HB.out hbe); clear hbox hbe hg2))
  go_ret; exact ⟨rfl, HB.out⟩
def fst (i : Nat) : List (List Int) → Int
  | [] => -1
  | r :: l => if r.getD i 0 ≠ 0 then 0 else if fst i l < 0 then -1 else fst i l + 1
theorem rowD (rows : List (List Int)) (q : Nat) (hq : q < rows.length) : rows.getD q [] = rows[q] := by
  rw [List.getD_eq_getElem?_getD, List.getElem?_eq_getElem hq, Option.getD_some]
theorem zero_of {r s : List Int} {i : Nat} (e : r = s) (h : false = (s.getD i 0 != 0)) : r.getD i 0 = 0 := by
  subst e; have := h.symm; simpa [-List.getD_eq_getElem?_getD] using this
def Rd (w : World) (A : Option Addr) (rows : List (List Int)) : Prop := rows ≠ [] → ∃ b o, A = some ⟨b, o, none⟩ ∧ ∀ k r, rows[k]? = some r → r.length = 6 ∧ w.rangeAt b (o + k * 6) (r.map (Value.int .i64))
theorem Y7 {w w' : World} {b o : Nat} {cs : List Value} (h : w.rangeAt b o cs) (hb : Below w.heap.size w w') : w'.rangeAt b o cs := fun j v hj => (hb.cell (World.block_lt_of_cell? w _ (h j v hj))).trans (h j v hj)
theorem fst_drop (i : Nat) (rows : List (List Int)) (n : Nat) (hn : n < rows.length) (h : ∀ k, k < n → (rows.getD k []).getD i 0 = 0) : fst i rows = if rows[n].getD i 0 ≠ 0 then (n : Int) else if fst i (rows.drop (n + 1)) < 0 then -1 else fst i (rows.drop (n + 1)) + n + 1 := by
  induction n generalizing rows with
  | zero =>
    cases rows with
    | nil => simp at hn
    | cons r l => rw [fst]; simp
  | succ n ih =>
    cases rows with
    | nil => simp at hn
    | cons r l =>
      have h0 := h 0 (by omega); simp only [List.getD_cons_zero] at h0; have hn' : n < l.length := by simpa using hn
      have e := ih l hn' (fun k hk => by have := h (k + 1) (by omega); simpa using this); rw [fst, if_neg (fun hh => hh h0), e]; simp only [List.getElem_cons_succ, List.drop_succ_cons]; split
      · rw [if_neg (by omega)]; omega
      · split
        · rfl
        · rw [if_neg (by omega)]; omega
theorem fst_none (i : Nat) : ∀ (rows : List (List Int)), (∀ r ∈ rows, r.getD i 0 = 0) → fst i rows = -1
  | [], _ => rfl
  | r :: l, h => by
    rw [fst, if_neg (fun hh => hh (h r (List.mem_cons_self ..))), fst_none i l (fun x hx => h x (List.mem_cons_of_mem _ hx))]; rfl
set_option maxHeartbeats 2000000 in
set_option maxRecDepth 100000 in
theorem Ut (A : Option Addr) (c : Nat) (rows : List (List Int)) (i g : Nat) (w : World) (hA : Rd w A rows) (hl : rows.length ≤ 1000) (hc : rows.length ≤ c) (hi : i < 6) (hbx : w.cell? ⟨g, 0, none⟩ = some (.int .i64 (i : Int))) :
    Calls Try.prog 126 #[.slice A rows.length c, .func (.func 127) #[] #[.pointer (some ⟨g, 0, none⟩)]] w fun e w' => e = .returned (.int .i64 (fst i rows)) ∧ Below w.heap.size w w' := by
  have mI := Try.underlying76; have pa := Try.underlying65; have mJ := size76; have HR := aa.mk hA; have HBX := aa.mk hbx; have HL := aa.mk hl; have HC := aa.mk hc; clear hA hbx hc; have HB := aa.mk (Below.refl w.heap.size w); go_enter Try.func126, Try.ntmps126; go_wp2_with fail
  go_loopw [8] (fun i_ w' => ∃ n : Nat, n ≤ rows.length ∧ i_ = .int .i64 n ∧ aa (∀ q, q < n → (rows.getD q []).getD i 0 = 0) ∧ aa (Below w.heap.size w w')) (fun i_ _ => rows.length - (intOf i_).toNat)
  case atStart => exact ⟨0, by omega, rfl, ⟨fun q hq => absurd hq (by omega)⟩, by first | exact HB | exact ⟨HB.out.drew⟩⟩
  case round =>
    clear HB; obtain ⟨n, hn, rfl, HA, HB⟩ := hrel; by_cases hlt : n < rows.length
    · have p1 : 0 ≤ (n : Int) := by omega
      have q1 : (n : Int) < (rows.length : Int) := by omega
      obtain ⟨b, o, rfl, hr⟩ := HR.out (by intro e; rw [e] at hlt; simp at hlt); obtain ⟨hr6, hrange⟩ := hr n rows[n] (List.getElem?_eq_getElem hlt); have hbx := (HB.out.cell (World.block_lt_of_cell? w _ HBX.out)).trans HBX.out; have HRG := aa.mk (Y7 hrange HB.out); have HY := aa.mk (nz_calls rows[n] i g _ hr6 hi hbx); have HI := aa.mk (show (Try.prog.info? 76).map (·.size) = some (rows[n].map (Value.int .i64)).length by rw [List.length_map, hr6]; exact mJ); clear hrange hr; obtain ⟨bb, hbb⟩ : ∃ bb, bb = (rows[n].getD i 0 != 0) := ⟨_, rfl⟩; rw [← hbb] at HY; have HBB := aa.mk hbb; have HF := aa.mk (fst_drop i rows n hlt HA.out); clear hbb hr6 hbx; cases bb with
      | true =>
        go_wp2_with (first
          | (refine wpList_load_mid rfl 76 _ rfl b (o + n * 6) rfl _ _ HRG.out Try.underlying76 rfl HI.out ?_)
          | ((with_reducible refine QD (N := 16) rfl ?_); refine VL (some 16) rfl rfl 11 #[.pointer (some ⟨g, 0, none⟩)] rfl Try.func127 (by kernel_rfl) rfl rfl #[.agg (arr rows[n]), .pointer (some ⟨g, 0, none⟩)] (by (try simp only [List.map_toArray, List.map_cons, List.map_nil]); first | done | rfl) ?_; (with_reducible refine HY.out.mono ?_); rintro e w9 ⟨rfl, hb⟩; refine ⟨_, rfl, ?_⟩; replace HB := aa.mk (Qd (by repeat (first | (with_reducible first | exact HB.out | apply QU | apply QF | apply QL) | exact HB.out)) hb); (try clear hb)))
        go_ret; refine ⟨?_, HB.out⟩; have h1 := HBB.out; rw [HF.out, if_pos (by intro e; rw [e] at h1; simp at h1)]; rfl
      | false =>
        go_wp2_with (first
          | (refine wpList_load_mid rfl 76 _ rfl b (o + n * 6) rfl _ _ HRG.out Try.underlying76 rfl HI.out ?_)
          | ((with_reducible refine QD (N := 16) rfl ?_); refine VL (some 16) rfl rfl 11 #[.pointer (some ⟨g, 0, none⟩)] rfl Try.func127 (by kernel_rfl) rfl rfl #[.agg (arr rows[n]), .pointer (some ⟨g, 0, none⟩)] (by (try simp only [List.map_toArray, List.map_cons, List.map_nil]); first | done | rfl) ?_; (with_reducible refine HY.out.mono ?_); rintro e w9 ⟨rfl, hb⟩; refine ⟨_, rfl, ?_⟩; replace HB := aa.mk (Qd (by repeat (first | (with_reducible first | exact HB.out | apply QU | apply QF | apply QL) | exact HB.out)) hb); (try clear hb)))
        go_roundw
        case rel =>
          refine ⟨n + 1, by omega, by go_num, ⟨fun q hq => ?_⟩, HB⟩; by_cases hqn : q < n
          · exact HA.out q hqn
          · obtain rfl : q = n := by omega
            exact zero_of (rowD rows q hlt) HBB.out
        case measure => simp [intOf]; omega
    · go_wp2_with fail
      go_ret; refine ⟨?_, HB.out⟩; rw [fst_none i rows (fun r hr => by
        obtain ⟨q, hq, e⟩ := List.mem_iff_getElem.1 hr; have h3 := HA.out q (by omega); have h4 : rows.getD q [] = r := (rowD rows q hq).trans e; exact h4 ▸ h3)]
      rfl
def Six (M : List (List Int)) : Prop := ∀ r ∈ M, r.length = 6
theorem Va : ∀ {M : List (List Int)}, Six M → M.flatten.length = M.length * 6
  | [], _ => rfl
  | r :: M, h => by
    rw [List.flatten_cons, List.length_append, h r (List.mem_cons_self ..), Va (fun x hx => h x (List.mem_cons_of_mem _ hx)), List.length_cons]; omega
theorem Ux : ∀ {M : List (List Int)}, Six M → ∀ (k i : Nat) (hk : k < M.length), i < 6 → M.flatten[k * 6 + i]? = M[k][i]?
  | [], _, k, i, hk, _ => by simp at hk
  | r :: M, h, 0, i, hk, hi => by
    have h6 := h r (List.mem_cons_self ..); rw [List.flatten_cons, List.getElem?_append_left (by omega)]; simp
  | r :: M, h, k + 1, i, hk, hi => by
    have h6 := h r (List.mem_cons_self ..); rw [List.flatten_cons, List.getElem?_append_right (by omega), h6, show (k + 1) * 6 + i - 6 = k * 6 + i by omega, Ux (fun x hx => h x (List.mem_cons_of_mem _ hx)) k i (by simpa using hk) hi]; simp
theorem flat_set : ∀ {M : List (List Int)}, Six M → ∀ (k i : Nat) (v : Int) (hk : k < M.length), i < 6 → M.flatten.set (k * 6 + i) v = (M.set k (M[k].set i v)).flatten
  | [], _, k, i, v, hk, _ => by simp at hk
  | r :: M, h, 0, i, v, hk, hi => by
    have h6 := h r (List.mem_cons_self ..); rw [List.flatten_cons, List.set_append_left _ _ (by omega)]; simp
  | r :: M, h, k + 1, i, v, hk, hi => by
    have h6 := h r (List.mem_cons_self ..); rw [List.flatten_cons, List.set_append_right _ _ (by omega), h6, show (k + 1) * 6 + i - 6 = k * 6 + i by omega, flat_set (fun x hx => h x (List.mem_cons_of_mem _ hx)) k i v (by simpa using hk) hi]; simp
theorem Six.set {M : List (List Int)} (h : Six M) (k : Nat) {r : List Int} (hr : r.length = 6) : Six (M.set k r) := by
  intro x hx; rcases List.mem_or_eq_of_mem_set hx with h1 | rfl
  · exact h x h1
  · exact hr
theorem Six.at {M : List (List Int)} (h : Six M) {k : Nat} (hk : k < M.length) : M[k].length = 6 := h _ (List.getElem_mem hk)
def Bl (w : World) (g : Nat) (M : List (List Int)) (c : Nat) : Prop := Six M ∧ ∃ rest : List Value, w.heap[g]? = some (.cells ⟨M.flatten.map (Value.int .i64) ++ rest⟩ 76 (0, 0)) ∧ M.length * 6 + rest.length = c * 6
section
variable {w w1 : World} {g c : Nat} {M : List (List Int)}
theorem Bl.move (h : Bl w g M c) (e : w1.heap[g]? = w.heap[g]?) : Bl w1 g M c := by
  obtain ⟨h6, rest, hh, hl⟩ := h; exact ⟨h6, rest, e.trans hh, hl⟩
theorem Bl.lt (h : Bl w g M c) : g < w.heap.size := by
  obtain ⟨h6, rest, hh, hl⟩ := h; exact Q7 hh
theorem Bl.below (h : Bl w g M c) (hb : Below w.heap.size w w1) : Bl w1 g M c := h.move (hb.block g h.lt)
theorem Bl.alloc (h : Bl w g M c) (o : Obj) : Bl (w.alloc o) g M c := h.move (Below.heap_alloc w o g h.lt)
theorem Bl.drew (h : Bl w g M c) : Bl w.drew g M c := h
theorem Bl.cell (h : Bl w g M c) {k i : Nat} (hk : k < M.length) (hi : i < 6) : w.cell? ⟨g, k * 6 + i, none⟩ = some (.int .i64 (M[k].getD i 0)) := by
  obtain ⟨h6, rest, hh, hl⟩ := h; rw [Qa hh]; have hf := Va h6; have h66 := h6.at hk; have hg := Ux h6 k i hk hi; rw [List.getElem?_eq_getElem (show i < M[k].length by omega)] at hg; simp only [List.getElem?_toArray]; rw [List.getElem?_append_left (by rw [List.length_map, hf]; omega), List.getElem?_map, hg, List.getD_eq_getElem?_getD, List.getElem?_eq_getElem (show i < M[k].length by omega)]; rfl
theorem Bl.frozen (h : Bl w g M c) (i : Nat) : w.frozen? ⟨g, i, none⟩ = false := by
  obtain ⟨h6, rest, hh, hl⟩ := h; exact Qb hh i
theorem Bl.store (h : Bl w g M c) {k i : Nat} (hk : k < M.length) (hi : i < 6) (v : Int) : Bl (w.setCell ⟨g, k * 6 + i, none⟩ (.int .i64 v)) g (M.set k (M[k].set i v)) c := by
  obtain ⟨h6, rest, hh, hl⟩ := h; refine ⟨h6.set k (by rw [List.length_set]; exact h6.at hk), rest, ?_, by simpa using hl⟩; have hf := Va h6; rw [heap_setCell_same _ g _ _ 76 _ hh, ← flat_set h6 k i v hk hi]; congr 2; apply Array.ext'; simp only [Array.toList_setIfInBounds]; rw [List.set_append_left _ _ (by rw [List.length_map, hf]; omega), List.map_set]
theorem Bl.range (h : Bl w g M c) {k : Nat} (hk : k < M.length) : w.rangeAt g (k * 6) (M[k].map (Value.int .i64)) := by
  intro j v hj; have h6 := h.1.at hk; have hj6 : j < 6 := by
    have := (List.getElem?_eq_some_iff.1 hj).1; simp at this; omega
  rw [h.cell hk hj6, ← hj, List.getElem?_map, List.getElem?_eq_getElem (show j < M[k].length by omega), List.getD_eq_getElem?_getD, List.getElem?_eq_getElem (show j < M[k].length by omega)]; rfl
theorem Bl.there (h : Bl w g M c) {k : Nat} (hk : k < M.length) : w.there g (k * 6) 6 := fun j hj => ⟨by rw [h.cell hk hj]; rfl, h.frozen _⟩
theorem Bl.puts : ∀ (r : List Int) (i : Nat) {w : World} {M : List (List Int)} (h : Bl w g M c) {k : Nat} (hk : k < M.length), i + r.length ≤ 6 → ∃ s : List Int, s.length = 6 ∧ s.take i = M[k].take i ∧ (s.drop i).take r.length = r ∧ s.drop (i + r.length) = M[k].drop (i + r.length) ∧ Bl (w.setCells g (k * 6 + i) (r.map (Value.int .i64))) g (M.set k s) c
  | [], i, w, M, h, k, hk, _ => ⟨M[k], h.1.at hk, rfl, by simp, rfl, by
      have : M.set k M[k] = M := List.set_getElem_self hk; rw [this]; exact h⟩
  | v :: r, i, w, M, h, k, hk, hl => by
    have hi : i < 6 := by simp at hl; omega
    have h6 := h.1.at hk; have hs := h.store hk hi v; have hk' : k < (M.set k (M[k].set i v)).length := by simpa using hk
    obtain ⟨s, s1, s2, s3, s4, s5⟩ := Bl.puts r (i + 1) hs hk' (by simp at hl; omega); have e1 : (M.set k (M[k].set i v))[k] = M[k].set i v := by simp
    rw [e1] at s2 s4; refine ⟨s, s1, ?_, ?_, ?_, ?_⟩
    · have := congrArg (List.take i) s2; rw [List.take_take, List.take_take, Nat.min_eq_left (by omega)] at this; rw [this]; rw [List.take_set_of_le (by omega)]
    · have hv : s[i]? = some v := by
        have := congrArg (·[i]?) s2; simp only [List.getElem?_take] at this; rw [if_pos (by omega), if_pos (by omega)] at this; rw [this]; simp [show i < M[k].length by omega]
      have hd : s.drop i = v :: s.drop (i + 1) := by
        rw [List.drop_eq_getElem_cons (by omega)]; congr 1; rw [List.getElem?_eq_getElem (by omega)] at hv; exact Option.some.inj hv
      rw [hd, List.length_cons, List.take_succ_cons, s3]
    · rw [List.length_cons, show i + (r.length + 1) = i + 1 + r.length by omega, s4, List.drop_set_of_lt (by omega)]
    · rw [List.map_cons, World.setCells]; rw [List.set_set] at s5; exact s5
theorem Bl.stores (h : Bl w g M c) {k : Nat} (hk : k < M.length) {r : List Int} (hr : r.length = 6) : Bl (w.setCells g (k * 6) (r.map (Value.int .i64))) g (M.set k r) c := by
  obtain ⟨s, s1, s2, s3, s4, s5⟩ := Bl.puts r 0 h hk (by omega); simp only [List.drop_zero, Nat.add_zero] at s3 s5; have : s = r := by rw [← s3, List.take_of_length_le (by omega)]
  rw [this] at s5; exact s5
end
def L6 (x : S76) : List Int := [x.f0, x.f1, x.f2, x.f3, x.f4, x.f5]
def mk6 (m : List Int) : S76 := ⟨m.getD 0 0, m.getD 1 0, m.getD 2 0, m.getD 3 0, m.getD 4 0, m.getD 5 0⟩
theorem L6_mk6 {m : List Int} (h : m.length = 6) : L6 (mk6 m) = m := by
  match m, h with
  | [a, b, c, d, e, f], _ => rfl
theorem six_L6 (xs : List S76) : Six (xs.map L6) := by
  intro r hr; obtain ⟨x, _, rfl⟩ := List.mem_map.1 hr; rfl
theorem map_L6 : ∀ {M : List (List Int)}, Six M → (M.map mk6).map L6 = M
  | [], _ => rfl
  | r :: M, h => by rw [List.map_cons, List.map_cons, L6_mk6 (h r (List.mem_cons_self ..)), map_L6 (fun x hx => h x (List.mem_cons_of_mem _ hx))]
theorem Rd.of_C {w : World} {A : Option Addr} {n : Nat} {xs : List S76} (h : Kd.C k76 w A n xs) (hA : ∀ ad, A = some ad → ad.spot = none) : Rd w A (xs.map L6) := by
  intro hne; have hn : 0 < n := by
    have := h.1; cases xs with
    | nil => simp at hne
    | cons x r => simp at this; omega
  obtain ⟨ad, e, hc⟩ := h.2.2 hn; obtain ⟨b, o, sp⟩ := ad; have := hA _ e; cases this; refine ⟨b, o, e, fun k r hk => ?_⟩; rw [List.getElem?_map] at hk; obtain ⟨x, hx, rfl⟩ := Option.map_eq_some_iff.1 hk; obtain ⟨cs, _, hK, hcell⟩ := hc k x hx; obtain rfl := Ur hK; refine ⟨rfl, fun j v hj => ?_⟩; have h1 := hcell j v hj; rw [Addr.add_mid] at h1; rw [Nat.add_assoc]; exact h1
theorem reps76 {W : World} {base : Nat} {ok : Nat → Prop} : ∀ {xs : List S76} {inner : List Value}, Reps (k76.M W base ok) 6 xs inner → inner = (xs.map L6).flatten.map (Value.int .i64)
  | [], inner, h => List.eq_nil_of_length_eq_zero (by simpa using h.1)
  | x :: r, inner, h => by
    have hl := h.1; have h2 := k76_openM (h.2 0 x rfl); simp only [Nat.zero_mul, List.drop_zero] at h2; have h3 := reps76 (xs := r) (inner := inner.drop 6) ⟨by simp at hl ⊢; omega, fun j p hj => by
      have := h.2 (j + 1) p (by simpa using hj); rw [List.drop_drop, show 6 + j * 6 = (j + 1) * 6 by omega]; exact this⟩
    rw [← List.take_append_drop 6 inner, h2, h3]; rfl
theorem Bl.of_R {w : World} {base : Nat} {ok : Nat → Prop} {v : Value} {xs : List S76} (h : Kd.R k76 76 w base ok v xs) : (v = .slice none 0 0 ∧ xs = []) ∨ ∃ g c, v = .slice (some ⟨g, 0, none⟩) xs.length c ∧ base ≤ g ∧ ok g ∧ Bl w g (xs.map L6) c ∧ xs.length ≤ c ∧ c ≤ maxLen := by
  obtain ⟨h0, inner, ⟨hl, ho⟩, hr⟩ := h; rcases ho with ⟨rfl, hn⟩ | ⟨g, cap, cur, rfl, hg, hh, hc, hm, hs, ht⟩
  · exact .inl ⟨rfl, List.eq_nil_of_length_eq_zero hn⟩
  · refine .inr ⟨g, cap, rfl, hg, h0 g rfl, ⟨six_L6 xs, cur.toList.drop (xs.length * 6), ?_, ?_⟩, hc, hm⟩
    · have hin : inner = (xs.map L6).flatten.map (Value.int .i64) := reps76 hr; rw [hh, ← hin, ← ht, show k76.sz = 6 from rfl, List.take_append_drop]
    · have : cur.toList.length = cap * 6 := by rw [Array.length_toList]; exact hs
      simp [this]; omega
theorem Bl.R {w : World} {g c base n : Nat} {ok : Nat → Prop} {M : List (List Int)} (h : Bl w g M c) (hb : base ≤ g) (hok : ok g) (hn : n ≤ M.length) (hc : c ≤ maxLen) : Kd.R k76 76 w base ok (.slice (some ⟨g, 0, none⟩) n c) ((M.take n).map mk6) := by
  obtain ⟨h6, rest, hh, hl⟩ := h; have h6t : Six (M.take n) := fun r hr => h6 r (List.mem_of_mem_take hr)
  have hlen : ((M.take n).map mk6).length = n := by simp; omega
  have hfl : (M.take n).flatten.length = n * 6 := by rw [Va h6t]; simp; omega
  refine ⟨fun k hk => ?_, (M.take n).flatten.map (Value.int .i64), ⟨?_, .inr ⟨g, c, _, ?_, hb, hh, ?_, hc, ?_, ?_⟩⟩, ?_, ?_⟩
  · simp [Value.ownBlock] at hk; subst hk; exact hok
  · rw [List.length_map, hfl, hlen]; rfl
  · rw [hlen]
  · rw [hlen]; omega
  · show (M.flatten.map (Value.int .i64) ++ rest).length = c * 6
    rw [List.length_append, List.length_map, Va h6]; exact hl
  · rw [hlen, show k76.sz = 6 from rfl]; have : M.flatten = (M.take n).flatten ++ (M.drop n).flatten := by rw [← List.flatten_append, List.take_append_drop]
    show List.take (n * 6) (M.flatten.map (Value.int .i64) ++ rest) = _
    rw [this, List.map_append, List.append_assoc, List.take_append_of_le_length (by rw [List.length_map, hfl]; omega), List.take_of_length_le (by rw [List.length_map, hfl]; omega)]
  · rw [List.length_map, hfl, hlen]; rfl
  · intro j p hj; rw [List.getElem?_map] at hj; obtain ⟨r, hr, rfl⟩ := Option.map_eq_some_iff.1 hj; obtain ⟨hjl, hje⟩ := List.getElem?_eq_some_iff.1 hr; have hr6 : r.length = 6 := h6t r (hje ▸ List.getElem_mem hjl); have he : (((M.take n).flatten.map (Value.int .i64)).drop (j * 6)).take 6 = (L6 (mk6 r)).map (Value.int .i64) := by
      rw [L6_mk6 hr6]; apply List.ext_getElem?; intro i; rw [List.getElem?_take]; split
      · rename_i hi
        rw [List.getElem?_drop, List.getElem?_map, List.getElem?_map, Ux h6t j i hjl hi, hje]
      · rw [List.getElem?_eq_none (by simp; omega)]
    show k76.M _ _ _ _ _
    rw [show k76.sz = 6 from rfl, he]; exact V7 _ _ _ _
def pad (l : List Int) : List Int := l ++ List.replicate (6 - l.length) 0
theorem Uo {l : List Int} (h : l.length ≤ 6) : (pad l).length = 6 := by simp [pad]; omega
theorem Jc {l : List Int} (v : Int) (h : l.length < 6) : (pad l).set l.length v = pad (l ++ [v]) := by
 unfold pad; rw [List.set_append_right _ _ (Nat.le_refl _), Nat.sub_self, show 6 - l.length = (6 - (l ++ [v]).length) + 1 by simp; omega, List.replicate_succ, List.set_cons_zero, List.append_assoc]; rfl
def lineOf (l0 l1 : List (List Int)) (k : Nat) : List Int := pad (l0.map (·.getD k 0) ++ l1.map (fun c => wrap64 (-(c.getD k 0))))
def ZK.f (l0 l1 : List (List Int)) : Option (List S76) :=
 if 0 < l0.length ∧ l0.length + l1.length ≤ 6 ∧ (0 < (Qt l0 0).length ∧ (Qt l0 0).length ≤ 4) ∧ ∀ r ∈ l0 ++ l1, (Qt l0 0).length ≤ r.length then some ((List.range (Qt l0 0).length).map fun k => mk6 (lineOf l0 l1 k)) else none
def Made (f : Nat → List Int) (n k : Nat) (row : List Int) (M : List (List Int)) : Prop := M.length = n ∧ ∀ q, q < n → M[q]? = some (if q < k then f q else if q = k then row else pad [])
theorem Made.at {f : Nat → List Int} {n k : Nat} {row : List Int} {M : List (List Int)} (h : Made f n k row M) (hk : k < n) : ∃ hk' : k < M.length, M[k] = row := by
 have hk' : k < M.length := by rw [h.1]; exact hk
 have := h.2 k hk; rw [List.getElem?_eq_getElem hk', if_neg (by omega), if_pos rfl] at this; exact ⟨hk', Option.some.inj this⟩
theorem Made.set {f : Nat → List Int} {n k : Nat} {row : List Int} {M : List (List Int)} (h : Made f n k row M) (row' : List Int) : Made f n k row' (M.set k row') := by
 refine ⟨by simpa using h.1, fun q hq => ?_⟩; have := h.2 q hq; have hq' : q < M.length := by rw [h.1]; exact hq
 by_cases e : k = q
 ·subst e; simp [hq']
 ·rw [List.getElem?_set_ne e, this]; rw [if_neg (show ¬ q = k by omega), if_neg (show ¬ q = k by omega)]
theorem Made.next {f : Nat → List Int} {n k : Nat} {M : List (List Int)} (h : Made f n k (f k) M) : Made f n (k + 1) (pad []) M := by
 refine ⟨h.1, fun q hq => ?_⟩; rw [h.2 q hq]; by_cases e : q < k
 ·rw [if_pos e, if_pos (by omega)]
 ·by_cases e2 : q = k
  ·subst e2; rw [if_neg e, if_pos rfl, if_pos (by omega)]
  ·rw [if_neg e, if_neg e2, if_neg (by omega)]; split <;> rfl
theorem Made.all {f : Nat → List Int} {n : Nat} {row : List Int} {M : List (List Int)} (h : Made f n n row M) : M = (List.range n).map f := by
 apply List.ext_getElem?; intro q; by_cases hq : q < n
 ·rw [h.2 q hq, if_pos hq]; simp [hq]
 ·rw [List.getElem?_eq_none (by rw [h.1]; omega), List.getElem?_eq_none (by simp; omega)]
theorem addr_zero (ad : Addr) : ad.add 0 = ad := by
 cases ad; unfold Addr.add; split <;> simp_all
set_option maxHeartbeats 4000000 in
set_option maxRecDepth 100000 in
theorem ZK.calls (A0 : Option Addr) (c0 : Nat) (l0 : List (List Int)) (A1 : Option Addr) (c1 : Nat) (l1 : List (List Int)) (r : List S76) (w : World) (hr0 : Kd.C (Kd.slice 3 (Kd.int .i64)) w A0 l0.length l0) (hc0 : l0.length ≤ c0) (hr1 : Kd.C (Kd.slice 3 (Kd.int .i64)) w A1 l1.length l1) (hc1 : l1.length ≤ c1) (h : ZK.f l0 l1 = some r) :
  Calls Try.prog 73 #[.agg #[.slice A0 l0.length c0, .slice A1 l1.length c1]] w fun e w' => ∃ v0_ : Value, e = .returned (v0_) ∧ Kd.R k76 76 w' w.heap.size (fun _ => True) v0_ r ∧ Below w.heap.size w w' := by
 unfold ZK.f at h; split at h
 case isFalse => cases h
 rename_i hcond
 obtain ⟨z0, z1, z2, z3⟩ := hcond; obtain rfl := Option.some.inj h; clear h; have fa := Try.underlying24; have mI := Try.underlying76; have pa := Try.underlying65; have sZ := Try.underlying28; have s6 := Try.underlying22; have HR0 := aa.mk hr0; have HC0 := aa.mk hc0; have HR1 := aa.mk hr1; have HC1 := aa.mk hc1; have HZ3 := aa.mk z3; obtain ⟨ad, Aq, cq, eq, hxq, hlq, hiq⟩ := ZH hr0 0 (by omega) (by omega); cases eq; rw [show (0 : Int).toNat = 0 from rfl, addr_zero] at hxq; obtain ⟨n, hn⟩ : ∃ n, n = (Qt l0 0).length := ⟨_, rfl⟩; rw [← hn] at hxq hlq z2 HZ3; have HN := aa.mk hn; have HXQ := aa.mk hxq; clear hr0 hc0 hr1 hc1 z3 hiq; have HB := aa.mk (Below.refl w.heap.size w); rw [← hn]; clear hn hxq; have q0 : (0 : Int) < (l0.length : Int) := by omega
 go_enter Try.func73, Try.ntmps73; go_wp2_with (first
  | ((with_reducible refine QD (N := 1) rfl ?_); refine QJ ?hg (N := 1) ?hd (cs := #[.slice (some ad) l0.length c0, .slice A1 l1.length c1]) (t := 24) ?hr ?_; (case hd => rfl); (case hg => rfl); (case hr => first | (go_simp; done) | (go_simp; rfl)); intro gb hgb w7 hbox hb; have HGB := aa.mk hgb; have BK := aa.mk hbox; have HBOX := aa.mk hbox; have pc : w7.cell? ⟨gb, 0, none⟩ = some (.slice (some ad) l0.length c0) := (Qa BK.out 0).trans rfl; have rz : w7.cell? ⟨gb, 1, none⟩ = some (.slice A1 l1.length c1) := (Qa BK.out 1).trans rfl; have hxq := (hb.cell (World.block_lt_of_cell? w _ HXQ.out)).trans HXQ.out; have n0_ := aa.mk (Qd HB.out hb); have HB7 := aa.mk hb; clear HB; have HB := n0_; clear n0_ hgb hbox hb)
  | ((with_reducible refine QD (N := 14) rfl ?_); refine Kd.Jt k76 _ 76 rfl (N := 14) rfl 65 _ _ rfl (n : Int) rfl rfl Try.underlying65 (.agg #[(.int .i64 0), (.int .i64 0), (.int .i64 0), (.int .i64 0), (.int .i64 0), (.int .i64 0)]) 48 info76 rfl (by decide) (by omega) z76 (ok := fun _ => True) (okp := fun _ => True) (V7 _ _ _ z76) (fun _ hk => hk) trivial (by omega) (by simp only [Int.toNat_natCast]; omega) (Below.refl _ _) (Nat.le_refl _) ?_; intro v14 w14 ho hb hgr hat; obtain ⟨g, c, hv, hgw, -, hbl, hlc, hcm⟩ := (Bl.of_R ho).resolve_left (fun hh => absurd (congrArg List.length hh.2) (by rw [List.length_replicate, List.length_nil, Int.toNat_natCast]; omega)); rw [List.length_replicate, Int.toNat_natCast] at hv hlc; subst hv; have HBL := aa.mk hbl; have HCM := aa.mk hcm; have HGW := aa.mk hgw; have yb := aa.mk (Qc BK.out hb); have n0_ := aa.mk (Qd HB.out hb); clear HB BK hbl hcm hgw; have HB := n0_; have BK := yb; clear n0_ yb ho hb hgr hat))
 have HB0 := aa.mk (show w.heap.size ≤ w7.heap.size from HB7.out.size); have HGG := aa.mk (show gb ≠ g by
  have h1 := HGW.out; have h2 := (Array.getElem?_eq_some_iff.1 HBOX.out).1; omega)
 have HM := aa.mk (show Made (lineOf l0 l1) n 0 (pad []) ((List.replicate (n : Int).toNat z76).map L6) from ⟨by simp, fun q hq => by
  rw [List.map_replicate, Int.toNat_natCast, List.getElem?_replicate, if_pos hq, if_neg (by omega)]; split <;> rfl⟩)
 generalize (List.replicate (n : Int).toNat z76).map L6 = M at HM HBL; go_loopw [17] (fun k_ w' => ∃ (k : Nat) (M : List (List Int)), k ≤ n ∧ k_ = .int .i64 k ∧ aa (Made (lineOf l0 l1) n k (pad []) M) ∧ aa (Bl w' g M c) ∧ aa (w'.heap[gb]? = some (.cells #[.slice (some ad) l0.length c0, .slice A1 l1.length c1] 24 (0, 0))) ∧ aa (Below w.heap.size w w')) (fun k_ _ => n - (intOf k_).toNat)
 case atStart => exact ⟨0, M, Nat.zero_le _, rfl, HM, HBL, BK, HB⟩
 case round =>
  clear HM HBL BK HB M; obtain ⟨k, M, hk, rfl, HM, HBL, BK, HB⟩ := hrel; have pc : wr.cell? ⟨gb, 0, none⟩ = some (.slice (some ad) l0.length c0) := (Qa BK.out 0).trans rfl; have rz : wr.cell? ⟨gb, 1, none⟩ = some (.slice A1 l1.length c1) := (Qa BK.out 1).trans rfl; by_cases hkn : k < n
  ·go_wp2_with fail
   clear pc rz; have HM1 := aa.mk (show Made (lineOf l0 l1) n k (pad ((l0.take 0).map (·.getD k 0))) M from HM.out); clear HM; go_loopw [23] (fun i_ w' => ∃ (i : Nat) (M : List (List Int)), i ≤ l0.length ∧ i_ = .int .i64 i ∧ aa (Made (lineOf l0 l1) n k (pad ((l0.take i).map (·.getD k 0))) M) ∧ aa (Bl w' g M c) ∧ aa (w'.heap[gb]? = some (.cells #[.slice (some ad) l0.length c0, .slice A1 l1.length c1] 24 (0, 0))) ∧ aa (Below w.heap.size w w')) (fun i_ _ => l0.length - (intOf i_).toNat)
   case atStart => exact ⟨0, M, Nat.zero_le _, rfl, HM1, HBL, BK, HB⟩
   case round =>
    clear HM1 HBL BK HB M; obtain ⟨i, M, hi, rfl, HM, HBL, BK, HB⟩ := hrel; by_cases hil : i < l0.length
    ·obtain ⟨ad1, A2, c2, e1, hx1, hl1, hi1⟩ := ZH HR0.out (i : Int) (by omega) (by omega); cases e1; replace hx1 := (HB.out.cell (World.block_lt_of_cell? w _ hx1)).trans hx1; have hge := HZ3.out (Qt l0 (i : Int)) (List.mem_append_left _ (by simp only [Qt, Int.toNat_natCast]; rw [rowD _ _ hil]; exact List.getElem_mem hil)); obtain ⟨ad2, e2, hx2⟩ := Kd.Zi hi1 (k : Int) (by omega) (by omega); subst e2; replace hx2 := (HB.out.cell (World.block_lt_of_cell? w _ hx2)).trans hx2; simp only [Int.toNat_natCast] at hx1 hx2; obtain ⟨hkM, hrow⟩ := HM.out.at hkn; have hi6 : i < 6 := by omega
     have hf := HBL.out.frozen (k * 6 + i); have hc := HBL.out.cell hkM hi6; have hlt : (k : Int) < ((Qt l0 (i : Int)).length : Int) := by omega
     clear hl1 hi1; generalize M[k].getD i 0 = old at hc; obtain ⟨x, hxe⟩ : ∃ x, x = rd (Qt l0 (i : Int)) (k : Int) := ⟨_, rfl⟩; rw [← hxe] at hx2; have hx3 : x = (l0[i]).getD k 0 := by rw [hxe]; simp only [rd, Qt, Int.toNat_natCast]; rw [rowD _ _ hil]
     have HROW := aa.mk (show pad ((l0.take (i + 1)).map (·.getD k 0)) = M[k].set i x by
      rw [hrow, List.take_succ_eq_append_getElem hil, List.map_append, hx3]; have := Jc (l := (l0.take i).map (·.getD k 0)) ((l0[i]).getD k 0) (by simp; omega); rw [show ((l0.take i).map (·.getD k 0)).length = i by simp; omega] at this; exact this.symm)
     have HKM := aa.mk hkM; clear hxe hx3 hrow hge; go_wp2_with fail
     go_region; go_wp2_with fail
     go_roundw
     case rel => exact ⟨i + 1, M.set k (M[k].set i x), by omega, by go_num, ⟨by rw [HROW.out]; exact HM.out.set _⟩, ⟨HBL.out.store HKM.out hi6 x⟩, ⟨(heap_setCell_other _ _ _ _ HGG.out).trans BK.out⟩, ⟨(HB.out.setCell (Nat.le_trans HB0.out HGW.out) _).drew⟩⟩
     case measure => simp [intOf]; omega
    ·obtain rfl : i = l0.length := by omega
     have HM2 := aa.mk (show Made (lineOf l0 l1) n k (pad (l0.map (·.getD k 0) ++ (l1.take 0).map (fun c => wrap64 (-(c.getD k 0))))) M by
      have := HM.out; rw [List.take_length] at this; simpa using this)
     have pc : wr.cell? ⟨gb, 0, none⟩ = some (.slice (some ad) l0.length c0) := (Qa BK.out 0).trans rfl; have rz : wr.cell? ⟨gb, 1, none⟩ = some (.slice A1 l1.length c1) := (Qa BK.out 1).trans rfl; clear HM; go_wp2_with fail
     clear pc rz; go_loopw [41] (fun i_ w' => ∃ (i : Nat) (M : List (List Int)), i ≤ l1.length ∧ i_ = .int .i64 i ∧ aa (Made (lineOf l0 l1) n k (pad (l0.map (·.getD k 0) ++ (l1.take i).map (fun c => wrap64 (-(c.getD k 0))))) M) ∧ aa (Bl w' g M c) ∧ aa (w'.heap[gb]? = some (.cells #[.slice (some ad) l0.length c0, .slice A1 l1.length c1] 24 (0, 0))) ∧ aa (Below w.heap.size w w')) (fun i_ _ => l1.length - (intOf i_).toNat)
     case atStart => exact ⟨0, M, Nat.zero_le _, rfl, HM2, HBL, BK, HB⟩
     case round =>
      clear HM2 HBL BK HB M; obtain ⟨i, M, hi, rfl, HM, HBL, BK, HB⟩ := hrel; have pc : wr.cell? ⟨gb, 0, none⟩ = some (.slice (some ad) l0.length c0) := (Qa BK.out 0).trans rfl; by_cases hil : i < l1.length
      ·obtain ⟨ad1, A2, c2, e1, hx1, hl1, hi1⟩ := ZH HR1.out (i : Int) (by omega) (by omega); subst e1; replace hx1 := (HB.out.cell (World.block_lt_of_cell? w _ hx1)).trans hx1; have hge := HZ3.out (Qt l1 (i : Int)) (List.mem_append_right _ (by simp only [Qt, Int.toNat_natCast]; rw [rowD _ _ hil]; exact List.getElem_mem hil)); obtain ⟨ad2, e2, hx2⟩ := Kd.Zi hi1 (k : Int) (by omega) (by omega); subst e2; replace hx2 := (HB.out.cell (World.block_lt_of_cell? w _ hx2)).trans hx2; simp only [Int.toNat_natCast] at hx1 hx2; obtain ⟨hkM, hrow⟩ := HM.out.at hkn; have hi6 : l0.length + i < 6 := by omega
       have hf := HBL.out.frozen (k * 6 + (l0.length + i)); have hc := HBL.out.cell hkM hi6; have hlt : (k : Int) < ((Qt l1 (i : Int)).length : Int) := by omega
       clear hl1 hi1; generalize M[k].getD (l0.length + i) 0 = old at hc; obtain ⟨x, hxe⟩ : ∃ x, x = rd (Qt l1 (i : Int)) (k : Int) := ⟨_, rfl⟩; rw [← hxe] at hx2; have hx3 : x = (l1[i]).getD k 0 := by rw [hxe]; simp only [rd, Qt, Int.toNat_natCast]; rw [rowD _ _ hil]
       have HROW := aa.mk (show pad (l0.map (·.getD k 0) ++ (l1.take (i + 1)).map (fun c => wrap64 (-(c.getD k 0)))) = M[k].set (l0.length + i) (wrap64 (-x)) by
        rw [hrow, List.take_succ_eq_append_getElem hil, List.map_append, hx3]; have := Jc (l := l0.map (·.getD k 0) ++ (l1.take i).map (fun c => wrap64 (-(c.getD k 0)))) (wrap64 (-((l1[i]).getD k 0))) (by simp; omega); rw [show (l0.map (·.getD k 0) ++ (l1.take i).map (fun c => wrap64 (-(c.getD k 0)))).length = l0.length + i by simp; omega] at this; rw [this, List.append_assoc]; rfl)
       have HKM := aa.mk hkM; clear hxe hx3 hrow hge; go_wp2_with fail
       go_region; go_wp2_with fail
       go_roundw
       case rel => exact ⟨i + 1, M.set k (M[k].set (l0.length + i) (wrap64 (-x))), by omega, by go_num, ⟨by rw [HROW.out]; exact HM.out.set _⟩, ⟨HBL.out.store HKM.out hi6 _⟩, ⟨(heap_setCell_other _ _ _ _ HGG.out).trans BK.out⟩, ⟨(HB.out.setCell (Nat.le_trans HB0.out HGW.out) _).drew⟩⟩
       case measure => simp [intOf]; omega
      ·obtain rfl : i = l1.length := by omega
       have HM3 := aa.mk (show Made (lineOf l0 l1) n (k + 1) (pad []) M from (by
        have := HM.out; rw [List.take_length] at this; exact this.next))
       go_wp2_with fail
       go_roundw
       case rel => exact ⟨k + 1, M, by omega, by go_num, HM3, HBL, BK, HB⟩
       case measure => simp [intOf]; omega
  ·obtain rfl : k = n := by omega
   have hall := HM.out.all; go_wp2_with fail
   go_ret; refine ⟨_, rfl, ?_, HB.out⟩; have hR := HBL.out.R (base := w.heap.size) (ok := fun _ => True) (n := k) (Nat.le_trans HB0.out HGW.out) trivial (by rw [HM.out.1]; exact Nat.le_refl _) HCM.out; rw [List.take_of_length_le (by rw [HM.out.1]; exact Nat.le_refl _), hall, List.map_map] at hR; exact hR
theorem wrp {x : Int} (h0 : -9223372036854775808 ≤ x) (h1 : x ≤ 9223372036854775807) : wrap64 x = x := by
  unfold wrap64; omega
def Lim (x : Int) : Prop := x.natAbs ≤ 4611686018427387904
theorem V2 : ∀ (n : Nat) (a b : Int), b.natAbs < n → Lim a → Lim b → ∃ k, Zr.f k a b = some (Int.gcd a b : Int)
  | 0, _, _, h, _, _ => by omega
  | n + 1, a, b, h, ha, hb => by
    unfold Lim at ha hb; by_cases h0 : b = 0
    · subst h0; refine ⟨1, ?_⟩; unfold Zr.f Zr.l0; rw [if_pos rfl, wrp (by omega) (by omega)]; have : (Int.gcd a 0 : Int) = a.natAbs := by simp
      rw [this]; unfold mx; congr 1; split <;> omega
    · have h1 : (Int.tmod a b).natAbs = a.natAbs % b.natAbs := Int.natAbs_tmod a b; have h2 : a.natAbs % b.natAbs < b.natAbs := Nat.mod_lt _ (by omega); obtain ⟨k, hk⟩ := V2 n b (Int.tmod a b) (by omega) (by unfold Lim; omega) (by unfold Lim; omega); refine ⟨k + 1, ?_⟩; unfold Zr.f Zr.l0; rw [if_neg h0]; refine Eq.trans hk ?_; congr 2; show Nat.gcd b.natAbs (Int.tmod a b).natAbs = Nat.gcd a.natAbs b.natAbs
      rw [h1, Nat.gcd_comm a.natAbs, Nat.gcd_comm b.natAbs, ← Nat.gcd_rec]
theorem Vp (a b : Int) (ha : Lim a) (hb : Lim b) (w : World) : Calls Try.prog 117 #[.int .i64 a, .int .i64 b] w fun e w' => e = .returned (.int .i64 (Int.gcd a b : Int)) ∧ Below w.heap.size w w' := by
  obtain ⟨k, hk⟩ := V2 (b.natAbs + 1) a b (by omega) ha hb; exact Zr.calls k a b _ w hk
def gc (m : List Int) : Nat := m.foldl (fun d n => Int.gcd d n) 0
def pln (m : List Int) : List Int := if 1 < gc m then m.map (·.tdiv (gc m)) else m
theorem gcd_lim {d x : Int} (hd : Lim d) (hx : Lim x) : Lim (Int.gcd d x : Int) := by
  unfold Lim at *; by_cases h : x = 0
  · subst h; simp; omega
  · have := Nat.gcd_le_right d.natAbs (show 0 < x.natAbs by omega); show ((Nat.gcd d.natAbs x.natAbs : Nat) : Int).natAbs ≤ _
    omega
theorem gc_lim : ∀ (m : List Int) (d : Nat), Lim d → (∀ x ∈ m, Lim x) → Lim (m.foldl (fun d n => Int.gcd d n) d : Nat)
  | [], d, hd, _ => hd
  | x :: m, d, hd, h => gc_lim m _ (gcd_lim hd (h x (List.mem_cons_self ..))) (fun y hy => h y (List.mem_cons_of_mem _ hy))
theorem lim0 : Lim (0 : Nat) := by unfold Lim; decide
theorem gc_take (m : List Int) (i : Nat) (hi : i < m.length) : gc (m.take (i + 1)) = Int.gcd (gc (m.take i)) m[i] := by
  rw [List.take_succ_eq_append_getElem hi]; unfold gc; rw [List.foldl_append]; rfl
theorem UO (t e : TypeId) (m : List Int) (i : Nat) (h : Try.prog.underlying t = some (.array m.length e)) (he : Try.prog.plainKey e = true) (hs : (Try.prog.info? e).map (·.size) = some 1) (hi : i < m.length) (w : World) :
    (Instr.index t (.agg (arr m)) (.int .i64 (i : Int))).run Try.prog w = .ok (.int .i64 (m.getD i 0)) w := by
  have hsz : (sizeOf e).run Try.prog w = .ok 1 w := by
    cases hq : Try.prog.info? e with
    | none => simp [hq] at hs
    | some j =>
      have : j.size = 1 := by simpa [hq] using hs
      simp [sizeOf, typeInfo, hq, this]
  have hp := run_part_plain (P := Try.prog) w he (xs := arr m) (off := i) (Ua m i hi); simp only [Instr.index, run_underlying h, asIntOf, hi, hsz, Sem.run_bind, Sem.run_pure, Result.andThen, Int.natCast_nonneg, Int.ofNat_lt, and_self, if_true, Int.toNat_natCast, Nat.mul_one]; exact hp
def zeros6 : List Int := List.replicate 6 0
theorem info76z : (Try.prog.info? 76).map (fun i => (i.zero, i.size)) = some (some (.agg (arr zeros6)), 6) := by kernel_rfl
theorem Yq {B : Nat} {w0 w : World} (h : Below B w0 w) {g : Nat} (hg : B ≤ g) (cs : Array Value) : Below B w0 (w.setRow g cs) :=
  ⟨h.os, h.tape, h.output, by simpa using h.size, fun i hi => (setRow_other w g i cs (by omega)).trans (h.block i hi)⟩
set_option maxHeartbeats 2000000 in
set_option maxRecDepth 100000 in
theorem VY (m : List Int) (w : World) (hm : m.length = 6) (hl : ∀ x ∈ m, Lim x) :
    Calls Try.prog 118 #[.agg (arr m)] w fun e w' => e = .returned (.agg (arr (pln m))) ∧ Below w.heap.size w w' := by
  have mI := Try.underlying76; obtain ⟨Bh, mJ⟩ := zero_of_info info76z; have HI0 := aa.mk (show (Try.prog.info? 76).map (·.size) = some (arr m).size by rw [ZW, hm]; exact mJ); have HML := aa.mk hm; have HL := aa.mk hl; have HIX := aa.mk (fun (n : Nat) (hn : n < 6) (W : World) => UO 76 3 m n (by rw [hm]; exact Try.underlying76) (by kernel_rfl) (by kernel_rfl) (by omega) W); clear hm hl; have HB := aa.mk (Below.refl w.heap.size w); go_enter Try.func118, Try.ntmps118; go_wp2_with (first
    | ((with_reducible refine QD (N := 1) rfl ?_); refine QJ ?hg (N := 1) ?hd (cs := arr m) (t := 76) ?hr ?_; (case hd => rfl); (case hg => rfl); (case hr => first | (go_simp; done) | (go_simp; rfl)); intro gb hgb w7 hbox hb; have HGB := aa.mk (show w.heap.size ≤ gb by omega); have BK := aa.mk hbox; have n0_ := aa.mk (Qd HB.out hb); have HB7 := aa.mk hb; clear HB; have HB := n0_; clear n0_ hgb hbox hb)
    | (refine wpList_load_row rfl 76 _ rfl gb rfl 76 (arr m) (0, 0) _ (Qf BK.out _) Try.underlying76 rfl HI0.out ?_))
  have HG2 := aa.mk (heap_alloc_last w7 (.cells (arr zeros6) 76)); have BK2 := aa.mk (Qf BK.out (.cells (arr zeros6) 76)); have HNE := aa.mk (show gb ≠ w7.heap.size from fun e => by have := Q7 BK.out; omega); have HB2 := aa.mk (show Below w.heap.size w (w7.alloc (.cells (arr zeros6) 76)) from HB.out.alloc HB7.out.size _); have xS := aa.mk (show w.heap.size ≤ w7.heap.size from HB7.out.size); clear HB BK; generalize w7.heap.size = g2 at *; go_loopw [3, 8] (fun d_ i_ w' => ∃ i : Nat, i ≤ 6 ∧ i_ = .int .i64 i ∧ d_ = .int .i64 (gc (m.take i) : Int) ∧ aa (w'.heap[gb]? = some (.cells (arr m) 76 (0, 0))) ∧ aa (w'.heap[g2]? = some (.cells (arr zeros6) 76 (0, 0))) ∧ aa (Below w.heap.size w w')) (fun _ i_ _ => 6 - (intOf i_).toNat)
  case atStart => exact ⟨0, by omega, rfl, rfl, BK2, HG2, HB2⟩
  case round =>
    clear BK2 HG2 HB2; obtain ⟨i, hi, rfl, rfl, BK, HG2, HB⟩ := hrel; by_cases hlt : i < 6
    · have hix := HIX.out i hlt; have him : i < m.length := by rw [HML.out]; exact hlt
      have hgd : m.getD i 0 = m[i] := by rw [List.getD_eq_getElem?_getD, List.getElem?_eq_getElem him]; rfl
      rw [hgd] at hix; have HGT := aa.mk (gc_take m i him); have HDV := aa.mk (fun W => Vp (gc (m.take i) : Int) m[i] (gc_lim (m.take i) 0 lim0 (fun x hx => HL.out x (List.mem_of_mem_take hx))) (HL.out _ (List.getElem_mem him)) W); clear hgd; generalize m[i] = x at *; go_wp2_with (first
        | ((with_reducible refine Qk (f := 117) rfl ?_); refine QE (some 13) rfl rfl Try.func117 (by kernel_rfl) rfl #[.int .i64 (gc (m.take i) : Int), .int .i64 x] rfl (by (try simp only [List.map_toArray, List.map_cons, List.map_nil]); first | done | rfl) ?_; (with_reducible refine (HDV.out _).mono ?_); rintro e w9 ⟨rfl, hb⟩; refine ⟨_, rfl, ?_⟩; have n0_ := aa.mk (Qd (by repeat (first | (with_reducible first | exact HB.out | apply QU | apply QF | apply QL) | exact HB.out)) hb); have n1_ := aa.mk (Qc BK.out hb); have n2_ := aa.mk (Qc HG2.out hb); clear HB BK HG2; have HB := n0_; have BK := n1_; have HG2 := n2_; clear n0_ n1_ n2_ hb))
      go_roundw
      case rel => exact ⟨i + 1, by omega, by go_num, by rw [HGT.out], BK, HG2, HB⟩
      case measure => simp [intOf]; omega
    · obtain rfl : i = 6 := by omega
      have he : gc (m.take 6) = gc m := by rw [List.take_of_length_le (by rw [HML.out]; exact Nat.le_refl _)]
      rw [he]; have hgl := gc_lim m 0 lim0 HL.out; obtain ⟨d, hd⟩ : ∃ d, d = gc m := ⟨_, rfl⟩; have HD := aa.mk hd; have Fy : d ≤ 4611686018427387904 := by rw [hd]; exact hgl
      rw [← hd]; clear he hgl hd HIX; by_cases h1 : 1 < d
      · have c1 : decide ((1 : Int) < (d : Int)) = true := decide_eq_true (by omega); go_wp2_with fail
        go_loopw [17] (fun i_ w' => ∃ (i : Nat) (q : List Int), i ≤ 6 ∧ i_ = .int .i64 i ∧ aa (q = (m.take i).map (·.tdiv d) ++ m.drop i) ∧ aa (w'.heap[gb]? = some (.cells (arr q) 76 (0, 0))) ∧ aa (w'.heap[g2]? = some (.cells (arr zeros6) 76 (0, 0))) ∧ aa (Below w.heap.size w w')) (fun i_ _ => 6 - (intOf i_).toNat)
        case atStart => exact ⟨0, m, by omega, rfl, ⟨by simp⟩, BK, HG2, HB⟩
        case round =>
          clear BK HG2 HB; obtain ⟨i, q, hi, rfl, HQ, BK, HG2, HB⟩ := hrel; have hql : q.length = 6 := by rw [HQ.out]; simp [HML.out]; omega
          by_cases hlt : i < 6
          · have him : i < m.length := by rw [HML.out]; exact hlt
            have hqi : q.getD i 0 = m[i] := by
              rw [HQ.out, List.getD_eq_getElem?_getD, List.getElem?_append_right (by simp; omega), List.length_map, List.length_take, Nat.min_eq_left (by omega), Nat.sub_self, List.getElem?_drop, Nat.add_zero, List.getElem?_eq_getElem him]; rfl
            have hset : q.set i (m[i].tdiv d) = (m.take (i + 1)).map (·.tdiv d) ++ m.drop (i + 1) := by
              rw [HQ.out, List.set_append_right _ _ (by simp; omega), List.length_map, List.length_take, Nat.min_eq_left (by omega), Nat.sub_self, List.drop_eq_getElem_cons him, List.set_cons_zero, List.take_succ_eq_append_getElem him, List.map_append, List.append_assoc]; rfl
            have HSET := aa.mk hset; have hc := Yx BK.out i (by omega); rw [hqi] at hc; have hf := Vx BK.out i; have hx := HL.out _ (List.getElem_mem him); generalize m[i] = x at *; unfold Lim at hx; have hdv : (Int.tdiv x d).natAbs ≤ x.natAbs := by rw [Int.natAbs_tdiv]; exact Nat.div_le_self _ _
            have hwr : wrap64 (Int.tdiv x d) = Int.tdiv x d := wrp (by omega) (by omega); have hd0 : ((d : Int) == 0) = false := beq_eq_false_iff_ne.mpr (by omega); have hd1 : ¬ (d : Int) = 0 := by omega
            have HWR := aa.mk hwr; clear hqi hset hdv; go_wp2_with fail
            go_roundw
            case rel => exact ⟨i + 1, q.set i (Int.tdiv x d), by omega, by go_num, HSET, ⟨VO BK.out i _⟩, ⟨(heap_setCell_other _ _ _ _ (fun e => HNE.out e.symm)).trans HG2.out⟩, ⟨HB.out.setCell HGB.out _⟩⟩
            case measure => simp [intOf]; omega
          · obtain rfl : i = 6 := by omega
            have hq : q = pln m := by
              rw [HQ.out, List.take_of_length_le (by rw [HML.out]; exact Nat.le_refl _), List.drop_eq_nil_of_le (by rw [HML.out]; exact Nat.le_refl _), List.append_nil]; unfold pln; rw [← HD.out, if_pos h1]
            have HQL := aa.mk hql; have HQP := aa.mk hq; have HIQ := aa.mk (show (Try.prog.info? 76).map (·.size) = some (arr q).size by rw [ZW, hql]; exact mJ); clear hq hql; go_wp2_with (first
              | (refine wpList_load_row rfl 76 _ rfl gb rfl 76 (arr q) (0, 0) _ BK.out Try.underlying76 rfl HIQ.out ?_)
              | (refine wpList_store_row rfl 76 _ _ rfl g2 (arr q) rfl rfl 76 (arr zeros6) HG2.out HIQ.out (by rw [ZW, ZW, HQL.out]; rfl) (YU q) ?_))
            refine bodyPost_ret (results_cell_row rfl _ _ g2 76 (arr q) (0, 0) _ rfl (setRow_heap _ _ _ _ _ _ HG2.out) Try.underlying76 rfl HIQ.out) rfl ?_; exact ⟨by rw [HQP.out], Yq HB.out xS.out _⟩
      · have c1 : decide ((1 : Int) < (d : Int)) = false := decide_eq_false (by omega); have HQP := aa.mk (show m = pln m by unfold pln; rw [← HD.out, if_neg h1]); go_wp2_with (first
          | (refine wpList_load_row rfl 76 _ rfl gb rfl 76 (arr m) (0, 0) _ BK.out Try.underlying76 rfl HI0.out ?_)
          | (refine wpList_store_row rfl 76 _ _ rfl g2 (arr m) rfl rfl 76 (arr zeros6) HG2.out HI0.out (by rw [ZW, ZW, HML.out]; rfl) (YU m) ?_))
        refine bodyPost_ret (results_cell_row rfl _ _ g2 76 (arr m) (0, 0) _ rfl (setRow_heap _ _ _ _ _ _ HG2.out) Try.underlying76 rfl HI0.out) rfl ?_; exact ⟨by rw [← HQP.out], Yq HB.out xS.out _⟩
theorem U0 {op : Oper} {a : Act} {w : World} (x : Operand) (ho : op.op = .load 76 x) (b o : Nat) (hx : a.eval x = .pointer (some ⟨b, o, none⟩)) {r : List Int} (hr : r.length = 6) (hc : w.rangeAt b o (r.map (Value.int .i64))) : (execOp a.eval op).run Try.prog w = .ok (.value (.agg (arr r))) w := by
 unfold execOp; simp only [ho, hx, Instr.loadAt, Instr.sureAddr, Sem.run_bind, Sem.run_pure, Result.andThen_ok, run_loadVar_mid w b o 76 _ _ hc Try.underlying76 rfl (by rw [List.length_map, hr]; exact size76)]; rfl
theorem Uj {op : Oper} {a : Act} {w : World} (x y : Operand) (ho : op.op = .store 76 x y) (b o : Nat) (hx : a.eval x = .pointer (some ⟨b, o, none⟩)) {r : List Int} (hy : a.eval y = .agg (arr r)) (hr : r.length = 6) (ht : w.there b o 6) : (execOp a.eval op).run Try.prog w = .ok .skip (w.setCells b o (r.map (Value.int .i64))) := by
 unfold execOp; simp only [ho, hx, hy, Instr.storeAt, Instr.sureAddr, Sem.run_bind, Sem.run_pure, Result.andThen_ok, run_storeVar_mid w b o 76 (arr r) (by rw [ZW, hr]; exact ht) (by rw [ZW, hr]; exact size76) (YU r)]; rfl
def exch.T0 : Bool × List (List Nat × List Nat) := (true, [([], []), ([], []), ([], []), ([], []), ([], []), ([], []), ([4, 5], [4, 5]), ([6], [6]), ([], []), ([], []), ([8, 9], [8, 9]), ([10], [10]), ([0, 1, 0, 1, 4, 5, 6, 7, 11], [0, 1]), ([12, 7, 0, 1, 4, 5, 6, 7, 11], [7, 12]), ([2, 3, 0, 1, 2, 3, 4, 5, 6, 7, 8, 9, 10, 11, 12, 13], [2, 3]), ([14, 11, 13, 0, 1, 2, 3, 4, 5, 6, 7, 8, 9, 10, 11, 12, 13], [11, 14])])
def exch.B0 : List Nat := [0, 0, 0, 0, 0, 0, 48, 112, 0, 0, 768, 1792, 4083, 8179, 16383, 32767]
theorem exch.tab0 : rtab .any (opsOf Try.f128 0) = exch.T0 := by kernel_rfl
theorem exch.bits0 : waitsOk exch.T0.2 exch.B0 = true := by kernel_rfl
set_option maxHeartbeats 2000000 in
set_option maxRecDepth 100000 in
theorem exch_calls (g n c a b : Nat) (M : List (List Int)) (w : World) (hM : Bl w g M c) (hn : n = M.length) (ha : a < M.length) (hb : b < M.length) (hc : n ≤ c) :
  Calls Try.prog 128 #[.slice (some ⟨g, 0, none⟩) n c, .int .i64 (a : Int), .int .i64 (b : Int)] w fun e w' => e = .returned (.tuple #[]) ∧ w' = (w.drew.setCells g (a * 6) (M[b].map (Value.int .i64))).setCells g (b * 6) (M[a].map (Value.int .i64)) := by
 have mI := Try.underlying76; have pa := Try.underlying65; have mJ := size76; have HM := aa.mk hM.drew; have HA6 := aa.mk (hM.1.at ha); have HB6 := aa.mk (hM.1.at hb); have HM1 := aa.mk (hM.drew.stores ha (hM.1.at hb)); have hb1 : b < (M.set a M[b]).length := by simpa using hb
 have q1 : (a : Int) < (n : Int) := by omega
 have q2 : (b : Int) < (n : Int) := by omega
 clear hM hn; go_enter Try.func128, Try.ntmps128; go_wp2_with fail
 refine Ym (n := 16) (S := fun w' => w'.rangeAt g (b * 6) (M[b].map (Value.int .i64)) ∧ w'.rangeAt g (a * 6) (M[a].map (Value.int .i64))) (ds := [13, 15]) #[false, false, false, false, false, false, false, false, false, false, false, false, false, false, false, false] (by kernel_rfl) rfl rfl ⟨(HM.out.range hb), (HM.out.range ha)⟩ (fun hHeld => ?_); refine ZT exch.tab0 exch.bits0 (fun HT_ HW_ => ?_); refine QS (i := 0) (N := some 6) (v := ?_) (a' := ?_) #[true, false, false, false, false, false, false, false, false, false, false, false, false, false, false, false] rfl rfl (QI HT_.out (by kernel_rfl)) (fun _ _ _ h => h) (Or.inl ⟨by rfl, ?_⟩) ?_ ?_; rotate_left
 ·intro w'; go_simp; with_reducible rfl
 rotate_left
 ·simp only [Act.put, zA, zB, zC, Qw, Qx]; rfl
 refine QS (i := 1) (N := some 7) (v := ?_) (a' := ?_) #[true, true, false, false, false, false, false, false, false, false, false, false, false, false, false, false] rfl rfl (QI HT_.out (by kernel_rfl)) (fun _ _ _ h => h) (Or.inl ⟨by rfl, ?_⟩) ?_ ?_; rotate_left
 ·intro w'; go_simp; with_reducible rfl
 rotate_left
 ·simp only [Act.put, zA, zB, zC, Qw, Qx]; rfl
 refine QS (i := 2) (N := some 8) (v := ?_) (a' := ?_) #[true, true, true, false, false, false, false, false, false, false, false, false, false, false, false, false] rfl rfl (QI HT_.out (by kernel_rfl)) (fun _ _ _ h => h) (Or.inl ⟨by rfl, ?_⟩) ?_ ?_; rotate_left
 ·intro w'; go_simp; with_reducible rfl
 rotate_left
 ·simp only [Act.put, zA, zB, zC, Qw, Qx]; rfl
 refine QS (i := 3) (N := some 9) (v := ?_) (a' := ?_) #[true, true, true, true, false, false, false, false, false, false, false, false, false, false, false, false] rfl rfl (QI HT_.out (by kernel_rfl)) (fun _ _ _ h => h) (Or.inl ⟨by rfl, ?_⟩) ?_ ?_; rotate_left
 ·intro w'; go_simp; with_reducible rfl
 rotate_left
 ·simp only [Act.put, zA, zB, zC, Qw, Qx]; rfl
 refine QS (i := 4) (N := some 10) (v := ?_) (a' := ?_) #[true, true, true, true, true, false, false, false, false, false, false, false, false, false, false, false] rfl rfl (QI HT_.out (by kernel_rfl)) (fun _ _ _ h => h) (Or.inl ⟨by rfl, ?_⟩) ?_ ?_; rotate_left
 ·intro w'; go_simp; with_reducible rfl
 rotate_left
 ·simp only [Act.put, zA, zB, zC, Qw, Qx]; rfl
 refine QS (i := 5) (N := some 11) (v := ?_) (a' := ?_) #[true, true, true, true, true, true, false, false, false, false, false, false, false, false, false, false] rfl rfl (QI HT_.out (by kernel_rfl)) (fun _ _ _ h => h) (Or.inl ⟨by rfl, ?_⟩) ?_ ?_; rotate_left
 ·intro w'; go_simp; with_reducible rfl
 rotate_left
 ·simp only [Act.put, zA, zB, zC, Qw, Qx]; rfl
 refine QS (i := 6) (N := some 12) (v := ?_) (a' := ?_) #[true, true, true, true, true, true, true, false, false, false, false, false, false, false, false, false] rfl rfl (QI HT_.out (by kernel_rfl)) (fun _ _ _ h => h) (Or.inl ⟨by rfl, ?_⟩) ?_ ?_; rotate_left
 ·intro w'; go_simp; with_reducible rfl
 rotate_left
 ·simp only [Act.put, zA, zB, zC, Qw, Qx]; rfl
 refine QS (i := 8) (N := some 14) (v := ?_) (a' := ?_) #[true, true, true, true, true, true, true, false, true, false, false, false, false, false, false, false] rfl rfl (QI HT_.out (by kernel_rfl)) (fun _ _ _ h => h) (Or.inl ⟨by rfl, ?_⟩) ?_ ?_; rotate_left
 ·intro w'; go_simp; with_reducible rfl
 rotate_left
 ·simp only [Act.put, zA, zB, zC, Qw, Qx]; rfl
 refine QS (i := 9) (N := some 15) (v := ?_) (a' := ?_) #[true, true, true, true, true, true, true, false, true, true, false, false, false, false, false, false] rfl rfl (QI HT_.out (by kernel_rfl)) (fun _ _ _ h => h) (Or.inl ⟨by rfl, ?_⟩) ?_ ?_; rotate_left
 ·intro w'; go_simp; with_reducible rfl
 rotate_left
 ·simp only [Act.put, zA, zB, zC, Qw, Qx]; rfl
 refine QS (i := 10) (N := some 16) (v := ?_) (a' := ?_) #[true, true, true, true, true, true, true, false, true, true, true, false, false, false, false, false] rfl rfl (QI HT_.out (by kernel_rfl)) (fun _ _ _ h => h) (Or.inl ⟨by rfl, ?_⟩) ?_ ?_; rotate_left
 ·intro w'; go_simp; with_reducible rfl
 rotate_left
 ·simp only [Act.put, zA, zB, zC, Qw, Qx]; rfl
 refine Zy (i := 7) (N := some 13) (v := ?_) (a' := ?_) #[true, true, true, true, true, true, true, true, true, true, true, false, false, false, false, false] rfl rfl (Q4 HT_.out HW_.out (by kernel_rfl)) (fun _ _ _ h => h) (Or.inl ⟨by rfl, ?_⟩) hHeld ?_ ?_; rotate_left
 ·rintro w' ⟨s0, s1⟩; refine Eq.trans (U0 (.tmp 12) (by rfl) g (b * 6) (by rfl) HB6.out s0) ?_; with_reducible rfl
 rotate_left
 ·simp only [Act.put, zA, zB, zC, Qw, Qx]; rfl
 refine Zy (i := 11) (N := some 17) (v := ?_) (a' := ?_) #[true, true, true, true, true, true, true, true, true, true, true, true, false, false, false, false] rfl rfl (Q4 HT_.out HW_.out (by kernel_rfl)) (fun _ _ _ h => h) (Or.inl ⟨by rfl, ?_⟩) hHeld ?_ ?_; rotate_left
 ·rintro w' ⟨s0, s1⟩; refine Eq.trans (U0 (.tmp 16) (by rfl) g (a * 6) (by rfl) HA6.out s1) ?_; with_reducible rfl
 rotate_left
 ·simp only [Act.put, zA, zB, zC, Qw, Qx]; rfl
 refine QS (i := 12) (N := some 18) (v := ?_) (a' := ?_) #[true, true, true, true, true, true, true, true, true, true, true, true, true, false, false, false] rfl rfl (QI HT_.out (by kernel_rfl)) (fun _ _ _ h => h) (Or.inl ⟨by rfl, ?_⟩) ?_ ?_; rotate_left
 ·intro w'; go_simp; with_reducible rfl
 rotate_left
 ·simp only [Act.put, zA, zB, zC, Qw, Qx]; rfl
 refine last_ (i := 13) (N := none) #[true, true, true, true, true, true, true, true, true, true, true, true, true, true, false, false] rfl rfl (ZL HT_.out (by kernel_rfl)) (by decide) (fun K hK => ?_); refine Uk (w1 := ?_) (by rfl) rfl ?_ ?_; rotate_left
 ·refine Eq.trans (Uj (.tmp 18) (.tmp 13) (by rfl) g (a * 6) (by rfl) (by rfl) HB6.out (HM.out.there ha)) ?_; with_reducible rfl
 refine hK.out _ _ ?_; clear hK K; refine QS (i := 14) (N := some 19) (v := ?_) (a' := ?_) #[true, true, true, true, true, true, true, true, true, true, true, true, true, true, true, false] rfl rfl (QI HT_.out (by kernel_rfl)) (fun _ _ _ h => h) (Or.inl ⟨by rfl, ?_⟩) ?_ ?_; rotate_left
 ·intro w'; go_simp; with_reducible rfl
 rotate_left
 ·simp only [Act.put, zA, zB, zC, Qw, Qx]; rfl
 refine last_ (i := 15) (N := none) #[true, true, true, true, true, true, true, true, true, true, true, true, true, true, true, true] rfl rfl (ZL HT_.out (by kernel_rfl)) (by decide) (fun K hK => ?_); refine Uk (w1 := ?_) (by rfl) rfl ?_ ?_; rotate_left
 ·refine Eq.trans (Uj (.tmp 19) (.tmp 17) (by rfl) g (b * 6) (by rfl) (by rfl) HA6.out (HM1.out.there hb1)) ?_; with_reducible rfl
 refine hK.out _ _ ?_; clear hK K; refine YA (Yf HT_.out (by kernel_rfl)) ?_; first | go_end0 | ((try simp only [Exit.inBlock, Exit.then]); refine bodyPost_ret (results_none rfl _ _ _) rfl ?_)
 exact ⟨rfl, rfl⟩
def Yg.f (l0 : List S76) : Option (List S76) := if l0.length < 1000 then some l0 else none
set_option maxHeartbeats 1000000 in
set_option maxRecDepth 100000 in
theorem Yg.calls (A0 : Option Addr) (c0 : Nat) (l0 : List S76) (r : List S76) (w : World) (hr0 : Kd.C k76 w A0 l0.length l0) (hc0 : l0.length ≤ c0) (h : Yg.f l0 = some r) :
    Calls Try.prog 108 #[.slice A0 l0.length c0] w fun e w' => ∃ v0_ : Value, e = .returned (v0_) ∧ Kd.R k76 76 w' w.heap.size (fun _ => True) v0_ r ∧ Below w.heap.size w w' := by
  unfold Yg.f at h; by_cases hl : l0.length < 1000
  case neg => rw [if_neg hl] at h; cases h
  rw [if_pos hl] at h; obtain rfl := Option.some.inj h; clear h; have HB := aa.mk (Below.refl w.heap.size w); have mI := Try.underlying76; cases A0 with
  | none =>
    obtain rfl : l0 = [] := by
      cases l0 with
      | nil => rfl
      | cons x r => obtain ⟨ad, e, _⟩ := hr0.2.2 (by simp); cases e
    have hnil : ∀ W, (binOp .eql 65 (.slice none 0 c0) (.slice none 0 0)).run Try.prog W = .ok (.bool true) W := fun W => Lib.run_eql_slice_nil W _ _ none 0 c0 0 0 Try.underlying65
    clear hr0 hc0; go_enter Try.func108, Try.ntmps108; go_wp2_with fail
    go_ret; exact ⟨_, rfl, Kd.Yb _ _ _ _ _, HB.out⟩
  | some ad =>
    have hnil : ∀ W, (binOp .eql 65 (.slice (some ad) l0.length c0) (.slice none 0 0)).run Try.prog W = .ok (.bool false) W := fun W => Lib.run_eql_slice_nil W _ _ (some ad) _ c0 0 0 Try.underlying65
    have HR0 := aa.mk hr0; have fm := aa.mk (show ([] : List S76) = ([] : List S76) from rfl); obtain ⟨eE, dU⟩ : ∃ y_ : List S76, y_ = (([] : List S76)) := ⟨_, rfl⟩; obtain ⟨mi, eh⟩ : ∃ y_ : List S76, y_ = (eE ++ l0) := ⟨_, rfl⟩; have HY := aa.mk (show mi = l0 by rw [eh, dU]; rfl); have pP := aa.mk (show eE.length + l0.length < 1000 by rw [dU]; simpa using hl); clear fm; have fm := aa.mk dU; have kO := aa.mk eh; clear hr0 hc0 hl dU eh; go_enter Try.func108, Try.ntmps108; go_wp2_with (first | ((with_reducible refine QD (N := 5) rfl ?_); refine Kd.YP k76 _ 76 ?hg (N := 5) ?hd (xs := ([] : List S76)) (inner := []) (ok := fun _ => True) (okp := fun _ => True) ?hr ?hp (fun _ hk => hk) trivial (Below.refl _ _) (Nat.le_refl _) (by simp) ?_; (case hd => rfl); (case hg => rfl); (case hr => first | (go_simp; done) | (go_simp; rfl)); (case hp => exact (Reps.none _ _)); intro lz w3 ho4 hb hg_ hnew_; clear hg_ hnew_; (first | rw [← fm.out] at ho4 | (simp only [Int.reduceToNat] at ho4; rw [← fm.out] at ho4)); have bJ := aa.mk (Kd.Zk ho4 (Qe (by repeat (first | (with_reducible first | exact HB.out | apply QU | apply QF | apply QL) | exact HB.out)))); replace HB := aa.mk (Qd (by repeat (first | (with_reducible first | exact HB.out | apply QU | apply QF | apply QL) | exact HB.out)) hb); clear hb ho4) | ((with_reducible refine ZM (b := .append) (xs := #[.tmp 5, .tmp 6]) rfl ?_); at_builtin; refine Kd.Yt k76 (Rr := k76.K w) (w0 := w) w.heap.size rfl (.tmp 5) (.tmp 6) 65 76 (.agg #[(.int .i64 0), (.int .i64 0), (.int .i64 0), (.int .i64 0), (.int .i64 0), (.int .i64 0)]) 48 rfl Try.underlying65 info76 rfl (by decide) (by omega) lz eE l0 _ _ _ (fun _ => True) (fun _ => False) rfl rfl ?aO ?aR (fun x cs hK => by rw [Ur hK]; exact V7 _ _ _ x) (fun _ h => h.elim) ?aF ?aB ?aS ?aL ?_; (case aR => exact ReadsRow.imp_ HR0.out HB.out (fun _ _ hp => hp)); (case aB => exact (by repeat (first | (with_reducible first | exact HB.out | apply QU | apply QF | apply QL) | exact HB.out))); (case aF => exact (fun _ _ => trivial)); (case aO => exact (by (with_reducible repeat (first | apply Kd.R_alloc | apply Kd.R_drewN | apply Kd.Zb)); exact bJ.out)); (case aS => exact (Qe (by repeat (first | (with_reducible first | exact HB.out | apply QU | apply QF | apply QL) | exact HB.out)))); (case aL => have := pP.out; omega); intro oR w5 ho hb hg hat; rw [← kO.out] at ho; replace HB := aa.mk (hb); have bV := aa.mk (ho); clear bJ; clear ho hb hg hat))
    go_ret; exact ⟨_, rfl, by rw [← HY.out]; exact bV.out, HB.out⟩
def nzi : List Int → Int
  | [] => -1
  | x :: l => if x ≠ 0 then 0 else if nzi l < 0 then -1 else nzi l + 1
theorem nzi_at : ∀ (l : List Int) (n : Nat) (hn : n < l.length), (∀ k, k < n → l.getD k 0 = 0) → l[n] ≠ 0 → nzi l = n
  | [], n, hn, _, _ => by simp at hn
  | x :: l, 0, hn, _, h0 => by rw [nzi, if_pos (by simpa using h0)]; rfl
  | x :: l, n + 1, hn, h, h0 => by
    have hx := h 0 (by omega); simp only [List.getD_cons_zero] at hx; rw [nzi, if_neg (fun hh => hh hx), nzi_at l n (by simpa using hn) (fun k hk => by have := h (k + 1) (by omega); simpa using this) (by simpa using h0), if_neg (by omega)]; omega
theorem nzi_none : ∀ (l : List Int), (∀ k, k < l.length → l.getD k 0 = 0) → nzi l = -1
  | [], _ => rfl
  | x :: l, h => by
    have hx := h 0 (by simp); simp only [List.getD_cons_zero] at hx; rw [nzi, if_neg (fun hh => hh hx), nzi_none l (fun k hk => by have := h (k + 1) (by simpa using hk); simpa using this)]; rfl
theorem nzi_lt : ∀ (l : List Int), nzi l < l.length
  | [] => by simp [nzi]
  | x :: l => by
    have := nzi_lt l; rw [nzi]; split
    · rw [List.length_cons]; omega
    · split <;> rw [List.length_cons] <;> omega
theorem Un (l : List Int) (n : Nat) (h : n < l.length) : rd l (n : Int) = l[n] := by simp [rd, h]
theorem index_find (l : List Int) (a : Int) (hl : l.length ≤ 1000) : ∀ (d n : Nat), n + d = l.length → ∃ k r, Q5.l0 k l a (l.length : Int) (n : Int) = some r ∧ decide (r ≥ 0) = decide (a ∈ l.drop n) := by
  intro d; induction d with
  | zero =>
    intro n hn; refine ⟨1, -1, ?_, ?_⟩
    · rw [Q5.l0, if_neg (by omega)]
    · rw [List.drop_eq_nil_of_le (by omega)]; simp
  | succ d ih =>
    intro n hn; have hlt : n < l.length := by omega
    by_cases h : a = l[n]
    · refine ⟨1, (n : Int), ?_, ?_⟩
      · rw [Q5.l0, if_pos (by omega), if_pos (by omega), if_pos (by omega), Un l n hlt, if_pos h]
      · have : a ∈ l.drop n := by rw [List.drop_eq_getElem_cons hlt, ← h]; exact List.mem_cons_self ..
        rw [decide_eq_true this, decide_eq_true (by omega)]
    · obtain ⟨k, r, h1, h2⟩ := ih (n + 1) (by omega); refine ⟨k + 1, r, ?_, ?_⟩
      · rw [Q5.l0, if_pos (by omega), if_pos (by omega), if_pos (by omega), Un l n hlt, if_neg h, wrp (by omega) (by omega)]; exact h1
      · rw [h2, List.drop_eq_getElem_cons hlt]; have : a ∈ l[n] :: l.drop (n + 1) ↔ a ∈ l.drop (n + 1) := ⟨fun hh => by rcases List.mem_cons.1 hh with e | e; exact absurd e h; exact e, fun hh => List.mem_cons_of_mem _ hh⟩; exact (decide_eq_decide.2 this).symm
theorem UC (A0 : Option Addr) (c0 : Nat) (l0 : List Int) (a : Int) (w : World) (hr0 : Kd.C (Kd.int .i64) w A0 l0.length l0) (hc0 : l0.length ≤ c0) (hl : l0.length ≤ 1000) :
    Calls Try.prog 116 #[.slice A0 l0.length c0, .int .i64 a] w fun e w' => e = .returned (.bool (decide (a ∈ l0))) ∧ Below w.heap.size w w' := by
  obtain ⟨k, r, h1, h2⟩ := index_find l0 a hl l0.length 0 (by omega); have h : ZU.f k l0 a = some (decide (a ∈ l0)) := by
    unfold ZU.f Q5.f; rw [show Q5.l0 k l0 a (l0.length : Int) 0 = some r from h1, Option.bind_some, h2, List.drop_zero]
  exact (ZU.calls k A0 c0 l0 a _ w hr0 hc0 h).mono fun e w' hh => ⟨hh.1, hh.2.below⟩
set_option maxHeartbeats 1000000 in
set_option maxRecDepth 100000 in
theorem isnz_calls (t : Int) (w : World) : Calls Try.prog 120 #[.int .i64 t] w fun e w' => e = .returned (.bool (t != 0)) ∧ Below w.heap.size w w' := by
  obtain ⟨b, hb⟩ : ∃ b, b = (t != 0) := ⟨_, rfl⟩; go_enter Try.func120, Try.ntmps120; go_wp2_with fail
  go_ret; exact ⟨rfl, Below.refl _ _⟩
set_option maxHeartbeats 2000000 in
set_option maxRecDepth 100000 in
theorem nzi_calls (A0 : Option Addr) (c0 : Nat) (l0 : List Int) (w : World) (hr0 : Kd.C (Kd.int .i64) w A0 l0.length l0) (hc0 : l0.length ≤ c0) (hl : l0.length ≤ 1000) :
    Calls Try.prog 119 #[.slice A0 l0.length c0, .func (.func 120) #[] #[]] w fun e w' => e = .returned (.int .i64 (nzi l0)) ∧ Below w.heap.size w w' := by
  have HR0 := aa.mk hr0; have HC0 := aa.mk hc0; have HL := aa.mk hl; clear hr0 hc0; have HB := aa.mk (Below.refl w.heap.size w); go_enter Try.func119, Try.ntmps119; go_wp2_with fail
  go_loopw [8] (fun i w' => ∃ n : Nat, n ≤ l0.length ∧ i = .int .i64 n ∧ aa (∀ k, k < n → l0.getD k 0 = 0) ∧ aa (Below w.heap.size w w')) (fun i _ => l0.length - (intOf i).toNat)
  case atStart => exact ⟨0, by omega, rfl, ⟨fun q hq => absurd hq (by omega)⟩, by first | exact HB | exact ⟨HB.out.drew⟩⟩
  case round =>
    clear HB; obtain ⟨n, hn, rfl, HA, HB⟩ := hrel; by_cases hlt : n < l0.length
    · have p1 : 0 ≤ (n : Int) := by omega
      have q1 : (n : Int) < (l0.length : Int) := by omega
      obtain ⟨ad1, e1, hx0⟩ := Kd.Zi HR0.out (n : Int) p1 q1; cases e1; replace hx0 := (HB.out.cell (World.block_lt_of_cell? w _ hx0)).trans hx0; rw [Un l0 n hlt] at hx0; simp only [Int.toNat_natCast] at hx0; obtain ⟨x, hx⟩ : ∃ x, x = l0[n] := ⟨_, rfl⟩; rw [← hx] at hx0; have HX := aa.mk hx; have HY := aa.mk (fun W => isnz_calls x W); obtain ⟨b, hb⟩ : ∃ b, b = (x != 0) := ⟨_, rfl⟩; rw [← hb] at HY; have HBB := aa.mk hb; clear hx hb; cases b with
      | true =>
        go_wp2_with (first
          | ((with_reducible refine QD (N := 16) rfl ?_); refine VL (some 16) rfl rfl 11 #[] rfl Try.func120 (by kernel_rfl) rfl rfl #[.int .i64 x] (by (try simp only [List.map_toArray, List.map_cons, List.map_nil]); first | done | rfl) ?_; (with_reducible refine (HY.out _).mono ?_); rintro e w9 ⟨rfl, hb⟩; refine ⟨_, rfl, ?_⟩; replace HB := aa.mk (Qd (by repeat (first | (with_reducible first | exact HB.out | apply QU | apply QF | apply QL) | exact HB.out)) hb); (try clear hb)))
        go_ret; refine ⟨?_, HB.out⟩; have h1 := HBB.out.symm; rw [nzi_at l0 n hlt HA.out (by rw [← HX.out]; simpa using h1)]; rfl
      | false =>
        go_wp2_with (first
          | ((with_reducible refine QD (N := 16) rfl ?_); refine VL (some 16) rfl rfl 11 #[] rfl Try.func120 (by kernel_rfl) rfl rfl #[.int .i64 x] (by (try simp only [List.map_toArray, List.map_cons, List.map_nil]); first | done | rfl) ?_; (with_reducible refine (HY.out _).mono ?_); rintro e w9 ⟨rfl, hb⟩; refine ⟨_, rfl, ?_⟩; replace HB := aa.mk (Qd (by repeat (first | (with_reducible first | exact HB.out | apply QU | apply QF | apply QL) | exact HB.out)) hb); (try clear hb)))
        go_roundw
        case rel =>
          refine ⟨n + 1, by omega, by go_num, ⟨fun k hk => ?_⟩, HB⟩; by_cases hk2 : k < n
          · exact HA.out k hk2
          · obtain rfl : k = n := by omega
            have h1 := HBB.out.symm; have h2 : x = 0 := by simpa using h1
            have h3 : l0.getD k 0 = l0[k] := by rw [List.getD_eq_getElem?_getD, List.getElem?_eq_getElem hlt]; rfl
            exact h3.trans (HX.out.symm.trans h2)
        case measure => simp [intOf]; omega
    · obtain rfl : n = l0.length := by omega
      go_wp2_with fail
      go_ret; exact ⟨by rw [nzi_none l0 HA.out]; rfl, HB.out⟩
def Zx.f (l0 : List Int) : Option (List Int) := if l0.length < 17592186044416 then some l0 else none
set_option maxHeartbeats 1000000 in
set_option maxRecDepth 100000 in
theorem Zx.calls (A0 : Option Addr) (c0 : Nat) (l0 : List Int) (r : List Int) (w : World) (hr0 : Kd.C (Kd.int .i64) w A0 l0.length l0) (hc0 : l0.length ≤ c0) (h : Zx.f l0 = some r) :
    Calls Try.prog 79 #[.slice A0 l0.length c0] w fun e w' => ∃ v0_ : Value, e = .returned (v0_) ∧ Kd.R (Kd.int .i64) 3 w' w.heap.size (fun _ => True) v0_ r ∧ Below w.heap.size w w' := by
  unfold Zx.f at h; by_cases hl : l0.length < 17592186044416
  case neg => rw [if_neg hl] at h; cases h
  rw [if_pos hl] at h; obtain rfl := Option.some.inj h; clear h; have HB := aa.mk (Below.refl w.heap.size w); have hu3 := Try.underlying3; cases A0 with
  | none =>
    obtain rfl : l0 = [] := by
      cases l0 with
      | nil => rfl
      | cons x r => obtain ⟨ad, e, _⟩ := hr0.2.2 (by simp); cases e
    have hnil : ∀ W, (binOp .eql 28 (.slice none 0 c0) (.slice none 0 0)).run Try.prog W = .ok (.bool true) W := fun W => Lib.run_eql_slice_nil W _ _ none 0 c0 0 0 Try.underlying28
    clear hr0 hc0; go_enter Try.func79, Try.ntmps79; go_wp2_with fail
    go_ret; exact ⟨_, rfl, Kd.Yb _ _ _ _ _, HB.out⟩
  | some ad =>
    have hnil : ∀ W, (binOp .eql 28 (.slice (some ad) l0.length c0) (.slice none 0 0)).run Try.prog W = .ok (.bool false) W := fun W => Lib.run_eql_slice_nil W _ _ (some ad) _ c0 0 0 Try.underlying28
    have HR0 := aa.mk hr0; have fm := aa.mk (show ([] : List Int) = ([] : List Int) from rfl); obtain ⟨eE, dU⟩ : ∃ y_ : List Int, y_ = (([] : List Int)) := ⟨_, rfl⟩; obtain ⟨mi, eh⟩ : ∃ y_ : List Int, y_ = (eE ++ l0) := ⟨_, rfl⟩; have HY := aa.mk (show mi = l0 by rw [eh, dU]; rfl); have pP := aa.mk (show eE.length + l0.length < 17592186044416 by rw [dU]; simpa using hl); clear fm; have fm := aa.mk dU; have kO := aa.mk eh; clear hr0 hc0 hl dU eh; go_enter Try.func79, Try.ntmps79; go_wp2_with (first | ((with_reducible refine QD (N := 5) rfl ?_); refine Kd.YP (Kd.int .i64) _ 3 ?hg (N := 5) ?hd (xs := ([] : List Int)) (inner := []) (ok := fun _ => True) (okp := fun _ => True) ?hr ?hp (fun _ hk => hk) trivial (Below.refl _ _) (Nat.le_refl _) (by simp) ?_; (case hd => rfl); (case hg => rfl); (case hr => first | (go_simp; done) | (go_simp; rfl)); (case hp => exact (Reps.none _ _)); intro lz w3 ho4 hb hg_ hnew_; clear hg_ hnew_; (first | rw [← fm.out] at ho4 | (simp only [Int.reduceToNat] at ho4; rw [← fm.out] at ho4)); have bJ := aa.mk (Kd.Zk ho4 (Qe (by repeat (first | (with_reducible first | exact HB.out | apply QU | apply QF | apply QL) | exact HB.out)))); replace HB := aa.mk (Qd (by repeat (first | (with_reducible first | exact HB.out | apply QU | apply QF | apply QL) | exact HB.out)) hb); clear hb ho4) | ((with_reducible refine ZM (b := .append) (xs := #[.tmp 5, .tmp 6]) rfl ?_); at_builtin; refine Kd.Yt (Kd.int .i64) (w0 := w) w.heap.size rfl (.tmp 5) (.tmp 6) 28 3 (.int .i64 0) 8 rfl Try.underlying28 info3 rfl (by decide) (by omega) lz eE l0 _ _ _ (fun _ => True) (fun _ => False) rfl rfl ?aO ?aR (fun _ _ h => h) (fun _ h => h.elim) ?aF ?aB ?aS ?aL ?_; (case aR => repeat (first | exact (Kd.Ql HR0.out HB.out) | (with_reducible refine Kd.C_alloc ?_ _) | (with_reducible refine Kd.ZA ?_ _) | (with_reducible refine Kd.C_drew ?_))); (case aB => exact (by repeat (first | (with_reducible first | exact HB.out | apply QU | apply QF | apply QL) | exact HB.out))); (case aF => exact (fun _ _ => trivial)); (case aO => exact (by (with_reducible repeat (first | apply Kd.R_alloc | apply Kd.R_drewN | apply Kd.Zb)); exact bJ.out)); (case aS => exact (Qe (by repeat (first | (with_reducible first | exact HB.out | apply QU | apply QF | apply QL) | exact HB.out)))); (case aL => have := pP.out; omega); intro oR w5 ho hb hg hat; rw [← kO.out] at ho; replace HB := aa.mk (hb); have bV := aa.mk (ho); clear bJ; clear ho hb hg hat))
    go_ret; exact ⟨_, rfl, by rw [← HY.out]; exact bV.out, HB.out⟩
def some6 (js : List Int) (r : List Int) : List Int := js.map fun j => r.getD j.toNat 0
def colOf (js : List Int) (x : S76) : List Int := pad (some6 js (L6 x))
def Z7.f (l0 : List S76) (l1 : List Int) : Option (List S76) :=
 if 0 < l0.length ∧ l0.length ≤ 1000 ∧ l1.length ≤ 6 ∧ ∀ j ∈ l1, 0 ≤ j ∧ j < 6 then some (l0.map fun x => mk6 (colOf l1 x)) else none
set_option maxHeartbeats 4000000 in
set_option maxRecDepth 100000 in
theorem Z7.calls (A0 : Option Addr) (c0 : Nat) (l0 : List S76) (A1 : Option Addr) (c1 : Nat) (l1 : List Int) (r : List S76) (w : World) (hr0 : Kd.C k76 w A0 l0.length l0) (hc0 : l0.length ≤ c0) (hr1 : Kd.C (Kd.int .i64) w A1 l1.length l1) (hc1 : l1.length ≤ c1) (h : Z7.f l0 l1 = some r) :
  Calls Try.prog 129 #[.slice A0 l0.length c0, .slice A1 l1.length c1] w fun e w' => ∃ v0_ : Value, e = .returned (v0_) ∧ Kd.R k76 76 w' w.heap.size (fun _ => True) v0_ r ∧ Below w.heap.size w w' := by
 unfold Z7.f at h; split at h
 case isFalse => cases h
 rename_i hcond
 obtain ⟨z0, z1, z2, z3⟩ := hcond; obtain rfl := Option.some.inj h; clear h; have mI := Try.underlying76; have pa := Try.underlying65; have sZ := Try.underlying28; have mJ := size76; obtain ⟨n, hn⟩ : ∃ n, n = l0.length := ⟨_, rfl⟩; have HR0 := aa.mk hr0; have HC0 := aa.mk hc0; have HR1 := aa.mk hr1; have HC1 := aa.mk hc1; have HZ3 := aa.mk z3; obtain ⟨ad, eL, hcL⟩ := hr0.2.2 z0; subst eL; have HL := aa.mk hcL; clear hcL hr0 hc0 hr1 hc1 z3; have HB := aa.mk (Below.refl w.heap.size w); go_enter Try.func129, Try.ntmps129; go_wp2_with (first
  | ((with_reducible refine QD (N := 11) rfl ?_); refine Kd.Jt k76 _ 76 rfl (N := 11) rfl 65 _ _ rfl (l0.length : Int) rfl rfl Try.underlying65 (.agg #[(.int .i64 0), (.int .i64 0), (.int .i64 0), (.int .i64 0), (.int .i64 0), (.int .i64 0)]) 48 info76 rfl (by decide) (by omega) z76 (ok := fun _ => True) (okp := fun _ => True) (V7 _ _ _ z76) (fun _ hk => hk) trivial (by omega) (by simp only [Int.toNat_natCast]; omega) (Below.refl _ _) (Nat.le_refl _) ?_; intro v14 w14 ho hb hgr hat; obtain ⟨g, c, hv, hgw, -, hbl, hlc, hcm⟩ := (Bl.of_R ho).resolve_left (fun hh => absurd (congrArg List.length hh.2) (by rw [List.length_replicate, List.length_nil, Int.toNat_natCast]; omega)); rw [List.length_replicate, Int.toNat_natCast] at hv hlc; subst hv; have HBL := aa.mk hbl; have HCM := aa.mk hcm; have HGW := aa.mk hgw; have n0_ := aa.mk (Qd HB.out hb); clear HB hbl hcm hgw; have HB := n0_; clear n0_ ho hb hgr hat))
 have HM := aa.mk (show Made (fun k => colOf l1 (l0.getD k z76)) l0.length 0 (pad []) ((List.replicate (l0.length : Int).toNat z76).map L6) from ⟨by simp, fun q hq => by
  rw [List.map_replicate, Int.toNat_natCast, List.getElem?_replicate, if_pos hq, if_neg (by omega)]; split <;> rfl⟩)
 generalize (List.replicate (l0.length : Int).toNat z76).map L6 = M at HM HBL; go_loopw [14] (fun k_ w' => ∃ (k : Nat) (M : List (List Int)), k ≤ l0.length ∧ k_ = .int .i64 k ∧ aa (Made (fun k => colOf l1 (l0.getD k z76)) l0.length k (pad []) M) ∧ aa (Bl w' g M c) ∧ aa (Below w.heap.size w w')) (fun k_ _ => l0.length - (intOf k_).toNat)
 case atStart => exact ⟨0, M, Nat.zero_le _, rfl, HM, HBL, HB⟩
 case round =>
  clear HM HBL HB M; obtain ⟨k, M, hk, rfl, HM, HBL, HB⟩ := hrel; by_cases hkn : k < l0.length
  ·go_wp2_with fail
   have HM1 := aa.mk (show Made (fun k => colOf l1 (l0.getD k z76)) l0.length k (pad (some6 (l1.take 0) (L6 (l0.getD k z76)))) M from HM.out); clear HM; go_loopw [19] (fun i_ w' => ∃ (i : Nat) (M : List (List Int)), i ≤ l1.length ∧ i_ = .int .i64 i ∧ aa (Made (fun k => colOf l1 (l0.getD k z76)) l0.length k (pad (some6 (l1.take i) (L6 (l0.getD k z76)))) M) ∧ aa (Bl w' g M c) ∧ aa (Below w.heap.size w w')) (fun i_ _ => l1.length - (intOf i_).toNat)
   case atStart => exact ⟨0, M, Nat.zero_le _, rfl, HM1, HBL, HB⟩
   case round =>
    clear HM1 HBL HB M; obtain ⟨i, M, hi, rfl, HM, HBL, HB⟩ := hrel; by_cases hil : i < l1.length
    ·obtain ⟨ad2, e2, hx2⟩ := Kd.Zi HR1.out (i : Int) (by omega) (by omega); subst e2; replace hx2 := (HB.out.cell (World.block_lt_of_cell? w _ hx2)).trans hx2; obtain ⟨x, hxe⟩ : ∃ x, x = rd l1 (i : Int) := ⟨_, rfl⟩; have hxi : x = l1[i] := by rw [hxe]; simp [rd, hil]
     obtain ⟨hx0, hx6⟩ := HZ3.out x (by rw [hxi]; exact List.getElem_mem hil); rw [← hxe] at hx2; obtain ⟨q, rfl⟩ : ∃ q : Nat, x = (q : Int) := ⟨x.toNat, by omega⟩; obtain ⟨cs, _, hK, hcell⟩ := HL.out k l0[k] (List.getElem?_eq_getElem hkn); obtain rfl := Ur hK; have hrd := hcell q (.int .i64 ((L6 l0[k]).getD q 0)) (by
      have h6 : q < 6 := by omega
      match q, h6 with
      | 0, _ => rfl
      | 1, _ => rfl
      | 2, _ => rfl
      | 3, _ => rfl
      | 4, _ => rfl
      | 5, _ => rfl)
     replace hrd := (HB.out.cell (World.block_lt_of_cell? w _ hrd)).trans hrd; obtain ⟨hkM, hrow⟩ := HM.out.at hkn; have hi6 : i < 6 := by omega
     have hf := HBL.out.frozen (k * 6 + i); have hc := HBL.out.cell hkM hi6; generalize M[k].getD i 0 = old at hc; rw [show k76.sz = 6 from rfl, ← Addr.add_add] at hrd; simp only [Int.toNat_natCast] at hx2; generalize hy : (L6 l0[k]).getD q 0 = y at hrd; have hq6 : q < 6 := by omega
     have HXI := aa.mk hxi; have HQ6 := aa.mk hq6; have HKM := aa.mk hkM; have HROW := aa.mk hrow; have HY := aa.mk hy; have Fw : (q : Int) < 6 := by omega
     clear hK hcell hxe hxi hrow hq6 hx0 hx6 hy; go_wp2_with fail
     go_region; go_wp2_with fail
     have HNX := aa.mk (show pad (some6 (l1.take (i + 1)) (L6 (l0.getD k z76))) = M[k].set i y by
      have e1 : l0.getD k z76 = l0[k] := by rw [List.getD_eq_getElem?_getD, List.getElem?_eq_getElem hkn]; rfl
      have hl : (some6 (l1.take i) (L6 l0[k])).length = i := by simp [some6]; omega
      have := Jc (l := some6 (l1.take i) (L6 l0[k])) y (by rw [hl]; exact hi6); rw [hl] at this; rw [HROW.out, e1, this]; unfold some6; rw [List.take_succ_eq_append_getElem hil, List.map_append, List.map_singleton, ← HXI.out, Int.toNat_natCast, HY.out])
     go_roundw
     case rel => exact ⟨i + 1, M.set k (M[k].set i y), by omega, by go_num, ⟨by rw [HNX.out]; exact HM.out.set _⟩, ⟨HBL.out.store HKM.out hi6 y⟩, ⟨(HB.out.setCell HGW.out _).drew⟩⟩
     case measure => simp [intOf]; omega
    ·obtain rfl : i = l1.length := by omega
     have HM3 := aa.mk (show Made (fun k => colOf l1 (l0.getD k z76)) l0.length (k + 1) (pad []) M from (by
      have := HM.out; rw [List.take_length] at this; exact this.next))
     go_wp2_with fail
     go_roundw
     case rel => exact ⟨k + 1, M, by omega, by go_num, HM3, HBL, HB⟩
     case measure => simp [intOf]; omega
  ·obtain rfl : k = l0.length := by omega
   have hall := HM.out.all; go_wp2_with fail
   go_ret; refine ⟨_, rfl, ?_, HB.out⟩; have hR := HBL.out.R (base := w.heap.size) (ok := fun _ => True) (n := l0.length) HGW.out trivial (by rw [HM.out.1]; exact Nat.le_refl _) HCM.out; have he : (List.range l0.length).map (fun k => colOf l1 (l0.getD k z76)) = l0.map (colOf l1) := by
    apply List.ext_getElem?; intro q; by_cases hq : q < l0.length
    ·simp [hq]
    ·rw [List.getElem?_eq_none (by simp; omega), List.getElem?_eq_none (by simp; omega)]
   rw [List.take_of_length_le (by rw [HM.out.1]; exact Nat.le_refl _), hall, he, List.map_map] at hR; exact hR
end Go.Proofs.Ytdneelgnmnpanaa.P
end
section
namespace Go.Proofs.Ytdneelgnmnpanaa.P
open Go.RowKit Go.Proofs.YtdneelgnmnpanaaW.PrintWords
open Go.ChangeShapes Go.WideShapes Go.Deep
theorem addr_zero' (ad : Addr) : ad.add 0 = ad := by
  cases ad; unfold Addr.add; split <;> simp_all
section
variable {H : Type} {enc : TypeId × Value → H} {w : World} {base : Nat} {held : Bool}
theorem C_take {α : Type} {K : Kd α} {a : Option Addr} {L : List α} (n : Nat) (h : Kd.C K w a L.length L) : Kd.C K w a (L.take n).length (L.take n) := by
  refine ⟨rfl, ?_, fun hn => ?_⟩
  · have := h.2.1; simp; omega
  · obtain ⟨ad, e, hc⟩ := h.2.2 (by simp at hn; omega); refine ⟨ad, e, fun j p hj => ?_⟩; rw [List.getElem?_take] at hj; split at hj
    · exact hc j p hj
    · cases hj
theorem open_row {fuel : Nat} {v : Value} {x : DataW H × List MemPlace} (h : DataW.trod enc Try.prog w base (fun _ => true) held fuel 28 [v] = some x) (hw : ∀ n ∈ x.1.weights Try.prog 28, n ≤ reachBytes) :
    ∃ a n q, v = .slice a n (q : List Int).length ∧ n ≤ q.length ∧ Kd.C (Kd.int .i64) w a q.length q ∧ q.length * 8 ≤ reachBytes := by
  rcases open_ints Try.underlying28 Try.underlying3 (by kernel_rfl) h with ⟨hcs, _⟩ | ⟨x0, l, c, zs, hcs, _, hl, hm, hz, hx, hcell, hwf⟩
  · simp at hcs; subst hcs; exact ⟨none, 0, [], rfl, Nat.le_refl _, ⟨rfl, by simp, fun h => absurd h (by simp)⟩, Nat.zero_le _⟩
  · simp at hcs; subst hcs; simp only [if_true] at hz; refine ⟨some x0, l, zs, by rw [hz], by omega, Kd.UL (d := (0 : Int)) (h1 := fun _ => rfl) ⟨rfl, by unfold maxLen at hm; omega, fun _ => ⟨x0, rfl, fun j hj => hcell j (by omega)⟩⟩, ?_⟩; subst hx; have hu : Try.prog.underlying 28 = some (.slice 3) := Try.underlying28; have hB : Try.prog.bytesOf 3 = 8 := by kernel_rfl
    have := hw (zs.length * 8) (by
      simp only [DataW.weights, hu, hB]; refine List.mem_cons.2 (.inl ?_); simp [lits]; omega)
    exact this
theorem YO {P : Program} {e : TypeId} {n : Nat} : ∀ {ds : List (DataW H)} {d : DataW H}, d ∈ ds → n ∈ d.weights P e → n ∈ DataW.weightsAll P e ds
  | d0 :: ds, d, hd, hn => by
    rw [DataW.weightsAll]; rcases List.mem_cons.1 hd with rfl | hd
    · exact List.mem_append_left _ hn
    · exact List.mem_append_right _ (YO hd hn)
theorem VC {fuel : Nat} {v : Value} {x : DataW H × List MemPlace} (h : DataW.trod enc Try.prog w base (fun _ => true) held fuel 22 [v] = some x) (hw : ∀ n ∈ x.1.weights Try.prog 22, n ≤ reachBytes) :
    ∃ (a : Option Addr) (L Q : List (List Int)), v = .slice a L.length Q.length ∧ Kd.C (Kd.slice 3 (Kd.int .i64)) w a L.length L ∧ L.length ≤ Q.length ∧ Kd.C Full.kd w a Q.length Q ∧ Q.length * 24 ≤ reachBytes ∧ ∀ q ∈ Q, q.length * 8 ≤ reachBytes := by
  have hu : Try.prog.underlying 22 = some (.slice 28) := Try.underlying22; rcases open_slice hu h with ⟨hcs, _⟩ | ⟨x0, l, c, m, n, D, Pl, hcs, _, hl, hm, hmm, hx, hi⟩
  · simp at hcs; subst hcs; exact ⟨none, [], [], rfl, ⟨rfl, by simp, fun h => absurd h (by simp)⟩, Nat.le_refl _, ⟨rfl, by simp, fun h => absurd h (by simp)⟩, Nat.zero_le _, by simp⟩
  · simp at hcs; subst hcs; simp only [if_true] at hmm; subst hmm; have hB : Try.prog.bytesOf 28 = 24 := by kernel_rfl
    have hC : Try.prog.cellsOf 28 = 1 := by kernel_rfl
    have hD : ∀ i, i < m → ∀ k ∈ (D i).weights Try.prog 28, k ≤ reachBytes := by
      intro i him k hk; refine hw k ?_; rw [hx]; simp only [DataW.weights, hu]; refine List.mem_cons_of_mem _ ?_; by_cases hil : i < l
      · exact List.mem_append_left _ (YO (d := D i) (List.mem_map.2 ⟨i, List.mem_range.2 hil, rfl⟩) hk)
      · exact List.mem_append_right _ (YO (d := D i) (List.mem_map.2 ⟨i - l, List.mem_range.2 (by omega), by rw [show l + (i - l) = i by omega]⟩) hk)
    have hrow : ∀ i, i < m → ∃ (y : Option Addr × Nat × List Int), w.cell? (x0.add i) = some (.slice y.1 y.2.1 y.2.2.length) ∧ y.2.1 ≤ y.2.2.length ∧ Kd.C (Kd.int .i64) w y.1 y.2.2.length y.2.2 ∧ y.2.2.length * 8 ≤ reachBytes := by
      intro i him; obtain ⟨cs', hc, ht'⟩ := hi i him; rw [hC] at hc; obtain ⟨_, hcl, hat⟩ := World.cells?_some hc; match cs', hcl with
      | [u], _ =>
        obtain ⟨a, n1, q, rfl, h1, h2, h3⟩ := open_row ht' (hD i him); have := hat 0 (by omega); rw [Nat.mul_one, addr_zero'] at this; exact ⟨(a, n1, q), this, h1, h2, h3⟩
    obtain ⟨f, hf⟩ : ∃ f : Nat → Option Addr × Nat × List Int, ∀ i, i < m → w.cell? (x0.add i) = some (.slice (f i).1 (f i).2.1 (f i).2.2.length) ∧ (f i).2.1 ≤ (f i).2.2.length ∧ Kd.C (Kd.int .i64) w (f i).1 (f i).2.2.length (f i).2.2 ∧ (f i).2.2.length * 8 ≤ reachBytes := by
      refine ⟨fun i => if h : i < m then (hrow i h).choose else (none, 0, []), fun i hi => ?_⟩; simp only [hi, dif_pos]; exact (hrow i hi).choose_spec
    refine ⟨some x0, (List.range l).map fun i => (f i).2.2.take (f i).2.1, (List.range m).map fun i => (f i).2.2, by simp, ⟨rfl, by simp; unfold maxLen at hm; omega, fun _ => ⟨x0, rfl, fun j p hj => ?_⟩⟩, by simpa using hl, ⟨rfl, by simp; unfold maxLen at hm; omega, fun _ => ⟨x0, rfl, fun j p hj => ?_⟩⟩, ?_, fun q hq => ?_⟩
    · obtain ⟨hjm, hp⟩ := List.getElem?_eq_some_iff.1 hj; simp at hjm hp; obtain ⟨h1, h2, h3, _⟩ := hf j (by omega); subst hp; have hlen : ((f j).2.2.take (f j).2.1).length = (f j).2.1 := by simp; omega
      refine ⟨[.slice (f j).1 (f j).2.1 (f j).2.2.length], rfl, ⟨(f j).1, (f j).2.2.length, by rw [hlen], by rw [hlen]; exact h2, C_take _ h3⟩, fun i u hu => ?_⟩; have hi0 : i = 0 := by
        have := (List.getElem?_eq_some_iff.1 hu).1; simp at this; omega
      subst hi0; show w.cell? (x0.add (j * 1 + 0)) = some u
      rw [Nat.mul_one, Nat.add_zero, h1]; exact hu
    · obtain ⟨hjm, hp⟩ := List.getElem?_eq_some_iff.1 hj; simp at hjm hp; obtain ⟨h1, h2, h3, _⟩ := hf j hjm; subst hp; refine ⟨[.slice (f j).1 (f j).2.1 (f j).2.2.length], rfl, ⟨(f j).1, (f j).2.1, rfl, h2, h3⟩, fun i u hu => ?_⟩; have hi0 : i = 0 := by
        have := (List.getElem?_eq_some_iff.1 hu).1; simp at this; omega
      subst hi0; show w.cell? (x0.add (j * 1 + 0)) = some u
      rw [Nat.mul_one, Nat.add_zero, h1]; exact hu
    · have := hw (m * 24) (by
        rw [hx]; simp only [DataW.weights, hu, hB]; refine List.mem_cons.2 (.inl ?_); simp; omega)
      simpa using this
    · obtain ⟨i, hi2, rfl⟩ := List.mem_map.1 hq; exact (hf i (List.mem_range.1 hi2)).2.2.2
theorem w24 {y0 y1 : DataW H} {n : Nat} (h : n ∈ y0.weights Try.prog 22 ∨ n ∈ y1.weights Try.prog 22) : n ∈ (DataW.agg [y0, y1]).weights Try.prog 24 := by
  have hu := Try.underlying24; simp only [DataW.weights, hu, List.map_cons, List.map_nil, DataW.weightsEach, List.append_nil, List.mem_append]; exact h
theorem w30 {y0 y1 y2 : DataW H} {n : Nat} (h : n ∈ y0.weights Try.prog 28 ∨ n ∈ y1.weights Try.prog 28) : n ∈ (DataW.agg [y0, y1, y2]).weights Try.prog 30 := by
  have hu := Try.underlying30; simp only [DataW.weights, hu, List.map_cons, List.map_nil, DataW.weightsEach, List.append_nil, List.mem_append]; rcases h with h | h
  · exact .inl h
  · exact .inr (.inl h)
theorem Vz {ts : List TypeId} {ds : List (DataW H)} {j : Nat} {t : TypeId} {d : DataW H} (hsz : (DataW.weightsEach Try.prog ts ds).all (· ≤ reachBytes) = true) (ht : ts[j]? = some t) (hd : ds[j]? = some d) : ∀ n ∈ d.weights Try.prog t, n ≤ reachBytes := fun n hn => by
  have := List.all_eq_true.1 hsz n (DataW.weights_mem_each ht hd n hn); simpa using this
end
end Go.Proofs.Ytdneelgnmnpanaa.P
end
section
namespace Go.Proofs.Ytdneelgnmnpanaa.P
open Go.RowKit Go.Proofs.YtdneelgnmnpanaaW.PrintWords Go.Proofs.YtdneelgnmnpanaaW.PrintLast Go.Proofs.YtdneelgnmnpanaaW.PrintMore
attribute [local go_sem] max2_int min2_int max_two min_two max_three min_three max_four min_four
mutual
def Qm.j0 : Nat → Bool → List (List Int) → List (List Int) → Option (Int)
 | 0, _, _, _ => none
 | k + 1, x25, aE, aG => if x25 = true then (some 1) else ((Zf.f aE aG).bind fun t106 => (Qm.l0 k t106 (t106.length : Int) 0 aE aG))
def Qm.l0 : Nat → List (List Int) → Int → Int → List (List Int) → List (List Int) → Option (Int)
 | 0, _, _, _, _, _ => none
 | k + 1, x31, x32, x33, aE, aG => if x33 < x32 then (if 0 ≤ x33 then (if x33 < (x31.length : Int) then (if 0 < (aE.length : Int) then ((Zh.f (Qt x31 x33) ((Qt aE 0).length : Int) 0 9).bind fun t111 => (if t111 = true then ((Qv.f k (Qt x31 x33)).bind fun t112 => (if t112 = 0 then (some 1) else (Qm.l0 k x31 x32 (wrap64 (x33 + 1)) aE aG))) else (some 1))) else (none)) else (none)) else (none)) else (some 0)
end
def Qm.f (k : Nat) (ae : List (List Int)) (ag : List (List Int)) : Option (Int) := (Zc.f (ae.length : Int) 1 3).bind fun t102 => (if t102 = true then ((Zc.f (ag.length : Int) 1 3).bind fun t103 => (if t103 = true then (if 0 < (ae.length : Int) then ((Zc.f ((Qt ae 0).length : Int) 1 4).bind fun t105 => (Qm.j0 k (!t105) ae ag)) else (none)) else (Qm.j0 k true ae ag))) else (Qm.j0 k true ae ag))
theorem Qm.Z8 : ∀ k, (∀ y0 y1 y2, LeO (Qm.j0 k y0 y1 y2) (Qm.j0 (k + 1) y0 y1 y2)) ∧ (∀ y0 y1 y2 y3 y4, LeO (Qm.l0 k y0 y1 y2 y3 y4) (Qm.l0 (k + 1) y0 y1 y2 y3 y4))
 | 0 => ⟨fun _ _ _ r h => by simp [Qm.j0] at h, fun _ _ _ _ _ r h => by simp [Qm.l0] at h⟩
 | k + 1 => by
  obtain ⟨ih0, ih1⟩ := Qm.Z8 k; refine ⟨?_, ?_⟩ <;> intros <;> (first | unfold Qm.j0 | unfold Qm.l0) <;> repeat' first | (with_reducible exact ih0 _ _ _) | (with_reducible exact ih1 _ _ _ _ _) | (with_reducible exact Qv.mono _ _) | (with_reducible exact LeO.refl _) | (with_reducible exact LeO.none _) | (with_reducible refine LeO.ite ?_ ?_) | (with_reducible refine LeO.bind ?_ (fun _ => ?_)) | exact ih0 _ _ _ | exact ih1 _ _ _ _ _ | exact Qv.mono _ _ | exact LeO.none _ | refine LeO.ite ?_ ?_ | refine LeO.bind ?_ (fun _ => ?_)
theorem Qm.mono : ∀ a0 a1 k, LeO (Qm.f k a0 a1) (Qm.f (k + 1) a0 a1) := by
 intro a0 a1 k; obtain ⟨ih0, ih1⟩ := Qm.Z8 k; unfold Qm.f; repeat' first | (with_reducible exact ih0 _ _ _) | (with_reducible exact ih1 _ _ _ _ _) | (with_reducible exact Qv.mono _ _) | (with_reducible exact LeO.refl _) | (with_reducible exact LeO.none _) | (with_reducible refine LeO.ite ?_ ?_) | (with_reducible refine LeO.bind ?_ (fun _ => ?_)) | exact ih0 _ _ _ | exact ih1 _ _ _ _ _ | exact Qv.mono _ _ | exact LeO.none _ | refine LeO.ite ?_ ?_ | refine LeO.bind ?_ (fun _ => ?_)
set_option maxHeartbeats 8000000 in
set_option maxRecDepth 100000 in
theorem Qm.calls (k : Nat) (aq : Option Addr) (an : Nat) (ae : List (List Int)) (ak : Option Addr) (ao : Nat) (ag : List (List Int)) (r : Int) (w : World) (bp : Kd.C (Kd.slice 3 (Kd.int .i64)) w aq ae.length ae) (br : ae.length ≤ an) (bo : Kd.C (Kd.slice 3 (Kd.int .i64)) w ak ag.length ag) (bq : ag.length ≤ ao) (h : Qm.f k ae ag = some r) :
  Calls Try.prog 38 #[.agg #[.slice aq ae.length an, .slice ak ag.length ao]] w fun e w' => e = .returned (.int .i64 r) ∧ Below w.heap.size w w' := by
 have fa := Try.underlying24; have aI := aa.mk bp; have aQ := aa.mk br; clear bp br; have aW := aa.mk bo; have aT := aa.mk bq; clear bo bq; have HB := aa.mk (Below.refl w.heap.size w); have H : ((Zc.f (ae.length : Int) 1 3).bind fun t102 => (if t102 = true then ((Zc.f (ag.length : Int) 1 3).bind fun t103 => (if t103 = true then (if 0 < (ae.length : Int) then ((Zc.f ((Qt ae 0).length : Int) 1 4).bind fun t105 => (Qm.j0 k (!t105) ae ag)) else (none)) else (Qm.j0 k true ae ag))) else (Qm.j0 k true ae ag))) = some r := h; clear h; have HC2 := aa.mk H; clear H; go_enter Try.func38, Try.ntmps38; go_upto_region 1 with (first | ((with_reducible refine QD (N := 1) rfl ?_); (try (refine Q8 (by rfl) ?_; dsimp only)); refine QJ ?hg (N := 1) ?hd (cs := #[.slice aq ae.length an, .slice ak ag.length ao]) (t := 24) ?hr ?_; (case hd => rfl); (case hg => rfl); (case hr => first | (go_simp; done) | (go_simp; rfl)); intro af hg w3 hbox hb; have ab := aa.mk (hbox); have bA := aa.mk ((by rw [hg]; exact (Qe bB) : w.heap.size ≤ af)); have bk := aa.mk ((by rw [hg]; exact (Qe bB) : w.heap.size ≤ af)); replace HB := aa.mk (Qd bB hb); clear hb hbox hg))
 (try simp only [Act.put, zA, zB, zC])
 go_cut [25] (fun v25 wc => ∃ (kq : Nat) (cy : Bool), v25 = .bool cy ∧ aa (Qm.j0 kq cy ae ag = some r) ∧ aa (kq ≤ k) ∧ aa (wc.heap[af]? = some (.cells #[(.slice aq ae.length an), (.slice ak ag.length ao)] 24 (0, 0))) ∧ aa (Below w.heap.size w wc))
 case first =>
  have H := HC2.out; clear HC2; replace H := Option.bind_eq_some_iff.mp H; obtain ⟨t102, A40, H⟩ := H; replace H : (if t102 = true then ((Zc.f (ag.length : Int) 1 3).bind fun t103 => (if t103 = true then (if 0 < (ae.length : Int) then ((Zc.f ((Qt ae 0).length : Int) 1 4).bind fun t105 => (Qm.j0 k (!t105) ae ag)) else (none)) else (Qm.j0 k true ae ag))) else (Qm.j0 k true ae ag)) = some r := H; have A4 := aa.mk A40; clear A40; by_cases c5 : t102 = true
  ·subst c5; have H1 : ((Zc.f (ag.length : Int) 1 3).bind fun t103 => (if t103 = true then (if 0 < (ae.length : Int) then ((Zc.f ((Qt ae 0).length : Int) 1 4).bind fun t105 => (Qm.j0 k (!t105) ae ag)) else (none)) else (Qm.j0 k true ae ag))) = some r := by rw [if_pos rfl] at H; exact H
   clear H; have H := H1; clear H1; replace H := Option.bind_eq_some_iff.mp H; obtain ⟨t103, A60, H⟩ := H; replace H : (if t103 = true then (if 0 < (ae.length : Int) then ((Zc.f ((Qt ae 0).length : Int) 1 4).bind fun t105 => (Qm.j0 k (!t105) ae ag)) else (none)) else (Qm.j0 k true ae ag)) = some r := H; have A6 := aa.mk A60; clear A60; by_cases c7 : t103 = true
   ·subst c7; have H1 : (if 0 < (ae.length : Int) then ((Zc.f ((Qt ae 0).length : Int) 1 4).bind fun t105 => (Qm.j0 k (!t105) ae ag)) else (none)) = some r := by rw [if_pos rfl] at H; exact H
    clear H; have H := H1; clear H1; by_cases c8 : 0 < (ae.length : Int)
    ·rw [if_pos c8] at H; have eQ : decide (0 < (ae.length : Int)) = true := decide_eq_true c8; have jT : decide (0 < ae.length) = true := decide_eq_true (by omega); clear c8; (first | rw [eQ] | (simp only [Qw, Qx]; rw [eQ]) | skip)
     replace H := Option.bind_eq_some_iff.mp H; obtain ⟨t105, A90, H⟩ := H; replace H : (Qm.j0 k (!t105) ae ag) = some r := H; have A9 := aa.mk A90; clear A90; have H' := aa.mk H; clear H; have fP : w3.cell? ⟨af, 0, none⟩ = some (.slice aq ae.length an) := (Qa ab.out 0).trans rfl; have fO : w3.cell? ⟨af, 1, none⟩ = some (.slice ak ag.length ao) := (Qa ab.out 1).trans rfl; have fJ := Qb ab.out 0; have fI := Qb ab.out 1; go_wp2_with (first | ((with_reducible refine Qk (f := 75) rfl ?_); refine QE (some 8) rfl rfl Try.func75 (by kernel_rfl) rfl #[.int .i64 (ae.length : Int), .int .i64 1, .int .i64 3] rfl hA ?_; (with_reducible refine (Zc.calls (ae.length : Int) 1 3 true _ A4.out).mono ?_); rintro e w' ⟨rfl, ⟨nd, rfl⟩⟩; refine ⟨_, rfl, ?_⟩) | (go_at_call 75; (with_reducible refine (Zc.calls (ag.length : Int) 1 3 true _ A6.out).mono ?_); rintro e w' ⟨rfl, ⟨nd, rfl⟩⟩; have fq : 0 ≤ (0 : Int) := (by omega); have fp : 0 < (ae.length : Int) := of_decide_eq_true (by assumption); obtain ⟨pK, p4, pI, nn, b0, fA, fD⟩ := ZH aI.out 0 fq fp; cases nn; have ui : (0 < ae.length) = True := eq_true (by omega); (try rw [show ((0 : Int)).toNat = 0 from rfl] at b0); (try rw [Addr.add_zero'] at b0); replace b0 := (HB.out.cell (World.block_lt_of_cell? w _ b0)).trans b0; have l5 := aa.mk fD; have oM := aa.mk fA; clear fD fA; replace fq := eq_true fq; replace fp := eq_true fp) | (go_at_call 75; (with_reducible refine (Zc.calls ((Qt ae 0).length : Int) 1 4 t105 _ A9.out).mono ?_); rintro e w' ⟨rfl, ⟨nd, rfl⟩⟩))
     go_meet
     case rel => exact ⟨_, (!t105), (by first | rfl | (simp; done) | (simp [*]; done)), H', ⟨by first | omega | exact Nat.le_refl _⟩, ⟨by (with_reducible repeat (first | refine Qg ?_ _ | refine Qh ?_ | refine Qf ?_ _)); exact ab.out⟩, ⟨bB⟩⟩
    ·rw [if_neg c8] at H; exact absurd H (by simp)
   ·replace c7 := Bool.eq_false_iff.mpr c7; subst c7; have H1 : (Qm.j0 k true ae ag) = some r := by rw [if_neg (show ¬ (false = true) by decide)] at H; exact H
    clear H; have H := H1; clear H1; have H' := aa.mk H; clear H; have dN : w3.cell? ⟨af, 0, none⟩ = some (.slice aq ae.length an) := (Qa ab.out 0).trans rfl; have dM : w3.cell? ⟨af, 1, none⟩ = some (.slice ak ag.length ao) := (Qa ab.out 1).trans rfl; have dL := Qb ab.out 0; have dK := Qb ab.out 1; go_wp2_with (first | ((with_reducible refine Qk (f := 75) rfl ?_); refine QE (some 8) rfl rfl Try.func75 (by kernel_rfl) rfl #[.int .i64 (ae.length : Int), .int .i64 1, .int .i64 3] rfl hA ?_; (with_reducible refine (Zc.calls (ae.length : Int) 1 3 true _ A4.out).mono ?_); rintro e w' ⟨rfl, ⟨nd, rfl⟩⟩; refine ⟨_, rfl, ?_⟩) | (go_at_call 75; (with_reducible refine (Zc.calls (ag.length : Int) 1 3 false _ A6.out).mono ?_); rintro e w' ⟨rfl, ⟨nd, rfl⟩⟩))
    go_meet
    case rel => exact ⟨_, (true), (by first | rfl | (simp; done) | (simp [*]; done)), H', ⟨by first | omega | exact Nat.le_refl _⟩, ⟨by (with_reducible repeat (first | refine Qg ?_ _ | refine Qh ?_ | refine Qf ?_ _)); exact ab.out⟩, ⟨bB⟩⟩
  ·replace c5 := Bool.eq_false_iff.mpr c5; subst c5; have H1 : (Qm.j0 k true ae ag) = some r := by rw [if_neg (show ¬ (false = true) by decide)] at H; exact H
   clear H; have H := H1; clear H1; have H' := aa.mk H; clear H; have fN : w3.cell? ⟨af, 0, none⟩ = some (.slice aq ae.length an) := (Qa ab.out 0).trans rfl; have fM : w3.cell? ⟨af, 1, none⟩ = some (.slice ak ag.length ao) := (Qa ab.out 1).trans rfl; have fH := Qb ab.out 0; have fG := Qb ab.out 1; go_wp2_with (first | ((with_reducible refine Qk (f := 75) rfl ?_); refine QE (some 8) rfl rfl Try.func75 (by kernel_rfl) rfl #[.int .i64 (ae.length : Int), .int .i64 1, .int .i64 3] rfl hA ?_; (with_reducible refine (Zc.calls (ae.length : Int) 1 3 false _ A4.out).mono ?_); rintro e w' ⟨rfl, ⟨nd, rfl⟩⟩; refine ⟨_, rfl, ?_⟩))
   go_meet
   case rel => exact ⟨_, (true), (by first | rfl | (simp; done) | (simp [*]; done)), H', ⟨by first | omega | exact Nat.le_refl _⟩, ⟨by (with_reducible repeat (first | refine Qg ?_ _ | refine Qh ?_ | refine Qf ?_ _)); exact ab.out⟩, ⟨bB⟩⟩
 case rest =>
  clear HC2; try clear c1
  try clear p1
  try clear q1
  try clear hx1
  try clear qi1
  try clear p2
  try clear c3
  try clear c5
  try clear c7
  try clear c8
  try clear eQ
  try clear jT
  try clear c10
  try clear p10
  try clear q10
  try clear iO
  try clear lf
  try clear fP
  try clear fO
  try clear dN
  try clear dM
  try clear fN
  try clear fM
  try clear fJ
  try clear fI
  try clear dL
  try clear dK
  try clear fH
  try clear fG
  try clear b0
  try clear fq
  try clear fp
  obtain ⟨kq, cy, rfl, HA, HJ1, ab, HB⟩ := hcut; cases kq with
  | zero => exact absurd HA.out (by simp [Qm.j0])
  | succ kj1 =>
   have H := HA.out; clear HA; simp only [Qm.j0] at H; by_cases c13 : cy = true
   ·subst c13; have H1 : (some 1) = some r := by rw [if_pos rfl] at H; exact H
    clear H; have H := H1; clear H1; obtain rfl := Option.some.inj H; go_wp2; go_ret; exact ⟨by first | rfl | (simp [Qo, Qn] <;> rfl) | (simp [*, Qo, Qn] <;> rfl), bB⟩
   ·replace c13 := Bool.eq_false_iff.mpr c13; subst c13; have H1 : ((Zf.f ae ag).bind fun t106 => (Qm.l0 kj1 t106 (t106.length : Int) 0 ae ag)) = some r := by rw [if_neg (show ¬ (false = true) by decide)] at H; exact H
    clear H; have H := H1; clear H1; replace H := Option.bind_eq_some_iff.mp H; obtain ⟨t106, yv, H⟩ := H; replace H : (Qm.l0 kj1 t106 (t106.length : Int) 0 ae ag) = some r := H; have A14 := aa.mk yv; clear yv; have H' := aa.mk H; clear H; have fL : wc.cell? ⟨af, 0, none⟩ = some (.slice aq ae.length an) := (Qa ab.out 0).trans rfl; have fK : wc.cell? ⟨af, 1, none⟩ = some (.slice ak ag.length ao) := (Qa ab.out 1).trans rfl; have fF := Qb ab.out 0; have fE := Qb ab.out 1; go_wp2_with (first | ((with_reducible refine QD (N := 30) rfl ?_); refine Two.build ?hg (N := 30) ?hd (v0 := .slice aq ae.length an) (v1 := .slice ak ag.length ao) ?hr ?_; (case hd => rfl); (case hg => rfl); (case hr => first | (go_simp; done) | (go_simp; rfl)); intro gq hgq wq hqb hqbel; replace HB := aa.mk (Qd bB hqbel); replace ab := aa.mk (Qc ab.out hqbel); have BQ := aa.mk hqb; clear hqb hqbel hgq) | ((with_reducible refine Qk (f := 76) rfl ?_); refine QE (some 31) rfl rfl Try.func76 (by kernel_rfl) rfl #[.slice (some ⟨gq, 0, none⟩) 2 2] rfl hA ?_; (with_reducible refine (Zf.calls (fun k_ => k_ < w.heap.size) _ _ ae (fun k_ => k_ < w.heap.size) _ _ ag t106 _ _ BQ.out ?aj ?ai A14.out).mono ?_); (case aj => exact Kd.V_mk aQ.out (Kd.Z5 (Kd.C_F (Kd.ZG 3 (Kd.Z1 .i64)) aI.out) bB)); (case ai => exact Kd.V_mk aT.out (Kd.Z5 (Kd.C_F (Kd.ZG 3 (Kd.Z1 .i64)) aW.out) bB)); rintro e w16 ⟨ku, rfl, ho0, hb⟩; refine ⟨_, rfl, ?_⟩; have bg := aa.mk (Kd.ZY (Kd.QZ (ok' := fun k_ => k_ ≠ af) ho0 (fun k_ hk_ => Or.elim hk_ (fun hs_ => Or.elim hs_ (fun hs_ => fun e_ => Nat.not_le.2 hs_ (by rw [e_]; exact bA.out)) (fun hs_ => fun e_ => Nat.not_le.2 hs_ (by rw [e_]; exact bA.out))) (fun hn_ => (Kd.freshB (g := af) (o := .cells #[.slice aq ae.length an, .slice ak ag.length ao] 24 (0, 0)) (by (with_reducible repeat (first | refine Qg ?_ _ | refine Qh ?_ | refine Qf ?_ _)); exact ab.out) k_ hn_)))) (Qe bB)); replace ab := aa.mk (Qc ab.out hb); replace HB := aa.mk (Qd bB hb); (try clear hb); (try clear hb2); (try clear hk); (try clear hi); (try clear ho0); obtain ⟨DJ, Dp, Dd⟩ := Kd.ZS bg.out; subst Dd))
    go_loopg [33] kj1 (fun kq v33 w' => ∃ (bj : Int), v33 = .int .i64 bj ∧ aa (Qm.l0 kq t106 (t106.length : Int) bj ae ag = some r) ∧ aa (kq ≤ kj1) ∧ aa (Kd.N (Kd.slice 3 (Kd.int .i64)) 28 w' w.heap.size (fun k_ => k_ ≠ af) (.slice DJ t106.length Dp) t106) ∧ aa (w'.heap[af]? = some (.cells #[(.slice aq ae.length an), (.slice ak ag.length ao)] 24 (0, 0))) ∧ aa (Below w.heap.size w w'))
    case atStart => exact ⟨(0), (by first | rfl | (simp; done) | (simp [*]; done)), H', ⟨Nat.le_refl _⟩, ⟨by (with_reducible repeat (first | apply Kd.N_alloc | apply Kd.Ze | apply Kd.Zn)); exact bg.out⟩, ⟨by (with_reducible repeat (first | refine Qg ?_ _ | refine Qh ?_ | refine Qf ?_ _)); exact ab.out⟩, ⟨bB⟩⟩
    case round =>
     clear H'; try clear c1
     try clear p1
     try clear q1
     try clear hx1
     try clear qi1
     try clear p2
     try clear c3
     try clear c5
     try clear c7
     try clear c8
     try clear eQ
     try clear jT
     try clear c10
     try clear p10
     try clear q10
     try clear iO
     try clear lf
     try clear c13
     try clear fP
     try clear fO
     try clear dN
     try clear dM
     try clear fN
     try clear fM
     try clear fL
     try clear fK
     try clear fJ
     try clear fI
     try clear dL
     try clear dK
     try clear fH
     try clear fG
     try clear fF
     try clear fE
     try clear b0
     try clear p1
     try clear p10
     try clear fq
     try clear p2
     try clear q1
     try clear q10
     try clear fp
     obtain ⟨bj, rfl, HA, HK2, dg, ab, HB⟩ := hrel; cases gk with
     | zero => exact absurd HA.out (by simp [Qm.l0])
     | succ k2 =>
      have H := HA.out; clear HA; simp only [Qm.l0] at H; by_cases c18 : bj < (t106.length : Int)
      ·rw [if_pos c18] at H; have mN : decide (bj < (t106.length : Int)) = true := decide_eq_true c18; clear c18; by_cases c19 : 0 ≤ bj
       ·rw [if_pos c19] at H; have jh : decide (0 ≤ bj) = true := decide_eq_true c19; clear c19; by_cases c20 : bj < (t106.length : Int)
        ·rw [if_pos c20] at H; have mM : decide (bj < (t106.length : Int)) = true := decide_eq_true c20; clear c20; by_cases c21 : 0 < (ae.length : Int)
         ·rw [if_pos c21] at H; have kK : decide (0 < (ae.length : Int)) = true := decide_eq_true c21; have EY : decide (0 < ae.length) = true := decide_eq_true (by omega); clear c21; replace H := Option.bind_eq_some_iff.mp H; obtain ⟨t111, pX, H⟩ := H; replace H : (if t111 = true then ((Qv.f k2 (Qt t106 bj)).bind fun t112 => (if t112 = 0 then (some 1) else (Qm.l0 k2 t106 (t106.length : Int) (wrap64 (bj + 1)) ae ag))) else (some 1)) = some r := H; have A22 := aa.mk pX; clear pX; by_cases c23 : t111 = true
          ·subst c23; have H1 : ((Qv.f k2 (Qt t106 bj)).bind fun t112 => (if t112 = 0 then (some 1) else (Qm.l0 k2 t106 (t106.length : Int) (wrap64 (bj + 1)) ae ag))) = some r := by rw [if_pos rfl] at H; exact H
           clear H; have H := H1; clear H1; replace H := Option.bind_eq_some_iff.mp H; obtain ⟨t112, pW, H⟩ := H; replace H : (if t112 = 0 then (some 1) else (Qm.l0 k2 t106 (t106.length : Int) (wrap64 (bj + 1)) ae ag)) = some r := H; have A24 := aa.mk pW; clear pW; by_cases c25 : t112 = 0
           ·rw [if_pos c25] at H; have xA : (t112 == 0) = true := beq_iff_eq.mpr c25; have xz : (t112 != 0) = false := bne_eq_false_iff_eq.mpr c25; clear c25; obtain rfl := Option.some.inj H; have iM : 0 ≤ (bj : Int) := of_decide_eq_true (by assumption); have iK : bj < (t106.length : Int) := of_decide_eq_true (by assumption); obtain ⟨sB, k5, kM, pA, iN, fz, fC⟩ := ZH (Kd.QN dg.out).2.2 bj iM iK; cases pA; obtain ⟨sn, kB, kF, gX⟩ := Kd.YY dg.out [] bj iM (by first | exact iK | exact of_decide_eq_true (by assumption) | (have e_ := (Kd.QN dg.out).1; omega)); obtain ⟨nH, nG, rfl, eg, eA⟩ := Kd.Zu kF; have dy := gX 0 _ rfl; rw [Nat.add_zero, show ((Kd.slice 3 (Kd.int .i64))).sz = 1 from rfl, Nat.mul_one] at dy; replace dy := Option.some.inj (dy.symm.trans iN); injection dy with hva_ hvn_ hvc_
            rw [hva_] at eA; rw [hvc_] at eg; have eb := aa.mk (show Kd.V (Kd.int .i64) 3 _ w.heap.size _ _ (Qt t106 bj) from Kd.V_mk eg eA); clear hva_ hvn_ hvc_ eA eg; clear gX kB; have bK := aa.mk fC; have gA := aa.mk fz; clear fC fz; replace iM := eq_true iM; replace iK := eq_true iK; have lP : wr.cell? ⟨af, 0, none⟩ = some (.slice aq ae.length an) := (Qa ab.out 0).trans rfl; have lO : wr.cell? ⟨af, 1, none⟩ = some (.slice ak ag.length ao) := (Qa ab.out 1).trans rfl; have lN := Qb ab.out 0; have lM := Qb ab.out 1; have gG : 0 ≤ (0 : Int) := (by omega); have gF : 0 < (ae.length : Int) := of_decide_eq_true (by assumption); obtain ⟨oF, ny, nt, nm, bW, ek, ev⟩ := ZH aI.out 0 gG gF; cases nm; have rR : (0 < ae.length) = True := eq_true (by omega); (try rw [show ((0 : Int)).toNat = 0 from rfl] at bW)
            (try rw [Addr.add_zero'] at bW)
            replace bW := (HB.out.cell (World.block_lt_of_cell? w _ bW)).trans bW; have km := aa.mk ev; have mb := aa.mk ek; clear ev ek; replace gG := eq_true gG; replace gF := eq_true gF; go_wp2_with (first | ((with_reducible refine Qk (f := 77) rfl ?_); refine QE (some 43) rfl rfl Try.func77 (by kernel_rfl) rfl #[.slice k5 (Qt t106 bj).length kM, .int .i64 ((Qt ae 0).length : Int), .int .i64 0, .int .i64 9] rfl hA ?_; (with_reducible refine (Zh.calls _ _ (Qt t106 bj) ((Qt ae 0).length : Int) 0 9 true _ ?aj ?ai A22.out).mono ?_); (case aj => repeat (first | exact (by repeat (first | (with_reducible exact bK.out) | (with_reducible refine Kd.C_alloc ?_ _) | (with_reducible refine Kd.ZA ?_ _) | (with_reducible refine Kd.C_drew ?_) | exact bK.out)) | (with_reducible refine Kd.C_alloc ?_ _) | (with_reducible refine Kd.ZA ?_ _) | (with_reducible refine Kd.C_drew ?_))); (case ai => exact gA.out); rintro e w27 ⟨rfl, hb⟩; refine ⟨_, rfl, ?_⟩; replace dg := aa.mk (Kd.QA dg.out hb); replace eb := aa.mk (Kd.Y5 eb.out hb); replace ab := aa.mk (Qc ab.out hb); replace bK := aa.mk (Kd.Ql (by repeat (first | (with_reducible exact bK.out) | (with_reducible refine Kd.C_alloc ?_ _) | (with_reducible refine Kd.ZA ?_ _) | (with_reducible refine Kd.C_drew ?_) | exact bK.out)) hb); replace HB := aa.mk (Qd bB hb); (try clear hb); (try clear hb2); (try clear hk); (try clear hi)) | (go_at_call 78; (with_reducible refine (Qv.calls k2 _ _ (Qt t106 bj) t112 _ ?aj ?ai A24.out).mono ?_); (case aj => repeat (first | exact (by repeat (first | (with_reducible exact bK.out) | (with_reducible refine Kd.C_alloc ?_ _) | (with_reducible refine Kd.ZA ?_ _) | (with_reducible refine Kd.C_drew ?_) | exact bK.out)) | (with_reducible refine Kd.C_alloc ?_ _) | (with_reducible refine Kd.ZA ?_ _) | (with_reducible refine Kd.C_drew ?_))); (case ai => exact gA.out); rintro e w28 ⟨rfl, hb⟩; replace dg := aa.mk (Kd.QA dg.out hb); replace eb := aa.mk (Kd.Y5 eb.out hb); replace ab := aa.mk (Qc ab.out hb); replace bK := aa.mk (Kd.Ql (by repeat (first | (with_reducible exact bK.out) | (with_reducible refine Kd.C_alloc ?_ _) | (with_reducible refine Kd.ZA ?_ _) | (with_reducible refine Kd.C_drew ?_) | exact bK.out)) hb); replace HB := aa.mk (Qd bB hb); (try clear hb); (try clear hb2); (try clear hk); (try clear hi)))
            go_ret; exact ⟨by first | rfl | (simp [Qo, Qn] <;> rfl) | (simp [*, Qo, Qn] <;> rfl), bB⟩
           ·rw [if_neg c25] at H; have xA : (t112 == 0) = false := beq_eq_false_iff_ne.mpr c25; have xz : (t112 != 0) = true := bne_iff_ne.mpr c25; have H' := aa.mk H; clear H; have iM : 0 ≤ (bj : Int) := of_decide_eq_true (by assumption); have iK : bj < (t106.length : Int) := of_decide_eq_true (by assumption); obtain ⟨sB, k5, kM, pA, iN, fz, fC⟩ := ZH (Kd.QN dg.out).2.2 bj iM iK; cases pA; obtain ⟨sn, kB, kF, gX⟩ := Kd.YY dg.out [] bj iM (by first | exact iK | exact of_decide_eq_true (by assumption) | (have e_ := (Kd.QN dg.out).1; omega)); obtain ⟨nH, nG, rfl, eg, eA⟩ := Kd.Zu kF; have dy := gX 0 _ rfl; rw [Nat.add_zero, show ((Kd.slice 3 (Kd.int .i64))).sz = 1 from rfl, Nat.mul_one] at dy; replace dy := Option.some.inj (dy.symm.trans iN); injection dy with hva_ hvn_ hvc_
            rw [hva_] at eA; rw [hvc_] at eg; have eb := aa.mk (show Kd.V (Kd.int .i64) 3 _ w.heap.size _ _ (Qt t106 bj) from Kd.V_mk eg eA); clear hva_ hvn_ hvc_ eA eg; clear gX kB; have bK := aa.mk fC; have gA := aa.mk fz; clear fC fz; replace iM := eq_true iM; replace iK := eq_true iK; have ru : wr.cell? ⟨af, 0, none⟩ = some (.slice aq ae.length an) := (Qa ab.out 0).trans rfl; have rr : wr.cell? ⟨af, 1, none⟩ = some (.slice ak ag.length ao) := (Qa ab.out 1).trans rfl; have qT := Qb ab.out 0; have qS := Qb ab.out 1; have gG : 0 ≤ (0 : Int) := (by omega); have gF : 0 < (ae.length : Int) := of_decide_eq_true (by assumption); obtain ⟨oF, ny, nt, nm, bW, ek, ev⟩ := ZH aI.out 0 gG gF; cases nm; have rR : (0 < ae.length) = True := eq_true (by omega); (try rw [show ((0 : Int)).toNat = 0 from rfl] at bW)
            (try rw [Addr.add_zero'] at bW)
            replace bW := (HB.out.cell (World.block_lt_of_cell? w _ bW)).trans bW; have km := aa.mk ev; have mb := aa.mk ek; clear ev ek; replace gG := eq_true gG; replace gF := eq_true gF; go_wp2_with (first | ((with_reducible refine Qk (f := 77) rfl ?_); refine QE (some 43) rfl rfl Try.func77 (by kernel_rfl) rfl #[.slice k5 (Qt t106 bj).length kM, .int .i64 ((Qt ae 0).length : Int), .int .i64 0, .int .i64 9] rfl hA ?_; (with_reducible refine (Zh.calls _ _ (Qt t106 bj) ((Qt ae 0).length : Int) 0 9 true _ ?aj ?ai A22.out).mono ?_); (case aj => repeat (first | exact (by repeat (first | (with_reducible exact bK.out) | (with_reducible refine Kd.C_alloc ?_ _) | (with_reducible refine Kd.ZA ?_ _) | (with_reducible refine Kd.C_drew ?_) | exact bK.out)) | (with_reducible refine Kd.C_alloc ?_ _) | (with_reducible refine Kd.ZA ?_ _) | (with_reducible refine Kd.C_drew ?_))); (case ai => exact gA.out); rintro e w30 ⟨rfl, hb⟩; refine ⟨_, rfl, ?_⟩; replace dg := aa.mk (Kd.QA dg.out hb); replace eb := aa.mk (Kd.Y5 eb.out hb); replace ab := aa.mk (Qc ab.out hb); replace bK := aa.mk (Kd.Ql (by repeat (first | (with_reducible exact bK.out) | (with_reducible refine Kd.C_alloc ?_ _) | (with_reducible refine Kd.ZA ?_ _) | (with_reducible refine Kd.C_drew ?_) | exact bK.out)) hb); replace HB := aa.mk (Qd bB hb); (try clear hb); (try clear hb2); (try clear hk); (try clear hi)) | (go_at_call 78; (with_reducible refine (Qv.calls k2 _ _ (Qt t106 bj) t112 _ ?aj ?ai A24.out).mono ?_); (case aj => repeat (first | exact (by repeat (first | (with_reducible exact bK.out) | (with_reducible refine Kd.C_alloc ?_ _) | (with_reducible refine Kd.ZA ?_ _) | (with_reducible refine Kd.C_drew ?_) | exact bK.out)) | (with_reducible refine Kd.C_alloc ?_ _) | (with_reducible refine Kd.ZA ?_ _) | (with_reducible refine Kd.C_drew ?_))); (case ai => exact gA.out); rintro e w31 ⟨rfl, hb⟩; replace dg := aa.mk (Kd.QA dg.out hb); replace eb := aa.mk (Kd.Y5 eb.out hb); replace ab := aa.mk (Qc ab.out hb); replace bK := aa.mk (Kd.Ql (by repeat (first | (with_reducible exact bK.out) | (with_reducible refine Kd.C_alloc ?_ _) | (with_reducible refine Kd.ZA ?_ _) | (with_reducible refine Kd.C_drew ?_) | exact bK.out)) hb); replace HB := aa.mk (Qd bB hb); (try clear hb); (try clear hb2); (try clear hk); (try clear hi)))
            go_roundg k2
            case measure => have := HJ1.out; have := HK2.out; omega
            case rel => exact ⟨(wrap64 (bj + 1)), (by first | rfl | (simp; done) | (simp [*]; done)), H', ⟨by have := HJ1.out; have := HK2.out; omega⟩, ⟨by (with_reducible repeat (first | apply Kd.N_alloc | apply Kd.Ze | apply Kd.Zn)); exact dg.out⟩, ⟨by (with_reducible repeat (first | refine Qg ?_ _ | refine Qh ?_ | refine Qf ?_ _)); exact ab.out⟩, ⟨bB⟩⟩
          ·replace c23 := Bool.eq_false_iff.mpr c23; subst c23; have H1 : (some 1) = some r := by rw [if_neg (show ¬ (false = true) by decide)] at H; exact H
           clear H; have H := H1; clear H1; obtain rfl := Option.some.inj H; have iM : 0 ≤ (bj : Int) := of_decide_eq_true (by assumption); have iK : bj < (t106.length : Int) := of_decide_eq_true (by assumption); obtain ⟨sB, k5, kM, pA, iN, fz, fC⟩ := ZH (Kd.QN dg.out).2.2 bj iM iK; cases pA; obtain ⟨sn, kB, kF, gX⟩ := Kd.YY dg.out [] bj iM (by first | exact iK | exact of_decide_eq_true (by assumption) | (have e_ := (Kd.QN dg.out).1; omega)); obtain ⟨nH, nG, rfl, eg, eA⟩ := Kd.Zu kF; have dy := gX 0 _ rfl; rw [Nat.add_zero, show ((Kd.slice 3 (Kd.int .i64))).sz = 1 from rfl, Nat.mul_one] at dy; replace dy := Option.some.inj (dy.symm.trans iN); injection dy with hva_ hvn_ hvc_
           rw [hva_] at eA; rw [hvc_] at eg; have eb := aa.mk (show Kd.V (Kd.int .i64) 3 _ w.heap.size _ _ (Qt t106 bj) from Kd.V_mk eg eA); clear hva_ hvn_ hvc_ eA eg; clear gX kB; have bK := aa.mk fC; have gA := aa.mk fz; clear fC fz; replace iM := eq_true iM; replace iK := eq_true iK; have jb : wr.cell? ⟨af, 0, none⟩ = some (.slice aq ae.length an) := (Qa ab.out 0).trans rfl; have ja : wr.cell? ⟨af, 1, none⟩ = some (.slice ak ag.length ao) := (Qa ab.out 1).trans rfl; have iV := Qb ab.out 0; have iU := Qb ab.out 1; have gG : 0 ≤ (0 : Int) := (by omega); have gF : 0 < (ae.length : Int) := of_decide_eq_true (by assumption); obtain ⟨oF, ny, nt, nm, bW, ek, ev⟩ := ZH aI.out 0 gG gF; cases nm; have rR : (0 < ae.length) = True := eq_true (by omega); (try rw [show ((0 : Int)).toNat = 0 from rfl] at bW)
           (try rw [Addr.add_zero'] at bW)
           replace bW := (HB.out.cell (World.block_lt_of_cell? w _ bW)).trans bW; have km := aa.mk ev; have mb := aa.mk ek; clear ev ek; replace gG := eq_true gG; replace gF := eq_true gF; go_wp2_with (first | ((with_reducible refine Qk (f := 77) rfl ?_); refine QE (some 43) rfl rfl Try.func77 (by kernel_rfl) rfl #[.slice k5 (Qt t106 bj).length kM, .int .i64 ((Qt ae 0).length : Int), .int .i64 0, .int .i64 9] rfl hA ?_; (with_reducible refine (Zh.calls _ _ (Qt t106 bj) ((Qt ae 0).length : Int) 0 9 false _ ?aj ?ai A22.out).mono ?_); (case aj => repeat (first | exact (by repeat (first | (with_reducible exact bK.out) | (with_reducible refine Kd.C_alloc ?_ _) | (with_reducible refine Kd.ZA ?_ _) | (with_reducible refine Kd.C_drew ?_) | exact bK.out)) | (with_reducible refine Kd.C_alloc ?_ _) | (with_reducible refine Kd.ZA ?_ _) | (with_reducible refine Kd.C_drew ?_))); (case ai => exact gA.out); rintro e w33 ⟨rfl, hb⟩; refine ⟨_, rfl, ?_⟩; replace dg := aa.mk (Kd.QA dg.out hb); replace eb := aa.mk (Kd.Y5 eb.out hb); replace ab := aa.mk (Qc ab.out hb); replace bK := aa.mk (Kd.Ql (by repeat (first | (with_reducible exact bK.out) | (with_reducible refine Kd.C_alloc ?_ _) | (with_reducible refine Kd.ZA ?_ _) | (with_reducible refine Kd.C_drew ?_) | exact bK.out)) hb); replace HB := aa.mk (Qd bB hb); (try clear hb); (try clear hb2); (try clear hk); (try clear hi)))
           go_ret; exact ⟨by first | rfl | (simp [Qo, Qn] <;> rfl) | (simp [*, Qo, Qn] <;> rfl), bB⟩
         ·rw [if_neg c21] at H; exact absurd H (by simp)
        ·rw [if_neg c20] at H; exact absurd H (by simp)
       ·rw [if_neg c19] at H; exact absurd H (by simp)
      ·rw [if_neg c18] at H; have mN : decide (bj < (t106.length : Int)) = false := decide_eq_false c18; clear c18; obtain rfl := Option.some.inj H; go_wp2; go_ret; exact ⟨by first | rfl | (simp [Qo, Qn] <;> rfl) | (simp [*, Qo, Qn] <;> rfl), bB⟩
def ZF.f (k : Nat) (ae : List (List Int)) (ag : List (List Int)) (l1 : List Int) : Option (Int) := (Qm.f k ae ag).bind fun t102 => (if t102 = 0 then ((QV.f ae ag).bind fun t103 => ((Zh.f l1 t103 (-1000000) 1000000).bind fun t104 => (if t104 = true then (some 0) else (some 1)))) else (some t102))
theorem ZF.mono : ∀ a0 a1 a2 k, LeO (ZF.f k a0 a1 a2) (ZF.f (k + 1) a0 a1 a2) := by
 intro a0 a1 a2 k; unfold ZF.f; repeat' first | (with_reducible exact Qm.mono _ _ _) | (with_reducible exact LeO.refl _) | (with_reducible exact LeO.none _) | (with_reducible refine LeO.ite ?_ ?_) | (with_reducible refine LeO.bind ?_ (fun _ => ?_)) | exact Qm.mono _ _ _ | exact LeO.none _ | refine LeO.ite ?_ ?_ | refine LeO.bind ?_ (fun _ => ?_)
set_option maxHeartbeats 8000000 in
set_option maxRecDepth 100000 in
theorem ZF.calls (k : Nat) (aq : Option Addr) (an : Nat) (ae : List (List Int)) (ak : Option Addr) (ao : Nat) (ag : List (List Int)) (A1 : Option Addr) (c1 : Nat) (l1 : List Int) (r : Int) (w : World) (bp : Kd.C (Kd.slice 3 (Kd.int .i64)) w aq ae.length ae) (br : ae.length ≤ an) (bo : Kd.C (Kd.slice 3 (Kd.int .i64)) w ak ag.length ag) (bq : ag.length ≤ ao) (hr1 : Kd.C (Kd.int .i64) w A1 l1.length l1) (hc1 : l1.length ≤ c1) (h : ZF.f k ae ag l1 = some r) :
  Calls Try.prog 87 #[.agg #[.slice aq ae.length an, .slice ak ag.length ao], .slice A1 l1.length c1] w fun e w' => e = .returned (.int .i64 r) ∧ Below w.heap.size w w' := by
 have fa := Try.underlying24; have aI := aa.mk bp; have aQ := aa.mk br; clear bp br; have aW := aa.mk bo; have aT := aa.mk bq; clear bo bq; have HR1 := aa.mk hr1; have HC1 := aa.mk hc1; clear hr1 hc1; have HB := aa.mk (Below.refl w.heap.size w); have H : ((Qm.f k ae ag).bind fun t102 => (if t102 = 0 then ((QV.f ae ag).bind fun t103 => ((Zh.f l1 t103 (-1000000) 1000000).bind fun t104 => (if t104 = true then (some 0) else (some 1)))) else (some t102))) = some r := h; clear h; replace H := Option.bind_eq_some_iff.mp H; obtain ⟨t102, A30, H⟩ := H; replace H : (if t102 = 0 then ((QV.f ae ag).bind fun t103 => ((Zh.f l1 t103 (-1000000) 1000000).bind fun t104 => (if t104 = true then (some 0) else (some 1)))) else (some t102)) = some r := H; have A3 := aa.mk A30; clear A30; by_cases c4 : t102 = 0
 ·rw [if_pos c4] at H; have cn : (t102 == 0) = true := beq_iff_eq.mpr c4; have eC : (t102 != 0) = false := bne_eq_false_iff_eq.mpr c4; clear c4; replace H := Option.bind_eq_some_iff.mp H; obtain ⟨t103, A50, H⟩ := H; replace H : ((Zh.f l1 t103 (-1000000) 1000000).bind fun t104 => (if t104 = true then (some 0) else (some 1))) = some r := H; have A5 := aa.mk A50; clear A50; replace H := Option.bind_eq_some_iff.mp H; obtain ⟨t104, A60, H⟩ := H; replace H : (if t104 = true then (some 0) else (some 1)) = some r := H; have A6 := aa.mk A60; clear A60; by_cases c7 : t104 = true
  ·subst c7; have H1 : (some 0) = some r := by rw [if_pos rfl] at H; exact H
   clear H; have H := H1; clear H1; obtain rfl := Option.some.inj H; go_enter Try.func87, Try.ntmps87; go_wp2_with (first | ((with_reducible refine QD (N := 2) rfl ?_); refine QJ ?hg (N := 2) ?hd (cs := #[.slice aq ae.length an, .slice ak ag.length ao]) (t := 24) ?hr ?_; (case hd => rfl); (case hg => rfl); (case hr => first | (go_simp; done) | (go_simp; rfl)); intro af hg w8 hbox hb; have ab := aa.mk (hbox); have bA := aa.mk ((by rw [hg]; exact (Qe bB) : w.heap.size ≤ af)); have bk := aa.mk ((by rw [hg]; exact (Qe bB) : w.heap.size ≤ af)); replace HB := aa.mk (Qd bB hb); clear hb hbox hg; have kA : w8.cell? ⟨af, 0, none⟩ = some (.slice aq ae.length an) := (Qa ab.out 0).trans rfl; have kz : w8.cell? ⟨af, 1, none⟩ = some (.slice ak ag.length ao) := (Qa ab.out 1).trans rfl; have ky := Qb ab.out 0; have kx := Qb ab.out 1) | ((with_reducible refine Qk (f := 38) rfl ?_); refine QE (some 7) rfl rfl Try.func38 (by kernel_rfl) rfl #[.agg #[.slice aq ae.length an, .slice ak ag.length ao]] rfl hA ?_; (with_reducible refine (Qm.calls k _ _ ae _ _ ag t102 _ ?aj ?ai ?au ?ar A3.out).mono ?_); (case aj => exact (Kd.Ql aI.out HB.out)); (case ai => exact aQ.out); (case au => exact (Kd.Ql aW.out HB.out)); (case ar => exact aT.out); rintro e w10 ⟨rfl, hb⟩; refine ⟨_, rfl, ?_⟩; replace ab := aa.mk (Qc ab.out hb); replace HB := aa.mk (Qd bB hb); (try clear hb); (try clear hb2); (try clear hk); (try clear hi); have dN : w10.cell? ⟨af, 0, none⟩ = some (.slice aq ae.length an) := (Qa ab.out 0).trans rfl; have dM : w10.cell? ⟨af, 1, none⟩ = some (.slice ak ag.length ao) := (Qa ab.out 1).trans rfl; have dL := Qb ab.out 0; have dK := Qb ab.out 1) | ((with_reducible refine Qk (f := 71) rfl ?_); refine QE (some 13) rfl rfl Try.func71 (by kernel_rfl) rfl #[.agg #[.slice aq ae.length an, .slice ak ag.length ao]] rfl hA ?_; (with_reducible refine (QV.calls _ _ ae _ _ ag t103 _ ?aj ?ai ?au ?ar A5.out).mono ?_); (case aj => exact (Kd.Ql aI.out HB.out)); (case ai => exact aQ.out); (case au => exact (Kd.Ql aW.out HB.out)); (case ar => exact aT.out); rintro e w12 ⟨rfl, hb⟩; refine ⟨_, rfl, ?_⟩; replace ab := aa.mk (Qc ab.out hb); replace HB := aa.mk (Qd bB hb); (try clear hb); (try clear hb2); (try clear hk); (try clear hi)) | ((with_reducible refine Qk (f := 77) rfl ?_); refine QE (some 14) rfl rfl Try.func77 (by kernel_rfl) rfl #[.slice A1 l1.length c1, .int .i64 t103, .int .i64 (-1000000), .int .i64 1000000] rfl hA ?_; (with_reducible refine (Zh.calls _ _ l1 t103 (-1000000) 1000000 true _ ?aj ?ai A6.out).mono ?_); (case aj => exact (Kd.Ql HR1.out HB.out)); (case ai => exact HC1.out); rintro e w13 ⟨rfl, hb⟩; refine ⟨_, rfl, ?_⟩; replace ab := aa.mk (Qc ab.out hb); replace HB := aa.mk (Qd bB hb); (try clear hb); (try clear hb2); (try clear hk); (try clear hi)))
   go_ret; exact ⟨by first | rfl | (simp [Qo, Qn] <;> rfl) | (simp [*, Qo, Qn] <;> rfl), bB⟩
  ·replace c7 := Bool.eq_false_iff.mpr c7; subst c7; have H1 : (some 1) = some r := by rw [if_neg (show ¬ (false = true) by decide)] at H; exact H
   clear H; have H := H1; clear H1; obtain rfl := Option.some.inj H; go_enter Try.func87, Try.ntmps87; go_wp2_with (first | ((with_reducible refine QD (N := 2) rfl ?_); refine QJ ?hg (N := 2) ?hd (cs := #[.slice aq ae.length an, .slice ak ag.length ao]) (t := 24) ?hr ?_; (case hd => rfl); (case hg => rfl); (case hr => first | (go_simp; done) | (go_simp; rfl)); intro af hg w14 hbox hb; have ab := aa.mk (hbox); have bA := aa.mk ((by rw [hg]; exact (Qe bB) : w.heap.size ≤ af)); have bk := aa.mk ((by rw [hg]; exact (Qe bB) : w.heap.size ≤ af)); replace HB := aa.mk (Qd bB hb); clear hb hbox hg; have fL : w14.cell? ⟨af, 0, none⟩ = some (.slice aq ae.length an) := (Qa ab.out 0).trans rfl; have fK : w14.cell? ⟨af, 1, none⟩ = some (.slice ak ag.length ao) := (Qa ab.out 1).trans rfl; have fF := Qb ab.out 0; have fE := Qb ab.out 1) | ((with_reducible refine Qk (f := 38) rfl ?_); refine QE (some 7) rfl rfl Try.func38 (by kernel_rfl) rfl #[.agg #[.slice aq ae.length an, .slice ak ag.length ao]] rfl hA ?_; (with_reducible refine (Qm.calls k _ _ ae _ _ ag t102 _ ?aj ?ai ?au ?ar A3.out).mono ?_); (case aj => exact (Kd.Ql aI.out HB.out)); (case ai => exact aQ.out); (case au => exact (Kd.Ql aW.out HB.out)); (case ar => exact aT.out); rintro e w16 ⟨rfl, hb⟩; refine ⟨_, rfl, ?_⟩; replace ab := aa.mk (Qc ab.out hb); replace HB := aa.mk (Qd bB hb); (try clear hb); (try clear hb2); (try clear hk); (try clear hi); have kj : w16.cell? ⟨af, 0, none⟩ = some (.slice aq ae.length an) := (Qa ab.out 0).trans rfl; have ki : w16.cell? ⟨af, 1, none⟩ = some (.slice ak ag.length ao) := (Qa ab.out 1).trans rfl; have ka := Qb ab.out 0; have j9 := Qb ab.out 1) | ((with_reducible refine Qk (f := 71) rfl ?_); refine QE (some 13) rfl rfl Try.func71 (by kernel_rfl) rfl #[.agg #[.slice aq ae.length an, .slice ak ag.length ao]] rfl hA ?_; (with_reducible refine (QV.calls _ _ ae _ _ ag t103 _ ?aj ?ai ?au ?ar A5.out).mono ?_); (case aj => exact (Kd.Ql aI.out HB.out)); (case ai => exact aQ.out); (case au => exact (Kd.Ql aW.out HB.out)); (case ar => exact aT.out); rintro e w18 ⟨rfl, hb⟩; refine ⟨_, rfl, ?_⟩; replace ab := aa.mk (Qc ab.out hb); replace HB := aa.mk (Qd bB hb); (try clear hb); (try clear hb2); (try clear hk); (try clear hi)) | ((with_reducible refine Qk (f := 77) rfl ?_); refine QE (some 14) rfl rfl Try.func77 (by kernel_rfl) rfl #[.slice A1 l1.length c1, .int .i64 t103, .int .i64 (-1000000), .int .i64 1000000] rfl hA ?_; (with_reducible refine (Zh.calls _ _ l1 t103 (-1000000) 1000000 false _ ?aj ?ai A6.out).mono ?_); (case aj => exact (Kd.Ql HR1.out HB.out)); (case ai => exact HC1.out); rintro e w19 ⟨rfl, hb⟩; refine ⟨_, rfl, ?_⟩; replace ab := aa.mk (Qc ab.out hb); replace HB := aa.mk (Qd bB hb); (try clear hb); (try clear hb2); (try clear hk); (try clear hi)))
   go_ret; exact ⟨by first | rfl | (simp [Qo, Qn] <;> rfl) | (simp [*, Qo, Qn] <;> rfl), bB⟩
 ·rw [if_neg c4] at H; have cn : (t102 == 0) = false := beq_eq_false_iff_ne.mpr c4; have eC : (t102 != 0) = true := bne_iff_ne.mpr c4; obtain rfl := Option.some.inj H; go_enter Try.func87, Try.ntmps87; go_wp2_with (first | ((with_reducible refine QD (N := 2) rfl ?_); refine QJ ?hg (N := 2) ?hd (cs := #[.slice aq ae.length an, .slice ak ag.length ao]) (t := 24) ?hr ?_; (case hd => rfl); (case hg => rfl); (case hr => first | (go_simp; done) | (go_simp; rfl)); intro af hg w20 hbox hb; have ab := aa.mk (hbox); have bA := aa.mk ((by rw [hg]; exact (Qe bB) : w.heap.size ≤ af)); have bk := aa.mk ((by rw [hg]; exact (Qe bB) : w.heap.size ≤ af)); replace HB := aa.mk (Qd bB hb); clear hb hbox hg; have kh : w20.cell? ⟨af, 0, none⟩ = some (.slice aq ae.length an) := (Qa ab.out 0).trans rfl; have kg : w20.cell? ⟨af, 1, none⟩ = some (.slice ak ag.length ao) := (Qa ab.out 1).trans rfl; have j8 := Qb ab.out 0; have j7 := Qb ab.out 1) | ((with_reducible refine Qk (f := 38) rfl ?_); refine QE (some 7) rfl rfl Try.func38 (by kernel_rfl) rfl #[.agg #[.slice aq ae.length an, .slice ak ag.length ao]] rfl hA ?_; (with_reducible refine (Qm.calls k _ _ ae _ _ ag t102 _ ?aj ?ai ?au ?ar A3.out).mono ?_); (case aj => exact (Kd.Ql aI.out HB.out)); (case ai => exact aQ.out); (case au => exact (Kd.Ql aW.out HB.out)); (case ar => exact aT.out); rintro e w22 ⟨rfl, hb⟩; refine ⟨_, rfl, ?_⟩; replace ab := aa.mk (Qc ab.out hb); replace HB := aa.mk (Qd bB hb); (try clear hb); (try clear hb2); (try clear hk); (try clear hi)))
  go_ret; exact ⟨by first | rfl | (simp [Qo, Qn] <;> rfl) | (simp [*, Qo, Qn] <;> rfl), bB⟩
mutual
def QX.l0 : Nat → List Int → List Int → List (List Int) → Int → Int → Option (List Int)
 | 0, _, _, _, _, _ => none
 | k + 1, x1, x5, x16, x17, x18 => if x18 < x17 then (if 0 ≤ x18 then (if x18 < (x16.length : Int) then (QX.l1 k x1 x5 0 x16 x17 x18 (Qt x16 x18) ((Qt x16 x18).length : Int) 0) else (none)) else (none)) else (some x5)
def QX.l1 : Nat → List Int → List Int → Int → List (List Int) → Int → Int → List Int → Int → Int → Option (List Int)
 | 0, _, _, _, _, _, _, _, _, _ => none
 | k + 1, x1, x5, x8, x16, x17, x18, x22, x23, x24 => if x24 < x23 then (if 0 ≤ x24 then (if x24 < (x22.length : Int) then (if x24 < (x1.length : Int) then (QX.l1 k x1 x5 (wrap64 (x8 + (wrap64 ((rd x22 x24) * (rd x1 x24))))) x16 x17 x18 x22 x23 (wrap64 (x24 + 1))) else (none)) else (none)) else (none)) else (if x5.length < 17592186044416 then (QX.l0 k x1 (x5 ++ [x8]) x16 x17 (wrap64 (x18 + 1))) else (none))
end
def QX.f (k : Nat) (ae : List (List Int)) (ag : List (List Int)) (l1 : List Int) : Option (List Int) := (Zf.f ae ag).bind fun t102 => (QX.l0 k l1 ([] : List Int) t102 (t102.length : Int) 0)
theorem QX.Z8 : ∀ k, (∀ y0 y1 y2 y3 y4, LeO (QX.l0 k y0 y1 y2 y3 y4) (QX.l0 (k + 1) y0 y1 y2 y3 y4)) ∧ (∀ y0 y1 y2 y3 y4 y5 y6 y7 y8, LeO (QX.l1 k y0 y1 y2 y3 y4 y5 y6 y7 y8) (QX.l1 (k + 1) y0 y1 y2 y3 y4 y5 y6 y7 y8))
 | 0 => ⟨fun _ _ _ _ _ r h => by simp [QX.l0] at h, fun _ _ _ _ _ _ _ _ _ r h => by simp [QX.l1] at h⟩
 | k + 1 => by
  obtain ⟨ih0, ih1⟩ := QX.Z8 k; refine ⟨?_, ?_⟩ <;> intros <;> (first | unfold QX.l0 | unfold QX.l1) <;> repeat' first | (with_reducible exact ih0 _ _ _ _ _) | (with_reducible exact ih1 _ _ _ _ _ _ _ _ _) | (with_reducible exact LeO.refl _) | (with_reducible exact LeO.none _) | (with_reducible refine LeO.ite ?_ ?_) | (with_reducible refine LeO.bind ?_ (fun _ => ?_)) | exact ih0 _ _ _ _ _ | exact ih1 _ _ _ _ _ _ _ _ _ | exact LeO.none _ | refine LeO.ite ?_ ?_ | refine LeO.bind ?_ (fun _ => ?_)
theorem QX.mono : ∀ a0 a1 a2 k, LeO (QX.f k a0 a1 a2) (QX.f (k + 1) a0 a1 a2) := by
 intro a0 a1 a2 k; obtain ⟨ih0, ih1⟩ := QX.Z8 k; unfold QX.f; repeat' first | (with_reducible exact ih0 _ _ _ _ _) | (with_reducible exact ih1 _ _ _ _ _ _ _ _ _) | (with_reducible exact LeO.refl _) | (with_reducible exact LeO.none _) | (with_reducible refine LeO.ite ?_ ?_) | (with_reducible refine LeO.bind ?_ (fun _ => ?_)) | exact ih0 _ _ _ _ _ | exact ih1 _ _ _ _ _ _ _ _ _ | exact LeO.none _ | refine LeO.ite ?_ ?_ | refine LeO.bind ?_ (fun _ => ?_)
set_option maxHeartbeats 8000000 in
set_option maxRecDepth 100000 in
theorem QX.calls (k : Nat) (aq : Option Addr) (an : Nat) (ae : List (List Int)) (ak : Option Addr) (ao : Nat) (ag : List (List Int)) (A1 : Option Addr) (c1 : Nat) (l1 : List Int) (r : List Int) (w : World) (bp : Kd.C (Kd.slice 3 (Kd.int .i64)) w aq ae.length ae) (br : ae.length ≤ an) (bo : Kd.C (Kd.slice 3 (Kd.int .i64)) w ak ag.length ag) (bq : ag.length ≤ ao) (hr1 : Kd.C (Kd.int .i64) w A1 l1.length l1) (hc1 : l1.length ≤ c1) (h : QX.f k ae ag l1 = some r) :
  Calls Try.prog 86 #[.agg #[.slice aq ae.length an, .slice ak ag.length ao], .slice A1 l1.length c1] w fun e w' => ∃ v0_ : Value, e = .returned (v0_) ∧ Kd.R (Kd.int .i64) 3 w' w.heap.size (fun _ => True) v0_ r ∧ Below w.heap.size w w' := by
 have fa := Try.underlying24; have aI := aa.mk bp; have aQ := aa.mk br; clear bp br; have aW := aa.mk bo; have aT := aa.mk bq; clear bo bq; have HR1 := aa.mk hr1; have HC1 := aa.mk hc1; clear hr1 hc1; have HB := aa.mk (Below.refl w.heap.size w); have H : ((Zf.f ae ag).bind fun t102 => (QX.l0 k l1 ([] : List Int) t102 (t102.length : Int) 0)) = some r := h; clear h; replace H := Option.bind_eq_some_iff.mp H; obtain ⟨t102, A30, H⟩ := H; replace H : (QX.l0 k l1 ([] : List Int) t102 (t102.length : Int) 0) = some r := H; have A3 := aa.mk A30; clear A30; have H' := aa.mk H; clear H; go_enter Try.func86, Try.ntmps86; go_wp2_with (first | ((with_reducible refine QD (N := 2) rfl ?_); refine QJ ?hg (N := 2) ?hd (cs := #[.slice aq ae.length an, .slice ak ag.length ao]) (t := 24) ?hr ?_; (case hd => rfl); (case hg => rfl); (case hr => first | (go_simp; done) | (go_simp; rfl)); intro af hg w4 hbox hb; have ab := aa.mk (hbox); have bA := aa.mk ((by rw [hg]; exact (Qe bB) : w.heap.size ≤ af)); have bk := aa.mk ((by rw [hg]; exact (Qe bB) : w.heap.size ≤ af)); replace HB := aa.mk (Qd bB hb); clear hb hbox hg; have gW : w4.cell? ⟨af, 0, none⟩ = some (.slice aq ae.length an) := (Qa ab.out 0).trans rfl; have gV : w4.cell? ⟨af, 1, none⟩ = some (.slice ak ag.length ao) := (Qa ab.out 1).trans rfl; have gS := Qb ab.out 0; have gR := Qb ab.out 1) | ((with_reducible refine QD (N := 15) rfl ?_); refine Two.build ?hg (N := 15) ?hd (v0 := .slice aq ae.length an) (v1 := .slice ak ag.length ao) ?hr ?_; (case hd => rfl); (case hg => rfl); (case hr => first | (go_simp; done) | (go_simp; rfl)); intro gq hgq wq hqb hqbel; replace HB := aa.mk (Qd bB hqbel); replace ab := aa.mk (Qc ab.out hqbel); have BQ := aa.mk hqb; clear hqb hqbel hgq) | ((with_reducible refine Qk (f := 76) rfl ?_); refine QE (some 16) rfl rfl Try.func76 (by kernel_rfl) rfl #[.slice (some ⟨gq, 0, none⟩) 2 2] rfl hA ?_; (with_reducible refine (Zf.calls (fun k_ => k_ < w.heap.size) _ _ ae (fun k_ => k_ < w.heap.size) _ _ ag t102 _ _ BQ.out ?aj ?ai A3.out).mono ?_); (case aj => exact Kd.V_mk aQ.out (Kd.Z5 (Kd.C_F (Kd.ZG 3 (Kd.Z1 .i64)) aI.out) bB)); (case ai => exact Kd.V_mk aT.out (Kd.Z5 (Kd.C_F (Kd.ZG 3 (Kd.Z1 .i64)) aW.out) bB)); rintro e w6 ⟨o0, rfl, ho0, hb⟩; refine ⟨_, rfl, ?_⟩; have de := aa.mk (Kd.ZY (Kd.QZ (ok' := fun k_ => k_ ≠ af) ho0 (fun k_ hk_ => Or.elim hk_ (fun hs_ => Or.elim hs_ (fun hs_ => fun e_ => Nat.not_le.2 hs_ (by rw [e_]; exact bA.out)) (fun hs_ => fun e_ => Nat.not_le.2 hs_ (by rw [e_]; exact bA.out))) (fun hn_ => (Kd.freshB (g := af) (o := .cells #[.slice aq ae.length an, .slice ak ag.length ao] 24 (0, 0)) (by (with_reducible repeat (first | refine Qg ?_ _ | refine Qh ?_ | refine Qf ?_ _)); exact ab.out) k_ hn_)))) (Qe bB)); replace ab := aa.mk (Qc ab.out hb); replace HB := aa.mk (Qd bB hb); (try clear hb); (try clear hb2); (try clear hk); (try clear hi); (try clear ho0); obtain ⟨Ao7, co7, eo7⟩ := Kd.ZS de.out; subst eo7))
 go_loopg [5, 18] k (fun kq v5 v18 w' => ∃ (aN : List Int) (cS : Int), v18 = .int .i64 cS ∧ aa (QX.l0 kq l1 aN t102 (t102.length : Int) cS = some r) ∧ aa (kq ≤ k) ∧ aa (Kd.R (Kd.int .i64) 3 w' w.heap.size (fun _ => True) v5 aN) ∧ aa (Kd.N (Kd.slice 3 (Kd.int .i64)) 28 w' w.heap.size (fun k_ => some k_ ≠ (v5 : Value).ownBlock ∧ k_ ≠ af) (.slice Ao7 t102.length co7) t102) ∧ aa (w'.heap[af]? = some (.cells #[(.slice aq ae.length an), (.slice ak ag.length ao)] 24 (0, 0))) ∧ aa (Below w.heap.size w w'))
 case atStart => exact ⟨(([] : List Int)), (0), (by first | rfl | (simp; done) | (simp [*]; done)), H', ⟨Nat.le_refl _⟩, ⟨by first | exact Kd.Yb _ _ _ _ _ | exact Kd.Yh _ _ _ _ _ | exact Kd.V_nil _ _ _ _ _ | exact Kd.Q_nil _ _ _ _ _ | exact Kd.Yj _ _ _ _ _⟩, ⟨by (with_reducible repeat (first | apply Kd.N_alloc | apply Kd.Ze | apply Kd.Zn)); exact Kd.QZ de.out (fun _ hk => ⟨(by simp [Value.ownBlock]), hk⟩)⟩, ⟨by (with_reducible repeat (first | refine Qg ?_ _ | refine Qh ?_ | refine Qf ?_ _)); exact ab.out⟩, ⟨bB⟩⟩
 case round =>
  clear H'; try clear c1
  try clear p2
  try clear c7
  try clear gW
  try clear gV
  try clear gS
  try clear gR
  obtain ⟨aN, cS, rfl, HA, HK1, nv, jm, ab, HB⟩ := hrel; cases gk with
  | zero => exact absurd HA.out (by simp [QX.l0])
  | succ k1 =>
   have H := HA.out; clear HA; simp only [QX.l0] at H; by_cases c8 : cS < (t102.length : Int)
   ·rw [if_pos c8] at H; have eQ : decide (cS < (t102.length : Int)) = true := decide_eq_true c8; clear c8; by_cases c9 : 0 ≤ cS
    ·rw [if_pos c9] at H; have ft : decide (0 ≤ cS) = true := decide_eq_true c9; clear c9; by_cases c10 : cS < (t102.length : Int)
     ·rw [if_pos c10] at H; have gC : decide (cS < (t102.length : Int)) = true := decide_eq_true c10; clear c10; have H' := aa.mk H; clear H; have dv : 0 ≤ (cS : Int) := of_decide_eq_true (by assumption); have du : cS < (t102.length : Int) := of_decide_eq_true (by assumption); obtain ⟨jj, tU, Ds, gY, db, nN, nR⟩ := ZH (Kd.QN jm.out).2.2 cS dv du; cases gY; obtain ⟨EL, tl, tp, pe⟩ := Kd.YY jm.out [] cS dv (by first | exact du | exact of_decide_eq_true (by assumption) | (have e_ := (Kd.QN jm.out).1; omega)); obtain ⟨yA, yx, rfl, lB, lR⟩ := Kd.Zu tp; have jY := pe 0 _ rfl; rw [Nat.add_zero, show ((Kd.slice 3 (Kd.int .i64))).sz = 1 from rfl, Nat.mul_one] at jY; replace jY := Option.some.inj (jY.symm.trans db); injection jY with hva_ hvn_ hvc_
      rw [hva_] at lR; rw [hvc_] at lB; have AY := aa.mk (show Kd.V (Kd.int .i64) 3 _ w.heap.size _ _ (Qt t102 cS) from Kd.V_mk lB lR); clear hva_ hvn_ hvc_ lR lB; clear pe tl; have ia := aa.mk nR; have Bb := aa.mk nN; clear nR nN; replace dv := eq_true dv; replace du := eq_true du; go_wp2; go_loopg [8, 24] k1 (fun kq v8 v24 w' => ∃ (mY : Int) (dQ : Int), v8 = .int .i64 mY ∧ v24 = .int .i64 dQ ∧ aa (QX.l1 kq l1 aN mY t102 (t102.length : Int) cS (Qt t102 cS) ((Qt t102 cS).length : Int) dQ = some r) ∧ aa (kq ≤ k1) ∧ aa (Kd.R (Kd.int .i64) 3 w' w.heap.size (fun _ => True) u5 aN) ∧ aa (Kd.N (Kd.slice 3 (Kd.int .i64)) 28 w' w.heap.size (fun k_ => some k_ ≠ (u5 : Value).ownBlock ∧ k_ ≠ af) (.slice (some jj) t102.length co7) t102) ∧ aa (w'.heap[af]? = some (.cells #[(.slice aq ae.length an), (.slice ak ag.length ao)] 24 (0, 0))) ∧ aa (Kd.C (Kd.int .i64) w' tU (Qt t102 cS).length (Qt t102 cS)) ∧ aa (Below w.heap.size w w'))
      case atStart => exact ⟨(0), (0), (by first | rfl | (simp; done) | (simp [*]; done)), (by first | rfl | (simp; done) | (simp [*]; done)), H', ⟨Nat.le_refl _⟩, ⟨by (with_reducible repeat (first | apply Kd.R_alloc | apply Kd.R_drewN | apply Kd.Zb)); exact nv.out⟩, ⟨by (with_reducible repeat (first | apply Kd.N_alloc | apply Kd.Ze | apply Kd.Zn)); exact jm.out⟩, ⟨by (with_reducible repeat (first | refine Qg ?_ _ | refine Qh ?_ | refine Qf ?_ _)); exact ab.out⟩, ⟨by repeat (first | (with_reducible exact ia.out) | (with_reducible refine Kd.C_alloc ?_ _) | (with_reducible refine Kd.ZA ?_ _) | (with_reducible refine Kd.C_drew ?_) | exact ia.out)⟩, ⟨bB⟩⟩
      case round =>
       clear H'; try clear c1
       try clear p1
       try clear q1
       try clear hx1
       try clear p2
       try clear c7
       try clear c8
       try clear eQ
       try clear c9
       try clear ft
       try clear c10
       try clear gC
       try clear p10
       try clear q10
       try clear iO
       try clear gW
       try clear gV
       try clear gS
       try clear gR
       try clear db
       try clear dv
       try clear p2
       try clear du
       obtain ⟨mY, dQ, rfl, rfl, HA, HK2, nv, jm, ab, ia, HB⟩ := hrel; cases gk with
       | zero => exact absurd HA.out (by simp [QX.l1])
       | succ k2 =>
        have H := HA.out; clear HA; simp only [QX.l1] at H; by_cases c11 : dQ < ((Qt t102 cS).length : Int)
        ·rw [if_pos c11] at H; have ik : decide (dQ < ((Qt t102 cS).length : Int)) = true := decide_eq_true c11; clear c11; by_cases c12 : 0 ≤ dQ
         ·rw [if_pos c12] at H; have g7 : decide (0 ≤ dQ) = true := decide_eq_true c12; clear c12; by_cases c13 : dQ < ((Qt t102 cS).length : Int)
          ·rw [if_pos c13] at H; have oD : decide (dQ < ((Qt t102 cS).length : Int)) = true := decide_eq_true c13; clear c13; by_cases c14 : dQ < (l1.length : Int)
           ·rw [if_pos c14] at H; have ij : decide (dQ < (l1.length : Int)) = true := decide_eq_true c14; clear c14; have H' := aa.mk H; clear H; have cI : 0 ≤ (dQ : Int) := of_decide_eq_true (by assumption); have cH : dQ < ((Qt t102 cS).length : Int) := of_decide_eq_true (by assumption); obtain ⟨bM, fW, aJ⟩ := Kd.Zi ia.out dQ cI cH; cases fW; replace aJ := by first | exact (HB.out.cell (World.block_lt_of_cell? w _ aJ)).trans aJ | exact aJ
            replace cI := eq_true cI; replace cH := eq_true cH; have fV : 0 ≤ (dQ : Int) := of_decide_eq_true (by assumption); have fU : dQ < (l1.length : Int) := of_decide_eq_true (by assumption); obtain ⟨ch, lV, bm⟩ := Kd.Zi HR1.out dQ fV fU; cases lV; replace bm := by first | exact (HB.out.cell (World.block_lt_of_cell? w _ bm)).trans bm | exact bm
            replace fV := eq_true fV; replace fU := eq_true fU; go_wp2; go_roundg k2
            case measure => have := HK1.out; have := HK2.out; omega
            case rel => exact ⟨(wrap64 (mY + (wrap64 ((rd (Qt t102 cS) dQ) * (rd l1 dQ))))), (wrap64 (dQ + 1)), (by first | rfl | (simp; done) | (simp [*]; done)), (by first | rfl | (simp; done) | (simp [*]; done)), H', ⟨by have := HK1.out; have := HK2.out; omega⟩, ⟨by (with_reducible repeat (first | apply Kd.R_alloc | apply Kd.R_drewN | apply Kd.Zb)); exact nv.out⟩, ⟨by (with_reducible repeat (first | apply Kd.N_alloc | apply Kd.Ze | apply Kd.Zn)); exact jm.out⟩, ⟨by (with_reducible repeat (first | refine Qg ?_ _ | refine Qh ?_ | refine Qf ?_ _)); exact ab.out⟩, ⟨by repeat (first | (with_reducible exact ia.out) | (with_reducible refine Kd.C_alloc ?_ _) | (with_reducible refine Kd.ZA ?_ _) | (with_reducible refine Kd.C_drew ?_) | exact ia.out)⟩, ⟨bB⟩⟩
           ·rw [if_neg c14] at H; exact absurd H (by simp)
          ·rw [if_neg c13] at H; exact absurd H (by simp)
         ·rw [if_neg c12] at H; exact absurd H (by simp)
        ·rw [if_neg c11] at H; have ik : decide (dQ < ((Qt t102 cS).length : Int)) = false := decide_eq_false c11; clear c11; by_cases c15 : aN.length < 17592186044416
         ·rw [if_pos c15] at H; have pQ := aa.mk c15; clear c15; obtain ⟨jr, eP⟩ : ∃ y_ : List Int, y_ = (aN ++ [mY]) := ⟨_, rfl⟩; replace H : (QX.l0 k2 l1 jr t102 (t102.length : Int) (wrap64 (cS + 1))) = some r := by first | (rw [eP]; with_reducible exact H) | (have H2_ := (Option.bind_some _ _).symm.trans H; rw [eP]; with_reducible exact H2_) | (have H2_ := (Option.bind_some _ _).symm.trans H; with_reducible exact H2_) | with_reducible exact H | (rw [eP]; exact H) | exact H
          have lp := aa.mk eP; clear eP; have H' := aa.mk H; clear H; go_wp2_with (first | ((with_reducible refine ZM (b := .append) (xs := #[.tmp 38, .tmp 40]) rfl ?_); at_builtin; refine Kd.Vc (Kd.int .i64) (w0 := w) w.heap.size rfl (.tmp 38) (.tmp 40) 28 3 (.int .i64 0) 8 rfl Try.underlying28 info3 rfl (by decide) (by omega) u5 aN mY [.int .i64 mY] (fun _ => True) (fun _ => False) rfl rfl ?aP (fun _ hk => hk.elim) ?aF ?aO ?aB ?aS ?aL ?_; (case aP => exact rfl); (case aB => exact bB); (case aF => exact (fun _ _ => trivial)); (case aO => exact nv.out); (case aS => exact (Qe bB)); (case aL => have := pQ.out; omega); intro fY w16 ho hb hg hat; rw [← lp.out] at ho; replace jm := aa.mk (Kd.Yy (ok := (fun k_ => k_ ≠ af)) (by (with_reducible repeat (first | apply Kd.N_alloc | apply Kd.Ze | apply Kd.Zn)); exact Kd.QZ jm.out (fun _ hk => ⟨hk.2, hk.1⟩)) hg hat); replace ab := aa.mk (ZN (g := af) (o := .cells #[.slice aq ae.length an, .slice ak ag.length ao] 24 (0, 0)) (by (with_reducible repeat (first | refine Qg ?_ _ | refine Qh ?_ | refine Qf ?_ _)); exact ab.out) hg (Kd.R_ne nv.out ab.out (by decide))); replace HB := aa.mk (hb); have bN := aa.mk (ho); clear nv; clear ho hb hg hat))
          go_roundg k2
          case measure => have := HK1.out; have := HK2.out; omega
          case rel => exact ⟨(jr), (wrap64 (cS + 1)), (by first | rfl | (simp; done) | (simp [*]; done)), H', ⟨by have := HK1.out; have := HK2.out; omega⟩, ⟨by (with_reducible repeat (first | apply Kd.R_alloc | apply Kd.R_drewN | apply Kd.Zb)); exact bN.out⟩, ⟨by (with_reducible repeat (first | apply Kd.N_alloc | apply Kd.Ze | apply Kd.Zn)); exact Kd.QZ jm.out (fun _ hk => ⟨hk.2, hk.1⟩)⟩, ⟨by (with_reducible repeat (first | refine Qg ?_ _ | refine Qh ?_ | refine Qf ?_ _)); exact ab.out⟩, ⟨bB⟩⟩
         ·rw [if_neg c15] at H; exact absurd H (by simp)
     ·rw [if_neg c10] at H; exact absurd H (by simp)
    ·rw [if_neg c9] at H; exact absurd H (by simp)
   ·rw [if_neg c8] at H; have eQ : decide (cS < (t102.length : Int)) = false := decide_eq_false c8; clear c8; obtain rfl := Option.some.inj H; go_wp2; go_ret; exact ⟨_, by first | rfl | (simp [Qo, Qn] <;> rfl) | (simp [*, Qo, Qn] <;> rfl), by (with_reducible repeat (first | apply Kd.R_alloc | apply Kd.R_drewN | apply Kd.Zb)); exact nv.out, bB⟩
def QT.l0 : Nat → Bool → List Int → Int → Int → List (List Int) → List (List Int) → Option (Bool)
 | 0, _, _, _, _, _, _ => none
 | k + 1, x5, x10, x11, x12, aE, aG => if x12 < x11 then (if 0 ≤ x12 then (if x12 < (x10.length : Int) then (if x12 ≥ (aE.length : Int) then (if (wrap64 (-(rd x10 x12))) < 0 then (some false) else (if x5 = true then (QT.l0 k true x10 x11 (wrap64 (x12 + 1)) aE aG) else (QT.l0 k (decide ((wrap64 (-(rd x10 x12))) > 0)) x10 x11 (wrap64 (x12 + 1)) aE aG))) else (if (rd x10 x12) < 0 then (some false) else (if x5 = true then (QT.l0 k true x10 x11 (wrap64 (x12 + 1)) aE aG) else (QT.l0 k (decide ((rd x10 x12) > 0)) x10 x11 (wrap64 (x12 + 1)) aE aG)))) else (none)) else (none)) else (some x5)
def QT.f (k : Nat) (ae : List (List Int)) (ag : List (List Int)) (l1 : List Int) : Option (Bool) := (QX.f k ae ag l1).bind fun t102 => (QT.l0 k false t102 (t102.length : Int) 0 ae ag)
theorem QT.Z8 : ∀ k, (∀ y0 y1 y2 y3 y4 y5, LeO (QT.l0 k y0 y1 y2 y3 y4 y5) (QT.l0 (k + 1) y0 y1 y2 y3 y4 y5))
 | 0 => fun _ _ _ _ _ _ r h => by simp [QT.l0] at h
 | k + 1 => by
  have ih0 := QT.Z8 k
  ·intro y0 y1 y2 y3 y4 y5; unfold QT.l0; repeat' first | (with_reducible exact ih0 _ _ _ _ _ _) | (with_reducible exact QX.mono _ _ _ _) | (with_reducible exact LeO.refl _) | (with_reducible exact LeO.none _) | (with_reducible refine LeO.ite ?_ ?_) | (with_reducible refine LeO.bind ?_ (fun _ => ?_)) | exact ih0 _ _ _ _ _ _ | exact QX.mono _ _ _ _ | exact LeO.none _ | refine LeO.ite ?_ ?_ | refine LeO.bind ?_ (fun _ => ?_)
theorem QT.mono : ∀ a0 a1 a2 k, LeO (QT.f k a0 a1 a2) (QT.f (k + 1) a0 a1 a2) := by
 intro a0 a1 a2 k; have ih0 := QT.Z8 k; unfold QT.f; repeat' first | (with_reducible exact ih0 _ _ _ _ _ _) | (with_reducible exact QX.mono _ _ _ _) | (with_reducible exact LeO.refl _) | (with_reducible exact LeO.none _) | (with_reducible refine LeO.ite ?_ ?_) | (with_reducible refine LeO.bind ?_ (fun _ => ?_)) | exact ih0 _ _ _ _ _ _ | exact QX.mono _ _ _ _ | exact LeO.none _ | refine LeO.ite ?_ ?_ | refine LeO.bind ?_ (fun _ => ?_)
set_option maxHeartbeats 8000000 in
set_option maxRecDepth 100000 in
theorem QT.calls (k : Nat) (aq : Option Addr) (an : Nat) (ae : List (List Int)) (ak : Option Addr) (ao : Nat) (ag : List (List Int)) (A1 : Option Addr) (c1 : Nat) (l1 : List Int) (r : Bool) (w : World) (bp : Kd.C (Kd.slice 3 (Kd.int .i64)) w aq ae.length ae) (br : ae.length ≤ an) (bo : Kd.C (Kd.slice 3 (Kd.int .i64)) w ak ag.length ag) (bq : ag.length ≤ ao) (hr1 : Kd.C (Kd.int .i64) w A1 l1.length l1) (hc1 : l1.length ≤ c1) (h : QT.f k ae ag l1 = some r) :
  Calls Try.prog 83 #[.agg #[.slice aq ae.length an, .slice ak ag.length ao], .slice A1 l1.length c1] w fun e w' => e = .returned (.bool r) ∧ Below w.heap.size w w' := by
 have fa := Try.underlying24; have aI := aa.mk bp; have aQ := aa.mk br; clear bp br; have aW := aa.mk bo; have aT := aa.mk bq; clear bo bq; have HR1 := aa.mk hr1; have HC1 := aa.mk hc1; clear hr1 hc1; have HB := aa.mk (Below.refl w.heap.size w); have H : ((QX.f k ae ag l1).bind fun t102 => (QT.l0 k false t102 (t102.length : Int) 0 ae ag)) = some r := h; clear h; replace H := Option.bind_eq_some_iff.mp H; obtain ⟨t102, A30, H⟩ := H; replace H : (QT.l0 k false t102 (t102.length : Int) 0 ae ag) = some r := H; have A3 := aa.mk A30; clear A30; have H' := aa.mk H; clear H; go_enter Try.func83, Try.ntmps83; go_wp2_with (first | ((with_reducible refine QD (N := 2) rfl ?_); refine QJ ?hg (N := 2) ?hd (cs := #[.slice aq ae.length an, .slice ak ag.length ao]) (t := 24) ?hr ?_; (case hd => rfl); (case hg => rfl); (case hr => first | (go_simp; done) | (go_simp; rfl)); intro af hg w4 hbox hb; have ab := aa.mk (hbox); have bA := aa.mk ((by rw [hg]; exact (Qe bB) : w.heap.size ≤ af)); have bk := aa.mk ((by rw [hg]; exact (Qe bB) : w.heap.size ≤ af)); replace HB := aa.mk (Qd bB hb); clear hb hbox hg; have gW : w4.cell? ⟨af, 0, none⟩ = some (.slice aq ae.length an) := (Qa ab.out 0).trans rfl; have gV : w4.cell? ⟨af, 1, none⟩ = some (.slice ak ag.length ao) := (Qa ab.out 1).trans rfl; have gS := Qb ab.out 0; have gR := Qb ab.out 1) | ((with_reducible refine Qk (f := 86) rfl ?_); refine QE (some 10) rfl rfl Try.func86 (by kernel_rfl) rfl #[.agg #[.slice aq ae.length an, .slice ak ag.length ao], .slice A1 l1.length c1] rfl hA ?_; (with_reducible refine (QX.calls k _ _ ae _ _ ag _ _ l1 t102 _ ?aj ?ai ?au ?ar ?bD ?bC A3.out).mono ?_); (case aj => exact (Kd.Ql aI.out HB.out)); (case ai => exact aQ.out); (case au => exact (Kd.Ql aW.out HB.out)); (case ar => exact aT.out); (case bD => exact (Kd.Ql HR1.out HB.out)); (case bC => exact HC1.out); rintro e w6 ⟨o0, rfl, ho0, hb⟩; refine ⟨_, rfl, ?_⟩; have de := aa.mk (Kd.Zk ho0 (Qe bB)); replace ab := aa.mk (Qc ab.out hb); replace HB := aa.mk (Qd bB hb); (try clear hb); (try clear hb2); (try clear hk); (try clear hi); (try clear ho0); obtain ⟨Ao7, co7, eo7⟩ := Kd.Zs de.out; subst eo7))
 go_loopg [5, 12] k (fun kq v5 v12 w' => ∃ (aN : Bool) (bF : Int), v5 = .bool aN ∧ v12 = .int .i64 bF ∧ aa (QT.l0 kq aN t102 (t102.length : Int) bF ae ag = some r) ∧ aa (kq ≤ k) ∧ aa (Kd.R (Kd.int .i64) 3 w' w.heap.size (fun _ => True) (.slice Ao7 t102.length co7) t102) ∧ aa (w'.heap[af]? = some (.cells #[(.slice aq ae.length an), (.slice ak ag.length ao)] 24 (0, 0))) ∧ aa (Below w.heap.size w w'))
 case atStart => exact ⟨(false), (0), (by first | rfl | (simp; done) | (simp [*]; done)), (by first | rfl | (simp; done) | (simp [*]; done)), H', ⟨Nat.le_refl _⟩, ⟨by (with_reducible repeat (first | apply Kd.R_alloc | apply Kd.R_drewN | apply Kd.Zb)); exact de.out⟩, ⟨by (with_reducible repeat (first | refine Qg ?_ _ | refine Qh ?_ | refine Qf ?_ _)); exact ab.out⟩, ⟨bB⟩⟩
 case round =>
  clear H'; try clear c1
  try clear p2
  try clear gW
  try clear gV
  try clear gS
  try clear gR
  obtain ⟨aN, bF, rfl, rfl, HA, HK1, il, ab, HB⟩ := hrel; cases gk with
  | zero => exact absurd HA.out (by simp [QT.l0])
  | succ k1 =>
   have H := HA.out; clear HA; simp only [QT.l0] at H; by_cases c8 : bF < (t102.length : Int)
   ·rw [if_pos c8] at H; have eQ : decide (bF < (t102.length : Int)) = true := decide_eq_true c8; clear c8; by_cases c9 : 0 ≤ bF
    ·rw [if_pos c9] at H; have ft : decide (0 ≤ bF) = true := decide_eq_true c9; clear c9; by_cases c10 : bF < (t102.length : Int)
     ·rw [if_pos c10] at H; have gC : decide (bF < (t102.length : Int)) = true := decide_eq_true c10; clear c10; by_cases c11 : bF ≥ (ae.length : Int)
      ·rw [if_pos c11] at H; have ik : decide ((ae.length : Int) ≤ bF) = true := decide_eq_true c11; clear c11; by_cases c12 : (wrap64 (-(rd t102 bF))) < 0
       ·rw [if_pos c12] at H; have g7 : decide ((wrap64 (-(rd t102 bF))) < 0) = true := decide_eq_true c12; clear c12; obtain rfl := Option.some.inj H; have dv : 0 ≤ (bF : Int) := of_decide_eq_true (by assumption); have du : bF < (t102.length : Int) := of_decide_eq_true (by assumption); obtain ⟨jj, gY, db⟩ := Kd.Zi (Kd.QW il.out).2.2 bF dv du; cases gY; replace dv := eq_true dv; replace du := eq_true du; have dZ : wr.cell? ⟨af, 0, none⟩ = some (.slice aq ae.length an) := (Qa ab.out 0).trans rfl; have dY : wr.cell? ⟨af, 1, none⟩ = some (.slice ak ag.length ao) := (Qa ab.out 1).trans rfl; have dX := Qb ab.out 0; have dW := Qb ab.out 1; go_wp2; go_ret; exact ⟨by first | rfl | (simp [Qo, Qn] <;> rfl) | (simp [*, Qo, Qn] <;> rfl), bB⟩
       ·rw [if_neg c12] at H; have g7 : decide ((wrap64 (-(rd t102 bF))) < 0) = false := decide_eq_false c12; clear c12; by_cases c14 : aN = true
        ·subst c14; have H1 : (QT.l0 k1 true t102 (t102.length : Int) (wrap64 (bF + 1)) ae ag) = some r := by rw [if_pos rfl] at H; exact H
         clear H; have H := H1; clear H1; have H' := aa.mk H; clear H; have dv : 0 ≤ (bF : Int) := of_decide_eq_true (by assumption); have du : bF < (t102.length : Int) := of_decide_eq_true (by assumption); obtain ⟨jj, gY, db⟩ := Kd.Zi (Kd.QW il.out).2.2 bF dv du; cases gY; replace dv := eq_true dv; replace du := eq_true du; have fL : wr.cell? ⟨af, 0, none⟩ = some (.slice aq ae.length an) := (Qa ab.out 0).trans rfl; have fK : wr.cell? ⟨af, 1, none⟩ = some (.slice ak ag.length ao) := (Qa ab.out 1).trans rfl; have fF := Qb ab.out 0; have fE := Qb ab.out 1; go_wp2; go_roundg k1
         case measure => have := HK1.out; omega
         case rel => exact ⟨(true), (wrap64 (bF + 1)), (by first | rfl | (simp; done) | (simp [*]; done)), (by first | rfl | (simp; done) | (simp [*]; done)), H', ⟨by have := HK1.out; omega⟩, ⟨by (with_reducible repeat (first | apply Kd.R_alloc | apply Kd.R_drewN | apply Kd.Zb)); exact il.out⟩, ⟨by (with_reducible repeat (first | refine Qg ?_ _ | refine Qh ?_ | refine Qf ?_ _)); exact ab.out⟩, ⟨bB⟩⟩
        ·replace c14 := Bool.eq_false_iff.mpr c14; subst c14; have H1 : (QT.l0 k1 (decide ((wrap64 (-(rd t102 bF))) > 0)) t102 (t102.length : Int) (wrap64 (bF + 1)) ae ag) = some r := by rw [if_neg (show ¬ (false = true) by decide)] at H; exact H
         clear H; have H := H1; clear H1; have H' := aa.mk H; clear H; have dv : 0 ≤ (bF : Int) := of_decide_eq_true (by assumption); have du : bF < (t102.length : Int) := of_decide_eq_true (by assumption); obtain ⟨jj, gY, db⟩ := Kd.Zi (Kd.QW il.out).2.2 bF dv du; cases gY; replace dv := eq_true dv; replace du := eq_true du; have jd : wr.cell? ⟨af, 0, none⟩ = some (.slice aq ae.length an) := (Qa ab.out 0).trans rfl; have jc : wr.cell? ⟨af, 1, none⟩ = some (.slice ak ag.length ao) := (Qa ab.out 1).trans rfl; have iX := Qb ab.out 0; have iW := Qb ab.out 1; go_wp2; go_roundg k1
         case measure => have := HK1.out; omega
         case rel => exact ⟨(decide ((wrap64 (-(rd t102 bF))) > 0)), (wrap64 (bF + 1)), (by first | rfl | (simp; done) | (simp [*]; done)), (by first | rfl | (simp; done) | (simp [*]; done)), H', ⟨by have := HK1.out; omega⟩, ⟨by (with_reducible repeat (first | apply Kd.R_alloc | apply Kd.R_drewN | apply Kd.Zb)); exact il.out⟩, ⟨by (with_reducible repeat (first | refine Qg ?_ _ | refine Qh ?_ | refine Qf ?_ _)); exact ab.out⟩, ⟨bB⟩⟩
      ·rw [if_neg c11] at H; have ik : decide ((ae.length : Int) ≤ bF) = false := decide_eq_false c11; clear c11; by_cases c17 : (rd t102 bF) < 0
       ·rw [if_pos c17] at H; have ji : decide ((rd t102 bF) < 0) = true := decide_eq_true c17; clear c17; obtain rfl := Option.some.inj H; have dv : 0 ≤ (bF : Int) := of_decide_eq_true (by assumption); have du : bF < (t102.length : Int) := of_decide_eq_true (by assumption); obtain ⟨jj, gY, db⟩ := Kd.Zi (Kd.QW il.out).2.2 bF dv du; cases gY; replace dv := eq_true dv; replace du := eq_true du; have oC : wr.cell? ⟨af, 0, none⟩ = some (.slice aq ae.length an) := (Qa ab.out 0).trans rfl; have oB : wr.cell? ⟨af, 1, none⟩ = some (.slice ak ag.length ao) := (Qa ab.out 1).trans rfl; have oa := Qb ab.out 0; have n9 := Qb ab.out 1; go_wp2; go_ret; exact ⟨by first | rfl | (simp [Qo, Qn] <;> rfl) | (simp [*, Qo, Qn] <;> rfl), bB⟩
       ·rw [if_neg c17] at H; have ji : decide ((rd t102 bF) < 0) = false := decide_eq_false c17; clear c17; by_cases c19 : aN = true
        ·subst c19; have H1 : (QT.l0 k1 true t102 (t102.length : Int) (wrap64 (bF + 1)) ae ag) = some r := by rw [if_pos rfl] at H; exact H
         clear H; have H := H1; clear H1; have H' := aa.mk H; clear H; have dv : 0 ≤ (bF : Int) := of_decide_eq_true (by assumption); have du : bF < (t102.length : Int) := of_decide_eq_true (by assumption); obtain ⟨jj, gY, db⟩ := Kd.Zi (Kd.QW il.out).2.2 bF dv du; cases gY; replace dv := eq_true dv; replace du := eq_true du; have AW : wr.cell? ⟨af, 0, none⟩ = some (.slice aq ae.length an) := (Qa ab.out 0).trans rfl; have AV : wr.cell? ⟨af, 1, none⟩ = some (.slice ak ag.length ao) := (Qa ab.out 1).trans rfl; have zP := Qb ab.out 0; have zO := Qb ab.out 1; go_wp2; go_roundg k1
         case measure => have := HK1.out; omega
         case rel => exact ⟨(true), (wrap64 (bF + 1)), (by first | rfl | (simp; done) | (simp [*]; done)), (by first | rfl | (simp; done) | (simp [*]; done)), H', ⟨by have := HK1.out; omega⟩, ⟨by (with_reducible repeat (first | apply Kd.R_alloc | apply Kd.R_drewN | apply Kd.Zb)); exact il.out⟩, ⟨by (with_reducible repeat (first | refine Qg ?_ _ | refine Qh ?_ | refine Qf ?_ _)); exact ab.out⟩, ⟨bB⟩⟩
        ·replace c19 := Bool.eq_false_iff.mpr c19; subst c19; have H1 : (QT.l0 k1 (decide ((rd t102 bF) > 0)) t102 (t102.length : Int) (wrap64 (bF + 1)) ae ag) = some r := by rw [if_neg (show ¬ (false = true) by decide)] at H; exact H
         clear H; have H := H1; clear H1; have H' := aa.mk H; clear H; have dv : 0 ≤ (bF : Int) := of_decide_eq_true (by assumption); have du : bF < (t102.length : Int) := of_decide_eq_true (by assumption); obtain ⟨jj, gY, db⟩ := Kd.Zi (Kd.QW il.out).2.2 bF dv du; cases gY; replace dv := eq_true dv; replace du := eq_true du; have kh : wr.cell? ⟨af, 0, none⟩ = some (.slice aq ae.length an) := (Qa ab.out 0).trans rfl; have kg : wr.cell? ⟨af, 1, none⟩ = some (.slice ak ag.length ao) := (Qa ab.out 1).trans rfl; have j8 := Qb ab.out 0; have j7 := Qb ab.out 1; go_wp2; go_roundg k1
         case measure => have := HK1.out; omega
         case rel => exact ⟨(decide ((rd t102 bF) > 0)), (wrap64 (bF + 1)), (by first | rfl | (simp; done) | (simp [*]; done)), (by first | rfl | (simp; done) | (simp [*]; done)), H', ⟨by have := HK1.out; omega⟩, ⟨by (with_reducible repeat (first | apply Kd.R_alloc | apply Kd.R_drewN | apply Kd.Zb)); exact il.out⟩, ⟨by (with_reducible repeat (first | refine Qg ?_ _ | refine Qh ?_ | refine Qf ?_ _)); exact ab.out⟩, ⟨bB⟩⟩
     ·rw [if_neg c10] at H; exact absurd H (by simp)
    ·rw [if_neg c9] at H; exact absurd H (by simp)
   ·rw [if_neg c8] at H; have eQ : decide (bF < (t102.length : Int)) = false := decide_eq_false c8; clear c8; obtain rfl := Option.some.inj H; go_wp2; go_ret; exact ⟨by first | rfl | (simp [Qo, Qn] <;> rfl) | (simp [*, Qo, Qn] <;> rfl), bB⟩
def Zv.f (k : Nat) (ae : List (List Int)) (ag : List (List Int)) (l1 : List Int) : Option (Int) := (Qm.f k ae ag).bind fun t102 => (if t102 = 0 then (if 0 < (ae.length : Int) then ((Zh.f l1 ((Qt ae 0).length : Int) (-1000000) 1000000).bind fun t104 => (if t104 = true then (some 0) else (some 1))) else (none)) else (some t102))
theorem Zv.mono : ∀ a0 a1 a2 k, LeO (Zv.f k a0 a1 a2) (Zv.f (k + 1) a0 a1 a2) := by
 intro a0 a1 a2 k; unfold Zv.f; repeat' first | (with_reducible exact Qm.mono _ _ _) | (with_reducible exact LeO.refl _) | (with_reducible exact LeO.none _) | (with_reducible refine LeO.ite ?_ ?_) | (with_reducible refine LeO.bind ?_ (fun _ => ?_)) | exact Qm.mono _ _ _ | exact LeO.none _ | refine LeO.ite ?_ ?_ | refine LeO.bind ?_ (fun _ => ?_)
set_option maxHeartbeats 8000000 in
set_option maxRecDepth 100000 in
theorem Zv.calls (k : Nat) (aq : Option Addr) (an : Nat) (ae : List (List Int)) (ak : Option Addr) (ao : Nat) (ag : List (List Int)) (A1 : Option Addr) (c1 : Nat) (l1 : List Int) (r : Int) (w : World) (bp : Kd.C (Kd.slice 3 (Kd.int .i64)) w aq ae.length ae) (br : ae.length ≤ an) (bo : Kd.C (Kd.slice 3 (Kd.int .i64)) w ak ag.length ag) (bq : ag.length ≤ ao) (hr1 : Kd.C (Kd.int .i64) w A1 l1.length l1) (hc1 : l1.length ≤ c1) (h : Zv.f k ae ag l1 = some r) :
  Calls Try.prog 85 #[.agg #[.slice aq ae.length an, .slice ak ag.length ao], .slice A1 l1.length c1] w fun e w' => e = .returned (.int .i64 r) ∧ Below w.heap.size w w' := by
 have fa := Try.underlying24; have aI := aa.mk bp; have aQ := aa.mk br; clear bp br; have aW := aa.mk bo; have aT := aa.mk bq; clear bo bq; have HR1 := aa.mk hr1; have HC1 := aa.mk hc1; clear hr1 hc1; have HB := aa.mk (Below.refl w.heap.size w); have H : ((Qm.f k ae ag).bind fun t102 => (if t102 = 0 then (if 0 < (ae.length : Int) then ((Zh.f l1 ((Qt ae 0).length : Int) (-1000000) 1000000).bind fun t104 => (if t104 = true then (some 0) else (some 1))) else (none)) else (some t102))) = some r := h; clear h; replace H := Option.bind_eq_some_iff.mp H; obtain ⟨t102, A30, H⟩ := H; replace H : (if t102 = 0 then (if 0 < (ae.length : Int) then ((Zh.f l1 ((Qt ae 0).length : Int) (-1000000) 1000000).bind fun t104 => (if t104 = true then (some 0) else (some 1))) else (none)) else (some t102)) = some r := H; have A3 := aa.mk A30; clear A30; by_cases c4 : t102 = 0
 ·rw [if_pos c4] at H; have cn : (t102 == 0) = true := beq_iff_eq.mpr c4; have eC : (t102 != 0) = false := bne_eq_false_iff_eq.mpr c4; clear c4; by_cases c5 : 0 < (ae.length : Int)
  ·rw [if_pos c5] at H; have fl : decide (0 < (ae.length : Int)) = true := decide_eq_true c5; have kJ : decide (0 < ae.length) = true := decide_eq_true (by omega); clear c5; replace H := Option.bind_eq_some_iff.mp H; obtain ⟨t104, A60, H⟩ := H; replace H : (if t104 = true then (some 0) else (some 1)) = some r := H; have A6 := aa.mk A60; clear A60; by_cases c7 : t104 = true
   ·subst c7; have H1 : (some 0) = some r := by rw [if_pos rfl] at H; exact H
    clear H; have H := H1; clear H1; obtain rfl := Option.some.inj H; go_enter Try.func85, Try.ntmps85; go_wp2_with (first | ((with_reducible refine QD (N := 2) rfl ?_); refine QJ ?hg (N := 2) ?hd (cs := #[.slice aq ae.length an, .slice ak ag.length ao]) (t := 24) ?hr ?_; (case hd => rfl); (case hg => rfl); (case hr => first | (go_simp; done) | (go_simp; rfl)); intro af hg w8 hbox hb; have ab := aa.mk (hbox); have bA := aa.mk ((by rw [hg]; exact (Qe bB) : w.heap.size ≤ af)); have bk := aa.mk ((by rw [hg]; exact (Qe bB) : w.heap.size ≤ af)); replace HB := aa.mk (Qd bB hb); clear hb hbox hg; have kA : w8.cell? ⟨af, 0, none⟩ = some (.slice aq ae.length an) := (Qa ab.out 0).trans rfl; have kz : w8.cell? ⟨af, 1, none⟩ = some (.slice ak ag.length ao) := (Qa ab.out 1).trans rfl; have ky := Qb ab.out 0; have kx := Qb ab.out 1) | ((with_reducible refine Qk (f := 38) rfl ?_); refine QE (some 7) rfl rfl Try.func38 (by kernel_rfl) rfl #[.agg #[.slice aq ae.length an, .slice ak ag.length ao]] rfl hA ?_; (with_reducible refine (Qm.calls k _ _ ae _ _ ag t102 _ ?aj ?ai ?au ?ar A3.out).mono ?_); (case aj => exact (Kd.Ql aI.out HB.out)); (case ai => exact aQ.out); (case au => exact (Kd.Ql aW.out HB.out)); (case ar => exact aT.out); rintro e w10 ⟨rfl, hb⟩; refine ⟨_, rfl, ?_⟩; replace ab := aa.mk (Qc ab.out hb); replace HB := aa.mk (Qd bB hb); (try clear hb); (try clear hb2); (try clear hk); (try clear hi); have dN : w10.cell? ⟨af, 0, none⟩ = some (.slice aq ae.length an) := (Qa ab.out 0).trans rfl; have dM : w10.cell? ⟨af, 1, none⟩ = some (.slice ak ag.length ao) := (Qa ab.out 1).trans rfl; have dL := Qb ab.out 0; have dK := Qb ab.out 1; have eH : 0 ≤ (0 : Int) := (by omega); have eG : 0 < (ae.length : Int) := of_decide_eq_true (by assumption); obtain ⟨jH, nA, nu, jx, bx, et, ey⟩ := ZH aI.out 0 eH eG; cases jx; have uj : (0 < ae.length) = True := eq_true (by omega); (try rw [show ((0 : Int)).toNat = 0 from rfl] at bx); (try rw [Addr.add_zero'] at bx); replace bx := (HB.out.cell (World.block_lt_of_cell? w _ bx)).trans bx; have l6 := aa.mk ey; have me := aa.mk et; clear ey et; replace eH := eq_true eH; replace eG := eq_true eG) | ((with_reducible refine Qk (f := 77) rfl ?_); refine QE (some 17) rfl rfl Try.func77 (by kernel_rfl) rfl #[.slice A1 l1.length c1, .int .i64 ((Qt ae 0).length : Int), .int .i64 (-1000000), .int .i64 1000000] rfl hA ?_; (with_reducible refine (Zh.calls _ _ l1 ((Qt ae 0).length : Int) (-1000000) 1000000 true _ ?aj ?ai A6.out).mono ?_); (case aj => exact (Kd.Ql HR1.out HB.out)); (case ai => exact HC1.out); rintro e w12 ⟨rfl, hb⟩; refine ⟨_, rfl, ?_⟩; replace ab := aa.mk (Qc ab.out hb); replace HB := aa.mk (Qd bB hb); (try clear hb); (try clear hb2); (try clear hk); (try clear hi)))
    go_ret; exact ⟨by first | rfl | (simp [Qo, Qn] <;> rfl) | (simp [*, Qo, Qn] <;> rfl), bB⟩
   ·replace c7 := Bool.eq_false_iff.mpr c7; subst c7; have H1 : (some 1) = some r := by rw [if_neg (show ¬ (false = true) by decide)] at H; exact H
    clear H; have H := H1; clear H1; obtain rfl := Option.some.inj H; go_enter Try.func85, Try.ntmps85; go_wp2_with (first | ((with_reducible refine QD (N := 2) rfl ?_); refine QJ ?hg (N := 2) ?hd (cs := #[.slice aq ae.length an, .slice ak ag.length ao]) (t := 24) ?hr ?_; (case hd => rfl); (case hg => rfl); (case hr => first | (go_simp; done) | (go_simp; rfl)); intro af hg w13 hbox hb; have ab := aa.mk (hbox); have bA := aa.mk ((by rw [hg]; exact (Qe bB) : w.heap.size ≤ af)); have bk := aa.mk ((by rw [hg]; exact (Qe bB) : w.heap.size ≤ af)); replace HB := aa.mk (Qd bB hb); clear hb hbox hg; have jf : w13.cell? ⟨af, 0, none⟩ = some (.slice aq ae.length an) := (Qa ab.out 0).trans rfl; have je : w13.cell? ⟨af, 1, none⟩ = some (.slice ak ag.length ao) := (Qa ab.out 1).trans rfl; have iZ := Qb ab.out 0; have iY := Qb ab.out 1) | ((with_reducible refine Qk (f := 38) rfl ?_); refine QE (some 7) rfl rfl Try.func38 (by kernel_rfl) rfl #[.agg #[.slice aq ae.length an, .slice ak ag.length ao]] rfl hA ?_; (with_reducible refine (Qm.calls k _ _ ae _ _ ag t102 _ ?aj ?ai ?au ?ar A3.out).mono ?_); (case aj => exact (Kd.Ql aI.out HB.out)); (case ai => exact aQ.out); (case au => exact (Kd.Ql aW.out HB.out)); (case ar => exact aT.out); rintro e w15 ⟨rfl, hb⟩; refine ⟨_, rfl, ?_⟩; replace ab := aa.mk (Qc ab.out hb); replace HB := aa.mk (Qd bB hb); (try clear hb); (try clear hb2); (try clear hk); (try clear hi); have jd : w15.cell? ⟨af, 0, none⟩ = some (.slice aq ae.length an) := (Qa ab.out 0).trans rfl; have jc : w15.cell? ⟨af, 1, none⟩ = some (.slice ak ag.length ao) := (Qa ab.out 1).trans rfl; have iX := Qb ab.out 0; have iW := Qb ab.out 1; have eH : 0 ≤ (0 : Int) := (by omega); have eG : 0 < (ae.length : Int) := of_decide_eq_true (by assumption); obtain ⟨jH, nA, nu, jx, bx, et, ey⟩ := ZH aI.out 0 eH eG; cases jx; have uj : (0 < ae.length) = True := eq_true (by omega); (try rw [show ((0 : Int)).toNat = 0 from rfl] at bx); (try rw [Addr.add_zero'] at bx); replace bx := (HB.out.cell (World.block_lt_of_cell? w _ bx)).trans bx; have l6 := aa.mk ey; have me := aa.mk et; clear ey et; replace eH := eq_true eH; replace eG := eq_true eG) | ((with_reducible refine Qk (f := 77) rfl ?_); refine QE (some 17) rfl rfl Try.func77 (by kernel_rfl) rfl #[.slice A1 l1.length c1, .int .i64 ((Qt ae 0).length : Int), .int .i64 (-1000000), .int .i64 1000000] rfl hA ?_; (with_reducible refine (Zh.calls _ _ l1 ((Qt ae 0).length : Int) (-1000000) 1000000 false _ ?aj ?ai A6.out).mono ?_); (case aj => exact (Kd.Ql HR1.out HB.out)); (case ai => exact HC1.out); rintro e w17 ⟨rfl, hb⟩; refine ⟨_, rfl, ?_⟩; replace ab := aa.mk (Qc ab.out hb); replace HB := aa.mk (Qd bB hb); (try clear hb); (try clear hb2); (try clear hk); (try clear hi)))
    go_ret; exact ⟨by first | rfl | (simp [Qo, Qn] <;> rfl) | (simp [*, Qo, Qn] <;> rfl), bB⟩
  ·rw [if_neg c5] at H; exact absurd H (by simp)
 ·rw [if_neg c4] at H; have cn : (t102 == 0) = false := beq_eq_false_iff_ne.mpr c4; have eC : (t102 != 0) = true := bne_iff_ne.mpr c4; obtain rfl := Option.some.inj H; go_enter Try.func85, Try.ntmps85; go_wp2_with (first | ((with_reducible refine QD (N := 2) rfl ?_); refine QJ ?hg (N := 2) ?hd (cs := #[.slice aq ae.length an, .slice ak ag.length ao]) (t := 24) ?hr ?_; (case hd => rfl); (case hg => rfl); (case hr => first | (go_simp; done) | (go_simp; rfl)); intro af hg w18 hbox hb; have ab := aa.mk (hbox); have bA := aa.mk ((by rw [hg]; exact (Qe bB) : w.heap.size ≤ af)); have bk := aa.mk ((by rw [hg]; exact (Qe bB) : w.heap.size ≤ af)); replace HB := aa.mk (Qd bB hb); clear hb hbox hg; have gu : w18.cell? ⟨af, 0, none⟩ = some (.slice aq ae.length an) := (Qa ab.out 0).trans rfl; have gr : w18.cell? ⟨af, 1, none⟩ = some (.slice ak ag.length ao) := (Qa ab.out 1).trans rfl; have gp := Qb ab.out 0; have gm := Qb ab.out 1) | ((with_reducible refine Qk (f := 38) rfl ?_); refine QE (some 7) rfl rfl Try.func38 (by kernel_rfl) rfl #[.agg #[.slice aq ae.length an, .slice ak ag.length ao]] rfl hA ?_; (with_reducible refine (Qm.calls k _ _ ae _ _ ag t102 _ ?aj ?ai ?au ?ar A3.out).mono ?_); (case aj => exact (Kd.Ql aI.out HB.out)); (case ai => exact aQ.out); (case au => exact (Kd.Ql aW.out HB.out)); (case ar => exact aT.out); rintro e w20 ⟨rfl, hb⟩; refine ⟨_, rfl, ?_⟩; replace ab := aa.mk (Qc ab.out hb); replace HB := aa.mk (Qd bB hb); (try clear hb); (try clear hb2); (try clear hk); (try clear hi)))
  go_ret; exact ⟨by first | rfl | (simp [Qo, Qn] <;> rfl) | (simp [*, Qo, Qn] <;> rfl), bB⟩
def Q0.f (k : Nat) (ae : List (List Int)) (ag : List (List Int)) (l1 : List Int) : Option (Int) := (Zv.f k ae ag l1).bind fun t102 => (if t102 = 0 then ((QT.f k ae ag l1).bind fun t103 => (if t103 = true then (some 0) else (some 7))) else (some t102))
theorem Q0.mono : ∀ a0 a1 a2 k, LeO (Q0.f k a0 a1 a2) (Q0.f (k + 1) a0 a1 a2) := by
 intro a0 a1 a2 k; unfold Q0.f; repeat' first | (with_reducible exact QT.mono _ _ _ _) | (with_reducible exact Zv.mono _ _ _ _) | (with_reducible exact LeO.refl _) | (with_reducible exact LeO.none _) | (with_reducible refine LeO.ite ?_ ?_) | (with_reducible refine LeO.bind ?_ (fun _ => ?_)) | exact QT.mono _ _ _ _ | exact Zv.mono _ _ _ _ | exact LeO.none _ | refine LeO.ite ?_ ?_ | refine LeO.bind ?_ (fun _ => ?_)
set_option maxHeartbeats 8000000 in
set_option maxRecDepth 100000 in
theorem Q0.calls (k : Nat) (aq : Option Addr) (an : Nat) (ae : List (List Int)) (ak : Option Addr) (ao : Nat) (ag : List (List Int)) (A1 : Option Addr) (c1 : Nat) (l1 : List Int) (r : Int) (w : World) (bp : Kd.C (Kd.slice 3 (Kd.int .i64)) w aq ae.length ae) (br : ae.length ≤ an) (bo : Kd.C (Kd.slice 3 (Kd.int .i64)) w ak ag.length ag) (bq : ag.length ≤ ao) (hr1 : Kd.C (Kd.int .i64) w A1 l1.length l1) (hc1 : l1.length ≤ c1) (h : Q0.f k ae ag l1 = some r) :
  Calls Try.prog 43 #[.agg #[.slice aq ae.length an, .slice ak ag.length ao], .slice A1 l1.length c1] w fun e w' => e = .returned (.int .i64 r) ∧ Below w.heap.size w w' := by
 have fa := Try.underlying24; have aI := aa.mk bp; have aQ := aa.mk br; clear bp br; have aW := aa.mk bo; have aT := aa.mk bq; clear bo bq; have HR1 := aa.mk hr1; have HC1 := aa.mk hc1; clear hr1 hc1; have HB := aa.mk (Below.refl w.heap.size w); have H : ((Zv.f k ae ag l1).bind fun t102 => (if t102 = 0 then ((QT.f k ae ag l1).bind fun t103 => (if t103 = true then (some 0) else (some 7))) else (some t102))) = some r := h; clear h; replace H := Option.bind_eq_some_iff.mp H; obtain ⟨t102, A30, H⟩ := H; replace H : (if t102 = 0 then ((QT.f k ae ag l1).bind fun t103 => (if t103 = true then (some 0) else (some 7))) else (some t102)) = some r := H; have A3 := aa.mk A30; clear A30; by_cases c4 : t102 = 0
 ·rw [if_pos c4] at H; have cn : (t102 == 0) = true := beq_iff_eq.mpr c4; have eC : (t102 != 0) = false := bne_eq_false_iff_eq.mpr c4; clear c4; replace H := Option.bind_eq_some_iff.mp H; obtain ⟨t103, A50, H⟩ := H; replace H : (if t103 = true then (some 0) else (some 7)) = some r := H; have A5 := aa.mk A50; clear A50; by_cases c6 : t103 = true
  ·subst c6; have H1 : (some 0) = some r := by rw [if_pos rfl] at H; exact H
   clear H; have H := H1; clear H1; obtain rfl := Option.some.inj H; go_enter Try.func43, Try.ntmps43; go_wp2_with (first | ((with_reducible refine QD (N := 2) rfl ?_); refine QJ ?hg (N := 2) ?hd (cs := #[.slice aq ae.length an, .slice ak ag.length ao]) (t := 24) ?hr ?_; (case hd => rfl); (case hg => rfl); (case hr => first | (go_simp; done) | (go_simp; rfl)); intro af hg w7 hbox hb; have ab := aa.mk (hbox); have bA := aa.mk ((by rw [hg]; exact (Qe bB) : w.heap.size ≤ af)); have bk := aa.mk ((by rw [hg]; exact (Qe bB) : w.heap.size ≤ af)); replace HB := aa.mk (Qd bB hb); clear hb hbox hg; have ti : w7.cell? ⟨af, 0, none⟩ = some (.slice aq ae.length an) := (Qa ab.out 0).trans rfl; have th : w7.cell? ⟨af, 1, none⟩ = some (.slice ak ag.length ao) := (Qa ab.out 1).trans rfl; have te := Qb ab.out 0; have td := Qb ab.out 1) | ((with_reducible refine Qk (f := 85) rfl ?_); refine QE (some 8) rfl rfl Try.func85 (by kernel_rfl) rfl #[.agg #[.slice aq ae.length an, .slice ak ag.length ao], .slice A1 l1.length c1] rfl hA ?_; (with_reducible refine (Zv.calls k _ _ ae _ _ ag _ _ l1 t102 _ ?aj ?ai ?au ?ar ?bD ?bC A3.out).mono ?_); (case aj => exact (Kd.Ql aI.out HB.out)); (case ai => exact aQ.out); (case au => exact (Kd.Ql aW.out HB.out)); (case ar => exact aT.out); (case bD => exact (Kd.Ql HR1.out HB.out)); (case bC => exact HC1.out); rintro e w9 ⟨rfl, hb⟩; refine ⟨_, rfl, ?_⟩; replace ab := aa.mk (Qc ab.out hb); replace HB := aa.mk (Qd bB hb); (try clear hb); (try clear hb2); (try clear hk); (try clear hi); have fP : w9.cell? ⟨af, 0, none⟩ = some (.slice aq ae.length an) := (Qa ab.out 0).trans rfl; have fO : w9.cell? ⟨af, 1, none⟩ = some (.slice ak ag.length ao) := (Qa ab.out 1).trans rfl; have fJ := Qb ab.out 0; have fI := Qb ab.out 1) | ((with_reducible refine Qk (f := 83) rfl ?_); refine QE (some 14) rfl rfl Try.func83 (by kernel_rfl) rfl #[.agg #[.slice aq ae.length an, .slice ak ag.length ao], .slice A1 l1.length c1] rfl hA ?_; (with_reducible refine (QT.calls k _ _ ae _ _ ag _ _ l1 true _ ?aj ?ai ?au ?ar ?bD ?bC A5.out).mono ?_); (case aj => exact (Kd.Ql aI.out HB.out)); (case ai => exact aQ.out); (case au => exact (Kd.Ql aW.out HB.out)); (case ar => exact aT.out); (case bD => exact (Kd.Ql HR1.out HB.out)); (case bC => exact HC1.out); rintro e w11 ⟨rfl, hb⟩; refine ⟨_, rfl, ?_⟩; replace ab := aa.mk (Qc ab.out hb); replace HB := aa.mk (Qd bB hb); (try clear hb); (try clear hb2); (try clear hk); (try clear hi)))
   go_ret; exact ⟨by first | rfl | (simp [Qo, Qn] <;> rfl) | (simp [*, Qo, Qn] <;> rfl), bB⟩
  ·replace c6 := Bool.eq_false_iff.mpr c6; subst c6; have H1 : (some 7) = some r := by rw [if_neg (show ¬ (false = true) by decide)] at H; exact H
   clear H; have H := H1; clear H1; obtain rfl := Option.some.inj H; go_enter Try.func43, Try.ntmps43; go_wp2_with (first | ((with_reducible refine QD (N := 2) rfl ?_); refine QJ ?hg (N := 2) ?hd (cs := #[.slice aq ae.length an, .slice ak ag.length ao]) (t := 24) ?hr ?_; (case hd => rfl); (case hg => rfl); (case hr => first | (go_simp; done) | (go_simp; rfl)); intro af hg w12 hbox hb; have ab := aa.mk (hbox); have bA := aa.mk ((by rw [hg]; exact (Qe bB) : w.heap.size ≤ af)); have bk := aa.mk ((by rw [hg]; exact (Qe bB) : w.heap.size ≤ af)); replace HB := aa.mk (Qd bB hb); clear hb hbox hg; have dZ : w12.cell? ⟨af, 0, none⟩ = some (.slice aq ae.length an) := (Qa ab.out 0).trans rfl; have dY : w12.cell? ⟨af, 1, none⟩ = some (.slice ak ag.length ao) := (Qa ab.out 1).trans rfl; have dX := Qb ab.out 0; have dW := Qb ab.out 1) | ((with_reducible refine Qk (f := 85) rfl ?_); refine QE (some 8) rfl rfl Try.func85 (by kernel_rfl) rfl #[.agg #[.slice aq ae.length an, .slice ak ag.length ao], .slice A1 l1.length c1] rfl hA ?_; (with_reducible refine (Zv.calls k _ _ ae _ _ ag _ _ l1 t102 _ ?aj ?ai ?au ?ar ?bD ?bC A3.out).mono ?_); (case aj => exact (Kd.Ql aI.out HB.out)); (case ai => exact aQ.out); (case au => exact (Kd.Ql aW.out HB.out)); (case ar => exact aT.out); (case bD => exact (Kd.Ql HR1.out HB.out)); (case bC => exact HC1.out); rintro e w14 ⟨rfl, hb⟩; refine ⟨_, rfl, ?_⟩; replace ab := aa.mk (Qc ab.out hb); replace HB := aa.mk (Qd bB hb); (try clear hb); (try clear hb2); (try clear hk); (try clear hi); have fL : w14.cell? ⟨af, 0, none⟩ = some (.slice aq ae.length an) := (Qa ab.out 0).trans rfl; have fK : w14.cell? ⟨af, 1, none⟩ = some (.slice ak ag.length ao) := (Qa ab.out 1).trans rfl; have fF := Qb ab.out 0; have fE := Qb ab.out 1) | ((with_reducible refine Qk (f := 83) rfl ?_); refine QE (some 14) rfl rfl Try.func83 (by kernel_rfl) rfl #[.agg #[.slice aq ae.length an, .slice ak ag.length ao], .slice A1 l1.length c1] rfl hA ?_; (with_reducible refine (QT.calls k _ _ ae _ _ ag _ _ l1 false _ ?aj ?ai ?au ?ar ?bD ?bC A5.out).mono ?_); (case aj => exact (Kd.Ql aI.out HB.out)); (case ai => exact aQ.out); (case au => exact (Kd.Ql aW.out HB.out)); (case ar => exact aT.out); (case bD => exact (Kd.Ql HR1.out HB.out)); (case bC => exact HC1.out); rintro e w16 ⟨rfl, hb⟩; refine ⟨_, rfl, ?_⟩; replace ab := aa.mk (Qc ab.out hb); replace HB := aa.mk (Qd bB hb); (try clear hb); (try clear hb2); (try clear hk); (try clear hi)))
   go_ret; exact ⟨by first | rfl | (simp [Qo, Qn] <;> rfl) | (simp [*, Qo, Qn] <;> rfl), bB⟩
 ·rw [if_neg c4] at H; have cn : (t102 == 0) = false := beq_eq_false_iff_ne.mpr c4; have eC : (t102 != 0) = true := bne_iff_ne.mpr c4; obtain rfl := Option.some.inj H; go_enter Try.func43, Try.ntmps43; go_wp2_with (first | ((with_reducible refine QD (N := 2) rfl ?_); refine QJ ?hg (N := 2) ?hd (cs := #[.slice aq ae.length an, .slice ak ag.length ao]) (t := 24) ?hr ?_; (case hd => rfl); (case hg => rfl); (case hr => first | (go_simp; done) | (go_simp; rfl)); intro af hg w17 hbox hb; have ab := aa.mk (hbox); have bA := aa.mk ((by rw [hg]; exact (Qe bB) : w.heap.size ≤ af)); have bk := aa.mk ((by rw [hg]; exact (Qe bB) : w.heap.size ≤ af)); replace HB := aa.mk (Qd bB hb); clear hb hbox hg; have oC : w17.cell? ⟨af, 0, none⟩ = some (.slice aq ae.length an) := (Qa ab.out 0).trans rfl; have oB : w17.cell? ⟨af, 1, none⟩ = some (.slice ak ag.length ao) := (Qa ab.out 1).trans rfl; have oa := Qb ab.out 0; have n9 := Qb ab.out 1) | ((with_reducible refine Qk (f := 85) rfl ?_); refine QE (some 8) rfl rfl Try.func85 (by kernel_rfl) rfl #[.agg #[.slice aq ae.length an, .slice ak ag.length ao], .slice A1 l1.length c1] rfl hA ?_; (with_reducible refine (Zv.calls k _ _ ae _ _ ag _ _ l1 t102 _ ?aj ?ai ?au ?ar ?bD ?bC A3.out).mono ?_); (case aj => exact (Kd.Ql aI.out HB.out)); (case ai => exact aQ.out); (case au => exact (Kd.Ql aW.out HB.out)); (case ar => exact aT.out); (case bD => exact (Kd.Ql HR1.out HB.out)); (case bC => exact HC1.out); rintro e w19 ⟨rfl, hb⟩; refine ⟨_, rfl, ?_⟩; replace ab := aa.mk (Qc ab.out hb); replace HB := aa.mk (Qd bB hb); (try clear hb); (try clear hb2); (try clear hk); (try clear hi)))
  go_ret; exact ⟨by first | rfl | (simp [Qo, Qn] <;> rfl) | (simp [*, Qo, Qn] <;> rfl), bB⟩
end Go.Proofs.Ytdneelgnmnpanaa.P
end
