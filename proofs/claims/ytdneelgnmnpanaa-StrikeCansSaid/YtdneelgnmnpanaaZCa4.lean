/- What the claim's last text wants, part 4: functions of the translation as Lean functions with their contracts, and plain theorems; no conditions beyond those that each theorem names. -/
import Derived.Test.YtdneelgnmnpanaaZCa3
import Derived.WalkSpells
import Derived.Deep.Slices
import Derived.Deep.Fields
import Derived.ChangeSame
import Derived.ChangeSlices
import Derived.SizedLaws
import Derived.Lib.SmallJoins
set_option linter.unusedVariables false
set_option linter.unusedSimpArgs false
section
namespace Go.Proofs.Ytdneelgnmnpanaa.P
open Go.RowKit Go.Proofs.YtdneelgnmnpanaaW.PrintWords Go.Proofs.YtdneelgnmnpanaaW.PrintLast Go.Proofs.YtdneelgnmnpanaaW.PrintMore
def nzi : List Int → Int
  | [] => -1
  | x :: l => if x ≠ 0 then 0 else if nzi l < 0 then -1 else nzi l + 1
theorem nzi_at : ∀ (l : List Int) (n : Nat) (hn : n < l.length), (∀ k, k < n → l.getD k 0 = 0) → l[n] ≠ 0 → nzi l = n
  | [], n, hn, _, _ => by simp at hn
  | x :: l, 0, hn, _, h0 => by rw [nzi, if_pos (by simpa using h0)]; rfl
  | x :: l, n + 1, hn, h, h0 => by
    have hx := h 0 (by omega); simp only [List.getD_cons_zero] at hx; rw [nzi, if_neg (fun hh => hh hx), nzi_at l n (by simpa using hn) (fun k hk => by have := h (k + 1) (by omega); simpa using this) (by simpa using h0), if_neg (by omega)]; omega
theorem nzi_none : ∀ (l : List Int), (∀ k, k < l.length → l.getD k 0 = 0) → nzi l = -1
  | [], _ => rfl
  | x :: l, h => by
    have hx := h 0 (by simp); simp only [List.getD_cons_zero] at hx; rw [nzi, if_neg (fun hh => hh hx), nzi_none l (fun k hk => by have := h (k + 1) (by simpa using hk); simpa using this)]; rfl
theorem nzi_lt : ∀ (l : List Int), nzi l < l.length
  | [] => by simp [nzi]
  | x :: l => by
    have := nzi_lt l; rw [nzi]; split
    · rw [List.length_cons]; omega
    · split <;> rw [List.length_cons] <;> omega
theorem UF (l : List Int) (n : Nat) (h : n < l.length) : rd l (n : Int) = l[n] := by simp [rd, h]
theorem index_find (l : List Int) (a : Int) (hl : l.length ≤ 1000) : ∀ (d n : Nat), n + d = l.length → ∃ k r, Ze.l0 k l a (l.length : Int) (n : Int) = some r ∧ decide (r ≥ 0) = decide (a ∈ l.drop n) := by
  intro d; induction d with
  | zero =>
    intro n hn; refine ⟨1, -1, ?_, ?_⟩
    · rw [Ze.l0, if_neg (by omega)]
    · rw [List.drop_eq_nil_of_le (by omega)]; simp
  | succ d ih =>
    intro n hn; have hlt : n < l.length := by omega
    by_cases h : a = l[n]
    · refine ⟨1, (n : Int), ?_, ?_⟩
      · rw [Ze.l0, if_pos (by omega), if_pos (by omega), if_pos (by omega), UF l n hlt, if_pos h]
      · have : a ∈ l.drop n := by rw [List.drop_eq_getElem_cons hlt, ← h]; exact List.mem_cons_self ..
        rw [decide_eq_true this, decide_eq_true (by omega)]
    · obtain ⟨k, r, h1, h2⟩ := ih (n + 1) (by omega); refine ⟨k + 1, r, ?_, ?_⟩
      · rw [Ze.l0, if_pos (by omega), if_pos (by omega), if_pos (by omega), UF l n hlt, if_neg h, wrp (by omega) (by omega)]; exact h1
      · rw [h2, List.drop_eq_getElem_cons hlt]; have : a ∈ l[n] :: l.drop (n + 1) ↔ a ∈ l.drop (n + 1) := ⟨fun hh => by rcases List.mem_cons.1 hh with e | e; exact absurd e h; exact e, fun hh => List.mem_cons_of_mem _ hh⟩; exact (decide_eq_decide.2 this).symm
theorem UX (A0 : Option Addr) (c0 : Nat) (l0 : List Int) (a : Int) (w : World) (hr0 : Kd.C (Kd.int .i64) w A0 l0.length l0) (hc0 : l0.length ≤ c0) (hl : l0.length ≤ 1000) :
    Calls Try.prog 116 #[.slice A0 l0.length c0, .int .i64 a] w fun e w' => e = .returned (.bool (decide (a ∈ l0))) ∧ Below w.heap.size w w' := by
  obtain ⟨k, r, h1, h2⟩ := index_find l0 a hl l0.length 0 (by omega); have h : ZT.f k l0 a = some (decide (a ∈ l0)) := by
    unfold ZT.f Ze.f; rw [show Ze.l0 k l0 a (l0.length : Int) 0 = some r from h1, Option.bind_some, h2, List.drop_zero]
  exact (ZT.calls k A0 c0 l0 a _ w hr0 hc0 h).mono fun e w' hh => ⟨hh.1, hh.2.below⟩
set_option maxHeartbeats 1000000 in
set_option maxRecDepth 100000 in
theorem isnz_calls (t : Int) (w : World) : Calls Try.prog 120 #[.int .i64 t] w fun e w' => e = .returned (.bool (t != 0)) ∧ Below w.heap.size w w' := by
  obtain ⟨b, hb⟩ : ∃ b, b = (t != 0) := ⟨_, rfl⟩; go_enter Try.func120, Try.ntmps120; go_wp2_with fail
  go_ret; exact ⟨rfl, Below.refl _ _⟩
set_option maxHeartbeats 2000000 in
set_option maxRecDepth 100000 in
theorem nzi_calls (A0 : Option Addr) (c0 : Nat) (l0 : List Int) (w : World) (hr0 : Kd.C (Kd.int .i64) w A0 l0.length l0) (hc0 : l0.length ≤ c0) (hl : l0.length ≤ 1000) :
    Calls Try.prog 119 #[.slice A0 l0.length c0, .func (.func 120) #[] #[]] w fun e w' => e = .returned (.int .i64 (nzi l0)) ∧ Below w.heap.size w w' := by
  have HR0 := aa.mk hr0; have HC0 := aa.mk hc0; have HL := aa.mk hl; clear hr0 hc0; have HB := aa.mk (Below.refl w.heap.size w); go_enter Try.func119, Try.ntmps119; go_wp2_with fail
  go_loopw [8] (fun i w' => ∃ n : Nat, n ≤ l0.length ∧ i = .int .i64 n ∧ aa (∀ k, k < n → l0.getD k 0 = 0) ∧ aa (Below w.heap.size w w')) (fun i _ => l0.length - (intOf i).toNat)
  case atStart => exact ⟨0, by omega, rfl, ⟨fun q hq => absurd hq (by omega)⟩, by first | exact HB | exact ⟨HB.out.drew⟩⟩
  case round =>
    clear HB; obtain ⟨n, hn, rfl, HA, HB⟩ := hrel; by_cases hlt : n < l0.length
    · have p1 : 0 ≤ (n : Int) := by omega
      have q1 : (n : Int) < (l0.length : Int) := by omega
      obtain ⟨ad1, e1, hx0⟩ := Kd.Zi HR0.out (n : Int) p1 q1; cases e1; replace hx0 := (HB.out.cell (World.block_lt_of_cell? w _ hx0)).trans hx0; rw [UF l0 n hlt] at hx0; simp only [Int.toNat_natCast] at hx0; obtain ⟨x, hx⟩ : ∃ x, x = l0[n] := ⟨_, rfl⟩; rw [← hx] at hx0; have HX := aa.mk hx; have HY := aa.mk (fun W => isnz_calls x W); obtain ⟨b, hb⟩ : ∃ b, b = (x != 0) := ⟨_, rfl⟩; rw [← hb] at HY; have HBB := aa.mk hb; clear hx hb; cases b with
      | true =>
        go_wp2_with (first
          | ((with_reducible refine QN (N := 16) rfl ?_); refine V0 (some 16) rfl rfl 11 #[] rfl Try.func120 (by kernel_rfl) rfl rfl #[.int .i64 x] (by (try simp only [List.map_toArray, List.map_cons, List.map_nil]); first | done | rfl) ?_; (with_reducible refine (HY.out _).mono ?_); rintro e w9 ⟨rfl, hb⟩; refine ⟨_, rfl, ?_⟩; replace HB := aa.mk (Qa (by repeat (first | (with_reducible first | exact HB.out | apply Q0 | apply QI | apply QR) | exact HB.out)) hb); (try clear hb)))
        go_ret; refine ⟨?_, HB.out⟩; have h1 := HBB.out.symm; rw [nzi_at l0 n hlt HA.out (by rw [← HX.out]; simpa using h1)]; rfl
      | false =>
        go_wp2_with (first
          | ((with_reducible refine QN (N := 16) rfl ?_); refine V0 (some 16) rfl rfl 11 #[] rfl Try.func120 (by kernel_rfl) rfl rfl #[.int .i64 x] (by (try simp only [List.map_toArray, List.map_cons, List.map_nil]); first | done | rfl) ?_; (with_reducible refine (HY.out _).mono ?_); rintro e w9 ⟨rfl, hb⟩; refine ⟨_, rfl, ?_⟩; replace HB := aa.mk (Qa (by repeat (first | (with_reducible first | exact HB.out | apply Q0 | apply QI | apply QR) | exact HB.out)) hb); (try clear hb)))
        go_roundw
        case rel =>
          refine ⟨n + 1, by omega, by go_num, ⟨fun k hk => ?_⟩, HB⟩; by_cases hk2 : k < n
          · exact HA.out k hk2
          · obtain rfl : k = n := by omega
            have h1 := HBB.out.symm; have h2 : x = 0 := by simpa using h1
            have h3 : l0.getD k 0 = l0[k] := by rw [List.getD_eq_getElem?_getD, List.getElem?_eq_getElem hlt]; rfl
            exact h3.trans (HX.out.symm.trans h2)
        case measure => simp [intOf]; omega
    · obtain rfl : n = l0.length := by omega
      go_wp2_with fail
      go_ret; exact ⟨by rw [nzi_none l0 HA.out]; rfl, HB.out⟩
def Z8.f (l0 : List Int) : Option (List Int) := if l0.length < 17592186044416 then some l0 else none
set_option maxHeartbeats 1000000 in
set_option maxRecDepth 100000 in
theorem Z8.calls (A0 : Option Addr) (c0 : Nat) (l0 : List Int) (r : List Int) (w : World) (hr0 : Kd.C (Kd.int .i64) w A0 l0.length l0) (hc0 : l0.length ≤ c0) (h : Z8.f l0 = some r) :
    Calls Try.prog 79 #[.slice A0 l0.length c0] w fun e w' => ∃ v0_ : Value, e = .returned (v0_) ∧ Kd.R (Kd.int .i64) 3 w' w.heap.size (fun _ => True) v0_ r ∧ Below w.heap.size w w' := by
  unfold Z8.f at h; by_cases hl : l0.length < 17592186044416
  case neg => rw [if_neg hl] at h; cases h
  rw [if_pos hl] at h; obtain rfl := Option.some.inj h; clear h; have HB := aa.mk (Below.refl w.heap.size w); have hu3 := Try.underlying3; cases A0 with
  | none =>
    obtain rfl : l0 = [] := by
      cases l0 with
      | nil => rfl
      | cons x r => obtain ⟨ad, e, _⟩ := hr0.2.2 (by simp); cases e
    have hnil : ∀ W, (binOp .eql 28 (.slice none 0 c0) (.slice none 0 0)).run Try.prog W = .ok (.bool true) W := fun W => Lib.run_eql_slice_nil W _ _ none 0 c0 0 0 Try.underlying28
    clear hr0 hc0; go_enter Try.func79, Try.ntmps79; go_wp2_with fail
    go_ret; exact ⟨_, rfl, Kd.Yr _ _ _ _ _, HB.out⟩
  | some ad =>
    have hnil : ∀ W, (binOp .eql 28 (.slice (some ad) l0.length c0) (.slice none 0 0)).run Try.prog W = .ok (.bool false) W := fun W => Lib.run_eql_slice_nil W _ _ (some ad) _ c0 0 0 Try.underlying28
    have HR0 := aa.mk hr0; have eG := aa.mk (show ([] : List Int) = ([] : List Int) from rfl); obtain ⟨dz, cC⟩ : ∃ y_ : List Int, y_ = (([] : List Int)) := ⟨_, rfl⟩; obtain ⟨ku, cK⟩ : ∃ y_ : List Int, y_ = (dz ++ l0) := ⟨_, rfl⟩; have HY := aa.mk (show ku = l0 by rw [cK, cC]; rfl); have qg := aa.mk (show dz.length + l0.length < 17592186044416 by rw [cC]; simpa using hl); clear eG; have eG := aa.mk cC; have iZ := aa.mk cK; clear hr0 hc0 hl cC cK; go_enter Try.func79, Try.ntmps79; go_wp2_with (first | ((with_reducible refine QN (N := 5) rfl ?_); refine Kd.YU (Kd.int .i64) _ 3 ?hg (N := 5) ?hd (xs := ([] : List Int)) (inner := []) (ok := fun _ => True) (okp := fun _ => True) ?hr ?hp (fun _ hk => hk) trivial (Below.refl _ _) (Nat.le_refl _) (by simp) ?_; (case hd => rfl); (case hg => rfl); (case hr => first | (go_simp; done) | (go_simp; rfl)); (case hp => exact (Reps.none _ _)); intro il w3 ho4 hb hg_ hnew_; clear hg_ hnew_; (first | rw [← eG.out] at ho4 | (simp only [Int.reduceToNat] at ho4; rw [← eG.out] at ho4)); have a8 := aa.mk (Kd.Zh ho4 (Qb (by repeat (first | (with_reducible first | exact HB.out | apply Q0 | apply QI | apply QR) | exact HB.out)))); replace HB := aa.mk (Qa (by repeat (first | (with_reducible first | exact HB.out | apply Q0 | apply QI | apply QR) | exact HB.out)) hb); clear hb ho4) | ((with_reducible refine Zs (b := .append) (xs := #[.tmp 5, .tmp 6]) rfl ?_); at_builtin; refine Kd.Yz (Kd.int .i64) (w0 := w) w.heap.size rfl (.tmp 5) (.tmp 6) 28 3 (.int .i64 0) 8 rfl Try.underlying28 info3 rfl (by decide) (by omega) il dz l0 _ _ _ (fun _ => True) (fun _ => False) rfl rfl ?aO ?aR (fun _ _ h => h) (fun _ h => h.elim) ?aF ?aB ?aS ?aL ?_; (case aR => repeat (first | exact (Kd.Qq HR0.out HB.out) | (with_reducible refine Kd.C_alloc ?_ _) | (with_reducible refine Kd.ZF ?_ _) | (with_reducible refine Kd.C_drew ?_))); (case aB => exact (by repeat (first | (with_reducible first | exact HB.out | apply Q0 | apply QI | apply QR) | exact HB.out))); (case aF => exact (fun _ _ => trivial)); (case aO => exact (by (with_reducible repeat (first | apply Kd.R_alloc | apply Kd.R_drewN | apply Kd.QO)); exact a8.out)); (case aS => exact (Qb (by repeat (first | (with_reducible first | exact HB.out | apply Q0 | apply QI | apply QR) | exact HB.out)))); (case aL => have := qg.out; omega); intro jP w5 ho hb hg hat; rw [← iZ.out] at ho; replace HB := aa.mk (hb); have bu := aa.mk (ho); clear a8; clear ho hb hg hat))
    go_ret; exact ⟨_, rfl, by rw [← HY.out]; exact bu.out, HB.out⟩
def some6 (js : List Int) (r : List Int) : List Int := js.map fun j => r.getD j.toNat 0
def colOf (js : List Int) (x : S76) : List Int := pad (some6 js (L6 x))
def Z7.f (l0 : List S76) (l1 : List Int) : Option (List S76) :=
 if 0 < l0.length ∧ l0.length ≤ 1000 ∧ l1.length ≤ 6 ∧ ∀ j ∈ l1, 0 ≤ j ∧ j < 6 then some (l0.map fun x => mk6 (colOf l1 x)) else none
set_option maxHeartbeats 4000000 in
set_option maxRecDepth 100000 in
theorem Z7.calls (A0 : Option Addr) (c0 : Nat) (l0 : List S76) (A1 : Option Addr) (c1 : Nat) (l1 : List Int) (r : List S76) (w : World) (hr0 : Kd.C k76 w A0 l0.length l0) (hc0 : l0.length ≤ c0) (hr1 : Kd.C (Kd.int .i64) w A1 l1.length l1) (hc1 : l1.length ≤ c1) (h : Z7.f l0 l1 = some r) :
  Calls Try.prog 129 #[.slice A0 l0.length c0, .slice A1 l1.length c1] w fun e w' => ∃ v0_ : Value, e = .returned (v0_) ∧ Kd.R k76 76 w' w.heap.size (fun _ => True) v0_ r ∧ Below w.heap.size w w' := by
 unfold Z7.f at h; split at h
 case isFalse => cases h
 rename_i hcond
 obtain ⟨z0, z1, z2, z3⟩ := hcond; obtain rfl := Option.some.inj h; clear h; have mF := Try.underlying76; have pd := Try.underlying65; have tf := Try.underlying28; have mG := size76; obtain ⟨n, hn⟩ : ∃ n, n = l0.length := ⟨_, rfl⟩; have HR0 := aa.mk hr0; have HC0 := aa.mk hc0; have HR1 := aa.mk hr1; have HC1 := aa.mk hc1; have HZ3 := aa.mk z3; obtain ⟨ad, eL, hcL⟩ := hr0.2.2 z0; subst eL; have HL := aa.mk hcL; clear hcL hr0 hc0 hr1 hc1 z3; have HB := aa.mk (Below.refl w.heap.size w); go_enter Try.func129, Try.ntmps129; go_wp2_with (first
  | ((with_reducible refine QN (N := 11) rfl ?_); refine Kd.JY k76 _ 76 rfl (N := 11) rfl 65 _ _ rfl (l0.length : Int) rfl rfl Try.underlying65 (.agg #[(.int .i64 0), (.int .i64 0), (.int .i64 0), (.int .i64 0), (.int .i64 0), (.int .i64 0)]) 48 info76 rfl (by decide) (by omega) z76 (ok := fun _ => True) (okp := fun _ => True) (Ur _ _ _ z76) (fun _ hk => hk) trivial (by omega) (by simp only [Int.toNat_natCast]; omega) (Below.refl _ _) (Nat.le_refl _) ?_; intro v14 w14 ho hb hgr hat; obtain ⟨g, c, hv, hgw, -, hbl, hlc, hcm⟩ := (Bl.of_R ho).resolve_left (fun hh => absurd (congrArg List.length hh.2) (by rw [List.length_replicate, List.length_nil, Int.toNat_natCast]; omega)); rw [List.length_replicate, Int.toNat_natCast] at hv hlc; subst hv; have HBL := aa.mk hbl; have HCM := aa.mk hcm; have HGW := aa.mk hgw; have n0_ := aa.mk (Qa HB.out hb); clear HB hbl hcm hgw; have HB := n0_; clear n0_ ho hb hgr hat))
 have HM := aa.mk (show Made (fun k => colOf l1 (l0.getD k z76)) l0.length 0 (pad []) ((List.replicate (l0.length : Int).toNat z76).map L6) from ⟨by simp, fun q hq => by
  rw [List.map_replicate, Int.toNat_natCast, List.getElem?_replicate, if_pos hq, if_neg (by omega)]; split <;> rfl⟩)
 generalize (List.replicate (l0.length : Int).toNat z76).map L6 = M at HM HBL; go_loopw [14] (fun k_ w' => ∃ (k : Nat) (M : List (List Int)), k ≤ l0.length ∧ k_ = .int .i64 k ∧ aa (Made (fun k => colOf l1 (l0.getD k z76)) l0.length k (pad []) M) ∧ aa (Bl w' g M c) ∧ aa (Below w.heap.size w w')) (fun k_ _ => l0.length - (intOf k_).toNat)
 case atStart => exact ⟨0, M, Nat.zero_le _, rfl, HM, HBL, HB⟩
 case round =>
  clear HM HBL HB M; obtain ⟨k, M, hk, rfl, HM, HBL, HB⟩ := hrel; by_cases hkn : k < l0.length
  ·go_wp2_with fail
   have HM1 := aa.mk (show Made (fun k => colOf l1 (l0.getD k z76)) l0.length k (pad (some6 (l1.take 0) (L6 (l0.getD k z76)))) M from HM.out); clear HM; go_loopw [19] (fun i_ w' => ∃ (i : Nat) (M : List (List Int)), i ≤ l1.length ∧ i_ = .int .i64 i ∧ aa (Made (fun k => colOf l1 (l0.getD k z76)) l0.length k (pad (some6 (l1.take i) (L6 (l0.getD k z76)))) M) ∧ aa (Bl w' g M c) ∧ aa (Below w.heap.size w w')) (fun i_ _ => l1.length - (intOf i_).toNat)
   case atStart => exact ⟨0, M, Nat.zero_le _, rfl, HM1, HBL, HB⟩
   case round =>
    clear HM1 HBL HB M; obtain ⟨i, M, hi, rfl, HM, HBL, HB⟩ := hrel; by_cases hil : i < l1.length
    ·obtain ⟨ad2, e2, hx2⟩ := Kd.Zi HR1.out (i : Int) (by omega) (by omega); subst e2; replace hx2 := (HB.out.cell (World.block_lt_of_cell? w _ hx2)).trans hx2; obtain ⟨x, hxe⟩ : ∃ x, x = rd l1 (i : Int) := ⟨_, rfl⟩; have hxi : x = l1[i] := by rw [hxe]; simp [rd, hil]
     obtain ⟨hx0, hx6⟩ := HZ3.out x (by rw [hxi]; exact List.getElem_mem hil); rw [← hxe] at hx2; obtain ⟨q, rfl⟩ : ∃ q : Nat, x = (q : Int) := ⟨x.toNat, by omega⟩; obtain ⟨cs, _, hK, hcell⟩ := HL.out k l0[k] (List.getElem?_eq_getElem hkn); obtain rfl := UM hK; have hrd := hcell q (.int .i64 ((L6 l0[k]).getD q 0)) (by
      have h6 : q < 6 := by omega
      match q, h6 with
      | 0, _ => rfl
      | 1, _ => rfl
      | 2, _ => rfl
      | 3, _ => rfl
      | 4, _ => rfl
      | 5, _ => rfl)
     replace hrd := (HB.out.cell (World.block_lt_of_cell? w _ hrd)).trans hrd; obtain ⟨hkM, hrow⟩ := HM.out.at hkn; have hi6 : i < 6 := by omega
     have hf := HBL.out.frozen (k * 6 + i); have hc := HBL.out.cell hkM hi6; generalize M[k].getD i 0 = old at hc; rw [show k76.sz = 6 from rfl, ← Addr.add_add] at hrd; simp only [Int.toNat_natCast] at hx2; generalize hy : (L6 l0[k]).getD q 0 = y at hrd; have hq6 : q < 6 := by omega
     have HXI := aa.mk hxi; have HQ6 := aa.mk hq6; have HKM := aa.mk hkM; have HROW := aa.mk hrow; have HY := aa.mk hy; have Bv : (q : Int) < 6 := by omega
     clear hK hcell hxe hxi hrow hq6 hx0 hx6 hy; go_wp2_with fail
     go_region; go_wp2_with fail
     have HNX := aa.mk (show pad (some6 (l1.take (i + 1)) (L6 (l0.getD k z76))) = M[k].set i y by
      have e1 : l0.getD k z76 = l0[k] := by rw [List.getD_eq_getElem?_getD, List.getElem?_eq_getElem hkn]; rfl
      have hl : (some6 (l1.take i) (L6 l0[k])).length = i := by simp [some6]; omega
      have := JD (l := some6 (l1.take i) (L6 l0[k])) y (by rw [hl]; exact hi6); rw [hl] at this; rw [HROW.out, e1, this]; unfold some6; rw [List.take_succ_eq_append_getElem hil, List.map_append, List.map_singleton, ← HXI.out, Int.toNat_natCast, HY.out])
     go_roundw
     case rel => exact ⟨i + 1, M.set k (M[k].set i y), by omega, by go_num, ⟨by rw [HNX.out]; exact HM.out.set _⟩, ⟨HBL.out.store HKM.out hi6 y⟩, ⟨(HB.out.setCell HGW.out _).drew⟩⟩
     case measure => simp [intOf]; omega
    ·obtain rfl : i = l1.length := by omega
     have HM3 := aa.mk (show Made (fun k => colOf l1 (l0.getD k z76)) l0.length (k + 1) (pad []) M from (by
      have := HM.out; rw [List.take_length] at this; exact this.next))
     go_wp2_with fail
     go_roundw
     case rel => exact ⟨k + 1, M, by omega, by go_num, HM3, HBL, HB⟩
     case measure => simp [intOf]; omega
  ·obtain rfl : k = l0.length := by omega
   have hall := HM.out.all; go_wp2_with fail
   go_ret; refine ⟨_, rfl, ?_, HB.out⟩; have hR := HBL.out.R (base := w.heap.size) (ok := fun _ => True) (n := l0.length) HGW.out trivial (by rw [HM.out.1]; exact Nat.le_refl _) HCM.out; have he : (List.range l0.length).map (fun k => colOf l1 (l0.getD k z76)) = l0.map (colOf l1) := by
    apply List.ext_getElem?; intro q; by_cases hq : q < l0.length
    ·simp [hq]
    ·rw [List.getElem?_eq_none (by simp; omega), List.getElem?_eq_none (by simp; omega)]
   rw [List.take_of_length_le (by rw [HM.out.1]; exact Nat.le_refl _), hall, he, List.map_map] at hR; exact hR
end Go.Proofs.Ytdneelgnmnpanaa.P
end
section
namespace Go.Proofs.Ytdneelgnmnpanaa.P
open Go.RowKit Go.Proofs.YtdneelgnmnpanaaW.PrintWords
open Go.ChangeShapes Go.WideShapes Go.Deep
theorem addr_zero' (ad : Addr) : ad.add 0 = ad := by
  cases ad; unfold Addr.add; split <;> simp_all
section
variable {H : Type} {enc : TypeId × Value → H} {w : World} {base : Nat} {held : Bool}
theorem C_take {α : Type} {K : Kd α} {a : Option Addr} {L : List α} (n : Nat) (h : Kd.C K w a L.length L) : Kd.C K w a (L.take n).length (L.take n) := by
  refine ⟨rfl, ?_, fun hn => ?_⟩
  · have := h.2.1; simp; omega
  · obtain ⟨ad, e, hc⟩ := h.2.2 (by simp at hn; omega); refine ⟨ad, e, fun j p hj => ?_⟩; rw [List.getElem?_take] at hj; split at hj
    · exact hc j p hj
    · cases hj
theorem open_row {fuel : Nat} {v : Value} {x : DataW H × List MemPlace} (h : DataW.trod enc Try.prog w base (fun _ => true) held fuel 28 [v] = some x) (hw : ∀ n ∈ x.1.weights Try.prog 28, n ≤ reachBytes) :
    ∃ a n q, v = .slice a n (q : List Int).length ∧ n ≤ q.length ∧ Kd.C (Kd.int .i64) w a q.length q ∧ q.length * 8 ≤ reachBytes := by
  rcases open_ints Try.underlying28 Try.underlying3 (by kernel_rfl) h with ⟨hcs, _⟩ | ⟨x0, l, c, zs, hcs, _, hl, hm, hz, hx, hcell, hwf⟩
  · simp at hcs; subst hcs; exact ⟨none, 0, [], rfl, Nat.le_refl _, ⟨rfl, by simp, fun h => absurd h (by simp)⟩, Nat.zero_le _⟩
  · simp at hcs; subst hcs; simp only [if_true] at hz; refine ⟨some x0, l, zs, by rw [hz], by omega, Kd.Vd (d := (0 : Int)) (h1 := fun _ => rfl) ⟨rfl, by unfold maxLen at hm; omega, fun _ => ⟨x0, rfl, fun j hj => hcell j (by omega)⟩⟩, ?_⟩; subst hx; have hu : Try.prog.underlying 28 = some (.slice 3) := Try.underlying28; have hB : Try.prog.bytesOf 3 = 8 := by kernel_rfl
    have := hw (zs.length * 8) (by
      simp only [DataW.weights, hu, hB]; refine List.mem_cons.2 (.inl ?_); simp [lits]; omega)
    exact this
theorem YT {P : Program} {e : TypeId} {n : Nat} : ∀ {ds : List (DataW H)} {d : DataW H}, d ∈ ds → n ∈ d.weights P e → n ∈ DataW.weightsAll P e ds
  | d0 :: ds, d, hd, hn => by
    rw [DataW.weightsAll]; rcases List.mem_cons.1 hd with rfl | hd
    · exact List.mem_append_left _ hn
    · exact List.mem_append_right _ (YT hd hn)
theorem open_tab {fuel : Nat} {v : Value} {x : DataW H × List MemPlace} (h : DataW.trod enc Try.prog w base (fun _ => true) held fuel 22 [v] = some x) (hw : ∀ n ∈ x.1.weights Try.prog 22, n ≤ reachBytes) :
    ∃ (a : Option Addr) (L Q : List (List Int)), v = .slice a L.length Q.length ∧ Kd.C (Kd.slice 3 (Kd.int .i64)) w a L.length L ∧ L.length ≤ Q.length ∧ Kd.C Full.kd w a Q.length Q ∧ Q.length * 24 ≤ reachBytes ∧ ∀ q ∈ Q, q.length * 8 ≤ reachBytes := by
  have hu : Try.prog.underlying 22 = some (.slice 28) := Try.underlying22; rcases open_slice hu h with ⟨hcs, _⟩ | ⟨x0, l, c, m, n, D, Pl, hcs, _, hl, hm, hmm, hx, hi⟩
  · simp at hcs; subst hcs; exact ⟨none, [], [], rfl, ⟨rfl, by simp, fun h => absurd h (by simp)⟩, Nat.le_refl _, ⟨rfl, by simp, fun h => absurd h (by simp)⟩, Nat.zero_le _, by simp⟩
  · simp at hcs; subst hcs; simp only [if_true] at hmm; subst hmm; have hB : Try.prog.bytesOf 28 = 24 := by kernel_rfl
    have hC : Try.prog.cellsOf 28 = 1 := by kernel_rfl
    have hD : ∀ i, i < m → ∀ k ∈ (D i).weights Try.prog 28, k ≤ reachBytes := by
      intro i him k hk; refine hw k ?_; rw [hx]; simp only [DataW.weights, hu]; refine List.mem_cons_of_mem _ ?_; by_cases hil : i < l
      · exact List.mem_append_left _ (YT (d := D i) (List.mem_map.2 ⟨i, List.mem_range.2 hil, rfl⟩) hk)
      · exact List.mem_append_right _ (YT (d := D i) (List.mem_map.2 ⟨i - l, List.mem_range.2 (by omega), by rw [show l + (i - l) = i by omega]⟩) hk)
    have hrow : ∀ i, i < m → ∃ (y : Option Addr × Nat × List Int), w.cell? (x0.add i) = some (.slice y.1 y.2.1 y.2.2.length) ∧ y.2.1 ≤ y.2.2.length ∧ Kd.C (Kd.int .i64) w y.1 y.2.2.length y.2.2 ∧ y.2.2.length * 8 ≤ reachBytes := by
      intro i him; obtain ⟨cs', hc, ht'⟩ := hi i him; rw [hC] at hc; obtain ⟨_, hcl, hat⟩ := World.cells?_some hc; match cs', hcl with
      | [u], _ =>
        obtain ⟨a, n1, q, rfl, h1, h2, h3⟩ := open_row ht' (hD i him); have := hat 0 (by omega); rw [Nat.mul_one, addr_zero'] at this; exact ⟨(a, n1, q), this, h1, h2, h3⟩
    obtain ⟨f, hf⟩ : ∃ f : Nat → Option Addr × Nat × List Int, ∀ i, i < m → w.cell? (x0.add i) = some (.slice (f i).1 (f i).2.1 (f i).2.2.length) ∧ (f i).2.1 ≤ (f i).2.2.length ∧ Kd.C (Kd.int .i64) w (f i).1 (f i).2.2.length (f i).2.2 ∧ (f i).2.2.length * 8 ≤ reachBytes := by
      refine ⟨fun i => if h : i < m then (hrow i h).choose else (none, 0, []), fun i hi => ?_⟩; simp only [hi, dif_pos]; exact (hrow i hi).choose_spec
    refine ⟨some x0, (List.range l).map fun i => (f i).2.2.take (f i).2.1, (List.range m).map fun i => (f i).2.2, by simp, ⟨rfl, by simp; unfold maxLen at hm; omega, fun _ => ⟨x0, rfl, fun j p hj => ?_⟩⟩, by simpa using hl, ⟨rfl, by simp; unfold maxLen at hm; omega, fun _ => ⟨x0, rfl, fun j p hj => ?_⟩⟩, ?_, fun q hq => ?_⟩
    · obtain ⟨hjm, hp⟩ := List.getElem?_eq_some_iff.1 hj; simp at hjm hp; obtain ⟨h1, h2, h3, _⟩ := hf j (by omega); subst hp; have hlen : ((f j).2.2.take (f j).2.1).length = (f j).2.1 := by simp; omega
      refine ⟨[.slice (f j).1 (f j).2.1 (f j).2.2.length], rfl, ⟨(f j).1, (f j).2.2.length, by rw [hlen], by rw [hlen]; exact h2, C_take _ h3⟩, fun i u hu => ?_⟩; have hi0 : i = 0 := by
        have := (List.getElem?_eq_some_iff.1 hu).1; simp at this; omega
      subst hi0; show w.cell? (x0.add (j * 1 + 0)) = some u
      rw [Nat.mul_one, Nat.add_zero, h1]; exact hu
    · obtain ⟨hjm, hp⟩ := List.getElem?_eq_some_iff.1 hj; simp at hjm hp; obtain ⟨h1, h2, h3, _⟩ := hf j hjm; subst hp; refine ⟨[.slice (f j).1 (f j).2.1 (f j).2.2.length], rfl, ⟨(f j).1, (f j).2.1, rfl, h2, h3⟩, fun i u hu => ?_⟩; have hi0 : i = 0 := by
        have := (List.getElem?_eq_some_iff.1 hu).1; simp at this; omega
      subst hi0; show w.cell? (x0.add (j * 1 + 0)) = some u
      rw [Nat.mul_one, Nat.add_zero, h1]; exact hu
    · have := hw (m * 24) (by
        rw [hx]; simp only [DataW.weights, hu, hB]; refine List.mem_cons.2 (.inl ?_); simp; omega)
      simpa using this
    · obtain ⟨i, hi2, rfl⟩ := List.mem_map.1 hq; exact (hf i (List.mem_range.1 hi2)).2.2.2
theorem w24 {y0 y1 : DataW H} {n : Nat} (h : n ∈ y0.weights Try.prog 22 ∨ n ∈ y1.weights Try.prog 22) : n ∈ (DataW.agg [y0, y1]).weights Try.prog 24 := by
  have hu := Try.underlying24; simp only [DataW.weights, hu, List.map_cons, List.map_nil, DataW.weightsEach, List.append_nil, List.mem_append]; exact h
theorem w30 {y0 y1 y2 : DataW H} {n : Nat} (h : n ∈ y0.weights Try.prog 28 ∨ n ∈ y1.weights Try.prog 28) : n ∈ (DataW.agg [y0, y1, y2]).weights Try.prog 30 := by
  have hu := Try.underlying30; simp only [DataW.weights, hu, List.map_cons, List.map_nil, DataW.weightsEach, List.append_nil, List.mem_append]; rcases h with h | h
  · exact .inl h
  · exact .inr (.inl h)
theorem sized_at {ts : List TypeId} {ds : List (DataW H)} {j : Nat} {t : TypeId} {d : DataW H} (hsz : (DataW.weightsEach Try.prog ts ds).all (· ≤ reachBytes) = true) (ht : ts[j]? = some t) (hd : ds[j]? = some d) : ∀ n ∈ d.weights Try.prog t, n ≤ reachBytes := fun n hn => by
  have := List.all_eq_true.1 hsz n (DataW.weights_mem_each ht hd n hn); simpa using this
end
end Go.Proofs.Ytdneelgnmnpanaa.P
end
section
namespace Go.Proofs.Ytdneelgnmnpanaa.P
open Go.RowKit Go.Proofs.YtdneelgnmnpanaaW.PrintWords Go.Proofs.YtdneelgnmnpanaaW.PrintLast Go.Proofs.YtdneelgnmnpanaaW.PrintMore
attribute [local go_sem] max2_int min2_int max_two min_two max_three min_three max_four min_four
mutual
def Ql.j0 : Nat → Bool → List (List Int) → List (List Int) → Option (Int)
 | 0, _, _, _ => none
 | k + 1, x25, av, aw => if x25 = true then (some 1) else ((Zo.f av aw).bind fun t106 => (Ql.l0 k t106 (t106.length : Int) 0 av aw))
def Ql.l0 : Nat → List (List Int) → Int → Int → List (List Int) → List (List Int) → Option (Int)
 | 0, _, _, _, _, _ => none
 | k + 1, x31, x32, x33, av, aw => if x33 < x32 then (if 0 ≤ x33 then (if x33 < (x31.length : Int) then (if 0 < (av.length : Int) then ((Zp.f (Qu x31 x33) ((Qu av 0).length : Int) 0 9).bind fun t111 => (if t111 = true then ((Qy.f k (Qu x31 x33)).bind fun t112 => (if t112 = 0 then (some 1) else (Ql.l0 k x31 x32 (wrap64 (x33 + 1)) av aw))) else (some 1))) else (none)) else (none)) else (none)) else (some 0)
end
def Ql.f (k : Nat) (ae : List (List Int)) (af : List (List Int)) : Option (Int) := (Zk.f (ae.length : Int) 1 3).bind fun t102 => (if t102 = true then ((Zk.f (af.length : Int) 1 3).bind fun t103 => (if t103 = true then (if 0 < (ae.length : Int) then ((Zk.f ((Qu ae 0).length : Int) 1 4).bind fun t105 => (Ql.j0 k (!t105) ae af)) else (none)) else (Ql.j0 k true ae af))) else (Ql.j0 k true ae af))
theorem Ql.ZS : ∀ k, (∀ y0 y1 y2, LeO (Ql.j0 k y0 y1 y2) (Ql.j0 (k + 1) y0 y1 y2)) ∧ (∀ y0 y1 y2 y3 y4, LeO (Ql.l0 k y0 y1 y2 y3 y4) (Ql.l0 (k + 1) y0 y1 y2 y3 y4))
 | 0 => ⟨fun _ _ _ r h => by simp [Ql.j0] at h, fun _ _ _ _ _ r h => by simp [Ql.l0] at h⟩
 | k + 1 => by
  obtain ⟨ih0, ih1⟩ := Ql.ZS k; refine ⟨?_, ?_⟩ <;> intros <;> (first | unfold Ql.j0 | unfold Ql.l0) <;> repeat' first | (with_reducible exact ih0 _ _ _) | (with_reducible exact ih1 _ _ _ _ _) | (with_reducible exact Qy.mono _ _) | (with_reducible exact LeO.refl _) | (with_reducible exact LeO.none _) | (with_reducible refine LeO.ite ?_ ?_) | (with_reducible refine LeO.bind ?_ (fun _ => ?_)) | exact ih0 _ _ _ | exact ih1 _ _ _ _ _ | exact Qy.mono _ _ | exact LeO.none _ | refine LeO.ite ?_ ?_ | refine LeO.bind ?_ (fun _ => ?_)
theorem Ql.mono : ∀ a0 a1 k, LeO (Ql.f k a0 a1) (Ql.f (k + 1) a0 a1) := by
 intro a0 a1 k; obtain ⟨ih0, ih1⟩ := Ql.ZS k; unfold Ql.f; repeat' first | (with_reducible exact ih0 _ _ _) | (with_reducible exact ih1 _ _ _ _ _) | (with_reducible exact Qy.mono _ _) | (with_reducible exact LeO.refl _) | (with_reducible exact LeO.none _) | (with_reducible refine LeO.ite ?_ ?_) | (with_reducible refine LeO.bind ?_ (fun _ => ?_)) | exact ih0 _ _ _ | exact ih1 _ _ _ _ _ | exact Qy.mono _ _ | exact LeO.none _ | refine LeO.ite ?_ ?_ | refine LeO.bind ?_ (fun _ => ?_)
set_option maxHeartbeats 8000000 in
set_option maxRecDepth 100000 in
theorem Ql.calls (k : Nat) (ak : Option Addr) (an : Nat) (ae : List (List Int)) (aj : Option Addr) (al : Nat) (af : List (List Int)) (r : Int) (w : World) (aM : Kd.C (Kd.slice 3 (Kd.int .i64)) w ak ae.length ae) (aQ : ae.length ≤ an) (aK : Kd.C (Kd.slice 3 (Kd.int .i64)) w aj af.length af) (aN : af.length ≤ al) (h : Ql.f k ae af = some r) :
  Calls Try.prog 38 #[.agg #[.slice ak ae.length an, .slice aj af.length al]] w fun e w' => e = .returned (.int .i64 r) ∧ Below w.heap.size w w' := by
 have ej := Try.underlying24; have ay := aa.mk aM; have aA := aa.mk aQ; clear aM aQ; have az := aa.mk aK; have aC := aa.mk aN; clear aK aN; have HB := aa.mk (Below.refl w.heap.size w); have H : ((Zk.f (ae.length : Int) 1 3).bind fun t102 => (if t102 = true then ((Zk.f (af.length : Int) 1 3).bind fun t103 => (if t103 = true then (if 0 < (ae.length : Int) then ((Zk.f ((Qu ae 0).length : Int) 1 4).bind fun t105 => (Ql.j0 k (!t105) ae af)) else (none)) else (Ql.j0 k true ae af))) else (Ql.j0 k true ae af))) = some r := h; clear h; have HC2 := aa.mk H; clear H; go_enter Try.func38, Try.ntmps38; go_upto_region 1 with (first | ((with_reducible refine QN (N := 1) rfl ?_); (try (refine Yb (by rfl) ?_; dsimp only)); refine Q3 ?hg (N := 1) ?hd (cs := #[.slice ak ae.length an, .slice aj af.length al]) (t := 24) ?hr ?_; (case hd => rfl); (case hg => rfl); (case hr => first | (go_simp; done) | (go_simp; rfl)); intro ag hg w3 hbox hb; have ab := aa.mk (hbox); have bh := aa.mk ((by rw [hg]; exact (Qb bB) : w.heap.size ≤ ag)); have aT := aa.mk ((by rw [hg]; exact (Qb bB) : w.heap.size ≤ ag)); replace HB := aa.mk (Qa bB hb); clear hb hbox hg))
 (try simp only [Act.put, zA, zB, zC])
 go_cut [25] (fun v25 wc => ∃ (kq : Nat) (b7 : Bool), v25 = .bool b7 ∧ aa (Ql.j0 kq b7 ae af = some r) ∧ aa (kq ≤ k) ∧ aa (wc.heap[ag]? = some (.cells #[(.slice ak ae.length an), (.slice aj af.length al)] 24 (0, 0))) ∧ aa (Below w.heap.size w wc))
 case first =>
  have H := HC2.out; clear HC2; replace H := Option.bind_eq_some_iff.mp H; obtain ⟨t102, A40, H⟩ := H; replace H : (if t102 = true then ((Zk.f (af.length : Int) 1 3).bind fun t103 => (if t103 = true then (if 0 < (ae.length : Int) then ((Zk.f ((Qu ae 0).length : Int) 1 4).bind fun t105 => (Ql.j0 k (!t105) ae af)) else (none)) else (Ql.j0 k true ae af))) else (Ql.j0 k true ae af)) = some r := H; have A4 := aa.mk A40; clear A40; by_cases c5 : t102 = true
  ·subst c5; have H1 : ((Zk.f (af.length : Int) 1 3).bind fun t103 => (if t103 = true then (if 0 < (ae.length : Int) then ((Zk.f ((Qu ae 0).length : Int) 1 4).bind fun t105 => (Ql.j0 k (!t105) ae af)) else (none)) else (Ql.j0 k true ae af))) = some r := by rw [if_pos rfl] at H; exact H
   clear H; have H := H1; clear H1; replace H := Option.bind_eq_some_iff.mp H; obtain ⟨t103, A60, H⟩ := H; replace H : (if t103 = true then (if 0 < (ae.length : Int) then ((Zk.f ((Qu ae 0).length : Int) 1 4).bind fun t105 => (Ql.j0 k (!t105) ae af)) else (none)) else (Ql.j0 k true ae af)) = some r := H; have A6 := aa.mk A60; clear A60; by_cases c7 : t103 = true
   ·subst c7; have H1 : (if 0 < (ae.length : Int) then ((Zk.f ((Qu ae 0).length : Int) 1 4).bind fun t105 => (Ql.j0 k (!t105) ae af)) else (none)) = some r := by rw [if_pos rfl] at H; exact H
    clear H; have H := H1; clear H1; by_cases c8 : 0 < (ae.length : Int)
    ·rw [if_pos c8] at H; have dF : decide (0 < (ae.length : Int)) = true := decide_eq_true c8; have jx : decide (0 < ae.length) = true := decide_eq_true (by omega); clear c8; (first | rw [dF] | (simp only [QC, QD]; rw [dF]) | skip)
     replace H := Option.bind_eq_some_iff.mp H; obtain ⟨t105, A90, H⟩ := H; replace H : (Ql.j0 k (!t105) ae af) = some r := H; have A9 := aa.mk A90; clear A90; have H' := aa.mk H; clear H; have du : w3.cell? ⟨ag, 0, none⟩ = some (.slice ak ae.length an) := (Qd ab.out 0).trans rfl; have dr : w3.cell? ⟨ag, 1, none⟩ = some (.slice aj af.length al) := (Qd ab.out 1).trans rfl; have dq := Qc ab.out 0; have dp := Qc ab.out 1; go_wp2_with (first | ((with_reducible refine Qh (f := 75) rfl ?_); refine QG (some 8) rfl rfl Try.func75 (by kernel_rfl) rfl #[.int .i64 (ae.length : Int), .int .i64 1, .int .i64 3] rfl hA ?_; (with_reducible refine (Zk.calls (ae.length : Int) 1 3 true _ A4.out).mono ?_); rintro e w' ⟨rfl, ⟨nd, rfl⟩⟩; refine ⟨_, rfl, ?_⟩) | (go_at_call 75; (with_reducible refine (Zk.calls (af.length : Int) 1 3 true _ A6.out).mono ?_); rintro e w' ⟨rfl, ⟨nd, rfl⟩⟩; have gz : 0 ≤ (0 : Int) := (by omega); have gw : 0 < (ae.length : Int) := of_decide_eq_true (by assumption); obtain ⟨sG, uO, uu, pX, cb, iJ, iM⟩ := ZJ ay.out 0 gz gw; cases pX; have uV : (0 < ae.length) = True := eq_true (by omega); (try rw [show ((0 : Int)).toNat = 0 from rfl] at cb); (try rw [Addr.add_zero'] at cb); replace cb := (HB.out.cell (World.block_lt_of_cell? w _ cb)).trans cb; have rE := aa.mk iM; have rL := aa.mk iJ; clear iM iJ; replace gz := eq_true gz; replace gw := eq_true gw) | (go_at_call 75; (with_reducible refine (Zk.calls ((Qu ae 0).length : Int) 1 4 t105 _ A9.out).mono ?_); rintro e w' ⟨rfl, ⟨nd, rfl⟩⟩))
     go_meet
     case rel => exact ⟨_, (!t105), (by first | rfl | (simp; done) | (simp [*]; done)), H', ⟨by first | omega | exact Nat.le_refl _⟩, ⟨by (with_reducible repeat (first | refine Qx ?_ _ | refine QA ?_ | refine Qw ?_ _)); exact ab.out⟩, ⟨bB⟩⟩
    ·rw [if_neg c8] at H; exact absurd H (by simp)
   ·replace c7 := Bool.eq_false_iff.mpr c7; subst c7; have H1 : (Ql.j0 k true ae af) = some r := by rw [if_neg (show ¬ (false = true) by decide)] at H; exact H
    clear H; have H := H1; clear H1; have H' := aa.mk H; clear H; have cQ : w3.cell? ⟨ag, 0, none⟩ = some (.slice ak ae.length an) := (Qd ab.out 0).trans rfl; have cP : w3.cell? ⟨ag, 1, none⟩ = some (.slice aj af.length al) := (Qd ab.out 1).trans rfl; have cO := Qc ab.out 0; have cN := Qc ab.out 1; go_wp2_with (first | ((with_reducible refine Qh (f := 75) rfl ?_); refine QG (some 8) rfl rfl Try.func75 (by kernel_rfl) rfl #[.int .i64 (ae.length : Int), .int .i64 1, .int .i64 3] rfl hA ?_; (with_reducible refine (Zk.calls (ae.length : Int) 1 3 true _ A4.out).mono ?_); rintro e w' ⟨rfl, ⟨nd, rfl⟩⟩; refine ⟨_, rfl, ?_⟩) | (go_at_call 75; (with_reducible refine (Zk.calls (af.length : Int) 1 3 false _ A6.out).mono ?_); rintro e w' ⟨rfl, ⟨nd, rfl⟩⟩))
    go_meet
    case rel => exact ⟨_, (true), (by first | rfl | (simp; done) | (simp [*]; done)), H', ⟨by first | omega | exact Nat.le_refl _⟩, ⟨by (with_reducible repeat (first | refine Qx ?_ _ | refine QA ?_ | refine Qw ?_ _)); exact ab.out⟩, ⟨bB⟩⟩
  ·replace c5 := Bool.eq_false_iff.mpr c5; subst c5; have H1 : (Ql.j0 k true ae af) = some r := by rw [if_neg (show ¬ (false = true) by decide)] at H; exact H
   clear H; have H := H1; clear H1; have H' := aa.mk H; clear H; have dY : w3.cell? ⟨ag, 0, none⟩ = some (.slice ak ae.length an) := (Qd ab.out 0).trans rfl; have dX : w3.cell? ⟨ag, 1, none⟩ = some (.slice aj af.length al) := (Qd ab.out 1).trans rfl; have dW := Qc ab.out 0; have dV := Qc ab.out 1; go_wp2_with (first | ((with_reducible refine Qh (f := 75) rfl ?_); refine QG (some 8) rfl rfl Try.func75 (by kernel_rfl) rfl #[.int .i64 (ae.length : Int), .int .i64 1, .int .i64 3] rfl hA ?_; (with_reducible refine (Zk.calls (ae.length : Int) 1 3 false _ A4.out).mono ?_); rintro e w' ⟨rfl, ⟨nd, rfl⟩⟩; refine ⟨_, rfl, ?_⟩))
   go_meet
   case rel => exact ⟨_, (true), (by first | rfl | (simp; done) | (simp [*]; done)), H', ⟨by first | omega | exact Nat.le_refl _⟩, ⟨by (with_reducible repeat (first | refine Qx ?_ _ | refine QA ?_ | refine Qw ?_ _)); exact ab.out⟩, ⟨bB⟩⟩
 case rest =>
  clear HC2; try clear c1
  try clear p1
  try clear q1
  try clear hx1
  try clear qi1
  try clear p2
  try clear c3
  try clear c5
  try clear c7
  try clear c8
  try clear dF
  try clear jx
  try clear c10
  try clear p10
  try clear q10
  try clear ir
  try clear mo
  try clear du
  try clear dr
  try clear cQ
  try clear cP
  try clear dY
  try clear dX
  try clear dq
  try clear dp
  try clear cO
  try clear cN
  try clear dW
  try clear dV
  try clear cb
  try clear gz
  try clear gw
  obtain ⟨kq, b7, rfl, HA, HJ1, ab, HB⟩ := hcut; cases kq with
  | zero => exact absurd HA.out (by simp [Ql.j0])
  | succ kj1 =>
   have H := HA.out; clear HA; simp only [Ql.j0] at H; by_cases c13 : b7 = true
   ·subst c13; have H1 : (some 1) = some r := by rw [if_pos rfl] at H; exact H
    clear H; have H := H1; clear H1; obtain rfl := Option.some.inj H; go_wp2; go_ret; exact ⟨by first | rfl | (simp [Qk, Qj] <;> rfl) | (simp [*, Qk, Qj] <;> rfl), bB⟩
   ·replace c13 := Bool.eq_false_iff.mpr c13; subst c13; have H1 : ((Zo.f ae af).bind fun t106 => (Ql.l0 kj1 t106 (t106.length : Int) 0 ae af)) = some r := by rw [if_neg (show ¬ (false = true) by decide)] at H; exact H
    clear H; have H := H1; clear H1; replace H := Option.bind_eq_some_iff.mp H; obtain ⟨t106, qw, H⟩ := H; replace H : (Ql.l0 kj1 t106 (t106.length : Int) 0 ae af) = some r := H; have A14 := aa.mk qw; clear qw; have H' := aa.mk H; clear H; have ko : wc.cell? ⟨ag, 0, none⟩ = some (.slice ak ae.length an) := (Qd ab.out 0).trans rfl; have km : wc.cell? ⟨ag, 1, none⟩ = some (.slice aj af.length al) := (Qd ab.out 1).trans rfl; have kb := Qc ab.out 0; have ka := Qc ab.out 1; go_wp2_with (first | ((with_reducible refine QN (N := 30) rfl ?_); refine Two.build ?hg (N := 30) ?hd (v0 := .slice ak ae.length an) (v1 := .slice aj af.length al) ?hr ?_; (case hd => rfl); (case hg => rfl); (case hr => first | (go_simp; done) | (go_simp; rfl)); intro gq hgq wq hqb hqbel; replace HB := aa.mk (Qa bB hqbel); replace ab := aa.mk (Qp ab.out hqbel); have BQ := aa.mk hqb; clear hqb hqbel hgq) | ((with_reducible refine Qh (f := 76) rfl ?_); refine QG (some 31) rfl rfl Try.func76 (by kernel_rfl) rfl #[.slice (some ⟨gq, 0, none⟩) 2 2] rfl hA ?_; (with_reducible refine (Zo.calls (fun k_ => k_ < w.heap.size) _ _ ae (fun k_ => k_ < w.heap.size) _ _ af t106 _ _ BQ.out ?ah ?ai A14.out).mono ?_); (case ah => exact Kd.V_mk aA.out (Kd.Yg (Kd.C_F (Kd.ZP 3 (Kd.Yd .i64)) ay.out) bB)); (case ai => exact Kd.V_mk aC.out (Kd.Yg (Kd.C_F (Kd.ZP 3 (Kd.Yd .i64)) az.out) bB)); rintro e w16 ⟨mh, rfl, ho0, hb⟩; refine ⟨_, rfl, ?_⟩; have bk := aa.mk (Kd.Ya (Kd.ZX (ok' := fun k_ => k_ ≠ ag) ho0 (fun k_ hk_ => Or.elim hk_ (fun hs_ => Or.elim hs_ (fun hs_ => fun e_ => Nat.not_le.2 hs_ (by rw [e_]; exact bh.out)) (fun hs_ => fun e_ => Nat.not_le.2 hs_ (by rw [e_]; exact bh.out))) (fun hn_ => (Kd.freshB (g := ag) (o := .cells #[.slice ak ae.length an, .slice aj af.length al] 24 (0, 0)) (by (with_reducible repeat (first | refine Qx ?_ _ | refine QA ?_ | refine Qw ?_ _)); exact ab.out) k_ hn_)))) (Qb bB)); replace ab := aa.mk (Qp ab.out hb); replace HB := aa.mk (Qa bB hb); (try clear hb); (try clear hb2); (try clear hk); (try clear hi); (try clear ho0); obtain ⟨wY, vP, ub⟩ := Kd.ZQ bk.out; subst ub))
    go_loopg [33] kj1 (fun kq v33 w' => ∃ (aJ : Int), v33 = .int .i64 aJ ∧ aa (Ql.l0 kq t106 (t106.length : Int) aJ ae af = some r) ∧ aa (kq ≤ kj1) ∧ aa (Kd.N (Kd.slice 3 (Kd.int .i64)) 28 w' w.heap.size (fun k_ => k_ ≠ ag) (.slice wY t106.length vP) t106) ∧ aa (w'.heap[ag]? = some (.cells #[(.slice ak ae.length an), (.slice aj af.length al)] 24 (0, 0))) ∧ aa (Below w.heap.size w w'))
    case atStart => exact ⟨(0), (by first | rfl | (simp; done) | (simp [*]; done)), H', ⟨Nat.le_refl _⟩, ⟨by (with_reducible repeat (first | apply Kd.N_alloc | apply Kd.Z5 | apply Kd.Yj)); exact bk.out⟩, ⟨by (with_reducible repeat (first | refine Qx ?_ _ | refine QA ?_ | refine Qw ?_ _)); exact ab.out⟩, ⟨bB⟩⟩
    case round =>
     clear H'; try clear c1
     try clear p1
     try clear q1
     try clear hx1
     try clear qi1
     try clear p2
     try clear c3
     try clear c5
     try clear c7
     try clear c8
     try clear dF
     try clear jx
     try clear c10
     try clear p10
     try clear q10
     try clear ir
     try clear mo
     try clear c13
     try clear du
     try clear dr
     try clear cQ
     try clear cP
     try clear dY
     try clear dX
     try clear ko
     try clear km
     try clear dq
     try clear dp
     try clear cO
     try clear cN
     try clear dW
     try clear dV
     try clear kb
     try clear ka
     try clear cb
     try clear p1
     try clear p10
     try clear gz
     try clear p2
     try clear q1
     try clear q10
     try clear gw
     obtain ⟨aJ, rfl, HA, HK2, cD, ab, HB⟩ := hrel; cases gk with
     | zero => exact absurd HA.out (by simp [Ql.l0])
     | succ k2 =>
      have H := HA.out; clear HA; simp only [Ql.l0] at H; by_cases c18 : aJ < (t106.length : Int)
      ·rw [if_pos c18] at H; have iW : decide (aJ < (t106.length : Int)) = true := decide_eq_true c18; clear c18; by_cases c19 : 0 ≤ aJ
       ·rw [if_pos c19] at H; have eO : decide (0 ≤ aJ) = true := decide_eq_true c19; clear c19; by_cases c20 : aJ < (t106.length : Int)
        ·rw [if_pos c20] at H; have kS : decide (aJ < (t106.length : Int)) = true := decide_eq_true c20; clear c20; by_cases c21 : 0 < (ae.length : Int)
         ·rw [if_pos c21] at H; have jD : decide (0 < (ae.length : Int)) = true := decide_eq_true c21; have AQ : decide (0 < ae.length) = true := decide_eq_true (by omega); clear c21; replace H := Option.bind_eq_some_iff.mp H; obtain ⟨t111, qt, H⟩ := H; replace H : (if t111 = true then ((Qy.f k2 (Qu t106 aJ)).bind fun t112 => (if t112 = 0 then (some 1) else (Ql.l0 k2 t106 (t106.length : Int) (wrap64 (aJ + 1)) ae af))) else (some 1)) = some r := H; have A22 := aa.mk qt; clear qt; by_cases c23 : t111 = true
          ·subst c23; have H1 : ((Qy.f k2 (Qu t106 aJ)).bind fun t112 => (if t112 = 0 then (some 1) else (Ql.l0 k2 t106 (t106.length : Int) (wrap64 (aJ + 1)) ae af))) = some r := by rw [if_pos rfl] at H; exact H
           clear H; have H := H1; clear H1; replace H := Option.bind_eq_some_iff.mp H; obtain ⟨t112, qq, H⟩ := H; replace H : (if t112 = 0 then (some 1) else (Ql.l0 k2 t106 (t106.length : Int) (wrap64 (aJ + 1)) ae af)) = some r := H; have A24 := aa.mk qq; clear qq; by_cases c25 : t112 = 0
           ·rw [if_pos c25] at H; have sA : (t112 == 0) = true := beq_iff_eq.mpr c25; have wg : (t112 != 0) = false := bne_eq_false_iff_eq.mpr c25; clear c25; obtain rfl := Option.some.inj H; have iC : 0 ≤ (aJ : Int) := of_decide_eq_true (by assumption); have iB : aJ < (t106.length : Int) := of_decide_eq_true (by assumption); obtain ⟨sF, k8, kU, pV, iE, fA, fD⟩ := ZJ (Kd.Za cD.out).2.2 aJ iC iB; cases pV; obtain ⟨sq, kE, kJ, gT⟩ := Kd.Y2 cD.out [] aJ iC (by first | exact iB | exact of_decide_eq_true (by assumption) | (have e_ := (Kd.Za cD.out).1; omega)); obtain ⟨nR, nQ, rfl, dL, dZ⟩ := Kd.Zt kJ; have cM := gT 0 _ rfl; rw [Nat.add_zero, show ((Kd.slice 3 (Kd.int .i64))).sz = 1 from rfl, Nat.mul_one] at cM; replace cM := Option.some.inj (cM.symm.trans iE); injection cM with hva_ hvn_ hvc_
            rw [hva_] at dZ; rw [hvc_] at dL; have dw := aa.mk (show Kd.V (Kd.int .i64) 3 _ w.heap.size _ _ (Qu t106 aJ) from Kd.V_mk dL dZ); clear hva_ hvn_ hvc_ dZ dL; clear gT kE; have bx := aa.mk fD; have gj := aa.mk fA; clear fD fA; replace iC := eq_true iC; replace iB := eq_true iB; have kg : wr.cell? ⟨ag, 0, none⟩ = some (.slice ak ae.length an) := (Qd ab.out 0).trans rfl; have kf : wr.cell? ⟨ag, 1, none⟩ = some (.slice aj af.length al) := (Qd ab.out 1).trans rfl; have j7 := Qc ab.out 0; have j6 := Qc ab.out 1; have gy : 0 ≤ (0 : Int) := (by omega); have gv : 0 < (ae.length : Int) := of_decide_eq_true (by assumption); obtain ⟨ot, nM, nF, nx, bK, dO, dS⟩ := ZJ ay.out 0 gy gv; cases nx; have rU : (0 < ae.length) = True := eq_true (by omega); (try rw [show ((0 : Int)).toNat = 0 from rfl] at bK)
            (try rw [Addr.add_zero'] at bK)
            replace bK := (HB.out.cell (World.block_lt_of_cell? w _ bK)).trans bK; have kr := aa.mk dS; have l9 := aa.mk dO; clear dS dO; replace gy := eq_true gy; replace gv := eq_true gv; go_wp2_with (first | ((with_reducible refine Qh (f := 77) rfl ?_); refine QG (some 43) rfl rfl Try.func77 (by kernel_rfl) rfl #[.slice k8 (Qu t106 aJ).length kU, .int .i64 ((Qu ae 0).length : Int), .int .i64 0, .int .i64 9] rfl hA ?_; (with_reducible refine (Zp.calls _ _ (Qu t106 aJ) ((Qu ae 0).length : Int) 0 9 true _ ?ah ?ai A22.out).mono ?_); (case ah => repeat (first | exact (by repeat (first | (with_reducible exact bx.out) | (with_reducible refine Kd.C_alloc ?_ _) | (with_reducible refine Kd.ZF ?_ _) | (with_reducible refine Kd.C_drew ?_) | exact bx.out)) | (with_reducible refine Kd.C_alloc ?_ _) | (with_reducible refine Kd.ZF ?_ _) | (with_reducible refine Kd.C_drew ?_))); (case ai => exact gj.out); rintro e w27 ⟨rfl, hb⟩; refine ⟨_, rfl, ?_⟩; replace cD := aa.mk (Kd.ZO cD.out hb); replace dw := aa.mk (Kd.Yf dw.out hb); replace ab := aa.mk (Qp ab.out hb); replace bx := aa.mk (Kd.Qq (by repeat (first | (with_reducible exact bx.out) | (with_reducible refine Kd.C_alloc ?_ _) | (with_reducible refine Kd.ZF ?_ _) | (with_reducible refine Kd.C_drew ?_) | exact bx.out)) hb); replace HB := aa.mk (Qa bB hb); (try clear hb); (try clear hb2); (try clear hk); (try clear hi)) | (go_at_call 78; (with_reducible refine (Qy.calls k2 _ _ (Qu t106 aJ) t112 _ ?ah ?ai A24.out).mono ?_); (case ah => repeat (first | exact (by repeat (first | (with_reducible exact bx.out) | (with_reducible refine Kd.C_alloc ?_ _) | (with_reducible refine Kd.ZF ?_ _) | (with_reducible refine Kd.C_drew ?_) | exact bx.out)) | (with_reducible refine Kd.C_alloc ?_ _) | (with_reducible refine Kd.ZF ?_ _) | (with_reducible refine Kd.C_drew ?_))); (case ai => exact gj.out); rintro e w28 ⟨rfl, hb⟩; replace cD := aa.mk (Kd.ZO cD.out hb); replace dw := aa.mk (Kd.Yf dw.out hb); replace ab := aa.mk (Qp ab.out hb); replace bx := aa.mk (Kd.Qq (by repeat (first | (with_reducible exact bx.out) | (with_reducible refine Kd.C_alloc ?_ _) | (with_reducible refine Kd.ZF ?_ _) | (with_reducible refine Kd.C_drew ?_) | exact bx.out)) hb); replace HB := aa.mk (Qa bB hb); (try clear hb); (try clear hb2); (try clear hk); (try clear hi)))
            go_ret; exact ⟨by first | rfl | (simp [Qk, Qj] <;> rfl) | (simp [*, Qk, Qj] <;> rfl), bB⟩
           ·rw [if_neg c25] at H; have sA : (t112 == 0) = false := beq_eq_false_iff_ne.mpr c25; have wg : (t112 != 0) = true := bne_iff_ne.mpr c25; have H' := aa.mk H; clear H; have iC : 0 ≤ (aJ : Int) := of_decide_eq_true (by assumption); have iB : aJ < (t106.length : Int) := of_decide_eq_true (by assumption); obtain ⟨sF, k8, kU, pV, iE, fA, fD⟩ := ZJ (Kd.Za cD.out).2.2 aJ iC iB; cases pV; obtain ⟨sq, kE, kJ, gT⟩ := Kd.Y2 cD.out [] aJ iC (by first | exact iB | exact of_decide_eq_true (by assumption) | (have e_ := (Kd.Za cD.out).1; omega)); obtain ⟨nR, nQ, rfl, dL, dZ⟩ := Kd.Zt kJ; have cM := gT 0 _ rfl; rw [Nat.add_zero, show ((Kd.slice 3 (Kd.int .i64))).sz = 1 from rfl, Nat.mul_one] at cM; replace cM := Option.some.inj (cM.symm.trans iE); injection cM with hva_ hvn_ hvc_
            rw [hva_] at dZ; rw [hvc_] at dL; have dw := aa.mk (show Kd.V (Kd.int .i64) 3 _ w.heap.size _ _ (Qu t106 aJ) from Kd.V_mk dL dZ); clear hva_ hvn_ hvc_ dZ dL; clear gT kE; have bx := aa.mk fD; have gj := aa.mk fA; clear fD fA; replace iC := eq_true iC; replace iB := eq_true iB; have iS : wr.cell? ⟨ag, 0, none⟩ = some (.slice ak ae.length an) := (Qd ab.out 0).trans rfl; have iR : wr.cell? ⟨ag, 1, none⟩ = some (.slice aj af.length al) := (Qd ab.out 1).trans rfl; have iO := Qc ab.out 0; have iN := Qc ab.out 1; have gy : 0 ≤ (0 : Int) := (by omega); have gv : 0 < (ae.length : Int) := of_decide_eq_true (by assumption); obtain ⟨ot, nM, nF, nx, bK, dO, dS⟩ := ZJ ay.out 0 gy gv; cases nx; have rU : (0 < ae.length) = True := eq_true (by omega); (try rw [show ((0 : Int)).toNat = 0 from rfl] at bK)
            (try rw [Addr.add_zero'] at bK)
            replace bK := (HB.out.cell (World.block_lt_of_cell? w _ bK)).trans bK; have kr := aa.mk dS; have l9 := aa.mk dO; clear dS dO; replace gy := eq_true gy; replace gv := eq_true gv; go_wp2_with (first | ((with_reducible refine Qh (f := 77) rfl ?_); refine QG (some 43) rfl rfl Try.func77 (by kernel_rfl) rfl #[.slice k8 (Qu t106 aJ).length kU, .int .i64 ((Qu ae 0).length : Int), .int .i64 0, .int .i64 9] rfl hA ?_; (with_reducible refine (Zp.calls _ _ (Qu t106 aJ) ((Qu ae 0).length : Int) 0 9 true _ ?ah ?ai A22.out).mono ?_); (case ah => repeat (first | exact (by repeat (first | (with_reducible exact bx.out) | (with_reducible refine Kd.C_alloc ?_ _) | (with_reducible refine Kd.ZF ?_ _) | (with_reducible refine Kd.C_drew ?_) | exact bx.out)) | (with_reducible refine Kd.C_alloc ?_ _) | (with_reducible refine Kd.ZF ?_ _) | (with_reducible refine Kd.C_drew ?_))); (case ai => exact gj.out); rintro e w30 ⟨rfl, hb⟩; refine ⟨_, rfl, ?_⟩; replace cD := aa.mk (Kd.ZO cD.out hb); replace dw := aa.mk (Kd.Yf dw.out hb); replace ab := aa.mk (Qp ab.out hb); replace bx := aa.mk (Kd.Qq (by repeat (first | (with_reducible exact bx.out) | (with_reducible refine Kd.C_alloc ?_ _) | (with_reducible refine Kd.ZF ?_ _) | (with_reducible refine Kd.C_drew ?_) | exact bx.out)) hb); replace HB := aa.mk (Qa bB hb); (try clear hb); (try clear hb2); (try clear hk); (try clear hi)) | (go_at_call 78; (with_reducible refine (Qy.calls k2 _ _ (Qu t106 aJ) t112 _ ?ah ?ai A24.out).mono ?_); (case ah => repeat (first | exact (by repeat (first | (with_reducible exact bx.out) | (with_reducible refine Kd.C_alloc ?_ _) | (with_reducible refine Kd.ZF ?_ _) | (with_reducible refine Kd.C_drew ?_) | exact bx.out)) | (with_reducible refine Kd.C_alloc ?_ _) | (with_reducible refine Kd.ZF ?_ _) | (with_reducible refine Kd.C_drew ?_))); (case ai => exact gj.out); rintro e w31 ⟨rfl, hb⟩; replace cD := aa.mk (Kd.ZO cD.out hb); replace dw := aa.mk (Kd.Yf dw.out hb); replace ab := aa.mk (Qp ab.out hb); replace bx := aa.mk (Kd.Qq (by repeat (first | (with_reducible exact bx.out) | (with_reducible refine Kd.C_alloc ?_ _) | (with_reducible refine Kd.ZF ?_ _) | (with_reducible refine Kd.C_drew ?_) | exact bx.out)) hb); replace HB := aa.mk (Qa bB hb); (try clear hb); (try clear hb2); (try clear hk); (try clear hi)))
            go_roundg k2
            case measure => have := HJ1.out; have := HK2.out; omega
            case rel => exact ⟨(wrap64 (aJ + 1)), (by first | rfl | (simp; done) | (simp [*]; done)), H', ⟨by have := HJ1.out; have := HK2.out; omega⟩, ⟨by (with_reducible repeat (first | apply Kd.N_alloc | apply Kd.Z5 | apply Kd.Yj)); exact cD.out⟩, ⟨by (with_reducible repeat (first | refine Qx ?_ _ | refine QA ?_ | refine Qw ?_ _)); exact ab.out⟩, ⟨bB⟩⟩
          ·replace c23 := Bool.eq_false_iff.mpr c23; subst c23; have H1 : (some 1) = some r := by rw [if_neg (show ¬ (false = true) by decide)] at H; exact H
           clear H; have H := H1; clear H1; obtain rfl := Option.some.inj H; have iC : 0 ≤ (aJ : Int) := of_decide_eq_true (by assumption); have iB : aJ < (t106.length : Int) := of_decide_eq_true (by assumption); obtain ⟨sF, k8, kU, pV, iE, fA, fD⟩ := ZJ (Kd.Za cD.out).2.2 aJ iC iB; cases pV; obtain ⟨sq, kE, kJ, gT⟩ := Kd.Y2 cD.out [] aJ iC (by first | exact iB | exact of_decide_eq_true (by assumption) | (have e_ := (Kd.Za cD.out).1; omega)); obtain ⟨nR, nQ, rfl, dL, dZ⟩ := Kd.Zt kJ; have cM := gT 0 _ rfl; rw [Nat.add_zero, show ((Kd.slice 3 (Kd.int .i64))).sz = 1 from rfl, Nat.mul_one] at cM; replace cM := Option.some.inj (cM.symm.trans iE); injection cM with hva_ hvn_ hvc_
           rw [hva_] at dZ; rw [hvc_] at dL; have dw := aa.mk (show Kd.V (Kd.int .i64) 3 _ w.heap.size _ _ (Qu t106 aJ) from Kd.V_mk dL dZ); clear hva_ hvn_ hvc_ dZ dL; clear gT kE; have bx := aa.mk fD; have gj := aa.mk fA; clear fD fA; replace iC := eq_true iC; replace iB := eq_true iB; have q5 : wr.cell? ⟨ag, 0, none⟩ = some (.slice ak ae.length an) := (Qd ab.out 0).trans rfl; have qZ : wr.cell? ⟨ag, 1, none⟩ = some (.slice aj af.length al) := (Qd ab.out 1).trans rfl; have qQ := Qc ab.out 0; have qP := Qc ab.out 1; have gy : 0 ≤ (0 : Int) := (by omega); have gv : 0 < (ae.length : Int) := of_decide_eq_true (by assumption); obtain ⟨ot, nM, nF, nx, bK, dO, dS⟩ := ZJ ay.out 0 gy gv; cases nx; have rU : (0 < ae.length) = True := eq_true (by omega); (try rw [show ((0 : Int)).toNat = 0 from rfl] at bK)
           (try rw [Addr.add_zero'] at bK)
           replace bK := (HB.out.cell (World.block_lt_of_cell? w _ bK)).trans bK; have kr := aa.mk dS; have l9 := aa.mk dO; clear dS dO; replace gy := eq_true gy; replace gv := eq_true gv; go_wp2_with (first | ((with_reducible refine Qh (f := 77) rfl ?_); refine QG (some 43) rfl rfl Try.func77 (by kernel_rfl) rfl #[.slice k8 (Qu t106 aJ).length kU, .int .i64 ((Qu ae 0).length : Int), .int .i64 0, .int .i64 9] rfl hA ?_; (with_reducible refine (Zp.calls _ _ (Qu t106 aJ) ((Qu ae 0).length : Int) 0 9 false _ ?ah ?ai A22.out).mono ?_); (case ah => repeat (first | exact (by repeat (first | (with_reducible exact bx.out) | (with_reducible refine Kd.C_alloc ?_ _) | (with_reducible refine Kd.ZF ?_ _) | (with_reducible refine Kd.C_drew ?_) | exact bx.out)) | (with_reducible refine Kd.C_alloc ?_ _) | (with_reducible refine Kd.ZF ?_ _) | (with_reducible refine Kd.C_drew ?_))); (case ai => exact gj.out); rintro e w33 ⟨rfl, hb⟩; refine ⟨_, rfl, ?_⟩; replace cD := aa.mk (Kd.ZO cD.out hb); replace dw := aa.mk (Kd.Yf dw.out hb); replace ab := aa.mk (Qp ab.out hb); replace bx := aa.mk (Kd.Qq (by repeat (first | (with_reducible exact bx.out) | (with_reducible refine Kd.C_alloc ?_ _) | (with_reducible refine Kd.ZF ?_ _) | (with_reducible refine Kd.C_drew ?_) | exact bx.out)) hb); replace HB := aa.mk (Qa bB hb); (try clear hb); (try clear hb2); (try clear hk); (try clear hi)))
           go_ret; exact ⟨by first | rfl | (simp [Qk, Qj] <;> rfl) | (simp [*, Qk, Qj] <;> rfl), bB⟩
         ·rw [if_neg c21] at H; exact absurd H (by simp)
        ·rw [if_neg c20] at H; exact absurd H (by simp)
       ·rw [if_neg c19] at H; exact absurd H (by simp)
      ·rw [if_neg c18] at H; have iW : decide (aJ < (t106.length : Int)) = false := decide_eq_false c18; clear c18; obtain rfl := Option.some.inj H; go_wp2; go_ret; exact ⟨by first | rfl | (simp [Qk, Qj] <;> rfl) | (simp [*, Qk, Qj] <;> rfl), bB⟩
def ZD.f (k : Nat) (ae : List (List Int)) (af : List (List Int)) (l1 : List Int) : Option (Int) := (Ql.f k ae af).bind fun t102 => (if t102 = 0 then ((Q5.f ae af).bind fun t103 => ((Zp.f l1 t103 (-1000000) 1000000).bind fun t104 => (if t104 = true then (some 0) else (some 1)))) else (some t102))
theorem ZD.mono : ∀ a0 a1 a2 k, LeO (ZD.f k a0 a1 a2) (ZD.f (k + 1) a0 a1 a2) := by
 intro a0 a1 a2 k; unfold ZD.f; repeat' first | (with_reducible exact Ql.mono _ _ _) | (with_reducible exact LeO.refl _) | (with_reducible exact LeO.none _) | (with_reducible refine LeO.ite ?_ ?_) | (with_reducible refine LeO.bind ?_ (fun _ => ?_)) | exact Ql.mono _ _ _ | exact LeO.none _ | refine LeO.ite ?_ ?_ | refine LeO.bind ?_ (fun _ => ?_)
set_option maxHeartbeats 8000000 in
set_option maxRecDepth 100000 in
theorem ZD.calls (k : Nat) (ak : Option Addr) (an : Nat) (ae : List (List Int)) (aj : Option Addr) (al : Nat) (af : List (List Int)) (A1 : Option Addr) (c1 : Nat) (l1 : List Int) (r : Int) (w : World) (aM : Kd.C (Kd.slice 3 (Kd.int .i64)) w ak ae.length ae) (aQ : ae.length ≤ an) (aK : Kd.C (Kd.slice 3 (Kd.int .i64)) w aj af.length af) (aN : af.length ≤ al) (hr1 : Kd.C (Kd.int .i64) w A1 l1.length l1) (hc1 : l1.length ≤ c1) (h : ZD.f k ae af l1 = some r) :
  Calls Try.prog 87 #[.agg #[.slice ak ae.length an, .slice aj af.length al], .slice A1 l1.length c1] w fun e w' => e = .returned (.int .i64 r) ∧ Below w.heap.size w w' := by
 have ej := Try.underlying24; have ay := aa.mk aM; have aA := aa.mk aQ; clear aM aQ; have az := aa.mk aK; have aC := aa.mk aN; clear aK aN; have HR1 := aa.mk hr1; have HC1 := aa.mk hc1; clear hr1 hc1; have HB := aa.mk (Below.refl w.heap.size w); have H : ((Ql.f k ae af).bind fun t102 => (if t102 = 0 then ((Q5.f ae af).bind fun t103 => ((Zp.f l1 t103 (-1000000) 1000000).bind fun t104 => (if t104 = true then (some 0) else (some 1)))) else (some t102))) = some r := h; clear h; replace H := Option.bind_eq_some_iff.mp H; obtain ⟨t102, A30, H⟩ := H; replace H : (if t102 = 0 then ((Q5.f ae af).bind fun t103 => ((Zp.f l1 t103 (-1000000) 1000000).bind fun t104 => (if t104 = true then (some 0) else (some 1)))) else (some t102)) = some r := H; have A3 := aa.mk A30; clear A30; by_cases c4 : t102 = 0
 ·rw [if_pos c4] at H; have bI : (t102 == 0) = true := beq_iff_eq.mpr c4; have eh : (t102 != 0) = false := bne_eq_false_iff_eq.mpr c4; clear c4; replace H := Option.bind_eq_some_iff.mp H; obtain ⟨t103, A50, H⟩ := H; replace H : ((Zp.f l1 t103 (-1000000) 1000000).bind fun t104 => (if t104 = true then (some 0) else (some 1))) = some r := H; have A5 := aa.mk A50; clear A50; replace H := Option.bind_eq_some_iff.mp H; obtain ⟨t104, A60, H⟩ := H; replace H : (if t104 = true then (some 0) else (some 1)) = some r := H; have A6 := aa.mk A60; clear A60; by_cases c7 : t104 = true
  ·subst c7; have H1 : (some 0) = some r := by rw [if_pos rfl] at H; exact H
   clear H; have H := H1; clear H1; obtain rfl := Option.some.inj H; go_enter Try.func87, Try.ntmps87; go_wp2_with (first | ((with_reducible refine QN (N := 2) rfl ?_); refine Q3 ?hg (N := 2) ?hd (cs := #[.slice ak ae.length an, .slice aj af.length al]) (t := 24) ?hr ?_; (case hd => rfl); (case hg => rfl); (case hr => first | (go_simp; done) | (go_simp; rfl)); intro ag hg w8 hbox hb; have ab := aa.mk (hbox); have bh := aa.mk ((by rw [hg]; exact (Qb bB) : w.heap.size ≤ ag)); have aT := aa.mk ((by rw [hg]; exact (Qb bB) : w.heap.size ≤ ag)); replace HB := aa.mk (Qa bB hb); clear hb hbox hg; have pA : w8.cell? ⟨ag, 0, none⟩ = some (.slice ak ae.length an) := (Qd ab.out 0).trans rfl; have py : w8.cell? ⟨ag, 1, none⟩ = some (.slice aj af.length al) := (Qd ab.out 1).trans rfl; have px := Qc ab.out 0; have pw := Qc ab.out 1) | ((with_reducible refine Qh (f := 38) rfl ?_); refine QG (some 7) rfl rfl Try.func38 (by kernel_rfl) rfl #[.agg #[.slice ak ae.length an, .slice aj af.length al]] rfl hA ?_; (with_reducible refine (Ql.calls k _ _ ae _ _ af t102 _ ?ah ?ai ?aq ?ar A3.out).mono ?_); (case ah => exact (Kd.Qq ay.out HB.out)); (case ai => exact aA.out); (case aq => exact (Kd.Qq az.out HB.out)); (case ar => exact aC.out); rintro e w10 ⟨rfl, hb⟩; refine ⟨_, rfl, ?_⟩; replace ab := aa.mk (Qp ab.out hb); replace HB := aa.mk (Qa bB hb); (try clear hb); (try clear hb2); (try clear hk); (try clear hi); have cQ : w10.cell? ⟨ag, 0, none⟩ = some (.slice ak ae.length an) := (Qd ab.out 0).trans rfl; have cP : w10.cell? ⟨ag, 1, none⟩ = some (.slice aj af.length al) := (Qd ab.out 1).trans rfl; have cO := Qc ab.out 0; have cN := Qc ab.out 1) | ((with_reducible refine Qh (f := 71) rfl ?_); refine QG (some 13) rfl rfl Try.func71 (by kernel_rfl) rfl #[.agg #[.slice ak ae.length an, .slice aj af.length al]] rfl hA ?_; (with_reducible refine (Q5.calls _ _ ae _ _ af t103 _ ?ah ?ai ?aq ?ar A5.out).mono ?_); (case ah => exact (Kd.Qq ay.out HB.out)); (case ai => exact aA.out); (case aq => exact (Kd.Qq az.out HB.out)); (case ar => exact aC.out); rintro e w12 ⟨rfl, hb⟩; refine ⟨_, rfl, ?_⟩; replace ab := aa.mk (Qp ab.out hb); replace HB := aa.mk (Qa bB hb); (try clear hb); (try clear hb2); (try clear hk); (try clear hi)) | ((with_reducible refine Qh (f := 77) rfl ?_); refine QG (some 14) rfl rfl Try.func77 (by kernel_rfl) rfl #[.slice A1 l1.length c1, .int .i64 t103, .int .i64 (-1000000), .int .i64 1000000] rfl hA ?_; (with_reducible refine (Zp.calls _ _ l1 t103 (-1000000) 1000000 true _ ?ah ?ai A6.out).mono ?_); (case ah => exact (Kd.Qq HR1.out HB.out)); (case ai => exact HC1.out); rintro e w13 ⟨rfl, hb⟩; refine ⟨_, rfl, ?_⟩; replace ab := aa.mk (Qp ab.out hb); replace HB := aa.mk (Qa bB hb); (try clear hb); (try clear hb2); (try clear hk); (try clear hi)))
   go_ret; exact ⟨by first | rfl | (simp [Qk, Qj] <;> rfl) | (simp [*, Qk, Qj] <;> rfl), bB⟩
  ·replace c7 := Bool.eq_false_iff.mpr c7; subst c7; have H1 : (some 1) = some r := by rw [if_neg (show ¬ (false = true) by decide)] at H; exact H
   clear H; have H := H1; clear H1; obtain rfl := Option.some.inj H; go_enter Try.func87, Try.ntmps87; go_wp2_with (first | ((with_reducible refine QN (N := 2) rfl ?_); refine Q3 ?hg (N := 2) ?hd (cs := #[.slice ak ae.length an, .slice aj af.length al]) (t := 24) ?hr ?_; (case hd => rfl); (case hg => rfl); (case hr => first | (go_simp; done) | (go_simp; rfl)); intro ag hg w14 hbox hb; have ab := aa.mk (hbox); have bh := aa.mk ((by rw [hg]; exact (Qb bB) : w.heap.size ≤ ag)); have aT := aa.mk ((by rw [hg]; exact (Qb bB) : w.heap.size ≤ ag)); replace HB := aa.mk (Qa bB hb); clear hb hbox hg; have ko : w14.cell? ⟨ag, 0, none⟩ = some (.slice ak ae.length an) := (Qd ab.out 0).trans rfl; have km : w14.cell? ⟨ag, 1, none⟩ = some (.slice aj af.length al) := (Qd ab.out 1).trans rfl; have kb := Qc ab.out 0; have ka := Qc ab.out 1) | ((with_reducible refine Qh (f := 38) rfl ?_); refine QG (some 7) rfl rfl Try.func38 (by kernel_rfl) rfl #[.agg #[.slice ak ae.length an, .slice aj af.length al]] rfl hA ?_; (with_reducible refine (Ql.calls k _ _ ae _ _ af t102 _ ?ah ?ai ?aq ?ar A3.out).mono ?_); (case ah => exact (Kd.Qq ay.out HB.out)); (case ai => exact aA.out); (case aq => exact (Kd.Qq az.out HB.out)); (case ar => exact aC.out); rintro e w16 ⟨rfl, hb⟩; refine ⟨_, rfl, ?_⟩; replace ab := aa.mk (Qp ab.out hb); replace HB := aa.mk (Qa bB hb); (try clear hb); (try clear hb2); (try clear hk); (try clear hi); have kj : w16.cell? ⟨ag, 0, none⟩ = some (.slice ak ae.length an) := (Qd ab.out 0).trans rfl; have ki : w16.cell? ⟨ag, 1, none⟩ = some (.slice aj af.length al) := (Qd ab.out 1).trans rfl; have j9 := Qc ab.out 0; have j8 := Qc ab.out 1) | ((with_reducible refine Qh (f := 71) rfl ?_); refine QG (some 13) rfl rfl Try.func71 (by kernel_rfl) rfl #[.agg #[.slice ak ae.length an, .slice aj af.length al]] rfl hA ?_; (with_reducible refine (Q5.calls _ _ ae _ _ af t103 _ ?ah ?ai ?aq ?ar A5.out).mono ?_); (case ah => exact (Kd.Qq ay.out HB.out)); (case ai => exact aA.out); (case aq => exact (Kd.Qq az.out HB.out)); (case ar => exact aC.out); rintro e w18 ⟨rfl, hb⟩; refine ⟨_, rfl, ?_⟩; replace ab := aa.mk (Qp ab.out hb); replace HB := aa.mk (Qa bB hb); (try clear hb); (try clear hb2); (try clear hk); (try clear hi)) | ((with_reducible refine Qh (f := 77) rfl ?_); refine QG (some 14) rfl rfl Try.func77 (by kernel_rfl) rfl #[.slice A1 l1.length c1, .int .i64 t103, .int .i64 (-1000000), .int .i64 1000000] rfl hA ?_; (with_reducible refine (Zp.calls _ _ l1 t103 (-1000000) 1000000 false _ ?ah ?ai A6.out).mono ?_); (case ah => exact (Kd.Qq HR1.out HB.out)); (case ai => exact HC1.out); rintro e w19 ⟨rfl, hb⟩; refine ⟨_, rfl, ?_⟩; replace ab := aa.mk (Qp ab.out hb); replace HB := aa.mk (Qa bB hb); (try clear hb); (try clear hb2); (try clear hk); (try clear hi)))
   go_ret; exact ⟨by first | rfl | (simp [Qk, Qj] <;> rfl) | (simp [*, Qk, Qj] <;> rfl), bB⟩
 ·rw [if_neg c4] at H; have bI : (t102 == 0) = false := beq_eq_false_iff_ne.mpr c4; have eh : (t102 != 0) = true := bne_iff_ne.mpr c4; obtain rfl := Option.some.inj H; go_enter Try.func87, Try.ntmps87; go_wp2_with (first | ((with_reducible refine QN (N := 2) rfl ?_); refine Q3 ?hg (N := 2) ?hd (cs := #[.slice ak ae.length an, .slice aj af.length al]) (t := 24) ?hr ?_; (case hd => rfl); (case hg => rfl); (case hr => first | (go_simp; done) | (go_simp; rfl)); intro ag hg w20 hbox hb; have ab := aa.mk (hbox); have bh := aa.mk ((by rw [hg]; exact (Qb bB) : w.heap.size ≤ ag)); have aT := aa.mk ((by rw [hg]; exact (Qb bB) : w.heap.size ≤ ag)); replace HB := aa.mk (Qa bB hb); clear hb hbox hg; have lP : w20.cell? ⟨ag, 0, none⟩ = some (.slice ak ae.length an) := (Qd ab.out 0).trans rfl; have lO : w20.cell? ⟨ag, 1, none⟩ = some (.slice aj af.length al) := (Qd ab.out 1).trans rfl; have lN := Qc ab.out 0; have lM := Qc ab.out 1) | ((with_reducible refine Qh (f := 38) rfl ?_); refine QG (some 7) rfl rfl Try.func38 (by kernel_rfl) rfl #[.agg #[.slice ak ae.length an, .slice aj af.length al]] rfl hA ?_; (with_reducible refine (Ql.calls k _ _ ae _ _ af t102 _ ?ah ?ai ?aq ?ar A3.out).mono ?_); (case ah => exact (Kd.Qq ay.out HB.out)); (case ai => exact aA.out); (case aq => exact (Kd.Qq az.out HB.out)); (case ar => exact aC.out); rintro e w22 ⟨rfl, hb⟩; refine ⟨_, rfl, ?_⟩; replace ab := aa.mk (Qp ab.out hb); replace HB := aa.mk (Qa bB hb); (try clear hb); (try clear hb2); (try clear hk); (try clear hi)))
  go_ret; exact ⟨by first | rfl | (simp [Qk, Qj] <;> rfl) | (simp [*, Qk, Qj] <;> rfl), bB⟩
mutual
def Q6.l0 : Nat → List Int → List Int → List (List Int) → Int → Int → Option (List Int)
 | 0, _, _, _, _, _ => none
 | k + 1, x1, x5, x16, x17, x18 => if x18 < x17 then (if 0 ≤ x18 then (if x18 < (x16.length : Int) then (Q6.l1 k x1 x5 0 x16 x17 x18 (Qu x16 x18) ((Qu x16 x18).length : Int) 0) else (none)) else (none)) else (some x5)
def Q6.l1 : Nat → List Int → List Int → Int → List (List Int) → Int → Int → List Int → Int → Int → Option (List Int)
 | 0, _, _, _, _, _, _, _, _, _ => none
 | k + 1, x1, x5, x8, x16, x17, x18, x22, x23, x24 => if x24 < x23 then (if 0 ≤ x24 then (if x24 < (x22.length : Int) then (if x24 < (x1.length : Int) then (Q6.l1 k x1 x5 (wrap64 (x8 + (wrap64 ((rd x22 x24) * (rd x1 x24))))) x16 x17 x18 x22 x23 (wrap64 (x24 + 1))) else (none)) else (none)) else (none)) else (if x5.length < 17592186044416 then (Q6.l0 k x1 (x5 ++ [x8]) x16 x17 (wrap64 (x18 + 1))) else (none))
end
def Q6.f (k : Nat) (ae : List (List Int)) (af : List (List Int)) (l1 : List Int) : Option (List Int) := (Zo.f ae af).bind fun t102 => (Q6.l0 k l1 ([] : List Int) t102 (t102.length : Int) 0)
theorem Q6.ZS : ∀ k, (∀ y0 y1 y2 y3 y4, LeO (Q6.l0 k y0 y1 y2 y3 y4) (Q6.l0 (k + 1) y0 y1 y2 y3 y4)) ∧ (∀ y0 y1 y2 y3 y4 y5 y6 y7 y8, LeO (Q6.l1 k y0 y1 y2 y3 y4 y5 y6 y7 y8) (Q6.l1 (k + 1) y0 y1 y2 y3 y4 y5 y6 y7 y8))
 | 0 => ⟨fun _ _ _ _ _ r h => by simp [Q6.l0] at h, fun _ _ _ _ _ _ _ _ _ r h => by simp [Q6.l1] at h⟩
 | k + 1 => by
  obtain ⟨ih0, ih1⟩ := Q6.ZS k; refine ⟨?_, ?_⟩ <;> intros <;> (first | unfold Q6.l0 | unfold Q6.l1) <;> repeat' first | (with_reducible exact ih0 _ _ _ _ _) | (with_reducible exact ih1 _ _ _ _ _ _ _ _ _) | (with_reducible exact LeO.refl _) | (with_reducible exact LeO.none _) | (with_reducible refine LeO.ite ?_ ?_) | (with_reducible refine LeO.bind ?_ (fun _ => ?_)) | exact ih0 _ _ _ _ _ | exact ih1 _ _ _ _ _ _ _ _ _ | exact LeO.none _ | refine LeO.ite ?_ ?_ | refine LeO.bind ?_ (fun _ => ?_)
theorem Q6.mono : ∀ a0 a1 a2 k, LeO (Q6.f k a0 a1 a2) (Q6.f (k + 1) a0 a1 a2) := by
 intro a0 a1 a2 k; obtain ⟨ih0, ih1⟩ := Q6.ZS k; unfold Q6.f; repeat' first | (with_reducible exact ih0 _ _ _ _ _) | (with_reducible exact ih1 _ _ _ _ _ _ _ _ _) | (with_reducible exact LeO.refl _) | (with_reducible exact LeO.none _) | (with_reducible refine LeO.ite ?_ ?_) | (with_reducible refine LeO.bind ?_ (fun _ => ?_)) | exact ih0 _ _ _ _ _ | exact ih1 _ _ _ _ _ _ _ _ _ | exact LeO.none _ | refine LeO.ite ?_ ?_ | refine LeO.bind ?_ (fun _ => ?_)
set_option maxHeartbeats 8000000 in
set_option maxRecDepth 100000 in
theorem Q6.calls (k : Nat) (ak : Option Addr) (an : Nat) (ae : List (List Int)) (aj : Option Addr) (al : Nat) (af : List (List Int)) (A1 : Option Addr) (c1 : Nat) (l1 : List Int) (r : List Int) (w : World) (aM : Kd.C (Kd.slice 3 (Kd.int .i64)) w ak ae.length ae) (aQ : ae.length ≤ an) (aK : Kd.C (Kd.slice 3 (Kd.int .i64)) w aj af.length af) (aN : af.length ≤ al) (hr1 : Kd.C (Kd.int .i64) w A1 l1.length l1) (hc1 : l1.length ≤ c1) (h : Q6.f k ae af l1 = some r) :
  Calls Try.prog 86 #[.agg #[.slice ak ae.length an, .slice aj af.length al], .slice A1 l1.length c1] w fun e w' => ∃ v0_ : Value, e = .returned (v0_) ∧ Kd.R (Kd.int .i64) 3 w' w.heap.size (fun _ => True) v0_ r ∧ Below w.heap.size w w' := by
 have ej := Try.underlying24; have ay := aa.mk aM; have aA := aa.mk aQ; clear aM aQ; have az := aa.mk aK; have aC := aa.mk aN; clear aK aN; have HR1 := aa.mk hr1; have HC1 := aa.mk hc1; clear hr1 hc1; have HB := aa.mk (Below.refl w.heap.size w); have H : ((Zo.f ae af).bind fun t102 => (Q6.l0 k l1 ([] : List Int) t102 (t102.length : Int) 0)) = some r := h; clear h; replace H := Option.bind_eq_some_iff.mp H; obtain ⟨t102, A30, H⟩ := H; replace H : (Q6.l0 k l1 ([] : List Int) t102 (t102.length : Int) 0) = some r := H; have A3 := aa.mk A30; clear A30; have H' := aa.mk H; clear H; go_enter Try.func86, Try.ntmps86; go_wp2_with (first | ((with_reducible refine QN (N := 2) rfl ?_); refine Q3 ?hg (N := 2) ?hd (cs := #[.slice ak ae.length an, .slice aj af.length al]) (t := 24) ?hr ?_; (case hd => rfl); (case hg => rfl); (case hr => first | (go_simp; done) | (go_simp; rfl)); intro ag hg w4 hbox hb; have ab := aa.mk (hbox); have bh := aa.mk ((by rw [hg]; exact (Qb bB) : w.heap.size ≤ ag)); have aT := aa.mk ((by rw [hg]; exact (Qb bB) : w.heap.size ≤ ag)); replace HB := aa.mk (Qa bB hb); clear hb hbox hg; have eu : w4.cell? ⟨ag, 0, none⟩ = some (.slice ak ae.length an) := (Qd ab.out 0).trans rfl; have et : w4.cell? ⟨ag, 1, none⟩ = some (.slice aj af.length al) := (Qd ab.out 1).trans rfl; have en := Qc ab.out 0; have ek := Qc ab.out 1) | ((with_reducible refine QN (N := 15) rfl ?_); refine Two.build ?hg (N := 15) ?hd (v0 := .slice ak ae.length an) (v1 := .slice aj af.length al) ?hr ?_; (case hd => rfl); (case hg => rfl); (case hr => first | (go_simp; done) | (go_simp; rfl)); intro gq hgq wq hqb hqbel; replace HB := aa.mk (Qa bB hqbel); replace ab := aa.mk (Qp ab.out hqbel); have BQ := aa.mk hqb; clear hqb hqbel hgq) | ((with_reducible refine Qh (f := 76) rfl ?_); refine QG (some 16) rfl rfl Try.func76 (by kernel_rfl) rfl #[.slice (some ⟨gq, 0, none⟩) 2 2] rfl hA ?_; (with_reducible refine (Zo.calls (fun k_ => k_ < w.heap.size) _ _ ae (fun k_ => k_ < w.heap.size) _ _ af t102 _ _ BQ.out ?ah ?ai A3.out).mono ?_); (case ah => exact Kd.V_mk aA.out (Kd.Yg (Kd.C_F (Kd.ZP 3 (Kd.Yd .i64)) ay.out) bB)); (case ai => exact Kd.V_mk aC.out (Kd.Yg (Kd.C_F (Kd.ZP 3 (Kd.Yd .i64)) az.out) bB)); rintro e w6 ⟨gG, rfl, ho0, hb⟩; refine ⟨_, rfl, ?_⟩; have ba := aa.mk (Kd.Ya (Kd.ZX (ok' := fun k_ => k_ ≠ ag) ho0 (fun k_ hk_ => Or.elim hk_ (fun hs_ => Or.elim hs_ (fun hs_ => fun e_ => Nat.not_le.2 hs_ (by rw [e_]; exact bh.out)) (fun hs_ => fun e_ => Nat.not_le.2 hs_ (by rw [e_]; exact bh.out))) (fun hn_ => (Kd.freshB (g := ag) (o := .cells #[.slice ak ae.length an, .slice aj af.length al] 24 (0, 0)) (by (with_reducible repeat (first | refine Qx ?_ _ | refine QA ?_ | refine Qw ?_ _)); exact ab.out) k_ hn_)))) (Qb bB)); replace ab := aa.mk (Qp ab.out hb); replace HB := aa.mk (Qa bB hb); (try clear hb); (try clear hb2); (try clear hk); (try clear hi); (try clear ho0); obtain ⟨Ao7, co7, eo7⟩ := Kd.ZQ ba.out; subst eo7))
 go_loopg [5, 18] k (fun kq v5 v18 w' => ∃ (ao : List Int) (cm : Int), v18 = .int .i64 cm ∧ aa (Q6.l0 kq l1 ao t102 (t102.length : Int) cm = some r) ∧ aa (kq ≤ k) ∧ aa (Kd.R (Kd.int .i64) 3 w' w.heap.size (fun _ => True) v5 ao) ∧ aa (Kd.N (Kd.slice 3 (Kd.int .i64)) 28 w' w.heap.size (fun k_ => some k_ ≠ (v5 : Value).ownBlock ∧ k_ ≠ ag) (.slice Ao7 t102.length co7) t102) ∧ aa (w'.heap[ag]? = some (.cells #[(.slice ak ae.length an), (.slice aj af.length al)] 24 (0, 0))) ∧ aa (Below w.heap.size w w'))
 case atStart => exact ⟨(([] : List Int)), (0), (by first | rfl | (simp; done) | (simp [*]; done)), H', ⟨Nat.le_refl _⟩, ⟨by first | exact Kd.Yr _ _ _ _ _ | exact Kd.Yv _ _ _ _ _ | exact Kd.V_nil _ _ _ _ _ | exact Kd.Q_nil _ _ _ _ _ | exact Kd.Yy _ _ _ _ _⟩, ⟨by (with_reducible repeat (first | apply Kd.N_alloc | apply Kd.Z5 | apply Kd.Yj)); exact Kd.ZX ba.out (fun _ hk => ⟨(by simp [Value.ownBlock]), hk⟩)⟩, ⟨by (with_reducible repeat (first | refine Qx ?_ _ | refine QA ?_ | refine Qw ?_ _)); exact ab.out⟩, ⟨bB⟩⟩
 case round =>
  clear H'; try clear c1
  try clear p2
  try clear c7
  try clear eu
  try clear et
  try clear en
  try clear ek
  obtain ⟨ao, cm, rfl, HA, HK1, aE, jc, ab, HB⟩ := hrel; cases gk with
  | zero => exact absurd HA.out (by simp [Q6.l0])
  | succ k1 =>
   have H := HA.out; clear HA; simp only [Q6.l0] at H; by_cases c8 : cm < (t102.length : Int)
   ·rw [if_pos c8] at H; have dF : decide (cm < (t102.length : Int)) = true := decide_eq_true c8; clear c8; by_cases c9 : 0 ≤ cm
    ·rw [if_pos c9] at H; have fv : decide (0 ≤ cm) = true := decide_eq_true c9; clear c9; by_cases c10 : cm < (t102.length : Int)
     ·rw [if_pos c10] at H; have fq : decide (cm < (t102.length : Int)) = true := decide_eq_true c10; clear c10; have H' := aa.mk H; clear H; have bU : 0 ≤ (cm : Int) := of_decide_eq_true (by assumption); have bT : cm < (t102.length : Int) := of_decide_eq_true (by assumption); obtain ⟨eR, k9, nG, fo, bm, dP, dT⟩ := ZJ (Kd.Za jc.out).2.2 cm bU bT; cases fo; obtain ⟨sr, kF, kK, gU⟩ := Kd.Y2 jc.out [] cm bU (by first | exact bT | exact of_decide_eq_true (by assumption) | (have e_ := (Kd.Za jc.out).1; omega)); obtain ⟨xw, xq, rfl, ly, eb⟩ := Kd.Zt kK; have cB := gU 0 _ rfl; rw [Nat.add_zero, show ((Kd.slice 3 (Kd.int .i64))).sz = 1 from rfl, Nat.mul_one] at cB; replace cB := Option.some.inj (cB.symm.trans bm); injection cB with hva_ hvn_ hvc_
      rw [hva_] at eb; rw [hvc_] at ly; have oL := aa.mk (show Kd.V (Kd.int .i64) 3 _ w.heap.size _ _ (Qu t102 cm) from Kd.V_mk ly eb); clear hva_ hvn_ hvc_ eb ly; clear gU kF; have cG := aa.mk dT; have ma := aa.mk dP; clear dT dP; replace bU := eq_true bU; replace bT := eq_true bT; go_wp2; go_loopg [8, 24] k1 (fun kq v8 v24 w' => ∃ (aY : Int) (dm : Int), v8 = .int .i64 aY ∧ v24 = .int .i64 dm ∧ aa (Q6.l1 kq l1 ao aY t102 (t102.length : Int) cm (Qu t102 cm) ((Qu t102 cm).length : Int) dm = some r) ∧ aa (kq ≤ k1) ∧ aa (Kd.R (Kd.int .i64) 3 w' w.heap.size (fun _ => True) u5 ao) ∧ aa (Kd.N (Kd.slice 3 (Kd.int .i64)) 28 w' w.heap.size (fun k_ => some k_ ≠ (u5 : Value).ownBlock ∧ k_ ≠ ag) (.slice (some eR) t102.length co7) t102) ∧ aa (w'.heap[ag]? = some (.cells #[(.slice ak ae.length an), (.slice aj af.length al)] 24 (0, 0))) ∧ aa (Kd.C (Kd.int .i64) w' k9 (Qu t102 cm).length (Qu t102 cm)) ∧ aa (Below w.heap.size w w'))
      case atStart => exact ⟨(0), (0), (by first | rfl | (simp; done) | (simp [*]; done)), (by first | rfl | (simp; done) | (simp [*]; done)), H', ⟨Nat.le_refl _⟩, ⟨by (with_reducible repeat (first | apply Kd.R_alloc | apply Kd.R_drewN | apply Kd.QO)); exact aE.out⟩, ⟨by (with_reducible repeat (first | apply Kd.N_alloc | apply Kd.Z5 | apply Kd.Yj)); exact jc.out⟩, ⟨by (with_reducible repeat (first | refine Qx ?_ _ | refine QA ?_ | refine Qw ?_ _)); exact ab.out⟩, ⟨by repeat (first | (with_reducible exact cG.out) | (with_reducible refine Kd.C_alloc ?_ _) | (with_reducible refine Kd.ZF ?_ _) | (with_reducible refine Kd.C_drew ?_) | exact cG.out)⟩, ⟨bB⟩⟩
      case round =>
       clear H'; try clear c1
       try clear p1
       try clear q1
       try clear hx1
       try clear p2
       try clear c7
       try clear c8
       try clear dF
       try clear c9
       try clear fv
       try clear c10
       try clear fq
       try clear p10
       try clear q10
       try clear ir
       try clear eu
       try clear et
       try clear en
       try clear ek
       try clear bm
       try clear bU
       try clear p2
       try clear bT
       obtain ⟨aY, dm, rfl, rfl, HA, HK2, aE, jc, ab, cG, HB⟩ := hrel; cases gk with
       | zero => exact absurd HA.out (by simp [Q6.l1])
       | succ k2 =>
        have H := HA.out; clear HA; simp only [Q6.l1] at H; by_cases c11 : dm < ((Qu t102 cm).length : Int)
        ·rw [if_pos c11] at H; have fp : decide (dm < ((Qu t102 cm).length : Int)) = true := decide_eq_true c11; clear c11; by_cases c12 : 0 ≤ dm
         ·rw [if_pos c12] at H; have eP : decide (0 ≤ dm) = true := decide_eq_true c12; clear c12; by_cases c13 : dm < ((Qu t102 cm).length : Int)
          ·rw [if_pos c13] at H; have iX : decide (dm < ((Qu t102 cm).length : Int)) = true := decide_eq_true c13; clear c13; by_cases c14 : dm < (l1.length : Int)
           ·rw [if_pos c14] at H; have gr : decide (dm < (l1.length : Int)) = true := decide_eq_true c14; clear c14; have H' := aa.mk H; clear H; have cU : 0 ≤ (dm : Int) := of_decide_eq_true (by assumption); have cT : dm < ((Qu t102 cm).length : Int) := of_decide_eq_true (by assumption); obtain ⟨jH, ix, a9⟩ := Kd.Zi cG.out dm cU cT; cases ix; replace a9 := by first | exact (HB.out.cell (World.block_lt_of_cell? w _ a9)).trans a9 | exact a9
            replace cU := eq_true cU; replace cT := eq_true cT; have jq : 0 ≤ (dm : Int) := of_decide_eq_true (by assumption); have jl : dm < (l1.length : Int) := of_decide_eq_true (by assumption); obtain ⟨gu, pW, fx⟩ := Kd.Zi HR1.out dm jq jl; cases pW; replace fx := by first | exact (HB.out.cell (World.block_lt_of_cell? w _ fx)).trans fx | exact fx
            replace jq := eq_true jq; replace jl := eq_true jl; go_wp2; go_roundg k2
            case measure => have := HK1.out; have := HK2.out; omega
            case rel => exact ⟨(wrap64 (aY + (wrap64 ((rd (Qu t102 cm) dm) * (rd l1 dm))))), (wrap64 (dm + 1)), (by first | rfl | (simp; done) | (simp [*]; done)), (by first | rfl | (simp; done) | (simp [*]; done)), H', ⟨by have := HK1.out; have := HK2.out; omega⟩, ⟨by (with_reducible repeat (first | apply Kd.R_alloc | apply Kd.R_drewN | apply Kd.QO)); exact aE.out⟩, ⟨by (with_reducible repeat (first | apply Kd.N_alloc | apply Kd.Z5 | apply Kd.Yj)); exact jc.out⟩, ⟨by (with_reducible repeat (first | refine Qx ?_ _ | refine QA ?_ | refine Qw ?_ _)); exact ab.out⟩, ⟨by repeat (first | (with_reducible exact cG.out) | (with_reducible refine Kd.C_alloc ?_ _) | (with_reducible refine Kd.ZF ?_ _) | (with_reducible refine Kd.C_drew ?_) | exact cG.out)⟩, ⟨bB⟩⟩
           ·rw [if_neg c14] at H; exact absurd H (by simp)
          ·rw [if_neg c13] at H; exact absurd H (by simp)
         ·rw [if_neg c12] at H; exact absurd H (by simp)
        ·rw [if_neg c11] at H; have fp : decide (dm < ((Qu t102 cm).length : Int)) = false := decide_eq_false c11; clear c11; by_cases c15 : ao.length < 17592186044416
         ·rw [if_pos c15] at H; have qh := aa.mk c15; clear c15; obtain ⟨dy, eD⟩ : ∃ y_ : List Int, y_ = (ao ++ [aY]) := ⟨_, rfl⟩; replace H : (Q6.l0 k2 l1 dy t102 (t102.length : Int) (wrap64 (cm + 1))) = some r := by first | (rw [eD]; with_reducible exact H) | (have H2_ := (Option.bind_some _ _).symm.trans H; rw [eD]; with_reducible exact H2_) | (have H2_ := (Option.bind_some _ _).symm.trans H; with_reducible exact H2_) | with_reducible exact H | (rw [eD]; exact H) | exact H
          have iY := aa.mk eD; clear eD; have H' := aa.mk H; clear H; go_wp2_with (first | ((with_reducible refine Zs (b := .append) (xs := #[.tmp 38, .tmp 40]) rfl ?_); at_builtin; refine Kd.Ys (Kd.int .i64) (w0 := w) w.heap.size rfl (.tmp 38) (.tmp 40) 28 3 (.int .i64 0) 8 rfl Try.underlying28 info3 rfl (by decide) (by omega) u5 ao aY [.int .i64 aY] (fun _ => True) (fun _ => False) rfl rfl ?aP (fun _ hk => hk.elim) ?aF ?aO ?aB ?aS ?aL ?_; (case aP => exact rfl); (case aB => exact bB); (case aF => exact (fun _ _ => trivial)); (case aO => exact aE.out); (case aS => exact (Qb bB)); (case aL => have := qh.out; omega); intro jO w16 ho hb hg hat; rw [← iY.out] at ho; replace jc := aa.mk (Kd.U1 (ok := (fun k_ => k_ ≠ ag)) (by (with_reducible repeat (first | apply Kd.N_alloc | apply Kd.Z5 | apply Kd.Yj)); exact Kd.ZX jc.out (fun _ hk => ⟨hk.2, hk.1⟩)) hg hat); replace ab := aa.mk (Yq (g := ag) (o := .cells #[.slice ak ae.length an, .slice aj af.length al] 24 (0, 0)) (by (with_reducible repeat (first | refine Qx ?_ _ | refine QA ?_ | refine Qw ?_ _)); exact ab.out) hg (Kd.R_ne aE.out ab.out (by decide))); replace HB := aa.mk (hb); have ca := aa.mk (ho); clear aE; clear ho hb hg hat))
          go_roundg k2
          case measure => have := HK1.out; have := HK2.out; omega
          case rel => exact ⟨(dy), (wrap64 (cm + 1)), (by first | rfl | (simp; done) | (simp [*]; done)), H', ⟨by have := HK1.out; have := HK2.out; omega⟩, ⟨by (with_reducible repeat (first | apply Kd.R_alloc | apply Kd.R_drewN | apply Kd.QO)); exact ca.out⟩, ⟨by (with_reducible repeat (first | apply Kd.N_alloc | apply Kd.Z5 | apply Kd.Yj)); exact Kd.ZX jc.out (fun _ hk => ⟨hk.2, hk.1⟩)⟩, ⟨by (with_reducible repeat (first | refine Qx ?_ _ | refine QA ?_ | refine Qw ?_ _)); exact ab.out⟩, ⟨bB⟩⟩
         ·rw [if_neg c15] at H; exact absurd H (by simp)
     ·rw [if_neg c10] at H; exact absurd H (by simp)
    ·rw [if_neg c9] at H; exact absurd H (by simp)
   ·rw [if_neg c8] at H; have dF : decide (cm < (t102.length : Int)) = false := decide_eq_false c8; clear c8; obtain rfl := Option.some.inj H; go_wp2; go_ret; exact ⟨_, by first | rfl | (simp [Qk, Qj] <;> rfl) | (simp [*, Qk, Qj] <;> rfl), by (with_reducible repeat (first | apply Kd.R_alloc | apply Kd.R_drewN | apply Kd.QO)); exact aE.out, bB⟩
def QZ.l0 : Nat → Bool → List Int → Int → Int → List (List Int) → List (List Int) → Option (Bool)
 | 0, _, _, _, _, _, _ => none
 | k + 1, x5, x10, x11, x12, av, aw => if x12 < x11 then (if 0 ≤ x12 then (if x12 < (x10.length : Int) then (if x12 ≥ (av.length : Int) then (if (wrap64 (-(rd x10 x12))) < 0 then (some false) else (if x5 = true then (QZ.l0 k true x10 x11 (wrap64 (x12 + 1)) av aw) else (QZ.l0 k (decide ((wrap64 (-(rd x10 x12))) > 0)) x10 x11 (wrap64 (x12 + 1)) av aw))) else (if (rd x10 x12) < 0 then (some false) else (if x5 = true then (QZ.l0 k true x10 x11 (wrap64 (x12 + 1)) av aw) else (QZ.l0 k (decide ((rd x10 x12) > 0)) x10 x11 (wrap64 (x12 + 1)) av aw)))) else (none)) else (none)) else (some x5)
def QZ.f (k : Nat) (ae : List (List Int)) (af : List (List Int)) (l1 : List Int) : Option (Bool) := (Q6.f k ae af l1).bind fun t102 => (QZ.l0 k false t102 (t102.length : Int) 0 ae af)
theorem QZ.ZS : ∀ k, (∀ y0 y1 y2 y3 y4 y5, LeO (QZ.l0 k y0 y1 y2 y3 y4 y5) (QZ.l0 (k + 1) y0 y1 y2 y3 y4 y5))
 | 0 => fun _ _ _ _ _ _ r h => by simp [QZ.l0] at h
 | k + 1 => by
  have ih0 := QZ.ZS k
  ·intro y0 y1 y2 y3 y4 y5; unfold QZ.l0; repeat' first | (with_reducible exact ih0 _ _ _ _ _ _) | (with_reducible exact Q6.mono _ _ _ _) | (with_reducible exact LeO.refl _) | (with_reducible exact LeO.none _) | (with_reducible refine LeO.ite ?_ ?_) | (with_reducible refine LeO.bind ?_ (fun _ => ?_)) | exact ih0 _ _ _ _ _ _ | exact Q6.mono _ _ _ _ | exact LeO.none _ | refine LeO.ite ?_ ?_ | refine LeO.bind ?_ (fun _ => ?_)
theorem QZ.mono : ∀ a0 a1 a2 k, LeO (QZ.f k a0 a1 a2) (QZ.f (k + 1) a0 a1 a2) := by
 intro a0 a1 a2 k; have ih0 := QZ.ZS k; unfold QZ.f; repeat' first | (with_reducible exact ih0 _ _ _ _ _ _) | (with_reducible exact Q6.mono _ _ _ _) | (with_reducible exact LeO.refl _) | (with_reducible exact LeO.none _) | (with_reducible refine LeO.ite ?_ ?_) | (with_reducible refine LeO.bind ?_ (fun _ => ?_)) | exact ih0 _ _ _ _ _ _ | exact Q6.mono _ _ _ _ | exact LeO.none _ | refine LeO.ite ?_ ?_ | refine LeO.bind ?_ (fun _ => ?_)
set_option maxHeartbeats 8000000 in
set_option maxRecDepth 100000 in
theorem QZ.calls (k : Nat) (ak : Option Addr) (an : Nat) (ae : List (List Int)) (aj : Option Addr) (al : Nat) (af : List (List Int)) (A1 : Option Addr) (c1 : Nat) (l1 : List Int) (r : Bool) (w : World) (aM : Kd.C (Kd.slice 3 (Kd.int .i64)) w ak ae.length ae) (aQ : ae.length ≤ an) (aK : Kd.C (Kd.slice 3 (Kd.int .i64)) w aj af.length af) (aN : af.length ≤ al) (hr1 : Kd.C (Kd.int .i64) w A1 l1.length l1) (hc1 : l1.length ≤ c1) (h : QZ.f k ae af l1 = some r) :
  Calls Try.prog 83 #[.agg #[.slice ak ae.length an, .slice aj af.length al], .slice A1 l1.length c1] w fun e w' => e = .returned (.bool r) ∧ Below w.heap.size w w' := by
 have ej := Try.underlying24; have ay := aa.mk aM; have aA := aa.mk aQ; clear aM aQ; have az := aa.mk aK; have aC := aa.mk aN; clear aK aN; have HR1 := aa.mk hr1; have HC1 := aa.mk hc1; clear hr1 hc1; have HB := aa.mk (Below.refl w.heap.size w); have H : ((Q6.f k ae af l1).bind fun t102 => (QZ.l0 k false t102 (t102.length : Int) 0 ae af)) = some r := h; clear h; replace H := Option.bind_eq_some_iff.mp H; obtain ⟨t102, A30, H⟩ := H; replace H : (QZ.l0 k false t102 (t102.length : Int) 0 ae af) = some r := H; have A3 := aa.mk A30; clear A30; have H' := aa.mk H; clear H; go_enter Try.func83, Try.ntmps83; go_wp2_with (first | ((with_reducible refine QN (N := 2) rfl ?_); refine Q3 ?hg (N := 2) ?hd (cs := #[.slice ak ae.length an, .slice aj af.length al]) (t := 24) ?hr ?_; (case hd => rfl); (case hg => rfl); (case hr => first | (go_simp; done) | (go_simp; rfl)); intro ag hg w4 hbox hb; have ab := aa.mk (hbox); have bh := aa.mk ((by rw [hg]; exact (Qb bB) : w.heap.size ≤ ag)); have aT := aa.mk ((by rw [hg]; exact (Qb bB) : w.heap.size ≤ ag)); replace HB := aa.mk (Qa bB hb); clear hb hbox hg; have eu : w4.cell? ⟨ag, 0, none⟩ = some (.slice ak ae.length an) := (Qd ab.out 0).trans rfl; have et : w4.cell? ⟨ag, 1, none⟩ = some (.slice aj af.length al) := (Qd ab.out 1).trans rfl; have en := Qc ab.out 0; have ek := Qc ab.out 1) | ((with_reducible refine Qh (f := 86) rfl ?_); refine QG (some 10) rfl rfl Try.func86 (by kernel_rfl) rfl #[.agg #[.slice ak ae.length an, .slice aj af.length al], .slice A1 l1.length c1] rfl hA ?_; (with_reducible refine (Q6.calls k _ _ ae _ _ af _ _ l1 t102 _ ?ah ?ai ?aq ?ar ?bE ?bD A3.out).mono ?_); (case ah => exact (Kd.Qq ay.out HB.out)); (case ai => exact aA.out); (case aq => exact (Kd.Qq az.out HB.out)); (case ar => exact aC.out); (case bE => exact (Kd.Qq HR1.out HB.out)); (case bD => exact HC1.out); rintro e w6 ⟨gG, rfl, ho0, hb⟩; refine ⟨_, rfl, ?_⟩; have ba := aa.mk (Kd.Zh ho0 (Qb bB)); replace ab := aa.mk (Qp ab.out hb); replace HB := aa.mk (Qa bB hb); (try clear hb); (try clear hb2); (try clear hk); (try clear hi); (try clear ho0); obtain ⟨Ao7, co7, eo7⟩ := Kd.Zg ba.out; subst eo7))
 go_loopg [5, 12] k (fun kq v5 v12 w' => ∃ (ao : Bool) (bo : Int), v5 = .bool ao ∧ v12 = .int .i64 bo ∧ aa (QZ.l0 kq ao t102 (t102.length : Int) bo ae af = some r) ∧ aa (kq ≤ k) ∧ aa (Kd.R (Kd.int .i64) 3 w' w.heap.size (fun _ => True) (.slice Ao7 t102.length co7) t102) ∧ aa (w'.heap[ag]? = some (.cells #[(.slice ak ae.length an), (.slice aj af.length al)] 24 (0, 0))) ∧ aa (Below w.heap.size w w'))
 case atStart => exact ⟨(false), (0), (by first | rfl | (simp; done) | (simp [*]; done)), (by first | rfl | (simp; done) | (simp [*]; done)), H', ⟨Nat.le_refl _⟩, ⟨by (with_reducible repeat (first | apply Kd.R_alloc | apply Kd.R_drewN | apply Kd.QO)); exact ba.out⟩, ⟨by (with_reducible repeat (first | refine Qx ?_ _ | refine QA ?_ | refine Qw ?_ _)); exact ab.out⟩, ⟨bB⟩⟩
 case round =>
  clear H'; try clear c1
  try clear p2
  try clear eu
  try clear et
  try clear en
  try clear ek
  obtain ⟨ao, bo, rfl, rfl, HA, HK1, bR, ab, HB⟩ := hrel; cases gk with
  | zero => exact absurd HA.out (by simp [QZ.l0])
  | succ k1 =>
   have H := HA.out; clear HA; simp only [QZ.l0] at H; by_cases c8 : bo < (t102.length : Int)
   ·rw [if_pos c8] at H; have dF : decide (bo < (t102.length : Int)) = true := decide_eq_true c8; clear c8; by_cases c9 : 0 ≤ bo
    ·rw [if_pos c9] at H; have fv : decide (0 ≤ bo) = true := decide_eq_true c9; clear c9; by_cases c10 : bo < (t102.length : Int)
     ·rw [if_pos c10] at H; have fq : decide (bo < (t102.length : Int)) = true := decide_eq_true c10; clear c10; by_cases c11 : bo ≥ (ae.length : Int)
      ·rw [if_pos c11] at H; have fp : decide ((ae.length : Int) ≤ bo) = true := decide_eq_true c11; clear c11; by_cases c12 : (wrap64 (-(rd t102 bo))) < 0
       ·rw [if_pos c12] at H; have eP : decide ((wrap64 (-(rd t102 bo))) < 0) = true := decide_eq_true c12; clear c12; obtain rfl := Option.some.inj H; have bU : 0 ≤ (bo : Int) := of_decide_eq_true (by assumption); have bT : bo < (t102.length : Int) := of_decide_eq_true (by assumption); obtain ⟨eR, fo, bm⟩ := Kd.Zi (Kd.QE bR.out).2.2 bo bU bT; cases fo; replace bU := eq_true bU; replace bT := eq_true bT; have e9 : wr.cell? ⟨ag, 0, none⟩ = some (.slice ak ae.length an) := (Qd ab.out 0).trans rfl; have e8 : wr.cell? ⟨ag, 1, none⟩ = some (.slice aj af.length al) := (Qd ab.out 1).trans rfl; have e5 := Qc ab.out 0; have eZ := Qc ab.out 1; go_wp2; go_ret; exact ⟨by first | rfl | (simp [Qk, Qj] <;> rfl) | (simp [*, Qk, Qj] <;> rfl), bB⟩
       ·rw [if_neg c12] at H; have eP : decide ((wrap64 (-(rd t102 bo))) < 0) = false := decide_eq_false c12; clear c12; by_cases c14 : ao = true
        ·subst c14; have H1 : (QZ.l0 k1 true t102 (t102.length : Int) (wrap64 (bo + 1)) ae af) = some r := by rw [if_pos rfl] at H; exact H
         clear H; have H := H1; clear H1; have H' := aa.mk H; clear H; have bU : 0 ≤ (bo : Int) := of_decide_eq_true (by assumption); have bT : bo < (t102.length : Int) := of_decide_eq_true (by assumption); obtain ⟨eR, fo, bm⟩ := Kd.Zi (Kd.QE bR.out).2.2 bo bU bT; cases fo; replace bU := eq_true bU; replace bT := eq_true bT; have ko : wr.cell? ⟨ag, 0, none⟩ = some (.slice ak ae.length an) := (Qd ab.out 0).trans rfl; have km : wr.cell? ⟨ag, 1, none⟩ = some (.slice aj af.length al) := (Qd ab.out 1).trans rfl; have kb := Qc ab.out 0; have ka := Qc ab.out 1; go_wp2; go_roundg k1
         case measure => have := HK1.out; omega
         case rel => exact ⟨(true), (wrap64 (bo + 1)), (by first | rfl | (simp; done) | (simp [*]; done)), (by first | rfl | (simp; done) | (simp [*]; done)), H', ⟨by have := HK1.out; omega⟩, ⟨by (with_reducible repeat (first | apply Kd.R_alloc | apply Kd.R_drewN | apply Kd.QO)); exact bR.out⟩, ⟨by (with_reducible repeat (first | refine Qx ?_ _ | refine QA ?_ | refine Qw ?_ _)); exact ab.out⟩, ⟨bB⟩⟩
        ·replace c14 := Bool.eq_false_iff.mpr c14; subst c14; have H1 : (QZ.l0 k1 (decide ((wrap64 (-(rd t102 bo))) > 0)) t102 (t102.length : Int) (wrap64 (bo + 1)) ae af) = some r := by rw [if_neg (show ¬ (false = true) by decide)] at H; exact H
         clear H; have H := H1; clear H1; have H' := aa.mk H; clear H; have bU : 0 ≤ (bo : Int) := of_decide_eq_true (by assumption); have bT : bo < (t102.length : Int) := of_decide_eq_true (by assumption); obtain ⟨eR, fo, bm⟩ := Kd.Zi (Kd.QE bR.out).2.2 bo bU bT; cases fo; replace bU := eq_true bU; replace bT := eq_true bT; have e7 : wr.cell? ⟨ag, 0, none⟩ = some (.slice ak ae.length an) := (Qd ab.out 0).trans rfl; have e6 : wr.cell? ⟨ag, 1, none⟩ = some (.slice aj af.length al) := (Qd ab.out 1).trans rfl; have eY := Qc ab.out 0; have eX := Qc ab.out 1; go_wp2; go_roundg k1
         case measure => have := HK1.out; omega
         case rel => exact ⟨(decide ((wrap64 (-(rd t102 bo))) > 0)), (wrap64 (bo + 1)), (by first | rfl | (simp; done) | (simp [*]; done)), (by first | rfl | (simp; done) | (simp [*]; done)), H', ⟨by have := HK1.out; omega⟩, ⟨by (with_reducible repeat (first | apply Kd.R_alloc | apply Kd.R_drewN | apply Kd.QO)); exact bR.out⟩, ⟨by (with_reducible repeat (first | refine Qx ?_ _ | refine QA ?_ | refine Qw ?_ _)); exact ab.out⟩, ⟨bB⟩⟩
      ·rw [if_neg c11] at H; have fp : decide ((ae.length : Int) ≤ bo) = false := decide_eq_false c11; clear c11; by_cases c17 : (rd t102 bo) < 0
       ·rw [if_pos c17] at H; have gp : decide ((rd t102 bo) < 0) = true := decide_eq_true c17; clear c17; obtain rfl := Option.some.inj H; have bU : 0 ≤ (bo : Int) := of_decide_eq_true (by assumption); have bT : bo < (t102.length : Int) := of_decide_eq_true (by assumption); obtain ⟨eR, fo, bm⟩ := Kd.Zi (Kd.QE bR.out).2.2 bo bU bT; cases fo; replace bU := eq_true bU; replace bT := eq_true bT; have hU : wr.cell? ⟨ag, 0, none⟩ = some (.slice ak ae.length an) := (Qd ab.out 0).trans rfl; have hP : wr.cell? ⟨ag, 1, none⟩ = some (.slice aj af.length al) := (Qd ab.out 1).trans rfl; have hH := Qc ab.out 0; have hG := Qc ab.out 1; go_wp2; go_ret; exact ⟨by first | rfl | (simp [Qk, Qj] <;> rfl) | (simp [*, Qk, Qj] <;> rfl), bB⟩
       ·rw [if_neg c17] at H; have gp : decide ((rd t102 bo) < 0) = false := decide_eq_false c17; clear c17; by_cases c19 : ao = true
        ·subst c19; have H1 : (QZ.l0 k1 true t102 (t102.length : Int) (wrap64 (bo + 1)) ae af) = some r := by rw [if_pos rfl] at H; exact H
         clear H; have H := H1; clear H1; have H' := aa.mk H; clear H; have bU : 0 ≤ (bo : Int) := of_decide_eq_true (by assumption); have bT : bo < (t102.length : Int) := of_decide_eq_true (by assumption); obtain ⟨eR, fo, bm⟩ := Kd.Zi (Kd.QE bR.out).2.2 bo bU bT; cases fo; replace bU := eq_true bU; replace bT := eq_true bT; have iU : wr.cell? ⟨ag, 0, none⟩ = some (.slice ak ae.length an) := (Qd ab.out 0).trans rfl; have iT : wr.cell? ⟨ag, 1, none⟩ = some (.slice aj af.length al) := (Qd ab.out 1).trans rfl; have iQ := Qc ab.out 0; have iP := Qc ab.out 1; go_wp2; go_roundg k1
         case measure => have := HK1.out; omega
         case rel => exact ⟨(true), (wrap64 (bo + 1)), (by first | rfl | (simp; done) | (simp [*]; done)), (by first | rfl | (simp; done) | (simp [*]; done)), H', ⟨by have := HK1.out; omega⟩, ⟨by (with_reducible repeat (first | apply Kd.R_alloc | apply Kd.R_drewN | apply Kd.QO)); exact bR.out⟩, ⟨by (with_reducible repeat (first | refine Qx ?_ _ | refine QA ?_ | refine Qw ?_ _)); exact ab.out⟩, ⟨bB⟩⟩
        ·replace c19 := Bool.eq_false_iff.mpr c19; subst c19; have H1 : (QZ.l0 k1 (decide ((rd t102 bo) > 0)) t102 (t102.length : Int) (wrap64 (bo + 1)) ae af) = some r := by rw [if_neg (show ¬ (false = true) by decide)] at H; exact H
         clear H; have H := H1; clear H1; have H' := aa.mk H; clear H; have bU : 0 ≤ (bo : Int) := of_decide_eq_true (by assumption); have bT : bo < (t102.length : Int) := of_decide_eq_true (by assumption); obtain ⟨eR, fo, bm⟩ := Kd.Zi (Kd.QE bR.out).2.2 bo bU bT; cases fo; replace bU := eq_true bU; replace bT := eq_true bT; have lP : wr.cell? ⟨ag, 0, none⟩ = some (.slice ak ae.length an) := (Qd ab.out 0).trans rfl; have lO : wr.cell? ⟨ag, 1, none⟩ = some (.slice aj af.length al) := (Qd ab.out 1).trans rfl; have lN := Qc ab.out 0; have lM := Qc ab.out 1; go_wp2; go_roundg k1
         case measure => have := HK1.out; omega
         case rel => exact ⟨(decide ((rd t102 bo) > 0)), (wrap64 (bo + 1)), (by first | rfl | (simp; done) | (simp [*]; done)), (by first | rfl | (simp; done) | (simp [*]; done)), H', ⟨by have := HK1.out; omega⟩, ⟨by (with_reducible repeat (first | apply Kd.R_alloc | apply Kd.R_drewN | apply Kd.QO)); exact bR.out⟩, ⟨by (with_reducible repeat (first | refine Qx ?_ _ | refine QA ?_ | refine Qw ?_ _)); exact ab.out⟩, ⟨bB⟩⟩
     ·rw [if_neg c10] at H; exact absurd H (by simp)
    ·rw [if_neg c9] at H; exact absurd H (by simp)
   ·rw [if_neg c8] at H; have dF : decide (bo < (t102.length : Int)) = false := decide_eq_false c8; clear c8; obtain rfl := Option.some.inj H; go_wp2; go_ret; exact ⟨by first | rfl | (simp [Qk, Qj] <;> rfl) | (simp [*, Qk, Qj] <;> rfl), bB⟩
def Zw.f (k : Nat) (ae : List (List Int)) (af : List (List Int)) (l1 : List Int) : Option (Int) := (Ql.f k ae af).bind fun t102 => (if t102 = 0 then (if 0 < (ae.length : Int) then ((Zp.f l1 ((Qu ae 0).length : Int) (-1000000) 1000000).bind fun t104 => (if t104 = true then (some 0) else (some 1))) else (none)) else (some t102))
theorem Zw.mono : ∀ a0 a1 a2 k, LeO (Zw.f k a0 a1 a2) (Zw.f (k + 1) a0 a1 a2) := by
 intro a0 a1 a2 k; unfold Zw.f; repeat' first | (with_reducible exact Ql.mono _ _ _) | (with_reducible exact LeO.refl _) | (with_reducible exact LeO.none _) | (with_reducible refine LeO.ite ?_ ?_) | (with_reducible refine LeO.bind ?_ (fun _ => ?_)) | exact Ql.mono _ _ _ | exact LeO.none _ | refine LeO.ite ?_ ?_ | refine LeO.bind ?_ (fun _ => ?_)
set_option maxHeartbeats 8000000 in
set_option maxRecDepth 100000 in
theorem Zw.calls (k : Nat) (ak : Option Addr) (an : Nat) (ae : List (List Int)) (aj : Option Addr) (al : Nat) (af : List (List Int)) (A1 : Option Addr) (c1 : Nat) (l1 : List Int) (r : Int) (w : World) (aM : Kd.C (Kd.slice 3 (Kd.int .i64)) w ak ae.length ae) (aQ : ae.length ≤ an) (aK : Kd.C (Kd.slice 3 (Kd.int .i64)) w aj af.length af) (aN : af.length ≤ al) (hr1 : Kd.C (Kd.int .i64) w A1 l1.length l1) (hc1 : l1.length ≤ c1) (h : Zw.f k ae af l1 = some r) :
  Calls Try.prog 85 #[.agg #[.slice ak ae.length an, .slice aj af.length al], .slice A1 l1.length c1] w fun e w' => e = .returned (.int .i64 r) ∧ Below w.heap.size w w' := by
 have ej := Try.underlying24; have ay := aa.mk aM; have aA := aa.mk aQ; clear aM aQ; have az := aa.mk aK; have aC := aa.mk aN; clear aK aN; have HR1 := aa.mk hr1; have HC1 := aa.mk hc1; clear hr1 hc1; have HB := aa.mk (Below.refl w.heap.size w); have H : ((Ql.f k ae af).bind fun t102 => (if t102 = 0 then (if 0 < (ae.length : Int) then ((Zp.f l1 ((Qu ae 0).length : Int) (-1000000) 1000000).bind fun t104 => (if t104 = true then (some 0) else (some 1))) else (none)) else (some t102))) = some r := h; clear h; replace H := Option.bind_eq_some_iff.mp H; obtain ⟨t102, A30, H⟩ := H; replace H : (if t102 = 0 then (if 0 < (ae.length : Int) then ((Zp.f l1 ((Qu ae 0).length : Int) (-1000000) 1000000).bind fun t104 => (if t104 = true then (some 0) else (some 1))) else (none)) else (some t102)) = some r := H; have A3 := aa.mk A30; clear A30; by_cases c4 : t102 = 0
 ·rw [if_pos c4] at H; have bI : (t102 == 0) = true := beq_iff_eq.mpr c4; have eh : (t102 != 0) = false := bne_eq_false_iff_eq.mpr c4; clear c4; by_cases c5 : 0 < (ae.length : Int)
  ·rw [if_pos c5] at H; have dh : decide (0 < (ae.length : Int)) = true := decide_eq_true c5; have iz : decide (0 < ae.length) = true := decide_eq_true (by omega); clear c5; replace H := Option.bind_eq_some_iff.mp H; obtain ⟨t104, A60, H⟩ := H; replace H : (if t104 = true then (some 0) else (some 1)) = some r := H; have A6 := aa.mk A60; clear A60; by_cases c7 : t104 = true
   ·subst c7; have H1 : (some 0) = some r := by rw [if_pos rfl] at H; exact H
    clear H; have H := H1; clear H1; obtain rfl := Option.some.inj H; go_enter Try.func85, Try.ntmps85; go_wp2_with (first | ((with_reducible refine QN (N := 2) rfl ?_); refine Q3 ?hg (N := 2) ?hd (cs := #[.slice ak ae.length an, .slice aj af.length al]) (t := 24) ?hr ?_; (case hd => rfl); (case hg => rfl); (case hr => first | (go_simp; done) | (go_simp; rfl)); intro ag hg w8 hbox hb; have ab := aa.mk (hbox); have bh := aa.mk ((by rw [hg]; exact (Qb bB) : w.heap.size ≤ ag)); have aT := aa.mk ((by rw [hg]; exact (Qb bB) : w.heap.size ≤ ag)); replace HB := aa.mk (Qa bB hb); clear hb hbox hg; have pA : w8.cell? ⟨ag, 0, none⟩ = some (.slice ak ae.length an) := (Qd ab.out 0).trans rfl; have py : w8.cell? ⟨ag, 1, none⟩ = some (.slice aj af.length al) := (Qd ab.out 1).trans rfl; have px := Qc ab.out 0; have pw := Qc ab.out 1) | ((with_reducible refine Qh (f := 38) rfl ?_); refine QG (some 7) rfl rfl Try.func38 (by kernel_rfl) rfl #[.agg #[.slice ak ae.length an, .slice aj af.length al]] rfl hA ?_; (with_reducible refine (Ql.calls k _ _ ae _ _ af t102 _ ?ah ?ai ?aq ?ar A3.out).mono ?_); (case ah => exact (Kd.Qq ay.out HB.out)); (case ai => exact aA.out); (case aq => exact (Kd.Qq az.out HB.out)); (case ar => exact aC.out); rintro e w10 ⟨rfl, hb⟩; refine ⟨_, rfl, ?_⟩; replace ab := aa.mk (Qp ab.out hb); replace HB := aa.mk (Qa bB hb); (try clear hb); (try clear hb2); (try clear hk); (try clear hi); have cQ : w10.cell? ⟨ag, 0, none⟩ = some (.slice ak ae.length an) := (Qd ab.out 0).trans rfl; have cP : w10.cell? ⟨ag, 1, none⟩ = some (.slice aj af.length al) := (Qd ab.out 1).trans rfl; have cO := Qc ab.out 0; have cN := Qc ab.out 1; have eg : 0 ≤ (0 : Int) := (by omega); have ef : 0 < (ae.length : Int) := of_decide_eq_true (by assumption); obtain ⟨jI, nN, nH, jw, bg, dQ, dU⟩ := ZJ ay.out 0 eg ef; cases jw; have uW : (0 < ae.length) = True := eq_true (by omega); (try rw [show ((0 : Int)).toNat = 0 from rfl] at bg); (try rw [Addr.add_zero'] at bg); replace bg := (HB.out.cell (World.block_lt_of_cell? w _ bg)).trans bg; have lZ := aa.mk dU; have mb := aa.mk dQ; clear dU dQ; replace eg := eq_true eg; replace ef := eq_true ef) | ((with_reducible refine Qh (f := 77) rfl ?_); refine QG (some 17) rfl rfl Try.func77 (by kernel_rfl) rfl #[.slice A1 l1.length c1, .int .i64 ((Qu ae 0).length : Int), .int .i64 (-1000000), .int .i64 1000000] rfl hA ?_; (with_reducible refine (Zp.calls _ _ l1 ((Qu ae 0).length : Int) (-1000000) 1000000 true _ ?ah ?ai A6.out).mono ?_); (case ah => exact (Kd.Qq HR1.out HB.out)); (case ai => exact HC1.out); rintro e w12 ⟨rfl, hb⟩; refine ⟨_, rfl, ?_⟩; replace ab := aa.mk (Qp ab.out hb); replace HB := aa.mk (Qa bB hb); (try clear hb); (try clear hb2); (try clear hk); (try clear hi)))
    go_ret; exact ⟨by first | rfl | (simp [Qk, Qj] <;> rfl) | (simp [*, Qk, Qj] <;> rfl), bB⟩
   ·replace c7 := Bool.eq_false_iff.mpr c7; subst c7; have H1 : (some 1) = some r := by rw [if_neg (show ¬ (false = true) by decide)] at H; exact H
    clear H; have H := H1; clear H1; obtain rfl := Option.some.inj H; go_enter Try.func85, Try.ntmps85; go_wp2_with (first | ((with_reducible refine QN (N := 2) rfl ?_); refine Q3 ?hg (N := 2) ?hd (cs := #[.slice ak ae.length an, .slice aj af.length al]) (t := 24) ?hr ?_; (case hd => rfl); (case hg => rfl); (case hr => first | (go_simp; done) | (go_simp; rfl)); intro ag hg w13 hbox hb; have ab := aa.mk (hbox); have bh := aa.mk ((by rw [hg]; exact (Qb bB) : w.heap.size ≤ ag)); have aT := aa.mk ((by rw [hg]; exact (Qb bB) : w.heap.size ≤ ag)); replace HB := aa.mk (Qa bB hb); clear hb hbox hg; have dg : w13.cell? ⟨ag, 0, none⟩ = some (.slice ak ae.length an) := (Qd ab.out 0).trans rfl; have df : w13.cell? ⟨ag, 1, none⟩ = some (.slice aj af.length al) := (Qd ab.out 1).trans rfl; have de := Qc ab.out 0; have dd := Qc ab.out 1) | ((with_reducible refine Qh (f := 38) rfl ?_); refine QG (some 7) rfl rfl Try.func38 (by kernel_rfl) rfl #[.agg #[.slice ak ae.length an, .slice aj af.length al]] rfl hA ?_; (with_reducible refine (Ql.calls k _ _ ae _ _ af t102 _ ?ah ?ai ?aq ?ar A3.out).mono ?_); (case ah => exact (Kd.Qq ay.out HB.out)); (case ai => exact aA.out); (case aq => exact (Kd.Qq az.out HB.out)); (case ar => exact aC.out); rintro e w15 ⟨rfl, hb⟩; refine ⟨_, rfl, ?_⟩; replace ab := aa.mk (Qp ab.out hb); replace HB := aa.mk (Qa bB hb); (try clear hb); (try clear hb2); (try clear hk); (try clear hi); have e7 : w15.cell? ⟨ag, 0, none⟩ = some (.slice ak ae.length an) := (Qd ab.out 0).trans rfl; have e6 : w15.cell? ⟨ag, 1, none⟩ = some (.slice aj af.length al) := (Qd ab.out 1).trans rfl; have eY := Qc ab.out 0; have eX := Qc ab.out 1; have eg : 0 ≤ (0 : Int) := (by omega); have ef : 0 < (ae.length : Int) := of_decide_eq_true (by assumption); obtain ⟨jI, nN, nH, jw, bg, dQ, dU⟩ := ZJ ay.out 0 eg ef; cases jw; have uW : (0 < ae.length) = True := eq_true (by omega); (try rw [show ((0 : Int)).toNat = 0 from rfl] at bg); (try rw [Addr.add_zero'] at bg); replace bg := (HB.out.cell (World.block_lt_of_cell? w _ bg)).trans bg; have lZ := aa.mk dU; have mb := aa.mk dQ; clear dU dQ; replace eg := eq_true eg; replace ef := eq_true ef) | ((with_reducible refine Qh (f := 77) rfl ?_); refine QG (some 17) rfl rfl Try.func77 (by kernel_rfl) rfl #[.slice A1 l1.length c1, .int .i64 ((Qu ae 0).length : Int), .int .i64 (-1000000), .int .i64 1000000] rfl hA ?_; (with_reducible refine (Zp.calls _ _ l1 ((Qu ae 0).length : Int) (-1000000) 1000000 false _ ?ah ?ai A6.out).mono ?_); (case ah => exact (Kd.Qq HR1.out HB.out)); (case ai => exact HC1.out); rintro e w17 ⟨rfl, hb⟩; refine ⟨_, rfl, ?_⟩; replace ab := aa.mk (Qp ab.out hb); replace HB := aa.mk (Qa bB hb); (try clear hb); (try clear hb2); (try clear hk); (try clear hi)))
    go_ret; exact ⟨by first | rfl | (simp [Qk, Qj] <;> rfl) | (simp [*, Qk, Qj] <;> rfl), bB⟩
  ·rw [if_neg c5] at H; exact absurd H (by simp)
 ·rw [if_neg c4] at H; have bI : (t102 == 0) = false := beq_eq_false_iff_ne.mpr c4; have eh : (t102 != 0) = true := bne_iff_ne.mpr c4; obtain rfl := Option.some.inj H; go_enter Try.func85, Try.ntmps85; go_wp2_with (first | ((with_reducible refine QN (N := 2) rfl ?_); refine Q3 ?hg (N := 2) ?hd (cs := #[.slice ak ae.length an, .slice aj af.length al]) (t := 24) ?hr ?_; (case hd => rfl); (case hg => rfl); (case hr => first | (go_simp; done) | (go_simp; rfl)); intro ag hg w18 hbox hb; have ab := aa.mk (hbox); have bh := aa.mk ((by rw [hg]; exact (Qb bB) : w.heap.size ≤ ag)); have aT := aa.mk ((by rw [hg]; exact (Qb bB) : w.heap.size ≤ ag)); replace HB := aa.mk (Qa bB hb); clear hb hbox hg; have og : w18.cell? ⟨ag, 0, none⟩ = some (.slice ak ae.length an) := (Qd ab.out 0).trans rfl; have oe : w18.cell? ⟨ag, 1, none⟩ = some (.slice aj af.length al) := (Qd ab.out 1).trans rfl; have od := Qc ab.out 0; have oa := Qc ab.out 1) | ((with_reducible refine Qh (f := 38) rfl ?_); refine QG (some 7) rfl rfl Try.func38 (by kernel_rfl) rfl #[.agg #[.slice ak ae.length an, .slice aj af.length al]] rfl hA ?_; (with_reducible refine (Ql.calls k _ _ ae _ _ af t102 _ ?ah ?ai ?aq ?ar A3.out).mono ?_); (case ah => exact (Kd.Qq ay.out HB.out)); (case ai => exact aA.out); (case aq => exact (Kd.Qq az.out HB.out)); (case ar => exact aC.out); rintro e w20 ⟨rfl, hb⟩; refine ⟨_, rfl, ?_⟩; replace ab := aa.mk (Qp ab.out hb); replace HB := aa.mk (Qa bB hb); (try clear hb); (try clear hb2); (try clear hk); (try clear hi)))
  go_ret; exact ⟨by first | rfl | (simp [Qk, Qj] <;> rfl) | (simp [*, Qk, Qj] <;> rfl), bB⟩
def Q9.f (k : Nat) (ae : List (List Int)) (af : List (List Int)) (l1 : List Int) : Option (Int) := (Zw.f k ae af l1).bind fun t102 => (if t102 = 0 then ((QZ.f k ae af l1).bind fun t103 => (if t103 = true then (some 0) else (some 7))) else (some t102))
theorem Q9.mono : ∀ a0 a1 a2 k, LeO (Q9.f k a0 a1 a2) (Q9.f (k + 1) a0 a1 a2) := by
 intro a0 a1 a2 k; unfold Q9.f; repeat' first | (with_reducible exact QZ.mono _ _ _ _) | (with_reducible exact Zw.mono _ _ _ _) | (with_reducible exact LeO.refl _) | (with_reducible exact LeO.none _) | (with_reducible refine LeO.ite ?_ ?_) | (with_reducible refine LeO.bind ?_ (fun _ => ?_)) | exact QZ.mono _ _ _ _ | exact Zw.mono _ _ _ _ | exact LeO.none _ | refine LeO.ite ?_ ?_ | refine LeO.bind ?_ (fun _ => ?_)
set_option maxHeartbeats 8000000 in
set_option maxRecDepth 100000 in
theorem Q9.calls (k : Nat) (ak : Option Addr) (an : Nat) (ae : List (List Int)) (aj : Option Addr) (al : Nat) (af : List (List Int)) (A1 : Option Addr) (c1 : Nat) (l1 : List Int) (r : Int) (w : World) (aM : Kd.C (Kd.slice 3 (Kd.int .i64)) w ak ae.length ae) (aQ : ae.length ≤ an) (aK : Kd.C (Kd.slice 3 (Kd.int .i64)) w aj af.length af) (aN : af.length ≤ al) (hr1 : Kd.C (Kd.int .i64) w A1 l1.length l1) (hc1 : l1.length ≤ c1) (h : Q9.f k ae af l1 = some r) :
  Calls Try.prog 43 #[.agg #[.slice ak ae.length an, .slice aj af.length al], .slice A1 l1.length c1] w fun e w' => e = .returned (.int .i64 r) ∧ Below w.heap.size w w' := by
 have ej := Try.underlying24; have ay := aa.mk aM; have aA := aa.mk aQ; clear aM aQ; have az := aa.mk aK; have aC := aa.mk aN; clear aK aN; have HR1 := aa.mk hr1; have HC1 := aa.mk hc1; clear hr1 hc1; have HB := aa.mk (Below.refl w.heap.size w); have H : ((Zw.f k ae af l1).bind fun t102 => (if t102 = 0 then ((QZ.f k ae af l1).bind fun t103 => (if t103 = true then (some 0) else (some 7))) else (some t102))) = some r := h; clear h; replace H := Option.bind_eq_some_iff.mp H; obtain ⟨t102, A30, H⟩ := H; replace H : (if t102 = 0 then ((QZ.f k ae af l1).bind fun t103 => (if t103 = true then (some 0) else (some 7))) else (some t102)) = some r := H; have A3 := aa.mk A30; clear A30; by_cases c4 : t102 = 0
 ·rw [if_pos c4] at H; have bI : (t102 == 0) = true := beq_iff_eq.mpr c4; have eh : (t102 != 0) = false := bne_eq_false_iff_eq.mpr c4; clear c4; replace H := Option.bind_eq_some_iff.mp H; obtain ⟨t103, A50, H⟩ := H; replace H : (if t103 = true then (some 0) else (some 7)) = some r := H; have A5 := aa.mk A50; clear A50; by_cases c6 : t103 = true
  ·subst c6; have H1 : (some 0) = some r := by rw [if_pos rfl] at H; exact H
   clear H; have H := H1; clear H1; obtain rfl := Option.some.inj H; go_enter Try.func43, Try.ntmps43; go_wp2_with (first | ((with_reducible refine QN (N := 2) rfl ?_); refine Q3 ?hg (N := 2) ?hd (cs := #[.slice ak ae.length an, .slice aj af.length al]) (t := 24) ?hr ?_; (case hd => rfl); (case hg => rfl); (case hr => first | (go_simp; done) | (go_simp; rfl)); intro ag hg w7 hbox hb; have ab := aa.mk (hbox); have bh := aa.mk ((by rw [hg]; exact (Qb bB) : w.heap.size ≤ ag)); have aT := aa.mk ((by rw [hg]; exact (Qb bB) : w.heap.size ≤ ag)); replace HB := aa.mk (Qa bB hb); clear hb hbox hg; have kD : w7.cell? ⟨ag, 0, none⟩ = some (.slice ak ae.length an) := (Qd ab.out 0).trans rfl; have kC : w7.cell? ⟨ag, 1, none⟩ = some (.slice aj af.length al) := (Qd ab.out 1).trans rfl; have kB := Qc ab.out 0; have kA := Qc ab.out 1) | ((with_reducible refine Qh (f := 85) rfl ?_); refine QG (some 8) rfl rfl Try.func85 (by kernel_rfl) rfl #[.agg #[.slice ak ae.length an, .slice aj af.length al], .slice A1 l1.length c1] rfl hA ?_; (with_reducible refine (Zw.calls k _ _ ae _ _ af _ _ l1 t102 _ ?ah ?ai ?aq ?ar ?bE ?bD A3.out).mono ?_); (case ah => exact (Kd.Qq ay.out HB.out)); (case ai => exact aA.out); (case aq => exact (Kd.Qq az.out HB.out)); (case ar => exact aC.out); (case bE => exact (Kd.Qq HR1.out HB.out)); (case bD => exact HC1.out); rintro e w9 ⟨rfl, hb⟩; refine ⟨_, rfl, ?_⟩; replace ab := aa.mk (Qp ab.out hb); replace HB := aa.mk (Qa bB hb); (try clear hb); (try clear hb2); (try clear hk); (try clear hi); have du : w9.cell? ⟨ag, 0, none⟩ = some (.slice ak ae.length an) := (Qd ab.out 0).trans rfl; have dr : w9.cell? ⟨ag, 1, none⟩ = some (.slice aj af.length al) := (Qd ab.out 1).trans rfl; have dq := Qc ab.out 0; have dp := Qc ab.out 1) | ((with_reducible refine Qh (f := 83) rfl ?_); refine QG (some 14) rfl rfl Try.func83 (by kernel_rfl) rfl #[.agg #[.slice ak ae.length an, .slice aj af.length al], .slice A1 l1.length c1] rfl hA ?_; (with_reducible refine (QZ.calls k _ _ ae _ _ af _ _ l1 true _ ?ah ?ai ?aq ?ar ?bE ?bD A5.out).mono ?_); (case ah => exact (Kd.Qq ay.out HB.out)); (case ai => exact aA.out); (case aq => exact (Kd.Qq az.out HB.out)); (case ar => exact aC.out); (case bE => exact (Kd.Qq HR1.out HB.out)); (case bD => exact HC1.out); rintro e w11 ⟨rfl, hb⟩; refine ⟨_, rfl, ?_⟩; replace ab := aa.mk (Qp ab.out hb); replace HB := aa.mk (Qa bB hb); (try clear hb); (try clear hb2); (try clear hk); (try clear hi)))
   go_ret; exact ⟨by first | rfl | (simp [Qk, Qj] <;> rfl) | (simp [*, Qk, Qj] <;> rfl), bB⟩
  ·replace c6 := Bool.eq_false_iff.mpr c6; subst c6; have H1 : (some 7) = some r := by rw [if_neg (show ¬ (false = true) by decide)] at H; exact H
   clear H; have H := H1; clear H1; obtain rfl := Option.some.inj H; go_enter Try.func43, Try.ntmps43; go_wp2_with (first | ((with_reducible refine QN (N := 2) rfl ?_); refine Q3 ?hg (N := 2) ?hd (cs := #[.slice ak ae.length an, .slice aj af.length al]) (t := 24) ?hr ?_; (case hd => rfl); (case hg => rfl); (case hr => first | (go_simp; done) | (go_simp; rfl)); intro ag hg w12 hbox hb; have ab := aa.mk (hbox); have bh := aa.mk ((by rw [hg]; exact (Qb bB) : w.heap.size ≤ ag)); have aT := aa.mk ((by rw [hg]; exact (Qb bB) : w.heap.size ≤ ag)); replace HB := aa.mk (Qa bB hb); clear hb hbox hg; have e9 : w12.cell? ⟨ag, 0, none⟩ = some (.slice ak ae.length an) := (Qd ab.out 0).trans rfl; have e8 : w12.cell? ⟨ag, 1, none⟩ = some (.slice aj af.length al) := (Qd ab.out 1).trans rfl; have e5 := Qc ab.out 0; have eZ := Qc ab.out 1) | ((with_reducible refine Qh (f := 85) rfl ?_); refine QG (some 8) rfl rfl Try.func85 (by kernel_rfl) rfl #[.agg #[.slice ak ae.length an, .slice aj af.length al], .slice A1 l1.length c1] rfl hA ?_; (with_reducible refine (Zw.calls k _ _ ae _ _ af _ _ l1 t102 _ ?ah ?ai ?aq ?ar ?bE ?bD A3.out).mono ?_); (case ah => exact (Kd.Qq ay.out HB.out)); (case ai => exact aA.out); (case aq => exact (Kd.Qq az.out HB.out)); (case ar => exact aC.out); (case bE => exact (Kd.Qq HR1.out HB.out)); (case bD => exact HC1.out); rintro e w14 ⟨rfl, hb⟩; refine ⟨_, rfl, ?_⟩; replace ab := aa.mk (Qp ab.out hb); replace HB := aa.mk (Qa bB hb); (try clear hb); (try clear hb2); (try clear hk); (try clear hi); have ko : w14.cell? ⟨ag, 0, none⟩ = some (.slice ak ae.length an) := (Qd ab.out 0).trans rfl; have km : w14.cell? ⟨ag, 1, none⟩ = some (.slice aj af.length al) := (Qd ab.out 1).trans rfl; have kb := Qc ab.out 0; have ka := Qc ab.out 1) | ((with_reducible refine Qh (f := 83) rfl ?_); refine QG (some 14) rfl rfl Try.func83 (by kernel_rfl) rfl #[.agg #[.slice ak ae.length an, .slice aj af.length al], .slice A1 l1.length c1] rfl hA ?_; (with_reducible refine (QZ.calls k _ _ ae _ _ af _ _ l1 false _ ?ah ?ai ?aq ?ar ?bE ?bD A5.out).mono ?_); (case ah => exact (Kd.Qq ay.out HB.out)); (case ai => exact aA.out); (case aq => exact (Kd.Qq az.out HB.out)); (case ar => exact aC.out); (case bE => exact (Kd.Qq HR1.out HB.out)); (case bD => exact HC1.out); rintro e w16 ⟨rfl, hb⟩; refine ⟨_, rfl, ?_⟩; replace ab := aa.mk (Qp ab.out hb); replace HB := aa.mk (Qa bB hb); (try clear hb); (try clear hb2); (try clear hk); (try clear hi)))
   go_ret; exact ⟨by first | rfl | (simp [Qk, Qj] <;> rfl) | (simp [*, Qk, Qj] <;> rfl), bB⟩
 ·rw [if_neg c4] at H; have bI : (t102 == 0) = false := beq_eq_false_iff_ne.mpr c4; have eh : (t102 != 0) = true := bne_iff_ne.mpr c4; obtain rfl := Option.some.inj H; go_enter Try.func43, Try.ntmps43; go_wp2_with (first | ((with_reducible refine QN (N := 2) rfl ?_); refine Q3 ?hg (N := 2) ?hd (cs := #[.slice ak ae.length an, .slice aj af.length al]) (t := 24) ?hr ?_; (case hd => rfl); (case hg => rfl); (case hr => first | (go_simp; done) | (go_simp; rfl)); intro ag hg w17 hbox hb; have ab := aa.mk (hbox); have bh := aa.mk ((by rw [hg]; exact (Qb bB) : w.heap.size ≤ ag)); have aT := aa.mk ((by rw [hg]; exact (Qb bB) : w.heap.size ≤ ag)); replace HB := aa.mk (Qa bB hb); clear hb hbox hg; have hU : w17.cell? ⟨ag, 0, none⟩ = some (.slice ak ae.length an) := (Qd ab.out 0).trans rfl; have hP : w17.cell? ⟨ag, 1, none⟩ = some (.slice aj af.length al) := (Qd ab.out 1).trans rfl; have hH := Qc ab.out 0; have hG := Qc ab.out 1) | ((with_reducible refine Qh (f := 85) rfl ?_); refine QG (some 8) rfl rfl Try.func85 (by kernel_rfl) rfl #[.agg #[.slice ak ae.length an, .slice aj af.length al], .slice A1 l1.length c1] rfl hA ?_; (with_reducible refine (Zw.calls k _ _ ae _ _ af _ _ l1 t102 _ ?ah ?ai ?aq ?ar ?bE ?bD A3.out).mono ?_); (case ah => exact (Kd.Qq ay.out HB.out)); (case ai => exact aA.out); (case aq => exact (Kd.Qq az.out HB.out)); (case ar => exact aC.out); (case bE => exact (Kd.Qq HR1.out HB.out)); (case bD => exact HC1.out); rintro e w19 ⟨rfl, hb⟩; refine ⟨_, rfl, ?_⟩; replace ab := aa.mk (Qp ab.out hb); replace HB := aa.mk (Qa bB hb); (try clear hb); (try clear hb2); (try clear hk); (try clear hi)))
  go_ret; exact ⟨by first | rfl | (simp [Qk, Qj] <;> rfl) | (simp [*, Qk, Qj] <;> rfl), bB⟩
end Go.Proofs.Ytdneelgnmnpanaa.P
end
