/- The reference's tables of masses: what its printed functions masses, lot, Join and Grind answer, for lists of any grains; no conditions beyond those that each theorem names. -/
import Derived.Test.YtbckhllkjlgbpaaTab
import Derived.Test.YtbckhllkjlgbpaaGrind
import Derived.Test.YtbckhllkjlgbpaaPf
import Derived.Test.YtbckhllkjlgbpaaP76
namespace Go.Proofs.Ytbckhllkjlgbpaa.P
open Go.RowKit Go.Proofs.YtbckhllkjlgbpaaW.PrintWords

theorem rd_nat (m : List Int) (i : Nat) : rd m (i : Int) = m.getD i 0 := by
  simp [rd]
theorem ref_masses_l (l : List S58) (hl : l.length ≤ 1000) : ∀ (rest pre : List S58) (m : List Int) (lo : Int), l = pre ++ rest → Srt lo rest → 0 ≤ lo → m.length = 21 → (∀ i : Nat, lo < (i : Int) → m.getD i 0 = 0) →
    Ev (fun k => verditerref01_masses.l0 k l m (pre.length : Int)) (spr rest m) := by
  intro rest
  induction rest with
  | nil =>
    intro pre m lo e _ _ _ _
    refine Ev.step (fun k => by rw [verditerref01_masses.l0]) ?_
    simp only [show ¬ ((pre.length : Int) < (l.length : Int)) by rw [e]; simp, if_false, spr]
    exact Ev.now _
  | cons x r ih =>
    intro pre m lo e hs hlo hm h0
    obtain ⟨s1, s2, s3, s4, s5⟩ := hs
    have hlen : pre.length < l.length := by rw [e]; simp
    refine Ev.step (fun k => by rw [verditerref01_masses.l0]) ?_
    have hx : rd_T58 l (pre.length : Int) = x := by rw [e]; exact rd58 pre x r
    obtain ⟨i, hi⟩ : ∃ i : Nat, x.f0 = (i : Int) := ⟨x.f0.toNat, by omega⟩
    simp only [show ((pre.length : Int) < (l.length : Int)) by omega, show (0 : Int) ≤ (pre.length : Int) by omega, if_true, hx, show (0 : Int) ≤ x.f0 by omega, show x.f0 < (m.length : Int) by omega]
    rw [wr_succ (m := l.length) hlen (by omega), hi, rd_nat, h0 i (by omega), Int.zero_add, wr (x := x.f1) (by omega) (by omega), spr, hi, Int.toNat_natCast]
    have h := ih (pre ++ [x]) (m.set i x.f1) x.f0 (by rw [e]; simp) s5 (by omega) (by simp [hm]) (fun j hj => by
      have := h0 j (by omega)
      rw [List.getD_eq_getElem?_getD, List.getElem?_set_ne (by omega), ← List.getD_eq_getElem?_getD, this])
    rw [show (pre ++ [x]).length = pre.length + 1 by simp] at h
    exact h
theorem ref_masses_ev {l : List S58} (hv : Valid l) : Ev (fun k => verditerref01_masses.f k l) (T l) := by
  unfold verditerref01_masses.f
  simp only [show (21 : Nat) ≤ 35184372088832 by omega, if_true]
  exact ref_masses_l l hv.small.1 l [] zeros21 0 rfl hv.2 (by omega) rfl (fun i _ => by rw [zeros21, List.getD_eq_getElem?_getD, List.getElem?_replicate]; split <;> rfl)
theorem ref_lot_l (m : List Int) (hm : m.length ≤ 1000) : ∀ (rest pre : List Int) (acc : List S58), m = pre ++ rest → acc.length ≤ pre.length →
    Ev (fun k => verditerref01_lot.l0 k m acc (pre.length : Int)) (acc ++ col pre.length rest) := by
  intro rest
  induction rest with
  | nil =>
    intro pre acc e _
    refine Ev.step (fun k => by rw [verditerref01_lot.l0]) ?_
    simp only [show ¬ ((pre.length : Int) < (m.length : Int)) by rw [e]; simp, if_false, col, List.append_nil]
    exact Ev.now _
  | cons x r ih =>
    intro pre acc e ha
    have hlen : pre.length < m.length := by rw [e]; simp
    refine Ev.step (fun k => by rw [verditerref01_lot.l0]) ?_
    have hx : rd m (pre.length : Int) = x := by rw [e, rd_nat]; simp
    simp only [show ((pre.length : Int) < (m.length : Int)) by omega, show (0 : Int) ≤ (pre.length : Int) by omega, if_true, hx, show acc.length < 8796093022208 by omega]
    rw [wr_succ (m := m.length) hlen (by omega), col_cons]
    by_cases c : x > 0
    · simp only [c, if_true]
      have h := ih (pre ++ [x]) (acc ++ [⟨(pre.length : Int), x⟩]) (by rw [e]; simp) (by simp; omega)
      rw [show (pre ++ [x]).length = pre.length + 1 by simp, List.append_assoc] at h
      exact h
    · simp only [c, if_false, List.nil_append]
      have h := ih (pre ++ [x]) acc (by rw [e]; simp) (by simp; omega)
      rw [show (pre ++ [x]).length = pre.length + 1 by simp] at h
      exact h
theorem ref_lot_ev (m : List Int) (hm : m.length = 21) (h0 : m.getD 0 0 ≤ 0) : Ev (fun k => verditerref01_lot.f k m) (col 0 m) := by
  unfold verditerref01_lot.f
  match m, hm with
  | x :: r, hm =>
    have h := ref_lot_l (x :: r) (by omega) r [x] [] rfl (by simp)
    rw [col, if_neg (by simp at h0; omega)]
    simpa using h

/-! ### moves -/
theorem ref_Grind_ok (l : List S58) (v : List S83) (hv : v.length ≤ 12) (r : List S58 × Int) : ∀ (rest pre : List S83), v = pre ++ rest →
    ((∀ x ∈ rest, MvOk x) → Ev (fun k => (verditerref01_masses.f k l).bind fun t107 => verditerref01_Grind.l1 k v t107 0) r) → ((¬ ∀ x ∈ rest, MvOk x) → r = ([], 1)) →
    Ev (fun k => verditerref01_Grind.l0 k l v (pre.length : Int)) r := by
  intro rest
  induction rest with
  | nil =>
    intro pre e h1 _
    refine Ev.step (fun k => by rw [verditerref01_Grind.l0]) ?_
    simp only [show ¬ ((pre.length : Int) < (v.length : Int)) by rw [e]; simp, if_false]
    exact h1 (by simp)
  | cons x rest ih =>
    intro pre e h1 h2
    have hlen : pre.length < v.length := by rw [e]; simp
    have hx : rd_T83 v (pre.length : Int) = x := by
      rw [rd83_n v pre.length hlen]
      simp [e]
    refine Ev.step (fun k => by rw [verditerref01_Grind.l0]) ?_
    simp only [show ((pre.length : Int) < (v.length : Int)) by omega, show (0 : Int) ≤ (pre.length : Int) by omega, if_true, hx, within, Option.bind_some, decide_eq_true_eq]
    have bad : ¬ MvOk x → Ev (fun _ => some (([] : List S58), (1 : Int))) r := fun h => by
      rw [h2 (fun ha => h (ha x (List.mem_cons_self ..)))]
      exact Ev.now _
    by_cases c1 : 1 ≤ x.f0 ∧ x.f0 ≤ 20
    case neg =>
      simp only [c1, if_false]
      exact bad (fun h => by unfold MvOk at h; omega)
    simp only [c1, and_self, if_true]
    by_cases c2 : 1 ≤ x.f1 ∧ x.f1 ≤ 20
    case neg =>
      simp only [c2, if_false]
      exact bad (fun h => by unfold MvOk at h; omega)
    simp only [c2, and_self, if_true]
    by_cases c3 : x.f0 ≤ x.f1
    case pos =>
      simp only [c3, if_true]
      exact bad (fun h => by unfold MvOk at h; omega)
    simp only [c3, if_false]
    by_cases c4 : 1 ≤ x.f2 ∧ x.f2 ≤ 100
    case neg =>
      simp only [c4, if_false]
      exact bad (fun h => by unfold MvOk at h; omega)
    simp only [c4, and_self, if_true]
    have ok : MvOk x := by unfold MvOk; omega
    rw [wr_succ (m := v.length) hlen (by omega)]
    have h := ih (pre ++ [x]) (by rw [e]; simp) (fun ha => h1 (fun y hy => by
        rcases List.mem_cons.1 hy with rfl | hy
        · exact ok
        · exact ha y hy)) (fun hn => h2 (fun ha => hn (fun y hy => ha y (List.mem_cons_of_mem _ hy))))
    rw [show (pre ++ [x]).length = pre.length + 1 by simp] at h
    exact h
theorem getD_bound {m : List Int} {B : Int} (hB : 0 ≤ B) (h : ∀ v ∈ m, 0 ≤ v ∧ v ≤ B) (i : Nat) : 0 ≤ m.getD i 0 ∧ m.getD i 0 ≤ B := by
  rw [List.getD_eq_getElem?_getD]
  cases e : m[i]? with
  | none => simp; omega
  | some v => exact h v (List.mem_of_getElem? e)
theorem set_bound {m : List Int} {B : Int} (h : ∀ v ∈ m, 0 ≤ v ∧ v ≤ B) (i : Nat) {u : Int} (hu : 0 ≤ u ∧ u ≤ B) : ∀ v ∈ m.set i u, 0 ≤ v ∧ v ≤ B := by
  intro v hv
  rcases List.mem_or_eq_of_mem_set hv with h1 | rfl
  · exact h v h1
  · exact hu
theorem ref_Grind_l (v : List S83) (hv : v.length ≤ 12) : ∀ (rest pre : List S83) (m : List Int), v = pre ++ rest → m.length = 21 → (∀ u ∈ m, 0 ≤ u ∧ u ≤ 100 + 100 * (pre.length : Int)) → m.getD 0 0 = 0 → (∀ x ∈ rest, MvOk x) →
    Ev (fun k => verditerref01_Grind.l1 k v m (pre.length : Int)) (match mvs rest m with
      | none => ([], 9)
      | some m => if vld (col 0 m) = 0 then (col 0 m, 0) else ([], vld (col 0 m))) := by
  intro rest
  induction rest with
  | nil =>
    intro pre m e hm hb h0 _
    refine Ev.step (fun k => by rw [verditerref01_Grind.l1]) ?_
    simp only [show ¬ ((pre.length : Int) < (v.length : Int)) by rw [e]; simp, if_false, mvs]
    refine Ev.bind (ref_lot_ev m hm (by omega)) (Ev.bind (ref_vld _) ?_)
    by_cases e : vld (col 0 m) = 0
    · simp only [e, if_true]
      exact Ev.now _
    · simp only [e, if_false]
      exact Ev.now _
  | cons x rest ih =>
    intro pre m e hm hb h0 hok
    have hlen : pre.length < v.length := by rw [e]; simp
    have hx : rd_T83 v (pre.length : Int) = x := by
      rw [rd83_n v pre.length hlen]
      simp [e]
    obtain ⟨o1, o2, o3, o4, o5⟩ := hok x (List.mem_cons_self ..)
    obtain ⟨i, hi⟩ : ∃ i : Nat, x.f0 = (i : Int) := ⟨x.f0.toNat, by omega⟩
    obtain ⟨j, hj⟩ : ∃ j : Nat, x.f1 = (j : Int) := ⟨x.f1.toNat, by omega⟩
    have b1 := getD_bound (by omega) hb i
    have b2 := getD_bound (by omega) hb j
    refine Ev.step (fun k => by rw [verditerref01_Grind.l1]) ?_
    simp only [show ((pre.length : Int) < (v.length : Int)) by omega, show (0 : Int) ≤ (pre.length : Int) by omega, if_true, hx, show (0 : Int) ≤ x.f0 by omega, show x.f0 < (m.length : Int) by omega, show (0 : Int) ≤ x.f1 by omega, show x.f1 < (m.length : Int) by omega, Option.bind_some]
    rw [mvs, hi, hj, rd_nat, rd_nat, Int.toNat_natCast, Int.toNat_natCast]
    by_cases c : m.getD i 0 < x.f2
    · simp only [c, if_true]
      exact Ev.now _
    · simp only [c, if_false]
      have g : (m.set i (m.getD i 0 - x.f2)).getD j 0 = m.getD j 0 := by
        rw [List.getD_eq_getElem?_getD, List.getElem?_set_ne (by omega), ← List.getD_eq_getElem?_getD]
      rw [wr (x := m.getD i 0 - x.f2) (by omega) (by omega), g, wr (x := m.getD j 0 + x.f2) (by omega) (by omega), wr_succ (m := v.length) hlen (by omega)]
      have h := ih (pre ++ [x]) ((m.set i (m.getD i 0 - x.f2)).set j (m.getD j 0 + x.f2)) (by rw [e]; simp) (by simp [hm]) (by
          refine set_bound (set_bound (fun u hu => ?_) _ ?_) _ ?_
          · have := hb u hu
            simp
            omega
          · rw [List.length_append, List.length_singleton]; omega
          · rw [List.length_append, List.length_singleton]; omega) (by
          rw [List.getD_eq_getElem?_getD, List.getElem?_set_ne (by omega), List.getElem?_set_ne (by omega), ← List.getD_eq_getElem?_getD, h0]) (fun y hy => hok y (List.mem_cons_of_mem _ hy))
      rw [show (pre ++ [x]).length = pre.length + 1 by simp] at h
      exact h
theorem ref_Grind_ev (l : List S58) (v : List S83) : Ev (fun k => verditerref01_Grind.f k l v) (gr l v) := by
  unfold verditerref01_Grind.f gr
  refine Ev.bind (ref_vld l) ?_
  by_cases c : vld l = 0
  case neg =>
    simp only [c, if_false]
    exact Ev.now _
  simp only [c, if_true]
  have hv := (vld_zero l).1 c
  by_cases d : (v.length : Int) > 12
  · simp only [d, if_true]
    exact Ev.now _
  simp only [d, if_false]
  refine ref_Grind_ok l v (by omega) _ v [] rfl (fun h => ?_) (fun h => by rw [if_neg h])
  rw [if_pos h]
  refine Ev.bind (ref_masses_ev hv) ?_
  obtain ⟨a, ea, _⟩ := T_zero hv
  exact ref_Grind_l v (by omega) v [] (T l) rfl (T_length l) (by simpa using T_range hv) (by rw [ea]; rfl) h
end Go.Proofs.Ytbckhllkjlgbpaa.P
