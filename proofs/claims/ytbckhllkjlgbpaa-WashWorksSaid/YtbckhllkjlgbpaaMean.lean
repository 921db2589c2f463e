/- The mean and the middle of the sizes: what the printed functions of the program and of the reference answer, for lists of any grains. -/
import Derived.Test.YtbckhllkjlgbpaaVld
import Derived.Test.YtbckhllkjlgbpaaRat
import Derived.Test.YtbckhllkjlgbpaaPm
namespace Go.Proofs.Ytbckhllkjlgbpaa.P
open Go.RowKit Go.Proofs.YtbckhllkjlgbpaaW.PrintWords

/-- Sizes times masses. -/
def szm : List S58 → Int
  | [] => 0
  | x :: r => x.f0 * x.f1 + szm r
theorem Valid.all' {l : List S58} (h : Valid l) : ∀ x ∈ l, (1 ≤ x.f0 ∧ x.f0 ≤ 20) ∧ 1 ≤ x.f1 ∧ x.f1 ≤ 100 := fun x hx => by have := h.2.mass x hx; omega
theorem szm_bound : ∀ (l : List S58), (∀ x ∈ l, (1 ≤ x.f0 ∧ x.f0 ≤ 20) ∧ 1 ≤ x.f1 ∧ x.f1 ≤ 100) → 0 ≤ szm l ∧ szm l ≤ 2000 * l.length
  | [], _ => by simp [szm]
  | x :: r, h => by
    have h1 := szm_bound r (fun y hy => h y (List.mem_cons_of_mem _ hy))
    have h2 := h x (List.mem_cons_self ..)
    have h3 := mul_bound ⟨show 0 ≤ x.f0 by omega, h2.1.2⟩ ⟨show 0 ≤ x.f1 by omega, h2.2.2⟩
    rw [szm, List.length_cons]
    omega
theorem sm_pos : ∀ (l : List S58), (∀ x ∈ l, 1 ≤ x.f1 ∧ x.f1 ≤ 100) → l ≠ [] → 1 ≤ sm l
  | [], _, h => absurd rfl h
  | x :: r, h, _ => by
    have h1 := blw_bound r 0 (fun y hy => h y (List.mem_cons_of_mem _ hy))
    have h2 := h x (List.mem_cons_self ..)
    rw [sm]
    omega
theorem sm_bound (l : List S58) (h : ∀ x ∈ l, 1 ≤ x.f1 ∧ x.f1 ≤ 100) : 0 ≤ sm l ∧ sm l ≤ 100 * l.length := by
  have := blw_bound l 0 h
  omega
/-- What Mean answers. -/
def mea (l : List S58) : Int × Int × Int := if vld l = 0 then if (l.length : Int) = 0 then (0, 0, 4) else ((red (szm l) (sm l)).1, (red (szm l) (sm l)).2, 0) else (0, 0, vld l)
theorem ref_Mean_l (l : List S58) (hv : Valid l) (hne : l ≠ []) : ∀ (rest pre : List S58) (acc : Int), l = pre ++ rest → 0 ≤ acc → acc ≤ 2000 * pre.length →
    Ev (fun k => verditerref01_Mean.l0 k l acc (pre.length : Int)) ((red (acc + szm rest) (sm l)).1, (red (acc + szm rest) (sm l)).2, 0) := by
  have hsm := hv.small
  intro rest
  induction rest with
  | nil =>
    intro pre acc e h0 h1
    refine Ev.step (fun k => by rw [verditerref01_Mean.l0]) ?_
    simp only [show ¬ ((pre.length : Int) < (l.length : Int)) by rw [e]; simp, if_false, szm, Int.add_zero]
    have hp : pre.length = l.length := by rw [e]; simp
    refine Ev.bind (ref_below l 20 hsm.1 hsm.2) ?_
    rw [blw_all l 20 (fun x hx => (hv.2.mass x hx).2.1)]
    have hb := sm_bound l hsm.2
    have hb2 := sm_pos l hsm.2 hne
    exact Ev.bind (Ratio_ev _ _ ⟨h0, by omega⟩ ⟨by omega, by omega⟩) (Ev.now _)
  | cons x r ih =>
    intro pre acc e h0 h1
    have hlen : pre.length < l.length := by rw [e]; simp
    have hx1 := hv.all' x (by rw [e]; simp)
    have h3 := mul_bound ⟨show 0 ≤ x.f0 by omega, hx1.1.2⟩ ⟨show 0 ≤ x.f1 by omega, hx1.2.2⟩
    refine Ev.step (fun k => by rw [verditerref01_Mean.l0]) ?_
    have hx : rd_T58 l (pre.length : Int) = x := by rw [e]; exact rd58 pre x r
    simp only [show ((pre.length : Int) < (l.length : Int)) by omega, show (0 : Int) ≤ (pre.length : Int) by omega, if_true, hx]
    rw [wr_succ (m := l.length) hlen (by omega), szm, wr (x := x.f0 * x.f1) (by omega) (by omega), wr (x := acc + x.f0 * x.f1) (by omega) (by omega)]
    have h := ih (pre ++ [x]) (acc + x.f0 * x.f1) (by rw [e]; simp) (by omega) (by simp; omega)
    rw [show (pre ++ [x]).length = pre.length + 1 by simp, Int.add_assoc] at h
    exact h
theorem ref_Mean_ev (l : List S58) : Ev (fun k => verditerref01_Mean.f k l) (mea l) := by
  unfold verditerref01_Mean.f mea
  refine Ev.bind (ref_vld l) ?_
  by_cases c : vld l = 0
  · have hv := (vld_zero l).1 c
    by_cases c2 : (l.length : Int) = 0
    · simp only [c, c2, if_true]
      exact Ev.now _
    · simp only [c, c2, if_true, if_false]
      have h := ref_Mean_l l hv (fun e => c2 (by rw [e]; rfl)) l [] 0 rfl (by omega) (by simp)
      rw [Int.zero_add] at h
      exact h
  · simp only [c, if_false]
    exact Ev.now _
theorem wash_Mean_l (l : List S58) (hv : Valid l) (hne : l ≠ []) : ∀ (rest pre : List S58) (acc : Int), l = pre ++ rest → 0 ≤ acc → acc ≤ 2000 * pre.length →
    Ev (fun k => wash_Mean.l0 k l acc l (l.length : Int) (pre.length : Int)) ((red (acc + szm rest) (sm l)).1, (red (acc + szm rest) (sm l)).2, 0) := by
  have hsm := hv.small
  intro rest
  induction rest with
  | nil =>
    intro pre acc e h0 h1
    refine Ev.step (fun k => by rw [wash_Mean.l0]) ?_
    simp only [show ¬ ((pre.length : Int) < (l.length : Int)) by rw [e]; simp, if_false, szm, Int.add_zero]
    have hp : pre.length = l.length := by rw [e]; simp
    refine Ev.bind (wash_mass_ev l hsm.1 hsm.2) ?_
    have hb := sm_bound l hsm.2
    have hb2 := sm_pos l hsm.2 hne
    exact Ev.bind (ratio_ev _ _ ⟨h0, by omega⟩ ⟨by omega, by omega⟩) (Ev.now _)
  | cons x r ih =>
    intro pre acc e h0 h1
    have hlen : pre.length < l.length := by rw [e]; simp
    have hx1 := hv.all' x (by rw [e]; simp)
    have h3 := mul_bound ⟨show 0 ≤ x.f0 by omega, hx1.1.2⟩ ⟨show 0 ≤ x.f1 by omega, hx1.2.2⟩
    refine Ev.step (fun k => by rw [wash_Mean.l0]) ?_
    have hx : rd_T58 l (pre.length : Int) = x := by rw [e]; exact rd58 pre x r
    simp only [show ((pre.length : Int) < (l.length : Int)) by omega, show (0 : Int) ≤ (pre.length : Int) by omega, if_true, hx]
    rw [wr_succ (m := l.length) hlen (by omega), szm, wr (x := x.f0 * x.f1) (by omega) (by omega), wr (x := acc + x.f0 * x.f1) (by omega) (by omega)]
    have h := ih (pre ++ [x]) (acc + x.f0 * x.f1) (by rw [e]; simp) (by omega) (by simp; omega)
    rw [show (pre ++ [x]).length = pre.length + 1 by simp, Int.add_assoc] at h
    exact h
theorem wash_Mean_ev (l : List S58) : Ev (fun k => wash_Mean.f k l) (mea l) := by
  unfold wash_Mean.f mea
  refine Ev.bind (wash_vld l) ?_
  by_cases c : vld l = 0
  · have hv := (vld_zero l).1 c
    by_cases c2 : (l.length : Int) = 0
    · simp only [c, c2, if_true]
      exact Ev.now _
    · simp only [c, c2, if_true, if_false]
      have h := wash_Mean_l l hv (fun e => c2 (by rw [e]; rfl)) l [] 0 rfl (by omega) (by simp)
      rw [Int.zero_add] at h
      exact h
  · simp only [c, if_false]
    exact Ev.now _

/-- What Middle answers. -/
def mdl (l : List S58) : List S58 → Int × Int
  | [] => (0, 4)
  | x :: r => if 2 * blw l x.f0 ≥ sm l then (x.f0, 0) else mdl l r
theorem ref_Middle_l (l : List S58) (hv : Valid l) : ∀ (rest pre : List S58), l = pre ++ rest → Ev (fun k => verditerref01_Middle.l0 k l (pre.length : Int)) (mdl l rest) := by
  have hsm := hv.small
  intro rest
  induction rest with
  | nil =>
    intro pre e
    refine Ev.step (fun k => by rw [verditerref01_Middle.l0]) ?_
    simp only [show ¬ ((pre.length : Int) < (l.length : Int)) by rw [e]; simp, if_false, mdl]
    exact Ev.now _
  | cons x r ih =>
    intro pre e
    have hlen : pre.length < l.length := by rw [e]; simp
    refine Ev.step (fun k => by rw [verditerref01_Middle.l0]) ?_
    have hx : rd_T58 l (pre.length : Int) = x := by rw [e]; exact rd58 pre x r
    simp only [show ((pre.length : Int) < (l.length : Int)) by omega, show (0 : Int) ≤ (pre.length : Int) by omega, if_true, hx]
    refine Ev.bind (ref_below l x.f0 hsm.1 hsm.2) (Ev.bind (ref_below l 20 hsm.1 hsm.2) ?_)
    rw [blw_all l 20 (fun x hx => (hv.2.mass x hx).2.1)]
    have hb := blw_bound l x.f0 hsm.2
    rw [wr (x := 2 * blw l x.f0) (by omega) (by omega), wr_succ (m := l.length) hlen (by omega), mdl]
    by_cases c : 2 * blw l x.f0 ≥ sm l
    · simp only [c, if_true]
      exact Ev.now _
    · simp only [c, if_false]
      have h := ih (pre ++ [x]) (by rw [e]; simp)
      rw [show (pre ++ [x]).length = pre.length + 1 by simp] at h
      exact h
theorem ref_Middle_ev (l : List S58) : Ev (fun k => verditerref01_Middle.f k l) (if vld l = 0 then mdl l l else (0, vld l)) := by
  unfold verditerref01_Middle.f
  refine Ev.bind (ref_vld l) ?_
  by_cases c : vld l = 0
  · simp only [c, if_true]
    exact ref_Middle_l l ((vld_zero l).1 c) l [] rfl
  · simp only [c, if_false]
    exact Ev.now _
theorem blw_append : ∀ (a b : List S58) (s : Int), blw (a ++ b) s = blw a s + blw b s
  | [], b, s => by simp [blw]
  | x :: r, b, s => by rw [List.cons_append, blw, blw, blw_append r b s]; omega
theorem sm_append : ∀ (a b : List S58), sm (a ++ b) = sm a + sm b
  | [], b => by simp [sm]
  | x :: r, b => by rw [List.cons_append, sm, sm, sm_append r b]; omega
theorem Srt.parts : ∀ {pre : List S58} {lo : Int} {x : S58} {r : List S58}, Srt lo (pre ++ x :: r) → (∀ y ∈ pre, y.f0 < x.f0) ∧ Srt x.f0 r
  | [], _, _, _, h => ⟨fun y hy => (by cases hy), h.2.2.2.2⟩
  | y :: p, lo, x, r, h => by
    have h1 := Srt.parts h.2.2.2.2
    have h2 := (h.2.2.2.2).mass x (by simp)
    refine ⟨fun z hz => ?_, h1.2⟩
    rcases List.mem_cons.1 hz with rfl | hz
    · exact h2.1
    · exact h1.1 z hz
/-- In a right lot what is of at most a grain's size is what stands up to it. -/
theorem blw_up_to {pre : List S58} {lo : Int} {x : S58} {r : List S58} (h : Srt lo (pre ++ x :: r)) : blw (pre ++ x :: r) x.f0 = sm (pre ++ [x]) := by
  obtain ⟨h1, h2⟩ := h.parts
  rw [blw_append, sm_append, blw_all pre _ (fun y hy => by have := h1 y hy; omega), blw, if_pos (Int.le_refl _), blw_none r _ (fun y hy => (h2.mass y hy).1)]
  rfl
theorem wash_Middle_l (l : List S58) (hv : Valid l) : ∀ (rest pre : List S58), l = pre ++ rest → Ev (fun k => wash_Middle.l0 k l l (l.length : Int) (pre.length : Int)) (mdl l rest) := by
  have hsm := hv.small
  intro rest
  induction rest with
  | nil =>
    intro pre e
    refine Ev.step (fun k => by rw [wash_Middle.l0]) ?_
    simp only [show ¬ ((pre.length : Int) < (l.length : Int)) by rw [e]; simp, if_false, mdl]
    exact Ev.now _
  | cons x r ih =>
    intro pre e
    have hlen : pre.length < l.length := by rw [e]; simp
    refine Ev.step (fun k => by rw [wash_Middle.l0]) ?_
    have hx : rd_T58 l (pre.length : Int) = x := by rw [e]; exact rd58 pre x r
    have hs : wrap64 ((pre.length : Int) + 1) = ((pre.length + 1 : Nat) : Int) := wr_succ (m := l.length) hlen (by omega)
    have htk : l.take (pre.length + 1) = pre ++ [x] := by rw [e]; simp [List.take_append, List.take_of_length_le]
    simp only [show ((pre.length : Int) < (l.length : Int)) by omega, show (0 : Int) ≤ (pre.length : Int) by omega, if_true, hx, hs, show (0 : Int) ≤ ((pre.length + 1 : Nat) : Int) by omega, show ((pre.length + 1 : Nat) : Int) ≤ (l.length : Int) by omega, Int.toNat_natCast, htk]
    have hmem : ∀ y ∈ pre ++ [x], 1 ≤ y.f1 ∧ y.f1 ≤ 100 := fun y hy => hsm.2 y (by
      rw [e]
      rcases List.mem_append.1 hy with h | h
      · exact List.mem_append_left _ h
      · exact List.mem_append_right _ (by simp at h; simp [h]))
    refine Ev.bind (wash_mass_ev (pre ++ [x]) (by simp; omega) hmem) (Ev.bind (wash_mass_ev l hsm.1 hsm.2) ?_)
    have hup : blw l x.f0 = sm (pre ++ [x]) := by
      have h2 := hv.2
      rw [e] at h2
      rw [e]
      exact blw_up_to h2
    rw [← hup]
    have hb := blw_bound l x.f0 hsm.2
    rw [wr (x := 2 * blw l x.f0) (by omega) (by omega), mdl]
    by_cases c : 2 * blw l x.f0 ≥ sm l
    · simp only [c, if_true]
      exact Ev.now _
    · simp only [c, if_false]
      have h := ih (pre ++ [x]) (by rw [e]; simp)
      rw [show (pre ++ [x]).length = pre.length + 1 by simp] at h
      exact h
theorem wash_Middle_ev (l : List S58) : Ev (fun k => wash_Middle.f k l) (if vld l = 0 then mdl l l else (0, vld l)) := by
  unfold wash_Middle.f
  refine Ev.bind (wash_vld l) ?_
  by_cases c : vld l = 0
  · simp only [c, if_true]
    exact wash_Middle_l l ((vld_zero l).1 c) l [] rfl
  · simp only [c, if_false]
    exact Ev.now _
end Go.Proofs.Ytbckhllkjlgbpaa.P
