/- Moves on tables: what they keep and what they take; plain facts of lists of numbers, no conditions beyond those that each theorem names. -/
import Derived.Test.YtbckhllkjlgbpaaTwo
import Derived.Test.YtbckhllkjlgbpaaRefTab
import Derived.Test.YtbckhllkjlgbpaaSame
import Derived.Test.YtbckhllkjlgbpaaP80
namespace Go.Proofs.Ytbckhllkjlgbpaa.P
open Go.RowKit Go.Proofs.YtbckhllkjlgbpaaW.PrintWords

/-- The work of moves. -/
def mvw : List S83 → Int
  | [] => 0
  | x :: r => x.f2 * (x.f0 - x.f1) + mvw r
theorem mvs_spec : ∀ (v : List S83) (m0 m : List Int), (∀ x ∈ v, MvOk x) → m0.length = 21 → (∀ u ∈ m0, 0 ≤ u) → mvs v m0 = some m →
    m.length = 21 ∧ (∀ u ∈ m, 0 ≤ u) ∧ (∀ j, (m0.take j).sum ≤ (m.take j).sum) ∧ m.sum = m0.sum ∧ wsum 0 m0 - wsum 0 m = mvw v
  | [], m0, m, _, hl, h0, e => by
    rw [mvs] at e
    obtain rfl := Option.some.inj e
    exact ⟨hl, h0, fun j => Int.le_refl _, rfl, by rw [mvw]; omega⟩
  | x :: r, m0, m, hok, hl, h0, e => by
    obtain ⟨o1, o2, o3, o4, o5⟩ := hok x (List.mem_cons_self ..)
    obtain ⟨i, hi⟩ : ∃ i : Nat, x.f0 = (i : Int) := ⟨x.f0.toNat, by omega⟩
    obtain ⟨j, hj⟩ : ∃ j : Nat, x.f1 = (j : Int) := ⟨x.f1.toNat, by omega⟩
    rw [mvs, hi, hj, Int.toNat_natCast, Int.toNat_natCast] at e
    by_cases c : m0.getD i 0 < x.f2
    · rw [if_pos c] at e
      cases e
    · rw [if_neg c] at e
      have g : (m0.set i (m0.getD i 0 - x.f2)).getD j 0 = m0.getD j 0 := by
        rw [List.getD_eq_getElem?_getD, List.getElem?_set_ne (by omega), ← List.getD_eq_getElem?_getD]
      have l1 : i < m0.length := by omega
      have l2 : j < (m0.set i (m0.getD i 0 - x.f2)).length := by rw [List.length_set]; omega
      have gj : 0 ≤ m0.getD j 0 := by
        rw [List.getD_eq_getElem?_getD]
        cases e : m0[j]? with
        | none => simp
        | some v => exact h0 v (List.mem_of_getElem? e)
      obtain ⟨a1, a2, a3, a4, a5⟩ := mvs_spec r _ m (fun y hy => hok y (List.mem_cons_of_mem _ hy)) (by simp [hl]) (fun u hu => by
        rcases List.mem_or_eq_of_mem_set hu with h1 | rfl
        · rcases List.mem_or_eq_of_mem_set h1 with h2 | rfl
          · exact h0 u h2
          · omega
        · omega) e
      refine ⟨a1, a2, fun n => ?_, ?_, ?_⟩
      · have := a3 n
        rw [sum_take_set _ _ _ _ l2, sum_take_set _ _ _ _ l1, g] at this
        by_cases c1 : i < n
        · rw [if_pos c1, if_pos (by omega)] at this
          omega
        · rw [if_neg c1] at this
          by_cases c2 : j < n
          · rw [if_pos c2] at this
            omega
          · rw [if_neg c2] at this
            omega
      · rw [a4, sum_set _ _ _ l2, sum_set _ _ _ l1, g]
        omega
      · rw [wsum_set _ _ _ _ l2, wsum_set _ _ _ _ l1, g] at a5
        rw [mvw, hi, hj, ← a5, show m0.getD i 0 - x.f2 - m0.getD i 0 = -x.f2 by omega, show m0.getD j 0 + x.f2 - m0.getD j 0 = x.f2 by omega]
        simp only [Int.natCast_zero, Int.zero_add, Int.mul_neg, Int.mul_sub]
        rw [Int.mul_comm x.f2 i, Int.mul_comm x.f2 j]
        omega
/-- What a right answer of Grind means. -/
theorem gr_spec {l : List S58} {v : List S83} (h : (gr l v).2 = 0) : Valid l ∧ v.length ≤ 12 ∧ (∀ x ∈ v, MvOk x) ∧ ∃ m, mvs v (T l) = some m ∧ Valid (col 0 m) ∧ gr l v = (col 0 m, 0) ∧ T (col 0 m) = m := by
  unfold gr at h ⊢
  by_cases c : vld l = 0
  case neg => rw [if_neg c] at h; exact absurd h c
  rw [if_pos c] at h ⊢
  have hv := (vld_zero l).1 c
  by_cases d : (v.length : Int) > 12
  case pos => rw [if_pos d] at h; cases h
  rw [if_neg d] at h ⊢
  by_cases e : ∀ x ∈ v, MvOk x
  case neg => rw [if_neg e] at h; cases h
  rw [if_pos e] at h ⊢
  rw [show spr l zeros21 = T l from rfl] at h ⊢
  cases f : mvs v (T l) with
  | none => rw [f] at h; cases h
  | some m =>
    rw [f] at h
    simp only at h ⊢
    by_cases g : vld (col 0 m) = 0
    case neg => rw [if_neg g] at h; exact absurd h g
    rw [if_pos g]
    obtain ⟨a1, a2, _⟩ := mvs_spec v (T l) m e (T_length l) (fun u hu => (T_range hv u hu).1) f
    exact ⟨hv, by omega, e, m, rfl, (vld_zero _).1 g, rfl, T_col a1 a2 ((vld_zero _).1 g)⟩
/-- The lot after moves is finer, by their work. -/
theorem gr_finer {l : List S58} {v : List S83} {a : List S58} (h : gr l v = (a, 0)) : pr a l = 0 ∧ nb 0 (T a) (T l) = true ∧ tot 0 (T a) (T l) = mvw v := by
  obtain ⟨hv, _, hok, m, hm, hvm, e, eT⟩ := gr_spec (l := l) (v := v) (by rw [h])
  rw [h] at e
  obtain rfl : a = col 0 m := congrArg Prod.fst e
  obtain ⟨a1, a2, a3, a4, a5⟩ := mvs_spec v (T l) m hok (T_length l) (fun u hu => (T_range hv u hu).1) hm
  rw [eT]
  refine ⟨(pr_zero _ _).2 ⟨hvm, hv, by rw [sm_T hvm, sm_T hv, eT, a4]⟩, (nb_nn _ _ _).2 ((nn_iff _ _ _ (by rw [a1, T_length])).2 (fun j _ => by have := a3 (j + 1); omega)), ?_⟩
  have := tot_wsum m (T l) 0 0 (by rw [a1, T_length])
  rw [a4, Int.sub_self, Int.mul_zero, Int.mul_zero] at this
  omega
/-- What CheckFiner answers. -/
def chk (l m : List S58) (v : List S83) : Int := if pr l m = 0 then if (gr m v).2 = 0 then if (gr m v).1 = l then 0 else 7 else (gr m v).2 else pr l m
theorem gr_small (l : List S58) (v : List S83) : (gr l v).1.length ≤ 1000 := by
  by_cases c : (gr l v).2 = 0
  · obtain ⟨_, _, _, m, _, hvm, e, _⟩ := gr_spec c
    rw [e]
    have := hvm.1
    show (col 0 m).length ≤ _
    omega
  · unfold gr at c ⊢
    split
    · rename_i c1
      rw [if_pos c1] at c
      split
      · simp
      · rename_i c2
        rw [if_neg c2] at c
        split
        · rename_i c3
          rw [if_pos c3] at c
          cases f : mvs v (spr l zeros21) with
          | none => simp
          | some m =>
            rw [f] at c
            simp only at c ⊢
            split
            · rename_i c4
              rw [if_pos c4] at c
              exact absurd rfl c
            · simp
        · simp
    · simp
theorem wash_CheckFiner_ev (l m : List S58) (v : List S83) : Ev (fun k => wash_CheckFiner.f k l m v) (chk l m v) := by
  unfold wash_CheckFiner.f chk
  refine Ev.bind (wash_pair_ev l m) ?_
  by_cases c : pr l m = 0
  case neg =>
    simp only [c, if_false]
    exact Ev.now _
  simp only [c, if_true]
  rw [show wash_Grind.f m v = some (gr m v) from rfl]
  simp only [Option.bind_some]
  by_cases d : (gr m v).2 = 0
  case neg =>
    simp only [d, if_false]
    exact Ev.now _
  simp only [d, if_true]
  refine Ev.bind (equal_ev _ _ (gr_small m v)) ?_
  by_cases e : (gr m v).1 = l
  · simp only [e, decide_true, if_true]
    exact Ev.now _
  · simp only [e, decide_false, Bool.false_eq_true, if_false]
    exact Ev.now _
end Go.Proofs.Ytbckhllkjlgbpaa.P
