/- The plain law behind WashJoins: for every two lists of grains and every size the printed law answers true; no conditions beyond the bounds of Go's ints. -/
import Derived.Test.YtbckhllkjlgbpaaSame
import Derived.Test.YtbckhllkjlgbpaaRefTab
import Derived.Test.YtbckhllkjlgbpaaP32
namespace Go.Proofs.Ytbckhllkjlgbpaa.P
open Go.RowKit Go.Proofs.YtbckhllkjlgbpaaW.PrintWords

theorem zip_comm : ∀ (a b : List Int), List.zipWith (· + ·) a b = List.zipWith (· + ·) b a
  | [], b => by cases b <;> rfl
  | x :: a, [] => rfl
  | x :: a, y :: b => by
    rw [List.zipWith_cons_cons, List.zipWith_cons_cons, zip_comm a b, Int.add_comm]
theorem zip_sum : ∀ (a b : List Int) (j : Nat), a.length = b.length → ((List.zipWith (· + ·) a b).take j).sum = (a.take j).sum + (b.take j).sum
  | [], [], j, _ => by simp
  | [], _ :: _, _, h => by simp at h
  | _ :: _, [], _, h => by simp at h
  | x :: a, y :: b, 0, _ => by simp
  | x :: a, y :: b, j + 1, h => by
    rw [List.zipWith_cons_cons, List.take_succ_cons, List.take_succ_cons, List.take_succ_cons, List.sum_cons, List.sum_cons, List.sum_cons, zip_sum a b j (by simpa using h)]
    omega
theorem zip_nonneg : ∀ (a b : List Int), (∀ v ∈ a, 0 ≤ v) → (∀ v ∈ b, 0 ≤ v) → ∀ v ∈ List.zipWith (· + ·) a b, 0 ≤ v
  | [], b, _, _, v, hv => by cases b <;> cases hv
  | x :: a, [], _, _, v, hv => by cases hv
  | x :: a, y :: b, ha, hb, v, hv => by
    rw [List.zipWith_cons_cons] at hv
    rcases List.mem_cons.1 hv with rfl | hv
    · have := ha x (List.mem_cons_self ..)
      have := hb y (List.mem_cons_self ..)
      omega
    · exact zip_nonneg a b (fun v hv => ha v (List.mem_cons_of_mem _ hv)) (fun v hv => hb v (List.mem_cons_of_mem _ hv)) v hv
/-- The mass below any size. -/
theorem blw_any {l : List S58} (hv : Valid l) (s : Int) : blw l s = ((T l).take (s + 1).toNat).sum := by
  by_cases c : s < 0
  · rw [blw_none l s (fun x hx => by have := hv.2.mass x hx; omega), show (s + 1).toNat = 0 by omega]
    rfl
  · by_cases d : s < 21
    · obtain ⟨n, rfl⟩ : ∃ n : Nat, s = (n : Int) := ⟨s.toNat, by omega⟩
      rw [blw_T hv n (by omega), show ((n : Int) + 1).toNat = n + 1 by omega]
    · rw [blw_all l s (fun x hx => by have := hv.2.mass x hx; omega), sm_T hv, List.take_of_length_le (by rw [T_length]; omega)]
theorem jn_T (l m : List S58) : jn l m = if vld l = 0 then if vld m = 0 then if vld (col 0 (List.zipWith (· + ·) (T l) (T m))) = 0 then (col 0 (List.zipWith (· + ·) (T l) (T m)), 0) else ([], vld (col 0 (List.zipWith (· + ·) (T l) (T m)))) else ([], vld m) else ([], vld l) := rfl
theorem in_WashJoins (l m : List S58) (s : Int) (_ : l.length * 16 ≤ 140737488351232) (_ : ∀ x ∈ l, Ok58 x) (_ : m.length * 16 ≤ 140737488351232) (_ : ∀ x ∈ m, Ok58 x) (_ : OkInt s) : Ev (fun k => verditerlaw01_washJoins.f k l m s) true := by
  have hout : Ev (fun k => verditerlaw01_washJoins.j0 k l m s true) true := by
    refine Ev.step (fun k => by rw [verditerlaw01_washJoins.j0]) ?_
    simp only [if_true]
    exact Ev.bind known_ev (Ev.now _)
  unfold verditerlaw01_washJoins.f
  simp only [show ∀ l, verditerlaw01_Long.f l = some (decide ((l.length : Int) > 40)) from fun _ => rfl, Option.bind_some, decide_eq_true_eq]
  by_cases c : (l.length : Int) > 40
  · simp only [c, if_true]
    exact hout
  simp only [c, if_false]
  by_cases d : (m.length : Int) > 40
  · simp only [d, decide_true]
    exact hout
  simp only [d, decide_false]
  refine Ev.step (fun k => by rw [verditerlaw01_washJoins.j0]) ?_
  simp only [Bool.false_eq_true, if_false]
  refine Ev.bind (ref_Join_ev l m) ?_
  rw [show wash_Join.f l m = some (jn l m) from rfl]
  simp only [Option.bind_some]
  have hsmall : (jn l m).1.length ≤ 1000 := by
    unfold jn
    split
    · split
      · split
        · rename_i h
          have := ((vld_zero _).1 h).1
          show (col 0 _).length ≤ _
          omega
        · simp
      · simp
    · simp
  refine Ev.bind (same_ev _ _ hsmall) ?_
  simp only [decide_true, if_true, bne_self_eq_false]
  refine Ev.step (fun k => by rw [verditerlaw01_washJoins.j1]) ?_
  simp only [Bool.false_eq_true, if_false]
  by_cases e : (jn l m).2 = 0
  case neg =>
    simp only [e, if_false]
    exact Ev.bind known_ev (Ev.now _)
  simp only [e, if_true]
  have hall : Valid l ∧ Valid m ∧ Valid (col 0 (List.zipWith (· + ·) (T l) (T m))) ∧ jn l m = (col 0 (List.zipWith (· + ·) (T l) (T m)), 0) := by
    rw [jn_T] at e ⊢
    by_cases h1 : vld l = 0
    case neg => rw [if_neg h1] at e; exact absurd e h1
    by_cases h2 : vld m = 0
    case neg => rw [if_pos h1, if_neg h2] at e; exact absurd e h2
    by_cases h3 : vld (col 0 (List.zipWith (· + ·) (T l) (T m))) = 0
    case neg => rw [if_pos h1, if_pos h2, if_neg h3] at e; exact absurd e h3
    refine ⟨(vld_zero l).1 h1, (vld_zero m).1 h2, (vld_zero _).1 h3, ?_⟩
    rw [if_pos h1, if_pos h2, if_pos h3]
  obtain ⟨hv, hw, hx, ej⟩ := hall
  have ej2 : jn m l = (col 0 (List.zipWith (· + ·) (T l) (T m)), 0) := by
    rw [jn_T, if_pos ((vld_zero m).2 hw), if_pos ((vld_zero l).2 hv), zip_comm (T m) (T l), if_pos ((vld_zero _).2 hx)]
  rw [ej, show wash_Join.f m l = some (jn m l) from rfl, ej2]
  simp only [Option.bind_some]
  refine Ev.bind (wash_Below_ev l s) (Ev.bind (wash_Below_ev m s) (Ev.bind (wash_Below_ev _ s) ?_))
  rw [if_pos ((vld_zero l).2 hv), if_pos ((vld_zero m).2 hw), if_pos ((vld_zero _).2 hx)]
  simp only [if_true]
  refine Ev.bind (same_ev _ _ (by have := hx.1; omega)) ?_
  simp only [decide_true, if_true]
  have b1 := blw_bound l s hv.small.2
  have b2 := blw_bound m s hw.small.2
  have l1 := hv.1
  have l2 := hw.1
  have es : blw l s + blw m s = blw (col 0 (List.zipWith (· + ·) (T l) (T m))) s := by
    rw [blw_any hv, blw_any hw, blw_any hx, T_col (by simp [T_length]) (zip_nonneg _ _ (fun v hv' => (T_range hv v hv').1) (fun v hv' => (T_range hw v hv').1)) hx, zip_sum _ _ _ (by rw [T_length, T_length])]
  rw [wr (by omega) (by omega)]
  simp only [es, if_true]
  exact Ev.bind known_ev (Ev.now _)
end Go.Proofs.Ytbckhllkjlgbpaa.P
