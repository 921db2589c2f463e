/- The plain law behind WashSieves: for every list of grains and every size the printed law answers true; no conditions beyond the bounds of Go's ints. -/
import Derived.Test.YtbckhllkjlgbpaaSame
import Derived.Test.YtbckhllkjlgbpaaTab
import Derived.Test.YtbckhllkjlgbpaaJoin
import Derived.Test.YtbckhllkjlgbpaaSieve
import Derived.Test.YtbckhllkjlgbpaaP31
namespace Go.Proofs.Ytbckhllkjlgbpaa.P
open Go.RowKit Go.Proofs.YtbckhllkjlgbpaaW.PrintWords

theorem ref_Sieve_l (l : List S58) (s : Int) (hl : l.length ≤ 1000) : ∀ (rest pre a b : List S58), l = pre ++ rest → a.length + b.length ≤ pre.length →
    Ev (fun k => verditerref01_Sieve.l0 k l s a b (pre.length : Int)) (a ++ rest.filter (fun x => decide (x.f0 ≤ s)), b ++ rest.filter (fun x => !decide (x.f0 ≤ s)), 0) := by
  intro rest
  induction rest with
  | nil =>
    intro pre a b e _
    refine Ev.step (fun k => by rw [verditerref01_Sieve.l0]) ?_
    simp only [show ¬ ((pre.length : Int) < (l.length : Int)) by rw [e]; simp, if_false, List.filter_nil, List.append_nil]
    exact Ev.now _
  | cons x r ih =>
    intro pre a b e h
    have hlen : pre.length < l.length := by rw [e]; simp
    refine Ev.step (fun k => by rw [verditerref01_Sieve.l0]) ?_
    have hx : rd_T58 l (pre.length : Int) = x := by rw [e]; exact rd58 pre x r
    simp only [show ((pre.length : Int) < (l.length : Int)) by omega, show (0 : Int) ≤ (pre.length : Int) by omega, if_true, hx, show a.length < 8796093022208 by omega, show b.length < 8796093022208 by omega]
    rw [wr_succ (m := l.length) hlen (by omega), List.filter_cons, List.filter_cons]
    by_cases c : x.f0 ≤ s
    · simp only [c, if_true, decide_true, Bool.not_true, Bool.false_eq_true, if_false]
      have h := ih (pre ++ [x]) (a ++ [x]) b (by rw [e]; simp) (by simp; omega)
      rw [show (pre ++ [x]).length = pre.length + 1 by simp, List.append_assoc] at h
      exact h
    · simp only [c, if_true, decide_false, Bool.not_false, Bool.false_eq_true, if_false]
      have h := ih (pre ++ [x]) a (b ++ [x]) (by rw [e]; simp) (by simp; omega)
      rw [show (pre ++ [x]).length = pre.length + 1 by simp, List.append_assoc] at h
      exact h
theorem filter_take : ∀ (l : List S58) (lo s : Int), Srt lo l → l.filter (fun x => decide (x.f0 ≤ s)) = l.take (l.takeWhile fun x => decide (x.f0 ≤ s)).length
  | [], _, _, _ => rfl
  | x :: r, lo, s, h => by
    rw [List.filter_cons, List.takeWhile_cons]
    by_cases c : x.f0 ≤ s
    · simp only [c, decide_true, if_true, List.length_cons, List.take_succ_cons]
      rw [filter_take r _ s h.2.2.2.2]
    · simp only [c, decide_false, Bool.false_eq_true, if_false, List.length_nil, List.take_zero]
      rw [List.filter_eq_nil_iff]
      intro y hy
      have := h.2.2.2.2.mass y hy
      simp
      omega
theorem filter_drop : ∀ (l : List S58) (lo s : Int), Srt lo l → l.filter (fun x => !decide (x.f0 ≤ s)) = l.drop (l.takeWhile fun x => decide (x.f0 ≤ s)).length
  | [], _, _, _ => rfl
  | x :: r, lo, s, h => by
    rw [List.filter_cons, List.takeWhile_cons]
    by_cases c : x.f0 ≤ s
    · simp only [c, decide_true, if_true, List.length_cons, List.drop_succ_cons, Bool.not_true, Bool.false_eq_true, if_false]
      rw [filter_drop r _ s h.2.2.2.2]
    · simp only [c, decide_false, Bool.false_eq_true, if_false, List.length_nil, List.drop_zero, Bool.not_false, if_true]
      rw [List.filter_eq_self.2]
      intro y hy
      have := h.2.2.2.2.mass y hy
      simp
      omega
theorem ref_Sieve_ev (l : List S58) (s : Int) : Ev (fun k => verditerref01_Sieve.f k l s) (siv l s) := by
  unfold verditerref01_Sieve.f siv
  refine Ev.bind (ref_vld l) ?_
  by_cases c : vld l = 0
  · simp only [c, if_true]
    have hv := (vld_zero l).1 c
    have h := ref_Sieve_l l s hv.small.1 l [] [] [] rfl (by simp)
    rw [filter_take l 0 s hv.2, filter_drop l 0 s hv.2] at h
    simpa using h
  · simp only [c, if_false]
    exact Ev.now _
theorem Srt.take {l : List S58} : ∀ {lo : Int} (n : Nat), Srt lo l → Srt lo (l.take n) := by
  induction l with
  | nil => intro lo n _; simp [Srt]
  | cons x r ih =>
    intro lo n h
    cases n with
    | zero => trivial
    | succ n => exact ⟨h.1, h.2.1, h.2.2.1, h.2.2.2.1, ih n h.2.2.2.2⟩
theorem Srt.drop {l : List S58} : ∀ {lo : Int} (n : Nat), Srt lo l → Srt lo (l.drop n) := by
  induction l with
  | nil => intro lo n _; simp [Srt]
  | cons x r ih =>
    intro lo n h
    cases n with
    | zero => exact h
    | succ n => exact (ih n h.2.2.2.2).low (by have := h.1; omega)
theorem Valid.take {l : List S58} (h : Valid l) (n : Nat) : Valid (l.take n) := ⟨by have := h.1; rw [List.length_take]; omega, h.2.take n⟩
theorem Valid.drop {l : List S58} (h : Valid l) (n : Nat) : Valid (l.drop n) := ⟨by have := h.1; rw [List.length_drop]; omega, h.2.drop n⟩
theorem atm_append : ∀ (a b : List S58) (i : Int), atm (a ++ b) i = atm a i + atm b i
  | [], b, i => by rw [List.nil_append, atm, Int.zero_add]
  | x :: a, b, i => by rw [List.cons_append, atm, atm, atm_append a b i, Int.add_assoc]
theorem parts_join {l : List S58} (hv : Valid l) (n : Nat) : List.zipWith (· + ·) (T (l.take n)) (T (l.drop n)) = T l := by
  apply List.ext_getElem
  · simp [T_length]
  · intro i h1 h2
    rw [T_length] at h2
    have e1 := T_at (hv.take n) i h2
    have e2 := T_at (hv.drop n) i h2
    have e3 := T_at hv i h2
    rw [show atm l (i : Int) = atm (l.take n) i + atm (l.drop n) i by rw [← atm_append, List.take_append_drop], ← e1, ← e2] at e3
    rw [List.getD_eq_getElem?_getD, List.getD_eq_getElem?_getD, List.getD_eq_getElem?_getD, List.getElem?_eq_getElem (by rw [T_length]; omega), List.getElem?_eq_getElem (by rw [T_length]; omega), List.getElem?_eq_getElem (by rw [T_length]; omega)] at e3
    simp only [Option.getD_some] at e3
    rw [List.getElem_zipWith, e3]
theorem sieves_l (l own b : List S58) (r : Int) (h : ∀ a, Ev (fun k => verditerlaw01_washSieves.l0 k l own a b r (a.length : Int)) true) : ∀ (d n : Nat) (a : List S58), n + d = a.length → a.length ≤ 1000 →
    Ev (fun k => verditerlaw01_washSieves.l0 k l own a b r (n : Int)) true := by
  intro d
  induction d with
  | zero =>
    intro n a hn ha
    have := h a
    rw [← hn] at this
    exact this
  | succ d ih =>
    intro n a hn ha
    refine Ev.step (fun k => by rw [verditerlaw01_washSieves.l0]) ?_
    simp only [show ((n : Int) < (a.length : Int)) by omega, show (0 : Int) ≤ (n : Int) by omega, if_true]
    rw [wr_succ (m := a.length) (by omega) (by omega)]
    exact ih (n + 1) _ (by simp; omega) (by simpa using ha)
theorem in_WashSieves (l : List S58) (s : Int) (_ : l.length * 16 ≤ 140737488351232) (_ : ∀ x ∈ l, Ok58 x) (_ : OkInt s) : Ev (fun k => verditerlaw01_washSieves.f k l s) true := by
  unfold verditerlaw01_washSieves.f
  simp only [show ∀ l, verditerlaw01_Long.f l = some (decide ((l.length : Int) > 40)) from fun _ => rfl, Option.bind_some, decide_eq_true_eq]
  by_cases c : (l.length : Int) > 40
  · simp only [c, if_true]
    exact Ev.bind known_ev (Ev.now _)
  simp only [c, if_false, List.length_nil, List.nil_append, show 0 + l.length < 8796093022208 by omega, if_true]
  refine Ev.bind (ref_Sieve_ev l s) ?_
  rw [show wash_Sieve.f l s = some (siv l s) from rfl]
  simp only [Option.bind_some]
  have hs : (siv l s).1.length ≤ 1000 ∧ (siv l s).2.1.length ≤ 1000 := by
    unfold siv
    split
    · constructor
      · show (l.take _).length ≤ _
        rw [List.length_take]
        omega
      · show (l.drop _).length ≤ _
        rw [List.length_drop]
        omega
    · simp
  refine Ev.bind (same_ev _ _ hs.1) ?_
  simp only [decide_true, if_true]
  refine Ev.bind (same_ev _ _ hs.2) ?_
  simp only [decide_true, if_true, bne_self_eq_false]
  refine Ev.step (fun k => by rw [verditerlaw01_washSieves.j0]) ?_
  simp only [Bool.false_eq_true, if_false]
  by_cases d : vld l = 0
  case neg =>
    rw [show siv l s = ([], [], vld l) by unfold siv; rw [if_neg d]]
    simp only [d, if_false]
    exact Ev.bind known_ev (Ev.now _)
  have hv := (vld_zero l).1 d
  rw [show siv l s = (l.take (l.takeWhile fun x => decide (x.f0 ≤ s)).length, l.drop (l.takeWhile fun x => decide (x.f0 ≤ s)).length, 0) by unfold siv; rw [if_pos d]]
  simp only [if_true]
  generalize (l.takeWhile fun x => decide (x.f0 ≤ s)).length = n
  have ej : wash_Join.f (l.take n) (l.drop n) = some (l, 0) := by
    unfold wash_Join.f jn
    rw [if_pos ((vld_zero _).2 (hv.take n)), if_pos ((vld_zero _).2 (hv.drop n))]
    rw [show List.zipWith (· + ·) (spr (l.take n) zeros21) (spr (l.drop n) zeros21) = T l from parts_join hv n, col_T hv, if_pos d]
  rw [ej]
  simp only [Option.bind_some]
  refine sieves_l l l l 0 (fun a => ?_) (l.take n).length 0 (l.take n) (by omega) (by rw [List.length_take]; omega)
  refine Ev.step (fun k => by rw [verditerlaw01_washSieves.l0]) ?_
  simp only [Int.lt_irrefl, if_false, if_true]
  refine Ev.bind (same_ev l l (by omega)) ?_
  simp only [decide_true, if_true]
  refine Ev.bind (same_ev l l (by omega)) ?_
  simp only [decide_true, if_true]
  exact Ev.bind known_ev (Ev.now _)
end Go.Proofs.Ytbckhllkjlgbpaa.P
