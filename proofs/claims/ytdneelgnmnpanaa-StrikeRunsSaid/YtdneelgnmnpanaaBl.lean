/- A block that holds lines of six numbers: its cells, stores into it, and what the print's words (Kd.R, Kd.C) say of it; no conditions beyond those that each theorem names. -/
import Derived.Test.YtdneelgnmnpanaaLn
namespace Go.Proofs.Ytdneelgnmnpanaa.P
open Go.RowKit Go.Proofs.YtdneelgnmnpanaaW.PrintWords Go.Proofs.YtdneelgnmnpanaaW.PrintLast Go.Proofs.YtdneelgnmnpanaaW.PrintMore
set_option linter.unusedVariables false
set_option linter.unusedSimpArgs false
/-! ### lists of lines -/
def Six (M : List (List Int)) : Prop := ∀ r ∈ M, r.length = 6
theorem flat_len : ∀ {M : List (List Int)}, Six M → M.flatten.length = M.length * 6
  | [], _ => rfl
  | r :: M, h => by
    rw [List.flatten_cons, List.length_append, h r (List.mem_cons_self ..), flat_len (fun x hx => h x (List.mem_cons_of_mem _ hx)), List.length_cons]
    omega
theorem flat_get : ∀ {M : List (List Int)}, Six M → ∀ (k i : Nat) (hk : k < M.length), i < 6 → M.flatten[k * 6 + i]? = M[k][i]?
  | [], _, k, i, hk, _ => by simp at hk
  | r :: M, h, 0, i, hk, hi => by
    have h6 := h r (List.mem_cons_self ..)
    rw [List.flatten_cons, List.getElem?_append_left (by omega)]
    simp
  | r :: M, h, k + 1, i, hk, hi => by
    have h6 := h r (List.mem_cons_self ..)
    rw [List.flatten_cons, List.getElem?_append_right (by omega), h6, show (k + 1) * 6 + i - 6 = k * 6 + i by omega, flat_get (fun x hx => h x (List.mem_cons_of_mem _ hx)) k i (by simpa using hk) hi]
    simp
theorem flat_set : ∀ {M : List (List Int)}, Six M → ∀ (k i : Nat) (v : Int) (hk : k < M.length), i < 6 → M.flatten.set (k * 6 + i) v = (M.set k (M[k].set i v)).flatten
  | [], _, k, i, v, hk, _ => by simp at hk
  | r :: M, h, 0, i, v, hk, hi => by
    have h6 := h r (List.mem_cons_self ..)
    rw [List.flatten_cons, List.set_append_left _ _ (by omega)]
    simp
  | r :: M, h, k + 1, i, v, hk, hi => by
    have h6 := h r (List.mem_cons_self ..)
    rw [List.flatten_cons, List.set_append_right _ _ (by omega), h6, show (k + 1) * 6 + i - 6 = k * 6 + i by omega, flat_set (fun x hx => h x (List.mem_cons_of_mem _ hx)) k i v (by simpa using hk) hi]
    simp
theorem Six.set {M : List (List Int)} (h : Six M) (k : Nat) {r : List Int} (hr : r.length = 6) : Six (M.set k r) := by
  intro x hx
  rcases List.mem_or_eq_of_mem_set hx with h1 | rfl
  · exact h x h1
  · exact hr
theorem Six.at {M : List (List Int)} (h : Six M) {k : Nat} (hk : k < M.length) : M[k].length = 6 := h _ (List.getElem_mem hk)
/-! ### the block -/
def Bl (w : World) (g : Nat) (M : List (List Int)) (c : Nat) : Prop := Six M ∧ ∃ rest : List Value, w.heap[g]? = some (.cells ⟨M.flatten.map (Value.int .i64) ++ rest⟩ 76 (0, 0)) ∧ M.length * 6 + rest.length = c * 6
section
variable {w w1 : World} {g c : Nat} {M : List (List Int)}
theorem Bl.move (h : Bl w g M c) (e : w1.heap[g]? = w.heap[g]?) : Bl w1 g M c := by
  obtain ⟨h6, rest, hh, hl⟩ := h
  exact ⟨h6, rest, e.trans hh, hl⟩
theorem Bl.lt (h : Bl w g M c) : g < w.heap.size := by
  obtain ⟨h6, rest, hh, hl⟩ := h
  exact blk_lt hh
theorem Bl.below (h : Bl w g M c) (hb : Below w.heap.size w w1) : Bl w1 g M c := h.move (hb.block g h.lt)
theorem Bl.alloc (h : Bl w g M c) (o : Obj) : Bl (w.alloc o) g M c := h.move (Below.heap_alloc w o g h.lt)
theorem Bl.drew (h : Bl w g M c) : Bl w.drew g M c := h
theorem Bl.drewN (h : Bl w g M c) (n : Nat) : Bl (w.drewN n) g M c := h
theorem Bl.far (h : Bl w g M c) {a : Addr} (ha : g ≠ a.block) (v : Value) : Bl (w.setCell a v) g M c := h.move (heap_setCell_other w a g v ha)
theorem Bl.cell (h : Bl w g M c) {k i : Nat} (hk : k < M.length) (hi : i < 6) : w.cell? ⟨g, k * 6 + i, none⟩ = some (.int .i64 (M[k].getD i 0)) := by
  obtain ⟨h6, rest, hh, hl⟩ := h
  rw [blk_cell hh]
  have hf := flat_len h6
  have h66 := h6.at hk
  have hg := flat_get h6 k i hk hi
  rw [List.getElem?_eq_getElem (show i < M[k].length by omega)] at hg
  simp only [List.getElem?_toArray]
  rw [List.getElem?_append_left (by rw [List.length_map, hf]; omega), List.getElem?_map, hg, List.getD_eq_getElem?_getD, List.getElem?_eq_getElem (show i < M[k].length by omega)]
  rfl
theorem Bl.frozen (h : Bl w g M c) (i : Nat) : w.frozen? ⟨g, i, none⟩ = false := by
  obtain ⟨h6, rest, hh, hl⟩ := h
  exact blk_frozen hh i
theorem Bl.store (h : Bl w g M c) {k i : Nat} (hk : k < M.length) (hi : i < 6) (v : Int) : Bl (w.setCell ⟨g, k * 6 + i, none⟩ (.int .i64 v)) g (M.set k (M[k].set i v)) c := by
  obtain ⟨h6, rest, hh, hl⟩ := h
  refine ⟨h6.set k (by rw [List.length_set]; exact h6.at hk), rest, ?_, by simpa using hl⟩
  have hf := flat_len h6
  rw [heap_setCell_same _ g _ _ 76 _ hh, ← flat_set h6 k i v hk hi]
  congr 2
  apply Array.ext'
  simp only [Array.toList_setIfInBounds]
  rw [List.set_append_left _ _ (by rw [List.length_map, hf]; omega), List.map_set]
theorem Bl.range (h : Bl w g M c) {k : Nat} (hk : k < M.length) : w.rangeAt g (k * 6) (M[k].map (Value.int .i64)) := by
  intro j v hj
  have h6 := h.1.at hk
  have hj6 : j < 6 := by
    have := (List.getElem?_eq_some_iff.1 hj).1
    simp at this
    omega
  rw [h.cell hk hj6, ← hj, List.getElem?_map, List.getElem?_eq_getElem (show j < M[k].length by omega), List.getD_eq_getElem?_getD, List.getElem?_eq_getElem (show j < M[k].length by omega)]
  rfl
theorem Bl.there (h : Bl w g M c) {k : Nat} (hk : k < M.length) : w.there g (k * 6) 6 := fun j hj => ⟨by rw [h.cell hk hj]; rfl, h.frozen _⟩
theorem Bl.puts : ∀ (r : List Int) (i : Nat) {w : World} {M : List (List Int)} (h : Bl w g M c) {k : Nat} (hk : k < M.length), i + r.length ≤ 6 → ∃ s : List Int, s.length = 6 ∧ s.take i = M[k].take i ∧ (s.drop i).take r.length = r ∧ s.drop (i + r.length) = M[k].drop (i + r.length) ∧ Bl (w.setCells g (k * 6 + i) (r.map (Value.int .i64))) g (M.set k s) c
  | [], i, w, M, h, k, hk, _ => ⟨M[k], h.1.at hk, rfl, by simp, rfl, by
      have : M.set k M[k] = M := List.set_getElem_self hk
      rw [this]
      exact h⟩
  | v :: r, i, w, M, h, k, hk, hl => by
    have hi : i < 6 := by simp at hl; omega
    have h6 := h.1.at hk
    have hs := h.store hk hi v
    have hk' : k < (M.set k (M[k].set i v)).length := by simpa using hk
    obtain ⟨s, s1, s2, s3, s4, s5⟩ := Bl.puts r (i + 1) hs hk' (by simp at hl; omega)
    have e1 : (M.set k (M[k].set i v))[k] = M[k].set i v := by simp
    rw [e1] at s2 s4
    refine ⟨s, s1, ?_, ?_, ?_, ?_⟩
    · have := congrArg (List.take i) s2
      rw [List.take_take, List.take_take, Nat.min_eq_left (by omega)] at this
      rw [this]
      rw [List.take_set_of_le (by omega)]
    · have hv : s[i]? = some v := by
        have := congrArg (·[i]?) s2
        simp only [List.getElem?_take] at this
        rw [if_pos (by omega), if_pos (by omega)] at this
        rw [this]
        simp [show i < M[k].length by omega]
      have hd : s.drop i = v :: s.drop (i + 1) := by
        rw [List.drop_eq_getElem_cons (by omega)]
        congr 1
        rw [List.getElem?_eq_getElem (by omega)] at hv
        exact Option.some.inj hv
      rw [hd, List.length_cons, List.take_succ_cons, s3]
    · rw [List.length_cons, show i + (r.length + 1) = i + 1 + r.length by omega, s4, List.drop_set_of_lt (by omega)]
    · rw [List.map_cons, World.setCells]
      rw [List.set_set] at s5
      exact s5
theorem Bl.stores (h : Bl w g M c) {k : Nat} (hk : k < M.length) {r : List Int} (hr : r.length = 6) : Bl (w.setCells g (k * 6) (r.map (Value.int .i64))) g (M.set k r) c := by
  obtain ⟨s, s1, s2, s3, s4, s5⟩ := Bl.puts r 0 h hk (by omega)
  simp only [List.drop_zero, Nat.add_zero] at s3 s5
  have : s = r := by rw [← s3, List.take_of_length_le (by omega)]
  rw [this] at s5
  exact s5
end
/-! ### lines as the print's states -/
def L6 (x : S76) : List Int := [x.f0, x.f1, x.f2, x.f3, x.f4, x.f5]
def mk6 (m : List Int) : S76 := ⟨m.getD 0 0, m.getD 1 0, m.getD 2 0, m.getD 3 0, m.getD 4 0, m.getD 5 0⟩
theorem L6_length (x : S76) : (L6 x).length = 6 := rfl
theorem mk6_L6 (x : S76) : mk6 (L6 x) = x := rfl
theorem L6_mk6 {m : List Int} (h : m.length = 6) : L6 (mk6 m) = m := by
  match m, h with
  | [a, b, c, d, e, f], _ => rfl
theorem six_L6 (xs : List S76) : Six (xs.map L6) := by
  intro r hr
  obtain ⟨x, _, rfl⟩ := List.mem_map.1 hr
  rfl
theorem map_mk6 (xs : List S76) : (xs.map L6).map mk6 = xs := by
  rw [List.map_map]
  have : (mk6 ∘ L6) = id := funext mk6_L6
  rw [this, List.map_id]
theorem map_L6 : ∀ {M : List (List Int)}, Six M → (M.map mk6).map L6 = M
  | [], _ => rfl
  | r :: M, h => by rw [List.map_cons, List.map_cons, L6_mk6 (h r (List.mem_cons_self ..)), map_L6 (fun x hx => h x (List.mem_cons_of_mem _ hx))]
/-- What an argument's lines read as. -/
theorem Rd.of_C {w : World} {A : Option Addr} {n : Nat} {xs : List S76} (h : Kd.C k76 w A n xs) (hA : ∀ ad, A = some ad → ad.spot = none) : Rd w A (xs.map L6) := by
  intro hne
  have hn : 0 < n := by
    have := h.1
    cases xs with
    | nil => simp at hne
    | cons x r => simp at this; omega
  obtain ⟨ad, e, hc⟩ := h.2.2 hn
  obtain ⟨b, o, sp⟩ := ad
  have := hA _ e
  cases this
  refine ⟨b, o, e, fun k r hk => ?_⟩
  rw [List.getElem?_map] at hk
  obtain ⟨x, hx, rfl⟩ := Option.map_eq_some_iff.1 hk
  obtain ⟨cs, _, hK, hcell⟩ := hc k x hx
  obtain rfl := k76_open hK
  refine ⟨rfl, fun j v hj => ?_⟩
  have h1 := hcell j v hj
  rw [Addr.add_mid] at h1
  rw [Nat.add_assoc]
  exact h1
theorem reps76 {W : World} {base : Nat} {ok : Nat → Prop} : ∀ {xs : List S76} {inner : List Value}, Reps (k76.M W base ok) 6 xs inner → inner = (xs.map L6).flatten.map (Value.int .i64)
  | [], inner, h => List.eq_nil_of_length_eq_zero (by simpa using h.1)
  | x :: r, inner, h => by
    have hl := h.1
    have h2 := k76_openM (h.2 0 x rfl)
    simp only [Nat.zero_mul, List.drop_zero] at h2
    have h3 := reps76 (xs := r) (inner := inner.drop 6) ⟨by simp at hl ⊢; omega, fun j p hj => by
      have := h.2 (j + 1) p (by simpa using hj)
      rw [List.drop_drop, show 6 + j * 6 = (j + 1) * 6 by omega]
      exact this⟩
    rw [← List.take_append_drop 6 inner, h2, h3]
    rfl
/-- The block of a row of lines of our own. -/
theorem Bl.of_R {w : World} {base : Nat} {ok : Nat → Prop} {v : Value} {xs : List S76} (h : Kd.R k76 76 w base ok v xs) : (v = .slice none 0 0 ∧ xs = []) ∨ ∃ g c, v = .slice (some ⟨g, 0, none⟩) xs.length c ∧ base ≤ g ∧ ok g ∧ Bl w g (xs.map L6) c ∧ xs.length ≤ c ∧ c ≤ maxLen := by
  obtain ⟨h0, inner, ⟨hl, ho⟩, hr⟩ := h
  rcases ho with ⟨rfl, hn⟩ | ⟨g, cap, cur, rfl, hg, hh, hc, hm, hs, ht⟩
  · exact .inl ⟨rfl, List.eq_nil_of_length_eq_zero hn⟩
  · refine .inr ⟨g, cap, rfl, hg, h0 g rfl, ⟨six_L6 xs, cur.toList.drop (xs.length * 6), ?_, ?_⟩, hc, hm⟩
    · have hin : inner = (xs.map L6).flatten.map (Value.int .i64) := reps76 hr
      rw [hh, ← hin, ← ht, show k76.sz = 6 from rfl, List.take_append_drop]
    · have : cur.toList.length = cap * 6 := by rw [Array.length_toList]; exact hs
      simp [this]
      omega
theorem Bl.R {w : World} {g c base n : Nat} {ok : Nat → Prop} {M : List (List Int)} (h : Bl w g M c) (hb : base ≤ g) (hok : ok g) (hn : n ≤ M.length) (hc : c ≤ maxLen) : Kd.R k76 76 w base ok (.slice (some ⟨g, 0, none⟩) n c) ((M.take n).map mk6) := by
  obtain ⟨h6, rest, hh, hl⟩ := h
  have h6t : Six (M.take n) := fun r hr => h6 r (List.mem_of_mem_take hr)
  have hlen : ((M.take n).map mk6).length = n := by simp; omega
  have hfl : (M.take n).flatten.length = n * 6 := by rw [flat_len h6t]; simp; omega
  refine ⟨fun k hk => ?_, (M.take n).flatten.map (Value.int .i64), ⟨?_, .inr ⟨g, c, _, ?_, hb, hh, ?_, hc, ?_, ?_⟩⟩, ?_, ?_⟩
  · simp [Value.ownBlock] at hk
    subst hk
    exact hok
  · rw [List.length_map, hfl, hlen]; rfl
  · rw [hlen]
  · rw [hlen]; omega
  · show (M.flatten.map (Value.int .i64) ++ rest).length = c * 6
    rw [List.length_append, List.length_map, flat_len h6]
    exact hl
  · rw [hlen, show k76.sz = 6 from rfl]
    have : M.flatten = (M.take n).flatten ++ (M.drop n).flatten := by rw [← List.flatten_append, List.take_append_drop]
    show List.take (n * 6) (M.flatten.map (Value.int .i64) ++ rest) = _
    rw [this, List.map_append, List.append_assoc, List.take_append_of_le_length (by rw [List.length_map, hfl]; omega), List.take_of_length_le (by rw [List.length_map, hfl]; omega)]
  · rw [List.length_map, hfl, hlen]; rfl
  · intro j p hj
    rw [List.getElem?_map] at hj
    obtain ⟨r, hr, rfl⟩ := Option.map_eq_some_iff.1 hj
    obtain ⟨hjl, hje⟩ := List.getElem?_eq_some_iff.1 hr
    have hr6 : r.length = 6 := h6t r (hje ▸ List.getElem_mem hjl)
    have he : (((M.take n).flatten.map (Value.int .i64)).drop (j * 6)).take 6 = (L6 (mk6 r)).map (Value.int .i64) := by
      rw [L6_mk6 hr6]
      apply List.ext_getElem?
      intro i
      rw [List.getElem?_take]
      split
      · rename_i hi
        rw [List.getElem?_drop, List.getElem?_map, List.getElem?_map, flat_get h6t j i hjl hi, hje]
      · rw [List.getElem?_eq_none (by simp; omega)]
    show k76.M _ _ _ _ _
    rw [show k76.sz = 6 from rfl, he]
    exact k76_mkM _ _ _ _
end Go.Proofs.Ytdneelgnmnpanaa.P
