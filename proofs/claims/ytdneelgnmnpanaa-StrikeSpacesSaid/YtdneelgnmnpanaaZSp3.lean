/- What the claim's last text wants, part 3: functions of the translation as Lean functions with their contracts, and plain theorems; no conditions beyond those that each theorem names. -/
import Derived.Test.YtdneelgnmnpanaaZSp2
import Derived.Laws.Rows
import Derived.Deep.WholeRow
import Derived.ChangeKeysEq
import Derived.WalkSpells
section
namespace Go.Proofs.Ytdneelgnmnpanaa.P
open Go.RowKit Go.Proofs.YtdneelgnmnpanaaW.PrintWords Go.Proofs.YtdneelgnmnpanaaW.PrintLast Go.Proofs.YtdneelgnmnpanaaW.PrintMore
set_option linter.unusedVariables false
set_option linter.unusedSimpArgs false
def Six (M : List (List Int)) : Prop := ∀ r ∈ M, r.length = 6
theorem flat_len : ∀ {M : List (List Int)}, Six M → M.flatten.length = M.length * 6
  | [], _ => rfl
  | r :: M, h => by
    rw [List.flatten_cons, List.length_append, h r (List.mem_cons_self ..), flat_len (fun x hx => h x (List.mem_cons_of_mem _ hx)), List.length_cons]
    omega
theorem flat_get : ∀ {M : List (List Int)}, Six M → ∀ (k i : Nat) (hk : k < M.length), i < 6 → M.flatten[k * 6 + i]? = M[k][i]?
  | [], _, k, i, hk, _ => by simp at hk
  | r :: M, h, 0, i, hk, hi => by
    have h6 := h r (List.mem_cons_self ..)
    rw [List.flatten_cons, List.getElem?_append_left (by omega)]
    simp
  | r :: M, h, k + 1, i, hk, hi => by
    have h6 := h r (List.mem_cons_self ..)
    rw [List.flatten_cons, List.getElem?_append_right (by omega), h6, show (k + 1) * 6 + i - 6 = k * 6 + i by omega, flat_get (fun x hx => h x (List.mem_cons_of_mem _ hx)) k i (by simpa using hk) hi]
    simp
theorem flat_set : ∀ {M : List (List Int)}, Six M → ∀ (k i : Nat) (v : Int) (hk : k < M.length), i < 6 → M.flatten.set (k * 6 + i) v = (M.set k (M[k].set i v)).flatten
  | [], _, k, i, v, hk, _ => by simp at hk
  | r :: M, h, 0, i, v, hk, hi => by
    have h6 := h r (List.mem_cons_self ..)
    rw [List.flatten_cons, List.set_append_left _ _ (by omega)]
    simp
  | r :: M, h, k + 1, i, v, hk, hi => by
    have h6 := h r (List.mem_cons_self ..)
    rw [List.flatten_cons, List.set_append_right _ _ (by omega), h6, show (k + 1) * 6 + i - 6 = k * 6 + i by omega, flat_set (fun x hx => h x (List.mem_cons_of_mem _ hx)) k i v (by simpa using hk) hi]
    simp
theorem Six.set {M : List (List Int)} (h : Six M) (k : Nat) {r : List Int} (hr : r.length = 6) : Six (M.set k r) := by
  intro x hx
  rcases List.mem_or_eq_of_mem_set hx with h1 | rfl
  · exact h x h1
  · exact hr
theorem Six.at {M : List (List Int)} (h : Six M) {k : Nat} (hk : k < M.length) : M[k].length = 6 := h _ (List.getElem_mem hk)
def Bl (w : World) (g : Nat) (M : List (List Int)) (c : Nat) : Prop := Six M ∧ ∃ rest : List Value, w.heap[g]? = some (.cells ⟨M.flatten.map (Value.int .i64) ++ rest⟩ 76 (0, 0)) ∧ M.length * 6 + rest.length = c * 6
section
variable {w w1 : World} {g c : Nat} {M : List (List Int)}
theorem Bl.move (h : Bl w g M c) (e : w1.heap[g]? = w.heap[g]?) : Bl w1 g M c := by
  obtain ⟨h6, rest, hh, hl⟩ := h
  exact ⟨h6, rest, e.trans hh, hl⟩
theorem Bl.lt (h : Bl w g M c) : g < w.heap.size := by
  obtain ⟨h6, rest, hh, hl⟩ := h
  exact blk_lt hh
theorem Bl.below (h : Bl w g M c) (hb : Below w.heap.size w w1) : Bl w1 g M c := h.move (hb.block g h.lt)
theorem Bl.alloc (h : Bl w g M c) (o : Obj) : Bl (w.alloc o) g M c := h.move (Below.heap_alloc w o g h.lt)
theorem Bl.drew (h : Bl w g M c) : Bl w.drew g M c := h
theorem Bl.drewN (h : Bl w g M c) (n : Nat) : Bl (w.drewN n) g M c := h
theorem Bl.far (h : Bl w g M c) {a : Addr} (ha : g ≠ a.block) (v : Value) : Bl (w.setCell a v) g M c := h.move (heap_setCell_other w a g v ha)
theorem Bl.cell (h : Bl w g M c) {k i : Nat} (hk : k < M.length) (hi : i < 6) : w.cell? ⟨g, k * 6 + i, none⟩ = some (.int .i64 (M[k].getD i 0)) := by
  obtain ⟨h6, rest, hh, hl⟩ := h
  rw [blk_cell hh]
  have hf := flat_len h6
  have h66 := h6.at hk
  have hg := flat_get h6 k i hk hi
  rw [List.getElem?_eq_getElem (show i < M[k].length by omega)] at hg
  simp only [List.getElem?_toArray]
  rw [List.getElem?_append_left (by rw [List.length_map, hf]; omega), List.getElem?_map, hg, List.getD_eq_getElem?_getD, List.getElem?_eq_getElem (show i < M[k].length by omega)]
  rfl
theorem Bl.frozen (h : Bl w g M c) (i : Nat) : w.frozen? ⟨g, i, none⟩ = false := by
  obtain ⟨h6, rest, hh, hl⟩ := h
  exact blk_frozen hh i
theorem Bl.store (h : Bl w g M c) {k i : Nat} (hk : k < M.length) (hi : i < 6) (v : Int) : Bl (w.setCell ⟨g, k * 6 + i, none⟩ (.int .i64 v)) g (M.set k (M[k].set i v)) c := by
  obtain ⟨h6, rest, hh, hl⟩ := h
  refine ⟨h6.set k (by rw [List.length_set]; exact h6.at hk), rest, ?_, by simpa using hl⟩
  have hf := flat_len h6
  rw [heap_setCell_same _ g _ _ 76 _ hh, ← flat_set h6 k i v hk hi]
  congr 2
  apply Array.ext'
  simp only [Array.toList_setIfInBounds]
  rw [List.set_append_left _ _ (by rw [List.length_map, hf]; omega), List.map_set]
theorem Bl.range (h : Bl w g M c) {k : Nat} (hk : k < M.length) : w.rangeAt g (k * 6) (M[k].map (Value.int .i64)) := by
  intro j v hj
  have h6 := h.1.at hk
  have hj6 : j < 6 := by
    have := (List.getElem?_eq_some_iff.1 hj).1
    simp at this
    omega
  rw [h.cell hk hj6, ← hj, List.getElem?_map, List.getElem?_eq_getElem (show j < M[k].length by omega), List.getD_eq_getElem?_getD, List.getElem?_eq_getElem (show j < M[k].length by omega)]
  rfl
theorem Bl.there (h : Bl w g M c) {k : Nat} (hk : k < M.length) : w.there g (k * 6) 6 := fun j hj => ⟨by rw [h.cell hk hj]; rfl, h.frozen _⟩
theorem Bl.puts : ∀ (r : List Int) (i : Nat) {w : World} {M : List (List Int)} (h : Bl w g M c) {k : Nat} (hk : k < M.length), i + r.length ≤ 6 → ∃ s : List Int, s.length = 6 ∧ s.take i = M[k].take i ∧ (s.drop i).take r.length = r ∧ s.drop (i + r.length) = M[k].drop (i + r.length) ∧ Bl (w.setCells g (k * 6 + i) (r.map (Value.int .i64))) g (M.set k s) c
  | [], i, w, M, h, k, hk, _ => ⟨M[k], h.1.at hk, rfl, by simp, rfl, by
      have : M.set k M[k] = M := List.set_getElem_self hk
      rw [this]
      exact h⟩
  | v :: r, i, w, M, h, k, hk, hl => by
    have hi : i < 6 := by simp at hl; omega
    have h6 := h.1.at hk
    have hs := h.store hk hi v
    have hk' : k < (M.set k (M[k].set i v)).length := by simpa using hk
    obtain ⟨s, s1, s2, s3, s4, s5⟩ := Bl.puts r (i + 1) hs hk' (by simp at hl; omega)
    have e1 : (M.set k (M[k].set i v))[k] = M[k].set i v := by simp
    rw [e1] at s2 s4
    refine ⟨s, s1, ?_, ?_, ?_, ?_⟩
    · have := congrArg (List.take i) s2
      rw [List.take_take, List.take_take, Nat.min_eq_left (by omega)] at this
      rw [this]
      rw [List.take_set_of_le (by omega)]
    · have hv : s[i]? = some v := by
        have := congrArg (·[i]?) s2
        simp only [List.getElem?_take] at this
        rw [if_pos (by omega), if_pos (by omega)] at this
        rw [this]
        simp [show i < M[k].length by omega]
      have hd : s.drop i = v :: s.drop (i + 1) := by
        rw [List.drop_eq_getElem_cons (by omega)]
        congr 1
        rw [List.getElem?_eq_getElem (by omega)] at hv
        exact Option.some.inj hv
      rw [hd, List.length_cons, List.take_succ_cons, s3]
    · rw [List.length_cons, show i + (r.length + 1) = i + 1 + r.length by omega, s4, List.drop_set_of_lt (by omega)]
    · rw [List.map_cons, World.setCells]
      rw [List.set_set] at s5
      exact s5
theorem Bl.stores (h : Bl w g M c) {k : Nat} (hk : k < M.length) {r : List Int} (hr : r.length = 6) : Bl (w.setCells g (k * 6) (r.map (Value.int .i64))) g (M.set k r) c := by
  obtain ⟨s, s1, s2, s3, s4, s5⟩ := Bl.puts r 0 h hk (by omega)
  simp only [List.drop_zero, Nat.add_zero] at s3 s5
  have : s = r := by rw [← s3, List.take_of_length_le (by omega)]
  rw [this] at s5
  exact s5
end
def L6 (x : S76) : List Int := [x.f0, x.f1, x.f2, x.f3, x.f4, x.f5]
def mk6 (m : List Int) : S76 := ⟨m.getD 0 0, m.getD 1 0, m.getD 2 0, m.getD 3 0, m.getD 4 0, m.getD 5 0⟩
theorem L6_mk6 {m : List Int} (h : m.length = 6) : L6 (mk6 m) = m := by
  match m, h with
  | [a, b, c, d, e, f], _ => rfl
theorem six_L6 (xs : List S76) : Six (xs.map L6) := by
  intro r hr
  obtain ⟨x, _, rfl⟩ := List.mem_map.1 hr
  rfl
theorem Rd.of_C {w : World} {A : Option Addr} {n : Nat} {xs : List S76} (h : Kd.C k76 w A n xs) (hA : ∀ ad, A = some ad → ad.spot = none) : Rd w A (xs.map L6) := by
  intro hne
  have hn : 0 < n := by
    have := h.1
    cases xs with
    | nil => simp at hne
    | cons x r => simp at this; omega
  obtain ⟨ad, e, hc⟩ := h.2.2 hn
  obtain ⟨b, o, sp⟩ := ad
  have := hA _ e
  cases this
  refine ⟨b, o, e, fun k r hk => ?_⟩
  rw [List.getElem?_map] at hk
  obtain ⟨x, hx, rfl⟩ := Option.map_eq_some_iff.1 hk
  obtain ⟨cs, _, hK, hcell⟩ := hc k x hx
  obtain rfl := k76_open hK
  refine ⟨rfl, fun j v hj => ?_⟩
  have h1 := hcell j v hj
  rw [Addr.add_mid] at h1
  rw [Nat.add_assoc]
  exact h1
theorem reps76 {W : World} {base : Nat} {ok : Nat → Prop} : ∀ {xs : List S76} {inner : List Value}, Reps (k76.M W base ok) 6 xs inner → inner = (xs.map L6).flatten.map (Value.int .i64)
  | [], inner, h => List.eq_nil_of_length_eq_zero (by simpa using h.1)
  | x :: r, inner, h => by
    have hl := h.1
    have h2 := k76_openM (h.2 0 x rfl)
    simp only [Nat.zero_mul, List.drop_zero] at h2
    have h3 := reps76 (xs := r) (inner := inner.drop 6) ⟨by simp at hl ⊢; omega, fun j p hj => by
      have := h.2 (j + 1) p (by simpa using hj)
      rw [List.drop_drop, show 6 + j * 6 = (j + 1) * 6 by omega]
      exact this⟩
    rw [← List.take_append_drop 6 inner, h2, h3]
    rfl
theorem Bl.of_R {w : World} {base : Nat} {ok : Nat → Prop} {v : Value} {xs : List S76} (h : Kd.R k76 76 w base ok v xs) : (v = .slice none 0 0 ∧ xs = []) ∨ ∃ g c, v = .slice (some ⟨g, 0, none⟩) xs.length c ∧ base ≤ g ∧ ok g ∧ Bl w g (xs.map L6) c ∧ xs.length ≤ c ∧ c ≤ maxLen := by
  obtain ⟨h0, inner, ⟨hl, ho⟩, hr⟩ := h
  rcases ho with ⟨rfl, hn⟩ | ⟨g, cap, cur, rfl, hg, hh, hc, hm, hs, ht⟩
  · exact .inl ⟨rfl, List.eq_nil_of_length_eq_zero hn⟩
  · refine .inr ⟨g, cap, rfl, hg, h0 g rfl, ⟨six_L6 xs, cur.toList.drop (xs.length * 6), ?_, ?_⟩, hc, hm⟩
    · have hin : inner = (xs.map L6).flatten.map (Value.int .i64) := reps76 hr
      rw [hh, ← hin, ← ht, show k76.sz = 6 from rfl, List.take_append_drop]
    · have : cur.toList.length = cap * 6 := by rw [Array.length_toList]; exact hs
      simp [this]
      omega
theorem Bl.R {w : World} {g c base n : Nat} {ok : Nat → Prop} {M : List (List Int)} (h : Bl w g M c) (hb : base ≤ g) (hok : ok g) (hn : n ≤ M.length) (hc : c ≤ maxLen) : Kd.R k76 76 w base ok (.slice (some ⟨g, 0, none⟩) n c) ((M.take n).map mk6) := by
  obtain ⟨h6, rest, hh, hl⟩ := h
  have h6t : Six (M.take n) := fun r hr => h6 r (List.mem_of_mem_take hr)
  have hlen : ((M.take n).map mk6).length = n := by simp; omega
  have hfl : (M.take n).flatten.length = n * 6 := by rw [flat_len h6t]; simp; omega
  refine ⟨fun k hk => ?_, (M.take n).flatten.map (Value.int .i64), ⟨?_, .inr ⟨g, c, _, ?_, hb, hh, ?_, hc, ?_, ?_⟩⟩, ?_, ?_⟩
  · simp [Value.ownBlock] at hk
    subst hk
    exact hok
  · rw [List.length_map, hfl, hlen]; rfl
  · rw [hlen]
  · rw [hlen]; omega
  · show (M.flatten.map (Value.int .i64) ++ rest).length = c * 6
    rw [List.length_append, List.length_map, flat_len h6]
    exact hl
  · rw [hlen, show k76.sz = 6 from rfl]
    have : M.flatten = (M.take n).flatten ++ (M.drop n).flatten := by rw [← List.flatten_append, List.take_append_drop]
    show List.take (n * 6) (M.flatten.map (Value.int .i64) ++ rest) = _
    rw [this, List.map_append, List.append_assoc, List.take_append_of_le_length (by rw [List.length_map, hfl]; omega), List.take_of_length_le (by rw [List.length_map, hfl]; omega)]
  · rw [List.length_map, hfl, hlen]; rfl
  · intro j p hj
    rw [List.getElem?_map] at hj
    obtain ⟨r, hr, rfl⟩ := Option.map_eq_some_iff.1 hj
    obtain ⟨hjl, hje⟩ := List.getElem?_eq_some_iff.1 hr
    have hr6 : r.length = 6 := h6t r (hje ▸ List.getElem_mem hjl)
    have he : (((M.take n).flatten.map (Value.int .i64)).drop (j * 6)).take 6 = (L6 (mk6 r)).map (Value.int .i64) := by
      rw [L6_mk6 hr6]
      apply List.ext_getElem?
      intro i
      rw [List.getElem?_take]
      split
      · rename_i hi
        rw [List.getElem?_drop, List.getElem?_map, List.getElem?_map, flat_get h6t j i hjl hi, hje]
      · rw [List.getElem?_eq_none (by simp; omega)]
    show k76.M _ _ _ _ _
    rw [show k76.sz = 6 from rfl, he]
    exact k76_mkM _ _ _ _
end Go.Proofs.Ytdneelgnmnpanaa.P
end
section
namespace Go.Proofs.Ytdneelgnmnpanaa.P
open Go.RowKit Go.Proofs.YtdneelgnmnpanaaW.PrintWords Go.Proofs.YtdneelgnmnpanaaW.PrintLast Go.Proofs.YtdneelgnmnpanaaW.PrintMore
set_option linter.unusedVariables false
set_option linter.unusedSimpArgs false
def pad (l : List Int) : List Int := l ++ List.replicate (6 - l.length) 0
theorem pad_length {l : List Int} (h : l.length ≤ 6) : (pad l).length = 6 := by simp [pad]; omega
theorem pad_set {l : List Int} (v : Int) (h : l.length < 6) : (pad l).set l.length v = pad (l ++ [v]) := by
 unfold pad
 rw [List.set_append_right _ _ (Nat.le_refl _), Nat.sub_self, show 6 - l.length = (6 - (l ++ [v]).length) + 1 by simp; omega, List.replicate_succ, List.set_cons_zero, List.append_assoc]
 rfl
def lineOf (l0 l1 : List (List Int)) (k : Nat) : List Int := pad (l0.map (·.getD k 0) ++ l1.map (fun c => wrap64 (-(c.getD k 0))))
def strike_lines.f (l0 l1 : List (List Int)) : Option (List S76) :=
 if 0 < l0.length ∧ l0.length + l1.length ≤ 6 ∧ (0 < (rd_L1 l0 0).length ∧ (rd_L1 l0 0).length ≤ 4) ∧ ∀ r ∈ l0 ++ l1, (rd_L1 l0 0).length ≤ r.length then some ((List.range (rd_L1 l0 0).length).map fun k => mk6 (lineOf l0 l1 k)) else none
def Made (f : Nat → List Int) (n k : Nat) (row : List Int) (M : List (List Int)) : Prop := M.length = n ∧ ∀ q, q < n → M[q]? = some (if q < k then f q else if q = k then row else pad [])
theorem Made.at {f : Nat → List Int} {n k : Nat} {row : List Int} {M : List (List Int)} (h : Made f n k row M) (hk : k < n) : ∃ hk' : k < M.length, M[k] = row := by
 have hk' : k < M.length := by rw [h.1]; exact hk
 have := h.2 k hk
 rw [List.getElem?_eq_getElem hk', if_neg (by omega), if_pos rfl] at this
 exact ⟨hk', Option.some.inj this⟩
theorem Made.set {f : Nat → List Int} {n k : Nat} {row : List Int} {M : List (List Int)} (h : Made f n k row M) (row' : List Int) : Made f n k row' (M.set k row') := by
 refine ⟨by simpa using h.1, fun q hq => ?_⟩
 have := h.2 q hq
 have hq' : q < M.length := by rw [h.1]; exact hq
 by_cases e : k = q
 ·
  subst e
  simp [hq']
 ·
  rw [List.getElem?_set_ne e, this]
  rw [if_neg (show ¬ q = k by omega), if_neg (show ¬ q = k by omega)]
theorem Made.next {f : Nat → List Int} {n k : Nat} {M : List (List Int)} (h : Made f n k (f k) M) : Made f n (k + 1) (pad []) M := by
 refine ⟨h.1, fun q hq => ?_⟩
 rw [h.2 q hq]
 by_cases e : q < k
 ·
  rw [if_pos e, if_pos (by omega)]
 ·
  by_cases e2 : q = k
  ·
   subst e2
   rw [if_neg e, if_pos rfl, if_pos (by omega)]
  ·
   rw [if_neg e, if_neg e2, if_neg (by omega)]
   split <;> rfl
theorem Made.all {f : Nat → List Int} {n : Nat} {row : List Int} {M : List (List Int)} (h : Made f n n row M) : M = (List.range n).map f := by
 apply List.ext_getElem?
 intro q
 by_cases hq : q < n
 ·
  rw [h.2 q hq, if_pos hq]
  simp [hq]
 ·
  rw [List.getElem?_eq_none (by rw [h.1]; omega), List.getElem?_eq_none (by simp; omega)]
theorem addr_zero (ad : Addr) : ad.add 0 = ad := by
 cases ad
 unfold Addr.add
 split <;> simp_all
set_option maxHeartbeats 4000000 in
set_option maxRecDepth 100000 in
theorem strike_lines.calls (A0 : Option Addr) (c0 : Nat) (l0 : List (List Int)) (A1 : Option Addr) (c1 : Nat) (l1 : List (List Int)) (r : List S76) (w : World) (hr0 : Kd.C (Kd.slice 3 (Kd.int .i64)) w A0 l0.length l0) (hc0 : l0.length ≤ c0) (hr1 : Kd.C (Kd.slice 3 (Kd.int .i64)) w A1 l1.length l1) (hc1 : l1.length ≤ c1) (h : strike_lines.f l0 l1 = some r) :
  Calls Try.prog 73 #[.agg #[.slice A0 l0.length c0, .slice A1 l1.length c1]] w fun e w' => ∃ v0_ : Value, e = .returned (v0_) ∧ Kd.R k76 76 w' w.heap.size (fun _ => True) v0_ r ∧ Below w.heap.size w w' := by
 unfold strike_lines.f at h
 split at h
 case isFalse => cases h
 rename_i hcond
 obtain ⟨z0, z1, z2, z3⟩ := hcond
 obtain rfl := Option.some.inj h
 clear h
 have hu24 := Try.underlying24
 have hu76 := Try.underlying76
 have hu65 := Try.underlying65
 have hu28 := Try.underlying28
 have hu22 := Try.underlying22
 have HR0 := Aside0.mk hr0
 have HC0 := Aside0.mk hc0
 have HR1 := Aside0.mk hr1
 have HC1 := Aside0.mk hc1
 have HZ3 := Aside0.mk z3
 obtain ⟨ad, Aq, cq, eq, hxq, hlq, hiq⟩ := at_L1 hr0 0 (by omega) (by omega)
 cases eq
 rw [show (0 : Int).toNat = 0 from rfl, addr_zero] at hxq
 obtain ⟨n, hn⟩ : ∃ n, n = (rd_L1 l0 0).length := ⟨_, rfl⟩
 rw [← hn] at hxq hlq z2 HZ3
 have HN := Aside0.mk hn
 have HXQ := Aside0.mk hxq
 clear hr0 hc0 hr1 hc1 z3 hiq
 have HB := Aside0.mk (Below.refl w.heap.size w)
 rw [← hn]
 clear hn hxq
 have q0 : (0 : Int) < (l0.length : Int) := by omega
 go_enter Try.func73, Try.ntmps73
 go_wp2_with (first
  | ((with_reducible refine gate_dst (N := 1) rfl ?_); refine box_event ?hg (N := 1) ?hd (cs := #[.slice (some ad) l0.length c0, .slice A1 l1.length c1]) (t := 24) ?hr ?_; (case hd => rfl); (case hg => rfl); (case hr => first | (go_simp; done) | (go_simp; rfl)); intro gb hgb w7 hbox hb; have HGB := Aside0.mk hgb; have BK := Aside0.mk hbox; have HBOX := Aside0.mk hbox; have hcz0 : w7.cell? ⟨gb, 0, none⟩ = some (.slice (some ad) l0.length c0) := (blk_cell BK.out 0).trans rfl; have hcz1 : w7.cell? ⟨gb, 1, none⟩ = some (.slice A1 l1.length c1) := (blk_cell BK.out 1).trans rfl; have hxq := (hb.cell (World.block_lt_of_cell? w _ HXQ.out)).trans HXQ.out; have n0_ := Aside0.mk (below_step HB.out hb); have HB7 := Aside0.mk hb; clear HB; have HB := n0_; clear n0_ hgb hbox hb)
  | ((with_reducible refine gate_dst (N := 14) rfl ?_); refine Kd.R_make k76 _ 76 rfl (N := 14) rfl 65 _ _ rfl (n : Int) rfl rfl Try.underlying65 (.agg #[(.int .i64 0), (.int .i64 0), (.int .i64 0), (.int .i64 0), (.int .i64 0), (.int .i64 0)]) 48 info76 rfl (by decide) (by omega) z76 (ok := fun _ => True) (okp := fun _ => True) (k76_mkM _ _ _ z76) (fun _ hk => hk) trivial (by omega) (by simp only [Int.toNat_natCast]; omega) (Below.refl _ _) (Nat.le_refl _) ?_; intro v14 w14 ho hb hgr hat; obtain ⟨g, c, hv, hgw, -, hbl, hlc, hcm⟩ := (Bl.of_R ho).resolve_left (fun hh => absurd (congrArg List.length hh.2) (by rw [List.length_replicate, List.length_nil, Int.toNat_natCast]; omega)); rw [List.length_replicate, Int.toNat_natCast] at hv hlc; subst hv; have HBL := Aside0.mk hbl; have HCM := Aside0.mk hcm; have HGW := Aside0.mk hgw; have BK14 := Aside0.mk (blk_below BK.out hb); have n0_ := Aside0.mk (below_step HB.out hb); clear HB BK hbl hcm hgw; have HB := n0_; have BK := BK14; clear n0_ BK14 ho hb hgr hat))
 have HB0 := Aside0.mk (show w.heap.size ≤ w7.heap.size from HB7.out.size)
 have HGG := Aside0.mk (show gb ≠ g by
  have h1 := HGW.out
  have h2 := (Array.getElem?_eq_some_iff.1 HBOX.out).1
  omega)
 have HM := Aside0.mk (show Made (lineOf l0 l1) n 0 (pad []) ((List.replicate (n : Int).toNat z76).map L6) from ⟨by simp, fun q hq => by
  rw [List.map_replicate, Int.toNat_natCast, List.getElem?_replicate, if_pos hq, if_neg (by omega)]
  split <;> rfl⟩)
 generalize (List.replicate (n : Int).toNat z76).map L6 = M at HM HBL
 go_loopw [17] (fun k_ w' => ∃ (k : Nat) (M : List (List Int)), k ≤ n ∧ k_ = .int .i64 k ∧ Aside0 (Made (lineOf l0 l1) n k (pad []) M) ∧ Aside0 (Bl w' g M c) ∧ Aside0 (w'.heap[gb]? = some (.cells #[.slice (some ad) l0.length c0, .slice A1 l1.length c1] 24 (0, 0))) ∧ Aside0 (Below w.heap.size w w')) (fun k_ _ => n - (intOf k_).toNat)
 case atStart => exact ⟨0, M, Nat.zero_le _, rfl, HM, HBL, BK, HB⟩
 case round =>
  clear HM HBL BK HB M
  obtain ⟨k, M, hk, rfl, HM, HBL, BK, HB⟩ := hrel
  have hcz0 : wr.cell? ⟨gb, 0, none⟩ = some (.slice (some ad) l0.length c0) := (blk_cell BK.out 0).trans rfl
  have hcz1 : wr.cell? ⟨gb, 1, none⟩ = some (.slice A1 l1.length c1) := (blk_cell BK.out 1).trans rfl
  by_cases hkn : k < n
  ·
   go_wp2_with fail
   clear hcz0 hcz1
   have HM1 := Aside0.mk (show Made (lineOf l0 l1) n k (pad ((l0.take 0).map (·.getD k 0))) M from HM.out)
   clear HM
   go_loopw [23] (fun i_ w' => ∃ (i : Nat) (M : List (List Int)), i ≤ l0.length ∧ i_ = .int .i64 i ∧ Aside0 (Made (lineOf l0 l1) n k (pad ((l0.take i).map (·.getD k 0))) M) ∧ Aside0 (Bl w' g M c) ∧ Aside0 (w'.heap[gb]? = some (.cells #[.slice (some ad) l0.length c0, .slice A1 l1.length c1] 24 (0, 0))) ∧ Aside0 (Below w.heap.size w w')) (fun i_ _ => l0.length - (intOf i_).toNat)
   case atStart => exact ⟨0, M, Nat.zero_le _, rfl, HM1, HBL, BK, HB⟩
   case round =>
    clear HM1 HBL BK HB M
    obtain ⟨i, M, hi, rfl, HM, HBL, BK, HB⟩ := hrel
    by_cases hil : i < l0.length
    ·
     obtain ⟨ad1, A2, c2, e1, hx1, hl1, hi1⟩ := at_L1 HR0.out (i : Int) (by omega) (by omega)
     cases e1
     replace hx1 := (HB.out.cell (World.block_lt_of_cell? w _ hx1)).trans hx1
     have hge := HZ3.out (rd_L1 l0 (i : Int)) (List.mem_append_left _ (by simp only [rd_L1, Int.toNat_natCast]; rw [rowD _ _ hil]; exact List.getElem_mem hil))
     obtain ⟨ad2, e2, hx2⟩ := Kd.at_int hi1 (k : Int) (by omega) (by omega)
     subst e2
     replace hx2 := (HB.out.cell (World.block_lt_of_cell? w _ hx2)).trans hx2
     simp only [Int.toNat_natCast] at hx1 hx2
     obtain ⟨hkM, hrow⟩ := HM.out.at hkn
     have hi6 : i < 6 := by omega
     have hf := HBL.out.frozen (k * 6 + i)
     have hc := HBL.out.cell hkM hi6
     have hlt : (k : Int) < ((rd_L1 l0 (i : Int)).length : Int) := by omega
     clear hl1 hi1
     generalize M[k].getD i 0 = old at hc
     obtain ⟨x, hxe⟩ : ∃ x, x = rd (rd_L1 l0 (i : Int)) (k : Int) := ⟨_, rfl⟩
     rw [← hxe] at hx2
     have hx3 : x = (l0[i]).getD k 0 := by rw [hxe]; simp only [rd, rd_L1, Int.toNat_natCast]; rw [rowD _ _ hil]
     have HROW := Aside0.mk (show pad ((l0.take (i + 1)).map (·.getD k 0)) = M[k].set i x by
      rw [hrow, List.take_succ_eq_append_getElem hil, List.map_append, hx3]
      have := pad_set (l := (l0.take i).map (·.getD k 0)) ((l0[i]).getD k 0) (by simp; omega)
      rw [show ((l0.take i).map (·.getD k 0)).length = i by simp; omega] at this
      exact this.symm)
     have HKM := Aside0.mk hkM
     clear hxe hx3 hrow hge
     go_wp2_with fail
     go_region
     go_wp2_with fail
     go_roundw
     case rel => exact ⟨i + 1, M.set k (M[k].set i x), by omega, by go_num, ⟨by rw [HROW.out]; exact HM.out.set _⟩, ⟨HBL.out.store HKM.out hi6 x⟩, ⟨(heap_setCell_other _ _ _ _ HGG.out).trans BK.out⟩, ⟨(HB.out.setCell (Nat.le_trans HB0.out HGW.out) _).drew⟩⟩
     case measure => simp [intOf]; omega
    ·
     obtain rfl : i = l0.length := by omega
     have HM2 := Aside0.mk (show Made (lineOf l0 l1) n k (pad (l0.map (·.getD k 0) ++ (l1.take 0).map (fun c => wrap64 (-(c.getD k 0))))) M by
      have := HM.out
      rw [List.take_length] at this
      simpa using this)
     have hcz0 : wr.cell? ⟨gb, 0, none⟩ = some (.slice (some ad) l0.length c0) := (blk_cell BK.out 0).trans rfl
     have hcz1 : wr.cell? ⟨gb, 1, none⟩ = some (.slice A1 l1.length c1) := (blk_cell BK.out 1).trans rfl
     clear HM
     go_wp2_with fail
     clear hcz0 hcz1
     go_loopw [41] (fun i_ w' => ∃ (i : Nat) (M : List (List Int)), i ≤ l1.length ∧ i_ = .int .i64 i ∧ Aside0 (Made (lineOf l0 l1) n k (pad (l0.map (·.getD k 0) ++ (l1.take i).map (fun c => wrap64 (-(c.getD k 0))))) M) ∧ Aside0 (Bl w' g M c) ∧ Aside0 (w'.heap[gb]? = some (.cells #[.slice (some ad) l0.length c0, .slice A1 l1.length c1] 24 (0, 0))) ∧ Aside0 (Below w.heap.size w w')) (fun i_ _ => l1.length - (intOf i_).toNat)
     case atStart => exact ⟨0, M, Nat.zero_le _, rfl, HM2, HBL, BK, HB⟩
     case round =>
      clear HM2 HBL BK HB M
      obtain ⟨i, M, hi, rfl, HM, HBL, BK, HB⟩ := hrel
      have hcz0 : wr.cell? ⟨gb, 0, none⟩ = some (.slice (some ad) l0.length c0) := (blk_cell BK.out 0).trans rfl
      by_cases hil : i < l1.length
      ·
       obtain ⟨ad1, A2, c2, e1, hx1, hl1, hi1⟩ := at_L1 HR1.out (i : Int) (by omega) (by omega)
       subst e1
       replace hx1 := (HB.out.cell (World.block_lt_of_cell? w _ hx1)).trans hx1
       have hge := HZ3.out (rd_L1 l1 (i : Int)) (List.mem_append_right _ (by simp only [rd_L1, Int.toNat_natCast]; rw [rowD _ _ hil]; exact List.getElem_mem hil))
       obtain ⟨ad2, e2, hx2⟩ := Kd.at_int hi1 (k : Int) (by omega) (by omega)
       subst e2
       replace hx2 := (HB.out.cell (World.block_lt_of_cell? w _ hx2)).trans hx2
       simp only [Int.toNat_natCast] at hx1 hx2
       obtain ⟨hkM, hrow⟩ := HM.out.at hkn
       have hi6 : l0.length + i < 6 := by omega
       have hf := HBL.out.frozen (k * 6 + (l0.length + i))
       have hc := HBL.out.cell hkM hi6
       have hlt : (k : Int) < ((rd_L1 l1 (i : Int)).length : Int) := by omega
       clear hl1 hi1
       generalize M[k].getD (l0.length + i) 0 = old at hc
       obtain ⟨x, hxe⟩ : ∃ x, x = rd (rd_L1 l1 (i : Int)) (k : Int) := ⟨_, rfl⟩
       rw [← hxe] at hx2
       have hx3 : x = (l1[i]).getD k 0 := by rw [hxe]; simp only [rd, rd_L1, Int.toNat_natCast]; rw [rowD _ _ hil]
       have HROW := Aside0.mk (show pad (l0.map (·.getD k 0) ++ (l1.take (i + 1)).map (fun c => wrap64 (-(c.getD k 0)))) = M[k].set (l0.length + i) (wrap64 (-x)) by
        rw [hrow, List.take_succ_eq_append_getElem hil, List.map_append, hx3]
        have := pad_set (l := l0.map (·.getD k 0) ++ (l1.take i).map (fun c => wrap64 (-(c.getD k 0)))) (wrap64 (-((l1[i]).getD k 0))) (by simp; omega)
        rw [show (l0.map (·.getD k 0) ++ (l1.take i).map (fun c => wrap64 (-(c.getD k 0)))).length = l0.length + i by simp; omega] at this
        rw [this, List.append_assoc]
        rfl)
       have HKM := Aside0.mk hkM
       clear hxe hx3 hrow hge
       go_wp2_with fail
       go_region
       go_wp2_with fail
       go_roundw
       case rel => exact ⟨i + 1, M.set k (M[k].set (l0.length + i) (wrap64 (-x))), by omega, by go_num, ⟨by rw [HROW.out]; exact HM.out.set _⟩, ⟨HBL.out.store HKM.out hi6 _⟩, ⟨(heap_setCell_other _ _ _ _ HGG.out).trans BK.out⟩, ⟨(HB.out.setCell (Nat.le_trans HB0.out HGW.out) _).drew⟩⟩
       case measure => simp [intOf]; omega
      ·
       obtain rfl : i = l1.length := by omega
       have HM3 := Aside0.mk (show Made (lineOf l0 l1) n (k + 1) (pad []) M from (by
        have := HM.out
        rw [List.take_length] at this
        exact this.next))
       go_wp2_with fail
       go_roundw
       case rel => exact ⟨k + 1, M, by omega, by go_num, HM3, HBL, BK, HB⟩
       case measure => simp [intOf]; omega
  ·
   obtain rfl : k = n := by omega
   have hall := HM.out.all
   go_wp2_with fail
   go_ret
   refine ⟨_, rfl, ?_, HB.out⟩
   have hR := HBL.out.R (base := w.heap.size) (ok := fun _ => True) (n := k) (Nat.le_trans HB0.out HGW.out) trivial (by rw [HM.out.1]; exact Nat.le_refl _) HCM.out
   rw [List.take_of_length_le (by rw [HM.out.1]; exact Nat.le_refl _), hall, List.map_map] at hR
   exact hR
end Go.Proofs.Ytdneelgnmnpanaa.P
end
section
namespace Go.Proofs.Ytdneelgnmnpanaa.P
open Go.RowKit Go.Proofs.YtdneelgnmnpanaaW.PrintWords Go.Proofs.YtdneelgnmnpanaaW.PrintLast Go.Proofs.YtdneelgnmnpanaaW.PrintMore
set_option linter.unusedVariables false
set_option linter.unusedSimpArgs false
theorem wrp {x : Int} (h0 : -9223372036854775808 ≤ x) (h1 : x ≤ 9223372036854775807) : wrap64 x = x := by
  unfold wrap64
  omega
def Lim (x : Int) : Prop := x.natAbs ≤ 4611686018427387904
theorem divisor_gcd : ∀ (n : Nat) (a b : Int), b.natAbs < n → Lim a → Lim b → ∃ k, strike_divisor.f k a b = some (Int.gcd a b : Int)
  | 0, _, _, h, _, _ => by omega
  | n + 1, a, b, h, ha, hb => by
    unfold Lim at ha hb
    by_cases h0 : b = 0
    · subst h0
      refine ⟨1, ?_⟩
      unfold strike_divisor.f strike_divisor.l0
      rw [if_pos rfl, wrp (by omega) (by omega)]
      have : (Int.gcd a 0 : Int) = a.natAbs := by simp
      rw [this]
      unfold mx
      congr 1
      split <;> omega
    · have h1 : (Int.tmod a b).natAbs = a.natAbs % b.natAbs := Int.natAbs_tmod a b
      have h2 : a.natAbs % b.natAbs < b.natAbs := Nat.mod_lt _ (by omega)
      obtain ⟨k, hk⟩ := divisor_gcd n b (Int.tmod a b) (by omega) (by unfold Lim; omega) (by unfold Lim; omega)
      refine ⟨k + 1, ?_⟩
      unfold strike_divisor.f strike_divisor.l0
      rw [if_neg h0]
      refine Eq.trans hk ?_
      congr 2
      show Nat.gcd b.natAbs (Int.tmod a b).natAbs = Nat.gcd a.natAbs b.natAbs
      rw [h1, Nat.gcd_comm a.natAbs, Nat.gcd_comm b.natAbs, ← Nat.gcd_rec]
theorem divisor_calls (a b : Int) (ha : Lim a) (hb : Lim b) (w : World) : Calls Try.prog 117 #[.int .i64 a, .int .i64 b] w fun e w' => e = .returned (.int .i64 (Int.gcd a b : Int)) ∧ Below w.heap.size w w' := by
  obtain ⟨k, hk⟩ := divisor_gcd (b.natAbs + 1) a b (by omega) ha hb
  exact strike_divisor.calls k a b _ w hk
def gc (m : List Int) : Nat := m.foldl (fun d n => Int.gcd d n) 0
def pln (m : List Int) : List Int := if 1 < gc m then m.map (·.tdiv (gc m)) else m
theorem gcd_lim {d x : Int} (hd : Lim d) (hx : Lim x) : Lim (Int.gcd d x : Int) := by
  unfold Lim at *
  by_cases h : x = 0
  · subst h
    simp
    omega
  · have := Nat.gcd_le_right d.natAbs (show 0 < x.natAbs by omega)
    show ((Nat.gcd d.natAbs x.natAbs : Nat) : Int).natAbs ≤ _
    omega
theorem gc_lim : ∀ (m : List Int) (d : Nat), Lim d → (∀ x ∈ m, Lim x) → Lim (m.foldl (fun d n => Int.gcd d n) d : Nat)
  | [], d, hd, _ => hd
  | x :: m, d, hd, h => gc_lim m _ (gcd_lim hd (h x (List.mem_cons_self ..))) (fun y hy => h y (List.mem_cons_of_mem _ hy))
theorem lim0 : Lim (0 : Nat) := by unfold Lim; decide
theorem gc_take (m : List Int) (i : Nat) (hi : i < m.length) : gc (m.take (i + 1)) = Int.gcd (gc (m.take i)) m[i] := by
  rw [List.take_succ_eq_append_getElem hi]
  unfold gc
  rw [List.foldl_append]
  rfl
theorem run_index_arr (t e : TypeId) (m : List Int) (i : Nat) (h : Try.prog.underlying t = some (.array m.length e)) (he : Try.prog.plainKey e = true) (hs : (Try.prog.info? e).map (·.size) = some 1) (hi : i < m.length) (w : World) :
    (Instr.index t (.agg (arr m)) (.int .i64 (i : Int))).run Try.prog w = .ok (.int .i64 (m.getD i 0)) w := by
  have hsz : (sizeOf e).run Try.prog w = .ok 1 w := by
    cases hq : Try.prog.info? e with
    | none => simp [hq] at hs
    | some j =>
      have : j.size = 1 := by simpa [hq] using hs
      simp [sizeOf, typeInfo, hq, this]
  have hp := run_part_plain (P := Try.prog) w he (xs := arr m) (off := i) (arr_get m i hi)
  simp only [Instr.index, run_underlying h, asIntOf, hi, hsz, Sem.run_bind, Sem.run_pure, Result.andThen, Int.natCast_nonneg, Int.ofNat_lt, and_self, if_true, Int.toNat_natCast, Nat.mul_one]
  exact hp
def zeros6 : List Int := List.replicate 6 0
theorem info76z : (Try.prog.info? 76).map (fun i => (i.zero, i.size)) = some (some (.agg (arr zeros6)), 6) := by kernel_rfl
theorem below_setRow {B : Nat} {w0 w : World} (h : Below B w0 w) {g : Nat} (hg : B ≤ g) (cs : Array Value) : Below B w0 (w.setRow g cs) :=
  ⟨h.os, h.tape, h.output, by simpa using h.size, fun i hi => (setRow_other w g i cs (by omega)).trans (h.block i hi)⟩
set_option maxHeartbeats 2000000 in
set_option maxRecDepth 100000 in
theorem plain_calls (m : List Int) (w : World) (hm : m.length = 6) (hl : ∀ x ∈ m, Lim x) :
    Calls Try.prog 118 #[.agg (arr m)] w fun e w' => e = .returned (.agg (arr (pln m))) ∧ Below w.heap.size w w' := by
  have hu76 := Try.underlying76
  obtain ⟨hz76, hs76⟩ := zero_of_info info76z
  have HI0 := Aside0.mk (show (Try.prog.info? 76).map (·.size) = some (arr m).size by rw [arr_size, hm]; exact hs76)
  have HML := Aside0.mk hm
  have HL := Aside0.mk hl
  have HIX := Aside0.mk (fun (n : Nat) (hn : n < 6) (W : World) => run_index_arr 76 3 m n (by rw [hm]; exact Try.underlying76) (by kernel_rfl) (by kernel_rfl) (by omega) W)
  clear hm hl
  have HB := Aside0.mk (Below.refl w.heap.size w)
  go_enter Try.func118, Try.ntmps118
  go_wp2_with (first
    | ((with_reducible refine gate_dst (N := 1) rfl ?_); refine box_event ?hg (N := 1) ?hd (cs := arr m) (t := 76) ?hr ?_; (case hd => rfl); (case hg => rfl); (case hr => first | (go_simp; done) | (go_simp; rfl)); intro gb hgb w7 hbox hb; have HGB := Aside0.mk (show w.heap.size ≤ gb by omega); have BK := Aside0.mk hbox; have n0_ := Aside0.mk (below_step HB.out hb); have HB7 := Aside0.mk hb; clear HB; have HB := n0_; clear n0_ hgb hbox hb)
    | (refine wpList_load_row rfl 76 _ rfl gb rfl 76 (arr m) (0, 0) _ (blk_alloc BK.out _) Try.underlying76 rfl HI0.out ?_))
  have HG2 := Aside0.mk (heap_alloc_last w7 (.cells (arr zeros6) 76))
  have BK2 := Aside0.mk (blk_alloc BK.out (.cells (arr zeros6) 76))
  have HNE := Aside0.mk (show gb ≠ w7.heap.size from fun e => by have := blk_lt BK.out; omega)
  have HB2 := Aside0.mk (show Below w.heap.size w (w7.alloc (.cells (arr zeros6) 76)) from HB.out.alloc HB7.out.size _)
  have HG2W := Aside0.mk (show w.heap.size ≤ w7.heap.size from HB7.out.size)
  clear HB BK
  generalize w7.heap.size = g2 at *
  go_loopw [3, 8] (fun d_ i_ w' => ∃ i : Nat, i ≤ 6 ∧ i_ = .int .i64 i ∧ d_ = .int .i64 (gc (m.take i) : Int) ∧ Aside0 (w'.heap[gb]? = some (.cells (arr m) 76 (0, 0))) ∧ Aside0 (w'.heap[g2]? = some (.cells (arr zeros6) 76 (0, 0))) ∧ Aside0 (Below w.heap.size w w')) (fun _ i_ _ => 6 - (intOf i_).toNat)
  case atStart => exact ⟨0, by omega, rfl, rfl, BK2, HG2, HB2⟩
  case round =>
    clear BK2 HG2 HB2
    obtain ⟨i, hi, rfl, rfl, BK, HG2, HB⟩ := hrel
    by_cases hlt : i < 6
    · have hix := HIX.out i hlt
      have him : i < m.length := by rw [HML.out]; exact hlt
      have hgd : m.getD i 0 = m[i] := by rw [List.getD_eq_getElem?_getD, List.getElem?_eq_getElem him]; rfl
      rw [hgd] at hix
      have HGT := Aside0.mk (gc_take m i him)
      have HDV := Aside0.mk (fun W => divisor_calls (gc (m.take i) : Int) m[i] (gc_lim (m.take i) 0 lim0 (fun x hx => HL.out x (List.mem_of_mem_take hx))) (HL.out _ (List.getElem_mem him)) W)
      clear hgd
      generalize m[i] = x at *
      go_wp2_with (first
        | ((with_reducible refine gate_callee (f := 117) rfl ?_); refine goesL_ (some 13) rfl rfl Try.func117 (by kernel_rfl) rfl #[.int .i64 (gc (m.take i) : Int), .int .i64 x] rfl (by (try simp only [List.map_toArray, List.map_cons, List.map_nil]); first | done | rfl) ?_; (with_reducible refine (HDV.out _).mono ?_); rintro e w9 ⟨rfl, hb⟩; refine ⟨_, rfl, ?_⟩; have n0_ := Aside0.mk (below_step (by repeat (first | (with_reducible first | exact HB.out | apply below_alloc | apply pw_below_drewN | apply below_drew1) | exact HB.out)) hb); have n1_ := Aside0.mk (blk_below BK.out hb); have n2_ := Aside0.mk (blk_below HG2.out hb); clear HB BK HG2; have HB := n0_; have BK := n1_; have HG2 := n2_; clear n0_ n1_ n2_ hb))
      go_roundw
      case rel => exact ⟨i + 1, by omega, by go_num, by rw [HGT.out], BK, HG2, HB⟩
      case measure => simp [intOf]; omega
    · obtain rfl : i = 6 := by omega
      have he : gc (m.take 6) = gc m := by rw [List.take_of_length_le (by rw [HML.out]; exact Nat.le_refl _)]
      rw [he]
      have hgl := gc_lim m 0 lim0 HL.out
      obtain ⟨d, hd⟩ : ∃ d, d = gc m := ⟨_, rfl⟩
      have HD := Aside0.mk hd
      have hgl2 : d ≤ 4611686018427387904 := by rw [hd]; exact hgl
      rw [← hd]
      clear he hgl hd HIX
      by_cases h1 : 1 < d
      · have c1 : decide ((1 : Int) < (d : Int)) = true := decide_eq_true (by omega)
        go_wp2_with fail
        go_loopw [17] (fun i_ w' => ∃ (i : Nat) (q : List Int), i ≤ 6 ∧ i_ = .int .i64 i ∧ Aside0 (q = (m.take i).map (·.tdiv d) ++ m.drop i) ∧ Aside0 (w'.heap[gb]? = some (.cells (arr q) 76 (0, 0))) ∧ Aside0 (w'.heap[g2]? = some (.cells (arr zeros6) 76 (0, 0))) ∧ Aside0 (Below w.heap.size w w')) (fun i_ _ => 6 - (intOf i_).toNat)
        case atStart => exact ⟨0, m, by omega, rfl, ⟨by simp⟩, BK, HG2, HB⟩
        case round =>
          clear BK HG2 HB
          obtain ⟨i, q, hi, rfl, HQ, BK, HG2, HB⟩ := hrel
          have hql : q.length = 6 := by rw [HQ.out]; simp [HML.out]; omega
          by_cases hlt : i < 6
          · have him : i < m.length := by rw [HML.out]; exact hlt
            have hqi : q.getD i 0 = m[i] := by
              rw [HQ.out, List.getD_eq_getElem?_getD, List.getElem?_append_right (by simp; omega), List.length_map, List.length_take, Nat.min_eq_left (by omega), Nat.sub_self, List.getElem?_drop, Nat.add_zero, List.getElem?_eq_getElem him]
              rfl
            have hset : q.set i (m[i].tdiv d) = (m.take (i + 1)).map (·.tdiv d) ++ m.drop (i + 1) := by
              rw [HQ.out, List.set_append_right _ _ (by simp; omega), List.length_map, List.length_take, Nat.min_eq_left (by omega), Nat.sub_self, List.drop_eq_getElem_cons him, List.set_cons_zero, List.take_succ_eq_append_getElem him, List.map_append, List.append_assoc]
              rfl
            have HSET := Aside0.mk hset
            have hc := arr_cell BK.out i (by omega)
            rw [hqi] at hc
            have hf := arr_frozen BK.out i
            have hx := HL.out _ (List.getElem_mem him)
            generalize m[i] = x at *
            unfold Lim at hx
            have hdv : (Int.tdiv x d).natAbs ≤ x.natAbs := by rw [Int.natAbs_tdiv]; exact Nat.div_le_self _ _
            have hwr : wrap64 (Int.tdiv x d) = Int.tdiv x d := wrp (by omega) (by omega)
            have hd0 : ((d : Int) == 0) = false := beq_eq_false_iff_ne.mpr (by omega)
            have hd1 : ¬ (d : Int) = 0 := by omega
            have HWR := Aside0.mk hwr
            clear hqi hset hdv
            go_wp2_with fail
            go_roundw
            case rel => exact ⟨i + 1, q.set i (Int.tdiv x d), by omega, by go_num, HSET, ⟨arr_store BK.out i _⟩, ⟨(heap_setCell_other _ _ _ _ (fun e => HNE.out e.symm)).trans HG2.out⟩, ⟨HB.out.setCell HGB.out _⟩⟩
            case measure => simp [intOf]; omega
          · obtain rfl : i = 6 := by omega
            have hq : q = pln m := by
              rw [HQ.out, List.take_of_length_le (by rw [HML.out]; exact Nat.le_refl _), List.drop_eq_nil_of_le (by rw [HML.out]; exact Nat.le_refl _), List.append_nil]
              unfold pln
              rw [← HD.out, if_pos h1]
            have HQL := Aside0.mk hql
            have HQP := Aside0.mk hq
            have HIQ := Aside0.mk (show (Try.prog.info? 76).map (·.size) = some (arr q).size by rw [arr_size, hql]; exact hs76)
            clear hq hql
            go_wp2_with (first
              | (refine wpList_load_row rfl 76 _ rfl gb rfl 76 (arr q) (0, 0) _ BK.out Try.underlying76 rfl HIQ.out ?_)
              | (refine wpList_store_row rfl 76 _ _ rfl g2 (arr q) rfl rfl 76 (arr zeros6) HG2.out HIQ.out (by rw [arr_size, arr_size, HQL.out]; rfl) (arr_one q) ?_))
            refine bodyPost_ret (results_cell_row rfl _ _ g2 76 (arr q) (0, 0) _ rfl (setRow_heap _ _ _ _ _ _ HG2.out) Try.underlying76 rfl HIQ.out) rfl ?_
            exact ⟨by rw [HQP.out], below_setRow HB.out HG2W.out _⟩
      · have c1 : decide ((1 : Int) < (d : Int)) = false := decide_eq_false (by omega)
        have HQP := Aside0.mk (show m = pln m by unfold pln; rw [← HD.out, if_neg h1])
        go_wp2_with (first
          | (refine wpList_load_row rfl 76 _ rfl gb rfl 76 (arr m) (0, 0) _ BK.out Try.underlying76 rfl HI0.out ?_)
          | (refine wpList_store_row rfl 76 _ _ rfl g2 (arr m) rfl rfl 76 (arr zeros6) HG2.out HI0.out (by rw [arr_size, arr_size, HML.out]; rfl) (arr_one m) ?_))
        refine bodyPost_ret (results_cell_row rfl _ _ g2 76 (arr m) (0, 0) _ rfl (setRow_heap _ _ _ _ _ _ HG2.out) Try.underlying76 rfl HI0.out) rfl ?_
        exact ⟨by rw [← HQP.out], below_setRow HB.out HG2W.out _⟩
end Go.Proofs.Ytdneelgnmnpanaa.P
end
section
namespace Go.Proofs.Ytdneelgnmnpanaa.P
open Go.RowKit Go.Proofs.YtdneelgnmnpanaaW.PrintWords
set_option linter.unusedVariables false
def lineAt (M : List (List Int)) (k : Nat) : List Int := M.getD k []
def cmb (p q : Int) (r t : List Int) : List Int := List.zipWith (fun a b => a * p - b * q) r t
def Okc (p q : Int) (r t : List Int) : Prop := (∀ a ∈ r, (a * p).natAbs ≤ 2305843009213693952) ∧ (∀ b ∈ t, (b * q).natAbs ≤ 2305843009213693952)
instance (p q : Int) (r t : List Int) : Decidable (Okc p q r t) := by unfold Okc; infer_instance
def elim (i top j : Nat) (M : List (List Int)) : Option (List (List Int)) :=
  if j = top ∨ (lineAt M j).getD i 0 = 0 then some M
  else if Okc ((lineAt M top).getD i 0) ((lineAt M j).getD i 0) (lineAt M j) (lineAt M top) then some (M.set j (pln (cmb ((lineAt M top).getD i 0) ((lineAt M j).getD i 0) (lineAt M j) (lineAt M top))))
  else none
def elims (i top : Nat) : Nat → Nat → List (List Int) → Option (List (List Int))
  | 0, _, M => some M
  | d + 1, j, M => (elim i top j M).bind (elims i top d (j + 1))
def swp (M : List (List Int)) (a b : Nat) : List (List Int) := (M.set a (lineAt M b)).set b (lineAt M a)
def stepc (i : Nat) (M : List (List Int)) (P : List Int) : Option (List (List Int) × List Int) :=
  if fst i (M.drop P.length) < 0 then some (M, P)
  else (elims i P.length M.length 0 (swp M P.length (P.length + (fst i (M.drop P.length)).toNat))).bind fun M' => some (M', P ++ [(i : Int)])
def redc : Nat → Nat → List (List Int) → List Int → Option (List (List Int) × List Int)
  | 0, _, M, P => some (M, P)
  | d + 1, i, M, P => (stepc i M P).bind fun x => redc d (i + 1) x.1 x.2
def red (M : List (List Int)) : Option (List (List Int) × List Int) := redc 6 0 M []
theorem fst_lt (i : Nat) : ∀ (rows : List (List Int)), fst i rows < rows.length
  | [] => by simp [fst]
  | r :: l => by
    have := fst_lt i l
    rw [fst]
    split
    · rw [List.length_cons]; omega
    · split <;> rw [List.length_cons] <;> omega
theorem cmb_length (p q : Int) (r t : List Int) (h : r.length = t.length) : (cmb p q r t).length = r.length := by simp [cmb, h]
theorem pln_length (m : List Int) : (pln m).length = m.length := by unfold pln; split <;> simp
theorem cmb_lim {p q : Int} {r t : List Int} (h : Okc p q r t) : ∀ x ∈ cmb p q r t, Lim x := by
  intro x hx
  obtain ⟨i, hi, rfl⟩ := List.mem_iff_getElem.1 hx
  unfold cmb at hi ⊢
  rw [List.length_zipWith] at hi
  rw [List.getElem_zipWith]
  have h1 := h.1 _ (List.getElem_mem (show i < r.length by omega))
  have h2 := h.2 _ (List.getElem_mem (show i < t.length by omega))
  unfold Lim
  omega
theorem lineAt_eq (M : List (List Int)) (k : Nat) (h : k < M.length) : lineAt M k = M[k] := rowD M k h
theorem Six.swp {M : List (List Int)} (h : Six M) {a b : Nat} (ha : a < M.length) (hb : b < M.length) : Six (swp M a b) := by
  unfold P.swp
  rw [lineAt_eq M a ha, lineAt_eq M b hb]
  exact (h.set a (h.at hb)).set b (h.at ha)
theorem swp_length (M : List (List Int)) (a b : Nat) : (swp M a b).length = M.length := by simp [swp]
end Go.Proofs.Ytdneelgnmnpanaa.P
end
section
namespace Go.Proofs.Ytdneelgnmnpanaa.P
open Go.RowKit Go.Proofs.YtdneelgnmnpanaaW.PrintWords Go.Proofs.YtdneelgnmnpanaaW.PrintLast Go.Proofs.YtdneelgnmnpanaaW.PrintMore
set_option linter.unusedVariables false
set_option linter.unusedSimpArgs false
theorem load_line {op : Oper} {a : Act} {w : World} (x : Operand) (ho : op.op = .load 76 x) (b o : Nat) (hx : a.eval x = .pointer (some ⟨b, o, none⟩)) {r : List Int} (hr : r.length = 6) (hc : w.rangeAt b o (r.map (Value.int .i64))) : (execOp a.eval op).run Try.prog w = .ok (.value (.agg (arr r))) w := by
 unfold execOp
 simp only [ho, hx, Instr.loadAt, Instr.sureAddr, Sem.run_bind, Sem.run_pure, Result.andThen_ok, run_loadVar_mid w b o 76 _ _ hc Try.underlying76 rfl (by rw [List.length_map, hr]; exact size76)]
 rfl
theorem store_line {op : Oper} {a : Act} {w : World} (x y : Operand) (ho : op.op = .store 76 x y) (b o : Nat) (hx : a.eval x = .pointer (some ⟨b, o, none⟩)) {r : List Int} (hy : a.eval y = .agg (arr r)) (hr : r.length = 6) (ht : w.there b o 6) : (execOp a.eval op).run Try.prog w = .ok .skip (w.setCells b o (r.map (Value.int .i64))) := by
 unfold execOp
 simp only [ho, hx, hy, Instr.storeAt, Instr.sureAddr, Sem.run_bind, Sem.run_pure, Result.andThen_ok, run_storeVar_mid w b o 76 (arr r) (by rw [arr_size, hr]; exact ht) (by rw [arr_size, hr]; exact size76) (arr_one r)]
 rfl
def exch.T0 : Bool × List (List Nat × List Nat) := (true, [([], []), ([], []), ([], []), ([], []), ([], []), ([], []), ([4, 5], [4, 5]), ([6], [6]), ([], []), ([], []), ([8, 9], [8, 9]), ([10], [10]), ([0, 1, 0, 1, 4, 5, 6, 7, 11], [0, 1]), ([12, 7, 0, 1, 4, 5, 6, 7, 11], [7, 12]), ([2, 3, 0, 1, 2, 3, 4, 5, 6, 7, 8, 9, 10, 11, 12, 13], [2, 3]), ([14, 11, 13, 0, 1, 2, 3, 4, 5, 6, 7, 8, 9, 10, 11, 12, 13], [11, 14])])
def exch.B0 : List Nat := [0, 0, 0, 0, 0, 0, 48, 112, 0, 0, 768, 1792, 4083, 8179, 16383, 32767]
theorem exch.tab0 : rtab .any (opsOf Try.f128 0) = exch.T0 := by kernel_rfl
theorem exch.bits0 : waitsOk exch.T0.2 exch.B0 = true := by kernel_rfl
set_option maxHeartbeats 2000000 in
set_option maxRecDepth 100000 in
theorem exch_calls (g n c a b : Nat) (M : List (List Int)) (w : World) (hM : Bl w g M c) (hn : n = M.length) (ha : a < M.length) (hb : b < M.length) (hc : n ≤ c) :
  Calls Try.prog 128 #[.slice (some ⟨g, 0, none⟩) n c, .int .i64 (a : Int), .int .i64 (b : Int)] w fun e w' => e = .returned (.tuple #[]) ∧ w' = (w.drew.setCells g (a * 6) (M[b].map (Value.int .i64))).setCells g (b * 6) (M[a].map (Value.int .i64)) := by
 have hu76 := Try.underlying76
 have hu65 := Try.underlying65
 have hs76 := size76
 have HM := Aside0.mk hM.drew
 have HA6 := Aside0.mk (hM.1.at ha)
 have HB6 := Aside0.mk (hM.1.at hb)
 have HM1 := Aside0.mk (hM.drew.stores ha (hM.1.at hb))
 have hb1 : b < (M.set a M[b]).length := by simpa using hb
 have q1 : (a : Int) < (n : Int) := by omega
 have q2 : (b : Int) < (n : Int) := by omega
 clear hM hn
 go_enter Try.func128, Try.ntmps128
 go_wp2_with fail
 refine start_ (n := 16) (S := fun w' => w'.rangeAt g (b * 6) (M[b].map (Value.int .i64)) ∧ w'.rangeAt g (a * 6) (M[a].map (Value.int .i64))) (ds := [13, 15]) #[false, false, false, false, false, false, false, false, false, false, false, false, false, false, false, false] (by kernel_rfl) rfl rfl ⟨(HM.out.range hb), (HM.out.range ha)⟩ (fun hHeld => ?_)
 refine with_tabW exch.tab0 exch.bits0 (fun HT_ HW_ => ?_)
 refine pure_ (i := 0) (N := some 6) (v := ?_) (a' := ?_) #[true, false, false, false, false, false, false, false, false, false, false, false, false, false, false, false] rfl rfl (any_of HT_.out (by kernel_rfl)) (fun _ _ _ h => h) (Or.inl ⟨by rfl, ?_⟩) ?_ ?_
 rotate_left
 ·
  intro w'
  go_simp
  with_reducible rfl
 rotate_left
 ·
  simp only [Act.put, List.setIfInBounds_toArray, List.set_cons_zero, List.set_cons_succ, i64_w, i32_w]
  rfl
 refine pure_ (i := 1) (N := some 7) (v := ?_) (a' := ?_) #[true, true, false, false, false, false, false, false, false, false, false, false, false, false, false, false] rfl rfl (any_of HT_.out (by kernel_rfl)) (fun _ _ _ h => h) (Or.inl ⟨by rfl, ?_⟩) ?_ ?_
 rotate_left
 ·
  intro w'
  go_simp
  with_reducible rfl
 rotate_left
 ·
  simp only [Act.put, List.setIfInBounds_toArray, List.set_cons_zero, List.set_cons_succ, i64_w, i32_w]
  rfl
 refine pure_ (i := 2) (N := some 8) (v := ?_) (a' := ?_) #[true, true, true, false, false, false, false, false, false, false, false, false, false, false, false, false] rfl rfl (any_of HT_.out (by kernel_rfl)) (fun _ _ _ h => h) (Or.inl ⟨by rfl, ?_⟩) ?_ ?_
 rotate_left
 ·
  intro w'
  go_simp
  with_reducible rfl
 rotate_left
 ·
  simp only [Act.put, List.setIfInBounds_toArray, List.set_cons_zero, List.set_cons_succ, i64_w, i32_w]
  rfl
 refine pure_ (i := 3) (N := some 9) (v := ?_) (a' := ?_) #[true, true, true, true, false, false, false, false, false, false, false, false, false, false, false, false] rfl rfl (any_of HT_.out (by kernel_rfl)) (fun _ _ _ h => h) (Or.inl ⟨by rfl, ?_⟩) ?_ ?_
 rotate_left
 ·
  intro w'
  go_simp
  with_reducible rfl
 rotate_left
 ·
  simp only [Act.put, List.setIfInBounds_toArray, List.set_cons_zero, List.set_cons_succ, i64_w, i32_w]
  rfl
 refine pure_ (i := 4) (N := some 10) (v := ?_) (a' := ?_) #[true, true, true, true, true, false, false, false, false, false, false, false, false, false, false, false] rfl rfl (any_of HT_.out (by kernel_rfl)) (fun _ _ _ h => h) (Or.inl ⟨by rfl, ?_⟩) ?_ ?_
 rotate_left
 ·
  intro w'
  go_simp
  with_reducible rfl
 rotate_left
 ·
  simp only [Act.put, List.setIfInBounds_toArray, List.set_cons_zero, List.set_cons_succ, i64_w, i32_w]
  rfl
 refine pure_ (i := 5) (N := some 11) (v := ?_) (a' := ?_) #[true, true, true, true, true, true, false, false, false, false, false, false, false, false, false, false] rfl rfl (any_of HT_.out (by kernel_rfl)) (fun _ _ _ h => h) (Or.inl ⟨by rfl, ?_⟩) ?_ ?_
 rotate_left
 ·
  intro w'
  go_simp
  with_reducible rfl
 rotate_left
 ·
  simp only [Act.put, List.setIfInBounds_toArray, List.set_cons_zero, List.set_cons_succ, i64_w, i32_w]
  rfl
 refine pure_ (i := 6) (N := some 12) (v := ?_) (a' := ?_) #[true, true, true, true, true, true, true, false, false, false, false, false, false, false, false, false] rfl rfl (any_of HT_.out (by kernel_rfl)) (fun _ _ _ h => h) (Or.inl ⟨by rfl, ?_⟩) ?_ ?_
 rotate_left
 ·
  intro w'
  go_simp
  with_reducible rfl
 rotate_left
 ·
  simp only [Act.put, List.setIfInBounds_toArray, List.set_cons_zero, List.set_cons_succ, i64_w, i32_w]
  rfl
 refine pure_ (i := 8) (N := some 14) (v := ?_) (a' := ?_) #[true, true, true, true, true, true, true, false, true, false, false, false, false, false, false, false] rfl rfl (any_of HT_.out (by kernel_rfl)) (fun _ _ _ h => h) (Or.inl ⟨by rfl, ?_⟩) ?_ ?_
 rotate_left
 ·
  intro w'
  go_simp
  with_reducible rfl
 rotate_left
 ·
  simp only [Act.put, List.setIfInBounds_toArray, List.set_cons_zero, List.set_cons_succ, i64_w, i32_w]
  rfl
 refine pure_ (i := 9) (N := some 15) (v := ?_) (a' := ?_) #[true, true, true, true, true, true, true, false, true, true, false, false, false, false, false, false] rfl rfl (any_of HT_.out (by kernel_rfl)) (fun _ _ _ h => h) (Or.inl ⟨by rfl, ?_⟩) ?_ ?_
 rotate_left
 ·
  intro w'
  go_simp
  with_reducible rfl
 rotate_left
 ·
  simp only [Act.put, List.setIfInBounds_toArray, List.set_cons_zero, List.set_cons_succ, i64_w, i32_w]
  rfl
 refine pure_ (i := 10) (N := some 16) (v := ?_) (a' := ?_) #[true, true, true, true, true, true, true, false, true, true, true, false, false, false, false, false] rfl rfl (any_of HT_.out (by kernel_rfl)) (fun _ _ _ h => h) (Or.inl ⟨by rfl, ?_⟩) ?_ ?_
 rotate_left
 ·
  intro w'
  go_simp
  with_reducible rfl
 rotate_left
 ·
  simp only [Act.put, List.setIfInBounds_toArray, List.set_cons_zero, List.set_cons_succ, i64_w, i32_w]
  rfl
 refine take_ (i := 7) (N := some 13) (v := ?_) (a' := ?_) #[true, true, true, true, true, true, true, true, true, true, true, false, false, false, false, false] rfl rfl (take_ofW HT_.out HW_.out (by kernel_rfl)) (fun _ _ _ h => h) (Or.inl ⟨by rfl, ?_⟩) hHeld ?_ ?_
 rotate_left
 ·
  rintro w' ⟨s0, s1⟩
  refine Eq.trans (load_line (.tmp 12) (by rfl) g (b * 6) (by rfl) HB6.out s0) ?_; with_reducible rfl
 rotate_left
 ·
  simp only [Act.put, List.setIfInBounds_toArray, List.set_cons_zero, List.set_cons_succ, i64_w, i32_w]
  rfl
 refine take_ (i := 11) (N := some 17) (v := ?_) (a' := ?_) #[true, true, true, true, true, true, true, true, true, true, true, true, false, false, false, false] rfl rfl (take_ofW HT_.out HW_.out (by kernel_rfl)) (fun _ _ _ h => h) (Or.inl ⟨by rfl, ?_⟩) hHeld ?_ ?_
 rotate_left
 ·
  rintro w' ⟨s0, s1⟩
  refine Eq.trans (load_line (.tmp 16) (by rfl) g (a * 6) (by rfl) HA6.out s1) ?_; with_reducible rfl
 rotate_left
 ·
  simp only [Act.put, List.setIfInBounds_toArray, List.set_cons_zero, List.set_cons_succ, i64_w, i32_w]
  rfl
 refine pure_ (i := 12) (N := some 18) (v := ?_) (a' := ?_) #[true, true, true, true, true, true, true, true, true, true, true, true, true, false, false, false] rfl rfl (any_of HT_.out (by kernel_rfl)) (fun _ _ _ h => h) (Or.inl ⟨by rfl, ?_⟩) ?_ ?_
 rotate_left
 ·
  intro w'
  go_simp
  with_reducible rfl
 rotate_left
 ·
  simp only [Act.put, List.setIfInBounds_toArray, List.set_cons_zero, List.set_cons_succ, i64_w, i32_w]
  rfl
 refine last_ (i := 13) (N := none) #[true, true, true, true, true, true, true, true, true, true, true, true, true, true, false, false] rfl rfl (one_of HT_.out (by kernel_rfl)) (by decide) (fun K hK => ?_)
 refine skip_ (w1 := ?_) (by rfl) rfl ?_ ?_
 rotate_left
 ·
  refine Eq.trans (store_line (.tmp 18) (.tmp 13) (by rfl) g (a * 6) (by rfl) (by rfl) HB6.out (HM.out.there ha)) ?_
  with_reducible rfl
 refine hK.out _ _ ?_
 clear hK K
 refine pure_ (i := 14) (N := some 19) (v := ?_) (a' := ?_) #[true, true, true, true, true, true, true, true, true, true, true, true, true, true, true, false] rfl rfl (any_of HT_.out (by kernel_rfl)) (fun _ _ _ h => h) (Or.inl ⟨by rfl, ?_⟩) ?_ ?_
 rotate_left
 ·
  intro w'
  go_simp
  with_reducible rfl
 rotate_left
 ·
  simp only [Act.put, List.setIfInBounds_toArray, List.set_cons_zero, List.set_cons_succ, i64_w, i32_w]
  rfl
 refine last_ (i := 15) (N := none) #[true, true, true, true, true, true, true, true, true, true, true, true, true, true, true, true] rfl rfl (one_of HT_.out (by kernel_rfl)) (by decide) (fun K hK => ?_)
 refine skip_ (w1 := ?_) (by rfl) rfl ?_ ?_
 rotate_left
 ·
  refine Eq.trans (store_line (.tmp 19) (.tmp 17) (by rfl) g (b * 6) (by rfl) (by rfl) HA6.out (HM1.out.there hb1)) ?_
  with_reducible rfl
 refine hK.out _ _ ?_
 clear hK K
 refine done_ (done_of HT_.out (by kernel_rfl)) ?_
 first | go_end0 | ((try simp only [Exit.inBlock, Exit.then]); refine bodyPost_ret (results_none rfl _ _ _) rfl ?_)
 exact ⟨rfl, rfl⟩
end Go.Proofs.Ytdneelgnmnpanaa.P
end
section
namespace Go.Proofs.Ytdneelgnmnpanaa.P
open Go.RowKit Go.Proofs.YtdneelgnmnpanaaW.PrintWords Go.Proofs.YtdneelgnmnpanaaW.PrintLast Go.Proofs.YtdneelgnmnpanaaW.PrintMore
set_option linter.unusedVariables false
set_option linter.unusedSimpArgs false
def strike_line_108.f (l0 : List S76) : Option (List S76) := if l0.length < 1000 then some l0 else none
set_option maxHeartbeats 1000000 in
set_option maxRecDepth 100000 in
theorem strike_line_108.calls (A0 : Option Addr) (c0 : Nat) (l0 : List S76) (r : List S76) (w : World) (hr0 : Kd.C k76 w A0 l0.length l0) (hc0 : l0.length ≤ c0) (h : strike_line_108.f l0 = some r) :
    Calls Try.prog 108 #[.slice A0 l0.length c0] w fun e w' => ∃ v0_ : Value, e = .returned (v0_) ∧ Kd.R k76 76 w' w.heap.size (fun _ => True) v0_ r ∧ Below w.heap.size w w' := by
  unfold strike_line_108.f at h
  by_cases hl : l0.length < 1000
  case neg => rw [if_neg hl] at h; cases h
  rw [if_pos hl] at h
  obtain rfl := Option.some.inj h
  clear h
  have HB := Aside0.mk (Below.refl w.heap.size w)
  have hu76 := Try.underlying76
  cases A0 with
  | none =>
    obtain rfl : l0 = [] := by
      cases l0 with
      | nil => rfl
      | cons x r => obtain ⟨ad, e, _⟩ := hr0.2.2 (by simp); cases e
    have hnil : ∀ W, (binOp .eql 65 (.slice none 0 c0) (.slice none 0 0)).run Try.prog W = .ok (.bool true) W := fun W => Lib.run_eql_slice_nil W _ _ none 0 c0 0 0 Try.underlying65
    clear hr0 hc0
    go_enter Try.func108, Try.ntmps108
    go_wp2_with fail
    go_ret
    exact ⟨_, rfl, Kd.R_nil _ _ _ _ _, HB.out⟩
  | some ad =>
    have hnil : ∀ W, (binOp .eql 65 (.slice (some ad) l0.length c0) (.slice none 0 0)).run Try.prog W = .ok (.bool false) W := fun W => Lib.run_eql_slice_nil W _ _ (some ad) _ c0 0 0 Try.underlying65
    have HR0 := Aside0.mk hr0
    have Ny101 := Aside0.mk (show ([] : List S76) = ([] : List S76) from rfl)
    obtain ⟨y101, hy101⟩ : ∃ y_ : List S76, y_ = (([] : List S76)) := ⟨_, rfl⟩
    obtain ⟨y104, hy104⟩ : ∃ y_ : List S76, y_ = (y101 ++ l0) := ⟨_, rfl⟩
    have HY := Aside0.mk (show y104 = l0 by rw [hy104, hy101]; rfl)
    have LMc2 := Aside0.mk (show y101.length + l0.length < 1000 by rw [hy101]; simpa using hl)
    clear Ny101
    have Ny101 := Aside0.mk hy101
    have Ny104 := Aside0.mk hy104
    clear hr0 hc0 hl hy101 hy104
    go_enter Try.func108, Try.ntmps108
    go_wp2_with (first | ((with_reducible refine gate_dst (N := 5) rfl ?_); refine Kd.R_lit k76 _ 76 ?hg (N := 5) ?hd (xs := ([] : List S76)) (inner := []) (ok := fun _ => True) (okp := fun _ => True) ?hr ?hp (fun _ hk => hk) trivial (Below.refl _ _) (Nat.le_refl _) (by simp) ?_; (case hd => rfl); (case hg => rfl); (case hr => first | (go_simp; done) | (go_simp; rfl)); (case hp => exact (Reps.none _ _)); intro v102 w3 ho4 hb hg_ hnew_; clear hg_ hnew_; (first | rw [← Ny101.out] at ho4 | (simp only [Int.reduceToNat] at ho4; rw [← Ny101.out] at ho4)); have n0_ := Aside0.mk (Kd.R_lower ho4 (below_size (by repeat (first | (with_reducible first | exact HB.out | apply below_alloc | apply pw_below_drewN | apply below_drew1) | exact HB.out)))); have n1_ := Aside0.mk (below_step (by repeat (first | (with_reducible first | exact HB.out | apply below_alloc | apply pw_below_drewN | apply below_drew1) | exact HB.out)) hb); clear HB; have HO103 := n0_; have HB := n1_; clear n0_ n1_; clear hb ho4) | ((with_reducible refine gate_builtin (b := .append) (xs := #[.tmp 5, .tmp 6]) rfl ?_); at_builtin; refine Kd.R_append_rows k76 (Rr := k76.K w) (w0 := w) w.heap.size rfl (.tmp 5) (.tmp 6) 65 76 (.agg #[(.int .i64 0), (.int .i64 0), (.int .i64 0), (.int .i64 0), (.int .i64 0), (.int .i64 0)]) 48 rfl Try.underlying65 info76 rfl (by decide) (by omega) v102 y101 l0 _ _ _ (fun _ => True) (fun _ => False) rfl rfl ?aO ?aR (fun x cs hK => by rw [k76_open hK]; exact k76_mkM _ _ _ x) (fun _ h => h.elim) ?aF ?aB ?aS ?aL ?_; (case aR => exact ReadsRow.imp_ HR0.out HB.out (fun _ _ hp => hp)); (case aB => exact (by repeat (first | (with_reducible first | exact HB.out | apply below_alloc | apply pw_below_drewN | apply below_drew1) | exact HB.out))); (case aF => exact (fun _ _ => trivial)); (case aO => exact (by (with_reducible repeat (first | apply Kd.R_alloc | apply Kd.R_drewN | apply Kd.R_drew)); exact HO103.out)); (case aS => exact (below_size (by repeat (first | (with_reducible first | exact HB.out | apply below_alloc | apply pw_below_drewN | apply below_drew1) | exact HB.out)))); (case aL => have := LMc2.out; omega); intro v105 w5 ho hb hg hat; rw [← Ny104.out] at ho; have n0_ := Aside0.mk (hb); have n1_ := Aside0.mk (ho); clear HB; clear HO103; have HB := n0_; have HO106 := n1_; clear n0_ n1_; clear ho hb hg hat))
    go_ret
    exact ⟨_, rfl, by rw [← HY.out]; exact HO106.out, HB.out⟩
end Go.Proofs.Ytdneelgnmnpanaa.P
end
section
namespace Go.Proofs.Ytdneelgnmnpanaa.P
open Go.RowKit Go.Proofs.YtdneelgnmnpanaaW.PrintWords Go.Proofs.YtdneelgnmnpanaaW.PrintLast Go.Proofs.YtdneelgnmnpanaaW.PrintMore
set_option linter.unusedVariables false
set_option linter.unusedSimpArgs false
theorem setCells_heap (g : Nat) : ∀ (vs : List Value) (o : Nat) (w : World), (∀ k, k ≠ g → (w.setCells g o vs).heap[k]? = w.heap[k]?) ∧ (w.setCells g o vs).heap.size = w.heap.size
 | [], _, _ => ⟨fun _ _ => rfl, rfl⟩
 | v :: r, o, w => by
  obtain ⟨h1, h2⟩ := setCells_heap g r (o + 1) (w.setCell ⟨g, o, none⟩ v)
  rw [World.setCells]
  exact ⟨fun k hk => (h1 k hk).trans (heap_setCell_other w _ k v hk), by rw [h2]; simp⟩
theorem below_setCells {B g : Nat} (hg : B ≤ g) {w0 : World} : ∀ (vs : List Value) (o : Nat) (w : World), Below B w0 w → Below B w0 (w.setCells g o vs)
 | [], _, _, h => h
 | v :: r, o, w, h => by
  rw [World.setCells]
  exact below_setCells hg r (o + 1) _ (h.setCell hg v)
set_option maxHeartbeats 8000000 in
set_option maxRecDepth 100000 in
theorem reduced_calls (A0 : Option Addr) (c0 : Nat) (l0 : List S76) (Mf : List (List Int)) (Pf : List Int) (w : World) (hr0 : Kd.C k76 w A0 l0.length l0) (hc0 : l0.length ≤ c0) (hne : 0 < l0.length) (hlen : l0.length < 1000) (h : red (l0.map L6) = some (Mf, Pf)) :
  Calls Try.prog 111 #[.slice A0 l0.length c0] w fun e w' => ∃ v0_ v1_ : Value, e = .returned (.tuple #[v0_, v1_]) ∧ Kd.R k76 76 w' w.heap.size (fun _ => True) v0_ ((Mf.take Pf.length).map mk6) ∧ Kd.R (Kd.int .i64) 3 w' w.heap.size (fun k => some k ≠ v0_.ownBlock) v1_ Pf ∧ Below w.heap.size w w' := by
 have hu76 := Try.underlying76
 have hu65 := Try.underlying65
 have hu28 := Try.underlying28
 have hu3 := Try.underlying3
 have hs76 := size76
 have HR0 := Aside0.mk hr0
 have HC0 := Aside0.mk hc0
 have HCL := Aside0.mk (show strike_line_108.f l0 = some l0 by unfold strike_line_108.f; rw [if_pos hlen])
 have HNE := Aside0.mk hne
 have HLEN := Aside0.mk hlen
 have HRED := Aside0.mk h
 obtain ⟨n, hn⟩ : ∃ n, n = l0.length := ⟨_, rfl⟩
 have HN := Aside0.mk hn
 clear hr0 hc0 h hn
 have HB := Aside0.mk (Below.refl w.heap.size w)
 go_enter Try.func111, Try.ntmps111
 go_wp2_with (first
  | ((with_reducible refine gate_callee (f := 108) rfl ?_); refine goesL_ (some 13) rfl rfl Try.func108 (by kernel_rfl) rfl #[.slice A0 l0.length c0] rfl (by (try simp only [List.map_toArray, List.map_cons, List.map_nil]); first | done | rfl) ?_; (with_reducible refine (strike_line_108.calls A0 c0 l0 l0 _ (Kd.C_below HR0.out HB.out) HC0.out HCL.out).mono ?_); rintro e w9 ⟨v9, rfl, ho, hb⟩; refine ⟨_, rfl, ?_⟩; obtain ⟨g, c, hv, hgw, -, hbl, hlc, hcm⟩ := (Bl.of_R ho).resolve_left (fun hh => absurd (congrArg List.length hh.2) (by have := HNE.out; simp only [List.length_nil]; omega)); subst hv; have HBL := Aside0.mk hbl; have HCM := Aside0.mk hcm; have HGW := Aside0.mk hgw; have HLC := Aside0.mk hlc; have n0_ := Aside0.mk (below_step HB.out hb); clear HB hbl hcm hgw hlc ho hb; have HB := n0_; clear n0_))
 rw [← HN.out] at HLC
 rw [← HN.out]
 have HM := Aside0.mk (show (l0.map L6).length = n by rw [List.length_map, HN.out])
 have HRC := Aside0.mk (show redc (6 - 0) 0 (l0.map L6) [] = some (Mf, Pf) from HRED.out)
 have HO := Aside0.mk (show Kd.R (Kd.int .i64) 3 w9 w.heap.size (fun k => k ≠ g) (.slice none 0 0) ([] : List Int) from Kd.R_nil _ _ _ _ _)
 have HPL := Aside0.mk (show ([] : List Int).length ≤ n from Nat.zero_le _)
 have HPI := Aside0.mk (show ([] : List Int).length ≤ 0 from Nat.le_refl _)
 generalize l0.map L6 = M at HBL HM HRC
 generalize ([] : List Int) = P at HRC HO HPL HPI
 clear HRED HCL HR0 HC0
 go_loopw [4, 14] (fun p_ i_ w' => ∃ (i : Nat) (M : List (List Int)) (P : List Int), i ≤ 6 ∧ i_ = .int .i64 i ∧ Aside0 (redc (6 - i) i M P = some (Mf, Pf)) ∧ Aside0 (Bl w' g M c) ∧ Aside0 (M.length = n) ∧ Aside0 (P.length ≤ n) ∧ Aside0 (P.length ≤ i) ∧ Aside0 (Kd.R (Kd.int .i64) 3 w' w.heap.size (fun k => k ≠ g) p_ P) ∧ Aside0 (Below w.heap.size w w')) (fun _ i_ _ => 6 - (intOf i_).toNat)
 case atStart => exact ⟨0, M, P, by omega, rfl, HRC, HBL, HM, HPL, HPI, HO, HB⟩
 case round =>
  clear HRC HBL HM HPL HPI HO HB M P
  obtain ⟨i, M, P, hi, rfl, HRC, HBL, HM, HPL, HPI, HO, HB⟩ := hrel
  by_cases hi6 : i < 6
  ·
   have hn1000 : n < 1000 := by have := HLEN.out; have := HN.out; omega
   obtain ⟨Ap, cp, ep⟩ := Kd.R_slice HO.out
   subst ep
   have htn := HPL.out
   have hlc := HLC.out
   obtain ⟨kk, hkk⟩ : ∃ kk, kk = fst i (M.drop P.length) := ⟨_, rfl⟩
   have HKK := Aside0.mk hkk
   have hrl : (M.drop P.length).length = n - P.length := by rw [List.length_drop, HM.out]
   have hflt := fst_lt i (M.drop P.length)
   rw [← hkk, hrl] at hflt
   have hrc := HRC.out
   rw [show 6 - i = (6 - (i + 1)) + 1 by omega, redc] at hrc
   have HS := Aside0.mk hrc
   have hrd : Rd (wr.alloc (.cells #[.int .i64 (i : Int)] 3)) (some ⟨g, P.length * 6, none⟩) (M.drop P.length) := fun _ => ⟨g, P.length * 6, rfl, fun q r hq => by
    rw [List.getElem?_drop] at hq
    obtain ⟨hq1, hq2⟩ := List.getElem?_eq_some_iff.1 hq
    have hbl := HBL.out.alloc (.cells #[.int .i64 (i : Int)] 3)
    refine ⟨hq2 ▸ hbl.1.at hq1, ?_⟩
    have := hbl.range hq1
    rw [hq2, Nat.add_mul] at this
    exact this⟩
   have hcell : (wr.alloc (.cells #[.int .i64 (i : Int)] 3)).cell? ⟨wr.heap.size, 0, none⟩ = some (.int .i64 (i : Int)) := (blk_cell (blk_new wr _) 0).trans rfl
   clear hrc HRC hkk
   by_cases hct : c = P.length
   ·
    have hr0 : M.drop P.length = [] := List.eq_nil_of_length_eq_zero (by rw [hrl]; omega)
    have hy := idxL_calls (some ⟨g, 0, none⟩) (c - P.length) (M.drop P.length) i wr.heap.size _ (fun hne => absurd hr0 hne) (by rw [hrl]; have := HLEN.out; have := HN.out; omega) (by rw [hrl]; omega) hi6 hcell
    rw [hrl, ← HKK.out, show c - P.length = 0 by omega, show n - P.length = 0 by omega] at hy
    have HY := Aside0.mk hy
    have hk0 : decide (kk < 0) = true := decide_eq_true (by omega)
    have HS2 := Aside0.mk (show redc (6 - (i + 1)) (i + 1) M P = some (Mf, Pf) by
     have := HS.out
     unfold stepc at this
     rw [← HKK.out, if_pos (by omega)] at this
     exact this)
    clear hy hrd hcell HS hr0 HKK
    subst hct
    go_wp2_with (first | ((with_reducible refine gate_callee (f := 126) rfl ?_); refine goesL_ (some 23) rfl rfl Try.func126 (by kernel_rfl) rfl #[.slice (some ⟨g, 0, none⟩) 0 0, .func (.func 127) #[] #[.pointer (some ⟨wr.heap.size, 0, none⟩)]] rfl (by (try simp only [List.map_toArray, List.map_cons, List.map_nil]); first | done | rfl) ?_; (with_reducible refine HY.out.mono ?_); rintro e w10 ⟨rfl, hb⟩; refine ⟨_, rfl, ?_⟩; have hbx := below_step ((Below.refl wr.heap.size wr).alloc (Nat.le_refl _) (.cells #[.int .i64 (i : Int)] 3)) hb; have n0_ := Aside0.mk (HBL.out.below hbx); have n1_ := Aside0.mk (Kd.R_below HO.out hbx); have n2_ := Aside0.mk (below_step HB.out hbx); have HBX := Aside0.mk (blk_below (blk_new wr (.cells #[.int .i64 (i : Int)] 3)) hb); have HW10 := Aside0.mk (show wr.heap.size ≤ w10.heap.size from hbx.size); clear HBL HO HB hb hbx; have HBL := n0_; have HO := n1_; have HB := n2_; clear n0_ n1_ n2_))
    go_roundw
    case rel => exact ⟨i + 1, M, P, by omega, by go_num, HS2, HBL, HM, HPL, ⟨by have := HPI.out; omega⟩, HO, HB⟩
    case measure => simp [intOf]; omega
   ·
    have hy := idxL_calls (some ⟨g, P.length * 6, none⟩) (c - P.length) (M.drop P.length) i wr.heap.size _ hrd (by rw [hrl]; have := HLEN.out; have := HN.out; omega) (by rw [hrl]; omega) hi6 hcell
    rw [hrl, ← HKK.out] at hy
    have HY := Aside0.mk hy
    by_cases hk : kk < 0
    ·
     have hk0 : decide (kk < 0) = true := decide_eq_true hk
     have HS2 := Aside0.mk (show redc (6 - (i + 1)) (i + 1) M P = some (Mf, Pf) by
      have := HS.out
      unfold stepc at this
      rw [← HKK.out, if_pos hk] at this
      exact this)
     clear hy hrd hcell HS HKK
     go_wp2_with (first | ((with_reducible refine gate_callee (f := 126) rfl ?_); refine goesL_ (some 23) rfl rfl Try.func126 (by kernel_rfl) rfl #[.slice (some ⟨g, P.length * 6, none⟩) (n - P.length) (c - P.length), .func (.func 127) #[] #[.pointer (some ⟨wr.heap.size, 0, none⟩)]] rfl (by (try simp only [List.map_toArray, List.map_cons, List.map_nil]); first | done | rfl) ?_; (with_reducible refine HY.out.mono ?_); rintro e w10 ⟨rfl, hb⟩; refine ⟨_, rfl, ?_⟩; have hbx := below_step ((Below.refl wr.heap.size wr).alloc (Nat.le_refl _) (.cells #[.int .i64 (i : Int)] 3)) hb; have n0_ := Aside0.mk (HBL.out.below hbx); have n1_ := Aside0.mk (Kd.R_below HO.out hbx); have n2_ := Aside0.mk (below_step HB.out hbx); have HBX := Aside0.mk (blk_below (blk_new wr (.cells #[.int .i64 (i : Int)] 3)) hb); have HW10 := Aside0.mk (show wr.heap.size ≤ w10.heap.size from hbx.size); clear HBL HO HB hb hbx; have HBL := n0_; have HO := n1_; have HB := n2_; clear n0_ n1_ n2_))
     go_roundw
     case rel => exact ⟨i + 1, M, P, by omega, by go_num, HS2, HBL, HM, HPL, ⟨by have := HPI.out; omega⟩, HO, HB⟩
     case measure => simp [intOf]; omega
    ·
     obtain ⟨kn, hkn⟩ := Int.eq_ofNat_of_zero_le (show 0 ≤ kk by omega)
     subst hkn
     have hk0 : decide ((kn : Int) < 0) = false := decide_eq_false hk
     have ha : P.length < M.length := by rw [HM.out]; omega
     have hb' : P.length + kn < M.length := by rw [HM.out]; omega
     obtain ⟨M1, hM1, hs2⟩ : ∃ M1, elims i P.length M.length 0 (swp M P.length (P.length + kn)) = some M1 ∧ redc (6 - (i + 1)) (i + 1) M1 (P ++ [(i : Int)]) = some (Mf, Pf) := by
      have := HS.out
      unfold stepc at this
      rw [← HKK.out, if_neg hk, Int.toNat_natCast] at this
      obtain ⟨x, hx1, hx2⟩ := Option.bind_eq_some_iff.1 this
      obtain ⟨M1, hM1, hx⟩ := Option.bind_eq_some_iff.1 hx1
      obtain rfl := Option.some.inj hx
      exact ⟨M1, hM1, hx2⟩
     have HNG := Aside0.mk (show wr.heap.size ≠ g from by have := HBL.out.lt; omega)
     have HWR := Aside0.mk (show wrap64 ((P.length : Int) + (kn : Int)) = ((P.length + kn : Nat) : Int) by rw [wrp (by omega) (by have := HLEN.out; have := HN.out; omega)]; omega)
     have HA := Aside0.mk ha
     have HBB := Aside0.mk hb'
     have HEL := Aside0.mk hM1
     have HS2 := Aside0.mk hs2
     clear hy hrd hcell HS HKK hM1 hs2 ha hb'
     go_wp2_with (first
      | ((with_reducible refine gate_callee (f := 126) rfl ?_); refine goesL_ (some 23) rfl rfl Try.func126 (by kernel_rfl) rfl #[.slice (some ⟨g, P.length * 6, none⟩) (n - P.length) (c - P.length), .func (.func 127) #[] #[.pointer (some ⟨wr.heap.size, 0, none⟩)]] rfl (by (try simp only [List.map_toArray, List.map_cons, List.map_nil]); first | done | rfl) ?_; (with_reducible refine HY.out.mono ?_); rintro e w10 ⟨rfl, hb⟩; refine ⟨_, rfl, ?_⟩; have hbx := below_step ((Below.refl wr.heap.size wr).alloc (Nat.le_refl _) (.cells #[.int .i64 (i : Int)] 3)) hb; have n0_ := Aside0.mk (HBL.out.below hbx); have n1_ := Aside0.mk (Kd.R_below HO.out hbx); have n2_ := Aside0.mk (below_step HB.out hbx); have HBX := Aside0.mk (blk_below (blk_new wr (.cells #[.int .i64 (i : Int)] 3)) hb); have HW10 := Aside0.mk (show wr.heap.size ≤ w10.heap.size from hbx.size); clear HBL HO HB hb hbx; have HBL := n0_; have HO := n1_; have HB := n2_; clear n0_ n1_ n2_)
      | ((with_reducible refine gate_callee (f := 128) rfl ?_); refine goesL_ (some 31) rfl rfl Try.func128 (by kernel_rfl) rfl #[.slice (some ⟨g, 0, none⟩) n c, .int .i64 (P.length : Int), .int .i64 ((P.length + kn : Nat) : Int)] rfl (by (try simp only [List.map_toArray, List.map_cons, List.map_nil]); first | done | rfl | (rw [← HWR.out]; done) | (rw [← HWR.out]; rfl)) ?_; (with_reducible refine (exch_calls g n c P.length (P.length + kn) M _ HBL.out HM.out.symm HA.out HBB.out HLC.out).mono ?_); rintro e w11 ⟨rfl, hw11⟩; refine ⟨_, rfl, ?_⟩; have HW11 := Aside0.mk hw11; clear hw11))
     have hsix := HBL.out.1
     have hb1 := (HBL.out.drew.stores HA.out (hsix.at HBB.out)).stores (by simpa using HBB.out) (hsix.at HA.out)
     rw [← HW11.out] at hb1
     have hh : ∀ k, k ≠ g → w11.heap[k]? = w10.heap[k]? := fun k hk_ => by rw [HW11.out]; exact ((setCells_heap g _ _ _).1 k hk_).trans ((setCells_heap g _ _ _).1 k hk_)
     have HBL2 := Aside0.mk hb1
     have HO2 := Aside0.mk (Kd.R_step HO.out (fun k hk_ _ => hh k hk_))
     have HBX2 := Aside0.mk ((hh _ HNG.out).trans HBX.out)
     have HB2 := Aside0.mk (show Below w.heap.size w w11 by rw [HW11.out]; exact below_setCells HGW.out _ _ _ (below_setCells HGW.out _ _ _ (below_drew HB.out)))
     clear HBL HO HBX HB hb1 hh hsix HW11
     have HBL := HBL2
     have HO := HO2
     have HBX := HBX2
     have HB := HB2
     clear HBL2 HO2 HBX2 HB2
     generalize hb5 : wr.heap.size = b5 at *
     have HNB := Aside0.mk (show b5 ≠ g from HNG.out)
     have HM1 := Aside0.mk (show (swp M P.length (P.length + kn)).length = n by rw [swp_length, HM.out])
     have HBL1 := Aside0.mk (show Bl w11 g (swp M P.length (P.length + kn)) c by
      have := HBL.out
      unfold swp
      rw [lineAt_eq _ _ HA.out, lineAt_eq _ _ HBB.out]
      exact this)
     have HEL1 := Aside0.mk (show elims i P.length (n - 0) 0 (swp M P.length (P.length + kn)) = some M1 by rw [← HEL.out, HM.out]; rfl)
     have HTN := Aside0.mk (show P.length < n by rw [← HM.out]; exact HA.out)
     have HPI2 := Aside0.mk (show P.length ≤ i from HPI.out)
     clear HBL HEL HA HBB hb5 HWR HW10 hk HY HM HPI
     generalize swp M P.length (P.length + kn) = N at *
     go_loopw [34] (fun j_ w' => ∃ (j : Nat) (N : List (List Int)), j ≤ n ∧ j_ = .int .i64 j ∧ Aside0 (elims i P.length (n - j) j N = some M1) ∧ Aside0 (Bl w' g N c) ∧ Aside0 (N.length = n) ∧ Aside0 (w'.heap[b5]? = some (.cells #[.int .i64 (i : Int)] 3 (0, 0))) ∧ Aside0 (Kd.R (Kd.int .i64) 3 w' w.heap.size (fun k => k ≠ g) (.slice Ap P.length cp) P) ∧ Aside0 (Below w.heap.size w w')) (fun j_ _ => n - (intOf j_).toNat)
     case atStart => exact ⟨0, N, Nat.zero_le _, rfl, HEL1, HBL1, HM1, HBX, HO, HB⟩
     case round =>
      clear HEL1 HBL1 HM1 HBX HO HB N
      obtain ⟨j, N, hj, rfl, HEL, HBL, HM, HBX, HO, HB⟩ := hrel
      by_cases hjn : j < n
      ·
       have hbx : wr.cell? ⟨b5, 0, none⟩ = some (.int .i64 (i : Int)) := (blk_cell HBX.out 0).trans rfl
       have hjN : j < N.length := by rw [HM.out]; exact hjn
       have htN : P.length < N.length := by rw [HM.out]; exact HTN.out
       have hel := HEL.out
       rw [show n - j = (n - (j + 1)) + 1 by omega, elims] at hel
       unfold elim at hel
       have HE2 := Aside0.mk hel
       clear hel HEL
       by_cases hjt : j = P.length
       ·
        have c1 : ((j : Int) == (P.length : Int)) = true := beq_iff_eq.mpr (by omega)
        have HE3 := Aside0.mk (show elims i P.length (n - (j + 1)) (j + 1) N = some M1 by
         have := HE2.out
         rw [if_pos (Or.inl hjt)] at this
         exact this)
        clear HE2 hjt
        go_wp2_with fail
        go_quiet (fail)
        go_wp2_with fail
        go_roundw
        case rel => exact ⟨j + 1, N, by omega, by go_num, HE3, HBL, HM, HBX, HO, ⟨pw_below_drewN HB.out _⟩⟩
        case measure => simp [intOf]; omega
       ·
        have c1 : ((j : Int) == (P.length : Int)) = false := beq_eq_false_iff_ne.mpr (by omega)
        have hcj := HBL.out.cell hjN hi6
        by_cases hz : N[j].getD i 0 = 0
        ·
         have HE3 := Aside0.mk (show elims i P.length (n - (j + 1)) (j + 1) N = some M1 by
          have := HE2.out
          rw [if_pos (Or.inr (by rw [lineAt_eq _ _ hjN]; exact hz))] at this
          exact this)
         rw [hz] at hcj
         clear HE2 hjt hz
         go_wp2_with fail
         go_quiet (fail)
         go_wp2_with fail
         go_roundw
         case rel => exact ⟨j + 1, N, by omega, by go_num, HE3, HBL, HM, HBX, HO, ⟨pw_below_drewN HB.out _⟩⟩
         case measure => simp [intOf]; omega
        ·
         have hct' := HBL.out.cell htN hi6
         obtain ⟨q, hq⟩ : ∃ q, q = N[j].getD i 0 := ⟨_, rfl⟩
         obtain ⟨p, hp⟩ : ∃ p, p = N[P.length].getD i 0 := ⟨_, rfl⟩
         have hj6 := HBL.out.1.at hjN
         have ht6 := HBL.out.1.at htN
         obtain ⟨hok, hel⟩ : Okc p q N[j] N[P.length] ∧ elims i P.length (n - (j + 1)) (j + 1) (N.set j (pln (cmb p q N[j] N[P.length]))) = some M1 := by
          have := HE2.out
          rw [if_neg (by rw [lineAt_eq _ _ hjN]; rintro (h1 | h1); exact hjt h1; exact hz h1), lineAt_eq _ _ hjN, lineAt_eq _ _ htN, ← hq, ← hp] at this
          split at this
          ·
           rename_i h1
           exact ⟨h1, this⟩
          ·
           cases this
         have HOK := Aside0.mk hok
         have HEL := Aside0.mk hel
         have HJ6 := Aside0.mk hj6
         have HT6 := Aside0.mk ht6
         have HJT := Aside0.mk hjt
         have HJN := Aside0.mk hjN
         have HTL := Aside0.mk htN
         rw [← hq] at hcj hz
         rw [← hp] at hct'
         have hq0 : (q == 0) = false := beq_eq_false_iff_ne.mpr hz
         clear HE2 hjt hz hok hel hj6 ht6 hq hp
         go_wp2_with fail
         go_quiet (fail)
         go_wp2_with fail
         go_quiet (fail)
         go_wp2_with fail
         have HBL0 := Aside0.mk (show Bl wr g (N.set j ((cmb p q N[j] N[P.length]).take 0 ++ N[j].drop 0)) c by
          rw [List.take_zero, List.nil_append, List.drop_zero, List.set_getElem_self]
          exact HBL.out)
         have HCL := Aside0.mk (show (cmb p q N[j] N[P.length]).length = 6 by rw [cmb_length _ _ _ _ (by rw [HJ6.out, HT6.out]), HJ6.out])
         clear HBL hcj hct'
         go_loopw [61] (fun m_ w' => ∃ m : Nat, m ≤ 6 ∧ m_ = .int .i64 m ∧ Aside0 (Bl w' g (N.set j ((cmb p q N[j] N[P.length]).take m ++ N[j].drop m)) c) ∧ Aside0 (w'.heap[b5]? = some (.cells #[.int .i64 (i : Int)] 3 (0, 0))) ∧ Aside0 (Kd.R (Kd.int .i64) 3 w' w.heap.size (fun k => k ≠ g) (.slice Ap P.length cp) P) ∧ Aside0 (Below w.heap.size w w')) (fun m_ _ => 6 - (intOf m_).toNat)
         case atStart => exact ⟨0, by omega, rfl, ⟨HBL0.out⟩, ⟨HBX.out⟩, ⟨HO.out⟩, ⟨pw_below_drewN (pw_below_drewN HB.out _) _⟩⟩
         case round =>
          clear HBL0 HBX HO HB
          obtain ⟨m, hm, rfl, HBL, HBX, HO, HB⟩ := hrel
          have hjS : j < (N.set j ((cmb p q N[j] N[P.length]).take m ++ N[j].drop m)).length := by simpa using hjN
          have htS : P.length < (N.set j ((cmb p q N[j] N[P.length]).take m ++ N[j].drop m)).length := by simpa using htN
          by_cases hm6 : m < 6
          ·
           have hj6 := HJ6.out
           have ht6 := HT6.out
           have hcl := HCL.out
           have hrj := HBL.out.cell hjS hm6
           have hrt := HBL.out.cell htS hm6
           have e1 : (N.set j ((cmb p q N[j] N[P.length]).take m ++ N[j].drop m))[j] = (cmb p q N[j] N[P.length]).take m ++ N[j].drop m := by simp
           have e2 : (N.set j ((cmb p q N[j] N[P.length]).take m ++ N[j].drop m))[P.length] = N[P.length] := by
            rw [List.getElem_set_ne]
            exact HJT.out
           have e3 : ((cmb p q N[j] N[P.length]).take m ++ N[j].drop m).getD m 0 = N[j][m] := by
            rw [List.getD_eq_getElem?_getD, List.getElem?_append_right (by rw [List.length_take]; omega), List.length_take, Nat.min_eq_left (by omega), Nat.sub_self, List.getElem?_drop, Nat.add_zero, List.getElem?_eq_getElem (by omega)]
            rfl
           have e4 : N[P.length].getD m 0 = N[P.length][m] := by rw [List.getD_eq_getElem?_getD, List.getElem?_eq_getElem (by omega)]; rfl
           rw [e1, e3] at hrj
           rw [e2, e4] at hrt
           have hst := fun v => HBL.out.store hjS hm6 v
           rw [e1] at hst
           have hcm : (cmb p q N[j] N[P.length])[m] = N[j][m] * p - N[P.length][m] * q := by unfold cmb; rw [List.getElem_zipWith]
           have hnext : ((cmb p q N[j] N[P.length]).take m ++ N[j].drop m).set m (N[j][m] * p - N[P.length][m] * q) = (cmb p q N[j] N[P.length]).take (m + 1) ++ N[j].drop (m + 1) := by
            rw [List.set_append_right _ _ (by rw [List.length_take]; omega), List.length_take, Nat.min_eq_left (by omega), Nat.sub_self, List.drop_eq_getElem_cons (by omega : m < N[j].length), List.set_cons_zero, List.take_succ_eq_append_getElem (by omega), hcm, List.append_assoc]
            rfl
           have hnx := hst (N[j][m] * p - N[P.length][m] * q)
           rw [hnext, List.set_set] at hnx
           have HNX := Aside0.mk hnx
           have hff := HBL.out.frozen (j * 6 + m)
           have o1 := HOK.out.1 _ (List.getElem_mem (show m < N[j].length by omega))
           have o2 := HOK.out.2 _ (List.getElem_mem (show m < N[P.length].length by omega))
           have hB5 := Aside0.mk (HBX.out)
           clear e1 e2 e3 e4 hst hcm hnext hnx
           generalize N[j][m] = rj at *
           generalize N[P.length][m] = rt at *
           have w1 : wrap64 (rj * p) = rj * p := wrp (by omega) (by omega)
           have w2 : wrap64 (rt * q) = rt * q := wrp (by omega) (by omega)
           have w3 : wrap64 (rj * p - rt * q) = rj * p - rt * q := wrp (by omega) (by omega)
           clear o1 o2
           go_wp2_with fail
           go_region
           go_wp2_with fail
           go_roundw
           case rel => exact ⟨m + 1, by omega, by go_num, HNX, ⟨(heap_setCell_other _ _ _ _ HNB.out).trans HBX.out⟩, ⟨Kd.R_far HO.out (fun _ hk_ => hk_) _⟩, ⟨(HB.out.setCell HGW.out _).drew⟩⟩
           case measure => simp [intOf]; omega
          ·
           obtain rfl : m = 6 := by omega
           have hbl := HBL.out
           rw [List.take_of_length_le (by rw [HCL.out]; exact Nat.le_refl _), List.drop_eq_nil_of_le (by rw [HJ6.out]; exact Nat.le_refl _), List.append_nil] at hbl
           have hjS2 : j < (N.set j (cmb p q N[j] N[P.length])).length := by simpa using hjN
           have hrg := hbl.range hjS2
           rw [List.getElem_set_self] at hrg
           have hth := hbl.there hjS2
           have hnew := fun (w2 : World) (hb : Below wr.heap.size wr w2) => (hbl.below hb).stores hjS2 (r := pln (cmb p q N[j] N[P.length])) (by rw [pln_length, HCL.out])
           simp only [List.set_set] at hnew
           have HPL2 := Aside0.mk (fun W => plain_calls (cmb p q N[j] N[P.length]) W HCL.out (cmb_lim HOK.out))
           have HPN := Aside0.mk (show (pln (cmb p q N[j] N[P.length])).length = 6 by rw [pln_length, HCL.out])
           have HE := Aside0.mk (show elims i P.length (n - (j + 1)) (j + 1) (N.set j (pln (cmb p q N[j] N[P.length]))) = some M1 from HEL.out)
           have HMN := Aside0.mk (show (N.set j (pln (cmb p q N[j] N[P.length]))).length = n by rw [List.length_set, HM.out])
           have HBF := Aside0.mk (fun (w2 : World) (hb : Below wr.heap.size wr w2) (o : Nat) => (hbl.below hb).frozen o)
           have HRG := Aside0.mk hrg
           have HTH := Aside0.mk hth
           have HNW := Aside0.mk hnew
           have HI1 := Aside0.mk (show (Try.prog.info? 76).map (·.size) = some ((cmb p q N[j] N[P.length]).map (Value.int .i64)).length by rw [List.length_map, HCL.out]; exact size76)
           have HI2 := Aside0.mk (show (Try.prog.info? 76).map (·.size) = some (arr (pln (cmb p q N[j] N[P.length]))).size by rw [arr_size, HPN.out]; exact size76)
           clear hbl hrg hth hnew HEL
           generalize pln (cmb p q N[j] N[P.length]) = s at *
           generalize cmb p q N[j] N[P.length] = z at *
           go_wp2_with (first
            | (refine wpList_load_mid rfl 76 _ rfl g (j * 6) rfl (z.map (Value.int .i64)) _ HRG.out Try.underlying76 rfl HI1.out ?_)
            | ((with_reducible refine gate_callee (f := 118) rfl ?_); refine goesL_ (some 93) rfl rfl Try.func118 (by kernel_rfl) rfl #[.agg (arr z)] rfl (by (try simp only [List.map_toArray, List.map_cons, List.map_nil]); first | done | rfl) ?_; (with_reducible refine (HPL2.out _).mono ?_); rintro e w12 ⟨rfl, hb⟩; refine ⟨_, rfl, ?_⟩; have HNW2 := Aside0.mk (HNW.out _ hb); have HTH2 := Aside0.mk (show w12.there g (j * 6) 6 from fun q hq => ⟨by obtain ⟨u, hu⟩ := Option.isSome_iff_exists.1 (HTH.out q hq).1; rw [(hb.cell (World.block_lt_of_cell? wr _ hu)).trans hu]; rfl, HBF.out _ hb _⟩); have HBX2 := Aside0.mk (blk_below HBX.out hb); have HO2 := Aside0.mk (Kd.R_below HO.out hb); have HB2 := Aside0.mk (below_step HB.out hb); clear HBL HO HBX HB hb HNW HTH)
            | (refine wpList_store_mid rfl 76 _ _ rfl g (j * 6) (arr s) rfl rfl (by rw [arr_size, HPN.out]; exact HTH2.out) HI2.out (arr_one s) ?_))
           go_roundw
           case rel => exact ⟨j + 1, N.set j s, by omega, by go_num, HE, HNW2, HMN, ⟨((setCells_heap g _ _ _).1 _ HNB.out).trans HBX2.out⟩, ⟨Kd.R_step HO2.out (fun k hk_ _ => (setCells_heap g _ _ _).1 k hk_)⟩, ⟨below_setCells HGW.out _ _ _ HB2.out⟩⟩
           case measure => simp [intOf]; omega
      ·
       obtain rfl : j = n := by omega
       have hN : N = M1 := by
        have := HEL.out
        rw [Nat.sub_self, elims] at this
        exact Option.some.inj this
       subst hN
       have hbx : wr.cell? ⟨b5, 0, none⟩ = some (.int .i64 (i : Int)) := (blk_cell HBX.out 0).trans rfl
       have HGL := Aside0.mk HBL.out.lt
       go_wp2_with (first
        | ((with_reducible refine gate_builtin (b := .append) (xs := #[.tmp 96, .tmp 98]) rfl ?_); at_builtin; refine Kd.R_append (Kd.int .i64) (w0 := w) w.heap.size rfl (.tmp 96) (.tmp 98) 28 3 (.int .i64 0) 8 rfl Try.underlying28 info3 rfl (by decide) (by omega) (.slice Ap P.length cp) P (i : Int) [.int .i64 (i : Int)] (fun k_ => k_ ≠ g) (fun _ => False) rfl rfl ?aP (fun _ hk => hk.elim) ?aF ?aO ?aB ?aS ?aL ?_; (case aP => exact rfl); (case aB => exact (by repeat (first | (with_reducible first | exact HB.out | apply below_alloc | apply pw_below_drewN | apply below_drew1) | exact HB.out))); (case aF => exact (fun k_ hk => by have h1 := HGL.out; have h2 : wr.heap.size ≤ k_ := Nat.le_trans (by simp) hk; show k_ ≠ g; omega)); (case aO => exact (by (with_reducible repeat (first | apply Kd.R_alloc | apply Kd.R_drewN | apply Kd.R_drew)); exact HO.out)); (case aS => exact (below_size (by repeat (first | (with_reducible first | exact HB.out | apply below_alloc | apply pw_below_drewN | apply below_drew1) | exact HB.out)))); (case aL => have := HTN.out; omega); intro v105 w12 ho hb hg hat; have HBL2 := Aside0.mk (show Bl w12 g N c from by first | exact HBL.out.move (hg.block g HGL.out (fun e_ => HO.out.1 g e_.symm rfl)) | exact (HBL.out.alloc _).move (hg.block g (Nat.lt_of_lt_of_le HGL.out (by simp)) (fun e_ => HO.out.1 g e_.symm rfl))); have n1_ := Aside0.mk (hb); have n2_ := Aside0.mk (ho); clear HB; clear HO; have HB := n1_; have HO := n2_; clear n1_ n2_; clear ho hb hg hat))
       go_roundw
       case rel => exact ⟨i + 1, N, P ++ [(i : Int)], by omega, by go_num, HS2, HBL2, HM, ⟨by have := HTN.out; simp; omega⟩, ⟨by have := HPI2.out; simp; omega⟩, HO, HB⟩
       case measure => simp [intOf]; omega
  ·
   obtain rfl : i = 6 := by omega
   have hf : M = Mf ∧ P = Pf := by
    have := HRC.out
    rw [Nat.sub_self, redc] at this
    have := Option.some.inj this
    exact ⟨congrArg Prod.fst this, congrArg Prod.snd this⟩
   obtain ⟨rfl, rfl⟩ := hf
   obtain ⟨Ap, cp, ep⟩ := Kd.R_slice HO.out
   subst ep
   have htn := HPL.out
   have hlc := HLC.out
   have hle : P.length ≤ c := by omega
   go_wp2_with fail
   go_ret2
   refine ⟨_, _, rfl, HBL.out.R HGW.out trivial (by rw [HM.out]; exact htn) HCM.out, ?_, HB.out⟩
   exact Kd.R_mono HO.out (fun k hk => by simp [Value.ownBlock]; exact fun e => hk e)
def strike_reduced.f (l : List S76) : Option (List S76 × List Int) := if 0 < l.length ∧ l.length < 1000 then (red (l.map L6)).map fun x => ((x.1.take x.2.length).map mk6, x.2) else none
theorem strike_reduced.calls (A0 : Option Addr) (c0 : Nat) (l0 : List S76) (r1 : List S76) (r2 : List Int) (w : World) (hr0 : Kd.C k76 w A0 l0.length l0) (hc0 : l0.length ≤ c0) (h : strike_reduced.f l0 = some (r1, r2)) :
  Calls Try.prog 111 #[.slice A0 l0.length c0] w fun e w' => ∃ v0_ v1_ : Value, e = .returned (.tuple #[v0_, v1_]) ∧ Kd.R k76 76 w' w.heap.size (fun _ => True) v0_ r1 ∧ Kd.R (Kd.int .i64) 3 w' w.heap.size (fun k => some k ≠ v0_.ownBlock) v1_ r2 ∧ Below w.heap.size w w' := by
 unfold strike_reduced.f at h
 split at h
 case isFalse => cases h
 rename_i hc
 obtain ⟨⟨Mf, Pf⟩, hx, e⟩ := Option.map_eq_some_iff.1 h
 obtain ⟨rfl, rfl⟩ := Prod.mk.inj e
 exact reduced_calls A0 c0 l0 Mf Pf w hr0 hc0 hc.1 hc.2 hx
def strike_rank.f (l : List S76) : Option Int := (strike_reduced.f l).map fun x => (x.2.length : Int)
set_option maxHeartbeats 1000000 in
set_option maxRecDepth 100000 in
theorem strike_rank.calls (A0 : Option Addr) (c0 : Nat) (l0 : List S76) (r : Int) (w : World) (hr0 : Kd.C k76 w A0 l0.length l0) (hc0 : l0.length ≤ c0) (h : strike_rank.f l0 = some r) :
  Calls Try.prog 72 #[.slice A0 l0.length c0] w fun e w' => e = .returned (.int .i64 r) ∧ Below w.heap.size w w' := by
 obtain ⟨⟨r1, r2⟩, hx, rfl⟩ := Option.map_eq_some_iff.1 h
 have HX := Aside0.mk (strike_reduced.calls A0 c0 l0 r1 r2 w hr0 hc0 hx)
 clear hr0 hc0 h hx
 have HB := Aside0.mk (Below.refl w.heap.size w)
 go_enter Try.func72, Try.ntmps72
 go_wp2_with (first
  | ((with_reducible refine gate_callee (f := 111) rfl ?_); refine goesL_ (some 7) rfl rfl Try.func111 (by kernel_rfl) rfl #[.slice A0 l0.length c0] rfl (by (try simp only [List.map_toArray, List.map_cons, List.map_nil]); first | done | rfl) ?_; (with_reducible refine HX.out.mono ?_); rintro e w9 ⟨v0, v1, rfl, ho0, ho1, hb⟩; refine ⟨_, rfl, ?_⟩; obtain ⟨Ap, cp, ep⟩ := Kd.R_slice ho1; subst ep; have HB2 := Aside0.mk hb; clear ho0 ho1 hb))
 go_ret
 exact ⟨rfl, HB2.out⟩
end Go.Proofs.Ytdneelgnmnpanaa.P
end
section
namespace Go.Proofs.Ytdneelgnmnpanaa.P
open Go.RowKit Go.Proofs.YtdneelgnmnpanaaW.PrintWords Go.Proofs.YtdneelgnmnpanaaW.PrintLast Go.Proofs.YtdneelgnmnpanaaW.PrintMore
set_option linter.unusedVariables false
set_option linter.unusedSimpArgs false
def nzi : List Int → Int
  | [] => -1
  | x :: l => if x ≠ 0 then 0 else if nzi l < 0 then -1 else nzi l + 1
theorem nzi_at : ∀ (l : List Int) (n : Nat) (hn : n < l.length), (∀ k, k < n → l.getD k 0 = 0) → l[n] ≠ 0 → nzi l = n
  | [], n, hn, _, _ => by simp at hn
  | x :: l, 0, hn, _, h0 => by rw [nzi, if_pos (by simpa using h0)]; rfl
  | x :: l, n + 1, hn, h, h0 => by
    have hx := h 0 (by omega)
    simp only [List.getD_cons_zero] at hx
    rw [nzi, if_neg (fun hh => hh hx), nzi_at l n (by simpa using hn) (fun k hk => by have := h (k + 1) (by omega); simpa using this) (by simpa using h0), if_neg (by omega)]
    omega
theorem nzi_none : ∀ (l : List Int), (∀ k, k < l.length → l.getD k 0 = 0) → nzi l = -1
  | [], _ => rfl
  | x :: l, h => by
    have hx := h 0 (by simp)
    simp only [List.getD_cons_zero] at hx
    rw [nzi, if_neg (fun hh => hh hx), nzi_none l (fun k hk => by have := h (k + 1) (by simpa using hk); simpa using this)]
    rfl
theorem nzi_lt : ∀ (l : List Int), nzi l < l.length
  | [] => by simp [nzi]
  | x :: l => by
    have := nzi_lt l
    rw [nzi]
    split
    · rw [List.length_cons]; omega
    · split <;> rw [List.length_cons] <;> omega
theorem rd_nat (l : List Int) (n : Nat) (h : n < l.length) : rd l (n : Int) = l[n] := by simp [rd, h]
theorem index_find (l : List Int) (a : Int) (hl : l.length ≤ 1000) : ∀ (d n : Nat), n + d = l.length → ∃ k r, slices_Index_int_int.l0 k l a (l.length : Int) (n : Int) = some r ∧ decide (r ≥ 0) = decide (a ∈ l.drop n) := by
  intro d
  induction d with
  | zero =>
    intro n hn
    refine ⟨1, -1, ?_, ?_⟩
    · rw [slices_Index_int_int.l0, if_neg (by omega)]
    · rw [List.drop_eq_nil_of_le (by omega)]
      simp
  | succ d ih =>
    intro n hn
    have hlt : n < l.length := by omega
    by_cases h : a = l[n]
    · refine ⟨1, (n : Int), ?_, ?_⟩
      · rw [slices_Index_int_int.l0, if_pos (by omega), if_pos (by omega), if_pos (by omega), rd_nat l n hlt, if_pos h]
      · have : a ∈ l.drop n := by rw [List.drop_eq_getElem_cons hlt, ← h]; exact List.mem_cons_self ..
        rw [decide_eq_true this, decide_eq_true (by omega)]
    · obtain ⟨k, r, h1, h2⟩ := ih (n + 1) (by omega)
      refine ⟨k + 1, r, ?_, ?_⟩
      · rw [slices_Index_int_int.l0, if_pos (by omega), if_pos (by omega), if_pos (by omega), rd_nat l n hlt, if_neg h, wrp (by omega) (by omega)]
        exact h1
      · rw [h2, List.drop_eq_getElem_cons hlt]
        have : a ∈ l[n] :: l.drop (n + 1) ↔ a ∈ l.drop (n + 1) := ⟨fun hh => by rcases List.mem_cons.1 hh with e | e; exact absurd e h; exact e, fun hh => List.mem_cons_of_mem _ hh⟩
        exact (decide_eq_decide.2 this).symm
theorem contains_calls (A0 : Option Addr) (c0 : Nat) (l0 : List Int) (a : Int) (w : World) (hr0 : Kd.C (Kd.int .i64) w A0 l0.length l0) (hc0 : l0.length ≤ c0) (hl : l0.length ≤ 1000) :
    Calls Try.prog 116 #[.slice A0 l0.length c0, .int .i64 a] w fun e w' => e = .returned (.bool (decide (a ∈ l0))) ∧ Below w.heap.size w w' := by
  obtain ⟨k, r, h1, h2⟩ := index_find l0 a hl l0.length 0 (by omega)
  have h : slices_Contains_int_int.f k l0 a = some (decide (a ∈ l0)) := by
    unfold slices_Contains_int_int.f slices_Index_int_int.f
    rw [show slices_Index_int_int.l0 k l0 a (l0.length : Int) 0 = some r from h1, Option.bind_some, h2, List.drop_zero]
  exact (slices_Contains_int_int.calls k A0 c0 l0 a _ w hr0 hc0 h).mono fun e w' hh => ⟨hh.1, hh.2.below⟩
set_option maxHeartbeats 1000000 in
set_option maxRecDepth 100000 in
theorem isnz_calls (t : Int) (w : World) : Calls Try.prog 120 #[.int .i64 t] w fun e w' => e = .returned (.bool (t != 0)) ∧ Below w.heap.size w w' := by
  obtain ⟨b, hb⟩ : ∃ b, b = (t != 0) := ⟨_, rfl⟩
  go_enter Try.func120, Try.ntmps120
  go_wp2_with fail
  go_ret
  exact ⟨rfl, Below.refl _ _⟩
set_option maxHeartbeats 2000000 in
set_option maxRecDepth 100000 in
theorem nzi_calls (A0 : Option Addr) (c0 : Nat) (l0 : List Int) (w : World) (hr0 : Kd.C (Kd.int .i64) w A0 l0.length l0) (hc0 : l0.length ≤ c0) (hl : l0.length ≤ 1000) :
    Calls Try.prog 119 #[.slice A0 l0.length c0, .func (.func 120) #[] #[]] w fun e w' => e = .returned (.int .i64 (nzi l0)) ∧ Below w.heap.size w w' := by
  have HR0 := Aside0.mk hr0
  have HC0 := Aside0.mk hc0
  have HL := Aside0.mk hl
  clear hr0 hc0
  have HB := Aside0.mk (Below.refl w.heap.size w)
  go_enter Try.func119, Try.ntmps119
  go_wp2_with fail
  go_loopw [8] (fun i w' => ∃ n : Nat, n ≤ l0.length ∧ i = .int .i64 n ∧ Aside0 (∀ k, k < n → l0.getD k 0 = 0) ∧ Aside0 (Below w.heap.size w w')) (fun i _ => l0.length - (intOf i).toNat)
  case atStart => exact ⟨0, by omega, rfl, ⟨fun q hq => absurd hq (by omega)⟩, by first | exact HB | exact ⟨HB.out.drew⟩⟩
  case round =>
    clear HB
    obtain ⟨n, hn, rfl, HA, HB⟩ := hrel
    by_cases hlt : n < l0.length
    · have p1 : 0 ≤ (n : Int) := by omega
      have q1 : (n : Int) < (l0.length : Int) := by omega
      obtain ⟨ad1, e1, hx0⟩ := Kd.at_int HR0.out (n : Int) p1 q1
      cases e1
      replace hx0 := (HB.out.cell (World.block_lt_of_cell? w _ hx0)).trans hx0
      rw [rd_nat l0 n hlt] at hx0
      simp only [Int.toNat_natCast] at hx0
      obtain ⟨x, hx⟩ : ∃ x, x = l0[n] := ⟨_, rfl⟩
      rw [← hx] at hx0
      have HX := Aside0.mk hx
      have HY := Aside0.mk (fun W => isnz_calls x W)
      obtain ⟨b, hb⟩ : ∃ b, b = (x != 0) := ⟨_, rfl⟩
      rw [← hb] at HY
      have HBB := Aside0.mk hb
      clear hx hb
      cases b with
      | true =>
        go_wp2_with (first
          | ((with_reducible refine gate_dst (N := 16) rfl ?_); refine goesC_ (some 16) rfl rfl 11 #[] rfl Try.func120 (by kernel_rfl) rfl rfl #[.int .i64 x] (by (try simp only [List.map_toArray, List.map_cons, List.map_nil]); first | done | rfl) ?_; (with_reducible refine (HY.out _).mono ?_); rintro e w9 ⟨rfl, hb⟩; refine ⟨_, rfl, ?_⟩; have n0_ := Aside0.mk (below_step (by repeat (first | (with_reducible first | exact HB.out | apply below_alloc | apply pw_below_drewN | apply below_drew1) | exact HB.out)) hb); clear HB; have HB := n0_; clear n0_; (try clear hb)))
        go_ret
        refine ⟨?_, HB.out⟩
        have h1 := HBB.out.symm
        rw [nzi_at l0 n hlt HA.out (by rw [← HX.out]; simpa using h1)]
        rfl
      | false =>
        go_wp2_with (first
          | ((with_reducible refine gate_dst (N := 16) rfl ?_); refine goesC_ (some 16) rfl rfl 11 #[] rfl Try.func120 (by kernel_rfl) rfl rfl #[.int .i64 x] (by (try simp only [List.map_toArray, List.map_cons, List.map_nil]); first | done | rfl) ?_; (with_reducible refine (HY.out _).mono ?_); rintro e w9 ⟨rfl, hb⟩; refine ⟨_, rfl, ?_⟩; have n0_ := Aside0.mk (below_step (by repeat (first | (with_reducible first | exact HB.out | apply below_alloc | apply pw_below_drewN | apply below_drew1) | exact HB.out)) hb); clear HB; have HB := n0_; clear n0_; (try clear hb)))
        go_roundw
        case rel =>
          refine ⟨n + 1, by omega, by go_num, ⟨fun k hk => ?_⟩, HB⟩
          by_cases hk2 : k < n
          · exact HA.out k hk2
          · obtain rfl : k = n := by omega
            have h1 := HBB.out.symm
            have h2 : x = 0 := by simpa using h1
            have h3 : l0.getD k 0 = l0[k] := by rw [List.getD_eq_getElem?_getD, List.getElem?_eq_getElem hlt]; rfl
            exact h3.trans (HX.out.symm.trans h2)
        case measure => simp [intOf]; omega
    · obtain rfl : n = l0.length := by omega
      go_wp2_with fail
      go_ret
      exact ⟨by rw [nzi_none l0 HA.out]; rfl, HB.out⟩
end Go.Proofs.Ytdneelgnmnpanaa.P
end
section
namespace Go.Proofs.Ytdneelgnmnpanaa.P
open Go.RowKit Go.Proofs.YtdneelgnmnpanaaW.PrintWords Go.Proofs.YtdneelgnmnpanaaW.PrintLast Go.Proofs.YtdneelgnmnpanaaW.PrintMore
set_option linter.unusedVariables false
set_option linter.unusedSimpArgs false
def slices_Clone_int_int.f (l0 : List Int) : Option (List Int) := if l0.length < 17592186044416 then some l0 else none
set_option maxHeartbeats 1000000 in
set_option maxRecDepth 100000 in
theorem slices_Clone_int_int.calls (A0 : Option Addr) (c0 : Nat) (l0 : List Int) (r : List Int) (w : World) (hr0 : Kd.C (Kd.int .i64) w A0 l0.length l0) (hc0 : l0.length ≤ c0) (h : slices_Clone_int_int.f l0 = some r) :
    Calls Try.prog 79 #[.slice A0 l0.length c0] w fun e w' => ∃ v0_ : Value, e = .returned (v0_) ∧ Kd.R (Kd.int .i64) 3 w' w.heap.size (fun _ => True) v0_ r ∧ Below w.heap.size w w' := by
  unfold slices_Clone_int_int.f at h
  by_cases hl : l0.length < 17592186044416
  case neg => rw [if_neg hl] at h; cases h
  rw [if_pos hl] at h
  obtain rfl := Option.some.inj h
  clear h
  have HB := Aside0.mk (Below.refl w.heap.size w)
  have hu3 := Try.underlying3
  cases A0 with
  | none =>
    obtain rfl : l0 = [] := by
      cases l0 with
      | nil => rfl
      | cons x r => obtain ⟨ad, e, _⟩ := hr0.2.2 (by simp); cases e
    have hnil : ∀ W, (binOp .eql 28 (.slice none 0 c0) (.slice none 0 0)).run Try.prog W = .ok (.bool true) W := fun W => Lib.run_eql_slice_nil W _ _ none 0 c0 0 0 Try.underlying28
    clear hr0 hc0
    go_enter Try.func79, Try.ntmps79
    go_wp2_with fail
    go_ret
    exact ⟨_, rfl, Kd.R_nil _ _ _ _ _, HB.out⟩
  | some ad =>
    have hnil : ∀ W, (binOp .eql 28 (.slice (some ad) l0.length c0) (.slice none 0 0)).run Try.prog W = .ok (.bool false) W := fun W => Lib.run_eql_slice_nil W _ _ (some ad) _ c0 0 0 Try.underlying28
    have HR0 := Aside0.mk hr0
    have Ny101 := Aside0.mk (show ([] : List Int) = ([] : List Int) from rfl)
    obtain ⟨y101, hy101⟩ : ∃ y_ : List Int, y_ = (([] : List Int)) := ⟨_, rfl⟩
    obtain ⟨y104, hy104⟩ : ∃ y_ : List Int, y_ = (y101 ++ l0) := ⟨_, rfl⟩
    have HY := Aside0.mk (show y104 = l0 by rw [hy104, hy101]; rfl)
    have LMc2 := Aside0.mk (show y101.length + l0.length < 17592186044416 by rw [hy101]; simpa using hl)
    clear Ny101
    have Ny101 := Aside0.mk hy101
    have Ny104 := Aside0.mk hy104
    clear hr0 hc0 hl hy101 hy104
    go_enter Try.func79, Try.ntmps79
    go_wp2_with (first | ((with_reducible refine gate_dst (N := 5) rfl ?_); refine Kd.R_lit (Kd.int .i64) _ 3 ?hg (N := 5) ?hd (xs := ([] : List Int)) (inner := []) (ok := fun _ => True) (okp := fun _ => True) ?hr ?hp (fun _ hk => hk) trivial (Below.refl _ _) (Nat.le_refl _) (by simp) ?_; (case hd => rfl); (case hg => rfl); (case hr => first | (go_simp; done) | (go_simp; rfl)); (case hp => exact (Reps.none _ _)); intro v102 w3 ho4 hb hg_ hnew_; clear hg_ hnew_; (first | rw [← Ny101.out] at ho4 | (simp only [Int.reduceToNat] at ho4; rw [← Ny101.out] at ho4)); have n0_ := Aside0.mk (Kd.R_lower ho4 (below_size (by repeat (first | (with_reducible first | exact HB.out | apply below_alloc | apply pw_below_drewN | apply below_drew1) | exact HB.out)))); have n1_ := Aside0.mk (below_step (by repeat (first | (with_reducible first | exact HB.out | apply below_alloc | apply pw_below_drewN | apply below_drew1) | exact HB.out)) hb); clear HB; have HO103 := n0_; have HB := n1_; clear n0_ n1_; clear hb ho4) | ((with_reducible refine gate_builtin (b := .append) (xs := #[.tmp 5, .tmp 6]) rfl ?_); at_builtin; refine Kd.R_append_rows (Kd.int .i64) (w0 := w) w.heap.size rfl (.tmp 5) (.tmp 6) 28 3 (.int .i64 0) 8 rfl Try.underlying28 info3 rfl (by decide) (by omega) v102 y101 l0 _ _ _ (fun _ => True) (fun _ => False) rfl rfl ?aO ?aR (fun _ _ h => h) (fun _ h => h.elim) ?aF ?aB ?aS ?aL ?_; (case aR => repeat (first | exact (Kd.C_below HR0.out HB.out) | (with_reducible refine Kd.C_alloc ?_ _) | (with_reducible refine Kd.C_drewN ?_ _) | (with_reducible refine Kd.C_drew ?_))); (case aB => exact (by repeat (first | (with_reducible first | exact HB.out | apply below_alloc | apply pw_below_drewN | apply below_drew1) | exact HB.out))); (case aF => exact (fun _ _ => trivial)); (case aO => exact (by (with_reducible repeat (first | apply Kd.R_alloc | apply Kd.R_drewN | apply Kd.R_drew)); exact HO103.out)); (case aS => exact (below_size (by repeat (first | (with_reducible first | exact HB.out | apply below_alloc | apply pw_below_drewN | apply below_drew1) | exact HB.out)))); (case aL => have := LMc2.out; omega); intro v105 w5 ho hb hg hat; rw [← Ny104.out] at ho; have n0_ := Aside0.mk (hb); have n1_ := Aside0.mk (ho); clear HB; clear HO103; have HB := n0_; have HO106 := n1_; clear n0_ n1_; clear ho hb hg hat))
    go_ret
    exact ⟨_, rfl, by rw [← HY.out]; exact HO106.out, HB.out⟩
end Go.Proofs.Ytdneelgnmnpanaa.P
end
section
namespace Go.Proofs.Ytdneelgnmnpanaa.P
open Go.RowKit Go.Proofs.YtdneelgnmnpanaaW.PrintWords Go.Proofs.YtdneelgnmnpanaaW.PrintLast Go.Proofs.YtdneelgnmnpanaaW.PrintMore
set_option linter.unusedVariables false
set_option linter.unusedSimpArgs false
instance (x : Int) : Decidable (Lim x) := by unfold Lim; infer_instance
def frg : Nat → Nat → List Int → Nat
 | 0, f, _ => f
 | d + 1, f, P => if (f : Int) ∈ P then frg d (f + 1) P else f
def AllOk (r : List Int) (p a : Int) : Prop := 0 ≤ p ∧ p < 6 ∧ Lim a ∧ Lim (r.getD p.toNat 0) ∧ Int.gcd a (r.getD p.toNat 0) ≠ 0 ∧ Lim (a.tdiv (Int.gcd a (r.getD p.toNat 0)) * r.getD p.toNat 0)
instance (r : List Int) (p a : Int) : Decidable (AllOk r p a) := by unfold AllOk; infer_instance
def alls : List (List Int × Int) → Int → Option Int
 | [], a => some a
 | x :: l, a => if AllOk x.1 x.2 a then alls l (a.tdiv (Int.gcd a (x.1.getD x.2.toNat 0)) * x.1.getD x.2.toNat 0) else none
def OutOk (free : Nat) (all : Int) (r : List Int) (p : Int) : Prop := 0 ≤ p ∧ p < 6 ∧ Lim all ∧ Lim (r.getD free 0) ∧ r.getD p.toNat 0 ≠ 0 ∧ Lim (-(r.getD free 0) * all.tdiv (r.getD p.toNat 0))
instance (free : Nat) (all : Int) (r : List Int) (p : Int) : Decidable (OutOk free all r p) := by unfold OutOk; infer_instance
def outs (free : Nat) (all : Int) : List (List Int × Int) → List Int → Option (List Int)
 | [], o => some o
 | x :: l, o => if OutOk free all x.1 x.2 then outs free all l (o.set x.2.toNat (-(x.1.getD free 0) * all.tdiv (x.1.getD x.2.toNat 0))) else none
def fin (o : List Int) (count : Nat) : Option (List Int) :=
 if (∀ x ∈ o, Lim x) ∧ 0 ≤ nzi ((pln o).take count) then
  some (if (pln o).getD (nzi ((pln o).take count)).toNat 0 < 0 then ((pln o).map (fun x => -x)).take count else (pln o).take count)
 else none
def sol (R : List (List Int)) (P : List Int) (count : Nat) : Option (List Int × Bool) :=
 if (count : Int) - P.length ≠ 1 then some ([], false)
 else if ((frg 7 0 P : Int)) ∉ P ∧ frg 7 0 P < 6 ∧ R.length = P.length then
  (alls (R.zip P) 1).bind fun all => (outs (frg 7 0 P) all (R.zip P) (zeros6.set (frg 7 0 P) all)).bind fun o => (fin o count).map fun s => (s, true)
 else none
def strike_solution.f (l : List S76) (count : Int) : Option (List Int × Bool) :=
 if 0 ≤ count ∧ count ≤ 6 then (strike_reduced.f l).bind fun x => sol (x.1.map L6) x.2 count.toNat else none
theorem elims_length (i top : Nat) : ∀ (d j : Nat) (M M' : List (List Int)), elims i top d j M = some M' → M'.length = M.length
 | 0, j, M, M', h => by rw [elims] at h; rw [← Option.some.inj h]
 | d + 1, j, M, M', h => by
  rw [elims] at h
  obtain ⟨N, h1, h2⟩ := Option.bind_eq_some_iff.1 h
  rw [elims_length i top d (j + 1) N M' h2]
  unfold elim at h1
  split at h1
  ·
   rw [← Option.some.inj h1]
  ·
   split at h1
   ·
    rw [← Option.some.inj h1]; simp
   ·
    cases h1
theorem redc_places : ∀ (d i : Nat) (M : List (List Int)) (P : List Int) (Mf : List (List Int)) (Pf : List Int), redc d i M P = some (Mf, Pf) → Pf.length ≤ P.length + d ∧ Mf.length = M.length
 | 0, i, M, P, Mf, Pf, h => by
  rw [redc] at h
  obtain ⟨rfl, rfl⟩ := Prod.mk.inj (Option.some.inj h)
  exact ⟨Nat.le_refl _, rfl⟩
 | d + 1, i, M, P, Mf, Pf, h => by
  rw [redc] at h
  obtain ⟨⟨M1, P1⟩, h1, h2⟩ := Option.bind_eq_some_iff.1 h
  have h3 := redc_places d (i + 1) M1 P1 Mf Pf h2
  unfold stepc at h1
  split at h1
  ·
   obtain ⟨rfl, rfl⟩ := Prod.mk.inj (Option.some.inj h1)
   exact ⟨by omega, h3.2⟩
  ·
   obtain ⟨M2, h4, h5⟩ := Option.bind_eq_some_iff.1 h1
   obtain ⟨rfl, rfl⟩ := Prod.mk.inj (Option.some.inj h5)
   have h6 := elims_length _ _ _ _ _ _ h4
   rw [swp_length] at h6
   simp at h3
   exact ⟨by omega, by omega⟩
theorem red_places {M Mf : List (List Int)} {Pf : List Int} (h : red M = some (Mf, Pf)) : Pf.length ≤ 1000 := by
 have := (redc_places 6 0 M [] Mf Pf h).1
 simp at this
 omega
def solu.T11 : Bool × List (List Nat × List Nat) := (true, [([], []), ([], []), ([], []), ([], []), ([2, 3], [2, 3]), ([4], [4]), ([5], [5]), ([6], [6]), ([1, 7], [1, 7]), ([0, 8], [0, 8]), ([], []), ([], []), ([10, 11], [10, 11]), ([12], [12]), ([13], [13]), ([14], [14]), ([9, 15], [9, 15]), ([16, 8, 0, 1, 2, 3, 4, 5, 6, 7, 8, 9, 10, 11, 12, 13, 14, 15, 16], [0, 1, 16])])
def solu.B11 : List Nat := [0, 0, 0, 0, 12, 28, 60, 124, 254, 511, 0, 0, 3072, 7168, 15360, 31744, 65535, 131071]
theorem solu.tab11 : rtab .any (opsOf Try.f82 11) = solu.T11 := by kernel_rfl
theorem solu.bits11 : waitsOk solu.T11.2 solu.B11 = true := by kernel_rfl
def solu.T18 : Bool × List (List Nat × List Nat) := (true, [([], []), ([], []), ([0, 1], [0, 1]), ([2], [2]), ([], []), ([4], [4]), ([5], [5]), ([6], [6]), ([], []), ([], []), ([], []), ([9, 10], [9, 10]), ([11], [11]), ([12], [12]), ([13], [13]), ([8, 14], [8, 14]), ([7, 15], [7, 15]), ([3, 0, 1, 2, 3, 4, 5, 6, 7, 8, 9, 10, 11, 12, 13, 14, 15, 16], [3]), ([17, 16, 0, 1, 2, 3, 4, 5, 6, 7, 8, 9, 10, 11, 12, 13, 14, 15, 16], [16, 17])])
def solu.B18 : List Nat := [0, 0, 3, 7, 0, 16, 48, 112, 0, 0, 0, 1536, 3584, 7680, 15872, 32512, 65520, 131071, 262143]
theorem solu.tab18 : rtab .any (opsOf Try.f82 18) = solu.T18 := by kernel_rfl
theorem solu.bits18 : waitsOk solu.T18.2 solu.B18 = true := by kernel_rfl
theorem R_addr {α : Type} {d : Kd α} {e base : Nat} {ok : Nat → Prop} {w : World} {A : Option Addr} {n c : Nat} {xs : List α} (h : Kd.R d e w base ok (.slice A n c) xs) : ∀ ad, A = some ad → ad.spot = none := by
 obtain ⟨inner, ho⟩ := Kd.R_own h
 intro ad hA
 rcases ho.2 with ⟨hv, _⟩ | ⟨g, cap, cur, hv, _⟩
 ·
  cases hv
  cases hA
 ·
  cases hv
  cases hA
  rfl
theorem C_arr {w : World} {b n : Nat} {m : List Int} {t : TypeId} (h : w.heap[b]? = some (.cells (arr m) t (0, 0))) (hn : n ≤ m.length) (hm : m.length ≤ 1000) : Kd.C (Kd.int .i64) w (some ⟨b, 0, none⟩) (m.take n).length (m.take n) := by
 refine Kd.C_of_reads (d := (0 : Int)) (h1 := fun _ => rfl) ⟨rfl, by rw [List.length_take]; omega, fun _ => ⟨_, rfl, fun j hj => ?_⟩⟩
 have hj' : j < n := by rw [List.length_take] at hj; omega
 rw [add_plain, arr_cell h j (by omega)]
 simp [List.getElem?_take, hj', show j < m.length by omega]
theorem pln_lim {m : List Int} (h : ∀ x ∈ m, Lim x) : ∀ x ∈ pln m, Lim x := by
 unfold pln
 split
 ·
  intro x hx
  obtain ⟨y, hy, rfl⟩ := List.mem_map.1 hx
  have h1 := h y hy
  unfold Lim at *
  have : (y.tdiv (gc m)).natAbs ≤ y.natAbs := by rw [Int.natAbs_tdiv]; exact Nat.div_le_self _ _
  omega
 ·
  exact h
theorem slice76 (b n : Nat) (hn : n ≤ 6) (W : World) : (Instr.sliceAt 76 (.pointer (some ⟨b, 0, none⟩)) none (some (.int .i64 (n : Int))) none).run Try.prog W = .ok (.slice (some ⟨b, 0, none⟩) n 6) W := by
 have hl : Try.prog.arrayLen 76 = 6 := by kernel_rfl
 have he : Try.prog.elem 76 = 3 := by kernel_rfl
 have hsz : (sizeOf 3).run Try.prog W = .ok 1 W := by
  cases hq : Try.prog.info? 3 with
  | none => have := info3; rw [hq] at this; cases this
  | some j =>
   have := info3
   rw [hq] at this
   simp only [Option.map_some, Option.some.injEq, Prod.mk.injEq] at this
   simp [sizeOf, typeInfo, hq, this.2.1]
 have h := run_sliceAt_array_h (P := Try.prog) W 76 ⟨b, 0, none⟩ (by rw [hl, he]; exact Try.underlying76) .i64 (n : Int) (by omega) (by rw [hl]; omega)
 rw [h, hl, he, hsz]
 simp [Result.andThen, slicedAt, add_plain]
theorem zeros6_get (f : Nat) : zeros6.getD f 0 = 0 := by
 unfold zeros6
 rw [List.getD_eq_getElem?_getD, List.getElem?_replicate]
 split <;> rfl
theorem frg_le : ∀ (d f : Nat) (P : List Int), f ≤ frg d f P
 | 0, f, P => Nat.le_refl _
 | d + 1, f, P => by
  rw [frg]
  split
  ·
   exact Nat.le_trans (Nat.le_succ f) (frg_le d (f + 1) P)
  ·
   exact Nat.le_refl _
set_option maxHeartbeats 8000000 in
set_option maxRecDepth 100000 in
theorem sol_calls (A0 : Option Addr) (c0 : Nat) (l0 : List S76) (count : Nat) (R : List S76) (P : List Int) (r1 : List Int) (r2 : Bool) (w : World) (hr0 : Kd.C k76 w A0 l0.length l0) (hc0 : l0.length ≤ c0) (hcount : count ≤ 6) (hred : strike_reduced.f l0 = some (R, P)) (h : sol (R.map L6) P count = some (r1, r2)) :
  Calls Try.prog 82 #[.slice A0 l0.length c0, .int .i64 (count : Int)] w fun e w' => ∃ v0_ : Value, e = .returned (.tuple #[v0_, .bool r2]) ∧ Kd.R (Kd.int .i64) 3 w' w.heap.size (fun _ => True) v0_ r1 ∧ Below w.heap.size w w' := by
 have hu76 := Try.underlying76
 have hu65 := Try.underlying65
 have hu28 := Try.underlying28
 have hu3 := Try.underlying3
 have hs76 := size76
 have hz76 := (zero_of_info info76z).1
 have HPL := Aside0.mk (show P.length ≤ 1000 from by
  unfold strike_reduced.f at hred
  split at hred
  case isFalse => cases hred
  obtain ⟨⟨Mf, Pf⟩, hx, e⟩ := Option.map_eq_some_iff.1 hred
  obtain ⟨_, rfl⟩ := Prod.mk.inj e
  exact red_places hx)
 have HX := Aside0.mk (fun W (hb : Below w.heap.size w W) => strike_reduced.calls A0 c0 l0 R P W (Kd.C_below hr0 hb) hc0 hred)
 clear hr0 hc0 hred
 have HB := Aside0.mk (Below.refl w.heap.size w)
 have HS := Aside0.mk h
 have HCT := Aside0.mk hcount
 clear h
 by_cases hne : (count : Int) - (P.length : Int) = 1
 case neg =>
  have hs := HS.out
  unfold sol at hs
  rw [if_pos hne] at hs
  obtain ⟨rfl, rfl⟩ := Prod.mk.inj (Option.some.inj hs)
  have c1 : ((count : Int) - (P.length : Int) != 1) = true := bne_iff_ne.mpr hne
  have hpl := HPL.out
  have hwr : wrap64 ((count : Int) - (P.length : Int)) = (count : Int) - (P.length : Int) := wrp (by omega) (by omega)
  clear hs hne
  go_enter Try.func82, Try.ntmps82
  go_wp2_with (first
   | ((with_reducible refine gate_callee (f := 111) rfl ?_); refine goesL_ (some 19) rfl rfl Try.func111 (by kernel_rfl) rfl #[.slice A0 l0.length c0] rfl (by (try simp only [List.map_toArray, List.map_cons, List.map_nil]); first | done | rfl) ?_; (with_reducible refine (HX.out _ HB.out).mono ?_); rintro e w9 ⟨v0, v1, rfl, ho0, ho1, hb⟩; refine ⟨_, rfl, ?_⟩; obtain ⟨Ap, cp, ep⟩ := Kd.R_slice ho1; subst ep; have HB2 := Aside0.mk (below_step HB.out hb); clear HB ho0 ho1 hb))
  go_ret2
  exact ⟨_, rfl, Kd.R_nil _ _ _ _ _, HB2.out⟩
 have hs := HS.out
 unfold sol at hs
 rw [if_neg (fun hh => hh hne)] at hs
 split at hs
 case isFalse => cases hs
 rename_i hfree
 obtain ⟨free, hfr⟩ : ∃ f, f = frg 7 0 P := ⟨_, rfl⟩
 rw [← hfr] at hs hfree
 obtain ⟨all, hall, hs2⟩ := Option.bind_eq_some_iff.1 hs
 obtain ⟨o, hout, hs3⟩ := Option.bind_eq_some_iff.1 hs2
 obtain ⟨s, hfin, hs4⟩ := Option.map_eq_some_iff.1 hs3
 obtain ⟨rfl, rfl⟩ := Prod.mk.inj hs4
 obtain ⟨f1, f2, f3⟩ := hfree
 have HNP := Aside0.mk f1
 have HFR := Aside0.mk hfr
 have HALL := Aside0.mk hall
 have HOUT := Aside0.mk hout
 have HFIN := Aside0.mk hfin
 have HRL := Aside0.mk (show R.length = P.length by rw [← f3, List.length_map])
 have c1 : ((count : Int) - (P.length : Int) != 1) = false := bne_eq_false_iff_eq.mpr hne
 have hpl := HPL.out
 have hwr : wrap64 ((count : Int) - (P.length : Int)) = (count : Int) - (P.length : Int) := wrp (by omega) (by omega)
 clear hs hs2 hs3 hs4 HS hall hout hfin f1 f3 hne hfr
 go_enter Try.func82, Try.ntmps82
 go_wp2_with (first
  | ((with_reducible refine gate_callee (f := 111) rfl ?_); refine goesL_ (some 19) rfl rfl Try.func111 (by kernel_rfl) rfl #[.slice A0 l0.length c0] rfl (by (try simp only [List.map_toArray, List.map_cons, List.map_nil]); first | done | rfl) ?_; (with_reducible refine (HX.out _ HB.out).mono ?_); rintro e w9 ⟨v0, v1, rfl, ho0, ho1, hb⟩; refine ⟨_, rfl, ?_⟩; obtain ⟨Ar, cr, er⟩ := Kd.R_slice ho0; subst er; obtain ⟨Ap, cp, ep⟩ := Kd.R_slice ho1; subst ep; have HRR := Aside0.mk (Rd.of_C (Kd.R_reads' ho0).2.2 (R_addr ho0)); have HCP := Aside0.mk (Kd.R_reads' ho1).2.2; have HCPc := Aside0.mk (Kd.R_reads' ho1).2.1; have HCRc := Aside0.mk (Kd.R_reads' ho0).2.1; have HB2 := Aside0.mk (below_step HB.out hb); clear HB ho0 ho1 hb))
 have HB9 := Aside0.mk (Below.refl w9.heap.size w9)
 have HW9 := Aside0.mk (show w.heap.size ≤ w9.heap.size from HB2.out.size)
 go_loopw [8] (fun f_ w' => ∃ f : Nat, f ≤ free ∧ f_ = .int .i64 f ∧ Aside0 (frg (7 - f) f P = free) ∧ Aside0 (Below w9.heap.size w9 w')) (fun f_ _ => 7 - (intOf f_).toNat)
 case atStart => exact ⟨0, Nat.zero_le _, rfl, ⟨HFR.out.symm⟩, HB9⟩
 case round =>
  clear HB9
  obtain ⟨f, hf, rfl, HF, HB9⟩ := hrel
  have HCC := Aside0.mk (contains_calls Ap cp P (f : Int) wr (Kd.C_below HCP.out HB9.out) HCPc.out HPL.out)
  obtain ⟨b, hb⟩ : ∃ b, b = decide ((f : Int) ∈ P) := ⟨_, rfl⟩
  rw [← hb] at HCC
  have HBB := Aside0.mk hb
  clear hb
  cases b with
  | true =>
   have hin : (f : Int) ∈ P := by have := HBB.out; simpa using this.symm
   have hff : frg (7 - (f + 1)) (f + 1) P = free := by
    have := HF.out
    rw [show 7 - f = (7 - (f + 1)) + 1 by omega, frg, if_pos hin] at this
    exact this
   have hle := frg_le (7 - (f + 1)) (f + 1) P
   rw [hff] at hle
   have HFF := Aside0.mk hff
   clear hin hff
   go_wp2_with (first
    | ((with_reducible refine gate_callee (f := 116) rfl ?_); refine goesL_ (some 29) rfl rfl Try.func116 (by kernel_rfl) rfl #[.slice Ap P.length cp, .int .i64 (f : Int)] rfl (by (try simp only [List.map_toArray, List.map_cons, List.map_nil]); first | done | rfl) ?_; (with_reducible refine HCC.out.mono ?_); rintro e w10 ⟨rfl, hb⟩; refine ⟨_, rfl, ?_⟩; have n0_ := Aside0.mk (below_step HB9.out hb); clear HB9 hb; have HB9 := n0_; clear n0_))
   go_roundw
   case rel => exact ⟨f + 1, hle, by go_num, HFF, HB9⟩
   case measure => simp [intOf]; omega
  | false =>
   have hnin : (f : Int) ∉ P := by have := HBB.out; simpa using this.symm
   have hff : f = free := by
    have := HF.out
    rw [show 7 - f = (6 - f) + 1 by omega, frg, if_neg hnin] at this
    exact this
   subst hff
   have HRZ := Aside0.mk (show alls (((R.map L6).zip P).drop 0) 1 = some all from HALL.out)
   clear hnin HF
   go_wp2_with (first
    | ((with_reducible refine gate_callee (f := 116) rfl ?_); refine goesL_ (some 29) rfl rfl Try.func116 (by kernel_rfl) rfl #[.slice Ap P.length cp, .int .i64 (f : Int)] rfl (by (try simp only [List.map_toArray, List.map_cons, List.map_nil]); first | done | rfl) ?_; (with_reducible refine HCC.out.mono ?_); rintro e w10 ⟨rfl, hb⟩; refine ⟨_, rfl, ?_⟩; have n0_ := Aside0.mk (below_step HB9.out hb); clear HB9 hb; have HB9 := n0_; clear n0_))
   go_loopw [9, 34] (fun a_ k_ w' => ∃ (k : Nat) (a : Int), k ≤ R.length ∧ k_ = .int .i64 k ∧ a_ = .int .i64 a ∧ Aside0 (alls (((R.map L6).zip P).drop k) a = some all) ∧ Aside0 (Below w9.heap.size w9 w')) (fun _ k_ _ => R.length - (intOf k_).toNat)
   case atStart => exact ⟨0, 1, Nat.zero_le _, rfl, rfl, HRZ, HB9⟩
   case round =>
    clear HRZ HB9 HCC HBB
    obtain ⟨k, a, hk, rfl, rfl, HA, HB9⟩ := hrel
    by_cases hkR : k < R.length
    ·
     have hkP : k < P.length := by rw [← HRL.out]; exact hkR
     have hkZ : k < ((R.map L6).zip P).length := by simp; omega
     have hze : ((R.map L6).zip P)[k] = (L6 R[k], P[k]) := by simp
     have ha := HA.out
     rw [List.drop_eq_getElem_cons hkZ, hze, alls] at ha
     split at ha
     case isFalse => cases ha
     rename_i hok
     obtain ⟨o1, o2, o3, o4, o5, o6⟩ : AllOk (L6 R[k]) P[k] a := hok
     replace ha : alls (((R.map L6).zip P).drop (k + 1)) (a.tdiv (Int.gcd a ((L6 R[k]).getD P[k].toNat 0)) * (L6 R[k]).getD P[k].toNat 0) = some all := ha
     obtain ⟨pn, hpn⟩ := Int.eq_ofNat_of_zero_le o1
     obtain ⟨b, ob, hAr, hrg⟩ := HRR.out (by intro e; rw [List.map_eq_nil_iff] at e; rw [e] at hkR; simp at hkR)
     obtain ⟨hr6, hrange⟩ := hrg k (L6 R[k]) (by rw [List.getElem?_map, List.getElem?_eq_getElem hkR]; rfl)
     have HRG := Aside0.mk (range_below hrange HB9.out)
     obtain ⟨adp, eadp, hxp⟩ := Kd.at_int HCP.out (k : Int) (by omega) (by omega)
     rw [rd_nat P k hkP, hpn] at hxp
     simp only [Int.toNat_natCast] at hxp
     replace hxp := (HB9.out.cell (World.block_lt_of_cell? w9 _ hxp)).trans hxp
     subst hAr
     subst eadp
     simp only [hpn, Int.toNat_natCast] at o1 o2 o3 o4 o5 o6 ha
     obtain ⟨r, hr⟩ : ∃ r, r = L6 R[k] := ⟨_, rfl⟩
     have hr6' : r.length = 6 := by rw [hr]; rfl
     rw [← hr] at o4 o5 o6 ha hr6 HRG
     have hcx : ∀ (W : World) (g : Nat), W.heap[g]? = some (.cells (arr r) 76 (0, 0)) → W.cell? ⟨g, pn, none⟩ = some (.int .i64 (r.getD pn 0)) := fun W g hh => arr_cell hh pn (by omega)
     have HCX := Aside0.mk hcx
     generalize r.getD pn 0 = x at *
     have hdv := (fun W => divisor_calls a x o3 o4 W)
     have hq : (a.tdiv (Int.gcd a x)).natAbs ≤ a.natAbs := by rw [Int.natAbs_tdiv]; exact Nat.div_le_self _ _
     have hgz : (Int.gcd a x : Int) ≠ 0 := by omega
     clear o5
     generalize (Int.gcd a x : Int) = G at *
     have HDV := Aside0.mk hdv
     clear hdv
     have HA2 := Aside0.mk ha
     have HI := Aside0.mk (show (Try.prog.info? 76).map (·.size) = some (r.map (Value.int .i64)).length by rw [List.length_map, hr6']; exact size76)
     have HI2 := Aside0.mk (show (Try.prog.info? 76).map (·.size) = some (arr r).size by rw [arr_size, hr6']; exact size76)
     have HR6 := Aside0.mk hr6'
     have hg0 : (G == 0) = false := beq_eq_false_iff_ne.mpr hgz
     have hg1 : ¬ G = 0 := hgz
     unfold Lim at o3 o6
     have w1 : IntKind.i64.wrap (a.tdiv G) = a.tdiv G := (i64_w _).trans (wrp (by omega) (by omega))
     have w2 : IntKind.i64.wrap (a.tdiv G * x) = a.tdiv G * x := (i64_w _).trans (wrp (by omega) (by omega))
     have hpn6 : (pn : Int) < 6 := o2
     have hHG := Aside0.mk (show (wr.alloc (.cells (arr zeros6) 76)).heap[wr.heap.size]? = some (.cells (arr zeros6) 76 (0, 0)) from blk_new wr _)
     have HXP := Aside0.mk hxp
     clear hze ha o1 o2 o3 o4 o6 hrange hrg hr6 hr6' hq hr hcx hxp
     go_wp2_with (first
      | (refine wpList_load_mid rfl 76 _ rfl b (ob + k * 6) rfl (r.map (Value.int .i64)) _ HRG.out Try.underlying76 rfl HI.out ?_)
      | (refine wpList_store_row rfl 76 _ _ rfl wr.heap.size (arr r) rfl rfl 76 (arr zeros6) hHG.out HI2.out (by rw [arr_size, arr_size, HR6.out]; rfl) (arr_one r) ?_))
     have hbw := below_setRow ((Below.refl wr.heap.size wr).alloc (Nat.le_refl _) (.cells (arr zeros6) 76)) (Nat.le_refl _) (arr r)
     have HSP := Aside0.mk (show (((wr.alloc (.cells (arr zeros6) 76)).setRow wr.heap.size (arr r)).drew).cell? (adp.add k) = some (.int .i64 (pn : Int)) from (hbw.cell (World.block_lt_of_cell? wr _ HXP.out)).trans HXP.out)
     have HSX := Aside0.mk (show (((wr.alloc (.cells (arr zeros6) 76)).setRow wr.heap.size (arr r)).drew).cell? ⟨wr.heap.size, pn, none⟩ = some (.int .i64 x) from HCX.out _ _ (setRow_heap _ _ _ _ _ _ hHG.out))
     have n3_ := Aside0.mk (below_drew (below_step HB9.out hbw))
     clear HB9 hbw hHG HXP HRG
     have HB9 := n3_
     clear n3_
     generalize (wr.alloc (.cells (arr zeros6) 76)).setRow wr.heap.size (arr r) = W2 at *
     generalize wr.heap.size = b11 at *
     refine start_ (n := 18) (S := fun w' => w'.cell? (adp.add k) = some (.int .i64 (pn : Int)) ∧ w'.cell? ⟨b11, pn, none⟩ = some (.int .i64 x)) (ds := []) #[false, false, false, false, false, false, false, false, false, false, false, false, false, false, false, false, false, false] (by kernel_rfl) rfl rfl ⟨HSP.out, HSX.out⟩ (fun hHeld => ?_)
     refine with_tabW solu.tab11 solu.bits11 (fun HT_ HW_ => ?_)
     refine pure_ (i := 0) (N := some 39) (v := ?_) (a' := ?_) #[true, false, false, false, false, false, false, false, false, false, false, false, false, false, false, false, false, false] rfl rfl (any_of HT_.out (by kernel_rfl)) (fun _ _ _ h => h) (Or.inl ⟨by rfl, ?_⟩) ?_ ?_
     rotate_left
     ·
      intro w'
      go_simp
      with_reducible rfl
     rotate_left
     ·
      simp only [Act.put, List.setIfInBounds_toArray, List.set_cons_zero, List.set_cons_succ, i64_w, i32_w]
      rfl
     refine pure_ (i := 1) (N := some 40) (v := ?_) (a' := ?_) #[true, true, false, false, false, false, false, false, false, false, false, false, false, false, false, false, false, false] rfl rfl (any_of HT_.out (by kernel_rfl)) (fun _ _ _ h => h) (Or.inl ⟨by rfl, ?_⟩) ?_ ?_
     rotate_left
     ·
      intro w'
      go_simp
      with_reducible rfl
     rotate_left
     ·
      simp only [Act.put, List.setIfInBounds_toArray, List.set_cons_zero, List.set_cons_succ, i64_w, i32_w]
      rfl
     refine pure_ (i := 2) (N := some 41) (v := ?_) (a' := ?_) #[true, true, true, false, false, false, false, false, false, false, false, false, false, false, false, false, false, false] rfl rfl (any_of HT_.out (by kernel_rfl)) (fun _ _ _ h => h) (Or.inl ⟨by rfl, ?_⟩) ?_ ?_
     rotate_left
     ·
      intro w'
      go_simp
      with_reducible rfl
     rotate_left
     ·
      simp only [Act.put, List.setIfInBounds_toArray, List.set_cons_zero, List.set_cons_succ, i64_w, i32_w]
      rfl
     refine pure_ (i := 3) (N := some 42) (v := ?_) (a' := ?_) #[true, true, true, true, false, false, false, false, false, false, false, false, false, false, false, false, false, false] rfl rfl (any_of HT_.out (by kernel_rfl)) (fun _ _ _ h => h) (Or.inl ⟨by rfl, ?_⟩) ?_ ?_
     rotate_left
     ·
      intro w'
      go_simp
      with_reducible rfl
     rotate_left
     ·
      simp only [Act.put, List.setIfInBounds_toArray, List.set_cons_zero, List.set_cons_succ, i64_w, i32_w]
      rfl
     refine pure_ (i := 4) (N := some 43) (v := ?_) (a' := ?_) #[true, true, true, true, true, false, false, false, false, false, false, false, false, false, false, false, false, false] rfl rfl (any_of HT_.out (by kernel_rfl)) (fun _ _ _ h => h) (Or.inl ⟨by rfl, ?_⟩) ?_ ?_
     rotate_left
     ·
      intro w'
      go_simp
      with_reducible rfl
     rotate_left
     ·
      simp only [Act.put, List.setIfInBounds_toArray, List.set_cons_zero, List.set_cons_succ, i64_w, i32_w]
      rfl
     refine pure_ (i := 10) (N := some 49) (v := ?_) (a' := ?_) #[true, true, true, true, true, false, false, false, false, false, true, false, false, false, false, false, false, false] rfl rfl (any_of HT_.out (by kernel_rfl)) (fun _ _ _ h => h) (Or.inl ⟨by rfl, ?_⟩) ?_ ?_
     rotate_left
     ·
      intro w'
      go_simp
      with_reducible rfl
     rotate_left
     ·
      simp only [Act.put, List.setIfInBounds_toArray, List.set_cons_zero, List.set_cons_succ, i64_w, i32_w]
      rfl
     refine pure_ (i := 11) (N := some 50) (v := ?_) (a' := ?_) #[true, true, true, true, true, false, false, false, false, false, true, true, false, false, false, false, false, false] rfl rfl (any_of HT_.out (by kernel_rfl)) (fun _ _ _ h => h) (Or.inl ⟨by rfl, ?_⟩) ?_ ?_
     rotate_left
     ·
      intro w'
      go_simp
      with_reducible rfl
     rotate_left
     ·
      simp only [Act.put, List.setIfInBounds_toArray, List.set_cons_zero, List.set_cons_succ, i64_w, i32_w]
      rfl
     refine pure_ (i := 12) (N := some 51) (v := ?_) (a' := ?_) #[true, true, true, true, true, false, false, false, false, false, true, true, true, false, false, false, false, false] rfl rfl (any_of HT_.out (by kernel_rfl)) (fun _ _ _ h => h) (Or.inl ⟨by rfl, ?_⟩) ?_ ?_
     rotate_left
     ·
      intro w'
      go_simp
      with_reducible rfl
     rotate_left
     ·
      simp only [Act.put, List.setIfInBounds_toArray, List.set_cons_zero, List.set_cons_succ, i64_w, i32_w]
      rfl
     refine take_ (i := 5) (N := some 44) (v := ?_) (a' := ?_) #[true, true, true, true, true, true, false, false, false, false, true, true, true, false, false, false, false, false] rfl rfl (take_ofW HT_.out HW_.out (by kernel_rfl)) (fun _ _ _ h => h) (Or.inl ⟨by rfl, ?_⟩) hHeld ?_ ?_
     rotate_left
     ·
      rintro w' ⟨s0, s1⟩
      go_simp
      with_reducible rfl
     rotate_left
     ·
      simp only [Act.put, List.setIfInBounds_toArray, List.set_cons_zero, List.set_cons_succ, i64_w, i32_w]
      rfl
     refine pure_ (i := 6) (N := some 45) (v := ?_) (a' := ?_) #[true, true, true, true, true, true, true, false, false, false, true, true, true, false, false, false, false, false] rfl rfl (any_of HT_.out (by kernel_rfl)) (fun _ _ _ h => h) (Or.inl ⟨by rfl, ?_⟩) ?_ ?_
     rotate_left
     ·
      intro w'
      go_simp
      with_reducible rfl
     rotate_left
     ·
      simp only [Act.put, List.setIfInBounds_toArray, List.set_cons_zero, List.set_cons_succ, i64_w, i32_w]
      rfl
     refine take_ (i := 7) (N := some 46) (v := ?_) (a' := ?_) #[true, true, true, true, true, true, true, true, false, false, true, true, true, false, false, false, false, false] rfl rfl (take_ofW HT_.out HW_.out (by kernel_rfl)) (fun _ _ _ h => h) (Or.inl ⟨by rfl, ?_⟩) hHeld ?_ ?_
     rotate_left
     ·
      rintro w' ⟨s0, s1⟩
      go_simp
      with_reducible rfl
     rotate_left
     ·
      simp only [Act.put, List.setIfInBounds_toArray, List.set_cons_zero, List.set_cons_succ, i64_w, i32_w]
      rfl
     refine take_ (i := 13) (N := some 52) (v := ?_) (a' := ?_) #[true, true, true, true, true, true, true, true, false, false, true, true, true, true, false, false, false, false] rfl rfl (take_ofW HT_.out HW_.out (by kernel_rfl)) (fun _ _ _ h => h) (Or.inl ⟨by rfl, ?_⟩) hHeld ?_ ?_
     rotate_left
     ·
      rintro w' ⟨s0, s1⟩
      go_simp
      with_reducible rfl
     rotate_left
     ·
      simp only [Act.put, List.setIfInBounds_toArray, List.set_cons_zero, List.set_cons_succ, i64_w, i32_w]
      rfl
     refine pure_ (i := 14) (N := some 53) (v := ?_) (a' := ?_) #[true, true, true, true, true, true, true, true, false, false, true, true, true, true, true, false, false, false] rfl rfl (any_of HT_.out (by kernel_rfl)) (fun _ _ _ h => h) (Or.inl ⟨by rfl, ?_⟩) ?_ ?_
     rotate_left
     ·
      intro w'
      go_simp
      with_reducible rfl
     rotate_left
     ·
      simp only [Act.put, List.setIfInBounds_toArray, List.set_cons_zero, List.set_cons_succ, i64_w, i32_w]
      rfl
     refine take_ (i := 15) (N := some 54) (v := ?_) (a' := ?_) #[true, true, true, true, true, true, true, true, false, false, true, true, true, true, true, true, false, false] rfl rfl (take_ofW HT_.out HW_.out (by kernel_rfl)) (fun _ _ _ h => h) (Or.inl ⟨by rfl, ?_⟩) hHeld ?_ ?_
     rotate_left
     ·
      rintro w' ⟨s0, s1⟩
      go_simp
      with_reducible rfl
     rotate_left
     ·
      simp only [Act.put, List.setIfInBounds_toArray, List.set_cons_zero, List.set_cons_succ, i64_w, i32_w]
      rfl
     refine one_ (i := 8) (N := some 47) #[true, true, true, true, true, true, true, true, true, false, true, true, true, true, true, true, false, false] rfl rfl (one_of HT_.out (by kernel_rfl)) (by decide) (fun K hK => ?_)
     refine goes_ Try.func117 (by kernel_rfl) rfl #[.int .i64 a, .int .i64 x] (by rfl) rfl rfl (by (try simp only [List.map_toArray, List.map_cons, List.map_nil]); first | done | rfl) ?_
     with_reducible refine (HDV.out _).mono ?_
     rintro e w13 ⟨rfl, hb⟩
     refine ⟨_, rfl, ?_⟩
     have n1_ := Aside0.mk ((hb.cell (World.block_lt_of_cell? _ _ HSP.out)).trans HSP.out)
     have n2_ := Aside0.mk ((hb.cell (World.block_lt_of_cell? _ _ HSX.out)).trans HSX.out)
     have n3_ := Aside0.mk (below_step HB9.out hb)
     clear HSP HSX HB9 hb
     have HSP := n1_
     have HSX := n2_
     have HB9 := n3_
     clear n1_ n2_ n3_
     refine hK.out _ _ ⟨HSP.out, HSX.out⟩ (fun hHeld => ?_)
     clear hK K
     refine norm_ (a' := ?_) ?_ ?_
     rotate_left
     ·
      show Act.put _ (some 47) _ = _
      simp only [Act.put, List.setIfInBounds_toArray, List.set_cons_zero, List.set_cons_succ, i64_w, i32_w]
      rfl
     refine pure_ (i := 9) (N := some 48) (v := ?_) (a' := ?_) #[true, true, true, true, true, true, true, true, true, true, true, true, true, true, true, true, false, false] rfl rfl (any_of HT_.out (by kernel_rfl)) (fun _ _ _ h => h) (Or.inl ⟨by rfl, ?_⟩) ?_ ?_
     rotate_left
     ·
      intro w'
      go_simp
      with_reducible rfl
     rotate_left
     ·
      simp only [Act.put, List.setIfInBounds_toArray, List.set_cons_zero, List.set_cons_succ, i64_w, i32_w]
      rfl
     refine pure_ (i := 16) (N := some 55) (v := ?_) (a' := ?_) #[true, true, true, true, true, true, true, true, true, true, true, true, true, true, true, true, true, false] rfl rfl (any_of HT_.out (by kernel_rfl)) (fun _ _ _ h => h) (Or.inl ⟨by rfl, ?_⟩) ?_ ?_
     rotate_left
     ·
      intro w'
      go_simp
      with_reducible rfl
     rotate_left
     ·
      simp only [Act.put, List.setIfInBounds_toArray, List.set_cons_zero, List.set_cons_succ, i64_w, i32_w]
      rfl
     refine pure_ (i := 17) (N := some 9) (v := ?_) (a' := ?_) #[true, true, true, true, true, true, true, true, true, true, true, true, true, true, true, true, true, true] rfl rfl (any_of HT_.out (by kernel_rfl)) (fun _ _ _ h => h) (Or.inl ⟨by rfl, ?_⟩) ?_ ?_
     rotate_left
     ·
      intro w'
      go_simp
      with_reducible rfl
     rotate_left
     ·
      simp only [Act.put, List.setIfInBounds_toArray, List.set_cons_zero, List.set_cons_succ, i64_w, i32_w]
      rfl
     refine done_ (done_of HT_.out (by kernel_rfl)) ?_
     go_wp2_with fail
     go_roundw
     case rel => exact ⟨k + 1, a.tdiv G * x, by omega, by go_num, rfl, HA2, HB9⟩
     case measure => simp [intOf]; omega
    ·
     obtain rfl : k = R.length := by omega
     have ha : a = all := by
      have := HA.out
      rw [List.drop_eq_nil_of_le (by simp; omega), alls] at this
      exact Option.some.inj this
     subst ha
     have hfr6 : (f : Int) < 6 := by omega
     have hz0 : (arr zeros6)[f]? = some (.int .i64 0) := by
      rw [arr_get _ _ (by show f < 6; omega), zeros6_get]
     have HOZ := Aside0.mk (show outs f a (((R.map L6).zip P).drop 0) (zeros6.set f a) = some o from HOUT.out)
     have HOL := Aside0.mk (show (zeros6.set f a).length = 6 by simp [zeros6])
     have HB12 := Aside0.mk (show (wr.alloc (.cells ((arr zeros6).setIfInBounds f (.int .i64 a)) 76)).heap[wr.heap.size]? = some (.cells (arr (zeros6.set f a)) 76 (0, 0)) from by rw [arr_set]; exact blk_new wr _)
     have HB93 := Aside0.mk (show Below w9.heap.size w9 (wr.alloc (.cells ((arr zeros6).setIfInBounds f (.int .i64 a)) 76)) from HB9.out.alloc HB9.out.size _)
     have HG12 := Aside0.mk (show w9.heap.size ≤ wr.heap.size from HB9.out.size)
     go_wp2_with fail
     clear hz0 HB9 HA HALL HOUT
     generalize wr.alloc (.cells ((arr zeros6).setIfInBounds f (.int .i64 a)) 76) = W3 at *
     generalize wr.heap.size = b12 at *
     generalize zeros6.set f a = q at *
     go_loopw [62] (fun k_ w' => ∃ (k : Nat) (q : List Int), k ≤ R.length ∧ k_ = .int .i64 k ∧ Aside0 (outs f a (((R.map L6).zip P).drop k) q = some o) ∧ Aside0 (q.length = 6) ∧ Aside0 (w'.heap[b12]? = some (.cells (arr q) 76 (0, 0))) ∧ Aside0 (Below w9.heap.size w9 w')) (fun k_ _ => R.length - (intOf k_).toNat)
     case atStart => exact ⟨0, q, Nat.zero_le _, rfl, HOZ, HOL, HB12, HB93⟩
     case round =>
      clear HOZ HOL HB12 HB93 q
      obtain ⟨k, q, hk, rfl, HA, HQL, HB12, HB9⟩ := hrel
      by_cases hkR : k < R.length
      ·
       have hkP : k < P.length := by rw [← HRL.out]; exact hkR
       have hkZ : k < ((R.map L6).zip P).length := by simp; omega
       have hze : ((R.map L6).zip P)[k] = (L6 R[k], P[k]) := by simp
       have ha := HA.out
       rw [List.drop_eq_getElem_cons hkZ, hze, outs] at ha
       split at ha
       case isFalse => cases ha
       rename_i hok
       obtain ⟨o1, o2, o3, o4, o5, o6⟩ : OutOk f a (L6 R[k]) P[k] := hok
       replace ha : outs f a (((R.map L6).zip P).drop (k + 1)) (q.set P[k].toNat (-((L6 R[k]).getD f 0) * a.tdiv ((L6 R[k]).getD P[k].toNat 0))) = some o := ha
       obtain ⟨pn, hpn⟩ := Int.eq_ofNat_of_zero_le o1
       obtain ⟨b, ob, hAr, hrg⟩ := HRR.out (by intro e; rw [List.map_eq_nil_iff] at e; rw [e] at hkR; simp at hkR)
       obtain ⟨hr6, hrange⟩ := hrg k (L6 R[k]) (by rw [List.getElem?_map, List.getElem?_eq_getElem hkR]; rfl)
       have HRG := Aside0.mk (range_below hrange HB9.out)
       obtain ⟨adp, eadp, hxp⟩ := Kd.at_int HCP.out (k : Int) (by omega) (by omega)
       rw [rd_nat P k hkP, hpn] at hxp
       simp only [Int.toNat_natCast] at hxp
       replace hxp := (HB9.out.cell (World.block_lt_of_cell? w9 _ hxp)).trans hxp
       subst hAr
       subst eadp
       simp only [hpn, Int.toNat_natCast] at o1 o2 o3 o4 o5 o6 ha
       obtain ⟨r, hr⟩ : ∃ r, r = L6 R[k] := ⟨_, rfl⟩
       have hr6' : r.length = 6 := by rw [hr]; rfl
       rw [← hr] at o4 o5 o6 ha hr6 HRG
       have hcx : ∀ (W : World) (g : Nat), W.heap[g]? = some (.cells (arr r) 76 (0, 0)) → W.cell? ⟨g, pn, none⟩ = some (.int .i64 (r.getD pn 0)) := fun W g hh => arr_cell hh pn (by omega)
       have hcy : ∀ (W : World) (g : Nat), W.heap[g]? = some (.cells (arr r) 76 (0, 0)) → W.cell? ⟨g, f, none⟩ = some (.int .i64 (r.getD f 0)) := fun W g hh => arr_cell hh f (by omega)
       have HCX := Aside0.mk hcx
       have HCY := Aside0.mk hcy
       obtain ⟨x, hx⟩ : ∃ x, x = r.getD pn 0 := ⟨_, rfl⟩
       obtain ⟨y, hy⟩ : ∃ y, y = r.getD f 0 := ⟨_, rfl⟩
       rw [← hx] at o5 o6 ha HCX
       rw [← hy] at o4 o6 ha HCY
       have HA2 := Aside0.mk ha
       have HI := Aside0.mk (show (Try.prog.info? 76).map (·.size) = some (r.map (Value.int .i64)).length by rw [List.length_map, hr6']; exact size76)
       have HI2 := Aside0.mk (show (Try.prog.info? 76).map (·.size) = some (arr r).size by rw [arr_size, hr6']; exact size76)
       have HR6 := Aside0.mk hr6'
       have hg0 : (x == 0) = false := beq_eq_false_iff_ne.mpr o5
       have hg1 : ¬ x = 0 := o5
       have hq : (a.tdiv x).natAbs ≤ a.natAbs := by rw [Int.natAbs_tdiv]; exact Nat.div_le_self _ _
       unfold Lim at o3 o4 o6
       have w1 : IntKind.i64.wrap (a.tdiv x) = a.tdiv x := (i64_w _).trans (wrp (by omega) (by omega))
       have w2 : IntKind.i64.wrap (-y * a.tdiv x) = -y * a.tdiv x := (i64_w _).trans (wrp (by omega) (by omega))
       have w3 : IntKind.i64.wrap (-y) = -y := (i64_w _).trans (wrp (by omega) (by omega))
       have hpn6 : (pn : Int) < 6 := o2
       have hHG := Aside0.mk (show (wr.alloc (.cells (arr zeros6) 76)).heap[wr.heap.size]? = some (.cells (arr zeros6) 76 (0, 0)) from blk_new wr _)
       have HXP := Aside0.mk hxp
       clear hze ha o1 o2 o3 o4 o5 o6 hrange hrg hr6 hr6' hq hr hcx hcy hxp hx hy
       go_wp2_with (first
        | (refine wpList_load_mid rfl 76 _ rfl b (ob + k * 6) rfl (r.map (Value.int .i64)) _ HRG.out Try.underlying76 rfl HI.out ?_)
        | (refine wpList_store_row rfl 76 _ _ rfl wr.heap.size (arr r) rfl rfl 76 (arr zeros6) hHG.out HI2.out (by rw [arr_size, arr_size, HR6.out]; rfl) (arr_one r) ?_))
       have hbw := below_setRow ((Below.refl wr.heap.size wr).alloc (Nat.le_refl _) (.cells (arr zeros6) 76)) (Nat.le_refl _) (arr r)
       have HSP := Aside0.mk (show (((wr.alloc (.cells (arr zeros6) 76)).setRow wr.heap.size (arr r)).drew).cell? (adp.add k) = some (.int .i64 (pn : Int)) from (hbw.cell (World.block_lt_of_cell? wr _ HXP.out)).trans HXP.out)
       have HSX := Aside0.mk (show (((wr.alloc (.cells (arr zeros6) 76)).setRow wr.heap.size (arr r)).drew).cell? ⟨wr.heap.size, pn, none⟩ = some (.int .i64 x) from HCX.out _ _ (setRow_heap _ _ _ _ _ _ hHG.out))
       have HSY := Aside0.mk (show (((wr.alloc (.cells (arr zeros6) 76)).setRow wr.heap.size (arr r)).drew).cell? ⟨wr.heap.size, f, none⟩ = some (.int .i64 y) from HCY.out _ _ (setRow_heap _ _ _ _ _ _ hHG.out))
       have HB12n := Aside0.mk (show (((wr.alloc (.cells (arr zeros6) 76)).setRow wr.heap.size (arr r)).drew).heap[b12]? = some (.cells (arr q) 76 (0, 0)) from (hbw.block _ (blk_lt HB12.out)).trans HB12.out)
       have n3_ := Aside0.mk (below_drew (below_step HB9.out hbw))
       have hql := HQL.out
       have hc12 := arr_cell HB12n.out pn (by omega)
       have hf12 := arr_frozen HB12n.out pn
       clear HB9 hbw hHG HXP HRG HB12
       have HB9 := n3_
       have HST := Aside0.mk (arr_store HB12n.out pn (-y * a.tdiv x))
       clear n3_
       generalize (wr.alloc (.cells (arr zeros6) 76)).setRow wr.heap.size (arr r) = W2 at *
       generalize wr.heap.size = b14 at *
       generalize q.getD pn 0 = old at hc12
       refine start_ (n := 19) (S := fun w' => w'.cell? (adp.add k) = some (.int .i64 (pn : Int)) ∧ w'.cell? ⟨b14, f, none⟩ = some (.int .i64 y) ∧ w'.cell? ⟨b14, pn, none⟩ = some (.int .i64 x)) (ds := [18]) #[false, false, false, false, false, false, false, false, false, false, false, false, false, false, false, false, false, false, false] (by kernel_rfl) rfl rfl ⟨HSP.out, HSY.out, HSX.out⟩ (fun hHeld => ?_)
       refine with_tabW solu.tab18 solu.bits18 (fun HT_ HW_ => ?_)
       refine pure_ (i := 0) (N := some 67) (v := ?_) (a' := ?_) #[true, false, false, false, false, false, false, false, false, false, false, false, false, false, false, false, false, false, false] rfl rfl (any_of HT_.out (by kernel_rfl)) (fun _ _ _ h => h) (Or.inl ⟨by rfl, ?_⟩) ?_ ?_
       rotate_left
       ·
        intro w'
        go_simp
        with_reducible rfl
       rotate_left
       ·
        simp only [Act.put, List.setIfInBounds_toArray, List.set_cons_zero, List.set_cons_succ, i64_w, i32_w]
        rfl
       refine pure_ (i := 1) (N := some 68) (v := ?_) (a' := ?_) #[true, true, false, false, false, false, false, false, false, false, false, false, false, false, false, false, false, false, false] rfl rfl (any_of HT_.out (by kernel_rfl)) (fun _ _ _ h => h) (Or.inl ⟨by rfl, ?_⟩) ?_ ?_
       rotate_left
       ·
        intro w'
        go_simp
        with_reducible rfl
       rotate_left
       ·
        simp only [Act.put, List.setIfInBounds_toArray, List.set_cons_zero, List.set_cons_succ, i64_w, i32_w]
        rfl
       refine pure_ (i := 2) (N := some 69) (v := ?_) (a' := ?_) #[true, true, true, false, false, false, false, false, false, false, false, false, false, false, false, false, false, false, false] rfl rfl (any_of HT_.out (by kernel_rfl)) (fun _ _ _ h => h) (Or.inl ⟨by rfl, ?_⟩) ?_ ?_
       rotate_left
       ·
        intro w'
        go_simp
        with_reducible rfl
       rotate_left
       ·
        simp only [Act.put, List.setIfInBounds_toArray, List.set_cons_zero, List.set_cons_succ, i64_w, i32_w]
        rfl
       refine pure_ (i := 4) (N := some 71) (v := ?_) (a' := ?_) #[true, true, true, false, true, false, false, false, false, false, false, false, false, false, false, false, false, false, false] rfl rfl (any_of HT_.out (by kernel_rfl)) (fun _ _ _ h => h) (Or.inl ⟨by rfl, ?_⟩) ?_ ?_
       rotate_left
       ·
        intro w'
        go_simp
        with_reducible rfl
       rotate_left
       ·
        simp only [Act.put, List.setIfInBounds_toArray, List.set_cons_zero, List.set_cons_succ, i64_w, i32_w]
        rfl
       refine pure_ (i := 5) (N := some 72) (v := ?_) (a' := ?_) #[true, true, true, false, true, true, false, false, false, false, false, false, false, false, false, false, false, false, false] rfl rfl (any_of HT_.out (by kernel_rfl)) (fun _ _ _ h => h) (Or.inl ⟨by rfl, ?_⟩) ?_ ?_
       rotate_left
       ·
        intro w'
        go_simp
        with_reducible rfl
       rotate_left
       ·
        simp only [Act.put, List.setIfInBounds_toArray, List.set_cons_zero, List.set_cons_succ, i64_w, i32_w]
        rfl
       refine pure_ (i := 8) (N := some 75) (v := ?_) (a' := ?_) #[true, true, true, false, true, true, false, false, true, false, false, false, false, false, false, false, false, false, false] rfl rfl (any_of HT_.out (by kernel_rfl)) (fun _ _ _ h => h) (Or.inl ⟨by rfl, ?_⟩) ?_ ?_
       rotate_left
       ·
        intro w'
        go_simp
        with_reducible rfl
       rotate_left
       ·
        simp only [Act.put, List.setIfInBounds_toArray, List.set_cons_zero, List.set_cons_succ, i64_w, i32_w]
        rfl
       refine pure_ (i := 9) (N := some 76) (v := ?_) (a' := ?_) #[true, true, true, false, true, true, false, false, true, true, false, false, false, false, false, false, false, false, false] rfl rfl (any_of HT_.out (by kernel_rfl)) (fun _ _ _ h => h) (Or.inl ⟨by rfl, ?_⟩) ?_ ?_
       rotate_left
       ·
        intro w'
        go_simp
        with_reducible rfl
       rotate_left
       ·
        simp only [Act.put, List.setIfInBounds_toArray, List.set_cons_zero, List.set_cons_succ, i64_w, i32_w]
        rfl
       refine pure_ (i := 10) (N := some 77) (v := ?_) (a' := ?_) #[true, true, true, false, true, true, false, false, true, true, true, false, false, false, false, false, false, false, false] rfl rfl (any_of HT_.out (by kernel_rfl)) (fun _ _ _ h => h) (Or.inl ⟨by rfl, ?_⟩) ?_ ?_
       rotate_left
       ·
        intro w'
        go_simp
        with_reducible rfl
       rotate_left
       ·
        simp only [Act.put, List.setIfInBounds_toArray, List.set_cons_zero, List.set_cons_succ, i64_w, i32_w]
        rfl
       refine pure_ (i := 11) (N := some 78) (v := ?_) (a' := ?_) #[true, true, true, false, true, true, false, false, true, true, true, true, false, false, false, false, false, false, false] rfl rfl (any_of HT_.out (by kernel_rfl)) (fun _ _ _ h => h) (Or.inl ⟨by rfl, ?_⟩) ?_ ?_
       rotate_left
       ·
        intro w'
        go_simp
        with_reducible rfl
       rotate_left
       ·
        simp only [Act.put, List.setIfInBounds_toArray, List.set_cons_zero, List.set_cons_succ, i64_w, i32_w]
        rfl
       refine take_ (i := 3) (N := some 70) (v := ?_) (a' := ?_) #[true, true, true, true, true, true, false, false, true, true, true, true, false, false, false, false, false, false, false] rfl rfl (take_ofW HT_.out HW_.out (by kernel_rfl)) (fun _ _ _ h => h) (Or.inl ⟨by rfl, ?_⟩) hHeld ?_ ?_
       rotate_left
       ·
        rintro w' ⟨s0, s1, s2⟩
        go_simp
        with_reducible rfl
       rotate_left
       ·
        simp only [Act.put, List.setIfInBounds_toArray, List.set_cons_zero, List.set_cons_succ, i64_w, i32_w]
        rfl
       refine take_ (i := 6) (N := some 73) (v := ?_) (a' := ?_) #[true, true, true, true, true, true, true, false, true, true, true, true, false, false, false, false, false, false, false] rfl rfl (take_ofW HT_.out HW_.out (by kernel_rfl)) (fun _ _ _ h => h) (Or.inl ⟨by rfl, ?_⟩) hHeld ?_ ?_
       rotate_left
       ·
        rintro w' ⟨s0, s1, s2⟩
        go_simp
        with_reducible rfl
       rotate_left
       ·
        simp only [Act.put, List.setIfInBounds_toArray, List.set_cons_zero, List.set_cons_succ, i64_w, i32_w]
        rfl
       refine pure_ (i := 7) (N := some 74) (v := ?_) (a' := ?_) #[true, true, true, true, true, true, true, true, true, true, true, true, false, false, false, false, false, false, false] rfl rfl (any_of HT_.out (by kernel_rfl)) (fun _ _ _ h => h) (Or.inl ⟨by rfl, ?_⟩) ?_ ?_
       rotate_left
       ·
        intro w'
        go_simp
        with_reducible rfl
       rotate_left
       ·
        simp only [Act.put, List.setIfInBounds_toArray, List.set_cons_zero, List.set_cons_succ, i64_w, i32_w]
        rfl
       refine take_ (i := 12) (N := some 79) (v := ?_) (a' := ?_) #[true, true, true, true, true, true, true, true, true, true, true, true, true, false, false, false, false, false, false] rfl rfl (take_ofW HT_.out HW_.out (by kernel_rfl)) (fun _ _ _ h => h) (Or.inl ⟨by rfl, ?_⟩) hHeld ?_ ?_
       rotate_left
       ·
        rintro w' ⟨s0, s1, s2⟩
        go_simp
        with_reducible rfl
       rotate_left
       ·
        simp only [Act.put, List.setIfInBounds_toArray, List.set_cons_zero, List.set_cons_succ, i64_w, i32_w]
        rfl
       refine pure_ (i := 13) (N := some 80) (v := ?_) (a' := ?_) #[true, true, true, true, true, true, true, true, true, true, true, true, true, true, false, false, false, false, false] rfl rfl (any_of HT_.out (by kernel_rfl)) (fun _ _ _ h => h) (Or.inl ⟨by rfl, ?_⟩) ?_ ?_
       rotate_left
       ·
        intro w'
        go_simp
        with_reducible rfl
       rotate_left
       ·
        simp only [Act.put, List.setIfInBounds_toArray, List.set_cons_zero, List.set_cons_succ, i64_w, i32_w]
        rfl
       refine take_ (i := 14) (N := some 81) (v := ?_) (a' := ?_) #[true, true, true, true, true, true, true, true, true, true, true, true, true, true, true, false, false, false, false] rfl rfl (take_ofW HT_.out HW_.out (by kernel_rfl)) (fun _ _ _ h => h) (Or.inl ⟨by rfl, ?_⟩) hHeld ?_ ?_
       rotate_left
       ·
        rintro w' ⟨s0, s1, s2⟩
        go_simp
        with_reducible rfl
       rotate_left
       ·
        simp only [Act.put, List.setIfInBounds_toArray, List.set_cons_zero, List.set_cons_succ, i64_w, i32_w]
        rfl
       refine pure_ (i := 15) (N := some 82) (v := ?_) (a' := ?_) #[true, true, true, true, true, true, true, true, true, true, true, true, true, true, true, true, false, false, false] rfl rfl (any_of HT_.out (by kernel_rfl)) (fun _ _ _ h => h) (Or.inl ⟨by rfl, ?_⟩) ?_ ?_
       rotate_left
       ·
        intro w'
        go_simp
        with_reducible rfl
       rotate_left
       ·
        simp only [Act.put, List.setIfInBounds_toArray, List.set_cons_zero, List.set_cons_succ, i64_w, i32_w]
        rfl
       refine pure_ (i := 16) (N := some 83) (v := ?_) (a' := ?_) #[true, true, true, true, true, true, true, true, true, true, true, true, true, true, true, true, true, false, false] rfl rfl (any_of HT_.out (by kernel_rfl)) (fun _ _ _ h => h) (Or.inl ⟨by rfl, ?_⟩) ?_ ?_
       rotate_left
       ·
        intro w'
        go_simp
        with_reducible rfl
       rotate_left
       ·
        simp only [Act.put, List.setIfInBounds_toArray, List.set_cons_zero, List.set_cons_succ, i64_w, i32_w]
        rfl
       refine pure_ (i := 17) (N := some 84) (v := ?_) (a' := ?_) #[true, true, true, true, true, true, true, true, true, true, true, true, true, true, true, true, true, true, false] rfl rfl (any_of HT_.out (by kernel_rfl)) (fun _ _ _ h => h) (Or.inl ⟨by rfl, ?_⟩) ?_ ?_
       rotate_left
       ·
        intro w'
        go_simp
        with_reducible rfl
       rotate_left
       ·
        simp only [Act.put, List.setIfInBounds_toArray, List.set_cons_zero, List.set_cons_succ, i64_w, i32_w]
        rfl
       refine last_ (i := 18) (N := none) #[true, true, true, true, true, true, true, true, true, true, true, true, true, true, true, true, true, true, true] rfl rfl (one_of HT_.out (by kernel_rfl)) (by decide) (fun K hK => ?_)
       refine skip_ (w1 := ?_) (by rfl) rfl ?_ ?_
       rotate_left
       ·
        go_simp
        rfl
       refine hK.out _ _ ?_
       clear hK K
       refine done_ (done_of HT_.out (by kernel_rfl)) ?_
       go_wp2_with fail
       go_roundw
       case rel => exact ⟨k + 1, q.set pn (-y * a.tdiv x), by omega, by go_num, HA2, ⟨by rw [List.length_set]; exact HQL.out⟩, ⟨HST.out⟩, ⟨HB9.out.setCell HG12.out _⟩⟩
       case measure => simp [intOf]; omega
      ·
       obtain rfl : k = R.length := by omega
       have hq : q = o := by
        have := HA.out
        rw [List.drop_eq_nil_of_le (by simp; omega), outs] at this
        exact Option.some.inj this
       subst hq
       have hfin := HFIN.out
       unfold fin at hfin
       split at hfin
       case isFalse => cases hfin
       rename_i hfc
       obtain ⟨hlim, hnz⟩ := hfc
       have hql := HQL.out
       have hzl : (pln q).length = 6 := by rw [pln_length, hql]
       have hzlim : ∀ x ∈ pln q, Lim x := pln_lim hlim
       have hnl := nzi_lt ((pln q).take count)
       obtain ⟨fn, hfn⟩ := Int.eq_ofNat_of_zero_le hnz
       rw [hfn] at hnl
       have hfn6 : fn < 6 := by rw [List.length_take] at hnl; omega
       rw [hfn] at hfin
       simp only [Int.toNat_natCast] at hfin
       have HFS := Aside0.mk (Option.some.inj hfin)
       have HPC := Aside0.mk (fun W => plain_calls q W hql hlim)
       have HI2 := Aside0.mk (show (Try.prog.info? 76).map (·.size) = some (arr q).size by rw [arr_size, hql]; exact size76)
       have HI3 := Aside0.mk (show (Try.prog.info? 76).map (·.size) = some (arr (pln q)).size by rw [arr_size, hzl]; exact size76)
       have HZL := Aside0.mk hzl
       have HZM := Aside0.mk hzlim
       have HSZ := Aside0.mk (show (arr (pln q)).size = (arr q).size by rw [arr_size, arr_size, hzl, hql])
       have htl : ((pln q).take count).length = count := by rw [List.length_take, hzl]; omega
       have HNZ := Aside0.mk (fun (W : World) (hh : W.heap[b12]? = some (.cells (arr (pln q)) 76 (0, 0))) => by
        have h1 := nzi_calls (some ⟨b12, 0, none⟩) 6 ((pln q).take count) W (C_arr hh (by omega) (by omega)) (by omega) (by omega)
        rw [htl, hfn] at h1
        exact h1)
       have HCLN := Aside0.mk (fun (W : World) (u : List Int) (hu : u.length = 6) (hh : W.heap[b12]? = some (.cells (arr u) 76 (0, 0))) => by
        have h1 := slices_Clone_int_int.calls (some ⟨b12, 0, none⟩) 6 (u.take count) (u.take count) W (C_arr hh (by omega) (by omega)) (by rw [List.length_take]; omega) (by unfold slices_Clone_int_int.f; rw [if_pos (by rw [List.length_take]; omega)])
        rw [show (u.take count).length = count by rw [List.length_take]; omega] at h1
        exact h1)
       clear hfin hlim hnz hql hzl hzlim hnl hfn htl HFIN HA hkR
       generalize pln q = z at *
       have hfn7 : (fn : Int) < 6 := by omega
       have hct6 : count ≤ 6 := HCT.out
       have hsl := slice76 b12 count HCT.out
       obtain ⟨zf, hzf⟩ : ∃ v, v = z.getD fn 0 := ⟨_, rfl⟩
       have HCZ := Aside0.mk (fun (W : World) (hh : W.heap[b12]? = some (.cells (arr z) 76 (0, 0))) => (arr_cell hh fn (by rw [HZL.out]; omega)).trans (by rw [← hzf]))
       by_cases hneg : z.getD fn 0 < 0
       ·
        have hfs := HFS.out
        rw [if_pos hneg] at hfs
        rw [← hzf] at hneg
        have c2 : decide (zf < 0) = true := decide_eq_true hneg
        have HFS2 := Aside0.mk hfs
        clear HFS hfs hzf
        go_wp2_with (first
         | (refine wpList_load_row rfl 76 _ rfl b12 rfl 76 (arr q) (0, 0) _ HB12.out Try.underlying76 rfl HI2.out ?_)
         | ((with_reducible refine gate_callee (f := 118) rfl ?_); refine goesL_ (some 87) rfl rfl Try.func118 (by kernel_rfl) rfl #[.agg (arr q)] rfl (by (try simp only [List.map_toArray, List.map_cons, List.map_nil]); first | done | rfl) ?_; (with_reducible refine (HPC.out _).mono ?_); rintro e w18 ⟨rfl, hb⟩; refine ⟨_, rfl, ?_⟩; have n1_ := Aside0.mk (blk_below HB12.out hb); have n2_ := Aside0.mk (below_step HB9.out hb); have HB12z := Aside0.mk (setRow_heap w18 b12 (arr q) (arr z) 76 (0, 0) n1_.out); have HBZ := Aside0.mk (below_setRow n2_.out HG12.out (arr z)); clear HB12 HB9 hb; have HB12 := n1_; clear n1_ n2_)
         | (refine wpList_store_row rfl 76 _ _ rfl b12 (arr z) rfl rfl 76 (arr q) HB12.out HI3.out HSZ.out.symm (arr_one z) ?_)
         | ((with_reducible refine gate_callee (f := 119) rfl ?_); refine goesL_ (some 90) rfl rfl Try.func119 (by kernel_rfl) rfl #[.slice (some ⟨b12, 0, none⟩) count 6, .func (.func 120) #[] #[]] rfl (by (try simp only [List.map_toArray, List.map_cons, List.map_nil]); first | done | rfl) ?_; (with_reducible refine (HNZ.out _ HB12z.out).mono ?_); rintro e w19 ⟨rfl, hb⟩; refine ⟨_, rfl, ?_⟩; have HB12y := Aside0.mk (blk_below HB12z.out hb); have HBY := Aside0.mk (below_step HBZ.out hb); have hcz := HCZ.out _ HB12y.out; clear HB12z HBZ hb))
        go_loopw [95] (fun i_ w' => ∃ (i : Nat) (u : List Int), i ≤ 6 ∧ i_ = .int .i64 i ∧ Aside0 (u = (z.take i).map (fun x => -x) ++ z.drop i) ∧ Aside0 (w'.heap[b12]? = some (.cells (arr u) 76 (0, 0))) ∧ Aside0 (Below w9.heap.size w9 w')) (fun i_ _ => 6 - (intOf i_).toNat)
        case atStart => exact ⟨0, z, by omega, rfl, ⟨by simp⟩, HB12y, HBY⟩
        case round =>
         clear HB12y HBY hcz HB12
         obtain ⟨i, u, hi, rfl, HU, HB12, HB9⟩ := hrel
         have hul : u.length = 6 := by rw [HU.out]; simp [HZL.out]; omega
         by_cases hi6 : i < 6
         ·
          have hiz : i < z.length := by rw [HZL.out]; exact hi6
          have hui : u.getD i 0 = z[i] := by
           rw [HU.out, List.getD_eq_getElem?_getD, List.getElem?_append_right (by simp; omega), List.length_map, List.length_take, Nat.min_eq_left (by omega), Nat.sub_self, List.getElem?_drop, Nat.add_zero, List.getElem?_eq_getElem hiz]
           rfl
          have hset : u.set i (-z[i]) = (z.take (i + 1)).map (fun x => -x) ++ z.drop (i + 1) := by
           rw [HU.out, List.set_append_right _ _ (by simp; omega), List.length_map, List.length_take, Nat.min_eq_left (by omega), Nat.sub_self, List.drop_eq_getElem_cons hiz, List.set_cons_zero, List.take_succ_eq_append_getElem hiz, List.map_append, List.append_assoc]
           rfl
          have HSET := Aside0.mk hset
          have hcu := arr_cell HB12.out i (by omega)
          rw [hui] at hcu
          have hfu := arr_frozen HB12.out i
          have hzx := HZM.out _ (List.getElem_mem hiz)
          unfold Lim at hzx
          generalize z[i] = x at *
          have w1 : wrap64 (-x) = -x := wrp (by omega) (by omega)
          clear hui hset
          go_wp2_with fail
          go_roundw
          case rel => exact ⟨i + 1, u.set i (-x), by omega, by go_num, HSET, ⟨arr_store HB12.out i _⟩, ⟨HB9.out.setCell HG12.out _⟩⟩
          case measure => simp [intOf]; omega
         ·
          obtain rfl : i = 6 := by omega
          have HUL := Aside0.mk hul
          have hus : u.take count = s := by
           have e1 : z.take 6 = z := List.take_of_length_le (by rw [HZL.out]; exact Nat.le_refl _)
           have e2 : z.drop 6 = [] := List.drop_eq_nil_of_le (by rw [HZL.out]; exact Nat.le_refl _)
           rw [← HFS2.out, HU.out, e1, e2, List.append_nil]
          have HUS := Aside0.mk hus
          clear hus hul
          go_wp2_with (first | ((with_reducible refine gate_callee (f := 79) rfl ?_); refine goesL_ (some 107) rfl rfl Try.func79 (by kernel_rfl) rfl #[.slice (some ⟨b12, 0, none⟩) count 6] rfl (by (try simp only [List.map_toArray, List.map_cons, List.map_nil]); first | done | rfl) ?_; (with_reducible refine (HCLN.out _ u HUL.out HB12.out).mono ?_); rintro e w20 ⟨v20, rfl, ho, hb⟩; refine ⟨_, rfl, ?_⟩; have HOO := Aside0.mk ho; have HBF := Aside0.mk (below_step HB9.out hb); clear ho hb))
          go_ret2
          refine ⟨_, rfl, ?_, below_step HB2.out HBF.out⟩
          rw [← HUS.out]
          exact Kd.R_lower HOO.out (Nat.le_trans HW9.out HB9.out.size)
       ·
        have hfs := HFS.out
        rw [if_neg hneg] at hfs
        rw [← hzf] at hneg
        have c2 : decide (zf < 0) = false := decide_eq_false hneg
        have HFS2 := Aside0.mk hfs
        clear HFS hfs hzf
        go_wp2_with (first
         | (refine wpList_load_row rfl 76 _ rfl b12 rfl 76 (arr q) (0, 0) _ HB12.out Try.underlying76 rfl HI2.out ?_)
         | ((with_reducible refine gate_callee (f := 118) rfl ?_); refine goesL_ (some 87) rfl rfl Try.func118 (by kernel_rfl) rfl #[.agg (arr q)] rfl (by (try simp only [List.map_toArray, List.map_cons, List.map_nil]); first | done | rfl) ?_; (with_reducible refine (HPC.out _).mono ?_); rintro e w18 ⟨rfl, hb⟩; refine ⟨_, rfl, ?_⟩; have n1_ := Aside0.mk (blk_below HB12.out hb); have n2_ := Aside0.mk (below_step HB9.out hb); have HB12z := Aside0.mk (setRow_heap w18 b12 (arr q) (arr z) 76 (0, 0) n1_.out); have HBZ := Aside0.mk (below_setRow n2_.out HG12.out (arr z)); clear HB12 HB9 hb; have HB12 := n1_; clear n1_ n2_)
         | (refine wpList_store_row rfl 76 _ _ rfl b12 (arr z) rfl rfl 76 (arr q) HB12.out HI3.out HSZ.out.symm (arr_one z) ?_)
         | ((with_reducible refine gate_callee (f := 119) rfl ?_); refine goesL_ (some 90) rfl rfl Try.func119 (by kernel_rfl) rfl #[.slice (some ⟨b12, 0, none⟩) count 6, .func (.func 120) #[] #[]] rfl (by (try simp only [List.map_toArray, List.map_cons, List.map_nil]); first | done | rfl) ?_; (with_reducible refine (HNZ.out _ HB12z.out).mono ?_); rintro e w19 ⟨rfl, hb⟩; refine ⟨_, rfl, ?_⟩; have HB12y := Aside0.mk (blk_below HB12z.out hb); have HBY := Aside0.mk (below_step HBZ.out hb); have hcz := HCZ.out _ HB12y.out; clear HB12z HBZ hb)
         | ((with_reducible refine gate_callee (f := 79) rfl ?_); refine goesL_ (some 107) rfl rfl Try.func79 (by kernel_rfl) rfl #[.slice (some ⟨b12, 0, none⟩) count 6] rfl (by (try simp only [List.map_toArray, List.map_cons, List.map_nil]); first | done | rfl) ?_; (with_reducible refine (HCLN.out _ z HZL.out HB12y.out).mono ?_); rintro e w20 ⟨v20, rfl, ho, hb⟩; refine ⟨_, rfl, ?_⟩; have HOO := Aside0.mk ho; have HBF := Aside0.mk (below_step HBY.out hb); clear ho hb))
        go_ret2
        refine ⟨_, rfl, ?_, below_step HB2.out HBF.out⟩
        rw [← HFS2.out]
        exact Kd.R_lower HOO.out (Nat.le_trans HW9.out HBY.out.size)
theorem strike_solution.calls (A0 : Option Addr) (c0 : Nat) (l0 : List S76) (a1 : Int) (r1 : List Int) (r2 : Bool) (w : World) (hr0 : Kd.C k76 w A0 l0.length l0) (hc0 : l0.length ≤ c0) (h : strike_solution.f l0 a1 = some (r1, r2)) :
  Calls Try.prog 82 #[.slice A0 l0.length c0, .int .i64 a1] w fun e w' => ∃ v0_ : Value, e = .returned (.tuple #[v0_, .bool r2]) ∧ Kd.R (Kd.int .i64) 3 w' w.heap.size (fun _ => True) v0_ r1 ∧ Below w.heap.size w w' := by
 unfold strike_solution.f at h
 split at h
 case isFalse => cases h
 rename_i hc
 obtain ⟨⟨R, P⟩, h1, h2⟩ := Option.bind_eq_some_iff.1 h
 obtain ⟨n, rfl⟩ := Int.eq_ofNat_of_zero_le hc.1
 exact sol_calls A0 c0 l0 n R P r1 r2 w hr0 hc0 (by omega) h1 h2
end Go.Proofs.Ytdneelgnmnpanaa.P
end
section
namespace Go.Proofs.Ytdneelgnmnpanaa.P
open Go.RowKit Go.Proofs.YtdneelgnmnpanaaW.PrintWords Go.Proofs.YtdneelgnmnpanaaW.PrintLast Go.Proofs.YtdneelgnmnpanaaW.PrintMore
attribute [local go_sem] max2_int min2_int max_two min_two max_three min_three max_four min_four   -- for this text's walks alone
set_option linter.unusedVariables false
set_option linter.unusedSimpArgs false
def strike_Simple.f (k : Nat) (l0_0 : List (List Int)) (l0_1 : List (List Int)) : Option (List Int × Bool × Int) := (strike_Validate.f k l0_0 l0_1).bind fun t102 => (if t102 = 0 then ((strike_lines.f l0_0 l0_1).bind fun t103 => ((strike_compounds.f l0_0 l0_1).bind fun t106 => ((strike_solution.f t103 t106).bind fun bt107 => (if bt107.2 = true then ((slices_Min_int_int.f k bt107.1).bind fun t111 => (if t111 ≤ 0 then (some (([] : List Int), false, 0)) else (some (bt107.1, true, 0)))) else (some (([] : List Int), false, 0)))))) else (some (([] : List Int), false, t102)))
theorem strike_Simple.mono : ∀ a0 a1 k, LeO (strike_Simple.f k a0 a1) (strike_Simple.f (k + 1) a0 a1) := by
 intro a0 a1 k
 unfold strike_Simple.f
 repeat' first
   | (with_reducible exact slices_Min_int_int.mono _ _)
   | (with_reducible exact strike_Validate.mono _ _ _)
   | (with_reducible exact LeO.refl _)
   | (with_reducible exact LeO.none _)
   | (with_reducible refine LeO.ite ?_ ?_)
   | (with_reducible refine LeO.bind ?_ (fun _ => ?_))
   | exact slices_Min_int_int.mono _ _
   | exact strike_Validate.mono _ _ _
   | exact LeO.none _
   | refine LeO.ite ?_ ?_
   | refine LeO.bind ?_ (fun _ => ?_)
def strike_Simple.T4 : Bool × List (List Nat × List Nat) := (true, [([], []), ([0], [0]), ([], []), ([2, 1], [2]), ([1, 3, 3], [1, 3]), ([4], [4]), ([5], [5]), ([5], [5]), ([6, 4, 0, 1, 2, 3, 4, 5, 6], [6]), ([7, 8, 0, 1, 2, 3, 4, 5, 6, 7, 8], [7])])
def strike_Simple.B4 : List Nat := [0, 1, 0, 7, 15, 31, 63, 63, 127, 511]
theorem strike_Simple.tab4 : rtab .any (opsOf Try.f41 4) = strike_Simple.T4 := by kernel_rfl
theorem strike_Simple.bits4 : waitsOk strike_Simple.T4.2 strike_Simple.B4 = true := by kernel_rfl
set_option maxHeartbeats 8000000 in
set_option maxRecDepth 100000 in
theorem strike_Simple.calls (k : Nat) (A0_0 : Option Addr) (c0_0 : Nat) (l0_0 : List (List Int)) (A0_1 : Option Addr) (c0_1 : Nat) (l0_1 : List (List Int)) (r1 : List Int) (r2 : Bool) (r3 : Int) (w : World) (hr0_0 : Kd.C (Kd.slice 3 (Kd.int .i64)) w A0_0 l0_0.length l0_0) (hc0_0 : l0_0.length ≤ c0_0) (hr0_1 : Kd.C (Kd.slice 3 (Kd.int .i64)) w A0_1 l0_1.length l0_1) (hc0_1 : l0_1.length ≤ c0_1) (h : strike_Simple.f k l0_0 l0_1 = some (r1, r2, r3)) :
  Calls Try.prog 41 #[.agg #[.slice A0_0 l0_0.length c0_0, .slice A0_1 l0_1.length c0_1]] w fun e w' => ∃ v0_ : Value, e = .returned (.tuple #[v0_, .bool r2, .int .i64 r3]) ∧ Kd.R (Kd.int .i64) 3 w' w.heap.size (fun _ => True) v0_ r1 ∧ Below w.heap.size w w' := by
 have hu24 := Try.underlying24
 have HR0_0 := Aside0.mk hr0_0
 have HC0_0 := Aside0.mk hc0_0
 clear hr0_0 hc0_0
 have HR0_1 := Aside0.mk hr0_1
 have HC0_1 := Aside0.mk hc0_1
 clear hr0_1 hc0_1
 have HB := Aside0.mk (Below.refl w.heap.size w)
 have H : ((strike_Validate.f k l0_0 l0_1).bind fun t102 => (if t102 = 0 then ((strike_lines.f l0_0 l0_1).bind fun t103 => ((strike_compounds.f l0_0 l0_1).bind fun t106 => ((strike_solution.f t103 t106).bind fun bt107 => (if bt107.2 = true then ((slices_Min_int_int.f k bt107.1).bind fun t111 => (if t111 ≤ 0 then (some (([] : List Int), false, 0)) else (some (bt107.1, true, 0)))) else (some (([] : List Int), false, 0)))))) else (some (([] : List Int), false, t102)))) = some (r1, r2, r3) := h
 clear h
 replace H := Option.bind_eq_some_iff.mp H
 obtain ⟨t102, A20, H⟩ := H
 replace H : (if t102 = 0 then ((strike_lines.f l0_0 l0_1).bind fun t103 => ((strike_compounds.f l0_0 l0_1).bind fun t106 => ((strike_solution.f t103 t106).bind fun bt107 => (if bt107.2 = true then ((slices_Min_int_int.f k bt107.1).bind fun t111 => (if t111 ≤ 0 then (some (([] : List Int), false, 0)) else (some (bt107.1, true, 0)))) else (some (([] : List Int), false, 0)))))) else (some (([] : List Int), false, t102))) = some (r1, r2, r3) := H
 have A2 := Aside0.mk A20
 clear A20
 by_cases c3 : t102 = 0
 ·
  rw [if_pos c3] at H
  have c3b0 : (t102 == 0) = true := beq_iff_eq.mpr c3
  have c3b1 : (t102 != 0) = false := bne_eq_false_iff_eq.mpr c3
  clear c3
  replace H := Option.bind_eq_some_iff.mp H
  obtain ⟨t103, A40, H⟩ := H
  replace H : ((strike_compounds.f l0_0 l0_1).bind fun t106 => ((strike_solution.f t103 t106).bind fun bt107 => (if bt107.2 = true then ((slices_Min_int_int.f k bt107.1).bind fun t111 => (if t111 ≤ 0 then (some (([] : List Int), false, 0)) else (some (bt107.1, true, 0)))) else (some (([] : List Int), false, 0))))) = some (r1, r2, r3) := H
  have A4 := Aside0.mk A40
  clear A40
  replace H := Option.bind_eq_some_iff.mp H
  obtain ⟨t106, A50, H⟩ := H
  replace H : ((strike_solution.f t103 t106).bind fun bt107 => (if bt107.2 = true then ((slices_Min_int_int.f k bt107.1).bind fun t111 => (if t111 ≤ 0 then (some (([] : List Int), false, 0)) else (some (bt107.1, true, 0)))) else (some (([] : List Int), false, 0)))) = some (r1, r2, r3) := H
  have A5 := Aside0.mk A50
  clear A50
  replace H := Option.bind_eq_some_iff.mp H
  obtain ⟨⟨t107, t108⟩, A60, H⟩ := H
  replace H : (if t108 = true then ((slices_Min_int_int.f k t107).bind fun t111 => (if t111 ≤ 0 then (some (([] : List Int), false, 0)) else (some (t107, true, 0)))) else (some (([] : List Int), false, 0))) = some (r1, r2, r3) := H
  have A6 := Aside0.mk A60
  clear A60
  by_cases c7 : t108 = true
  ·
   subst c7
   have H1 : ((slices_Min_int_int.f k t107).bind fun t111 => (if t111 ≤ 0 then (some (([] : List Int), false, 0)) else (some (t107, true, 0)))) = some (r1, r2, r3) := by rw [if_pos rfl] at H; exact H
   clear H
   have H := H1
   clear H1
   replace H := Option.bind_eq_some_iff.mp H
   obtain ⟨t111, A80, H⟩ := H
   replace H : (if t111 ≤ 0 then (some (([] : List Int), false, 0)) else (some (t107, true, 0))) = some (r1, r2, r3) := H
   have A8 := Aside0.mk A80
   clear A80
   by_cases c9 : t111 ≤ 0
   ·
    rw [if_pos c9] at H
    have c9b0 : decide (t111 ≤ 0) = true := decide_eq_true c9
    clear c9
    simp only [Option.some.injEq, Prod.mk.injEq] at H
    obtain ⟨rfl, rfl, rfl⟩ := H
    go_enter Try.func41, Try.ntmps41
    try go_wp2_with (first | ((with_reducible refine gate_dst (N := 1) rfl ?_); refine box_event ?hg (N := 1) ?hd (cs := #[.slice A0_0 l0_0.length c0_0, .slice A0_1 l0_1.length c0_1]) (t := 24) ?hr ?_; (case hd => rfl); (case hg => rfl); (case hr => first | (go_simp; done) | (go_simp; rfl)); intro gb101 hg w10 hbox hb; have n0_ := Aside0.mk (below_step bB hb); have n1_ := Aside0.mk (hbox); have n2_ := Aside0.mk ((by rw [hg]; exact (below_size bB) : w.heap.size ≤ gb101)); have n3_ := Aside0.mk ((by rw [hg]; exact (below_size bB) : w.heap.size ≤ gb101)); clear HB; have HB := n0_; have BK101 := n1_; have GW101 := n2_; have GE101 := n3_; clear n0_ n1_ n2_ n3_; clear hb hbox hg; have hcz11_0 : w10.cell? ⟨gb101, 0, none⟩ = some (.slice A0_0 l0_0.length c0_0) := (blk_cell BK101.out 0).trans rfl; have hcz11_1 : w10.cell? ⟨gb101, 1, none⟩ = some (.slice A0_1 l0_1.length c0_1) := (blk_cell BK101.out 1).trans rfl; have hfz11_0 := blk_frozen BK101.out 0; have hfz11_1 := blk_frozen BK101.out 1) | ((with_reducible refine gate_callee (f := 38) rfl ?_); refine goesL_ (some 9) rfl rfl Try.func38 (by kernel_rfl) rfl #[.agg #[.slice A0_0 l0_0.length c0_0, .slice A0_1 l0_1.length c0_1]] rfl hA ?_; (with_reducible refine (strike_Validate.calls k _ _ l0_0 _ _ l0_1 t102 _ ?side1 ?side2 ?side3 ?side4 A2.out).mono ?_); (case side1 => exact (Kd.C_below HR0_0.out HB.out)); (case side2 => exact HC0_0.out); (case side3 => exact (Kd.C_below HR0_1.out HB.out)); (case side4 => exact HC0_1.out); rintro e w12 ⟨rfl, hb⟩; refine ⟨_, rfl, ?_⟩; have n0_ := Aside0.mk (blk_below BK101.out hb); have n1_ := Aside0.mk (below_step bB hb); clear BK101; clear HB; have BK101 := n0_; have HB := n1_; clear n0_ n1_; (try clear hb); (try clear hb2); (try clear hk); (try clear hi)))
    have n0_ := Aside0.mk (blk_drew BK101.out)
    have n1_ := Aside0.mk (below_drew1 HB.out)
    clear BK101
    clear HB
    have BK101 := n0_
    have HB := n1_
    clear n0_ n1_
    refine start_ (n := 10) (S := fun w' => w'.cell? ⟨gb101, 0, none⟩ = some (.slice A0_0 l0_0.length c0_0) ∧ w'.cell? ⟨gb101, 1, none⟩ = some (.slice A0_1 l0_1.length c0_1)) (ds := []) #[false, false, false, false, false, false, false, false, false, false] (by kernel_rfl) rfl rfl ⟨(blk_cell BK101.out 0).trans rfl, (blk_cell BK101.out 1).trans rfl⟩ (fun hHeld => ?_); refine with_tabW strike_Simple.tab4 strike_Simple.bits4 (fun HT_ HW_ => ?_)
    generalize w12.drew = w13 at BK101 HB hHeld ⊢
    refine take_ (i := 0) (N := some 14) (v := ?_) (a' := ?_) #[true, false, false, false, false, false, false, false, false, false] rfl rfl (take_ofW HT_.out HW_.out (by kernel_rfl)) (fun _ _ _ h => h) (Or.inl ⟨by rfl, ?_⟩) hHeld ?_ ?_
    rotate_left
    ·
     rintro w' ⟨s0, s1⟩
     go_simp
     with_reducible rfl
    rotate_left
    ·
     simp only [Act.put, List.setIfInBounds_toArray, List.set_cons_zero, List.set_cons_succ, i64_w, i32_w]
     rfl
    refine take_ (i := 2) (N := some 16) (v := ?_) (a' := ?_) #[true, false, true, false, false, false, false, false, false, false] rfl rfl (take_ofW HT_.out HW_.out (by kernel_rfl)) (fun _ _ _ h => h) (Or.inl ⟨by rfl, ?_⟩) hHeld ?_ ?_
    rotate_left
    ·
     rintro w' ⟨s0, s1⟩
     go_simp
     with_reducible rfl
    rotate_left
    ·
     simp only [Act.put, List.setIfInBounds_toArray, List.set_cons_zero, List.set_cons_succ, i64_w, i32_w]
     rfl
    refine one_ (i := 1) (N := some 15) #[true, true, true, false, false, false, false, false, false, false] rfl rfl (one_of HT_.out (by kernel_rfl)) (by decide) (fun K hK => ?_)
    refine goes_ Try.func73 (by kernel_rfl) rfl #[.agg #[.slice A0_0 l0_0.length c0_0, .slice A0_1 l0_1.length c0_1]] (by rfl) rfl rfl hA ?_
    with_reducible refine (strike_lines.calls _ _ l0_0 _ _ l0_1 t103 _ ?side1 ?side2 ?side3 ?side4 A4.out).mono ?_
    (case side1 => exact (Kd.C_below HR0_0.out HB.out))
    (case side2 => exact HC0_0.out)
    (case side3 => exact (Kd.C_below HR0_1.out HB.out))
    (case side4 => exact HC0_1.out)
    rintro e w14 ⟨v104, rfl, ho0, hb⟩
    refine ⟨_, rfl, ?_⟩
    have n0_ := Aside0.mk (Kd.R_lower ho0 (below_size bB))
    have n1_ := Aside0.mk (blk_below BK101.out hb)
    have n2_ := Aside0.mk (below_step bB hb)
    clear BK101
    clear HB
    have HO105 := n0_
    have BK101 := n1_
    have HB := n2_
    clear n0_ n1_ n2_
    (try clear hb)
    (try clear hb2)
    (try clear hk)
    (try clear hi)
    (try clear ho0)
    refine hK.out _ _ ⟨(blk_cell BK101.out 0).trans rfl, (blk_cell BK101.out 1).trans rfl⟩ (fun hHeld => ?_)
    clear hK K
    refine norm_ (a' := ?_) ?_ ?_
    rotate_left
    ·
     show Act.put _ (some 15) _ = _
     simp only [Act.put, List.setIfInBounds_toArray, List.set_cons_zero, List.set_cons_succ, i64_w, i32_w]
     rfl
    refine one_ (i := 3) (N := some 17) #[true, true, true, true, false, false, false, false, false, false] rfl rfl (one_of HT_.out (by kernel_rfl)) (by decide) (fun K hK => ?_)
    refine goes_ Try.func71 (by kernel_rfl) rfl #[.agg #[.slice A0_0 l0_0.length c0_0, .slice A0_1 l0_1.length c0_1]] (by rfl) rfl rfl hA ?_
    with_reducible refine (strike_compounds.calls _ _ l0_0 _ _ l0_1 t106 _ ?side1 ?side2 ?side3 ?side4 A5.out).mono ?_
    (case side1 => exact (Kd.C_below HR0_0.out HB.out))
    (case side2 => exact HC0_0.out)
    (case side3 => exact (Kd.C_below HR0_1.out HB.out))
    (case side4 => exact HC0_1.out)
    rintro e w15 ⟨rfl, hb⟩
    refine ⟨_, rfl, ?_⟩
    have n0_ := Aside0.mk (Kd.R_below HO105.out hb)
    have n1_ := Aside0.mk (blk_below BK101.out hb)
    have n2_ := Aside0.mk (below_step bB hb)
    clear HO105
    clear BK101
    clear HB
    have HO105 := n0_
    have BK101 := n1_
    have HB := n2_
    clear n0_ n1_ n2_
    (try clear hb)
    (try clear hb2)
    (try clear hk)
    (try clear hi)
    obtain ⟨Ao16, co16, eo16⟩ := Kd.R_slice HO105.out
    (first | subst eo16 | (injection eo16 with f1_ f2_ f3_; have f4_ := f1_.symm; have f5_ := f3_.symm; clear f1_ f2_ f3_; subst f4_; subst f5_))
    refine hK.out _ _ ⟨(blk_cell BK101.out 0).trans rfl, (blk_cell BK101.out 1).trans rfl⟩ (fun hHeld => ?_)
    clear hK K
    refine norm_ (a' := ?_) ?_ ?_
    rotate_left
    ·
     show Act.put _ (some 17) _ = _
     simp only [Act.put, List.setIfInBounds_toArray, List.set_cons_zero, List.set_cons_succ, i64_w, i32_w]
     rfl
    refine one_ (i := 4) (N := some 18) #[true, true, true, true, true, false, false, false, false, false] rfl rfl (one_of HT_.out (by kernel_rfl)) (by decide) (fun K hK => ?_)
    refine goes_ Try.func82 (by kernel_rfl) rfl #[.slice Ao16 t103.length co16, .int .i64 t106] (by rfl) rfl rfl hA ?_
    with_reducible refine (strike_solution.calls _ _ t103 t106 t107 true _ ?side1 ?side2 A6.out).mono ?_
    (case side1 => exact (Kd.R_reads' HO105.out).2.2)
    (case side2 => exact (Kd.R_reads' HO105.out).2.1)
    rintro e w17 ⟨v109, rfl, ho0, hb⟩
    refine ⟨_, rfl, ?_⟩
    have n0_ := Aside0.mk (Kd.R_below HO105.out hb)
    have n1_ := Aside0.mk (Kd.R_lower ho0 (below_size bB))
    have n2_ := Aside0.mk (blk_below BK101.out hb)
    have n3_ := Aside0.mk (below_step bB hb)
    clear HO105
    clear BK101
    clear HB
    have HO105 := n0_
    have HO110 := n1_
    have BK101 := n2_
    have HB := n3_
    clear n0_ n1_ n2_ n3_
    (try clear hb)
    (try clear hb2)
    (try clear hk)
    (try clear hi)
    (try clear ho0)
    refine hK.out _ _ ⟨(blk_cell BK101.out 0).trans rfl, (blk_cell BK101.out 1).trans rfl⟩ (fun hHeld => ?_)
    clear hK K
    refine norm_ (a' := ?_) ?_ ?_
    rotate_left
    ·
     show Act.put _ (some 18) _ = _
     simp only [Act.put, List.setIfInBounds_toArray, List.set_cons_zero, List.set_cons_succ, i64_w, i32_w]
     rfl
    refine pure_ (i := 5) (N := some 13) (v := ?_) (a' := ?_) #[true, true, true, true, true, true, false, false, false, false] rfl rfl (any_of HT_.out (by kernel_rfl)) (fun _ _ _ h => h) (Or.inl ⟨by rfl, ?_⟩) ?_ ?_
    rotate_left
    ·
     intro w'
     go_simp
     with_reducible rfl
    rotate_left
    ·
     simp only [Act.put, List.setIfInBounds_toArray, List.set_cons_zero, List.set_cons_succ, i64_w, i32_w]
     rfl
    refine pure_ (i := 6) (N := some 19) (v := ?_) (a' := ?_) #[true, true, true, true, true, true, true, false, false, false] rfl rfl (any_of HT_.out (by kernel_rfl)) (fun _ _ _ h => h) (Or.inl ⟨by rfl, ?_⟩) ?_ ?_
    rotate_left
    ·
     intro w'
     go_simp
     with_reducible rfl
    rotate_left
    ·
     simp only [Act.put, List.setIfInBounds_toArray, List.set_cons_zero, List.set_cons_succ, i64_w, i32_w]
     rfl
    refine pure_ (i := 7) (N := some 20) (v := ?_) (a' := ?_) #[true, true, true, true, true, true, true, true, false, false] rfl rfl (any_of HT_.out (by kernel_rfl)) (fun _ _ _ h => h) (Or.inl ⟨by rfl, ?_⟩) ?_ ?_
    rotate_left
    ·
     intro w'
     go_simp
     with_reducible rfl
    rotate_left
    ·
     simp only [Act.put, List.setIfInBounds_toArray, List.set_cons_zero, List.set_cons_succ, i64_w, i32_w]
     rfl
    refine pure_ (i := 8) (N := some 6) (v := ?_) (a' := ?_) #[true, true, true, true, true, true, true, true, true, false] rfl rfl (any_of HT_.out (by kernel_rfl)) (fun _ _ _ h => h) (Or.inl ⟨by rfl, ?_⟩) ?_ ?_
    rotate_left
    ·
     intro w'
     go_simp
     with_reducible rfl
    rotate_left
    ·
     simp only [Act.put, List.setIfInBounds_toArray, List.set_cons_zero, List.set_cons_succ, i64_w, i32_w]
     rfl
    refine pure_ (i := 9) (N := some 7) (v := ?_) (a' := ?_) #[true, true, true, true, true, true, true, true, true, true] rfl rfl (any_of HT_.out (by kernel_rfl)) (fun _ _ _ h => h) (Or.inl ⟨by rfl, ?_⟩) ?_ ?_
    rotate_left
    ·
     intro w'
     go_simp
     with_reducible rfl
    rotate_left
    ·
     simp only [Act.put, List.setIfInBounds_toArray, List.set_cons_zero, List.set_cons_succ, i64_w, i32_w]
     rfl
    refine done_ (done_of HT_.out (by kernel_rfl)) ?_
    obtain ⟨Ao18, co18, eo18⟩ := Kd.R_slice HO110.out
    subst eo18
    try go_wp2_with (first | (go_at_call 84; (with_reducible refine (slices_Min_int_int.calls k _ _ t107 t111 _ ?side1 ?side2 A8.out).mono ?_); (case side1 => exact (Kd.R_reads' HO110.out).2.2); (case side2 => exact (Kd.R_reads' HO110.out).2.1); rintro e w19 ⟨rfl, hb⟩; have n0_ := Aside0.mk (Kd.R_below HO105.out hb); have n1_ := Aside0.mk (Kd.R_below HO110.out hb); have n2_ := Aside0.mk (blk_below BK101.out hb); have n3_ := Aside0.mk (below_step bB hb); clear HO105; clear HO110; clear BK101; clear HB; have HO105 := n0_; have HO110 := n1_; have BK101 := n2_; have HB := n3_; clear n0_ n1_ n2_ n3_; (try clear hb); (try clear hb2); (try clear hk); (try clear hi)))
    go_ret3
    exact ⟨_, by first | rfl | (simp [errW_none, errW_some] <;> rfl) | (simp [*, errW_none, errW_some] <;> rfl), by first | exact Kd.R_nil _ _ _ _ _ | exact Kd.N_nil _ _ _ _ _ | exact Kd.V_nil _ _ _ _ _ | exact Kd.Q_nil _ _ _ _ _ | exact Kd.S_nil _ _ _ _ _, bB⟩
   ·
    rw [if_neg c9] at H
    have c9b0 : decide (t111 ≤ 0) = false := decide_eq_false c9
    clear c9
    simp only [Option.some.injEq, Prod.mk.injEq] at H
    obtain ⟨rfl, rfl, rfl⟩ := H
    go_enter Try.func41, Try.ntmps41
    try go_wp2_with (first | ((with_reducible refine gate_dst (N := 1) rfl ?_); refine box_event ?hg (N := 1) ?hd (cs := #[.slice A0_0 l0_0.length c0_0, .slice A0_1 l0_1.length c0_1]) (t := 24) ?hr ?_; (case hd => rfl); (case hg => rfl); (case hr => first | (go_simp; done) | (go_simp; rfl)); intro gb101 hg w20 hbox hb; have n0_ := Aside0.mk (below_step bB hb); have n1_ := Aside0.mk (hbox); have n2_ := Aside0.mk ((by rw [hg]; exact (below_size bB) : w.heap.size ≤ gb101)); have n3_ := Aside0.mk ((by rw [hg]; exact (below_size bB) : w.heap.size ≤ gb101)); clear HB; have HB := n0_; have BK101 := n1_; have GW101 := n2_; have GE101 := n3_; clear n0_ n1_ n2_ n3_; clear hb hbox hg; have hcz21_0 : w20.cell? ⟨gb101, 0, none⟩ = some (.slice A0_0 l0_0.length c0_0) := (blk_cell BK101.out 0).trans rfl; have hcz21_1 : w20.cell? ⟨gb101, 1, none⟩ = some (.slice A0_1 l0_1.length c0_1) := (blk_cell BK101.out 1).trans rfl; have hfz21_0 := blk_frozen BK101.out 0; have hfz21_1 := blk_frozen BK101.out 1) | ((with_reducible refine gate_callee (f := 38) rfl ?_); refine goesL_ (some 9) rfl rfl Try.func38 (by kernel_rfl) rfl #[.agg #[.slice A0_0 l0_0.length c0_0, .slice A0_1 l0_1.length c0_1]] rfl hA ?_; (with_reducible refine (strike_Validate.calls k _ _ l0_0 _ _ l0_1 t102 _ ?side1 ?side2 ?side3 ?side4 A2.out).mono ?_); (case side1 => exact (Kd.C_below HR0_0.out HB.out)); (case side2 => exact HC0_0.out); (case side3 => exact (Kd.C_below HR0_1.out HB.out)); (case side4 => exact HC0_1.out); rintro e w22 ⟨rfl, hb⟩; refine ⟨_, rfl, ?_⟩; have n0_ := Aside0.mk (blk_below BK101.out hb); have n1_ := Aside0.mk (below_step bB hb); clear BK101; clear HB; have BK101 := n0_; have HB := n1_; clear n0_ n1_; (try clear hb); (try clear hb2); (try clear hk); (try clear hi)))
    have n0_ := Aside0.mk (blk_drew BK101.out)
    have n1_ := Aside0.mk (below_drew1 HB.out)
    clear BK101
    clear HB
    have BK101 := n0_
    have HB := n1_
    clear n0_ n1_
    refine start_ (n := 10) (S := fun w' => w'.cell? ⟨gb101, 0, none⟩ = some (.slice A0_0 l0_0.length c0_0) ∧ w'.cell? ⟨gb101, 1, none⟩ = some (.slice A0_1 l0_1.length c0_1)) (ds := []) #[false, false, false, false, false, false, false, false, false, false] (by kernel_rfl) rfl rfl ⟨(blk_cell BK101.out 0).trans rfl, (blk_cell BK101.out 1).trans rfl⟩ (fun hHeld => ?_); refine with_tabW strike_Simple.tab4 strike_Simple.bits4 (fun HT_ HW_ => ?_)
    generalize w22.drew = w23 at BK101 HB hHeld ⊢
    refine take_ (i := 0) (N := some 14) (v := ?_) (a' := ?_) #[true, false, false, false, false, false, false, false, false, false] rfl rfl (take_ofW HT_.out HW_.out (by kernel_rfl)) (fun _ _ _ h => h) (Or.inl ⟨by rfl, ?_⟩) hHeld ?_ ?_
    rotate_left
    ·
     rintro w' ⟨s0, s1⟩
     go_simp
     with_reducible rfl
    rotate_left
    ·
     simp only [Act.put, List.setIfInBounds_toArray, List.set_cons_zero, List.set_cons_succ, i64_w, i32_w]
     rfl
    refine take_ (i := 2) (N := some 16) (v := ?_) (a' := ?_) #[true, false, true, false, false, false, false, false, false, false] rfl rfl (take_ofW HT_.out HW_.out (by kernel_rfl)) (fun _ _ _ h => h) (Or.inl ⟨by rfl, ?_⟩) hHeld ?_ ?_
    rotate_left
    ·
     rintro w' ⟨s0, s1⟩
     go_simp
     with_reducible rfl
    rotate_left
    ·
     simp only [Act.put, List.setIfInBounds_toArray, List.set_cons_zero, List.set_cons_succ, i64_w, i32_w]
     rfl
    refine one_ (i := 1) (N := some 15) #[true, true, true, false, false, false, false, false, false, false] rfl rfl (one_of HT_.out (by kernel_rfl)) (by decide) (fun K hK => ?_)
    refine goes_ Try.func73 (by kernel_rfl) rfl #[.agg #[.slice A0_0 l0_0.length c0_0, .slice A0_1 l0_1.length c0_1]] (by rfl) rfl rfl hA ?_
    with_reducible refine (strike_lines.calls _ _ l0_0 _ _ l0_1 t103 _ ?side1 ?side2 ?side3 ?side4 A4.out).mono ?_
    (case side1 => exact (Kd.C_below HR0_0.out HB.out))
    (case side2 => exact HC0_0.out)
    (case side3 => exact (Kd.C_below HR0_1.out HB.out))
    (case side4 => exact HC0_1.out)
    rintro e w24 ⟨v104, rfl, ho0, hb⟩
    refine ⟨_, rfl, ?_⟩
    have n0_ := Aside0.mk (Kd.R_lower ho0 (below_size bB))
    have n1_ := Aside0.mk (blk_below BK101.out hb)
    have n2_ := Aside0.mk (below_step bB hb)
    clear BK101
    clear HB
    have HO105 := n0_
    have BK101 := n1_
    have HB := n2_
    clear n0_ n1_ n2_
    (try clear hb)
    (try clear hb2)
    (try clear hk)
    (try clear hi)
    (try clear ho0)
    refine hK.out _ _ ⟨(blk_cell BK101.out 0).trans rfl, (blk_cell BK101.out 1).trans rfl⟩ (fun hHeld => ?_)
    clear hK K
    refine norm_ (a' := ?_) ?_ ?_
    rotate_left
    ·
     show Act.put _ (some 15) _ = _
     simp only [Act.put, List.setIfInBounds_toArray, List.set_cons_zero, List.set_cons_succ, i64_w, i32_w]
     rfl
    refine one_ (i := 3) (N := some 17) #[true, true, true, true, false, false, false, false, false, false] rfl rfl (one_of HT_.out (by kernel_rfl)) (by decide) (fun K hK => ?_)
    refine goes_ Try.func71 (by kernel_rfl) rfl #[.agg #[.slice A0_0 l0_0.length c0_0, .slice A0_1 l0_1.length c0_1]] (by rfl) rfl rfl hA ?_
    with_reducible refine (strike_compounds.calls _ _ l0_0 _ _ l0_1 t106 _ ?side1 ?side2 ?side3 ?side4 A5.out).mono ?_
    (case side1 => exact (Kd.C_below HR0_0.out HB.out))
    (case side2 => exact HC0_0.out)
    (case side3 => exact (Kd.C_below HR0_1.out HB.out))
    (case side4 => exact HC0_1.out)
    rintro e w25 ⟨rfl, hb⟩
    refine ⟨_, rfl, ?_⟩
    have n0_ := Aside0.mk (Kd.R_below HO105.out hb)
    have n1_ := Aside0.mk (blk_below BK101.out hb)
    have n2_ := Aside0.mk (below_step bB hb)
    clear HO105
    clear BK101
    clear HB
    have HO105 := n0_
    have BK101 := n1_
    have HB := n2_
    clear n0_ n1_ n2_
    (try clear hb)
    (try clear hb2)
    (try clear hk)
    (try clear hi)
    obtain ⟨Ao26, co26, eo26⟩ := Kd.R_slice HO105.out
    (first | subst eo26 | (injection eo26 with f1_ f2_ f3_; have f4_ := f1_.symm; have f5_ := f3_.symm; clear f1_ f2_ f3_; subst f4_; subst f5_))
    refine hK.out _ _ ⟨(blk_cell BK101.out 0).trans rfl, (blk_cell BK101.out 1).trans rfl⟩ (fun hHeld => ?_)
    clear hK K
    refine norm_ (a' := ?_) ?_ ?_
    rotate_left
    ·
     show Act.put _ (some 17) _ = _
     simp only [Act.put, List.setIfInBounds_toArray, List.set_cons_zero, List.set_cons_succ, i64_w, i32_w]
     rfl
    refine one_ (i := 4) (N := some 18) #[true, true, true, true, true, false, false, false, false, false] rfl rfl (one_of HT_.out (by kernel_rfl)) (by decide) (fun K hK => ?_)
    refine goes_ Try.func82 (by kernel_rfl) rfl #[.slice Ao26 t103.length co26, .int .i64 t106] (by rfl) rfl rfl hA ?_
    with_reducible refine (strike_solution.calls _ _ t103 t106 t107 true _ ?side1 ?side2 A6.out).mono ?_
    (case side1 => exact (Kd.R_reads' HO105.out).2.2)
    (case side2 => exact (Kd.R_reads' HO105.out).2.1)
    rintro e w27 ⟨v109, rfl, ho0, hb⟩
    refine ⟨_, rfl, ?_⟩
    have n0_ := Aside0.mk (Kd.R_below HO105.out hb)
    have n1_ := Aside0.mk (Kd.R_lower ho0 (below_size bB))
    have n2_ := Aside0.mk (blk_below BK101.out hb)
    have n3_ := Aside0.mk (below_step bB hb)
    clear HO105
    clear BK101
    clear HB
    have HO105 := n0_
    have HO110 := n1_
    have BK101 := n2_
    have HB := n3_
    clear n0_ n1_ n2_ n3_
    (try clear hb)
    (try clear hb2)
    (try clear hk)
    (try clear hi)
    (try clear ho0)
    refine hK.out _ _ ⟨(blk_cell BK101.out 0).trans rfl, (blk_cell BK101.out 1).trans rfl⟩ (fun hHeld => ?_)
    clear hK K
    refine norm_ (a' := ?_) ?_ ?_
    rotate_left
    ·
     show Act.put _ (some 18) _ = _
     simp only [Act.put, List.setIfInBounds_toArray, List.set_cons_zero, List.set_cons_succ, i64_w, i32_w]
     rfl
    refine pure_ (i := 5) (N := some 13) (v := ?_) (a' := ?_) #[true, true, true, true, true, true, false, false, false, false] rfl rfl (any_of HT_.out (by kernel_rfl)) (fun _ _ _ h => h) (Or.inl ⟨by rfl, ?_⟩) ?_ ?_
    rotate_left
    ·
     intro w'
     go_simp
     with_reducible rfl
    rotate_left
    ·
     simp only [Act.put, List.setIfInBounds_toArray, List.set_cons_zero, List.set_cons_succ, i64_w, i32_w]
     rfl
    refine pure_ (i := 6) (N := some 19) (v := ?_) (a' := ?_) #[true, true, true, true, true, true, true, false, false, false] rfl rfl (any_of HT_.out (by kernel_rfl)) (fun _ _ _ h => h) (Or.inl ⟨by rfl, ?_⟩) ?_ ?_
    rotate_left
    ·
     intro w'
     go_simp
     with_reducible rfl
    rotate_left
    ·
     simp only [Act.put, List.setIfInBounds_toArray, List.set_cons_zero, List.set_cons_succ, i64_w, i32_w]
     rfl
    refine pure_ (i := 7) (N := some 20) (v := ?_) (a' := ?_) #[true, true, true, true, true, true, true, true, false, false] rfl rfl (any_of HT_.out (by kernel_rfl)) (fun _ _ _ h => h) (Or.inl ⟨by rfl, ?_⟩) ?_ ?_
    rotate_left
    ·
     intro w'
     go_simp
     with_reducible rfl
    rotate_left
    ·
     simp only [Act.put, List.setIfInBounds_toArray, List.set_cons_zero, List.set_cons_succ, i64_w, i32_w]
     rfl
    refine pure_ (i := 8) (N := some 6) (v := ?_) (a' := ?_) #[true, true, true, true, true, true, true, true, true, false] rfl rfl (any_of HT_.out (by kernel_rfl)) (fun _ _ _ h => h) (Or.inl ⟨by rfl, ?_⟩) ?_ ?_
    rotate_left
    ·
     intro w'
     go_simp
     with_reducible rfl
    rotate_left
    ·
     simp only [Act.put, List.setIfInBounds_toArray, List.set_cons_zero, List.set_cons_succ, i64_w, i32_w]
     rfl
    refine pure_ (i := 9) (N := some 7) (v := ?_) (a' := ?_) #[true, true, true, true, true, true, true, true, true, true] rfl rfl (any_of HT_.out (by kernel_rfl)) (fun _ _ _ h => h) (Or.inl ⟨by rfl, ?_⟩) ?_ ?_
    rotate_left
    ·
     intro w'
     go_simp
     with_reducible rfl
    rotate_left
    ·
     simp only [Act.put, List.setIfInBounds_toArray, List.set_cons_zero, List.set_cons_succ, i64_w, i32_w]
     rfl
    refine done_ (done_of HT_.out (by kernel_rfl)) ?_
    obtain ⟨Ao28, co28, eo28⟩ := Kd.R_slice HO110.out
    subst eo28
    try go_wp2_with (first | (go_at_call 84; (with_reducible refine (slices_Min_int_int.calls k _ _ t107 t111 _ ?side1 ?side2 A8.out).mono ?_); (case side1 => exact (Kd.R_reads' HO110.out).2.2); (case side2 => exact (Kd.R_reads' HO110.out).2.1); rintro e w29 ⟨rfl, hb⟩; have n0_ := Aside0.mk (Kd.R_below HO105.out hb); have n1_ := Aside0.mk (Kd.R_below HO110.out hb); have n2_ := Aside0.mk (blk_below BK101.out hb); have n3_ := Aside0.mk (below_step bB hb); clear HO105; clear HO110; clear BK101; clear HB; have HO105 := n0_; have HO110 := n1_; have BK101 := n2_; have HB := n3_; clear n0_ n1_ n2_ n3_; (try clear hb); (try clear hb2); (try clear hk); (try clear hi)))
    go_ret3
    exact ⟨_, by first | rfl | (simp [errW_none, errW_some] <;> rfl) | (simp [*, errW_none, errW_some] <;> rfl), by (with_reducible repeat (first | apply Kd.R_alloc | apply Kd.R_drewN | apply Kd.R_drew)); exact HO110.out, bB⟩
  ·
   replace c7 := Bool.eq_false_iff.mpr c7
   subst c7
   have H1 : (some (([] : List Int), false, 0)) = some (r1, r2, r3) := by rw [if_neg (show ¬ (false = true) by decide)] at H; exact H
   clear H
   have H := H1
   clear H1
   simp only [Option.some.injEq, Prod.mk.injEq] at H
   obtain ⟨rfl, rfl, rfl⟩ := H
   go_enter Try.func41, Try.ntmps41
   try go_wp2_with (first | ((with_reducible refine gate_dst (N := 1) rfl ?_); refine box_event ?hg (N := 1) ?hd (cs := #[.slice A0_0 l0_0.length c0_0, .slice A0_1 l0_1.length c0_1]) (t := 24) ?hr ?_; (case hd => rfl); (case hg => rfl); (case hr => first | (go_simp; done) | (go_simp; rfl)); intro gb101 hg w30 hbox hb; have n0_ := Aside0.mk (below_step bB hb); have n1_ := Aside0.mk (hbox); have n2_ := Aside0.mk ((by rw [hg]; exact (below_size bB) : w.heap.size ≤ gb101)); have n3_ := Aside0.mk ((by rw [hg]; exact (below_size bB) : w.heap.size ≤ gb101)); clear HB; have HB := n0_; have BK101 := n1_; have GW101 := n2_; have GE101 := n3_; clear n0_ n1_ n2_ n3_; clear hb hbox hg; have hcz31_0 : w30.cell? ⟨gb101, 0, none⟩ = some (.slice A0_0 l0_0.length c0_0) := (blk_cell BK101.out 0).trans rfl; have hcz31_1 : w30.cell? ⟨gb101, 1, none⟩ = some (.slice A0_1 l0_1.length c0_1) := (blk_cell BK101.out 1).trans rfl; have hfz31_0 := blk_frozen BK101.out 0; have hfz31_1 := blk_frozen BK101.out 1) | ((with_reducible refine gate_callee (f := 38) rfl ?_); refine goesL_ (some 9) rfl rfl Try.func38 (by kernel_rfl) rfl #[.agg #[.slice A0_0 l0_0.length c0_0, .slice A0_1 l0_1.length c0_1]] rfl hA ?_; (with_reducible refine (strike_Validate.calls k _ _ l0_0 _ _ l0_1 t102 _ ?side1 ?side2 ?side3 ?side4 A2.out).mono ?_); (case side1 => exact (Kd.C_below HR0_0.out HB.out)); (case side2 => exact HC0_0.out); (case side3 => exact (Kd.C_below HR0_1.out HB.out)); (case side4 => exact HC0_1.out); rintro e w32 ⟨rfl, hb⟩; refine ⟨_, rfl, ?_⟩; have n0_ := Aside0.mk (blk_below BK101.out hb); have n1_ := Aside0.mk (below_step bB hb); clear BK101; clear HB; have BK101 := n0_; have HB := n1_; clear n0_ n1_; (try clear hb); (try clear hb2); (try clear hk); (try clear hi)))
   have n0_ := Aside0.mk (blk_drew BK101.out)
   have n1_ := Aside0.mk (below_drew1 HB.out)
   clear BK101
   clear HB
   have BK101 := n0_
   have HB := n1_
   clear n0_ n1_
   refine start_ (n := 10) (S := fun w' => w'.cell? ⟨gb101, 0, none⟩ = some (.slice A0_0 l0_0.length c0_0) ∧ w'.cell? ⟨gb101, 1, none⟩ = some (.slice A0_1 l0_1.length c0_1)) (ds := []) #[false, false, false, false, false, false, false, false, false, false] (by kernel_rfl) rfl rfl ⟨(blk_cell BK101.out 0).trans rfl, (blk_cell BK101.out 1).trans rfl⟩ (fun hHeld => ?_); refine with_tabW strike_Simple.tab4 strike_Simple.bits4 (fun HT_ HW_ => ?_)
   generalize w32.drew = w33 at BK101 HB hHeld ⊢
   refine take_ (i := 0) (N := some 14) (v := ?_) (a' := ?_) #[true, false, false, false, false, false, false, false, false, false] rfl rfl (take_ofW HT_.out HW_.out (by kernel_rfl)) (fun _ _ _ h => h) (Or.inl ⟨by rfl, ?_⟩) hHeld ?_ ?_
   rotate_left
   ·
    rintro w' ⟨s0, s1⟩
    go_simp
    with_reducible rfl
   rotate_left
   ·
    simp only [Act.put, List.setIfInBounds_toArray, List.set_cons_zero, List.set_cons_succ, i64_w, i32_w]
    rfl
   refine take_ (i := 2) (N := some 16) (v := ?_) (a' := ?_) #[true, false, true, false, false, false, false, false, false, false] rfl rfl (take_ofW HT_.out HW_.out (by kernel_rfl)) (fun _ _ _ h => h) (Or.inl ⟨by rfl, ?_⟩) hHeld ?_ ?_
   rotate_left
   ·
    rintro w' ⟨s0, s1⟩
    go_simp
    with_reducible rfl
   rotate_left
   ·
    simp only [Act.put, List.setIfInBounds_toArray, List.set_cons_zero, List.set_cons_succ, i64_w, i32_w]
    rfl
   refine one_ (i := 1) (N := some 15) #[true, true, true, false, false, false, false, false, false, false] rfl rfl (one_of HT_.out (by kernel_rfl)) (by decide) (fun K hK => ?_)
   refine goes_ Try.func73 (by kernel_rfl) rfl #[.agg #[.slice A0_0 l0_0.length c0_0, .slice A0_1 l0_1.length c0_1]] (by rfl) rfl rfl hA ?_
   with_reducible refine (strike_lines.calls _ _ l0_0 _ _ l0_1 t103 _ ?side1 ?side2 ?side3 ?side4 A4.out).mono ?_
   (case side1 => exact (Kd.C_below HR0_0.out HB.out))
   (case side2 => exact HC0_0.out)
   (case side3 => exact (Kd.C_below HR0_1.out HB.out))
   (case side4 => exact HC0_1.out)
   rintro e w34 ⟨v104, rfl, ho0, hb⟩
   refine ⟨_, rfl, ?_⟩
   have n0_ := Aside0.mk (Kd.R_lower ho0 (below_size bB))
   have n1_ := Aside0.mk (blk_below BK101.out hb)
   have n2_ := Aside0.mk (below_step bB hb)
   clear BK101
   clear HB
   have HO105 := n0_
   have BK101 := n1_
   have HB := n2_
   clear n0_ n1_ n2_
   (try clear hb)
   (try clear hb2)
   (try clear hk)
   (try clear hi)
   (try clear ho0)
   refine hK.out _ _ ⟨(blk_cell BK101.out 0).trans rfl, (blk_cell BK101.out 1).trans rfl⟩ (fun hHeld => ?_)
   clear hK K
   refine norm_ (a' := ?_) ?_ ?_
   rotate_left
   ·
    show Act.put _ (some 15) _ = _
    simp only [Act.put, List.setIfInBounds_toArray, List.set_cons_zero, List.set_cons_succ, i64_w, i32_w]
    rfl
   refine one_ (i := 3) (N := some 17) #[true, true, true, true, false, false, false, false, false, false] rfl rfl (one_of HT_.out (by kernel_rfl)) (by decide) (fun K hK => ?_)
   refine goes_ Try.func71 (by kernel_rfl) rfl #[.agg #[.slice A0_0 l0_0.length c0_0, .slice A0_1 l0_1.length c0_1]] (by rfl) rfl rfl hA ?_
   with_reducible refine (strike_compounds.calls _ _ l0_0 _ _ l0_1 t106 _ ?side1 ?side2 ?side3 ?side4 A5.out).mono ?_
   (case side1 => exact (Kd.C_below HR0_0.out HB.out))
   (case side2 => exact HC0_0.out)
   (case side3 => exact (Kd.C_below HR0_1.out HB.out))
   (case side4 => exact HC0_1.out)
   rintro e w35 ⟨rfl, hb⟩
   refine ⟨_, rfl, ?_⟩
   have n0_ := Aside0.mk (Kd.R_below HO105.out hb)
   have n1_ := Aside0.mk (blk_below BK101.out hb)
   have n2_ := Aside0.mk (below_step bB hb)
   clear HO105
   clear BK101
   clear HB
   have HO105 := n0_
   have BK101 := n1_
   have HB := n2_
   clear n0_ n1_ n2_
   (try clear hb)
   (try clear hb2)
   (try clear hk)
   (try clear hi)
   obtain ⟨Ao36, co36, eo36⟩ := Kd.R_slice HO105.out
   (first | subst eo36 | (injection eo36 with f1_ f2_ f3_; have f4_ := f1_.symm; have f5_ := f3_.symm; clear f1_ f2_ f3_; subst f4_; subst f5_))
   refine hK.out _ _ ⟨(blk_cell BK101.out 0).trans rfl, (blk_cell BK101.out 1).trans rfl⟩ (fun hHeld => ?_)
   clear hK K
   refine norm_ (a' := ?_) ?_ ?_
   rotate_left
   ·
    show Act.put _ (some 17) _ = _
    simp only [Act.put, List.setIfInBounds_toArray, List.set_cons_zero, List.set_cons_succ, i64_w, i32_w]
    rfl
   refine one_ (i := 4) (N := some 18) #[true, true, true, true, true, false, false, false, false, false] rfl rfl (one_of HT_.out (by kernel_rfl)) (by decide) (fun K hK => ?_)
   refine goes_ Try.func82 (by kernel_rfl) rfl #[.slice Ao36 t103.length co36, .int .i64 t106] (by rfl) rfl rfl hA ?_
   with_reducible refine (strike_solution.calls _ _ t103 t106 t107 false _ ?side1 ?side2 A6.out).mono ?_
   (case side1 => exact (Kd.R_reads' HO105.out).2.2)
   (case side2 => exact (Kd.R_reads' HO105.out).2.1)
   rintro e w37 ⟨v109, rfl, ho0, hb⟩
   refine ⟨_, rfl, ?_⟩
   have n0_ := Aside0.mk (Kd.R_below HO105.out hb)
   have n1_ := Aside0.mk (Kd.R_lower ho0 (below_size bB))
   have n2_ := Aside0.mk (blk_below BK101.out hb)
   have n3_ := Aside0.mk (below_step bB hb)
   clear HO105
   clear BK101
   clear HB
   have HO105 := n0_
   have HO110 := n1_
   have BK101 := n2_
   have HB := n3_
   clear n0_ n1_ n2_ n3_
   (try clear hb)
   (try clear hb2)
   (try clear hk)
   (try clear hi)
   (try clear ho0)
   refine hK.out _ _ ⟨(blk_cell BK101.out 0).trans rfl, (blk_cell BK101.out 1).trans rfl⟩ (fun hHeld => ?_)
   clear hK K
   refine norm_ (a' := ?_) ?_ ?_
   rotate_left
   ·
    show Act.put _ (some 18) _ = _
    simp only [Act.put, List.setIfInBounds_toArray, List.set_cons_zero, List.set_cons_succ, i64_w, i32_w]
    rfl
   refine pure_ (i := 5) (N := some 13) (v := ?_) (a' := ?_) #[true, true, true, true, true, true, false, false, false, false] rfl rfl (any_of HT_.out (by kernel_rfl)) (fun _ _ _ h => h) (Or.inl ⟨by rfl, ?_⟩) ?_ ?_
   rotate_left
   ·
    intro w'
    go_simp
    with_reducible rfl
   rotate_left
   ·
    simp only [Act.put, List.setIfInBounds_toArray, List.set_cons_zero, List.set_cons_succ, i64_w, i32_w]
    rfl
   refine pure_ (i := 6) (N := some 19) (v := ?_) (a' := ?_) #[true, true, true, true, true, true, true, false, false, false] rfl rfl (any_of HT_.out (by kernel_rfl)) (fun _ _ _ h => h) (Or.inl ⟨by rfl, ?_⟩) ?_ ?_
   rotate_left
   ·
    intro w'
    go_simp
    with_reducible rfl
   rotate_left
   ·
    simp only [Act.put, List.setIfInBounds_toArray, List.set_cons_zero, List.set_cons_succ, i64_w, i32_w]
    rfl
   refine pure_ (i := 7) (N := some 20) (v := ?_) (a' := ?_) #[true, true, true, true, true, true, true, true, false, false] rfl rfl (any_of HT_.out (by kernel_rfl)) (fun _ _ _ h => h) (Or.inl ⟨by rfl, ?_⟩) ?_ ?_
   rotate_left
   ·
    intro w'
    go_simp
    with_reducible rfl
   rotate_left
   ·
    simp only [Act.put, List.setIfInBounds_toArray, List.set_cons_zero, List.set_cons_succ, i64_w, i32_w]
    rfl
   refine pure_ (i := 8) (N := some 6) (v := ?_) (a' := ?_) #[true, true, true, true, true, true, true, true, true, false] rfl rfl (any_of HT_.out (by kernel_rfl)) (fun _ _ _ h => h) (Or.inl ⟨by rfl, ?_⟩) ?_ ?_
   rotate_left
   ·
    intro w'
    go_simp
    with_reducible rfl
   rotate_left
   ·
    simp only [Act.put, List.setIfInBounds_toArray, List.set_cons_zero, List.set_cons_succ, i64_w, i32_w]
    rfl
   refine pure_ (i := 9) (N := some 7) (v := ?_) (a' := ?_) #[true, true, true, true, true, true, true, true, true, true] rfl rfl (any_of HT_.out (by kernel_rfl)) (fun _ _ _ h => h) (Or.inl ⟨by rfl, ?_⟩) ?_ ?_
   rotate_left
   ·
    intro w'
    go_simp
    with_reducible rfl
   rotate_left
   ·
    simp only [Act.put, List.setIfInBounds_toArray, List.set_cons_zero, List.set_cons_succ, i64_w, i32_w]
    rfl
   refine done_ (done_of HT_.out (by kernel_rfl)) ?_
   try go_wp2
   go_ret3
   exact ⟨_, by first | rfl | (simp [errW_none, errW_some] <;> rfl) | (simp [*, errW_none, errW_some] <;> rfl), by first | exact Kd.R_nil _ _ _ _ _ | exact Kd.N_nil _ _ _ _ _ | exact Kd.V_nil _ _ _ _ _ | exact Kd.Q_nil _ _ _ _ _ | exact Kd.S_nil _ _ _ _ _, bB⟩
 ·
  rw [if_neg c3] at H
  have c3b0 : (t102 == 0) = false := beq_eq_false_iff_ne.mpr c3
  have c3b1 : (t102 != 0) = true := bne_iff_ne.mpr c3
  simp only [Option.some.injEq, Prod.mk.injEq] at H
  obtain ⟨rfl, rfl, rfl⟩ := H
  go_enter Try.func41, Try.ntmps41
  go_wp2_with (first | ((with_reducible refine gate_dst (N := 1) rfl ?_); refine box_event ?hg (N := 1) ?hd (cs := #[.slice A0_0 l0_0.length c0_0, .slice A0_1 l0_1.length c0_1]) (t := 24) ?hr ?_; (case hd => rfl); (case hg => rfl); (case hr => first | (go_simp; done) | (go_simp; rfl)); intro gb101 hg w38 hbox hb; have n0_ := Aside0.mk (below_step bB hb); have n1_ := Aside0.mk (hbox); have n2_ := Aside0.mk ((by rw [hg]; exact (below_size bB) : w.heap.size ≤ gb101)); have n3_ := Aside0.mk ((by rw [hg]; exact (below_size bB) : w.heap.size ≤ gb101)); clear HB; have HB := n0_; have BK101 := n1_; have GW101 := n2_; have GE101 := n3_; clear n0_ n1_ n2_ n3_; clear hb hbox hg; have hcz39_0 : w38.cell? ⟨gb101, 0, none⟩ = some (.slice A0_0 l0_0.length c0_0) := (blk_cell BK101.out 0).trans rfl; have hcz39_1 : w38.cell? ⟨gb101, 1, none⟩ = some (.slice A0_1 l0_1.length c0_1) := (blk_cell BK101.out 1).trans rfl; have hfz39_0 := blk_frozen BK101.out 0; have hfz39_1 := blk_frozen BK101.out 1) | ((with_reducible refine gate_callee (f := 38) rfl ?_); refine goesL_ (some 9) rfl rfl Try.func38 (by kernel_rfl) rfl #[.agg #[.slice A0_0 l0_0.length c0_0, .slice A0_1 l0_1.length c0_1]] rfl hA ?_; (with_reducible refine (strike_Validate.calls k _ _ l0_0 _ _ l0_1 t102 _ ?side1 ?side2 ?side3 ?side4 A2.out).mono ?_); (case side1 => exact (Kd.C_below HR0_0.out HB.out)); (case side2 => exact HC0_0.out); (case side3 => exact (Kd.C_below HR0_1.out HB.out)); (case side4 => exact HC0_1.out); rintro e w40 ⟨rfl, hb⟩; refine ⟨_, rfl, ?_⟩; have n0_ := Aside0.mk (blk_below BK101.out hb); have n1_ := Aside0.mk (below_step bB hb); clear BK101; clear HB; have BK101 := n0_; have HB := n1_; clear n0_ n1_; (try clear hb); (try clear hb2); (try clear hk); (try clear hi)))
  go_ret3
  exact ⟨_, by first | rfl | (simp [errW_none, errW_some] <;> rfl) | (simp [*, errW_none, errW_some] <;> rfl), by first | exact Kd.R_nil _ _ _ _ _ | exact Kd.N_nil _ _ _ _ _ | exact Kd.V_nil _ _ _ _ _ | exact Kd.Q_nil _ _ _ _ _ | exact Kd.S_nil _ _ _ _ _, bB⟩
end Go.Proofs.Ytdneelgnmnpanaa.P
end
