/- For every input: striking: the one balance without a common divisor is what the document says, and it balances. The law returns true and leaves its arguments as they were. No further conditions. -/
import Derived.Test.YtdneelgnmnpanaaZSi6
import Derived.Test.YtdneelgnmnpanaaRows
import Derived.WalkKit
import Derived.ProofKit
import Derived.OpenShut
import Derived.ShutString
import Derived.ChangeOld
import Derived.Below
import Derived.SizedLaws
import Derived.Lib.SmallJoins
set_option linter.unusedVariables false
set_option linter.unusedSimpArgs false
section
namespace Go.Proofs.Ytdneelgnmnpanaa.P
open Go.RowKit Go.Proofs.YtdneelgnmnpanaaW.PrintWords Go.Proofs.Det
structure Frm (X : List (List Int)) (m : Nat) (M0 : List (List Int)) : Prop where
  lns : Lns X (List.range m) M0
  sgn : ∃ s : Nat → Int, (∀ j, s j = 1 ∨ s j = -1) ∧ ∀ b, Sgd s (lineAt M0 b)
  n1 : 1 ≤ X.length
  n6 : X.length ≤ 6
  m1 : 1 ≤ m
  m4 : m ≤ 4
  small : Small X (List.range m)
  nine : ∀ b j, ((lineAt M0 b).getD j 0).natAbs ≤ 9
def KL (n : Nat) (M0 : List (List Int)) : (Nat → Int) → Prop := Ker n (Sp M0)
theorem solution_eq {M0 : List (List Int)} {n : Nat} (h6 : Six M0) (h0 : 0 < M0.length) (h1 : M0.length < 1000) (hn : n ≤ 6) {M : List (List Int)} {Q : List Nat} (h : red M0 = some (M, Q.map (fun x : Nat => (x : Int)))) (hM : Six M) :
    Zj.f (M0.map mk6) (n : Int) = sol (M.take Q.length) (Q.map (fun x : Nat => (x : Int))) n := by
  unfold Zj.f; rw [if_pos (by omega)]; unfold Z1.f; rw [if_pos ⟨by simpa using h0, by simpa using h1⟩, map_L6 h6, h]; simp only [Option.map_some, Option.bind_some, List.length_map, Int.toNat_natCast]; rw [map_L6 (fun r hr => hM r (List.mem_of_mem_take hr))]
def gsl (M0 : List (List Int)) (n : Nat) : List Int × Bool := (Zj.f (M0.map mk6) (n : Int)).getD ([], false)
structure Prim (n : Nat) (M0 : List (List Int)) (r : List Int) : Prop where
  len : r.length = n
  gnr : Gnr n (KL n M0) (fn r)
  gc : gc r = 1
  nz : 0 ≤ nzi r
  pos : 0 < r.getD (nzi r).toNat 0
theorem UM {d c : Int} : ∀ (m : List Int) (g : Nat), d ∣ c * g → (∀ x ∈ m, d ∣ c * x) → d ∣ c * ((m.foldl (fun d n => Int.gcd d n) g : Nat) : Int)
  | [], _, h, _ => h
  | y :: m, g, h, hm => by
    rw [List.foldl_cons]; refine UM m _ ?_ (fun x hx => hm x (List.mem_cons_of_mem _ hx)); have h2 := hm y (List.mem_cons_self ..); have h3 := Int.dvd_coe_gcd h h2; rw [Int.gcd_mul_left, Int.natCast_mul] at h3; rw [← Int.dvd_natAbs, Int.natAbs_mul, Int.natAbs_natCast, Int.natCast_mul]; exact h3
theorem UC {n : Nat} {r : List Int} (hl : r.length = n) (hg : gc r = 1) {v : Nat → Int} (h : Prp n (fn r) v) : ∃ t : Int, ∀ j, j < n → v j = t * r.getD j 0 := by
  by_cases hz : ∃ k, k < n ∧ r.getD k 0 ≠ 0
  · obtain ⟨k, hk, hk0⟩ := hz; have hd : r.getD k 0 ∣ v k * ((gc r : Nat) : Int) := UM r 0 (by simp) (fun x hx => by
      obtain ⟨j, hj, rfl⟩ := List.mem_iff_getElem.1 hx; rw [← getD_some hj]; have := h j (by omega) k hk; have e : v k * r.getD j 0 = v j * r.getD k 0 := this.symm; rw [e]; exact ⟨v j, Int.mul_comm _ _⟩)
    rw [hg] at hd; obtain ⟨t, ht⟩ := hd; refine ⟨t, fun j hj => ?_⟩; refine Int.eq_of_mul_eq_mul_right hk0 ?_; have e : v j * r.getD k 0 = v k * r.getD j 0 := h j hj k hk; rw [e, show v k = v k * ((1 : Nat) : Int) by omega, ht]; grind
  · exfalso
    have h0 : ∀ x ∈ r, (0 : Int) ∣ x := fun x hx => by
      obtain ⟨j, hj, rfl⟩ := List.mem_iff_getElem.1 hx; by_cases c : r[j] = 0
      · rw [c]; exact Int.dvd_refl _
      · exact absurd ⟨j, by omega, by rw [getD_some hj]; exact c⟩ hz
    have := V0 r 0 0 (by simp) h0; have h1 : (0 : Int) ∣ ((gc r : Nat) : Int) := this; rw [hg] at h1; exact absurd (Int.zero_dvd.1 h1) (by decide)
theorem Jg : ∀ (l : List Int) (k : Nat), k < (nzi l).toNat → l.getD k 0 = 0
  | [], k, h => rfl
  | x :: l, k, h => by
    rw [nzi] at h; by_cases c : x ≠ 0
    · rw [if_pos c] at h; omega
    · rw [if_neg c] at h; by_cases c2 : nzi l < 0
      · rw [if_pos c2] at h; omega
      · rw [if_neg c2] at h; cases k with
        | zero => simpa using c
        | succ k =>
          have := Jg l k (by omega); simpa using this
section
variable {X : List (List Int)} {m : Nat} {M0 : List (List Int)}
theorem Frm.mlen (h : Frm X m M0) : M0.length = m := by have := h.lns.len; rwa [List.length_range] at this
theorem Frm.four (h : Frm X m M0) : Four M0 := .inl (by rw [h.mlen]; exact h.m4)
theorem Frm.inv (h : Frm X m M0) : ∃ s M Q, red M0 = some (M, Q.map (fun x : Nat => (x : Int))) ∧ Inv s M0 6 M Q := by
  obtain ⟨s, h1, h2⟩ := h.sgn; obtain ⟨M, Q, h3⟩ := red_inv h1 h.four h.lns.six h.nine h2; exact ⟨s, M, Q, h3⟩
theorem Frm.sol (h : Frm X m M0) : Zj.f (M0.map mk6) (X.length : Int) = some (gsl M0 X.length) ∧ (((gsl M0 X.length).2 = true ∧ rkL M0 + 1 = X.length ∧ Prim X.length M0 (gsl M0 X.length).1) ∨ (gsl M0 X.length = ([], false) ∧ rkL M0 + 1 ≠ X.length ∧ ¬ ∃ v, Gnr X.length (KL X.length M0) v)) := by
  obtain ⟨s, M, Q, e, hi⟩ := h.inv; have hm := h.mlen; have h1 := h.m1; have h2 := h.m4; have he := solution_eq h.lns.six (by omega) (by omega) h.n6 e hi.six; have hr := rkL_eq e; by_cases c : Q.length + 1 = X.length
  · obtain ⟨r, a1, a2, a3, a4, a5, a6⟩ := sol_one hi h.four h.n6 h.lns.wid h.nine c; rw [a1] at he; have hg : gsl M0 X.length = (r, true) := by
      unfold gsl; rw [he]; rfl
    rw [hg]; exact ⟨he, .inl ⟨rfl, by rw [hr]; exact c, ⟨a2, a3, a4, a5, a6⟩⟩⟩
  · rw [sol_none hi c] at he; have hg : gsl M0 X.length = ([], false) := by
      unfold gsl; rw [he]; rfl
    rw [hg]; exact ⟨he, .inr ⟨rfl, by rw [hr]; exact c, fun hh => c ((hi.one h.n6 h.lns.wid).1 hh)⟩⟩
theorem Frm.bound (h : Frm X m M0) {r : List Int} (hp : Prim X.length M0 r) : ∀ j, j < X.length → (r.getD j 0).natAbs ≤ 157464 := by
  obtain ⟨s, M, Q, e, hi⟩ := h.inv; have hl := (hi.one h.n6 h.lns.wid).1 ⟨_, hp.gnr⟩; obtain ⟨l, -, -, -, hg, hb⟩ := hi.cof h.four h.n6 h.lns.wid hl h.nine; intro j hj; obtain ⟨t, ht⟩ := UC hp.len hp.gc (hp.gnr.2.2 _ hg.1); have ht0 : t ≠ 0 := fun e => by
    obtain ⟨i, hi, hi0⟩ := hg.2.1; rw [ht i hi, e, Int.zero_mul] at hi0; exact hi0 rfl
  have h1 := hb j hj; rw [ht j hj, Int.natAbs_mul] at h1; have : 1 * (r.getD j 0).natAbs ≤ t.natAbs * (r.getD j 0).natAbs := Nat.mul_le_mul_right _ (by omega); omega
end
theorem gcd_l0 : ∀ (n : Nat) (x y : Int), y.toNat < n → 0 ≤ x → 0 ≤ y → Ev (fun k => QM.l0 k x y) (Int.gcd x y : Int)
  | 0, _, _, h, _, _ => by omega
  | n + 1, x, y, h, hx, hy => by
    refine Ev.step (fun k => by rw [QM.l0]) ?_; by_cases c : y > 0
    · have c0 : ¬ y = 0 := by omega
      simp only [c, c0, if_true, if_false]; have h1 := Int.tmod_lt_of_pos x c; have h0 := Int.tmod_nonneg y hx; have := gcd_l0 n y (Int.tmod x y) (by omega) (by omega) h0; have e : Int.gcd y (Int.tmod x y) = Int.gcd x y := by
        show Nat.gcd y.natAbs (Int.tmod x y).natAbs = Nat.gcd x.natAbs y.natAbs
        rw [Int.natAbs_tmod, Nat.gcd_comm y.natAbs, Nat.gcd_comm x.natAbs, ← Nat.gcd_rec]
      rw [e] at this; exact this
    · simp only [c, if_false]; have e : y = 0 := by omega
      subst e; rw [show ((Int.gcd x 0 : Nat) : Int) = x by rw [Int.gcd_zero]; omega]; exact Ev.now _
theorem mx_abs {a : Int} (h : Lim a) : mx a (wrap64 (-a)) = (a.natAbs : Int) := by
  unfold Lim at h; rw [wrp (by omega) (by omega)]; unfold mx; split <;> omega
theorem gcd_ev {a b : Int} (ha : Lim a) (hb : Lim b) : Ev (fun k => QM.f k a b) (Int.gcd a b : Int) := by
  unfold QM.f; rw [mx_abs ha, mx_abs hb]; exact gcd_l0 _ _ _ (Nat.lt_succ_self _) (by omega) (by omega)
def rowsQ (M0 : List (List Int)) (q : Nat) : List (Nat → Int) := (bits q).map fun k => fn (lineAt M0 k)
def cfl (n : Nat) (M0 : List (List Int)) (q : Nat) : List Int := (List.range n).map (cof n (rowsQ M0 q))
theorem cfl_at {n : Nat} {M0 : List (List Int)} {q c : Nat} (h : c < n) : (cfl n M0 q).getD c 0 = cof n (rowsQ M0 q) c := by
  unfold cfl; rw [Q6 _ c _ (by simpa using h)]; simp
theorem JO (n : Nat) (M0 : List (List Int)) (q : Nat) : (cfl n M0 q).length = n := by simp [cfl]
theorem but_map (X : List (List Int)) (c : Nat) (h : c < X.length) : (but X.length c).map (fun e => X.getD e []) = X.take c ++ X.drop (c + 1) := by
  have key : ∀ (d a : Nat), a + d ≤ X.length → (List.range' a d).map (fun e => X.getD e []) = (X.drop a).take d := by
    intro d; induction d with
    | zero => intro a _; simp
    | succ d ih =>
      intro a ha; rw [List.range'_succ, List.map_cons, ih (a + 1) (by omega), List.drop_eq_getElem_cons (show a < X.length by omega), List.take_succ_cons, Q6 X a _ (by omega)]
  unfold but; rw [List.map_append, key c 0 (by omega), key _ (c + 1) (by omega), List.drop_zero, List.take_of_length_le (l := X.drop (c + 1)) (by rw [List.length_drop]; omega)]
theorem Vf (c : Nat) : (Int.tmod (c : Int) 2 = 1 ↔ sgx c = -1) ∧ (sgx c = 1 ∨ sgx c = -1) := by
  have : Int.tmod (c : Int) 2 = ((c % 2 : Nat) : Int) := by
    rw [Int.tmod_eq_emod_of_nonneg (by omega)]; omega
  rw [this]; unfold sgx; split <;> omega
theorem neg_wrap {D : Int} (h : D.natAbs ≤ 157464) : wrap64 (-D) = -D := wrp (by omega) (by omega)
theorem lim_of {D : Int} (h : D.natAbs ≤ 157464) : Lim D := by unfold Lim; omega
section
variable {X : List (List Int)} {m : Nat} {M0 : List (List Int)}
theorem Frm.rows9 (h : Frm X m M0) (q : Nat) : ∀ v ∈ rowsQ M0 q, ∀ j, (v j).natAbs ≤ 9 := fun v hv j => by
  obtain ⟨k, -, rfl⟩ := List.mem_map.1 hv; exact h.nine k j
theorem Frm.minor (h : Frm X m M0) {q c : Nat} (hq : q ∈ chs m (X.length - 1)) (h5 : X.length ≤ 5) (hc : c < X.length) : Ev (fun k => Qf.f k (X.take c ++ X.drop (c + 1)) (toI (bits q))) (det (but X.length c) (rowsQ M0 q)) ∧ (det (but X.length c) (rowsQ M0 q)).natAbs ≤ 157464 := by
  have := h.m4; obtain ⟨q1, q2, q3, q4⟩ := YW (n := m) (by omega) hq; have hn := h.n1; have hR : (rowsQ M0 q).length + 1 = X.length := by unfold rowsQ; rw [List.length_map, q2]; omega
  constructor
  · rw [← but_map X c hc]; have e := det_ev ((but X.length c).map fun e => X.getD e []) (bits q) (by rw [List.length_map, Vb hc, q2]) (by rw [List.length_map, Vb hc]; omega) (fun d hd e he => by
      obtain ⟨x, hx, rfl⟩ := List.mem_map.1 hd; have hx := (mem_but hc).1 hx; rw [Q6 X x _ hx.1]; exact h.small _ (List.getElem_mem _) e (List.mem_range.2 (q4 e he)))
    have e2 : det ((but X.length c).map fun e => X.getD e []) ((bits q).map el) = det (but X.length c) (rowsQ M0 q) := by
      rw [JJ]; unfold rowsQ; rw [List.map_map]; congr 1; refine List.map_congr_left fun k hk => ?_
      have := h.lns.fn k (by rw [List.length_range]; exact q4 k hk); rw [Q6 _ k _ (by rw [List.length_range]; exact q4 k hk), List.getElem_range] at this; exact this.symm
    rw [e2] at e; exact e
  · have h1 := cof_le hR h5 (h.rows9 q) hc; unfold cof at h1; rw [Int.natAbs_mul] at h1; have : (sgx c).natAbs = 1 := by rcases (Vf c).2 with e | e <;> rw [e] <;> rfl
    rw [this] at h1; omega
theorem JK {q c : Nat} (h : Frm X m M0) (hq : q ∈ chs m (X.length - 1)) (h5 : X.length ≤ 5) (hc : c < X.length) : ((cfl X.length M0 q).getD c 0).natAbs ≤ 157464 := by
  have := (h.minor hq h5 hc).2; rw [cfl_at hc]; unfold cof; rcases (Vf c).2 with e | e <;> rw [e] <;> omega
theorem only_l1 (h : Frm X m M0) {q i : Nat} (h5 : X.length ≤ 5) (hi : i < (chs m (X.length - 1)).length) (hqi : (chs m (X.length - 1))[i] = q) (R : List Int × Bool)
    (hend : Ev (fun k => Qh.l1 k X (X.length : Int) (toI (chs m (X.length - 1))) (i : Int) (cfl X.length M0 q) (gc (cfl X.length M0 q) : Int) (X.length : Int)) R) : ∀ (d c : Nat), c + d = X.length →
    Ev (fun k => Qh.l1 k X (X.length : Int) (toI (chs m (X.length - 1))) (i : Int) ((cfl X.length M0 q).take c) (gc ((cfl X.length M0 q).take c) : Int) (c : Int)) R := by
  intro d; induction d with
  | zero =>
    intro c hc; rw [show c = X.length by omega, List.take_of_length_le (by rw [JO]; exact Nat.le_refl _)]; exact hend
  | succ d ih =>
    intro c hc; have hcl : c < X.length := by omega
    have h6 := h.n6; have hqm : q ∈ chs m (X.length - 1) := by rw [← hqi]; exact List.getElem_mem hi
    have hm4 := h.m4; obtain ⟨q1, q2, q3, q4⟩ := YW (n := m) (by omega) hqm; have hlen := JO X.length M0 q; have uy : c < (cfl X.length M0 q).length := by omega
    have f1 : ((c : Int) < (X.length : Int)) := by omega
    have f2 : ((c : Int) ≤ (X.length : Int)) := by omega
    have f3 : (((c + 1 : Nat) : Int) ≤ (X.length : Int)) := by omega
    have f4 : (0 : Int) ≤ ((c + 1 : Nat) : Int) := by omega
    have g1 : 0 + c < 5864062014805 := by omega
    have g2 : c + (X.length - (c + 1)) < 5864062014805 := by omega
    have g3 : (0 : Int) ≤ (i : Int) := by omega
    have g4 : ((i : Int) < ((chs m (X.length - 1)).length : Int)) := by omega
    have g5 : min c X.length = c := by omega
    have g6 : min c (cfl X.length M0 q).length < 17592186044416 := by omega
    refine Ev.step (fun k => by rw [Qh.l1]) ?_; have g7 : (0 : Int) ≤ (c : Int) := by omega
    have hw : wrap64 ((c : Int) + 1) = ((c + 1 : Nat) : Int) := by rw [wrp (by omega) (by omega)]; omega
    have hih := ih (c + 1) (by omega); obtain ⟨hd, hb⟩ := h.minor hqm h5 hcl; simp only [f1, if_true, obs, g7, f2, Int.toNat_natCast, List.length_nil, List.length_take, g5, g1, List.nil_append, hw, f4, f3, List.length_drop, g2, g3, Yh, g4, rdn, Jr _ i hi, hqi]; refine Ev.bind (JA q1) ?_; refine Ev.bind hd ?_; have hnx : (cfl X.length M0 q).take (c + 1) = (cfl X.length M0 q).take c ++ [cof X.length (rowsQ M0 q) c] := by
      rw [List.take_succ_eq_append_getElem uy]; congr 2; simp [cfl]
    have hgc : gc ((cfl X.length M0 q).take (c + 1)) = Int.gcd (gc ((cfl X.length M0 q).take c)) (cof X.length (rowsQ M0 q) c) := by
      rw [gc_take _ c uy]; congr 1; simp [cfl]
    have hl1 : Lim (gc ((cfl X.length M0 q).take c) : Int) := JE _ 0 lim0 (fun x hx => by
      obtain ⟨j, hj, e⟩ := List.mem_iff_getElem.1 (List.mem_of_mem_take hx); have hjl : j < X.length := by rw [← hlen]; exact hj
      have := JK h hqm h5 hjl; rw [Q6 _ j _ hj, e] at this; exact lim_of this)
    have hcf := JK h hqm h5 hcl; rw [cfl_at hcl] at hcf; have hl2 : Lim (cof X.length (rowsQ M0 q) c) := lim_of hcf; have hg := gcd_ev hl1 hl2; rw [← hgc] at hg; rw [hnx] at hih; by_cases hs : Int.tmod (c : Int) 2 = 1
    · have e : cof X.length (rowsQ M0 q) c = wrap64 (-(det (but X.length c) (rowsQ M0 q))) := by
        unfold cof; rw [(Vf c).1.1 hs, neg_wrap hb, Int.neg_mul, Int.one_mul]
      simp only [hs, if_true, g6]; rw [← e]; refine Ev.bind hg ?_; rw [hnx]; exact hih
    · have e : cof X.length (rowsQ M0 q) c = det (but X.length c) (rowsQ M0 q) := by
        unfold cof; rcases (Vf c).2 with e | e
        · rw [e, Int.one_mul]
        · exact absurd ((Vf c).1.2 e) hs
      simp only [hs, if_false, g6, if_true]; rw [← e]; refine Ev.bind hg ?_; rw [hnx]; exact hih
theorem only_l2 {n : Nat} (r v : List Int) (t : Int) (ht : t ≠ 0) (htl : t.natAbs ≤ 200000) (hr : r.length = n) (hv : v.length = n) (hn : n ≤ 6) (hvr : ∀ j, j < n → v.getD j 0 = t * r.getD j 0) (hb : ∀ j, j < n → (r.getD j 0).natAbs ≤ 157464) : ∀ (d c : Nat), c + d = n → (∀ j, j < c → 0 < r.getD j 0) →
    Ev (fun k => Qh.l2 k (n : Int) (r.take c ++ v.drop c) t (c : Int)) (if pos r = true then (r, true) else ([], false)) := by
  intro d; induction d with
  | zero =>
    intro c hc hp; refine Ev.step (fun k => by rw [Qh.l2]) ?_; have f1 : ¬ ((c : Int) < (n : Int)) := by omega
    have hpos : pos r = true := List.all_eq_true.2 fun x hx => by
      obtain ⟨j, hj, rfl⟩ := List.mem_iff_getElem.1 hx; have := hp j (by omega); rw [Q6 r j _ hj] at this; exact decide_eq_true (by omega)
    simp only [f1, if_false, hpos, if_true]; rw [List.take_of_length_le (by omega), List.drop_eq_nil_of_le (by omega), List.append_nil]; exact Ev.now _
  | succ d ih =>
    intro c hc hp; refine Ev.step (fun k => by rw [Qh.l2]) ?_; have hcn : c < n := by omega
    have f1 : ((c : Int) < (n : Int)) := by omega
    have f2 : (0 : Int) ≤ (c : Int) := by omega
    have hl : (r.take c ++ v.drop c).length = n := by rw [List.length_append, List.length_take, List.length_drop]; omega
    have hat : (r.take c ++ v.drop c).getD c 0 = v.getD c 0 := by
      rw [List.getD_eq_getElem?_getD, List.getElem?_append_right (by rw [List.length_take]; omega), List.length_take, List.getElem?_drop, show min c r.length = c by omega, Nat.sub_self, Nat.add_zero, List.getD_eq_getElem?_getD]
    have hdiv : Int.tdiv (v.getD c 0) t = r.getD c 0 := by rw [hvr c hcn, Int.mul_tdiv_cancel_left _ ht]
    have hbc := hb c hcn; have hset : (r.take c ++ v.drop c).set c (r.getD c 0) = r.take (c + 1) ++ v.drop (c + 1) := by
      rw [List.set_append_right _ _ (by rw [List.length_take]; omega), List.length_take, show c - min c r.length = 0 by omega, List.drop_eq_getElem_cons (show c < v.length by omega), List.set_cons_zero, List.take_succ_eq_append_getElem (show c < r.length by omega), Q6 r c _ (by omega), List.append_assoc]; rfl
    have sR : (r.take (c + 1) ++ v.drop (c + 1)).getD c 0 = r.getD c 0 := by
      rw [List.getD_eq_getElem?_getD, List.getElem?_append_left (by rw [List.length_take]; omega), List.getElem?_take, if_pos (by omega), ← List.getD_eq_getElem?_getD]
    have hw : wrap64 (r.getD c 0) = r.getD c 0 := wrp (by omega) (by omega); simp only [f1, f2, if_true, hl, ht, if_false, obs, rdn, Int.toNat_natCast, hat, hdiv, hw, hset, sR]; by_cases c2 : r.getD c 0 ≤ 0
    · have hneg : ¬ pos r = true := fun hh => by
        have := List.all_eq_true.1 hh (r[c]'(by omega)) (List.getElem_mem _); have h2 := of_decide_eq_true this; rw [Q6 r c _ (by omega)] at c2; omega
      simp only [c2, if_true, hneg, if_false]; exact Ev.now _
    · simp only [c2, if_false]; rw [Zz (m := n) hcn (by omega)]; exact ih (c + 1) (by omega) (fun j hj => by
        by_cases e : j = c
        · rw [e]; omega
        · exact hp j (by omega))
theorem gc_mul {r v : List Int} {t : Int} (hl : v.length = r.length) (hg : gc r = 1) (h : ∀ j, j < r.length → v.getD j 0 = t * r.getD j 0) : gc v = t.natAbs := by
  have h1 : t ∣ ((gc v : Nat) : Int) := V0 v 0 _ (by simp) (fun x hx => by
    obtain ⟨j, hj, rfl⟩ := List.mem_iff_getElem.1 hx; rw [← getD_some hj, h j (by omega)]; exact ⟨_, rfl⟩)
  have h2 : ((gc v : Nat) : Int) ∣ t * ((gc r : Nat) : Int) := UM r 0 (by simp) (fun x hx => by
    obtain ⟨j, hj, rfl⟩ := List.mem_iff_getElem.1 hx; rw [← getD_some hj, ← h j hj]; exact (Vk v 0).2 _ (by rw [getD_some (by omega)]; exact List.getElem_mem _))
  rw [hg, show t * ((1 : Nat) : Int) = t by omega] at h2; rw [← Int.natAbs_dvd_natAbs, Int.natAbs_natCast] at h1 h2; exact Nat.dvd_antisymm h2 h1
theorem only_l0 (h : Frm X m M0) {r : List Int} (hp : Prim X.length M0 r) : ∀ (d i : Nat), i + d = (chs m (X.length - 1)).length → (∃ q ∈ (chs m (X.length - 1)).drop i, ∃ c, c < X.length ∧ cof X.length (rowsQ M0 q) c ≠ 0) →
    Ev (fun k => Qh.l0 k X (X.length : Int) (toI (chs m (X.length - 1))) (i : Int)) (if pos r = true then (r, true) else ([], false)) := by
  obtain ⟨s, M, Q, e, hi⟩ := h.inv; have hQ := (hi.one h.n6 h.lns.wid).1 ⟨_, hp.gnr⟩; have h44 := hi.four h.four; have h5 : X.length ≤ 5 := by omega
  have hm4 := h.m4; have hn6 := h.n6; have hn1 := h.n1; have h64 := JN m (X.length - 1) (by omega); intro d; induction d with
  | zero =>
    intro i hi' hex; obtain ⟨q, hq, -⟩ := hex; rw [List.drop_eq_nil_of_le (by omega)] at hq; simp at hq
  | succ d ih =>
    intro i hi' hex; have h1 : i < (chs m (X.length - 1)).length := by omega
    refine Ev.step (fun k => by rw [Qh.l0]) ?_; have f1 : ((i : Int) < ((chs m (X.length - 1)).length : Int)) := by omega
    simp only [Yh, f1, if_true]; have hqm : (chs m (X.length - 1))[i] ∈ chs m (X.length - 1) := List.getElem_mem h1; obtain ⟨q1, q2, q3, q4⟩ := YW (n := m) (by omega) hqm; refine only_l1 h (q := (chs m (X.length - 1))[i]) h5 h1 rfl _ ?_ X.length 0 (by omega); have hlen := JO X.length M0 (chs m (X.length - 1))[i]; refine Ev.step (fun k => by rw [Qh.l1]) ?_; have f2 : ¬ ((X.length : Int) < (X.length : Int)) := by omega
    simp only [f2, if_false]; have hI : (rowsQ M0 (chs m (X.length - 1))[i]).length + 1 = X.length := by unfold rowsQ; rw [List.length_map, q2]; omega
    have hk := hi.cofs hQ (rowsQ M0 (chs m (X.length - 1))[i]) hI (fun v hv => by
      obtain ⟨b, -, rfl⟩ := List.mem_map.1 hv; exact ⟨b, rfl⟩)
    obtain ⟨t, ht⟩ := UC hp.len hp.gc (hp.gnr.2.2 _ hk); have htv : ∀ j, j < r.length → (cfl X.length M0 (chs m (X.length - 1))[i]).getD j 0 = t * r.getD j 0 := fun j hj => by
      rw [cfl_at (by rw [← hp.len]; exact hj)]; exact ht j (by rw [← hp.len]; exact hj)
    have hgc := gc_mul (by rw [hlen, hp.len]) hp.gc htv; rw [hgc]; by_cases c : t = 0
    · have f3 : ((t.natAbs : Nat) : Int) = 0 := by omega
      simp only [f3, if_true]; rw [Zz (m := (chs m (X.length - 1)).length) h1 (by omega)]; refine ih (i + 1) (by omega) ?_; obtain ⟨q, hq, cc, hcc, hne⟩ := hex; rw [List.drop_eq_getElem_cons h1] at hq; rcases List.mem_cons.1 hq with rfl | hq
      · exfalso
        apply hne; rw [ht cc hcc, c, Int.zero_mul]
      · exact ⟨q, hq, cc, hcc, hne⟩
    · have f3 : ¬ ((t.natAbs : Nat) : Int) = 0 := by omega
      have f4 : (0 : Int) < ((cfl X.length M0 (chs m (X.length - 1))[i]).length : Int) := by omega
      have h0 := htv 0 (by rw [hp.len]; omega); have hrd : rd (cfl X.length M0 (chs m (X.length - 1))[i]) 0 = t * r.getD 0 0 := (rdn _ 0).trans h0; simp only [f3, if_false, f4, if_true, hrd]; have hr0 : 0 ≤ r.getD 0 0 := by
        by_cases cz : (nzi r).toNat = 0
        · have := hp.pos; rw [cz] at this; omega
        · rw [Jg r 0 (by omega)]; exact Int.le_refl _
      obtain ⟨j0, hj0, yn⟩ := hp.gnr.2.1; have hbd := h.bound hp; have htl : t.natAbs ≤ 200000 := by
        have h2 := JK h hqm h5 hj0; rw [htv j0 (by rw [hp.len]; exact hj0), Int.natAbs_mul] at h2; have hne : (r.getD j0 0).natAbs ≠ 0 := fun e => yn (Int.natAbs_eq_zero.1 e)
        have : t.natAbs * 1 ≤ t.natAbs * (r.getD j0 0).natAbs := Nat.mul_le_mul_left _ (by omega); omega
      have l2 := fun (t' : Int) (ht' : t' ≠ 0) (hl' : t'.natAbs ≤ 200000) (hvr : ∀ j, j < X.length → (cfl X.length M0 (chs m (X.length - 1))[i]).getD j 0 = t' * r.getD j 0) => only_l2 (n := X.length) r _ t' ht' hl' hp.len hlen hn6 hvr hbd X.length 0 (by omega) (fun j hj => absurd hj (by omega))
      simp only [List.take_zero, List.nil_append, List.drop_zero] at l2; by_cases c0 : r.getD 0 0 = 0
      · -- the first is 0: nothing
        have hneg : ¬ pos r = true := fun hh => by
          have hl0 : 0 < r.length := by rw [hp.len]; omega
          have := List.all_eq_true.1 hh (r[0]'hl0) (List.getElem_mem _); have h2 := of_decide_eq_true this; rw [Q6 r 0 _ hl0] at c0; omega
        have f5 : ¬ (t * r.getD 0 0 < 0) := by rw [c0, Int.mul_zero]; omega
        simp only [f5, if_false, hneg]; refine Ev.step (fun k => by rw [Qh.j2]) ?_; refine Ev.step (fun k => by rw [Qh.l2]) ?_; have g1 : (0 : Int) < (X.length : Int) := by omega
        have g3 : Int.tdiv (rd (cfl X.length M0 (chs m (X.length - 1))[i]) 0) ((t.natAbs : Nat) : Int) = 0 := by rw [hrd, c0, Int.mul_zero]; simp
        have g4 : rd ((cfl X.length M0 (chs m (X.length - 1))[i]).set (0 : Int).toNat 0) 0 ≤ 0 := by
          have hl0 : 0 < (cfl X.length M0 (chs m (X.length - 1))[i]).length := by omega
          have : rd ((cfl X.length M0 (chs m (X.length - 1))[i]).set (0 : Int).toNat 0) 0 = 0 := by
            refine (rdn _ 0).trans ?_; show ((cfl X.length M0 (chs m (X.length - 1))[i]).set 0 0).getD 0 0 = 0
            rw [Q6 _ 0 _ (by rw [List.length_set]; exact hl0), List.getElem_set_self]
          omega
        simp only [g1, if_true, Int.le_refl, f4, f3, if_false, obs, g3, show wrap64 0 = 0 from wrp (by decide) (by decide), g4]; exact Ev.now _
      · have hrp : 0 < r.getD 0 0 := by omega
        by_cases ct : t < 0
        · have f5 : t * r.getD 0 0 < 0 := Int.mul_neg_of_neg_of_pos ct hrp; simp only [f5, if_true]; rw [show wrap64 (-((t.natAbs : Nat) : Int)) = t by rw [wrp (by omega) (by omega)]; omega]; refine Ev.step (fun k => by rw [Qh.j2]) ?_; exact l2 t c htl (fun j hj => htv j (by rw [hp.len]; exact hj))
        · have f5 : ¬ t * r.getD 0 0 < 0 := by have := Int.mul_nonneg (show 0 ≤ t by omega) hr0; omega
          simp only [f5, if_false]; rw [show ((t.natAbs : Nat) : Int) = t by omega]; refine Ev.step (fun k => by rw [Qh.j2]) ?_; exact l2 t c htl (fun j hj => htv j (by rw [hp.len]; exact hj))
theorem Frm.len0 (h : Frm X m M0) (hm : (X.getD 0 []).length = m) {r : List Int} (hp : Prim X.length M0 r) : Ev (fun k => Qh.f k X) (if pos r = true then (r, true) else ([], false)) := by
  obtain ⟨s, M, Q, e, hi⟩ := h.inv; have hQ := (hi.one h.n6 h.lns.wid).1 ⟨_, hp.gnr⟩; have hn1 := h.n1; have hn6 := h.n6; have hm4 := h.m4; unfold Qh.f; have f1 : (0 : Int) < (X.length : Int) := by omega
  simp only [f1, if_true, rdL0, hm]; rw [show wrap64 ((X.length : Int) - 1) = ((X.length - 1 : Nat) : Int) by rw [wrp (by omega) (by omega)]; omega]; refine Ev.bind (V2 (n := m) (r := X.length - 1) (by omega) (by omega)) ?_; refine only_l0 h hp (chs m (X.length - 1)).length 0 (by omega) ?_; obtain ⟨l, l1, l2, l3, hg, -⟩ := hi.cof h.four h.n6 h.lns.wid hQ h.nine; obtain ⟨c1, c2⟩ := Up (n := m) (by omega) l1 (fun x hx => by rw [← h.mlen]; exact l2 x hx); obtain ⟨j, hj, hj0⟩ := hg.2.1; refine ⟨msk l, by rw [List.drop_zero, show X.length - 1 = l.length by omega]; exact c1, j, hj, ?_⟩; unfold rowsQ; rw [c2]; exact hj0
end
def sub (X : List (List Int)) (B : List Nat) : List (List Int) := B.map fun e => X.getD e []
def sl (M0 : List (List Int)) (B : List Nat) : List (List Int) := M0.map fun r => pad (some6 (toI B) r)
theorem Yo (X : List (List Int)) (B : List Nat) : (sub X B).length = B.length := by simp [sub]
theorem columns_mk {M0 : List (List Int)} {B : List Nat} (h6 : Six M0) (h0 : 0 < M0.length) (h1 : M0.length ≤ 1000) (hB : B.length ≤ 6) (hb : ∀ b ∈ B, b < 6) : Z2.f (M0.map mk6) (toI B) = some ((sl M0 B).map mk6) := by
  unfold Z2.f; rw [if_pos ⟨by simpa using h0, by simpa using h1, by rw [Yh]; exact hB, fun j hj => by
    obtain ⟨b, hbm, rfl⟩ := List.mem_map.1 hj; have := hb b hbm; omega⟩]
  congr 1; unfold sl; rw [List.map_map, List.map_map]; refine List.map_congr_left fun r hr => ?_
  show mk6 (colOf (toI B) (mk6 r)) = mk6 (pad (some6 (toI B) r))
  unfold colOf; rw [L6_mk6 (h6 r hr)]
theorem some6_at (B : List Nat) (r : List Int) (j : Nat) (h : j < B.length) : (some6 (toI B) r).getD j 0 = r.getD (B.getD j 0) 0 := by
  unfold some6 toI; rw [List.map_map, Q6 _ j _ (by simpa using h), List.getElem_map, Q6 B j _ h]; simp
theorem sl_at (M0 : List (List Int)) (B : List Nat) (b j : Nat) : (lineAt (sl M0 B) b).getD j 0 = if j < B.length then (lineAt M0 b).getD (B.getD j 0) 0 else 0 := by
  by_cases hb : b < M0.length
  · have e : lineAt (sl M0 B) b = pad (some6 (toI B) (lineAt M0 b)) := by
      rw [ZY _ b (by simpa [sl] using hb), ZY M0 b hb]; simp [sl]
    rw [e, pad_getD]; by_cases hj : j < B.length
    · rw [if_pos hj, some6_at B _ j hj]
    · rw [if_neg hj]; exact ZR (by simp [some6, toI]; omega)
  · rw [ZN (sl M0 B) b (by simp [sl]; omega), ZN M0 b (by omega)]; split <;> simp
theorem JQ {B : List Nat} {n j : Nat} (hb : ∀ b ∈ B, b < n) (hj : j < B.length) : B.getD j 0 < n := by
  rw [Q6 B j _ hj]; exact hb _ (List.getElem_mem hj)
section
variable {X : List (List Int)} {m : Nat} {M0 : List (List Int)} {B : List Nat}
theorem Frm.sub (h : Frm X m M0) (hB0 : 1 ≤ B.length) (hB6 : B.length ≤ 6) (hb : ∀ b ∈ B, b < X.length) : Frm (sub X B) m (sl M0 B) where
  lns := {
    len := by have := h.lns.len; simpa [sl] using this
    six := fun r hr => by
      obtain ⟨x, -, rfl⟩ := List.mem_map.1 hr; exact UD (by simp [some6, toI]; omega)
    fn := fun k hk => by
      funext j
      show (lineAt (sl M0 B) k).getD j 0 = ((P.sub X B).getD j []).getD ((List.range m).getD k 0) 0
      rw [sl_at]; by_cases hj : j < B.length
      · rw [if_pos hj]; have := congrFun (h.lns.fn k hk) (B.getD j 0); have e : (P.sub X B).getD j [] = X.getD (B.getD j 0) [] := by
          unfold P.sub; rw [Q6 _ j _ (by simpa using hj), List.getElem_map, Q6 B j _ hj]
        rw [e]; exact this
      · rw [if_neg hj]; rw [List.getD_eq_getElem?_getD (l := P.sub X B), List.getElem?_eq_none (by rw [Yo]; omega)]; rfl }
  sgn := by
    obtain ⟨s, h1, h2⟩ := h.sgn; refine ⟨fun j => s (B.getD j 0), fun j => h1 _, fun b => ?_⟩; obtain ⟨g, hg, h3⟩ := h2 b; refine ⟨g, hg, fun j => ?_⟩; rw [sl_at]; by_cases hj : j < B.length
    · rw [if_pos hj]; exact h3 _
    · rw [if_neg hj]; simp
  n1 := by rw [Yo]; exact hB0
  n6 := by rw [Yo]; exact hB6
  m1 := h.m1
  m4 := h.m4
  small := fun c hc e he => by
    obtain ⟨x, hx, rfl⟩ := List.mem_map.1 hc; rw [Q6 X x _ (hb x hx)]; exact h.small _ (List.getElem_mem _) e he
  nine := fun b j => by
    rw [sl_at]; split
    · exact h.nine _ _
    · simp
theorem kl_sub (hB : B.Nodup) {n : Nat} (hb : ∀ b ∈ B, b < n) {v : Nat → Int} (hv : ∀ j, j < n → v j ≠ 0 → j ∈ B) : KL n M0 v ↔ KL B.length (sl M0 B) (rst B v) := by
  have e : ∀ b, dt n (fn (lineAt M0 b)) v = dt B.length (fn (lineAt (sl M0 B) b)) (rst B v) := fun b => by
    rw [dt_rst hB hb _ hv]; refine Y7 _ (fun j hj => ?_) (fun _ _ => rfl); show (lineAt M0 b).getD (B.getD j 0) 0 = (lineAt (sl M0 B) b).getD j 0
    rw [sl_at, if_pos hj]
  constructor
  · rintro h r ⟨b, rfl⟩; rw [← e]; exact h _ ⟨b, rfl⟩
  · rintro h r ⟨b, rfl⟩; rw [e]; exact h _ ⟨b, rfl⟩
def good (M0 : List (List Int)) (B : List Nat) : Bool := (gsl (sl M0 B) B.length).2 && pos (gsl (sl M0 B) B.length).1
theorem pos_at {r : List Int} (h : pos r = true) {j : Nat} (hj : j < r.length) : 1 ≤ r.getD j 0 := by
  rw [Q6 r j _ hj]; exact of_decide_eq_true (List.all_eq_true.1 h _ (List.getElem_mem hj))
theorem pos_of {r : List Int} (h : ∀ j, j < r.length → 1 ≤ r.getD j 0) : pos r = true := List.all_eq_true.2 fun x hx => by
  obtain ⟨j, hj, rfl⟩ := List.mem_iff_getElem.1 hx; have := h j hj; rw [Q6 r j _ hj] at this; exact decide_eq_true this
theorem prim_pos {n : Nat} {r : List Int} (hp : Prim n M0 r) {u : Nat → Int} (hu : KL n M0 u) (h0 : ∀ j, j < n → 0 < u j) : pos r = true := by
  obtain ⟨t, ht⟩ := UC hp.len hp.gc (hp.gnr.2.2 u hu); obtain ⟨k, hk, hk0⟩ := hp.gnr.2.1; have hkl : (nzi r).toNat < r.length := (nzi_nn r k hk0).2.1; have h1 := h0 _ (by rw [← hp.len]; exact hkl); rw [ht _ (by rw [← hp.len]; exact hkl)] at h1; have h2 := hp.pos; have htp : 0 < t := by
    by_cases c : 0 < t
    · exact c
    · have := Int.mul_nonneg (show 0 ≤ -t by omega) (show 0 ≤ r.getD (nzi r).toNat 0 by omega); rw [Int.neg_mul] at this; omega
  refine pos_of fun j hj => ?_
  have h3 := h0 j (by rw [← hp.len]; exact hj); rw [ht j (by rw [← hp.len]; exact hj)] at h3; by_cases c : 1 ≤ r.getD j 0
  · exact c
  · have := Int.mul_nonneg (show 0 ≤ t by omega) (show 0 ≤ -r.getD j 0 by omega); rw [Int.mul_neg] at this; omega
theorem Frm.good_to (h : Frm X m M0) (hB : B.Nodup) (hb : ∀ b ∈ B, b < X.length) (hB0 : 1 ≤ B.length) (hB6 : B.length ≤ 6) (hg : good M0 B = true) :
    ∃ r, gsl (sl M0 B) B.length = (r, true) ∧ r.length = B.length ∧ pos r = true ∧ KL X.length M0 (ext B (fn r)) ∧ (∀ j, 0 ≤ ext B (fn r) j ∧ ext B (fn r) j ≤ 157464) ∧ (∀ j ∈ B, 0 < ext B (fn r) j) := by
  have hf := h.sub hB0 hB6 hb; obtain ⟨h1, h2⟩ := Bool.and_eq_true_iff.1 hg; have hs := hf.sol.2; rw [Yo] at hs; rcases hs with ⟨-, -, hp⟩ | ⟨e, -⟩
  · have hbd := hf.bound (r := (gsl (sl M0 B) B.length).1) (by rw [Yo]; exact hp); rw [Yo] at hbd; generalize hgs : gsl (sl M0 B) B.length = g at *; obtain ⟨r, b⟩ := g; simp only at h1 h2 hp hbd; subst h1; have hat : ∀ k, k < B.length → ext B (fn r) (B.getD k 0) = r.getD k 0 := fun k hk => VA B (fn r) k hB hk
    refine ⟨r, rfl, hp.len, h2, ?_, fun j => ?_, fun j hj => ?_⟩
    · rw [kl_sub (M0 := M0) hB hb (fun j _ hj => by
        by_cases c : j ∈ B
        · exact c
        · exact absurd (YV B _ j c) hj)]
      rintro x ⟨b, rfl⟩; rw [← hp.gnr.1 _ ⟨b, rfl⟩]; exact Y7 _ (fun _ _ => rfl) (fun k hk => hat k hk)
    · by_cases c : j ∈ B
      · obtain ⟨k, hk, rfl⟩ := List.getElem_of_mem c; have e := hat k hk; rw [Q6 B k _ hk] at e; rw [e]; have h3 := hbd k hk; have h4 := pos_at h2 (j := k) (by rw [hp.len]; exact hk); omega
      · rw [YV B _ j c]; omega
    · obtain ⟨k, hk, rfl⟩ := List.getElem_of_mem hj; have e := hat k hk; rw [Q6 B k _ hk] at e; rw [e]; have h4 := pos_at h2 (j := k) (by rw [hp.len]; exact hk); omega
  · rw [e] at h1; cases h1
theorem Frm.good_of (h : Frm X m M0) (hB : B.Nodup) (hb : ∀ b ∈ B, b < X.length) (hB0 : 1 ≤ B.length) (hB6 : B.length ≤ 6) {u : Nat → Int} (hu : KL X.length M0 u) (hsp : ∀ j, j < X.length → (u j ≠ 0 ↔ j ∈ B)) (hp : ∀ j, j < X.length → 0 ≤ u j) (hm : ∀ w, KL X.length M0 w → (∀ j, j < X.length → w j ≠ 0 → u j ≠ 0) → Prp X.length u w) : good M0 B = true := by
  have hf := h.sub hB0 hB6 hb; have hs := hf.sol.2; rw [Yo] at hs; have hk : KL B.length (sl M0 B) (rst B u) := (kl_sub hB hb (fun j hj h => (hsp j hj).1 h)).1 hu; have hup : ∀ j, j < B.length → 0 < rst B u j := fun j hj => by
    have hl := JQ hb hj; have h1 := hp _ hl; have h2 := (hsp _ hl).2 (by rw [Q6 B j _ hj]; exact List.getElem_mem hj); show 0 < u (B.getD j 0)
    omega
  have hg : Gnr B.length (KL B.length (sl M0 B)) (rst B u) := by
    refine ⟨hk, ⟨0, hB0, by have := hup 0 hB0; omega⟩, fun w hw => ?_⟩; have hw2 : KL X.length M0 (ext B w) := by
      rw [kl_sub hB hb (fun j _ hj => by
        by_cases c : j ∈ B
        · exact c
        · exact absurd (YV B _ j c) hj)]
      rintro x ⟨b, rfl⟩; rw [← hw _ ⟨b, rfl⟩]; exact Y7 _ (fun _ _ => rfl) (fun k hk => VA B w k hB hk)
    have hpp := hm _ hw2 (fun j hj h1 => (hsp j hj).2 (by
      by_cases c : j ∈ B
      · exact c
      · exact absurd (YV B _ j c) h1))
    intro j hj k hk; have := hpp _ (JQ hb hj) _ (JQ hb hk); rw [VA B w j hB hj, VA B w k hB hk] at this; exact this
  rcases hs with ⟨h1, -, hpr⟩ | ⟨-, -, hno⟩
  · unfold good; rw [h1, prim_pos hpr hk hup]; rfl
  · exact absurd ⟨_, hg⟩ hno
theorem spt_inc (n : Nat) (u : Nat → Int) : (spt n u).Pairwise (· < ·) := by
  unfold spt; exact List.pairwise_lt_range.filter _
def Cb (n : Nat) (M0 : List (List Int)) : Prop := ∀ i, i < n → ∃ s, s < 2 ^ n ∧ i ∈ bits s ∧ good M0 (bits s) = true
theorem JP {n s : Nat} (h : n < 7) (hs : s < 2 ^ n) : (bits s).Nodup ∧ (∀ b ∈ bits s, b < n) ∧ (bits s).length ≤ 6 := by
  have h64 : s < 64 := Nat.lt_of_lt_of_le hs (Nat.pow_le_pow_right (by omega) (show n ≤ 6 by omega)); refine ⟨(VR s h64).imp (fun h => by omega), Uk n h s hs, ?_⟩; unfold bits; exact Nat.le_trans (List.length_filter_le _ _) (by simp)
theorem Frm.cb_iff (h : Frm X m M0) : Cb X.length M0 ↔ ∃ v, KL X.length M0 v ∧ ∀ i, i < X.length → 0 < v i := by
  have h6 := h.n6; constructor
  · intro hc; have key : ∀ k, k ≤ X.length → ∃ v, KL X.length M0 v ∧ (∀ j, 0 ≤ v j) ∧ ∀ i, i < k → 0 < v i := by
      intro k; induction k with
      | zero => exact fun _ => ⟨fun _ => 0, fun r _ => Y8 _ _ _ (fun j _ => by simp), fun _ => Int.le_refl _, fun i hi => by omega⟩
      | succ k ih =>
        intro hk; obtain ⟨v, v1, v2, v3⟩ := ih (by omega); obtain ⟨s, s1, s2, s3⟩ := hc k (by omega); obtain ⟨b1, b2, b3⟩ := JP (by omega) s1; obtain ⟨r, -, -, -, r1, r2, r3⟩ := h.good_to b1 b2 (List.length_pos_of_mem s2) b3 s3; refine ⟨comb 1 v 1 (ext (bits s) (fn r)), ker_cl _ _ _ _ _ _ v1 r1, fun j => ?_, fun i hi => ?_⟩
        · show 0 ≤ 1 * v j + 1 * ext (bits s) (fn r) j
          have := v2 j; have := (r2 j).1; omega
        · show 0 < 1 * v i + 1 * ext (bits s) (fn r) i
          have := v2 i; have := (r2 i).1; by_cases c : i = k
          · subst c; have := r3 i s2; omega
          · have := v3 i (by omega); omega
    obtain ⟨v, v1, -, v3⟩ := key X.length (Nat.le_refl _); exact ⟨v, v1, v3⟩
  · rintro ⟨v, hv, hp⟩ i hi; obtain ⟨u, u1, u2, u3, u4, u5⟩ := U9 (ker_cl X.length (Sp M0)) X.length i hi _ v (Nat.le_refl _) hv (fun j hj => by have := hp j hj; omega) (hp i hi); have hi' : i ∈ spt X.length u := YD.2 ⟨hi, by omega⟩; obtain ⟨c1, c2⟩ := Up (n := X.length) (by omega) (spt_inc X.length u) (fun x hx => (YD.1 hx).1); have c3 := List.mem_range.1 (List.mem_filter.1 c1).1; refine ⟨msk (spt X.length u), c3, by rw [c2]; exact hi', ?_⟩; rw [c2]; obtain ⟨b1, b2, b3⟩ := JP (by omega) c3; rw [c2] at b1 b2 b3; exact h.good_of b1 b2 (List.length_pos_of_mem hi') b3 u1 (fun j hj => ⟨fun h => YD.2 ⟨hj, h⟩, fun h => (YD.1 h).2⟩) u2 u5
end
theorem rSpace_ev {I O : List (List Int)} (h : Sh I O) : Ev (fun k => ZA.f k I O) (spc I O) := by
  unfold ZA.f spc; refine Ev.bind (rval_ev h) ?_; by_cases c : vl I O = 0
  · simp only [c, if_true]; obtain ⟨h1, h2, h3, h4, h5, h6, h7⟩ := ZW c; obtain ⟨M, Q, e, hi⟩ := ml_inv c; have hr := spc_rank c; refine Ev.bind (cols_ev c) ?_; have hl := lines_ev (cols I O) (I.getD 0 []).length (by rw [ZH]; omega) (by
      unfold cols; rw [List.getD_eq_getElem?_getD, List.getElem?_append_left (by omega), ← List.getD_eq_getElem?_getD]) (by omega)
    refine Ev.bind hl ?_; have hk := rank_ev (ml_lns c) hi (by rw [ZH]; omega) (by rw [List.length_range]; exact h6) (UU c); refine Ev.bind hk ?_; rw [← rkL_eq e, ZH, wrp (by omega) (by omega)]; exact Ev.now _
  · simp only [c, if_false]; exact Ev.now _
end Go.Proofs.Ytdneelgnmnpanaa.P
end
section
namespace Go.Proofs.Ytdneelgnmnpanaa.P
open Go.RowKit Go.Proofs.YtdneelgnmnpanaaW.PrintWords Go.Proofs.Det
set_option maxRecDepth 100000
theorem shl_dec : ∀ n : Nat, n < 7 → Go.Proofs.YtdneelgnmnpanaaW.PrintWords.shl .i64 1 (n : Int) = ((2 ^ n : Nat) : Int) := by decide +kernel
theorem bit_dec : ∀ s : Nat, s < 64 → ∀ i : Nat, i < 6 → Go.bits .and .i64 (shr .i64 (s : Int) (i : Int)) 1 = if s.testBit i then 1 else 0 := by decide +kernel
theorem tk_dec : ∀ n : Nat, n < 7 → ∀ s : Nat, s < 2 ^ n → (List.range n).filter (fun i => s.testBit i) = bits s := by decide +kernel
theorem pow64 {n s : Nat} (h : n < 7) (hs : s < 2 ^ n) : s < 64 := Nat.lt_of_lt_of_le hs (Nat.pow_le_pow_right (by omega) (show n ≤ 6 by omega))
theorem mem_bits {n s i : Nat} (h : n < 7) (hs : s < 2 ^ n) : i ∈ bits s ↔ i < n ∧ s.testBit i = true := by
  rw [← tk_dec n h s hs, List.mem_filter, List.mem_range]
theorem UN {I O : List (List Int)} (h : vl I O = 0) : Frm (cols I O) (I.getD 0 []).length (ml I O) := by
  obtain ⟨h1, h2, h3, h4, h5, h6, h7⟩ := ZW h; obtain ⟨a1, a2⟩ := Y1 h; refine ⟨ml_lns h, ⟨csn I.length, csn_one I.length, fun b => ⟨1, .inl rfl, fun j => ?_⟩⟩, by rw [ZH]; omega, by rw [ZH]; omega, h5, h6, UU h, fun b j => ?_⟩
  · rw [Int.one_mul]; by_cases hb : b < (I.getD 0 []).length
    · rw [Ji I O b hb]; exact (Y5 I O a1 a2 b j).1
    · rw [ZN _ _ (by rw [Yk]; omega)]; simp
  · by_cases hb : b < (I.getD 0 []).length
    · rw [Ji I O b hb]; exact (Y5 I O a1 a2 b j).2
    · rw [ZN _ _ (by rw [Yk]; omega)]; simp
structure FewOk (n : Nat) (M0 : List (List Int)) (i : Nat) (l : List Int) : Prop where
  len : l.length = n
  kl : KL n M0 (fn l)
  bd : ∀ j, 0 ≤ l.getD j 0 ∧ l.getD j 0 ≤ 157464
  pos : 0 < l.getD i 0
theorem few_l2 (r : List Int) {B : List Nat} {n : Nat} (hr : r.length = B.length) (hB : B.Nodup) (hb : ∀ b ∈ B, b < n) (hB6 : B.length ≤ 6) (R : List Int → Prop)
    (hend : ∀ o : List Int, o.length = n → (∀ j, o.getD j 0 = ext B (fn r) j) → R o) : ∀ (d k : Nat) (o : List Int), k + d = B.length → o.length = n → (∀ j, o.getD j 0 = if j ∈ B.take k then ext B (fn r) j else 0) →
    ∃ o', R o' ∧ Ev (fun f => QJ.l2 f r o (toI B) (B.length : Int) (k : Int)) (o', true) := by
  intro d; induction d with
  | zero =>
    intro k o hk ho hj; refine ⟨o, hend o ho (fun j => ?_), Ev.step (fun f => by rw [QJ.l2]) ?_⟩
    · rw [hj, List.take_of_length_le (by omega)]; by_cases c : j ∈ B
      · rw [if_pos c]
      · rw [if_neg c, YV B _ j c]
    · have f1 : ¬ ((k : Int) < (B.length : Int)) := by omega
      simp only [f1, if_false]; exact Ev.now _
  | succ d ih =>
    intro k o hk ho hj; have hkB : k < B.length := by omega
    have hbk := hb _ (List.getElem_mem hkB); have f1 : ((k : Int) < (B.length : Int)) := by omega
    have f2 : (0 : Int) ≤ (k : Int) := by omega
    have f3 : ((k : Int) < (r.length : Int)) := by omega
    have f4 : (0 : Int) ≤ (B[k] : Int) := by omega
    have f5 : ((B[k] : Int) < (o.length : Int)) := by omega
    obtain ⟨o', a1, a2⟩ := ih (k + 1) (o.set B[k] (r.getD k 0)) (by omega) (by rw [List.length_set]; exact ho) (fun j => by
      rw [List.take_succ_eq_append_getElem hkB]; have hx : ext B (fn r) B[k] = r.getD k 0 := by
        have := VA B (fn r) k hB hkB; rwa [Q6 B k _ hkB] at this
      by_cases c : B[k] = j
      · subst c; rw [if_pos (List.mem_append_right _ (List.mem_singleton.2 rfl)), hx, Q6 _ _ _ (by rw [List.length_set]; omega), List.getElem_set_self]
      · rw [List.getD_eq_getElem?_getD, List.getElem?_set_ne c, ← List.getD_eq_getElem?_getD, hj]; have : j ∈ B.take k ++ [B[k]] ↔ j ∈ B.take k := by
          rw [List.mem_append, List.mem_singleton]; exact ⟨fun h => h.resolve_right (fun e => c e.symm), fun h => .inl h⟩
        by_cases c2 : j ∈ B.take k
        · rw [if_pos c2, if_pos (this.2 c2)]
        · rw [if_neg c2, if_neg (fun h => c2 (this.1 h))])
    refine ⟨o', a1, Ev.step (fun f => by rw [QJ.l2]) ?_⟩; simp only [Yh, f1, f2, if_true, f3, rdn, Jr _ k hkB, f4, f5, Int.toNat_natCast]; rw [Zz (m := B.length) hkB (by omega)]; exact a2
theorem few_l1 (I O : List (List Int)) {n s : Nat} (hn : n < 7) (hs : s < 2 ^ n) (i : Int) (N S : Int) (R : List Int × Bool) (hend : Ev (fun k => QJ.l1 k i (s : Int) (toI (bits s)) N S (n : Int) (n : Int) I O) R) : ∀ (d j : Nat), j + d = n →
    Ev (fun k => QJ.l1 k i (s : Int) (toI ((List.range j).filter fun i => s.testBit i)) N S (n : Int) (j : Int) I O) R := by
  intro d; induction d with
  | zero =>
    intro j hj; rw [show j = n by omega, tk_dec n hn s hs]; exact hend
  | succ d ih =>
    intro j hj; have f1 : ((j : Int) < (n : Int)) := by omega
    have f2 : (0 : Int) ≤ (j : Int) := by omega
    have f3 : (toI ((List.range j).filter fun i => s.testBit i)).length < 17592186044416 := by
      rw [Yh]; exact Nat.lt_of_le_of_lt (List.length_filter_le _ _) (by rw [List.length_range]; omega)
    have hb := bit_dec s (pow64 hn hs) j (by omega); have hih := ih (j + 1) (by omega); rw [List.range_succ, List.filter_append] at hih; refine Ev.step (fun k => by rw [QJ.l1]) ?_; simp only [f1, f2, if_true, hb, f3]; rw [Zz (m := n) (by omega) (by omega)]; cases c : s.testBit j
    · have e : [j].filter (fun i => s.testBit i) = [] := by simp [c]
      rw [e, List.append_nil] at hih; simp only [Bool.false_eq_true, if_false, show ¬ ((0 : Int) = 1) by decide]; exact hih
    · have e : [j].filter (fun i => s.testBit i) = [j] := by simp [c]
      rw [e, show toI ((List.range j).filter (fun i => s.testBit i) ++ [j]) = toI ((List.range j).filter fun i => s.testBit i) ++ [(j : Int)] by simp [toI]] at hih; simp only [if_true]; exact hih
theorem few_l0 {I O : List (List Int)} (h : vl I O = 0) {i : Nat} (hi : i < I.length + O.length) : ∀ (d s : Nat), s + d = 2 ^ (I.length + O.length) →
    ∃ res, Ev (fun k => QJ.l0 k (i : Int) ((2 ^ (I.length + O.length) : Nat) : Int) (s : Int) I O) res ∧ ((res.2 = true ∧ FewOk (I.length + O.length) (ml I O) i res.1) ∨ (res = ([], false) ∧ ∀ s', s ≤ s' → s' < 2 ^ (I.length + O.length) → i ∈ bits s' → good (ml I O) (bits s') = false)) := by
  have hf := UN h; obtain ⟨h1, h2, h3, h4, h5, h6, h7⟩ := ZW h; have hn : I.length + O.length < 7 := by omega
  have AQ : 2 ^ (I.length + O.length) ≤ 2 ^ 6 := Nat.pow_le_pow_right (by omega) (by omega); intro d; induction d with
  | zero =>
    intro s hs; refine ⟨([], false), Ev.step (fun k => by rw [QJ.l0]) ?_, .inr ⟨rfl, fun s' a b => by omega⟩⟩; have f1 : ¬ ((s : Int) < ((2 ^ (I.length + O.length) : Nat) : Int)) := by omega
    simp only [f1, if_false]; exact Ev.now _
  | succ d ih =>
    intro s hs; have hs2 : s < 2 ^ (I.length + O.length) := by omega
    have sv := pow64 hn hs2; have f1 : ((s : Int) < ((2 ^ (I.length + O.length) : Nat) : Int)) := by omega
    have f2 : (0 : Int) ≤ (i : Int) := by omega
    have hb := bit_dec s sv i (by omega); obtain ⟨res, r1, r2⟩ := ih (s + 1) (by omega); by_cases c : s.testBit i = true
    · have himem : i ∈ bits s := (mem_bits hn hs2).2 ⟨hi, c⟩; obtain ⟨b1, b2, b3⟩ := JP hn hs2; have hB0 := List.length_pos_of_mem himem; have hcl := ZH I O; have hfs := hf.sub (B := bits s) hB0 b3 (fun b hb => by rw [hcl]; exact b2 b hb); have hsol := hfs.sol; rw [Yo] at hsol; suffices ∃ res, Ev (fun k => QJ.l1 k (i : Int) (s : Int) (toI (bits s)) ((2 ^ (I.length + O.length) : Nat) : Int) (s : Int) ((I.length + O.length : Nat) : Int) ((I.length + O.length : Nat) : Int) I O) res ∧ ((res.2 = true ∧ FewOk (I.length + O.length) (ml I O) i res.1) ∨ (res = ([], false) ∧ ∀ s', s ≤ s' → s' < 2 ^ (I.length + O.length) → i ∈ bits s' → good (ml I O) (bits s') = false)) by
        obtain ⟨res, e1, e2⟩ := this; refine ⟨res, Ev.step (fun k => by rw [QJ.l0]) ?_, e2⟩; rw [c] at hb; simp only [f1, f2, if_true, hb, show ¬ ((1 : Int) = 0) by decide, if_false, YE I O (by omega), Option.bind_some]; exact few_l1 I O hn hs2 _ _ _ res e1 (I.length + O.length) 0 (by omega)
      have hrest : good (ml I O) (bits s) = false → ((res.2 = true ∧ FewOk (I.length + O.length) (ml I O) i res.1) ∨ (res = ([], false) ∧ ∀ s', s ≤ s' → s' < 2 ^ (I.length + O.length) → i ∈ bits s' → good (ml I O) (bits s') = false)) := fun hg => by
        rcases r2 with r2 | ⟨r2, r3⟩
        · exact .inl r2
        · refine .inr ⟨r2, fun s' a b q => ?_⟩; by_cases e : s' = s
          · rw [e]; exact hg
          · exact r3 s' (by omega) b q
      have f3 : ¬ (((I.length + O.length : Nat) : Int) < ((I.length + O.length : Nat) : Int)) := Int.lt_irrefl _; have hcm := columns_mk (M0 := ml I O) (B := bits s) (ml_six h) (by rw [Yk]; omega) (by rw [Yk]; omega) b3 (fun b hb => by have := b2 b hb; omega); by_cases hg : good (ml I O) (bits s) = true
      · obtain ⟨r, g1, g2, g3, g4, g5, g6⟩ := hf.good_to b1 (fun b hb => by rw [hcl]; exact b2 b hb) hB0 b3 hg; rw [g1] at hsol; rw [hcl] at g4; have hmn := min_ev r (by omega) (by omega); have hdec : decide ((r.drop 1).foldl mn (r.getD 0 0) ≤ 0) = false := decide_eq_false (fun hh => (VL r (by omega)).1 hh g3); obtain ⟨o, o1, o2⟩ := few_l2 r (n := I.length + O.length) g2 b1 b2 b3 (fun o => FewOk (I.length + O.length) (ml I O) i o) (fun o ho hj => ⟨ho, by
          rintro x ⟨b, rfl⟩; rw [← g4 _ ⟨b, rfl⟩]; exact Y7 _ (fun _ _ => rfl) (fun k _ => hj k), fun j => by rw [hj]; exact g5 j, by rw [hj]; exact g6 i himem⟩) (bits s).length 0 (List.replicate (I.length + O.length) 0) (by omega) (by simp) (fun j => by
          rw [List.take_zero, if_neg (by simp), List.getD_eq_getElem?_getD, List.getElem?_replicate]; split <;> rfl)
        refine ⟨(o, true), ?_, .inl ⟨rfl, o1⟩⟩; refine Ev.step (fun k => by rw [QJ.l1]) ?_; simp only [f3, if_false, UF h, Option.bind_some, hcm, Yh, hsol.1, if_true]; refine Ev.bind hmn ?_; rw [hdec]; refine Ev.step (fun k => by rw [QJ.j2]) ?_; have f4 : (0 : Int) ≤ ((I.length + O.length : Nat) : Int) := by omega
        have f5 : (((I.length + O.length : Nat) : Int)).toNat ≤ 35184372088832 := by omega
        simp only [Bool.false_eq_true, if_false, YE I O (by omega), Option.bind_some, f4, f5, if_true, Yh]; rw [Int.toNat_natCast]; exact o2
      · have hg' : good (ml I O) (bits s) = false := by simpa using hg
        refine ⟨res, ?_, hrest hg'⟩; refine Ev.step (fun k => by rw [QJ.l1]) ?_; simp only [f3, if_false, UF h, Option.bind_some, hcm, Yh, hsol.1]; have hj2 : ∀ z, Ev (fun k => QJ.j2 k (i : Int) (toI (bits s)) z ((2 ^ (I.length + O.length) : Nat) : Int) (s : Int) true I O) res := fun z => Ev.step (fun k => by rw [QJ.j2]) (by
          simp only [if_true]; rw [Zz (m := 64) sv (by decide)]; exact r1)
        rcases hsol.2 with ⟨q1, -, q3⟩ | ⟨q1, -⟩
        · simp only [q1, if_true]; have hnp : ¬ pos (gsl (sl (ml I O) (bits s)) (bits s).length).1 = true := fun hh => hg (by unfold good; rw [q1, hh]; rfl)
          have hlen := q3.len; refine Ev.bind (min_ev _ (by omega) (by omega)) ?_; rw [decide_eq_true ((VL _ (by omega)).2 hnp)]; exact hj2 _
        · simp only [q1, Bool.false_eq_true, if_false]; exact hj2 _
    · refine ⟨res, Ev.step (fun k => by rw [QJ.l0]) ?_, ?_⟩
      · rw [if_neg c] at hb; simp only [f1, f2, if_true, hb]; rw [Zz (m := 64) sv (by decide)]; exact r1
      · rcases r2 with r2 | ⟨r2, r3⟩
        · exact .inl r2
        · refine .inr ⟨r2, fun s' a b q => ?_⟩; by_cases e : s' = s
          · rw [e] at q; exact absurd ((mem_bits hn hs2).1 q).2 c
          · exact r3 s' (by omega) b q
theorem few_ev {I O : List (List Int)} (h : vl I O = 0) {i : Nat} (hi : i < I.length + O.length) :
    ∃ res, Ev (fun k => QJ.f k I O (i : Int)) res ∧ ((res.2 = true ∧ FewOk (I.length + O.length) (ml I O) i res.1) ∨ (res = ([], false) ∧ ∀ s', s' < 2 ^ (I.length + O.length) → i ∈ bits s' → good (ml I O) (bits s') = false)) := by
  obtain ⟨h1, h2, h3, h4, -⟩ := ZW h; obtain ⟨res, r1, r2⟩ := few_l0 h hi (2 ^ (I.length + O.length)) 0 (by omega); refine ⟨res, ?_, r2.imp id (fun ⟨a, b⟩ => ⟨a, fun s' => b s' (Nat.zero_le _)⟩)⟩; unfold QJ.f; rw [YE I O (by omega)]; have f4 : (0 : Int) ≤ ((I.length + O.length : Nat) : Int) := by omega
  simp only [Option.bind_some, f4, if_true]; rw [shl_dec _ (by omega)]; exact r1
def plz (x y : List Int) : List Int := List.zipWith (fun a b => a + b) x y
theorem Y4 {x y : List Int} (h : x.length = y.length) : (plz x y).length = x.length := by simp [plz]; omega
theorem Jw {x y : List Int} (h : x.length = y.length) (j : Nat) : (plz x y).getD j 0 = x.getD j 0 + y.getD j 0 := by
  by_cases hj : j < x.length
  · rw [Q6 _ j _ (by rw [Y4 h]; exact hj), Q6 x j _ hj, Q6 y j _ (by omega)]; simp [plz]
  · rw [ZR (by rw [Y4 h]; omega), ZR (l := x) (by omega), ZR (l := y) (by omega)]; rfl
theorem addw {a b : Int} (ha : 0 ≤ a ∧ a ≤ 10000000) (hb : 0 ≤ b ∧ b ≤ 10000000) : wrap64 (a + b) = a + b := wrp (by omega) (by omega)
theorem bal_l1 (I O : List (List Int)) {n : Nat} (hn : n ≤ 6) (i : Nat) (o l : List Int) (ho : o.length = n) (hl : l.length = n) (hob : ∀ j, 0 ≤ o.getD j 0 ∧ o.getD j 0 ≤ 10000000) (hlb : ∀ j, 0 ≤ l.getD j 0 ∧ l.getD j 0 ≤ 10000000) (R : List Int × Bool)
    (hend : Ev (fun k => QU.l0 k (plz o l) (n : Int) (wrap64 ((i : Int) + 1)) I O) R) : ∀ (d j : Nat), j + d = n →
    Ev (fun k => QU.l1 k ((plz o l).take j ++ o.drop j) (n : Int) (i : Int) l (n : Int) (j : Int) I O) R := by
  have hpl := Y4 (x := o) (y := l) (by omega); intro d; induction d with
  | zero =>
    intro j hj; refine Ev.step (fun k => by rw [QU.l1]) ?_; have f1 : ¬ ((j : Int) < (n : Int)) := by omega
    simp only [f1, if_false]; rw [List.take_of_length_le (by omega), List.drop_eq_nil_of_le (by omega), List.append_nil]; exact hend
  | succ d ih =>
    intro j hj; have hjn : j < n := by omega
    have f1 : ((j : Int) < (n : Int)) := by omega
    have f2 : (0 : Int) ≤ (j : Int) := by omega
    have f3 : ((j : Int) < (l.length : Int)) := by omega
    have hlen : ((plz o l).take j ++ o.drop j).length = n := by rw [List.length_append, List.length_take, List.length_drop]; omega
    have hat : ((plz o l).take j ++ o.drop j).getD j 0 = o.getD j 0 := by
      rw [List.getD_eq_getElem?_getD, List.getElem?_append_right (by rw [List.length_take]; omega), List.length_take, List.getElem?_drop, show min j (plz o l).length = j by omega, Nat.sub_self, Nat.add_zero, List.getD_eq_getElem?_getD]
    have hset : ((plz o l).take j ++ o.drop j).set j (o.getD j 0 + l.getD j 0) = (plz o l).take (j + 1) ++ o.drop (j + 1) := by
      rw [List.set_append_right _ _ (by rw [List.length_take]; omega), List.length_take, show j - min j (plz o l).length = 0 by omega, List.drop_eq_getElem_cons (show j < o.length by omega), List.set_cons_zero, List.take_succ_eq_append_getElem (show j < (plz o l).length by omega), ← Jw (by omega), Q6 (plz o l) j _ (by omega), List.append_assoc]; rfl
    have hw := addw (hob j) (hlb j); refine Ev.step (fun k => by rw [QU.l1]) ?_; simp only [f1, f2, if_true, f3, hlen, rdn, hat, hw, Int.toNat_natCast, hset]; rw [Zz (m := n) hjn (by omega)]; exact ih (j + 1) (by omega)
structure BalOk (n : Nat) (M0 : List (List Int)) (l : List Int) : Prop where
  len : l.length = n
  kl : KL n M0 (fn l)
  bd : ∀ j, j < n → 1 ≤ l.getD j 0 ∧ l.getD j 0 ≤ 1000000
theorem bal_l0 {I O : List (List Int)} (h : vl I O = 0) : ∀ (d i : Nat) (o : List Int), i + d = I.length + O.length → o.length = I.length + O.length → KL (I.length + O.length) (ml I O) (fn o) → (∀ j, 0 ≤ o.getD j 0 ∧ o.getD j 0 ≤ 157464 * (i : Int)) → (∀ j, j < i → 0 < o.getD j 0) →
    ∃ res, Ev (fun k => QU.l0 k o ((I.length + O.length : Nat) : Int) (i : Int) I O) res ∧ ((res.2 = true ∧ BalOk (I.length + O.length) (ml I O) res.1) ∨ (res = ([], false) ∧ ¬ Cb (I.length + O.length) (ml I O))) := by
  obtain ⟨h1, h2, h3, h4, h5, h6, h7⟩ := ZW h; intro d; induction d with
  | zero =>
    intro i o hi ho hk hb hp; refine ⟨(o, true), Ev.step (fun k => by rw [QU.l0]) ?_, .inl ⟨rfl, ho, hk, fun j hj => ?_⟩⟩
    · have f1 : ¬ ((i : Int) < ((I.length + O.length : Nat) : Int)) := by omega
      simp only [f1, if_false]; exact Ev.now _
    · have h8 := hb j; have h9 := hp j (by omega); show 1 ≤ o.getD j 0 ∧ o.getD j 0 ≤ 1000000
      omega
  | succ d ih =>
    intro i o hi ho hk hb hp; have hin : i < I.length + O.length := by omega
    have f1 : ((i : Int) < ((I.length + O.length : Nat) : Int)) := by omega
    have f2 : (0 : Int) ≤ (i : Int) := by omega
    have f3 : ((i : Int) < (o.length : Int)) := by omega
    have hn9 : I.length + O.length ≤ 9223372036854775807 := by omega
    by_cases c : o.getD i 0 > 0
    · obtain ⟨res, r1, r2⟩ := ih (i + 1) o (by omega) ho hk (fun j => by have := hb j; omega) (fun j hj => by
        by_cases e : j = i
        · rw [e]; exact c
        · exact hp j (by omega))
      refine ⟨res, Ev.step (fun k => by rw [QU.l0]) ?_, r2⟩; simp only [f1, f2, f3, if_true, rdn, c]; rw [Zz (m := I.length + O.length) hin hn9]; exact r1
    · obtain ⟨l, l1, l2⟩ := few_ev h hin; rcases l2 with ⟨l2, l3⟩ | ⟨l2, l3⟩
      · obtain ⟨l, b⟩ := l; simp only at l2 l3; subst l2; have hll := l3.len; obtain ⟨res, r1, r2⟩ := ih (i + 1) (plz o l) (by omega) (by rw [Y4 (by omega)]; exact ho) (by
            rintro x ⟨b, rfl⟩; have := ker_cl _ _ 1 (fn o) 1 (fn l) hk l3.kl _ ⟨b, rfl⟩; rw [← this]; refine Y7 _ (fun _ _ => rfl) (fun j _ => ?_); show (plz o l).getD j 0 = 1 * o.getD j 0 + 1 * l.getD j 0
            rw [Jw (by omega)]; omega) (fun j => by
            rw [Jw (by omega)]; have := hb j; have := l3.bd j; omega) (fun j hj => by
            rw [Jw (by omega)]; have := hb j; have := l3.bd j; by_cases e : j = i
            · have h9 := l3.pos; rw [← e] at h9; omega
            · have := hp j (by omega); omega)
        refine ⟨res, Ev.step (fun k => by rw [QU.l0]) ?_, r2⟩; simp only [f1, f2, f3, if_true, rdn, c, if_false]; refine Ev.bind l1 ?_; simp only [if_true, hll]; rw [← Zz (m := I.length + O.length) hin hn9] at r1; have := bal_l1 I O (n := I.length + O.length) (by omega) i o l ho hll (fun j => by have := hb j; omega) (fun j => by have := l3.bd j; omega) res r1 (I.length + O.length) 0 (by omega); rw [List.take_zero, List.nil_append, List.drop_zero] at this; exact this
      · refine ⟨([], false), Ev.step (fun k => by rw [QU.l0]) ?_, .inr ⟨rfl, fun hc => ?_⟩⟩
        · simp only [f1, f2, f3, if_true, rdn, c, if_false]; refine Ev.bind l1 ?_; rw [l2]; simp only [Bool.false_eq_true, if_false]; exact Ev.now _
        · obtain ⟨s, s1, s2, s3⟩ := hc i hin; rw [l3 s s1 s2] at s3; cases s3
theorem balance_ev {I O : List (List Int)} (h : vl I O = 0) : ∃ res, Ev (fun k => QU.f k I O) res ∧ ((res.2 = true ∧ BalOk (I.length + O.length) (ml I O) res.1) ∨ (res = ([], false) ∧ ¬ Cb (I.length + O.length) (ml I O))) := by
  obtain ⟨h1, h2, h3, h4, h5, h6, h7⟩ := ZW h; have hz : ∀ j, (List.replicate (I.length + O.length) (0 : Int)).getD j 0 = 0 := fun j => by
    rw [List.getD_eq_getElem?_getD, List.getElem?_replicate]; split <;> rfl
  obtain ⟨res, r1, r2⟩ := bal_l0 h (I.length + O.length) 0 (List.replicate (I.length + O.length) 0) (by omega) (by simp) (fun x _ => Y8 _ _ _ (fun j _ => by
    show x j * (List.replicate (I.length + O.length) (0 : Int)).getD j 0 = 0
    rw [hz, Int.mul_zero])) (fun j => by rw [hz]; omega) (fun j hj => by omega)
  refine ⟨res, ?_, r2⟩; unfold QU.f; rw [YE I O (by omega)]; have f4 : (0 : Int) ≤ ((I.length + O.length : Nat) : Int) := by omega
  have f5 : I.length + O.length ≤ 35184372088832 := by omega
  simp only [Option.bind_some, f4, f5, if_true, obs, List.length_replicate, Int.toNat_natCast]; exact r1
theorem balok_cb {I O : List (List Int)} (h : vl I O = 0) {l : List Int} (hl : BalOk (I.length + O.length) (ml I O) l) : Cb (I.length + O.length) (ml I O) := by
  have := (UN h).cb_iff; rw [ZH] at this; exact this.2 ⟨fn l, hl.kl, fun i hi => by have := hl.bd i hi; show 0 < l.getD i 0; omega⟩
theorem U7 {I O : List (List Int)} (h : Sh I O) : ∃ b, Ev (fun k => Zn.f k I O) (b, vl I O) ∧ (b = true ↔ vl I O = 0 ∧ Cb (I.length + O.length) (ml I O)) := by
  by_cases c : vl I O = 0
  · obtain ⟨res, r1, r2⟩ := balance_ev c; refine ⟨res.2, ?_, ?_⟩
    · unfold Zn.f; refine Ev.bind (Jq h) ?_; simp only [c, if_true]; exact Ev.bind r1 (Ev.now _)
    · rcases r2 with ⟨a, b⟩ | ⟨a, b⟩
      · exact ⟨fun _ => ⟨c, balok_cb c b⟩, fun _ => a⟩
      · rw [a]; exact ⟨fun h => absurd h (by decide), fun h => absurd h.2 b⟩
  · refine ⟨false, ?_, fun h => absurd h (by decide), fun h => absurd h.1 c⟩; unfold Zn.f; refine Ev.bind (Jq h) ?_; simp only [c, if_false]; exact Ev.now _
theorem cols_at0 {I O : List (List Int)} (h : vl I O = 0) : ((cols I O).getD 0 []).length = (I.getD 0 []).length := by
  obtain ⟨h1, -⟩ := ZW h; unfold cols; rw [List.getD_eq_getElem?_getD, List.getElem?_append_left (by omega), ← List.getD_eq_getElem?_getD]
end Go.Proofs.Ytdneelgnmnpanaa.P
end
section
namespace Go.Proofs.Ytdneelgnmnpanaa.P
open Go.RowKit Go.Proofs.YtdneelgnmnpanaaW.PrintWords Go.Proofs.Det
def gsm (I O : List (List Int)) : List Int × Bool := gsl (ml I O) (I.length + O.length)
def smp (I O : List (List Int)) : List Int × Bool × Int := if vl I O = 0 then (if (gsm I O).2 = true then (if pos (gsm I O).1 = true then ((gsm I O).1, true, 0) else ([], false, 0)) else ([], false, 0)) else ([], false, vl I O)
theorem JD {I O : List (List Int)} (h : vl I O = 0) : Zj.f ((ml I O).map mk6) ((I.length + O.length : Nat) : Int) = some (gsm I O) ∧ (((gsm I O).2 = true ∧ rkL (ml I O) + 1 = I.length + O.length ∧ Prim (I.length + O.length) (ml I O) (gsm I O).1) ∨ (gsm I O = ([], false) ∧ rkL (ml I O) + 1 ≠ I.length + O.length ∧ ¬ ∃ v, Gnr (I.length + O.length) (KL (I.length + O.length) (ml I O)) v)) := by
  have := (UN h).sol; rw [ZH] at this; exact this
theorem Simple_ev {I O : List (List Int)} (h : Sh I O) : Ev (fun k => Q5.f k I O) (smp I O) := by
  unfold Q5.f smp; refine Ev.bind (Jq h) ?_; by_cases c : vl I O = 0
  · obtain ⟨h1, h2, h3, h4, -⟩ := ZW c; obtain ⟨s1, s2⟩ := JD c; simp only [c, if_true, UF c, Option.bind_some, YE I O (by omega), s1]; rcases s2 with ⟨q1, -, q3⟩ | ⟨q1, -⟩
    · simp only [q1, if_true]; have hlen := q3.len; refine Ev.bind (min_ev _ (by omega) (by omega)) ?_; by_cases cp : pos (gsm I O).1 = true
      · have f : ¬ ((gsm I O).1.drop 1).foldl mn ((gsm I O).1.getD 0 0) ≤ 0 := fun hh => (VL _ (by omega)).1 hh cp
        simp only [f, if_false, cp, if_true]; exact Ev.now _
      · have f : ((gsm I O).1.drop 1).foldl mn ((gsm I O).1.getD 0 0) ≤ 0 := (VL _ (by omega)).2 cp; simp only [f, if_true, cp, if_false]; exact Ev.now _
    · simp only [q1, Bool.false_eq_true, if_false]; exact Ev.now _
  · simp only [c, if_false]; exact Ev.now _
theorem rSimple_ev {I O : List (List Int)} (h : Sh I O) : Ev (fun k => Zx.f k I O) (smp I O) := by
  unfold Zx.f smp; refine Ev.bind (rSpace_ev h) ?_; unfold spc; by_cases c : vl I O = 0
  · obtain ⟨h1, h2, h3, h4, -⟩ := ZW c; obtain ⟨s1, s2⟩ := JD c; simp only [c, if_true]; rcases s2 with ⟨q1, q2, q3⟩ | ⟨q1, q2, -⟩
    · have f : ((I.length + O.length : Nat) : Int) - (rkL (ml I O) : Int) = 1 := by omega
      simp only [f, q1, if_true]; refine Ev.bind (cols_ev c) ?_; have hp : Prim (cols I O).length (ml I O) (gsm I O).1 := by rw [ZH]; exact q3
      refine Ev.bind ((UN c).len0 (cols_at0 c) hp) ?_; by_cases cp : pos (gsm I O).1 = true
      · simp only [cp, if_true]; exact Ev.now _
      · simp only [cp, if_false]; exact Ev.now _
    · have f : ¬ ((I.length + O.length : Nat) : Int) - (rkL (ml I O) : Int) = 1 := by omega
      simp only [f, q1, Bool.false_eq_true, if_false]; exact Ev.now _
  · simp only [c, if_false]; exact Ev.now _
theorem smp_true {I O : List (List Int)} (h : (smp I O).2.1 = true) : vl I O = 0 ∧ (gsm I O).2 = true ∧ (smp I O).1 = (gsm I O).1 ∧ pos (smp I O).1 = true ∧ Prim (I.length + O.length) (ml I O) (smp I O).1 ∧ BalOk (I.length + O.length) (ml I O) (smp I O).1 := by
  unfold smp at h ⊢; by_cases c : vl I O = 0
  · rw [if_pos c] at h ⊢; obtain ⟨s1, s2⟩ := JD c; rcases s2 with ⟨q1, q2, q3⟩ | ⟨q1, q2, -⟩
    · rw [if_pos q1] at h ⊢; by_cases cp : pos (gsm I O).1 = true
      · rw [if_pos cp]; have hp : Prim (cols I O).length (ml I O) (gsm I O).1 := by rw [ZH]; exact q3
        have hb := (UN c).bound hp; rw [ZH] at hb; refine ⟨c, q1, rfl, cp, q3, q3.len, q3.gnr.1, fun j hj => ?_⟩; have h1 := hb j hj; have h2 := pos_at cp (j := j) (by rw [q3.len]; exact hj); show 1 ≤ (gsm I O).1.getD j 0 ∧ (gsm I O).1.getD j 0 ≤ 1000000
        omega
      · rw [if_neg cp] at h; cases h
    · rw [q1] at h; cases h
  · rw [if_neg c] at h; cases h
theorem smp_false {I O : List (List Int)} (h : ¬ (smp I O).2.1 = true) : (smp I O).1 = [] := by
  unfold smp at h ⊢; by_cases c : vl I O = 0
  · rw [if_pos c] at h ⊢; by_cases q1 : (gsm I O).2 = true
    · rw [if_pos q1] at h ⊢; by_cases cp : pos (gsm I O).1 = true
      · rw [if_pos cp] at h; exact absurd rfl h
      · rw [if_neg cp]
    · rw [if_neg q1]
  · rw [if_neg c]
theorem smp_len {I O : List (List Int)} : (smp I O).1.length ≤ 6 := by
  by_cases c : (smp I O).2.1 = true
  · obtain ⟨h1, -, -, -, -, h2⟩ := smp_true c; have := ZW h1; rw [h2.len]; omega
  · rw [smp_false c]; simp
theorem csum_dt (e : Nat) : ∀ (L : List (List Int)) (t : List Int), t.length = L.length → dt L.length (fun j => (L.getD j []).getD e 0) (fn t) = csum L t e
  | [], t, _ => by rw [VQ]; rfl
  | c :: L, [], h => by simp at h
  | c :: L, x :: t, h => by
    rw [List.length_cons, dt_front, csum, ← csum_dt e L t (by simpa using h)]; show c.getD e 0 * x + _ = _
    rw [Int.mul_comm]; rfl
theorem ml_fn {I O : List (List Int)} (h : vl I O = 0) {q : Nat} (hq : q < (I.getD 0 []).length) : fn (lineAt (ml I O) q) = fun j => ((cols I O).getD j []).getD q 0 := by
  rw [Ji I O q hq, JB I O (Y1 h).2]; rfl
theorem kl_csum {I O : List (List Int)} (h : vl I O = 0) {t : List Int} (ht : t.length = I.length + O.length) : KL (I.length + O.length) (ml I O) (fn t) ↔ ∀ q, q < (I.getD 0 []).length → csum I t q = csum O (t.drop I.length) q := by
  have key : ∀ q, q < (I.getD 0 []).length → dt (I.length + O.length) (fn (lineAt (ml I O) q)) (fn t) = csum I t q - csum O (t.drop I.length) q := fun q hq => by
    have := csum_dt q (cols I O) t (by rw [ZH]; exact ht); rw [ZH] at this; rw [ml_fn h hq, this]; unfold cols; rw [Uj q I _ t (by omega), csum_neg q O _ (Y1 h).2]; omega
  constructor
  · intro hk q hq; have := hk _ ⟨q, rfl⟩; rw [key q hq] at this; omega
  · rintro hc r ⟨b, rfl⟩; by_cases hb : b < (I.getD 0 []).length
    · rw [key b hb, hc b hb]; omega
    · rw [ZN _ _ (by rw [Yk]; omega)]; exact Y8 _ _ _ (fun j _ => by show ([] : List Int).getD j 0 * _ = 0; simp)
theorem kl_iff {I O : List (List Int)} (h : vl I O = 0) {t : List Int} (ht : t.length = I.length + O.length) (hc : Coefs t) : KL (I.length + O.length) (ml I O) (fn t) ↔ inS I O t = outS I O t := by
  rw [kl_csum h ht, balance_iff h ht hc]
theorem bal_ok {I O : List (List Int)} (h : vl I O = 0) {t : List Int} (ht : t.length = I.length + O.length) (hk : KL (I.length + O.length) (ml I O) (fn t)) (hb : ∀ j, j < t.length → (t.getD j 0).natAbs ≤ 1000000) : Coefs t ∧ bal I O t = (true, 0) := by
  have hc : Coefs t := fun x hx => by
    obtain ⟨j, hj, rfl⟩ := List.mem_iff_getElem.1 hx; have := hb j hj; rw [Q6 t j _ hj] at this; omega
  refine ⟨hc, ?_⟩; have htm : tm I O t = 0 := by
    unfold tm lerr; rw [if_pos h, if_pos ⟨ht, List.all_eq_true.2 fun x hx => decide_eq_true (hc x hx)⟩]
  unfold bal; rw [if_pos htm, decide_eq_true ((kl_iff h ht hc).1 hk)]
end Go.Proofs.Ytdneelgnmnpanaa.P
end
section
namespace Go.Proofs.Ytdneelgnmnpanaa.P
open Go.RowKit Go.Proofs.YtdneelgnmnpanaaW.PrintWords
theorem VX (I O : List (List Int)) : Ev (fun k => Qs.f k I O) true := by
  unfold Qs.f; obtain ⟨b, hb, hsh⟩ := long_ev I O; refine Ev.bind hb ?_; cases b with
  | true =>
    simp only [if_true]; exact Ev.bind UG (Ev.now _)
  | false =>
    have hs := hsh rfl; simp only [Bool.false_eq_true, if_false]; refine Ev.bind (rSimple_ev hs) ?_; refine Ev.bind (Simple_ev hs) ?_; have hl := smp_len (I := I) (O := O); simp only [bne_self_eq_false, Bool.false_eq_true, if_false, if_true]; have hsm := sm_ev (smp I O).1 (smp I O).1 (by omega); rw [decide_eq_true rfl] at hsm; refine Ev.bind hsm ?_; simp only [Bool.not_true]; refine Ev.step (fun k => by rw [Qs.j0]) ?_; simp only [Bool.false_eq_true, if_false]; by_cases c : (smp I O).2.1 = true
    · obtain ⟨h1, -, -, -, -, h2⟩ := smp_true c; have hlen := h2.len; have hok := (bal_ok h1 h2.len h2.kl (fun j hj => by have := h2.bd j (by omega); omega)).2; have hB := Balances_ev hs (smp I O).1 (by omega); rw [hok] at hB; obtain ⟨b2, e2, i2⟩ := U7 hs; have hb2 : b2 = true := i2.2 ⟨h1, balok_cb h1 h2⟩; simp only [c, if_true]; refine Ev.bind hB ?_; refine Ev.bind e2 ?_; simp only [h1, hb2, if_true]; exact Ev.bind UG (Ev.now _)
    · simp only [c, if_false]; exact Ev.bind UG (Ev.now _)
end Go.Proofs.Ytdneelgnmnpanaa.P
end
section
namespace Go.Proofs.Ytdneelgnmnpanaa.strikeSimples
open Go.ChangeShapes Go.WideShapes Go.ChangeAt Go.RowKit Go.Joins
open Go.Proofs.Ytdneelgnmnpanaa.P Go.Proofs.YtdneelgnmnpanaaW.PrintWords
set_option linter.unusedVariables false
theorem own : ownKnob Try.prog.godebug = none := by kernel_rfl
theorem laidOut : laidOutB Try.prog = true := by kernel_rfl
set_option maxRecDepth 100000 in
theorem lifted (os : Os) (started : os.Started) (H : Type) (enc : TypeId × Value → H) :
    ReturnsInHanded {} Try.checked os 13 .any (Rows.strikeSimplesSpec.pre6 enc Try.prog Try.f13 Rows.strikeSimplesRow.domain false) (Rows.strikeSimplesSpec.post enc Try.prog Try.f13 false true false false) := by
  refine returnsInHanded_of_change_sized (C := Try.checked) own started (by kernel_rfl) Try.func13
    (ChangeSpec.witness6 (enc := enc) (C := Try.checked) false ⟨#[], #[.agg #[.slice none 0 0, .slice none 0 0]], []⟩ 8 (by kernel_rfl) (by kernel_rfl) (by kernel_rfl) (by kernel_rfl)) ?_
  intro W base args ds gs before ri hW hcnd uj _; have hsz : (DataW.weightsEach Try.prog (Try.f13.params.toList ++ Rows.strikeSimplesSpec.plain.varTypes Try.prog) (ds ++ gs)).all (· ≤ reachBytes) = true := uj; have hval : ∀ (j : Nat) t v, Try.f13.params[j]? = some t → args[j]? = some v → Value.okWide Try.prog W .any base t v := ri; have hW' := hW; obtain ⟨p, q, hA0, hV, rfl, hfz, hnd⟩ := hW; have hA : DataW.TrodAll enc Try.prog W 0 (fun _ => true) true Try.f13.params.toList args.toList ds p := hA0; rw [Try.params13] at hA hval hsz; obtain ⟨v0, vs0, d0, ds0, p0, q0, hargs, rfl, rfl, h0, r0⟩ := trodAll_cons hA; obtain ⟨rfl, rfl, rfl⟩ := trodAll_nil r0; obtain rfl : args = #[v0] := by cases args; simp_all
  obtain ⟨rfl, rfl⟩ := trodVars_none hV; have k0 := h0; have lt0 : ∀ x ∈ p0, x.block < W.heap.size := by obtain ⟨m, hm⟩ := k0; exact DataW.trod_lt m _ _ _ hm
  obtain ⟨an, al, Aw, Av, m0, rfl, rfl, rfl, uf, ue⟩ := open_agg2 Try.underlying24 (by kernel_rfl) (by kernel_rfl) (hval 0 24 v0 rfl rfl) h0; obtain ⟨Bj, ae, cg, rfl, uL, sA, uC, rF, oN⟩ := open_tab uf (fun n hn => sized_at hsz (j := 0) (t := 24) rfl rfl n (w24 (.inl hn))); obtain ⟨Bi, af, ca, rfl, uK, sy, uB, rE, oM⟩ := open_tab ue (fun n hn => sized_at hsz (j := 0) (t := 24) rfl rfl n (w24 (.inr hn))); clear hA0 ri uj hsz; obtain ⟨k, hk⟩ : Ev (fun k => ZE.f k ae cg af ca) true := by
    unfold ZE.f; refine Ev.bind (keepTable cg rF oN) ?_; refine Ev.bind (keepTable ca rE oM) ?_; refine Ev.bind (VX ae af) ?_; simp only [if_true]; refine Ev.bind (keptTable cg rF oN) ?_; simp only [if_true]; refine Ev.bind (keptTable ca rE oM) ?_; exact Ev.now _
  refine (ZE.calls k _ ae cg _ af ca true W uL sA uC uK sy uB (hk k (Nat.le_refl _))).mono fun e W' ⟨he, bel⟩ => ?_
  subst he; exact ⟨_, rfl, _, _, _, [], _, [], hW', trodAll_mk1 (shut_bool Try.underlying4 _), (trodAll_cons_mk (Below.trod laidOut (by kernel_rfl) (of_decide_eq_true (by kernel_rfl)) k0 bel lt0) trodAll_mk0), rfl, bel.frame _, fun h => by cases h⟩
theorem over : Rows.strikeSimplesRow.holds Try.pinned (OpenSpec.ofChange Rows.strikeSimplesSpec) :=
  OpenClaim.holds_of_wide 13 Try.f13 rfl rfl rfl rfl rfl rfl rfl ⟨rfl, rfl, rfl, rfl, rfl⟩ rfl rfl rfl rfl rfl (by kernel_rfl) Try.func13 (by kernel_rfl)
    (of_decide_eq_true (by kernel_rfl)) (by unfold Func.isWrapper; first | (rw [if_pos (by decide +kernel)]; kernel_rfl) | (rw [if_neg (by decide +kernel)]; exact ⟨rfl, rfl⟩))
    (fun os started H enc _ => lifted os started H enc)
theorem proved : Rows.StrikeSimplesSaid := over
#print axioms proved
end Go.Proofs.Ytdneelgnmnpanaa.strikeSimples
namespace Go.Proofs.Ytdneelgnmnpanaa
theorem strikeSimples_holds : Rows.StrikeSimplesSaid := strikeSimples.proved
end Go.Proofs.Ytdneelgnmnpanaa
end
