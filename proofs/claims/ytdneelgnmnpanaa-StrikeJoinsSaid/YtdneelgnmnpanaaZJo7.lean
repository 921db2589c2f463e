/- For every input: striking: two strikes together are what the document says, and they can be balanced if both can. The law returns true and leaves its arguments as they were. No further conditions. -/
import Derived.Test.YtdneelgnmnpanaaZJo6
import Derived.Test.YtdneelgnmnpanaaRows
import Derived.WalkKit
import Derived.ProofKit
import Derived.OpenShut
import Derived.ShutString
import Derived.ChangeOld
import Derived.Below
import Derived.SizedLaws
import Derived.Lib.SmallJoins
set_option linter.unusedVariables false
set_option linter.unusedSimpArgs false
section
namespace Go.Proofs.Det
variable {K : Type}
def Van (r : Nat) (S : (K → Int) → Prop) : Prop := ∀ J : List K, J.length = r → ∀ I : List (K → Int), I.length = r → (∀ v ∈ I, S v) → det J I = 0
theorem van_gen {r : Nat} {S S' : (K → Int) → Prop} (h : Van r S) (hg : ∀ v, S' v → Gen S v) : Van r S' := by
  intro J hJ I hI hv; have hl := Y3 J; rw [hJ] at hl; have := Uu hl (S := S) (fun I hI hv => h J hJ I hI hv) I [] (by simpa using hI) (fun v hv' => hg v (hv v hv')) (by simp); simpa using this
theorem sgn_zero (f : List (K → Int) → Int) (j : K) : ∀ (post pre : List (K → Int)), (∀ v ∈ post, v j = 0) → sgn f j pre post = 0
  | [], _, _ => rfl
  | v :: post, pre, h => by
    rw [sgn, h v (List.mem_cons_self ..), sgn_zero f j post _ (fun u hu => h u (List.mem_cons_of_mem _ hu))]; simp
def Steps : List K → List (K → Int) → Prop
  | [], [] => True
  | j :: J, v :: R => v j ≠ 0 ∧ (∀ u ∈ R, u j = 0) ∧ Steps J R
  | _, _ => False
theorem US : ∀ (J : List K) (R : List (K → Int)), Steps J R → det J R ≠ 0
  | [], [], _ => by simp [det]
  | [], _ :: _, h => h.elim
  | _ :: _, [], h => h.elim
  | j :: J, v :: R, h => by
    obtain ⟨h1, h2, h3⟩ := h; rw [det, sgn, List.nil_append, List.nil_append, sgn_zero _ _ _ _ h2, Int.sub_zero]; exact Int.mul_ne_zero h1 (US J R h3)
theorem YN : ∀ (r : Nat) (l : List Nat), l.Nodup → (∀ x ∈ l, x < r) → l.length ≤ r
  | 0, l, _, h => by
    cases l with
    | nil => simp
    | cons x t => have := h x (List.mem_cons_self ..); omega
  | r + 1, l, hn, h => by
    by_cases c : r ∈ l
    · have h1 := YN r (l.erase r) (hn.erase r) (fun x hx => by
        have h2 := (hn.mem_erase_iff).1 hx; have := h x h2.2; have := h2.1; omega)
      rw [List.length_erase_of_mem c] at h1; omega
    · have := YN r l hn (fun x hx => by
        have h1 := h x hx; have : x ≠ r := fun e => c (e ▸ hx)
        omega)
      omega
theorem Yu : ∀ (l : List Nat), ¬ l.Nodup → ∃ p a q s, l = p ++ a :: (q ++ a :: s)
  | [], h => (h List.nodup_nil).elim
  | x :: t, h => by
    by_cases c : x ∈ t
    · obtain ⟨q, s, e⟩ := List.append_of_mem c; exact ⟨[], x, q, s, by rw [e]; rfl⟩
    · obtain ⟨p, a, q, s, e⟩ := Yu t (fun hn => h (List.nodup_cons.2 ⟨c, hn⟩)); exact ⟨x :: p, a, q, s, by rw [e]; rfl⟩
theorem van_short (R : List (K → Int)) : Van (R.length + 1) (fun v => v ∈ R) := by
  intro J hJ I hI hv; obtain ⟨l, hl, hI2⟩ : ∃ l : List Nat, (∀ x ∈ l, x < R.length) ∧ I = l.map (fun x => R.getD x (fun _ => 0)) := by
    clear hI; induction I with
    | nil => exact ⟨[], by simp, rfl⟩
    | cons v I ih =>
      obtain ⟨l, h1, h2⟩ := ih (fun u hu => hv u (List.mem_cons_of_mem _ hu)); obtain ⟨n, hn, e⟩ := List.getElem_of_mem (hv v (List.mem_cons_self ..)); refine ⟨n :: l, fun x hx => ?_, ?_⟩
      · rcases List.mem_cons.1 hx with rfl | hx
        · exact hn
        · exact h1 x hx
      · rw [List.map_cons, ← h2, List.getD_eq_getElem?_getD, List.getElem?_eq_getElem hn, e]; rfl
  have hll : l.length = R.length + 1 := by rw [hI2] at hI; simpa using hI
  obtain ⟨p, a, q, s, e⟩ := Yu l (fun hn => by have := YN R.length l hn hl; omega); rw [hI2, e]; simp only [List.map_append, List.map_cons]; have h1 := Y3 J; have h2 := V9 J; rw [hJ] at h1 h2; refine Vw h1 h2 _ _ _ _ ?_; rw [e] at hll; simp at hll ⊢; omega
theorem van_up {r : Nat} {S : (K → Int) → Prop} (h : Van r S) : Van (r + 1) S := by
  intro J hJ I hI hv; match J, hJ with
  | j :: J, hJ =>
    have : ∀ (post pre : List (K → Int)), pre.length + post.length = r + 1 → (∀ v ∈ pre, S v) → (∀ v ∈ post, S v) → sgn (det J) j pre post = 0 := by
      intro post; induction post with
      | nil => intros; rfl
      | cons v post ih =>
        intro pre e h1 h2; rw [sgn, ih (pre ++ [v]) (by simp at e ⊢; omega) (fun u hu => by
          rcases List.mem_append.1 hu with hu | hu
          · exact h1 u hu
          · rw [List.mem_singleton.1 hu]; exact h2 v (List.mem_cons_self ..)) (fun u hu => h2 u (List.mem_cons_of_mem _ hu)),
          h J (by simpa using hJ) (pre ++ post) (by simp at e ⊢; omega) (fun u hu => by
          rcases List.mem_append.1 hu with hu | hu
          · exact h1 u hu
          · exact h2 u (List.mem_cons_of_mem _ hu))]
        simp
    exact this I [] (by simpa using hI) (by simp) hv
theorem argmax {α : Type} (f g : α → Int) : ∀ (l : List α), l ≠ [] → (∀ x ∈ l, 0 < g x) → ∃ M ∈ l, ∀ x ∈ l, f x * g M ≤ f M * g x
  | [], h, _ => absurd rfl h
  | [a], _, _ => ⟨a, by simp, fun x hx => by rw [List.mem_singleton.1 hx]; omega⟩
  | a :: b :: l, _, hg => by
    obtain ⟨M, hM, h⟩ := argmax f g (b :: l) (by simp) (fun x hx => hg x (List.mem_cons_of_mem _ hx)); have ga := hg a (List.mem_cons_self ..); have gM := hg M (List.mem_cons_of_mem _ hM); by_cases c : f a * g M ≤ f M * g a
    · exact ⟨M, List.mem_cons_of_mem _ hM, fun x hx => by
        rcases List.mem_cons.1 hx with rfl | hx
        · exact c
        · exact h x hx⟩
    · refine ⟨a, List.mem_cons_self .., fun x hx => ?_⟩; rcases List.mem_cons.1 hx with rfl | hx
      · omega
      · have gx := hg x (List.mem_cons_of_mem _ hx); have h1 := Int.mul_le_mul_of_nonneg_right (h x hx) (show 0 ≤ g a by omega); have h2 := Int.mul_le_mul_of_nonneg_right (show f M * g a ≤ f a * g M by omega) (show 0 ≤ g x by omega); have e1 : f x * g a * g M = f x * g M * g a := by grind
        have e2 : f M * g x * g a = f M * g a * g x := by grind
        have e3 : f a * g x * g M = f a * g M * g x := by grind
        exact Int.le_of_mul_le_mul_right (show f x * g a * g M ≤ f a * g x * g M by omega) gM
def Cl (V : (Nat → Int) → Prop) : Prop := ∀ a u b v, V u → V v → V (comb a u b v)
def Prp (n : Nat) (u w : Nat → Int) : Prop := ∀ j, j < n → ∀ k, k < n → w j * u k = w k * u j
def spt (n : Nat) (v : Nat → Int) : List Nat := (List.range n).filter fun j => v j ≠ 0
theorem Yv {n : Nat} {v : Nat → Int} {j : Nat} : j ∈ spt n v ↔ j < n ∧ v j ≠ 0 := by simp [spt]
theorem U5 {α : Type} (p q : α → Bool) : ∀ (l : List α), (∀ x ∈ l, p x = true → q x = true) → (l.filter p).length ≤ (l.filter q).length
  | [], _ => by simp
  | a :: l, h => by
    have := U5 p q l (fun x hx => h x (List.mem_cons_of_mem _ hx)); have ha := h a (List.mem_cons_self ..); cases hp : p a
    · rw [List.filter_cons_of_neg (by simp [hp])]; cases hq : q a
      · rw [List.filter_cons_of_neg (by simp [hq])]; exact this
      · rw [List.filter_cons_of_pos hq, List.length_cons]; omega
    · rw [List.filter_cons_of_pos hp, List.filter_cons_of_pos (ha hp), List.length_cons, List.length_cons]; omega
theorem U4 {α : Type} (p q : α → Bool) : ∀ (l : List α), (∀ x ∈ l, p x = true → q x = true) → (∃ x ∈ l, q x = true ∧ p x = false) → (l.filter p).length < (l.filter q).length
  | [], _, h => by obtain ⟨x, hx, _⟩ := h; simp at hx
  | a :: l, h1, h2 => by
    have hl := U5 p q l (fun x hx => h1 x (List.mem_cons_of_mem _ hx)); obtain ⟨x, hx, hq, hp⟩ := h2; rcases List.mem_cons.1 hx with rfl | hx
    · rw [List.filter_cons_of_neg (by simp [hp]), List.filter_cons_of_pos hq, List.length_cons]; omega
    · have ih := U4 p q l (fun x hx => h1 x (List.mem_cons_of_mem _ hx)) ⟨x, hx, hq, hp⟩; have ha := h1 a (List.mem_cons_self ..); cases hp : p a
      · rw [List.filter_cons_of_neg (by simp [hp])]; cases hq : q a
        · rw [List.filter_cons_of_neg (by simp [hq])]; exact ih
        · rw [List.filter_cons_of_pos hq, List.length_cons]; omega
      · rw [List.filter_cons_of_pos hp, List.filter_cons_of_pos (ha hp), List.length_cons, List.length_cons]; omega
theorem spt_lt {n : Nat} {u v : Nat → Int} (h : ∀ j, j < n → u j ≠ 0 → v j ≠ 0) {M : Nat} (hM : M < n) (h1 : v M ≠ 0) (h2 : u M = 0) : (spt n u).length < (spt n v).length :=
  U4 _ _ _ (fun x hx hp => by simpa using h x (List.mem_range.1 hx) (by simpa using hp)) ⟨M, List.mem_range.2 hM, by simpa using h1, by simpa using h2⟩
theorem UT {V : (Nat → Int) → Prop} (hV : Cl V) (n i : Nat) (hi : i < n) : ∀ (d : Nat) (v : Nat → Int), (spt n v).length ≤ d → V v → (∀ j, j < n → 0 ≤ v j) → 0 < v i →
    ∃ u, V u ∧ (∀ j, j < n → 0 ≤ u j) ∧ 0 < u i ∧ (∀ j, j < n → u j ≠ 0 → v j ≠ 0) ∧ ∀ w, V w → (∀ j, j < n → w j ≠ 0 → u j ≠ 0) → Prp n u w
  | 0, v, hd, _, _, hvi => by
    have : i ∈ spt n v := Yv.2 ⟨hi, by omega⟩; have := List.length_pos_of_mem this; omega
  | d + 1, v, hd, hv, h0, hvi => by
    by_cases hex : ∃ w, V w ∧ (∀ j, j < n → w j ≠ 0 → v j ≠ 0) ∧ ∃ j, j < n ∧ w i * v j < w j * v i
    · obtain ⟨w, hw, hs, j, hj, hlt⟩ := hex; have hvj : v j ≠ 0 := fun e => by
        have : w j = 0 := by
          by_cases c : w j = 0
          · exact c
          · exact absurd e (hs j hj c)
        rw [e, this] at hlt; omega
      have hpos : ∀ x ∈ spt n v, 0 < v x := fun x hx => by
        obtain ⟨a, b⟩ := Yv.1 hx; have := h0 x a; omega
      obtain ⟨M, hM, hmax⟩ := argmax w v (spt n v) (List.ne_nil_of_mem (Yv.2 ⟨hj, hvj⟩)) hpos; have vM := hpos M hM; obtain ⟨hMn, hM0⟩ := Yv.1 hM; have hu0 : ∀ x, x < n → 0 ≤ comb (w M) v (-(v M)) w x := fun x hx => by
        show 0 ≤ w M * v x + -(v M) * w x
        by_cases c : v x = 0
        · have : w x = 0 := by
            by_cases c2 : w x = 0
            · exact c2
            · exact absurd c (hs x hx c2)
          rw [c, this]; simp
        · have := hmax x (Yv.2 ⟨hx, c⟩); rw [Int.neg_mul, Int.mul_comm (v M)]; omega
      have hsub : ∀ x, x < n → comb (w M) v (-(v M)) w x ≠ 0 → v x ≠ 0 := fun x hx h e => by
        apply h; have : w x = 0 := by
          by_cases c2 : w x = 0
          · exact c2
          · exact absurd e (hs x hx c2)
        show w M * v x + -(v M) * w x = 0
        rw [e, this]; simp
      have hui : 0 < comb (w M) v (-(v M)) w i := by
        show 0 < w M * v i + -(v M) * w i
        have h1 := hmax j (Yv.2 ⟨hj, hvj⟩); have vj := hpos j (Yv.2 ⟨hj, hvj⟩); have h2 := Int.mul_lt_mul_of_pos_right hlt vM; have h3 := Int.mul_le_mul_of_nonneg_right h1 (show 0 ≤ v i by omega); have e1 : w i * v j * v M = w i * v M * v j := by grind
        have e2 : w j * v i * v M = w j * v M * v i := by grind
        have e3 : w M * v j * v i = w M * v i * v j := by grind
        have h4 : w i * v M * v j < w M * v i * v j := by omega
        have := Int.lt_of_mul_lt_mul_right h4 (show 0 ≤ v j by omega); rw [Int.neg_mul, Int.mul_comm (v M)]; omega
      have huM : comb (w M) v (-(v M)) w M = 0 := by
        show w M * v M + -(v M) * w M = 0
        rw [Int.neg_mul, Int.mul_comm (v M)]; omega
      have hl := spt_lt hsub hMn hM0 huM; obtain ⟨u, a1, a2, a3, a4, a5⟩ := UT hV n i hi d _ (by omega) (hV _ _ _ _ hv hw) hu0 hui; exact ⟨u, a1, a2, a3, fun x hx h => hsub x hx (a4 x hx h), a5⟩
    · refine ⟨v, hv, h0, hvi, fun _ _ h => h, fun w hw hs => ?_⟩; have hle : ∀ j, j < n → w j * v i ≤ w i * v j := fun j hj => by
        by_cases c : w i * v j < w j * v i
        · exact absurd ⟨w, hw, hs, j, hj, c⟩ hex
        · omega
      have hge : ∀ j, j < n → w i * v j ≤ w j * v i := fun j hj => by
        by_cases c : w j * v i < w i * v j
        · refine absurd ⟨comb (-1) w 0 w, hV _ _ _ _ hw hw, fun x hx h => hs x hx (fun e => h (by simp [comb, e])), j, hj, ?_⟩ hex; simp only [comb, Int.zero_mul, Int.add_zero, Int.neg_mul, Int.one_mul]; omega
        · omega
      intro j hj k hk; refine Int.eq_of_mul_eq_mul_right (a := v i) (by omega) ?_; have e1 : w j * v i = w i * v j := Int.le_antisymm (hle j hj) (hge j hj); have e2 : w k * v i = w i * v k := Int.le_antisymm (hle k hk) (hge k hk); rw [show w j * v k * v i = w j * v i * v k by grind, show w k * v j * v i = w k * v i * v j by grind, e1, e2]; grind
def dt : Nat → (Nat → Int) → (Nat → Int) → Int
  | 0, _, _ => 0
  | m + 1, y, a => dt m y a + y m * a m
theorem VF (m : Nat) (y : Nat → Int) (p q : Int) (u v : Nat → Int) : dt m y (comb p u q v) = p * dt m y u + q * dt m y v := by
  induction m with
  | zero => simp [dt]
  | succ m ih =>
    rw [dt, dt, dt, ih]; simp only [comb]; grind
theorem UB (m : Nat) (y a : Nat → Int) : dt m y a = dt m a y := by
  induction m with
  | zero => rfl
  | succ m ih => rw [dt, dt, ih, Int.mul_comm]
theorem YS (m : Nat) {y z a b : Nat → Int} (h : ∀ k, k < m → y k = z k) (h2 : ∀ k, k < m → a k = b k) : dt m y a = dt m z b := by
  induction m with
  | zero => rfl
  | succ m ih => rw [dt, dt, ih (fun k hk => h k (by omega)) (fun k hk => h2 k (by omega)), h m (by omega), h2 m (by omega)]
def unt (m : Nat) (s : Int) : Nat → Int := fun k => if k = m then s else 0
theorem Y2 : ∀ (n : Nat) (r v : Nat → Int), (∀ j, j < n → r j * v j = 0) → dt n r v = 0
  | 0, _, _, _ => rfl
  | n + 1, r, v, h => by rw [dt, Y2 n r v (fun j hj => h j (by omega)), h n (by omega)]; rfl
theorem VG : ∀ (n : Nat) (r v : Nat → Int) (c : Nat), c < n → (∀ j, j < n → j ≠ c → r j * v j = 0) → dt n r v = r c * v c
  | 0, _, _, c, h, _ => by omega
  | n + 1, r, v, c, hc, h => by
    rw [dt]; by_cases e : c = n
    · rw [Y2 n r v (fun j hj => h j (by omega) (by omega)), e]; omega
    · rw [VG n r v c (by omega) (fun j hj => h j (by omega)), h n (by omega) (by omega)]; omega
theorem Jj : ∀ (n : Nat) (r v : Nat → Int) (c f : Nat), c < n → f < n → c ≠ f → (∀ j, j < n → j ≠ c → j ≠ f → r j * v j = 0) → dt n r v = r c * v c + r f * v f
  | 0, _, _, c, _, h, _, _, _ => by omega
  | n + 1, r, v, c, f, hc, hf, hne, h => by
    rw [dt]; by_cases e : c = n
    · rw [VG n r v f (by omega) (fun j hj h2 => h j (by omega) (by omega) h2), e]; omega
    · by_cases e2 : f = n
      · rw [VG n r v c (by omega) (fun j hj h2 => h j (by omega) h2 (by omega)), e2]
      · rw [Jj n r v c f (by omega) (by omega) hne (fun j hj => h j (by omega)), h n (by omega) (by omega) (by omega)]; omega
def Ker (n : Nat) (S : (Nat → Int) → Prop) (v : Nat → Int) : Prop := ∀ r, S r → dt n r v = 0
theorem ker_cl (n : Nat) (S : (Nat → Int) → Prop) : Cl (Ker n S) := fun a u b v hu hv r hr => by rw [VF, hu r hr, hv r hr]; simp
theorem ker_gen {n : Nat} {S S' : (Nat → Int) → Prop} (h : ∀ r, S r → Gen S' r) {v : Nat → Int} (hv : Ker n S' v) : Ker n S v := fun r hr =>
  Uv (fun r => dt n r v) (fun a u b w => by rw [UB, VF, UB n v u, UB n v w]) hv (h r hr)
def Gnr (n : Nat) (V : (Nat → Int) → Prop) (v : Nat → Int) : Prop := V v ∧ (∃ j, j < n ∧ v j ≠ 0) ∧ ∀ w, V w → Prp n v w
theorem V8 {n : Nat} {V W : (Nat → Int) → Prop} (h : ∀ v, V v ↔ W v) {v : Nat → Int} (hv : Gnr n V v) : Gnr n W v := ⟨(h v).1 hv.1, hv.2.1, fun w hw => hv.2.2 w ((h w).2 hw)⟩
structure Ech (n : Nat) (A : Nat → Nat → Int) (Q : List Nat) : Prop where
  inc : Q.Pairwise (· < ·)
  lt : ∀ q ∈ Q, q < n
  piv : ∀ a c : Nat, Q[a]? = some c → A a c ≠ 0
  zer : ∀ a c : Nat, Q[a]? = some c → ∀ b, b ≠ a → A b c = 0
  low : ∀ b, Q.length ≤ b → ∀ c, c < n → A b c = 0
def Rws (A : Nat → Nat → Int) (r : Nat → Int) : Prop := ∃ b, r = A b
theorem VK : ∀ (l r : List Nat), l.Nodup → (∀ x ∈ l, x ∈ r) → l.length ≤ r.length
  | [], _, _, _ => by simp
  | a :: l, r, hn, h => by
    rw [List.nodup_cons] at hn; have h1 := VK l (r.erase a) hn.2 (fun x hx => by
      have := h x (List.mem_cons_of_mem _ hx); exact (List.mem_erase_of_ne (fun e => hn.1 (by rw [← e]; exact hx))).2 this)
    have ha := h a (List.mem_cons_self ..); rw [List.length_erase_of_mem ha] at h1; have := List.length_pos_of_mem ha; rw [List.length_cons]; omega
namespace Ech
variable {n : Nat} {A : Nat → Nat → Int} {Q : List Nat}
theorem nodup (h : Ech n A Q) : Q.Nodup := h.inc.imp (fun h => by omega)
theorem miss (h : Ech n A Q) (hl : Q.length < n) : ∃ f, f < n ∧ f ∉ Q := by
  by_cases c : ∃ f, f < n ∧ f ∉ Q
  · exact c
  · have := VK (List.range n) Q List.nodup_range (fun x hx => by
      by_cases c2 : x ∈ Q
      · exact c2
      · exact absurd ⟨x, List.mem_range.1 hx, c2⟩ c)
    rw [List.length_range] at this; omega
theorem miss2 (h : Ech n A Q) (hl : Q.length + 1 < n) {f : Nat} : ∃ g, g < n ∧ g ∉ Q ∧ g ≠ f := by
  by_cases c : ∃ g, g < n ∧ g ∉ Q ∧ g ≠ f
  · exact c
  · have := VK (List.range n) (f :: Q) List.nodup_range (fun x hx => by
      by_cases c3 : x = f
      · rw [c3]; exact List.mem_cons_self ..
      · by_cases c2 : x ∈ Q
        · exact List.mem_cons_of_mem _ c2
        · exact absurd ⟨x, List.mem_range.1 hx, c2, c3⟩ c)
    rw [List.length_range, List.length_cons] at this; omega
theorem cover (h : Ech n A Q) (hl : Q.length + 1 = n) {f : Nat} (hf : f < n) (hfQ : f ∉ Q) {j : Nat} (hj : j < n) : j ∈ Q ∨ j = f := by
  by_cases c : j ∈ Q
  · exact .inl c
  · by_cases c2 : j = f
    · exact .inr c2
    · have := YN n (j :: f :: Q) (by
        rw [List.nodup_cons, List.nodup_cons]; exact ⟨fun hm => by rcases List.mem_cons.1 hm with e | e; exact c2 e; exact c e, hfQ, h.nodup⟩) (fun x hx => by
        rcases List.mem_cons.1 hx with rfl | hx
        · exact hj
        · rcases List.mem_cons.1 hx with rfl | hx
          · exact hf
          · exact h.lt x hx)
      simp only [List.length_cons] at this; omega
theorem full (h : Ech n A Q) (hl : Q.length = n) {j : Nat} (hj : j < n) : j ∈ Q := by
  by_cases c : j ∈ Q
  · exact c
  · have := YN n (j :: Q) (by rw [List.nodup_cons]; exact ⟨c, h.nodup⟩) (fun x hx => by
      rcases List.mem_cons.1 hx with rfl | hx
      · exact hj
      · exact h.lt x hx)
    simp only [List.length_cons] at this; omega
theorem Jf (h : Ech n A Q) : Q.length ≤ n := YN n Q h.nodup h.lt
theorem same (h : Ech n A Q) {a b c : Nat} (ha : Q[a]? = some c) (hb : Q[b]? = some c) : a = b := by
  by_cases e : a = b
  · exact e
  · exact absurd (h.zer a c ha b (fun x => e x.symm)) (h.piv b c hb)
theorem idx {j : Nat} (hj : j ∈ Q) : ∃ a : Nat, Q[a]? = some j := by
  obtain ⟨a, ha, e⟩ := List.getElem_of_mem hj; exact ⟨a, by rw [List.getElem?_eq_getElem ha, e]⟩
theorem ker1 (h : Ech n A Q) {f : Nat} (hf : f < n) (hfQ : f ∉ Q) {v : Nat → Int} (hz : ∀ j, j < n → j ∉ Q → j ≠ f → v j = 0) (hv : ∀ a c : Nat, Q[a]? = some c → A a c * v c + A a f * v f = 0) : Ker n (Rws A) v := by
  rintro r ⟨b, rfl⟩; by_cases hb : b < Q.length
  · have hq : Q[b]? = some Q[b] := List.getElem?_eq_getElem hb; have hm : Q[b] ∈ Q := List.getElem_mem hb; rw [Jj n (A b) v Q[b] f (h.lt _ hm) hf (fun e => hfQ (e ▸ hm)) (fun j hj h1 h2 => ?_)]
    · exact hv b _ hq
    · by_cases c : j ∈ Q
      · obtain ⟨a, ha⟩ := idx c; rw [h.zer a j ha b (fun e => h1 (by rw [← e] at ha; rw [hq] at ha; exact (Option.some.inj ha).symm))]; simp
      · rw [hz j hj c h2]; simp
  · exact Y2 n (A b) v (fun j hj => by rw [h.low b (by omega) j hj]; simp)
theorem ker_at (h : Ech n A Q) (hl : Q.length + 1 = n) {f : Nat} (hf : f < n) (hfQ : f ∉ Q) {v : Nat → Int} (hv : Ker n (Rws A) v) {a c : Nat} (ha : Q[a]? = some c) : A a c * v c + A a f * v f = 0 := by
  have hm : c ∈ Q := List.mem_of_getElem? ha; have := hv (A a) ⟨a, rfl⟩; rw [Jj n (A a) v c f (h.lt _ hm) hf (fun e => hfQ (e ▸ hm)) (fun j hj h1 h2 => ?_)] at this
  · exact this
  · rcases h.cover hl hf hfQ hj with c | c
    · obtain ⟨b, hb⟩ := idx c; rw [h.zer b j hb a (fun e => h1 (by rw [e] at ha; rw [ha] at hb; exact (Option.some.inj hb).symm))]; simp
    · exact absurd c h2
theorem gnr1 (h : Ech n A Q) (hl : Q.length + 1 = n) {f : Nat} (hf : f < n) (hfQ : f ∉ Q) {v : Nat → Int} (hv : Ker n (Rws A) v) (hvf : v f ≠ 0) : Gnr n (Ker n (Rws A)) v := by
  refine ⟨hv, ⟨f, hf, hvf⟩, fun w hw => ?_⟩; have key : ∀ j, j < n → w j * v f = w f * v j := fun j hj => by
    rcases h.cover hl hf hfQ hj with c | c
    · obtain ⟨a, ha⟩ := idx c; have h1 := h.ker_at hl hf hfQ hv ha; have h2 := h.ker_at hl hf hfQ hw ha; refine Int.eq_of_mul_eq_mul_left (h.piv a j ha) ?_; rw [← Int.mul_assoc, show A a j * w j = -(A a f * w f) by omega, show A a j * (w f * v j) = w f * (A a j * v j) by grind, show A a j * v j = -(A a f * v f) by omega]; grind
    · rw [c]
  intro j hj k hk; refine Int.eq_of_mul_eq_mul_right hvf ?_; rw [show w j * v k * v f = w j * v f * v k by grind, show w k * v j * v f = w k * v f * v j by grind, key j hj, key k hk]; grind
theorem prod : ∀ (l : List Int), (∀ x ∈ l, x ≠ 0) → ∃ L : Int, L ≠ 0 ∧ ∀ x ∈ l, x ∣ L
  | [], _ => ⟨1, by omega, by simp⟩
  | a :: l, h => by
    obtain ⟨L, h1, h2⟩ := prod l (fun x hx => h x (List.mem_cons_of_mem _ hx)); refine ⟨a * L, Int.mul_ne_zero (h a (List.mem_cons_self ..)) h1, fun x hx => ?_⟩; rcases List.mem_cons.1 hx with rfl | hx
    · exact ⟨L, rfl⟩
    · exact Int.dvd_mul_of_dvd_right (h2 x hx)
theorem pivs (h : Ech n A Q) : ∃ L : Int, L ≠ 0 ∧ ∀ a c : Nat, Q[a]? = some c → A a c ∣ L := by
  obtain ⟨L, h1, h2⟩ := prod ((List.range Q.length).map fun a => A a (Q.getD a 0)) (fun x hx => by
    obtain ⟨a, ha, rfl⟩ := List.mem_map.1 hx; have hl := List.mem_range.1 ha; refine h.piv a _ ?_; rw [List.getD_eq_getElem?_getD, List.getElem?_eq_getElem hl]; rfl)
  refine ⟨L, h1, fun a c ha => h2 _ (List.mem_map.2 ⟨a, List.mem_range.2 ?_, ?_⟩)⟩
  · exact (List.getElem?_eq_some_iff.1 ha).1
  · rw [List.getD_eq_getElem?_getD, ha]; rfl
theorem Uq (h : Ech n A Q) {f : Nat} (hf : f < n) (hfQ : f ∉ Q) : ∃ v, Ker n (Rws A) v ∧ v f ≠ 0 ∧ ∀ j, j < n → j ∉ Q → j ≠ f → v j = 0 := by
  obtain ⟨L, hL, hd⟩ := h.pivs; let v : Nat → Int := fun j => if j = f then L else if j ∈ Q then -(A (Q.idxOf j) f) * (L / A (Q.idxOf j) j) else 0
  have hvf : v f = L := if_pos rfl; refine ⟨v, h.ker1 hf hfQ (fun j hj h1 h2 => by show (if j = f then L else if j ∈ Q then _ else 0) = 0; rw [if_neg h2, if_neg h1]) (fun a c ha => ?_), by rw [hvf]; exact hL, fun j hj h1 h2 => by show (if j = f then L else if j ∈ Q then _ else 0) = 0; rw [if_neg h2, if_neg h1]⟩; have hm : c ∈ Q := List.mem_of_getElem? ha; have hcf : c ≠ f := fun e => hfQ (e ▸ hm)
  have hi : Q[Q.idxOf c]? = some c := by
    have := List.idxOf_lt_length_iff.2 hm; rw [List.getElem?_eq_getElem this, List.getElem_idxOf this]
  have e := h.same hi ha; have hvc : v c = -(A a f) * (L / A a c) := by
    show (if c = f then L else if c ∈ Q then -(A (Q.idxOf c) f) * (L / A (Q.idxOf c) c) else 0) = _
    rw [if_neg hcf, if_pos hm, e]
  rw [hvc, hvf]; have := Int.mul_ediv_cancel' (hd a c ha); rw [show A a c * (-(A a f) * (L / A a c)) = -(A a f) * (A a c * (L / A a c)) by grind, this, Int.neg_mul]; omega
theorem gnr_iff_len (h : Ech n A Q) : (∃ v, Gnr n (Ker n (Rws A)) v) ↔ Q.length + 1 = n := by
  constructor
  · rintro ⟨v, hv, ⟨j, hj, hj0⟩, hp⟩; have hle := h.Jf; by_cases c1 : Q.length = n
    · exfalso
      obtain ⟨a, ha⟩ := idx (h.full c1 hj); have := hv (A a) ⟨a, rfl⟩; rw [VG n (A a) v j hj (fun k hk hne => by
        obtain ⟨b, hb⟩ := idx (h.full c1 hk); rw [h.zer b k hb a (fun e => hne (by rw [e] at ha; rw [ha] at hb; exact (Option.some.inj hb).symm))]; simp)] at this
      rcases Int.mul_eq_zero.1 this with e | e
      · exact h.piv a j ha e
      · exact hj0 e
    · by_cases c2 : Q.length + 1 = n
      · exact c2
      · exfalso
        obtain ⟨f, hf, hfQ⟩ := h.miss (by omega); obtain ⟨g, hg, hgQ, hne⟩ := h.miss2 (by omega) (f := f); obtain ⟨u, u1, u2, u3⟩ := h.Uq hf hfQ; obtain ⟨w, w1, w2, w3⟩ := h.Uq hg hgQ; have e1 := hp u u1 f hf g hg; rw [u3 g hg hgQ hne, Int.zero_mul] at e1; have vg : v g = 0 := by
          rcases Int.mul_eq_zero.1 e1 with e | e
          · exact absurd e u2
          · exact e
        have e2 := hp w w1 g hg j hj; rw [vg, Int.mul_zero] at e2; rcases Int.mul_eq_zero.1 e2 with e | e
        · exact w2 e
        · exact hj0 e
  · intro hl; obtain ⟨f, hf, hfQ⟩ := h.miss (by omega); obtain ⟨v, h1, h2, h3⟩ := h.Uq hf hfQ; exact ⟨v, h.gnr1 hl hf hfQ h1 h2⟩
end Ech
variable {K : Type}
def csg (g : List K → Int) (u : K → Int) : List K → List K → Int
  | _, [] => 0
  | pre, j :: post => u j * g (pre ++ post) - csg g u (pre ++ [j]) post
theorem csg_cons (g : List K → Int) (u : K → Int) (j : K) : ∀ (post pre : List K), csg g u (j :: pre) post = csg (fun J => g (j :: J)) u pre post
  | [], _ => rfl
  | k :: post, pre => by
    have ih := csg_cons g u j post (pre ++ [k]); simp only [csg, List.cons_append] at ih ⊢; rw [ih]
theorem csg_zero (u : K → Int) : ∀ (post pre : List K), csg (fun _ => 0) u pre post = 0
  | [], _ => rfl
  | k :: post, pre => by
    rw [csg, csg_zero u post]; simp
theorem csg_sub (g h : List K → Int) (a : Int) (u : K → Int) : ∀ (post pre : List K), csg (fun J => a * g J - h J) u pre post = a * csg g u pre post - csg h u pre post
  | [], _ => by simp [csg]
  | k :: post, pre => by
    rw [csg, csg, csg, csg_sub g h a u post]; grind
theorem exch (u : K → Int) (j : K) (J : List K) (hJ : ∀ R : List (K → Int), R.length + 1 = J.length → det J (u :: R) = csg (fun J' => det J' R) u [] J) : ∀ (q p : List (K → Int)), p.length + q.length = J.length →
    sgn (det J) j (u :: p) q = csg (fun J' => sgn (det J') j p q) u [] J
  | [], p, _ => by
    simp only [sgn]; rw [csg_zero]
  | v :: q, p, e => by
    simp only [List.length_cons] at e; have ih := exch u j J hJ q (p ++ [v]) (by simp; omega); simp only [sgn, List.cons_append] at ih ⊢; rw [ih, hJ (p ++ q) (by simp; omega), csg_sub (fun J' => det J' (p ++ q)) (fun J' => sgn (det J') j (p ++ [v]) q)]
theorem det_row (u : K → Int) : ∀ (J : List K) (R : List (K → Int)), R.length + 1 = J.length → det J (u :: R) = csg (fun J' => det J' R) u [] J
  | [], R, h => by simp at h
  | j :: J, R, h => by
    have e := exch u j J (fun R h => det_row u J R h) R [] (by simp at h ⊢; omega); rw [det, sgn, csg, List.nil_append, List.nil_append, List.nil_append]; rw [List.nil_append, e, csg_cons]; rfl
def sm : Nat → Nat → (Nat → Int) → Int
  | _, 0, _ => 0
  | j, d + 1, f => f j + sm (j + 1) d f
theorem sm_last : ∀ (d j : Nat) (f : Nat → Int), sm j (d + 1) f = sm j d f + f (j + d)
  | 0, j, f => by simp [sm]
  | d + 1, j, f => by
    rw [sm, sm_last d (j + 1) f, sm, show j + 1 + d = j + (d + 1) by omega]; omega
theorem Ji : ∀ (n : Nat) (u v : Nat → Int), dt n u v = sm 0 n fun k => u k * v k
  | 0, _, _ => rfl
  | n + 1, u, v => by rw [sm_last, dt, Ji n u v, Nat.zero_add]
def sgx (j : Nat) : Int := if j % 2 = 0 then 1 else -1
theorem sgx_succ (j : Nat) : sgx (j + 1) = -sgx j := by
  unfold sgx; split <;> split <;> omega
theorem sgx_sq (j : Nat) : sgx j * sgx j = 1 := by
  unfold sgx; split <;> rfl
def but (n c : Nat) : List Nat := List.range' 0 c ++ List.range' (c + 1) (n - c - 1)
theorem UD {n c : Nat} (h : c < n) : (but n c).length = n - 1 := by
  unfold but; rw [List.length_append, List.length_range', List.length_range']; omega
theorem csg_sm (g : List Nat → Int) (u : Nat → Int) (n : Nat) : ∀ (d j : Nat), j + d = n → csg g u (List.range' 0 j) (List.range' j d) = sgx j * sm j d fun i => u i * (sgx i * g (but n i))
  | 0, j, _ => by simp [csg, sm]
  | d + 1, j, h => by
    have e : List.range' 0 j ++ [j] = List.range' 0 (j + 1) := by
      have := List.range'_concat (s := 0) (n := j) (step := 1); rw [this]; simp
    have e2 : List.range' 0 j ++ List.range' (j + 1) d = but n j := by unfold but; rw [show n - j - 1 = d by omega]
    rw [List.range'_succ, csg, e, csg_sm g u n d (j + 1) (by omega), sm, sgx_succ, e2, Int.mul_add]; have := sgx_sq j; rw [show sgx j * (u j * (sgx j * g (but n j))) = sgx j * sgx j * (u j * g (but n j)) by grind, this]; grind
def cof (n : Nat) (I : List (Nat → Int)) (c : Nat) : Int := sgx c * det (but n c) I
theorem cof_dot (n : Nat) (u : Nat → Int) (I : List (Nat → Int)) (h : I.length + 1 = n) : dt n u (cof n I) = det (List.range' 0 n) (u :: I) := by
  rw [det_row u (List.range' 0 n) I (by rw [List.length_range']; exact h), Ji]; have := csg_sm (fun J => det J I) u n n 0 (by omega); rw [show List.range' 0 0 = ([] : List Nat) from rfl] at this; rw [this, show sgx 0 = 1 from rfl, Int.one_mul]; rfl
theorem cof_ker {n : Nat} {S : (Nat → Int) → Prop} (hV : Van n S) {I : List (Nat → Int)} (hI : I.length + 1 = n) (hS : ∀ v ∈ I, S v) : Ker n S (cof n I) := fun r hr => by
  rw [cof_dot n r I hI]; exact hV _ (by rw [List.length_range']) _ (by rw [List.length_cons]; exact hI) (fun v hv => by
    rcases List.mem_cons.1 hv with rfl | hv
    · exact hr
    · exact hS v hv)
def Dq : Nat → Nat
  | 0 => 1
  | n + 1 => (n + 1) * (9 * Dq n)
theorem det_le {K : Type} : ∀ (J : List K) (I : List (K → Int)), I.length = J.length → (∀ v ∈ I, ∀ j ∈ J, (v j).natAbs ≤ 9) → (det J I).natAbs ≤ Dq J.length
  | [], _, _, _ => by rw [det]; exact Nat.le_refl _
  | j :: J, I, hl, hs => by
    have key : ∀ (post pre : List (K → Int)), pre ++ post = I → (sgn (det J) j pre post).natAbs ≤ post.length * (9 * Dq J.length) := by
      intro post; induction post with
      | nil => intro pre _; rw [sgn]; simp
      | cons v post ih =>
        intro pre hp; have h1 := ih (pre ++ [v]) (by simpa using hp); have hsub : ∀ u ∈ pre ++ post, u ∈ I := fun u hu => by rw [← hp]; rcases List.mem_append.1 hu with h | h <;> simp [h]
        have h2 := det_le J (pre ++ post) (by rw [← hp] at hl; simp at hl ⊢; omega) (fun u hu x hx => hs u (hsub u hu) x (List.mem_cons_of_mem _ hx)); have h3 := hs v (by rw [← hp]; simp) j (List.mem_cons_self ..); rw [sgn, List.length_cons]; have h4 : (v j * det J (pre ++ post)).natAbs ≤ 9 * Dq J.length := by
          rw [Int.natAbs_mul]; exact Nat.mul_le_mul h3 h2
        rw [Nat.add_mul, Nat.one_mul]; omega
    have := key I [] rfl; rw [det, List.length_cons, Dq]; rw [hl, List.length_cons] at this; exact this
theorem dq_ok : ∀ n, n ≤ 4 → Dq n ≤ 157464 := by decide +kernel
theorem cof_le {n : Nat} {I : List (Nat → Int)} (hI : I.length + 1 = n) (h4 : n ≤ 5) (hs : ∀ v ∈ I, ∀ j, (v j).natAbs ≤ 9) {c : Nat} (hc : c < n) : (cof n I c).natAbs ≤ 157464 := by
  have h1 := det_le (but n c) I (by rw [UD hc]; omega) (fun v hv j _ => hs v hv j); rw [UD hc] at h1; have h2 := dq_ok (n - 1) (by omega); unfold cof; rw [Int.natAbs_mul]; have : (sgx c).natAbs = 1 := by unfold sgx; split <;> rfl
  rw [this]; omega
theorem inc_ext : ∀ (l r : List Nat), l.Pairwise (· < ·) → r.Pairwise (· < ·) → (∀ x, x ∈ l ↔ x ∈ r) → l = r
  | [], [], _, _, _ => rfl
  | [], b :: r, _, _, h => by have := (h b).2 (List.mem_cons_self ..); simp at this
  | a :: l, [], _, _, h => by have := (h a).1 (List.mem_cons_self ..); simp at this
  | a :: l, b :: r, hl, hr, h => by
    rw [List.pairwise_cons] at hl hr; have e : a = b := by
      have h1 := (h a).1 (List.mem_cons_self ..); have h2 := (h b).2 (List.mem_cons_self ..); rcases List.mem_cons.1 h1 with e | e
      · exact e
      · rcases List.mem_cons.1 h2 with e2 | e2
        · exact e2.symm
        · have := hr.1 a e; have := hl.1 b e2; omega
    subst e; rw [inc_ext l r hl.2 hr.2 (fun x => ?_)]; constructor
    · intro hx; have h1 := hl.1 x hx; rcases List.mem_cons.1 ((h x).1 (List.mem_cons_of_mem _ hx)) with e | e
      · omega
      · exact e
    · intro hx; have h1 := hr.1 x hx; rcases List.mem_cons.1 ((h x).2 (List.mem_cons_of_mem _ hx)) with e | e
      · omega
      · exact e
theorem mem_but {n c x : Nat} (h : c < n) : x ∈ but n c ↔ x < n ∧ x ≠ c := by
  unfold but; rw [List.mem_append, List.mem_range'_1, List.mem_range'_1]; omega
theorem but_inc {n c : Nat} : (but n c).Pairwise (· < ·) := by
  unfold but; rw [List.pairwise_append]; refine ⟨List.pairwise_lt_range', List.pairwise_lt_range', fun a ha b hb => ?_⟩; rw [List.mem_range'_1] at ha hb; omega
theorem sm_shift : ∀ (d j : Nat) (f : Nat → Int), sm (j + 1) d f = sm j d fun k => f (k + 1)
  | 0, _, _ => rfl
  | d + 1, j, f => by rw [sm, sm, sm_shift d (j + 1) f]
theorem dt_front (n : Nat) (u v : Nat → Int) : dt (n + 1) u v = u 0 * v 0 + dt n (fun k => u (k + 1)) fun k => v (k + 1) := by
  rw [Ji, Ji, sm, sm_shift]
def ext : List Nat → (Nat → Int) → Nat → Int
  | [], _, _ => 0
  | b :: B, w, j => if j = b then w 0 else ext B (fun k => w (k + 1)) j
def rst (B : List Nat) (v : Nat → Int) : Nat → Int := fun k => v (B.getD k 0)
theorem YR : ∀ (B : List Nat) (w : Nat → Int) (j : Nat), j ∉ B → ext B w j = 0
  | [], _, _, _ => rfl
  | b :: B, w, j, h => by
    rw [ext, if_neg (fun e => h (by rw [e]; exact List.mem_cons_self ..))]; exact YR B _ j (fun hh => h (List.mem_cons_of_mem _ hh))
theorem Vv : ∀ (B : List Nat) (w : Nat → Int) (k : Nat), B.Nodup → k < B.length → ext B w (B.getD k 0) = w k
  | [], _, k, _, h => by simp at h
  | b :: B, w, 0, _, _ => by rw [ext, List.getD_cons_zero, if_pos rfl]
  | b :: B, w, k + 1, hn, h => by
    rw [List.nodup_cons] at hn; have hk : k < B.length := by simpa using h
    have hm : B.getD k 0 ∈ B := by
      rw [List.getD_eq_getElem?_getD, List.getElem?_eq_getElem hk]; exact List.getElem_mem hk
    have hne : ¬ B.getD k 0 = b := fun e => hn.1 (e ▸ hm)
    rw [List.getD_cons_succ, ext, if_neg hne, Vv B _ k hn.2 hk]
theorem ext_rst {B : List Nat} (hB : B.Nodup) {v : Nat → Int} {j : Nat} (h : v j ≠ 0 → j ∈ B) : ext B (rst B v) j = v j := by
  by_cases c : j ∈ B
  · obtain ⟨k, hk, rfl⟩ := List.getElem_of_mem c; have e : B.getD k 0 = B[k] := by rw [List.getD_eq_getElem?_getD, List.getElem?_eq_getElem hk]; rfl
    rw [← e, Vv B _ k hB hk]; rfl
  · rw [YR B _ j c]; by_cases c2 : v j = 0
    · exact c2.symm
    · exact absurd (h c2) c
theorem dt_ext (n : Nat) (r : Nat → Int) : ∀ (B : List Nat) (w : Nat → Int), B.Nodup → (∀ b ∈ B, b < n) → dt n r (ext B w) = dt B.length (rst B r) w
  | [], w, _, _ => Y2 n r _ (fun j _ => by rw [ext]; simp)
  | b :: B, w, hn, hb => by
    rw [List.nodup_cons] at hn; have ih := dt_ext n r B (fun k => w (k + 1)) hn.2 (fun x hx => hb x (List.mem_cons_of_mem _ hx)); have e : dt n r (ext (b :: B) w) = dt n r (comb 1 (unt b (w 0)) 1 (ext B fun k => w (k + 1))) := YS n (fun _ _ => rfl) (fun j _ => by
      rw [ext]; show _ = 1 * (if j = b then w 0 else 0) + 1 * ext B (fun k => w (k + 1)) j
      by_cases c : j = b
      · rw [if_pos c, if_pos c, YR B _ j (fun hh => hn.1 (c ▸ hh))]; omega
      · rw [if_neg c, if_neg c]; omega)
    have e2 : dt n r (unt b (w 0)) = r b * w 0 := by
      rw [VG n r (unt b (w 0)) b (hb b (List.mem_cons_self ..)) (fun j _ hj => by rw [unt, if_neg hj]; simp), unt, if_pos rfl]
    rw [e, VF, e2, ih, List.length_cons, dt_front]; show _ = r b * w 0 + _
    rw [Int.one_mul, Int.one_mul]; rfl
theorem dt_rst {n : Nat} {B : List Nat} (hB : B.Nodup) (hb : ∀ b ∈ B, b < n) (r : Nat → Int) {v : Nat → Int} (hv : ∀ j, j < n → v j ≠ 0 → j ∈ B) : dt n r v = dt B.length (rst B r) (rst B v) := by
  rw [← dt_ext n r B _ hB hb]; exact YS n (fun _ _ => rfl) (fun j hj => (ext_rst hB (hv j hj)).symm)
end Go.Proofs.Det
end
section
namespace Go.Proofs.Ytdneelgnmnpanaa.P
open Go.RowKit Go.Proofs.YtdneelgnmnpanaaW.PrintWords Go.Proofs.Det
theorem Vu : ∀ (m : List Int) (d : Nat), ((m.foldl (fun d n => Int.gcd d n) d : Nat) : Int) ∣ (d : Int) ∧ ∀ x ∈ m, ((m.foldl (fun d n => Int.gcd d n) d : Nat) : Int) ∣ x
  | [], d => ⟨Int.dvd_refl _, fun x hx => absurd hx (by simp)⟩
  | y :: m, d => by
    obtain ⟨h1, h2⟩ := Vu m (Int.gcd d y); rw [List.foldl_cons]; refine ⟨Int.dvd_trans h1 (Int.gcd_dvd_left ..), fun x hx => ?_⟩; rcases List.mem_cons.1 hx with rfl | hx
    · exact Int.dvd_trans h1 (Int.gcd_dvd_right ..)
    · exact h2 x hx
theorem ZV {l : List Int} {j : Nat} (h : l.length ≤ j) : l.getD j 0 = 0 := by
  rw [List.getD_eq_getElem?_getD, List.getElem?_eq_none h]; rfl
theorem getD_some {l : List Int} {j : Nat} (h : j < l.length) : l.getD j 0 = l[j] := by
  rw [List.getD_eq_getElem?_getD, List.getElem?_eq_getElem h]; rfl
theorem Jb (m : List Int) : ∃ g : Int, g ≠ 0 ∧ ∀ j, m.getD j 0 = g * (pln m).getD j 0 ∧ ((pln m).getD j 0).natAbs ≤ (m.getD j 0).natAbs := by
  unfold pln; by_cases h : 1 < gc m
  · rw [if_pos h]; refine ⟨(gc m : Int), by omega, fun j => ?_⟩; by_cases hj : j < m.length
    · rw [getD_some hj, getD_some (by simpa using hj), List.getElem_map]; have hd : (gc m : Int) ∣ m[j] := (Vu m 0).2 _ (List.getElem_mem hj); have he : (gc m : Int) * (m[j].tdiv (gc m : Int)) = m[j] := Int.mul_tdiv_cancel' hd; refine ⟨he.symm, ?_⟩; generalize m[j].tdiv (gc m : Int) = y at *; rw [← he, Int.natAbs_mul, Int.natAbs_natCast]; exact Nat.le_mul_of_pos_left _ (by omega)
    · rw [ZV (by omega), ZV (by simp; omega)]; simp
  · rw [if_neg h]; exact ⟨1, by omega, fun j => ⟨by omega, Nat.le_refl _⟩⟩
def upd (i : Nat) (t r : List Int) : List Int := if r.getD i 0 = 0 then r else pln (cmb (t.getD i 0) (r.getD i 0) r t)
theorem Jk (p q : Int) {r t : List Int} (h : r.length = t.length) (j : Nat) : (cmb p q r t).getD j 0 = r.getD j 0 * p - t.getD j 0 * q := by
  by_cases hj : j < r.length
  · rw [getD_some hj, getD_some (show j < t.length by omega), getD_some (by rw [Y4 _ _ _ _ h]; exact hj)]; simp only [cmb, List.getElem_zipWith]
  · rw [ZV (l := cmb p q r t) (by rw [Y4 _ _ _ _ h]; omega), ZV (l := r) (by omega), ZV (l := t) (by omega)]; omega
theorem upd_length (i : Nat) {t r : List Int} (h : r.length = t.length) : (upd i t r).length = r.length := by
  unfold upd; split
  · rfl
  · rw [YM, Y4 _ _ _ _ h]
theorem upd_spec (i : Nat) {t r : List Int} (h : r.length = t.length) (ht : t.getD i 0 ≠ 0) : ∃ g p q : Int, g ≠ 0 ∧ p ≠ 0 ∧ (∀ j, p * r.getD j 0 + (-q) * t.getD j 0 = g * (upd i t r).getD j 0) ∧ (upd i t r).getD i 0 = 0 := by
  unfold upd; by_cases c : r.getD i 0 = 0
  · rw [if_pos c]; exact ⟨1, 1, 0, by omega, by omega, fun j => by simp, c⟩
  · rw [if_neg c]; obtain ⟨g, hg, hj⟩ := Jb (cmb (t.getD i 0) (r.getD i 0) r t); refine ⟨g, t.getD i 0, r.getD i 0, hg, ht, fun j => ?_, ?_⟩
    · rw [← (hj j).1, Jk _ _ h, Int.neg_mul, Int.mul_comm (t.getD i 0), Int.mul_comm (r.getD i 0) (t.getD j 0)]; omega
    · have h1 := (hj i).1; rw [Jk _ _ h, Int.mul_comm (t.getD i 0), Int.sub_self] at h1; rcases Int.mul_eq_zero.1 h1.symm with h2 | h2
      · exact absurd h2 hg
      · exact h2
theorem nmul {x y : Int} {A B : Nat} (hx : x.natAbs ≤ A) (hy : y.natAbs ≤ B) : (x * y).natAbs ≤ A * B := by
  rw [Int.natAbs_mul]; exact Nat.mul_le_mul hx hy
theorem upd_bd (i : Nat) {t r : List Int} (h : r.length = t.length) (B : Nat) (h1 : ∀ j, (r.getD j 0).natAbs ≤ B) (h2 : ∀ j, (t.getD j 0).natAbs ≤ B) (hB : 1 ≤ B) : ∀ j, ((upd i t r).getD j 0).natAbs ≤ 2 * (B * B) := by
  intro j; unfold upd; have hb : B ≤ B * B := Nat.le_mul_of_pos_left _ hB; by_cases c : r.getD i 0 = 0
  · rw [if_pos c]; have := h1 j; omega
  · rw [if_neg c]; obtain ⟨g, hg, hj⟩ := Jb (cmb (t.getD i 0) (r.getD i 0) r t); have a := (hj j).2; rw [Jk _ _ h] at a; have b := nmul (h1 j) (h2 i); have d := nmul (h2 j) (h1 i); omega
def Sgd (s : Nat → Int) (r : List Int) : Prop := ∃ g : Int, (g = 1 ∨ g = -1) ∧ ∀ j, 0 ≤ g * (s j * r.getD j 0)
theorem upd_bd1 (i : Nat) {t r : List Int} (h : r.length = t.length) (B : Nat) (h1 : ∀ j, (r.getD j 0).natAbs ≤ B) (h2 : ∀ j, (t.getD j 0).natAbs ≤ B) (hB : 1 ≤ B) (s : Nat → Int) (hs : ∀ j, s j = 1 ∨ s j = -1) (hr : Sgd s r) (ht : Sgd s t) : ∀ j, ((upd i t r).getD j 0).natAbs ≤ B * B := by
  intro j; unfold upd; have hb : B ≤ B * B := Nat.le_mul_of_pos_left _ hB; by_cases c : r.getD i 0 = 0
  · rw [if_pos c]; have := h1 j; omega
  · rw [if_neg c]; obtain ⟨g, hg, hj⟩ := Jb (cmb (t.getD i 0) (r.getD i 0) r t); have a := (hj j).2; rw [Jk _ _ h] at a; have b := nmul (h1 j) (h2 i); have d := nmul (h2 j) (h1 i); obtain ⟨x, hx, hr⟩ := hr; obtain ⟨y, hy, ht⟩ := ht; have e := Int.mul_nonneg (hr j) (ht i); have f := Int.mul_nonneg (ht j) (hr i); have mm : ∀ p q a b c d : Int, p * (a * b) * (q * (c * d)) = p * q * (a * c) * (b * d) := by intros; grind
    rw [mm] at e f; rw [Int.mul_comm y x] at f; generalize r.getD j 0 * t.getD i 0 = X at *; generalize t.getD j 0 * r.getD i 0 = Y at *; have : x * y * (s j * s i) = 1 ∨ x * y * (s j * s i) = -1 := by rcases hs j with a | a <;> rcases hs i with b | b <;> rcases hx with c | c <;> rcases hy with d | d <;> rw [a, b, c, d] <;> decide
    rcases this with x | x <;> rw [x] at e f <;> omega
theorem UA : ∀ (m : List Int) (d : Nat) (c : Int), c ∣ (d : Int) → (∀ x ∈ m, c ∣ x) → c ∣ ((m.foldl (fun d n => Int.gcd d n) d : Nat) : Int)
  | [], _, _, h, _ => h
  | y :: m, d, c, h, hm => by
    rw [List.foldl_cons]; exact UA m _ c (Int.dvd_coe_gcd h (hm y (List.mem_cons_self ..))) (fun x hx => hm x (List.mem_cons_of_mem _ hx))
theorem gc_pln (m : List Int) : gc (pln m) ≤ 1 := by
  unfold pln; by_cases h : 1 < gc m
  · rw [if_pos h]; have h1 : ((gc (m.map (·.tdiv (gc m))) : Nat) : Int) * (gc m : Int) ∣ (gc m : Int) := UA m 0 _ (by simp) (fun x hx => by
      have hd : (gc m : Int) ∣ x := (Vu m 0).2 x hx; have h2 := (Vu (m.map (·.tdiv (gc m))) 0).2 (x.tdiv (gc m)) (List.mem_map.2 ⟨x, hx, rfl⟩); have h3 := Int.mul_dvd_mul_right (gc m : Int) h2; rw [Int.tdiv_mul_cancel hd] at h3; exact h3)
    rw [← Int.natCast_mul, Int.natCast_dvd_natCast] at h1; have := Nat.le_of_dvd (by omega) h1; by_cases c : gc (m.map (·.tdiv (gc m))) ≤ 1
    · exact c
    · have h4 : 2 * gc m ≤ gc (m.map (·.tdiv (gc m))) * gc m := Nat.mul_le_mul_right _ (by omega); omega
  · rw [if_neg h]; omega
theorem Vt (M : List (List Int)) (j : Nat) (r : List Int) (k : Nat) (hj : j < M.length) : lineAt (M.set j r) k = if k = j then r else lineAt M k := by
  unfold lineAt; rw [List.getD_eq_getElem?_getD, List.getElem?_set, List.getD_eq_getElem?_getD]; by_cases h : j = k
  · subst h; rw [if_pos rfl, if_pos rfl, if_pos hj]; rfl
  · rw [if_neg h, if_neg (fun e => h e.symm)]
theorem Z0 (M : List (List Int)) (k : Nat) (h : M.length ≤ k) : lineAt M k = [] := by
  unfold lineAt; rw [List.getD_eq_getElem?_getD, List.getElem?_eq_none h]; rfl
theorem Uz (i top : Nat) : ∀ (d j : Nat) (M : List (List Int)), j + d ≤ M.length → (∀ k, j ≤ k → k < j + d → k ≠ top → (lineAt M k).getD i 0 ≠ 0 → Okc ((lineAt M top).getD i 0) ((lineAt M k).getD i 0) (lineAt M k) (lineAt M top)) →
    ∃ M', elims i top d j M = some M' ∧ M'.length = M.length ∧ ∀ k, lineAt M' k = if j ≤ k ∧ k < j + d ∧ k ≠ top then upd i (lineAt M top) (lineAt M k) else lineAt M k
  | 0, j, M, _, _ => ⟨M, rfl, rfl, fun k => by rw [if_neg (by omega)]⟩
  | d + 1, j, M, hl, hok => by
    have h1 : elim i top j M = some (M.set j (if j = top then lineAt M j else upd i (lineAt M top) (lineAt M j))) := by
      have hself : M.set j (lineAt M j) = M := by
        rw [Z2 M j (by omega)]; exact List.set_getElem_self _
      unfold elim; by_cases c : j = top
      · rw [if_pos (.inl c), if_pos c, hself]
      · rw [if_neg c]; unfold upd; by_cases c2 : (lineAt M j).getD i 0 = 0
        · rw [if_pos (.inr c2), if_pos c2, hself]
        · rw [if_neg (by rintro (h | h); exact c h; exact c2 h), if_neg c2, if_pos (hok j (Nat.le_refl _) (by omega) c c2)]
    have hst : ∀ k, lineAt (M.set j (if j = top then lineAt M j else upd i (lineAt M top) (lineAt M j))) k = if k = j ∧ k ≠ top then upd i (lineAt M top) (lineAt M k) else lineAt M k := fun k => by
      rw [Vt M j _ k (by omega)]; by_cases c : k = j
      · subst c; rw [if_pos rfl]; by_cases c2 : k = top
        · rw [if_pos c2, if_neg (fun h => h.2 c2)]
        · rw [if_neg c2, if_pos ⟨rfl, c2⟩]
      · rw [if_neg c, if_neg (fun h => c h.1)]
    obtain ⟨M', e, l, hk⟩ := Uz i top d (j + 1) (M.set j (if j = top then lineAt M j else upd i (lineAt M top) (lineAt M j))) (by rw [List.length_set]; omega) (fun k h2 h3 h4 h5 => by
      rw [hst top, if_neg (fun h => h.2 rfl), hst k, if_neg (by omega)]; rw [hst k, if_neg (by omega)] at h5; exact hok k (by omega) (by omega) h4 h5)
    refine ⟨M', by rw [elims, h1]; exact e, by rw [l, List.length_set], fun k => ?_⟩; have htop : lineAt (M.set j (if j = top then lineAt M j else upd i (lineAt M top) (lineAt M j))) top = lineAt M top := by rw [hst top, if_neg (fun h => h.2 rfl)]
    rw [hk k, htop, hst k]; by_cases c : j + 1 ≤ k ∧ k < j + 1 + d ∧ k ≠ top
    · rw [if_pos c, if_neg (by omega), if_pos (by omega)]
    · rw [if_neg c]; by_cases c2 : k = j ∧ k ≠ top
      · rw [if_pos c2, if_pos (by omega)]
      · rw [if_neg c2, if_neg (by omega)]
theorem fst_neg (i : Nat) : ∀ (rows : List (List Int)), fst i rows < 0 → ∀ k, (lineAt rows k).getD i 0 = 0
  | [], _, k => by rw [Z0 _ _ (by simp)]; rfl
  | r :: l, h, k => by
    rw [fst] at h; by_cases c : r.getD i 0 = 0
    · rw [if_neg (fun hh => hh c)] at h; cases k with
      | zero => exact c
      | succ k =>
        refine fst_neg i l ?_ k; by_cases c2 : fst i l < 0
        · exact c2
        · rw [if_neg c2] at h; omega
    · rw [if_pos c] at h; omega
theorem fst_pos (i : Nat) : ∀ (rows : List (List Int)), ¬ fst i rows < 0 → (lineAt rows (fst i rows).toNat).getD i 0 ≠ 0
  | [], h => absurd (show fst i [] < 0 by simp [fst]) h
  | r :: l, h => by
    rw [fst] at h ⊢; by_cases c : r.getD i 0 = 0
    · rw [if_neg (fun hh => hh c)] at h ⊢; by_cases c2 : fst i l < 0
      · rw [if_pos c2] at h; omega
      · rw [if_neg c2]; have := fst_pos i l c2; rw [show (fst i l + 1).toNat = (fst i l).toNat + 1 by omega]; exact this
    · rw [if_pos c]; exact c
def Bn : Nat → Nat
  | 0 => 9
  | 1 => 81
  | n + 2 => 2 * (Bn (n + 1) * Bn (n + 1))
theorem bn_ok : ∀ p, p ≤ 3 → Bn p * Bn p ≤ 2305843009213693952 := by decide +kernel
theorem bn_pos : ∀ p, p ≤ 3 → 1 ≤ Bn p := by decide +kernel
def fn (r : List Int) : Nat → Int := fun j => r.getD j 0
def Sp (M : List (List Int)) (v : Nat → Int) : Prop := ∃ b, v = fn (lineAt M b)
structure Inv (s : Nat → Int) (M0 : List (List Int)) (n : Nat) (M : List (List Int)) (Q : List Nat) : Prop where
  len : M.length = M0.length
  six : Six M
  ql : Q.length ≤ M.length
  inc : Q.Pairwise (· < ·)
  lt : ∀ q ∈ Q, q < n
  piv : ∀ a c : Nat, Q[a]? = some c → (lineAt M a).getD c 0 ≠ 0
  zer : ∀ a c : Nat, Q[a]? = some c → ∀ b, b ≠ a → (lineAt M b).getD c 0 = 0
  low : ∀ b, Q.length ≤ b → ∀ c, c < n → (lineAt M b).getD c 0 = 0
  bd : ∀ b j, ((lineAt M b).getD j 0).natAbs ≤ Bn Q.length
  sg : Q.length = 0 → ∀ b, Sgd s (lineAt M b)
  pr : ∀ b, (∀ j, ((lineAt M b).getD j 0).natAbs ≤ 9) ∨ gc (lineAt M b) ≤ 1
  g1 : ∀ b, Gen (Sp M0) (fn (lineAt M b))
  g2 : ∀ b, Gen (Sp M) (fn (lineAt M0 b))
theorem V0 (M : List (List Int)) (p k : Nat) : lineAt (M.drop p) k = lineAt M (p + k) := by
  unfold lineAt; rw [List.getD_eq_getElem?_getD, List.getElem?_drop, List.getD_eq_getElem?_getD]
theorem app_at (Q : List Nat) (n a c : Nat) (h : (Q ++ [n])[a]? = some c) : (a < Q.length ∧ Q[a]? = some c) ∨ (a = Q.length ∧ c = n) := by
  by_cases ha : a < Q.length
  · rw [List.getElem?_append_left ha] at h; exact .inl ⟨ha, h⟩
  · rw [List.getElem?_append_right (by omega)] at h; by_cases h0 : a - Q.length = 0
    · rw [h0] at h; exact .inr ⟨by omega, by simpa using h.symm⟩
    · rw [List.getElem?_eq_none (by simp; omega)] at h; cases h
theorem bd_mem {r : List Int} {B : Nat} (h : ∀ j, (r.getD j 0).natAbs ≤ B) : ∀ a ∈ r, a.natAbs ≤ B := fun a ha => by
  obtain ⟨i, hi, rfl⟩ := List.mem_iff_getElem.1 ha; have := h i; rw [getD_some hi] at this; exact this
theorem line6 {M : List (List Int)} (h : Six M) (k : Nat) (hk : k < M.length) : (lineAt M k).length = 6 := by
  rw [Z2 M k hk]; exact h _ (List.getElem_mem hk)
theorem gen_upd {S : (Nat → Int) → Prop} {r t u : List Int} {g p q : Int} (hg : g ≠ 0) (hj : ∀ j, p * r.getD j 0 + (-q) * t.getD j 0 = g * u.getD j 0) (hr : Gen S (fn r)) (ht : Gen S (fn t)) : Gen S (fn u) :=
  .quot g hg (.comb p (-q) hr ht) (fun j => hj j)
theorem gen_dn {S : (Nat → Int) → Prop} {r t u : List Int} {g p q : Int} (hp : p ≠ 0) (hj : ∀ j, p * r.getD j 0 + (-q) * t.getD j 0 = g * u.getD j 0) (hu : Gen S (fn u)) (ht : Gen S (fn t)) : Gen S (fn r) :=
  .quot p hp (.comb g q hu ht) (fun j => by
    have := hj j; rw [Int.neg_mul] at this; show g * u.getD j 0 + q * t.getD j 0 = p * r.getD j 0
    omega)
def Four (M0 : List (List Int)) : Prop := M0.length ≤ 4 ∨ ∀ b j, 4 ≤ j → (lineAt M0 b).getD j 0 = 0
theorem Inv.col {s : Nat → Int} {M0 : List (List Int)} {n : Nat} {M : List (List Int)} {Q : List Nat} (h : Inv s M0 n M Q) {j : Nat} (hj : ∀ b, (lineAt M0 b).getD j 0 = 0) (b : Nat) : (lineAt M b).getD j 0 = 0 :=
  Uv (fun v => v j) (fun a u b v => rfl) (fun v hv => by obtain ⟨b, rfl⟩ := hv; exact hj b) (h.g1 b)
theorem Inv.Jf {s : Nat → Int} {M0 : List (List Int)} {n : Nat} {M : List (List Int)} {Q : List Nat} (h : Inv s M0 n M Q) : Q.length ≤ n := YN n Q (h.inc.imp (fun h => by omega)) h.lt
theorem step_inv {s : Nat → Int} (hs : ∀ j, s j = 1 ∨ s j = -1) {M0 : List (List Int)} (h4 : Four M0) {n : Nat} {M : List (List Int)} {Q : List Nat} (h : Inv s M0 n M Q) :
    ∃ M' Q', stepc n M (Q.map (fun x : Nat => (x : Int))) = some (M', Q'.map (fun x : Nat => (x : Int))) ∧ Inv s M0 (n + 1) M' Q' := by
  unfold stepc; rw [List.length_map]; by_cases c : fst n (M.drop Q.length) < 0
  · rw [if_pos c]; refine ⟨M, Q, rfl, ⟨h.len, h.six, h.ql, h.inc, fun q hq => Nat.lt_succ_of_lt (h.lt q hq), h.piv, h.zer, fun b hb x hx => ?_, h.bd, h.sg, h.pr, h.g1, h.g2⟩⟩; by_cases hx2 : x < n
    · exact h.low b hb x hx2
    · have := fst_neg n _ c (b - Q.length); rw [V0, show Q.length + (b - Q.length) = b by omega] at this; rw [show x = n by omega]; exact this
  · rw [if_neg c]; have hq := fst_pos n _ c; have hlt := fst_lt n (M.drop Q.length); rw [List.length_drop] at hlt; rw [V0] at hq; generalize (fst n (M.drop Q.length)).toNat = q at *; have hpq : Q.length + q < M.length := by
      by_cases hh : Q.length + q < M.length
      · exact hh
      · rw [Z0 M _ (by omega)] at hq; exact absurd (ZV (by simp)) hq
    clear hlt c; have hm := h.len; have hk1 : ∀ k, lineAt (swp M Q.length (Q.length + q)) k = if k = Q.length + q then lineAt M Q.length else if k = Q.length then lineAt M (Q.length + q) else lineAt M k := fun k => by
      unfold swp; rw [Vt _ _ _ k (by rw [List.length_set]; exact hpq), Vt _ _ _ k (by omega)]
    have htop : lineAt (swp M Q.length (Q.length + q)) Q.length = lineAt M (Q.length + q) := by
      rw [hk1]; by_cases h0 : Q.length = Q.length + q
      · rw [if_pos h0, ← h0]
      · rw [if_neg h0, if_pos rfl]
    have hrow : ∀ k, k < M.length → k ≠ Q.length → ∃ k', k' < M.length ∧ lineAt (swp M Q.length (Q.length + q)) k = lineAt M k' ∧ (k < Q.length → k' = k) ∧ (Q.length ≤ k → Q.length ≤ k') ∧ (∀ a, a < Q.length → k ≠ a → k' ≠ a) := fun k hk hkp => by
      rw [hk1]; by_cases h0 : k = Q.length + q
      · rw [if_pos h0]; exact ⟨Q.length, by omega, rfl, by omega, by omega, by omega⟩
      · rw [if_neg h0, if_neg hkp]; exact ⟨k, hk, rfl, fun _ => rfl, fun x => x, fun a _ x => x⟩
    have hQ3 : Q.length ≤ 3 := by
      rcases h4 with h4 | h4
      · omega
      · by_cases c : 4 ≤ n
        · exact absurd (h.col (fun b => h4 b n c) _) hq
        · have := h.Jf; omega
    have hB := bn_ok Q.length (by omega); have hB1 := bn_pos Q.length (by omega); have ht6 := line6 h.six _ hpq; obtain ⟨M', e, l, hk⟩ := Uz n Q.length M.length 0 (swp M Q.length (Q.length + q)) (by rw [Y0]; omega) (fun k _ h2 h3 _ => by
      obtain ⟨k', _, hk', _⟩ := hrow k (by omega) h3; rw [htop, hk']; constructor
      · intro a ha; have := nmul (bd_mem (h.bd k') a ha) (h.bd (Q.length + q) n); omega
      · intro a ha; have := nmul (bd_mem (h.bd (Q.length + q)) a ha) (h.bd k' n); omega)
    rw [Y0] at l; have hp' : lineAt M' Q.length = lineAt M (Q.length + q) := by rw [hk, if_neg (by omega), htop]
    have hn' : ∀ k, M.length ≤ k → lineAt M' k = [] := fun k hk' => Z0 _ _ (by omega)
    have hu' : ∀ k, k < M.length → k ≠ Q.length → lineAt M' k = upd n (lineAt M (Q.length + q)) (lineAt (swp M Q.length (Q.length + q)) k) := fun k h1 h2 => by rw [hk, if_pos (by omega), htop]
    refine ⟨M', Q ++ [n], by rw [e, List.map_append]; rfl, ?_⟩; have tz : ∀ a x : Nat, Q[a]? = some x → (lineAt M (Q.length + q)).getD x 0 = 0 := fun a x hx => by
      obtain ⟨ha, -⟩ := List.getElem?_eq_some_iff.1 hx; exact h.zer a x hx _ (by omega)
    have key : ∀ k, k < M.length → k ≠ Q.length → ∃ k', k' < M.length ∧ (k < Q.length → k' = k) ∧ (Q.length ≤ k → Q.length ≤ k') ∧ (∀ a, a < Q.length → k ≠ a → k' ≠ a) ∧ lineAt (swp M Q.length (Q.length + q)) k = lineAt M k' ∧ lineAt M' k = upd n (lineAt M (Q.length + q)) (lineAt M k') ∧ ∃ g p r : Int, g ≠ 0 ∧ p ≠ 0 ∧ (∀ j, p * (lineAt M k').getD j 0 + (-r) * (lineAt M (Q.length + q)).getD j 0 = g * (lineAt M' k).getD j 0) ∧ (lineAt M' k).getD n 0 = 0 := fun k h1 h2 => by
      obtain ⟨k', a1, a2, a3, a4, a5⟩ := hrow k h1 h2; have hu := hu' k h1 h2; rw [a2] at hu; obtain ⟨g, p, r, b1, b2, b3, b4⟩ := upd_spec n (t := lineAt M (Q.length + q)) (r := lineAt M k') (by rw [ht6, line6 h.six _ a1]) hq; rw [← hu] at b3 b4; exact ⟨k', a1, a3, a4, a5, a2, hu, g, p, r, b1, b2, b3, b4⟩
    have hz0 : ∀ {g y : Int}, g ≠ 0 → 0 = g * y → y = 0 := fun hg hy => by
      rcases Int.mul_eq_zero.1 hy.symm with h2 | h2
      · exact absurd h2 hg
      · exact h2
    have lenQ : (Q ++ [n]).length = Q.length + 1 := by simp
    refine ⟨by omega, ?_, by rw [lenQ]; omega, ?_, ?_, ?_, ?_, ?_, ?_, by rw [lenQ]; omega, ?_, ?_, ?_⟩
    · intro r hr; obtain ⟨k, hkl, rfl⟩ := List.mem_iff_getElem.1 hr; rw [← Z2 M' k hkl]; by_cases hkp : k = Q.length
      · rw [hkp, hp', ht6]
      · obtain ⟨k', a1, -, -, -, -, a6, -⟩ := key k (by omega) hkp; rw [a6, upd_length _ (by rw [ht6, line6 h.six _ a1]), line6 h.six _ a1]
    · rw [List.pairwise_append]; exact ⟨h.inc, by simp, fun a ha b hb => by rw [List.mem_singleton.1 hb]; exact h.lt a ha⟩
    · intro x hx; rcases List.mem_append.1 hx with hx | hx
      · exact Nat.lt_succ_of_lt (h.lt x hx)
      · rw [List.mem_singleton.1 hx]; omega
    · intro a x hx; rcases app_at _ _ _ _ hx with ⟨ha, hx⟩ | ⟨rfl, rfl⟩
      · obtain ⟨k', a1, a3, a4, a5, a2, a6, g, p, r, b1, b2, b3, b4⟩ := key a (by omega) (by omega); intro h0; have := b3 x; rw [tz a x hx, h0, Int.mul_zero, Int.mul_zero, Int.add_zero, a3 ha] at this; exact h.piv a x hx (hz0 b2 this.symm)
      · rw [hp']; exact hq
    · intro a x hx b hb; by_cases hbl : b < M.length
      · rcases app_at _ _ _ _ hx with ⟨ha, hx⟩ | ⟨rfl, rfl⟩
        · by_cases hbp : b = Q.length
          · rw [hbp, hp']; exact tz a x hx
          · obtain ⟨k', a1, a3, a4, a5, a2, a6, g, p, r, b1, b2, b3, b4⟩ := key b hbl hbp; have := b3 x; rw [tz a x hx, h.zer a x hx k' (a5 a ha hb), Int.mul_zero, Int.mul_zero, Int.add_zero] at this; exact hz0 b1 this
        · obtain ⟨k', a1, a3, a4, a5, a2, a6, g, p, r, b1, b2, b3, b4⟩ := key b hbl hb; exact b4
      · rw [hn' b (by omega)]; exact ZV (by simp)
    · intro b hb x hx; rw [lenQ] at hb; by_cases hbl : b < M.length
      · obtain ⟨k', a1, a3, a4, a5, a2, a6, g, p, r, b1, b2, b3, b4⟩ := key b hbl (by omega); by_cases hxn : x < n
        · have := b3 x; rw [h.low k' (a4 (by omega)) x hxn, h.low _ (by omega) x hxn, Int.mul_zero, Int.mul_zero, Int.add_zero] at this; exact hz0 b1 this
        · rw [show x = n by omega]; exact b4
      · rw [hn' b (by omega)]; exact ZV (by simp)
    · intro b j; rw [lenQ]; have hmono : Bn Q.length ≤ Bn (Q.length + 1) := by
        cases hQ : Q.length with
        | zero => decide
        | succ p =>
          have hb0 := bn_pos (p + 1) (by omega); have : Bn (p + 1) ≤ Bn (p + 1) * Bn (p + 1) := Nat.le_mul_of_pos_left _ hb0; show Bn (p + 1) ≤ 2 * (Bn (p + 1) * Bn (p + 1))
          omega
      by_cases hbl : b < M.length
      · by_cases hbp : b = Q.length
        · rw [hbp, hp']; exact Nat.le_trans (h.bd _ _) hmono
        · obtain ⟨k', a1, a3, a4, a5, a2, a6, -⟩ := key b hbl hbp; rw [a6]; have hl : (lineAt M k').length = (lineAt M (Q.length + q)).length := by rw [ht6, line6 h.six _ a1]
          cases hQ : Q.length with
          | zero =>
            have h1 := h.bd k'; have h2 := h.bd (Q.length + q); have hb9 : Bn Q.length = 9 := by rw [hQ]; rfl
            rw [hb9] at h1 h2; have := upd_bd1 n hl 9 h1 h2 (by omega) s hs (h.sg hQ k') (h.sg hQ _) j; rw [hQ] at this; exact this
          | succ p =>
            have h1 := h.bd k'; have h2 := h.bd (Q.length + q); have := upd_bd n hl (Bn Q.length) h1 h2 hB1 j; rw [hQ] at this; exact this
      · rw [hn' b (by omega)]; simp
    · intro b; by_cases hbl : b < M.length
      · by_cases hbp : b = Q.length
        · rw [hbp, hp']; exact h.pr _
        · obtain ⟨k', a1, a3, a4, a5, a2, a6, -⟩ := key b hbl hbp; rw [a6]; unfold upd; split
          · exact h.pr _
          · exact .inr (gc_pln _)
      · rw [hn' b (by omega)]; exact .inl (by simp)
    · intro b; by_cases hbl : b < M.length
      · by_cases hbp : b = Q.length
        · rw [hbp, hp']; exact h.g1 _
        · obtain ⟨k', a1, a3, a4, a5, a2, a6, g, p, r, b1, b2, b3, b4⟩ := key b hbl hbp; exact gen_upd b1 b3 (h.g1 k') (h.g1 _)
      · rw [hn' b (by omega)]; exact .zero
    · intro b; refine U3 (fun v hv => ?_) (h.g2 b); obtain ⟨k, rfl⟩ := hv; have ht : Gen (Sp M') (fn (lineAt M (Q.length + q))) := .base ⟨Q.length, by rw [hp']⟩; have hk2 : ∀ k, k < M.length → k ≠ Q.length → Gen (Sp M') (fn (lineAt (swp M Q.length (Q.length + q)) k)) := fun k hkl hkp => by
        obtain ⟨k', a1, a3, a4, a5, a2, a6, g, p, r, b1, b2, b3, b4⟩ := key k hkl hkp; rw [a2]; exact gen_dn b2 b3 (.base ⟨k, rfl⟩) ht
      by_cases hkl : k < M.length
      · by_cases e1 : k = Q.length + q
        · rw [e1]; exact ht
        · by_cases e2 : k = Q.length
          · have := hk2 (Q.length + q) hpq (by omega); rw [hk1, if_pos rfl] at this; rw [e2]; exact this
          · have := hk2 k hkl e2; rw [hk1, if_neg e1, if_neg e2] at this; exact this
      · rw [Z0 M k (by omega)]; exact .zero
theorem redc_inv {s : Nat → Int} (hs : ∀ j, s j = 1 ∨ s j = -1) {M0 : List (List Int)} (h4 : Four M0) : ∀ (d n : Nat) (M : List (List Int)) (Q : List Nat), Inv s M0 n M Q →
    ∃ M' Q', redc d n M (Q.map (fun x : Nat => (x : Int))) = some (M', Q'.map (fun x : Nat => (x : Int))) ∧ Inv s M0 (n + d) M' Q'
  | 0, n, M, Q, h => ⟨M, Q, rfl, h⟩
  | d + 1, n, M, Q, h => by
    obtain ⟨M1, Q1, e1, h1⟩ := step_inv hs h4 h; obtain ⟨M2, Q2, e2, h2⟩ := redc_inv hs h4 d (n + 1) M1 Q1 h1; refine ⟨M2, Q2, ?_, by rw [show n + (d + 1) = n + 1 + d by omega]; exact h2⟩; rw [redc, e1]; exact e2
theorem red_inv {s : Nat → Int} (hs : ∀ j, s j = 1 ∨ s j = -1) {M0 : List (List Int)} (h4 : Four M0) (h6 : Six M0) (hb : ∀ b j, ((lineAt M0 b).getD j 0).natAbs ≤ 9) (hg : ∀ b, Sgd s (lineAt M0 b)) :
    ∃ M Q, red M0 = some (M, Q.map (fun x : Nat => (x : Int))) ∧ Inv s M0 6 M Q := by
  have := redc_inv hs h4 6 0 M0 [] ⟨rfl, h6, by simp, by simp, by simp, by simp, by simp, by simp, hb, fun _ => hg, fun b => .inl (hb b), fun b => .base ⟨b, rfl⟩, fun b => .base ⟨b, rfl⟩⟩; exact this
variable {K : Type}
theorem van_more {r : Nat} {S : (K → Int) → Prop} (h : Van r S) : ∀ d, Van (r + d) S
  | 0 => h
  | d + 1 => van_up (van_more h d)
theorem perm_zero {n : Nat} {f : List (K → Int) → Int} (hl : Lin n f) (ha : Alt n f) {l1 l2 : List (K → Int)} (hp : l1.Perm l2) : ∀ p, p.length + l1.length = n → (f (p ++ l1) = 0 ↔ f (p ++ l2) = 0) := by
  induction hp with
  | nil => exact fun p _ => Iff.rfl
  | cons x hp ih =>
    intro p e; have := ih (p ++ [x]) (by simp at e ⊢; omega); simpa using this
  | swap x y l =>
    intro p e; rw [swap hl ha p l y x (by simpa [Nat.add_assoc] using e)]; omega
  | trans h1 h2 i1 i2 =>
    intro p e; rw [i1 p e, i2 p (by rw [← h1.length_eq]; exact e)]
theorem sp_list (M : List (List Int)) : ∀ (I : List (Nat → Int)), (∀ v ∈ I, Sp M v) → ∃ l : List Nat, I = l.map fun b => fn (lineAt M b)
  | [], _ => ⟨[], rfl⟩
  | v :: I, h => by
    obtain ⟨b, rfl⟩ := h v (List.mem_cons_self ..); obtain ⟨l, rfl⟩ := sp_list M I (fun u hu => h u (List.mem_cons_of_mem _ hu)); exact ⟨b :: l, rfl⟩
theorem VD : ∀ (l : List Nat), l.Pairwise (· ≤ ·) → l.Nodup → l.Pairwise (· < ·)
  | [], _, _ => .nil
  | a :: l, h, hn => by
    rw [List.pairwise_cons] at h ⊢; rw [List.nodup_cons] at hn; exact ⟨fun b hb => Nat.lt_of_le_of_ne (h.1 b hb) (fun e => hn.1 (e ▸ hb)), VD l h.2 hn.2⟩
theorem U9 {J : List Nat} {M : List (List Int)} {I : List (Nat → Int)} (hI : I.length = J.length) (hS : ∀ v ∈ I, Sp M v) (hd : det J I ≠ 0) :
    ∃ l : List Nat, l.Pairwise (· < ·) ∧ (∀ b ∈ l, b < M.length) ∧ l.length = J.length ∧ det J (l.map fun b => fn (lineAt M b)) ≠ 0 := by
  obtain ⟨l, rfl⟩ := sp_list M I hS; have hlen : l.length = J.length := by simpa using hI
  have hb : ∀ b ∈ l, b < M.length := fun b hb => by
    by_cases c : b < M.length
    · exact c
    · exfalso
      obtain ⟨p, q, rfl⟩ := List.append_of_mem hb; apply hd; rw [List.map_append, List.map_cons, Z0 M b (by omega)]; refine zero_row (Y3 J) _ _ ?_; simp at hlen ⊢; omega
  have hn : l.Nodup := by
    by_cases c : l.Nodup
    · exact c
    · exfalso
      obtain ⟨p, a, q, s, rfl⟩ := Yu l c; apply hd; rw [List.map_append, List.map_cons, List.map_append, List.map_cons]; refine Vw (Y3 J) (V9 J) _ _ _ _ ?_; simp at hlen ⊢; omega
  have hp : (l.mergeSort (fun a b => decide (a ≤ b))).Perm l := List.mergeSort_perm l _; have hso : (l.mergeSort (fun a b => decide (a ≤ b))).Pairwise (· ≤ ·) := by
    have := List.pairwise_mergeSort (le := fun a b : Nat => decide (a ≤ b)) (fun a b c h1 h2 => by simp at h1 h2 ⊢; omega) (fun a b => by simp; omega) l; exact this.imp (fun h => by simpa using h)
  refine ⟨_, VD _ hso (hp.nodup_iff.2 hn), fun b hbm => hb b (hp.mem_iff.1 hbm), by rw [hp.length_eq, hlen], fun h0 => hd ?_⟩; have := perm_zero (Y3 J) (V9 J) (hp.map (fun b => fn (lineAt M b))) [] (by simp [hlen]); exact this.1 h0
theorem Jh {Q : List Nat} {a c : Nat} (h : Q[a]? = some c) : Q.drop a = c :: Q.drop (a + 1) := by
  obtain ⟨ha, rfl⟩ := List.getElem?_eq_some_iff.1 h; exact List.drop_eq_getElem_cons ha
theorem U1 {s : Nat → Int} {M0 M : List (List Int)} {n : Nat} {Q : List Nat} (h : Inv s M0 n M Q) : ∀ (d a : Nat), a + d = Q.length → Det.Steps (Q.drop a) ((List.range' a d).map fun k => fn (lineAt M k))
  | 0, a, e => by
    rw [List.drop_eq_nil_of_le (by omega)]; exact True.intro
  | d + 1, a, e => by
    have hq : Q[a]? = some Q[a] := List.getElem?_eq_getElem (by omega); rw [Jh hq, List.range'_succ, List.map_cons]; refine ⟨h.piv a _ hq, fun u hu => ?_, U1 h d (a + 1) (by omega)⟩; obtain ⟨k, hk, rfl⟩ := List.mem_map.1 hu; exact h.zer a _ hq k (by rw [List.mem_range'_1] at hk; omega)
theorem inv_minor {s : Nat → Int} {M0 M : List (List Int)} {n : Nat} {Q : List Nat} (h : Inv s M0 n M Q) :
    ∃ l : List Nat, l.Pairwise (· < ·) ∧ (∀ b ∈ l, b < M0.length) ∧ l.length = Q.length ∧ det Q (l.map fun b => fn (lineAt M0 b)) ≠ 0 := by
  have h1 : det Q ((List.range' 0 Q.length).map fun k => fn (lineAt M k)) ≠ 0 := US _ _ (by
    have := U1 h Q.length 0 (by omega); rwa [List.drop_zero] at this)
  by_cases hex : ∃ I : List (Nat → Int), I.length = Q.length ∧ (∀ v ∈ I, Sp M0 v) ∧ det Q I ≠ 0
  · obtain ⟨I, a, b, c⟩ := hex; exact U9 a b c
  · exfalso
    have hz : ∀ I : List (Nat → Int), I.length = Q.length → (∀ v ∈ I, Sp M0 v) → det Q I = 0 := fun I a b => by
      by_cases c : det Q I = 0
      · exact c
      · exact absurd ⟨I, a, b, c⟩ hex
    have := Uu (Y3 Q) hz ((List.range' 0 Q.length).map fun k => fn (lineAt M k)) [] (by simp) (fun v hv => by
      obtain ⟨k, -, rfl⟩ := List.mem_map.1 hv; exact h.g1 k) (by simp)
    rw [List.append_nil] at this; exact h1 this
theorem inv_van {s : Nat → Int} {M0 M : List (List Int)} {Q : List Nat} (h : Inv s M0 6 M Q) (d : Nat) : Van (Q.length + 1 + d) (Sp M0) := by
  refine van_more ?_ d; have hR := van_short ((List.range Q.length).map fun k => fn (lineAt M k)); rw [List.length_map, List.length_range] at hR; refine van_gen hR (fun v hv => ?_); obtain ⟨b, rfl⟩ := hv; refine U3 (fun u hu => ?_) (h.g2 b); obtain ⟨k, rfl⟩ := hu; by_cases hk : k < Q.length
  · exact .base (List.mem_map.2 ⟨k, List.mem_range.2 hk, rfl⟩)
  · have hz : fn (lineAt M k) = fun _ => 0 := by
      funext j
      by_cases hj : j < 6
      · exact h.low k (by omega) j hj
      · by_cases hkl : k < M.length
        · exact ZV (by rw [line6 h.six k hkl]; omega)
        · rw [Z0 M k (by omega)]; exact ZV (by simp)
    rw [hz]; exact .zero
def el (e : Nat) : List Int → Int := fun c => c.getD e 0
def Small (X : List (List Int)) (js : List Nat) : Prop := ∀ c ∈ X, ∀ e ∈ js, e < c.length ∧ (c.getD e 0).natAbs ≤ 9
theorem obs {α β : Type} (a : α) (f : α → Option β) : (some a).bind f = f a := by simp
section
variable {s : Nat → Int} {M0 M : List (List Int)} {Q : List Nat} {n : Nat}
def Wid (n : Nat) (M0 : List (List Int)) : Prop := ∀ b j, n ≤ j → (lineAt M0 b).getD j 0 = 0
theorem Inv.ech (h : Inv s M0 6 M Q) (hn : n ≤ 6) (hz : Wid n M0) : Ech n (fun b => fn (lineAt M b)) Q where
  inc := h.inc
  lt q hq := by
    by_cases c : q < n
    · exact c
    · obtain ⟨a, ha⟩ := Ech.idx hq; exact absurd (h.col (fun b => hz b q (by omega)) a) (h.piv a q ha)
  piv := h.piv
  zer := h.zer
  low b hb c hc := h.low b hb c (by omega)
theorem Inv.ker (h : Inv s M0 6 M Q) (v : Nat → Int) : Ker n (Rws fun b => fn (lineAt M b)) v ↔ Ker n (Sp M0) v :=
  ⟨fun hv => ker_gen (S' := Sp M) (fun r hr => by obtain ⟨b, rfl⟩ := hr; exact h.g2 b) hv, fun hv => ker_gen (S := Sp M) (fun r hr => by obtain ⟨b, rfl⟩ := hr; exact h.g1 b) hv⟩
theorem Inv.one (h : Inv s M0 6 M Q) (hn : n ≤ 6) (hz : Wid n M0) : (∃ v, Gnr n (Ker n (Sp M0)) v) ↔ Q.length + 1 = n := by
  rw [← (h.ech hn hz).gnr_iff_len]; exact ⟨fun ⟨v, hv⟩ => ⟨v, V8 (fun v => (h.ker v).symm) hv⟩, fun ⟨v, hv⟩ => ⟨v, V8 (fun v => h.ker v) hv⟩⟩
theorem Inv.four (h : Inv s M0 6 M Q) (h4 : Four M0) : Q.length ≤ 4 := by
  rcases h4 with h4 | h4
  · have := h.ql; have := h.len; omega
  · exact (h.ech (n := 4) (by omega) h4).Jf
theorem Inv.cof (h : Inv s M0 6 M Q) (h4 : Four M0) (hn : n ≤ 6) (hz : Wid n M0) (hl : Q.length + 1 = n) (h9 : ∀ b j, ((lineAt M0 b).getD j 0).natAbs ≤ 9) :
    ∃ l : List Nat, l.Pairwise (· < ·) ∧ (∀ b ∈ l, b < M0.length) ∧ l.length + 1 = n ∧ Gnr n (Ker n (Sp M0)) (Det.cof n (l.map fun b => fn (lineAt M0 b))) ∧ ∀ c, c < n → (Det.cof n (l.map fun b => fn (lineAt M0 b)) c).natAbs ≤ 157464 := by
  obtain ⟨l, h1, h2, h3, h5⟩ := inv_minor h; have hV := inv_van h 0; rw [Nat.add_zero, hl] at hV; have hI : (l.map fun b => fn (lineAt M0 b)).length + 1 = n := by rw [List.length_map]; omega
  have hS : ∀ v ∈ l.map fun b => fn (lineAt M0 b), Sp M0 v := fun v hv => by
    obtain ⟨b, -, rfl⟩ := List.mem_map.1 hv; exact ⟨b, rfl⟩
  have hk := cof_ker hV hI hS; have he := h.ech hn hz; obtain ⟨f, hf, hfQ⟩ := he.miss (by omega); have hQ : but n f = Q := inc_ext _ _ but_inc h.inc (fun x => by
    rw [mem_but hf]; constructor
    · rintro ⟨a, b⟩; rcases he.cover hl hf hfQ a with c | c
      · exact c
      · exact absurd c b
    · exact fun a => ⟨he.lt x a, fun e => hfQ (e ▸ a)⟩)
  have hcf : Det.cof n (l.map fun b => fn (lineAt M0 b)) f ≠ 0 := by
    unfold Det.cof; rw [hQ]; refine Int.mul_ne_zero ?_ h5; unfold sgx; split <;> omega
  refine ⟨l, h1, h2, by omega, V8 (fun v => h.ker v) (he.gnr1 hl hf hfQ ((h.ker _).2 hk) hcf), fun c hc => cof_le hI (by have := h.four h4; omega) (fun v hv j => ?_) hc⟩; obtain ⟨b, -, rfl⟩ := List.mem_map.1 hv; exact h9 b j
end
theorem frg_spec : ∀ (d f : Nat) (P : List Int) (x : Nat), f ≤ x → x < f + d → (x : Int) ∉ P → ((frg d f P : Nat) : Int) ∉ P ∧ frg d f P ≤ x
  | 0, f, P, x, h1, h2, _ => by omega
  | d + 1, f, P, x, h1, h2, h3 => by
    rw [frg]; by_cases c : (f : Int) ∈ P
    · rw [if_pos c]; exact frg_spec d (f + 1) P x (by
        have : x ≠ f := fun e => h3 (e ▸ c)
        omega) (by omega) h3
    · rw [if_neg c]; exact ⟨c, h1⟩
theorem lcm_step {a e B : Int} (ha : a ≠ 0) (he : e ≠ 0) (h1 : a ∣ B) (h2 : e ∣ B) : a.tdiv (Int.gcd a e) * e ∣ B ∧ a ∣ a.tdiv (Int.gcd a e) * e ∧ e ∣ a.tdiv (Int.gcd a e) * e ∧ a.tdiv (Int.gcd a e) * e ≠ 0 := by
  have hg : (Int.gcd a e : Int) ∣ a := Int.gcd_dvd_left ..; have hg2 : (Int.gcd a e : Int) ∣ e := Int.gcd_dvd_right ..; have hg0 : (Int.gcd a e : Int) ≠ 0 := fun h => ha (Int.gcd_eq_zero_iff.1 (by exact_mod_cast h)).1
  have ea := Int.mul_tdiv_cancel' hg; have hab : (a.tdiv (Int.gcd a e) * e).natAbs = Nat.lcm a.natAbs e.natAbs := by
    rw [Int.natAbs_mul, Int.natAbs_tdiv, Int.natAbs_natCast]; show a.natAbs / Nat.gcd a.natAbs e.natAbs * e.natAbs = a.natAbs * e.natAbs / Nat.gcd a.natAbs e.natAbs
    rw [Nat.div_mul_right_comm (Nat.gcd_dvd_left ..)]
  have hd : ∀ x : Int, x ∣ a.tdiv (Int.gcd a e) * e ↔ x.natAbs ∣ Nat.lcm a.natAbs e.natAbs := fun x => by rw [← hab, Int.natAbs_dvd_natAbs]
  refine ⟨?_, (hd a).2 (Nat.dvd_lcm_left ..), (hd e).2 (Nat.dvd_lcm_right ..), ?_⟩
  · rw [← Int.natAbs_dvd_natAbs, hab]; exact Nat.lcm_dvd (Int.natAbs_dvd_natAbs.2 h1) (Int.natAbs_dvd_natAbs.2 h2)
  · intro h; rw [h] at hab; have := Nat.lcm_ne_zero (m := a.natAbs) (n := e.natAbs) (by omega) (by omega); exact this hab.symm
theorem Vi {a B : Int} (hB : B ≠ 0) (h : a ∣ B) : a.natAbs ≤ B.natAbs := Nat.le_of_dvd (by omega) (Int.natAbs_dvd_natAbs.2 h)
theorem alls_ok (B : Int) (hB : B ≠ 0) (hb : B.natAbs ≤ 400000000) : ∀ (l : List (List Int × Int)) (a : Int), a ≠ 0 → a ∣ B → (∀ x ∈ l, 0 ≤ x.2 ∧ x.2 < 6 ∧ x.1.getD x.2.toNat 0 ∣ B) → ∃ r, alls l a = some r ∧ r ≠ 0 ∧ r ∣ B ∧ a ∣ r ∧ ∀ x ∈ l, x.1.getD x.2.toNat 0 ∣ r
  | [], a, h0, h1, _ => ⟨a, rfl, h0, h1, Int.dvd_refl _, by simp⟩
  | x :: l, a, h0, h1, h => by
    obtain ⟨x1, x2, x3⟩ := h x (List.mem_cons_self ..); have he : x.1.getD x.2.toNat 0 ≠ 0 := fun e => by
      rw [e] at x3; exact hB (Int.zero_dvd.1 x3)
    obtain ⟨s1, s2, s3, s4⟩ := lcm_step h0 he h1 x3; obtain ⟨r, r1, r2, r3, r4, r5⟩ := alls_ok B hB hb l _ s4 s1 (fun y hy => h y (List.mem_cons_of_mem _ hy)); have b1 := Vi hB h1; have b2 := Vi hB x3; have b3 := Vi hB s1; have hg : Int.gcd a (x.1.getD x.2.toNat 0) ≠ 0 := fun h => h0 (Int.gcd_eq_zero_iff.1 h).1
    refine ⟨r, ?_, r2, r3, Int.dvd_trans s2 r4, fun y hy => ?_⟩
    · rw [alls, if_pos ⟨x1, x2, by unfold Lim; omega, by unfold Lim; omega, hg, by unfold Lim; omega⟩]; exact r1
    · rcases List.mem_cons.1 hy with rfl | hy
      · exact Int.dvd_trans s3 r4
      · exact r5 y hy
theorem outs_ok (f : Nat) (all : Int) (ha : Lim all) : ∀ (l : List (List Int × Int)) (o : List Int), (l.map (·.2)).Nodup → o.length = 6 →
    (∀ x ∈ l, 0 ≤ x.2 ∧ x.2 < 6 ∧ Lim (x.1.getD f 0) ∧ x.1.getD x.2.toNat 0 ≠ 0 ∧ Lim (-(x.1.getD f 0) * all.tdiv (x.1.getD x.2.toNat 0))) →
    ∃ r, outs f all l o = some r ∧ r.length = 6 ∧ (∀ x ∈ l, r.getD x.2.toNat 0 = -(x.1.getD f 0) * all.tdiv (x.1.getD x.2.toNat 0)) ∧ ∀ j : Nat, (∀ x ∈ l, x.2 ≠ (j : Int)) → r.getD j 0 = o.getD j 0
  | [], o, _, h6, _ => ⟨o, rfl, h6, by simp, fun _ _ => rfl⟩
  | x :: l, o, hn, h6, h => by
    obtain ⟨x1, x2, x3, x4, x5⟩ := h x (List.mem_cons_self ..); rw [List.map_cons, List.nodup_cons] at hn; obtain ⟨r, r1, r2, r3, r4⟩ := outs_ok f all ha l (o.set x.2.toNat (-(x.1.getD f 0) * all.tdiv (x.1.getD x.2.toNat 0))) hn.2 (by rw [List.length_set]; exact h6) (fun y hy => h y (List.mem_cons_of_mem _ hy)); refine ⟨r, ?_, r2, fun y hy => ?_, fun j hj => ?_⟩
    · rw [outs, if_pos ⟨x1, x2, ha, x3, x4, x5⟩]; exact r1
    · rcases List.mem_cons.1 hy with rfl | hy
      · rw [r4 y.2.toNat (fun z hz e => hn.1 (by
          rw [show y.2 = z.2 by omega]; exact List.mem_map.2 ⟨z, hz, rfl⟩)), List.getD_eq_getElem?_getD, List.getElem?_set, if_pos rfl, if_pos (by omega)]
        rfl
      · exact r3 y hy
    · rw [r4 j (fun z hz => hj z (List.mem_cons_of_mem _ hz)), List.getD_eq_getElem?_getD, List.getElem?_set, if_neg (fun e => hj x (List.mem_cons_self ..) (by omega)), List.getD_eq_getElem?_getD]
theorem dot_scal {n : Nat} {r u v : Nat → Int} {g : Int} (h : ∀ j, u j = g * v j) : dt n r u = g * dt n r v := by
  have : u = comb g v 0 v := by funext j; simp [comb, h j]
  rw [this, VF]; omega
theorem row_dvd {A B x y : Int} {h : Int} (hA : A ≠ 0) (e : A * x + B * y = 0) (hg : (Int.gcd A B : Int) ∣ h) : A ∣ h * y := by
  have g0 : Int.gcd A B ≠ 0 := fun h => hA (Int.gcd_eq_zero_iff.1 h).1
  have h1 : A ∣ (Int.gcd A B : Int) * y := by
    have e1 : A ∣ B * y := ⟨-x, by rw [Int.mul_neg]; omega⟩; have e2 : A ∣ A * y := ⟨y, rfl⟩; rw [← Int.natAbs_dvd_natAbs, Int.natAbs_mul] at e1 e2 ⊢; have := Nat.dvd_gcd e2 e1; rw [Nat.gcd_mul_right] at this; rw [Int.natAbs_natCast]; exact this
  obtain ⟨c, hc⟩ := hg; rw [hc, show (Int.gcd A B : Int) * c * y = c * ((Int.gcd A B : Int) * y) by grind]; exact Int.dvd_mul_of_dvd_right h1
theorem small_dvd : ∀ g : Nat, g < 10 → 0 < g → g ∣ 2520 := by decide
section
variable {s : Nat → Int} {M0 M : List (List Int)} {Q : List Nat} {n : Nat}
theorem gcd_row {r : List Int} {c f : Nat} (h9 : (∀ j, (r.getD j 0).natAbs ≤ 9) ∨ gc r ≤ 1) (hz : ∀ j, j ≠ c → j ≠ f → r.getD j 0 = 0) (h0 : r.getD c 0 ≠ 0) : (Int.gcd (r.getD c 0) (r.getD f 0) : Int) ∣ 2520 := by
  have hp : 0 < Int.gcd (r.getD c 0) (r.getD f 0) := Nat.pos_of_ne_zero fun h => h0 (Int.gcd_eq_zero_iff.1 h).1
  rcases h9 with h | h
  · have h1 := Nat.le_of_dvd (by omega) (Int.natAbs_dvd_natAbs.2 (Int.gcd_dvd_left (a := r.getD c 0) (b := r.getD f 0))); have h2 := h c; rw [Int.natAbs_natCast] at h1; exact Int.natCast_dvd_natCast.2 (small_dvd _ (by omega) hp)
  · have : ((Int.gcd (r.getD c 0) (r.getD f 0) : Nat) : Int) ∣ (gc r : Int) := UA r 0 _ (by simp) (fun x hx => by
      obtain ⟨j, hj, rfl⟩ := List.mem_iff_getElem.1 hx; rw [← getD_some hj]; by_cases c1 : j = c
      · rw [c1]; exact Int.gcd_dvd_left ..
      · by_cases c2 : j = f
        · rw [c2]; exact Int.gcd_dvd_right ..
        · rw [hz j c1 c2]; exact Int.dvd_zero _)
    have h0' : gc r ≠ 0 := fun e => by
      have h3 := (Vu r 0).2 (r.getD c 0) (by
        by_cases hc : c < r.length
        · rw [getD_some hc]; exact List.getElem_mem hc
        · exact absurd (ZV (by omega)) h0)
      have h4 : ((gc r : Nat) : Int) ∣ r.getD c 0 := h3; rw [e] at h4; exact h0 (Int.zero_dvd.1 h4)
    have h1 : gc r = 1 := by omega
    rw [h1] at this; exact Int.dvd_trans this ⟨2520, rfl⟩
theorem bn_lim : ∀ p, p ≤ 4 → Bn p ≤ 4611686018427387904 := by decide +kernel
theorem nzi_nn : ∀ (l : List Int) (j : Nat), l.getD j 0 ≠ 0 → 0 ≤ nzi l ∧ (nzi l).toNat < l.length ∧ l.getD (nzi l).toNat 0 ≠ 0
  | [], j, h => absurd rfl h
  | x :: l, j, h => by
    rw [nzi]; by_cases c : x ≠ 0
    · rw [if_pos c]; exact ⟨by omega, by simp, by simpa using c⟩
    · rw [if_neg c]; cases j with
      | zero => exact absurd h (by simpa using c)
      | succ j =>
        obtain ⟨h1, h2, h3⟩ := nzi_nn l j (by simpa using h); rw [if_neg (by omega), show (nzi l + 1).toNat = (nzi l).toNat + 1 by omega]; exact ⟨by omega, by simpa using h2, by simpa using h3⟩
theorem U7 {α : Type} {R : List α} {Q : List Nat} (hl : R.length = Q.length) {x : α × Int} (hx : x ∈ R.zip (Q.map fun x : Nat => (x : Int))) : ∃ a c : Nat, Q[a]? = some c ∧ x.2 = (c : Int) ∧ R[a]? = some x.1 := by
  obtain ⟨a, ha, e⟩ := List.getElem_of_mem hx; rw [List.length_zip, List.length_map] at ha; rw [List.getElem_zip] at e; subst e; refine ⟨a, Q[a]'(by omega), List.getElem?_eq_getElem (by omega), by simp, List.getElem?_eq_getElem (by omega)⟩
theorem sol_one (h : Inv s M0 6 M Q) (h4 : Four M0) (hn : n ≤ 6) (hz : Wid n M0) (h9 : ∀ b j, ((lineAt M0 b).getD j 0).natAbs ≤ 9) (hl : Q.length + 1 = n) :
    ∃ r, sol (M.take Q.length) (Q.map fun x : Nat => (x : Int)) n = some (r, true) ∧ r.length = n ∧ Gnr n (Ker n (Sp M0)) (fn r) ∧ gc r = 1 ∧ 0 ≤ nzi r ∧ 0 < r.getD (nzi r).toNat 0 := by
  have he := h.ech hn hz; have h44 := h.four h4; obtain ⟨l, -, -, -, hg, hb⟩ := h.cof h4 hn hz hl h9; generalize Det.cof n (l.map fun b => fn (lineAt M0 b)) = v at hg hb; obtain ⟨f0, hf0, CR⟩ := he.miss (by omega); have hQi : ∀ x : Nat, (x : Int) ∈ Q.map (fun x : Nat => (x : Int)) ↔ x ∈ Q := fun x => by
    rw [List.mem_map]; exact ⟨fun ⟨y, hy, e⟩ => by rw [show x = y by omega]; exact hy, fun hx => ⟨x, hx, rfl⟩⟩
  obtain ⟨hfQ', hfle⟩ := frg_spec 7 0 (Q.map fun x : Nat => (x : Int)) f0 (by omega) (by omega) (fun hh => CR ((hQi f0).1 hh)); generalize hfr : frg 7 0 (Q.map fun x : Nat => (x : Int)) = f at *; have hf : f < n := by omega
  have hfQ : f ∉ Q := fun hh => hfQ' ((hQi f).2 hh)
  have hk := (h.ker v).2 hg.1; have kat : ∀ a c : Nat, Q[a]? = some c → (lineAt M a).getD c 0 * v c + (lineAt M a).getD f 0 * v f = 0 := fun a c ha => he.ker_at hl hf hfQ hk ha
  have hvf : v f ≠ 0 := fun e => by
    obtain ⟨j, hj, hj0⟩ := hg.2.1; rcases he.cover hl hf hfQ hj with c | c
    · obtain ⟨a, ha⟩ := Ech.idx c; have := kat a j ha; rw [e, Int.mul_zero, Int.add_zero] at this; rcases Int.mul_eq_zero.1 this with e | e
      · exact h.piv a j ha e
      · exact hj0 e
    · exact hj0 (by rw [c]; exact e)
  have hzero : ∀ a c : Nat, Q[a]? = some c → ∀ j, j ≠ c → j ≠ f → (lineAt M a).getD j 0 = 0 := fun a c ha j h1 h2 => by
    by_cases hj : j < n
    · rcases he.cover hl hf hfQ hj with x | x
      · obtain ⟨b, hb⟩ := Ech.idx x; exact h.zer b j hb a (fun e => h1 (by rw [e] at ha; rw [ha] at hb; exact (Option.some.inj hb).symm))
      · exact absurd x h2
    · exact h.col (fun b => hz b j (by omega)) a
  have hdv : ∀ a c : Nat, Q[a]? = some c → (lineAt M a).getD c 0 ∣ 2520 * v f := fun a c ha =>
    row_dvd (h.piv a c ha) (kat a c ha) (gcd_row (h.pr a) (hzero a c ha) (h.piv a c ha))
  have hB0 : 2520 * v f ≠ 0 := by omega
  have hvb := hb f hf; have hRl : (M.take Q.length).length = Q.length := by rw [List.length_take]; have := h.ql; omega
  have hR : ∀ a x, (M.take Q.length)[a]? = some x → x = lineAt M a := fun a x hx => by
    obtain ⟨ha, e⟩ := List.getElem?_eq_some_iff.1 hx; rw [← e, List.getElem_take]; exact (Z2 M a _).symm
  obtain ⟨all, a1, a2, a3, -, a5⟩ := alls_ok (2520 * v f) hB0 (by omega) ((M.take Q.length).zip (Q.map fun x : Nat => (x : Int))) 1 (by omega) (Int.one_dvd _) (fun x hx => by
    obtain ⟨a, c, h1, h2, h3⟩ := U7 hRl hx; rw [h2, hR a _ h3]; have := he.lt c (List.mem_of_getElem? h1); exact ⟨by omega, by omega, by rw [Int.toNat_natCast]; exact hdv a c h1⟩)
  have hallb := Vi hB0 a3; have hall : Lim all := by unfold Lim; omega
  have alld : ∀ a c : Nat, Q[a]? = some c → (lineAt M a).getD c 0 ∣ all := fun a c ha => by
    obtain ⟨hal, e⟩ := List.getElem?_eq_some_iff.1 ha; have hm : (lineAt M a, (c : Int)) ∈ (M.take Q.length).zip (Q.map fun x : Nat => (x : Int)) := by
      refine List.mem_iff_getElem?.2 ⟨a, ?_⟩; have hMa : a < M.length := by have := h.ql; omega
      rw [List.getElem?_zip_eq_some]; refine ⟨?_, ?_⟩
      · rw [List.getElem?_take, if_pos hal, List.getElem?_eq_getElem hMa, Z2 M a hMa]
      · rw [List.getElem?_map, ha]; rfl
    have := a5 _ hm; rwa [Int.toNat_natCast] at this
  have hval : ∀ a c : Nat, Q[a]? = some c → (-((lineAt M a).getD f 0) * all.tdiv ((lineAt M a).getD c 0)) * (lineAt M a).getD c 0 = -((lineAt M a).getD f 0) * all := fun a c ha => by
    rw [Int.mul_assoc, Int.tdiv_mul_cancel (alld a c ha)]
  have hvl : ∀ a c : Nat, Q[a]? = some c → (-((lineAt M a).getD f 0) * all.tdiv ((lineAt M a).getD c 0)) * v f = v c * all := fun a c ha => by
    refine Int.eq_of_mul_eq_mul_right (h.piv a c ha) ?_; have h1 := hval a c ha; have h2 := kat a c ha; rw [show (-((lineAt M a).getD f 0) * all.tdiv ((lineAt M a).getD c 0)) * v f * (lineAt M a).getD c 0 = ((-((lineAt M a).getD f 0) * all.tdiv ((lineAt M a).getD c 0)) * (lineAt M a).getD c 0) * v f by grind, h1, show v c * all * (lineAt M a).getD c 0 = ((lineAt M a).getD c 0 * v c) * all by grind, show (lineAt M a).getD c 0 * v c = -((lineAt M a).getD f 0 * v f) by omega]; grind
  have hvlim : ∀ a c : Nat, Q[a]? = some c → Lim (-((lineAt M a).getD f 0) * all.tdiv ((lineAt M a).getD c 0)) := fun a c ha => by
    have h1 := congrArg Int.natAbs (hvl a c ha); rw [Int.natAbs_mul, Int.natAbs_mul (v c)] at h1; have h2 := Nat.mul_le_mul (hb c (he.lt c (List.mem_of_getElem? ha))) hallb; have h3 : (-((lineAt M a).getD f 0) * all.tdiv ((lineAt M a).getD c 0)).natAbs * 1 ≤ (-((lineAt M a).getD f 0) * all.tdiv ((lineAt M a).getD c 0)).natAbs * (v f).natAbs := Nat.mul_le_mul_left _ (by omega); have h4 : 157464 * (2520 * v f).natAbs ≤ 157464 * 400000000 := Nat.mul_le_mul_left _ (by omega); unfold Lim; omega
  have hbl := bn_lim Q.length (by omega); obtain ⟨o, o1, o2, o3, o4⟩ := outs_ok f all hall ((M.take Q.length).zip (Q.map fun x : Nat => (x : Int))) (zeros6.set f all) (by
      rw [List.map_snd_zip (by rw [List.length_map]; omega)]; exact List.Pairwise.map _ (fun a b hab => by omega) he.nodup) (by rw [List.length_set]; rfl) (fun x hx => by
    obtain ⟨a, c, h1, h2, h3⟩ := U7 hRl hx; rw [h2, hR a _ h3, Int.toNat_natCast]; have := he.lt c (List.mem_of_getElem? h1); have hbb := h.bd a f; exact ⟨by omega, by omega, by unfold Lim; omega, h.piv a c h1, hvlim a c h1⟩)
  have oc : ∀ a c : Nat, Q[a]? = some c → o.getD c 0 = -((lineAt M a).getD f 0) * all.tdiv ((lineAt M a).getD c 0) := fun a c ha => by
    obtain ⟨hal, e⟩ := List.getElem?_eq_some_iff.1 ha; have hMa : a < M.length := by have := h.ql; omega
    have hm : (lineAt M a, (c : Int)) ∈ (M.take Q.length).zip (Q.map fun x : Nat => (x : Int)) := by
      refine List.mem_iff_getElem?.2 ⟨a, ?_⟩; rw [List.getElem?_zip_eq_some]; refine ⟨?_, ?_⟩
      · rw [List.getElem?_take, if_pos hal, List.getElem?_eq_getElem hMa, Z2 M a hMa]
      · rw [List.getElem?_map, ha]; rfl
    have := o3 _ hm; rwa [Int.toNat_natCast] at this
  have hmemQ : ∀ x ∈ (M.take Q.length).zip (Q.map fun x : Nat => (x : Int)), ∀ j : Nat, j ∉ Q → x.2 ≠ (j : Int) := fun x hx j hj e => by
    obtain ⟨a, c, h1, h2, h3⟩ := U7 hRl hx; exact hj (by rw [show j = c by omega]; exact List.mem_of_getElem? h1)
  have of : o.getD f 0 = all := by
    rw [o4 f (fun x hx => hmemQ x hx f hfQ), List.getD_eq_getElem?_getD, List.getElem?_set, if_pos rfl, if_pos (by show f < 6; omega)]; rfl
  have oz : ∀ j, j ∉ Q → j ≠ f → o.getD j 0 = 0 := fun j h1 h2 => by
    rw [o4 j (fun x hx => hmemQ x hx j h1), List.getD_eq_getElem?_getD, List.getElem?_set, if_neg (fun e => h2 e.symm), ← List.getD_eq_getElem?_getD]; exact Uf j
  have olim : ∀ x ∈ o, Lim x := fun x hx => by
    obtain ⟨j, hj, rfl⟩ := List.mem_iff_getElem.1 hx; rw [← getD_some hj]; by_cases c : j ∈ Q
    · obtain ⟨a, ha⟩ := Ech.idx c; rw [oc a j ha]; exact hvlim a j ha
    · by_cases c2 : j = f
      · rw [c2, of]; exact hall
      · rw [oz j c c2]; unfold Lim; decide
  have ok : Ker n (Rws fun b => fn (lineAt M b)) (fn o) := he.ker1 hf hfQ (fun j _ h1 h2 => oz j h1 h2) (fun a c ha => by
    show (lineAt M a).getD c 0 * o.getD c 0 + (lineAt M a).getD f 0 * o.getD f 0 = 0
    rw [oc a c ha, of, Int.mul_comm, hval a c ha, Int.neg_mul]; omega)
  obtain ⟨g, hg0, hgj⟩ := Jb o; have p6 : (pln o).length = 6 := by rw [YM, o2]
  have pz : ∀ j, o.getD j 0 = 0 → (pln o).getD j 0 = 0 := fun j e => by
    have := (hgj j).1; rw [e] at this; rcases Int.mul_eq_zero.1 this.symm with x | x
    · exact absurd x hg0
    · exact x
  have pf : (pln o).getD f 0 ≠ 0 := fun e => by
    have := (hgj f).1; rw [e, of, Int.mul_zero] at this; exact a2 this
  have pk : Ker n (Rws fun b => fn (lineAt M b)) (fn (pln o)) := fun r hr => by
    have := ok r hr; rw [dot_scal (u := fn o) (v := fn (pln o)) (fun j => (hgj j).1)] at this; rcases Int.mul_eq_zero.1 this with x | x
    · exact absurd x hg0
    · exact x
  have hPout : ∀ j, n ≤ j → (pln o).getD j 0 = 0 := fun j hj => pz j (oz j (fun hq => by have := he.lt j hq; omega) (by omega))
  have tk : ∀ j, ((pln o).take n).getD j 0 = (pln o).getD j 0 := fun j => by
    by_cases hj : j < n
    · rw [List.getD_eq_getElem?_getD, List.getElem?_take, if_pos hj, List.getD_eq_getElem?_getD]
    · rw [hPout j (by omega)]; exact ZV (by rw [List.length_take]; omega)
  have hnz := nzi_nn ((pln o).take n) f (by rw [tk]; exact pf); have neg : ∀ j, (((pln o).map fun x => -x).take n).getD j 0 = -(pln o).getD j 0 := fun j => by
    rw [← List.map_take, ← tk j, List.getD_eq_getElem?_getD, List.getElem?_map, List.getD_eq_getElem?_getD]; cases ((pln o).take n)[j]? <;> simp
  have gc1 : ∀ r : List Int, r.length = n → (∀ j, (r.getD j 0).natAbs = ((pln o).getD j 0).natAbs) → gc r = 1 := fun r hr hj => by
    have h1 : (gc r : Int) ∣ (gc (pln o) : Int) := UA (pln o) 0 _ (by simp) (fun x hx => by
      obtain ⟨j, hjl, rfl⟩ := List.mem_iff_getElem.1 hx; rw [← getD_some hjl]; by_cases c : j < n
      · have : (gc r : Int) ∣ r.getD j 0 := (Vu r 0).2 _ (by rw [getD_some (by omega)]; exact List.getElem_mem _); rw [← Int.natAbs_dvd_natAbs] at this ⊢; rw [← hj j]; exact this
      · rw [hPout j (by omega)]; exact Int.dvd_zero _)
    have h2 := gc_pln o; have h3 : gc (pln o) ≠ 0 := fun e => by
      have h4 : (gc (pln o) : Int) ∣ (pln o).getD f 0 := (Vu (pln o) 0).2 _ (by rw [getD_some (by omega)]; exact List.getElem_mem _); rw [e] at h4; exact pf (Int.zero_dvd.1 h4)
    rw [show gc (pln o) = 1 by omega] at h1; exact Nat.dvd_one.1 (Int.natCast_dvd_natCast.1 h1)
  have gn : ∀ r : List Int, (∃ c : Int, c ≠ 0 ∧ ∀ j, r.getD j 0 = c * (pln o).getD j 0) → Gnr n (Ker n (Sp M0)) (fn r) := fun r hr => by
    obtain ⟨c, hc0, hc⟩ := hr; refine V8 (fun v => h.ker v) (he.gnr1 hl hf hfQ (fun x hx => ?_) ?_)
    · rw [dot_scal (u := fn r) (v := fn (pln o)) (fun j => hc j), pk x hx, Int.mul_zero]
    · show r.getD f 0 ≠ 0
      rw [hc f]; exact Int.mul_ne_zero hc0 pf
  have hfin : ∃ r, fin o n = some r ∧ r.length = n ∧ Gnr n (Ker n (Sp M0)) (fn r) ∧ gc r = 1 ∧ 0 ≤ nzi r ∧ 0 < r.getD (nzi r).toNat 0 := by
    unfold fin; rw [if_pos ⟨olim, hnz.1⟩]; refine ⟨_, rfl, ?_⟩; by_cases c : (pln o).getD (nzi ((pln o).take n)).toNat 0 < 0
    · rw [if_pos c]; have hn2 : ∀ (l : List Int), nzi (l.map fun x => -x) = nzi l := fun l => by
        induction l with
        | nil => rfl
        | cons x l ih => simp [nzi, ih]
      have e2 : nzi (((pln o).map fun x => -x).take n) = nzi ((pln o).take n) := by rw [← List.map_take, hn2]
      refine ⟨by rw [List.length_take, List.length_map]; omega, gn _ ⟨-1, by omega, fun j => by rw [neg]; omega⟩, gc1 _ (by rw [List.length_take, List.length_map]; omega) (fun j => by rw [neg, Int.natAbs_neg]), by rw [e2]; exact hnz.1, ?_⟩; rw [e2, neg]; omega
    · rw [if_neg c]; refine ⟨by rw [List.length_take]; omega, gn _ ⟨1, by omega, fun j => by rw [tk]; omega⟩, gc1 _ (by rw [List.length_take]; omega) (fun j => by rw [tk]), hnz.1, ?_⟩; have := hnz.2.2; rw [tk] at this ⊢; omega
  obtain ⟨r, r1, r2⟩ := hfin; refine ⟨r, ?_, r2⟩; unfold sol; rw [List.length_map, if_neg (by omega), hfr, if_pos ⟨fun hh => hfQ ((hQi f).1 hh), by omega, hRl⟩, a1]; simp only [Option.bind_some]; rw [o1]; simp only [Option.bind_some]; rw [r1]; rfl
theorem sol_none (h : Inv s M0 6 M Q) (hl : Q.length + 1 ≠ n) : sol (M.take Q.length) (Q.map fun x : Nat => (x : Int)) n = some ([], false) := by
  unfold sol; rw [List.length_map, if_pos (by omega)]
end
theorem getD_map0 (l : List (List Int)) (k j : Nat) : (l.map fun c => c.getD k 0).getD j 0 = (l.getD j []).getD k 0 := by
  rw [List.getD_eq_getElem?_getD, List.getElem?_map, List.getD_eq_getElem?_getD (l := l)]; cases l[j]? <;> simp
theorem lineOf_cols (I O : List (List Int)) (hO : ∀ c ∈ O, Atoms c) (k : Nat) : I.map (fun c => c.getD k 0) ++ O.map (fun c => wrap64 (-(c.getD k 0))) = (cols I O).map fun c => c.getD k 0 := by
  unfold cols; rw [List.map_append, List.map_map]; congr 1; refine List.map_congr_left fun c hc => ?_
  show wrap64 (-(c.getD k 0)) = (negc c).getD k 0
  have := VH (hO c hc) k; rw [V6 (hO c hc), wrp (by omega) (by omega)]
theorem pad_getD (l : List Int) (j : Nat) : (pad l).getD j 0 = l.getD j 0 := by
  unfold pad; by_cases h : j < l.length
  · rw [List.getD_eq_getElem?_getD, List.getElem?_append_left h, List.getD_eq_getElem?_getD]
  · rw [ZV (l := l) (by omega), List.getD_eq_getElem?_getD, List.getElem?_append_right (by omega), List.getElem?_replicate]; split <;> rfl
theorem Je (I O : List (List Int)) (hO : ∀ c ∈ O, Atoms c) (k : Nat) : fn (lineOf I O k) = el k ∘ fun j => (cols I O).getD j [] := by
  funext j
  show (lineOf I O k).getD j 0 = ((cols I O).getD j []).getD k 0
  unfold lineOf; rw [pad_getD, lineOf_cols I O hO k, getD_map0]
def csn (n : Nat) (j : Nat) : Int := if j < n then 1 else -1
theorem csn_one (n j : Nat) : csn n j = 1 ∨ csn n j = -1 := by
  unfold csn; split
  · exact .inl rfl
  · exact .inr rfl
theorem Up (I O : List (List Int)) (hI : ∀ c ∈ I, Atoms c) (hO : ∀ c ∈ O, Atoms c) (k j : Nat) : 0 ≤ csn I.length j * (lineOf I O k).getD j 0 ∧ ((lineOf I O k).getD j 0).natAbs ≤ 9 := by
  have h1 : (lineOf I O k).getD j 0 = ((cols I O).getD j []).getD k 0 := congrFun (Je I O hO k) j; rw [h1]; unfold cols csn; by_cases c : j < I.length
  · rw [if_pos c, Zg _ j _ (by simp; omega), List.getElem_append_left c]; have := VH (hI _ (List.getElem_mem c)) k; omega
  · rw [if_neg c]; by_cases c2 : j < I.length + O.length
    · rw [Zg _ j _ (by simp; omega), List.getElem_append_right (by omega), List.getElem_map]; have hm : O[j - I.length]'(by omega) ∈ O := List.getElem_mem _; have := VH (hO _ hm) k; rw [V6 (hO _ hm)]; omega
    · rw [show (I ++ O.map negc).getD j [] = [] by rw [List.getD_eq_getElem?_getD, List.getElem?_eq_none (by simp; omega)]; rfl]; simp
end Go.Proofs.Ytdneelgnmnpanaa.P
end
section
namespace Go.Proofs.Ytdneelgnmnpanaa.P
open Go.RowKit Go.Proofs.YtdneelgnmnpanaaW.PrintWords
set_option maxRecDepth 100000
def bits (m : Nat) : List Nat := (List.range 6).filter fun i => m.testBit i
def chs (n r : Nat) : List Nat := (List.range (2 ^ n)).filter fun m => (bits m).length == r
def toI (l : List Nat) : List Int := l.map fun e : Nat => (e : Int)
def msk (l : List Nat) : Nat := (l.map fun i => 2 ^ i).sum
def subs : List Nat → List (List Nat)
  | [] => [[]]
  | a :: l => subs l ++ (subs l).map (a :: ·)
theorem mem_subs {l r : List Nat} (h : l.Sublist r) : l ∈ subs r := by
  induction h with
  | slnil => simp [subs]
  | cons a _ ih => exact List.mem_append_left _ ih
  | cons_cons a _ ih => exact List.mem_append_right _ (List.mem_map.2 ⟨_, ih, rfl⟩)
theorem Vr : ∀ (d a : Nat) (l : List Nat), l.Pairwise (· < ·) → (∀ x ∈ l, a ≤ x ∧ x < a + d) → l.Sublist (List.range' a d)
  | _, _, [], _, _ => List.nil_sublist _
  | 0, a, x :: l, _, h => by
    have := h x (List.mem_cons_self ..); omega
  | d + 1, a, x :: l, hp, h => by
    rw [List.range'_succ]; have hx := h x (List.mem_cons_self ..); rw [List.pairwise_cons] at hp; by_cases c : x = a
    · subst c; exact (Vr d (x + 1) l hp.2 (fun y hy => by have := hp.1 y hy; have := h y (List.mem_cons_of_mem _ hy); omega)).cons_cons x
    · refine .cons a (Vr d (a + 1) (x :: l) (List.pairwise_cons.2 hp) (fun y hy => ?_)); have h1 := h y hy; rcases List.mem_cons.1 hy with rfl | hy
      · omega
      · have := hp.1 y hy; omega
theorem subs_dec : ∀ n : Nat, n < 7 → ∀ l ∈ subs (List.range n), msk l < 2 ^ n ∧ bits (msk l) = l := by decide +kernel
theorem bits_lt_dec : ∀ n : Nat, n < 7 → ∀ m : Nat, m < 2 ^ n → ∀ i ∈ bits m, i < n := by decide +kernel
theorem Jo : ∀ m : Nat, m < 64 → (bits m).Pairwise (· < ·) := by decide +kernel
theorem inc_chs {n : Nat} (h : n < 7) {l : List Nat} (hp : l.Pairwise (· < ·)) (hb : ∀ x ∈ l, x < n) : msk l ∈ chs n l.length ∧ bits (msk l) = l := by
  have hm := mem_subs (Vr n 0 l hp (fun x hx => ⟨Nat.zero_le _, by have := hb x hx; omega⟩)); rw [← List.range_eq_range'] at hm; obtain ⟨h1, h2⟩ := subs_dec n h l hm; exact ⟨List.mem_filter.2 ⟨List.mem_range.2 h1, by rw [h2]; exact beq_self_eq_true _⟩, h2⟩
end Go.Proofs.Ytdneelgnmnpanaa.P
end
section
namespace Go.Proofs.Ytdneelgnmnpanaa.P
open Go.RowKit Go.Proofs.YtdneelgnmnpanaaW.PrintWords Go.Proofs.Det
theorem toI_at (l : List Nat) (i : Nat) (h : i < l.length) : (toI l).getD i 0 = (l[i] : Int) := by
  rw [Zg _ i _ (by simpa [toI] using h)]; simp only [toI, List.getElem_map]
theorem Ve (l : List Nat) : (toI l).length = l.length := by simp [toI]
structure Lns (X : List (List Int)) (js : List Nat) (M0 : List (List Int)) : Prop where
  len : M0.length = js.length
  six : Six M0
  fn : ∀ k, k < js.length → fn (lineAt M0 k) = el (js.getD k 0) ∘ fun j => X.getD j []
section
variable {X : List (List Int)} {js : List Nat} {M0 M : List (List Int)} {s : Nat → Int} {Q : List Nat}
theorem Lns.wid (h : Lns X js M0) : Wid X.length M0 := fun b j hj => by
  by_cases hb : b < js.length
  · have := congrFun (h.fn b hb) j; refine Eq.trans this ?_; show (X.getD j []).getD (js.getD b 0) 0 = 0
    rw [List.getD_eq_getElem?_getD (l := X), List.getElem?_eq_none hj]; rfl
  · rw [Z0 M0 b (by have := h.len; omega)]; rfl
end
theorem YJ (I O : List (List Int)) (h : I.length + O.length ≤ 6) : QV.f I O = some ((I.length + O.length : Nat) : Int) := by
  unfold QV.f; rw [wrp (by omega) (by omega)]; congr 1
def ml (I O : List (List Int)) : List (List Int) := (List.range (I.getD 0 []).length).map (lineOf I O)
def rkL (M0 : List (List Int)) : Nat := match red M0 with | some (_, P) => P.length | none => 0
theorem Y6 {I O : List (List Int)} (h : vl I O = 0) : (∀ c ∈ I, Atoms c) ∧ ∀ c ∈ O, Atoms c := by
  obtain ⟨-, -, -, -, -, -, h7⟩ := Yk h; exact ⟨fun c hc => (h7 c (List.mem_append_left _ hc)).2, fun c hc => (h7 c (List.mem_append_right _ hc)).2⟩
theorem Yp (I O : List (List Int)) : (cols I O).length = I.length + O.length := by simp [cols]
theorem YB (I O : List (List Int)) : (ml I O).length = (I.getD 0 []).length := by simp [ml]
theorem ml_at (I O : List (List Int)) (k : Nat) (h : k < (I.getD 0 []).length) : lineAt (ml I O) k = lineOf I O k := by
  rw [Z2 _ k (by rw [YB]; exact h)]; simp [ml]
theorem ml_six {I O : List (List Int)} (h : vl I O = 0) : Six (ml I O) := fun r hr => by
  obtain ⟨k, -, rfl⟩ := List.mem_map.1 hr; obtain ⟨-, h2, -, h4, -⟩ := Yk h; exact Uo (by simp; omega)
theorem ml_lns {I O : List (List Int)} (h : vl I O = 0) : Lns (cols I O) (List.range (I.getD 0 []).length) (ml I O) where
  len := by rw [YB, List.length_range]
  six := ml_six h
  fn k hk := by
    rw [List.length_range] at hk; rw [ml_at I O k hk, Je I O (Y6 h).2, Zg _ _ _ (by rw [List.length_range]; exact hk), List.getElem_range]
theorem cols_small {I O : List (List Int)} (h : vl I O = 0) : Small (cols I O) (List.range (I.getD 0 []).length) := fun c hc e he => by
  obtain ⟨-, -, -, -, -, -, h7⟩ := Yk h; obtain ⟨a1, a2⟩ := Y6 h; have he := List.mem_range.1 he; rcases List.mem_append.1 hc with hc | hc
  · have := VH (a1 c hc) e; exact ⟨by rw [(h7 c (List.mem_append_left _ hc)).1]; exact he, by omega⟩
  · obtain ⟨d, hd, rfl⟩ := List.mem_map.1 hc; have := VH (a2 d hd) e; rw [V6 (a2 d hd)]; refine ⟨?_, by omega⟩; unfold negc; rw [List.length_map, (h7 d (List.mem_append_right _ hd)).1]; exact he
theorem rkL_eq {M0 M : List (List Int)} {Q : List Nat} (h : red M0 = some (M, Q.map (fun x : Nat => (x : Int)))) : rkL M0 = Q.length := by
  unfold rkL; rw [h]; simp
theorem lines_mk {I O : List (List Int)} (h : vl I O = 0) : ZK.f I O = some ((ml I O).map mk6) := by
  obtain ⟨h1, h2, h3, h4, h5, h6, h7⟩ := Yk h; unfold ZK.f; rw [rdL0, if_pos ⟨by omega, by omega, ⟨by omega, h6⟩, fun r hr => by rw [(h7 r hr).1]; exact Nat.le_refl _⟩]; simp [ml]
structure Frm (X : List (List Int)) (m : Nat) (M0 : List (List Int)) : Prop where
  lns : Lns X (List.range m) M0
  sgn : ∃ s : Nat → Int, (∀ j, s j = 1 ∨ s j = -1) ∧ ∀ b, Sgd s (lineAt M0 b)
  n1 : 1 ≤ X.length
  n6 : X.length ≤ 6
  m1 : 1 ≤ m
  m4 : m ≤ 4
  small : Small X (List.range m)
  nine : ∀ b j, ((lineAt M0 b).getD j 0).natAbs ≤ 9
def KL (n : Nat) (M0 : List (List Int)) : (Nat → Int) → Prop := Ker n (Sp M0)
theorem solution_eq {M0 : List (List Int)} {n : Nat} (h6 : Six M0) (h0 : 0 < M0.length) (h1 : M0.length < 1000) (hn : n ≤ 6) {M : List (List Int)} {Q : List Nat} (h : red M0 = some (M, Q.map (fun x : Nat => (x : Int)))) (hM : Six M) :
    Zd.f (M0.map mk6) (n : Int) = sol (M.take Q.length) (Q.map (fun x : Nat => (x : Int))) n := by
  unfold Zd.f; rw [if_pos (by omega)]; unfold Z6.f; rw [if_pos ⟨by simpa using h0, by simpa using h1⟩, map_L6 h6, h]; simp only [Option.map_some, Option.bind_some, List.length_map, Int.toNat_natCast]; rw [map_L6 (fun r hr => hM r (List.mem_of_mem_take hr))]
def gsl (M0 : List (List Int)) (n : Nat) : List Int × Bool := (Zd.f (M0.map mk6) (n : Int)).getD ([], false)
structure Prim (n : Nat) (M0 : List (List Int)) (r : List Int) : Prop where
  len : r.length = n
  gnr : Gnr n (KL n M0) (fn r)
  gc : gc r = 1
  nz : 0 ≤ nzi r
  pos : 0 < r.getD (nzi r).toNat 0
theorem gc_scale {d c : Int} : ∀ (m : List Int) (g : Nat), d ∣ c * g → (∀ x ∈ m, d ∣ c * x) → d ∣ c * ((m.foldl (fun d n => Int.gcd d n) g : Nat) : Int)
  | [], _, h, _ => h
  | y :: m, g, h, hm => by
    rw [List.foldl_cons]; refine gc_scale m _ ?_ (fun x hx => hm x (List.mem_cons_of_mem _ hx)); have h2 := hm y (List.mem_cons_self ..); have h3 := Int.dvd_coe_gcd h h2; rw [Int.gcd_mul_left, Int.natCast_mul] at h3; rw [← Int.dvd_natAbs, Int.natAbs_mul, Int.natAbs_natCast, Int.natCast_mul]; exact h3
theorem prim_mul {n : Nat} {r : List Int} (hl : r.length = n) (hg : gc r = 1) {v : Nat → Int} (h : Prp n (fn r) v) : ∃ t : Int, ∀ j, j < n → v j = t * r.getD j 0 := by
  by_cases hz : ∃ k, k < n ∧ r.getD k 0 ≠ 0
  · obtain ⟨k, hk, hk0⟩ := hz; have hd : r.getD k 0 ∣ v k * ((gc r : Nat) : Int) := gc_scale r 0 (by simp) (fun x hx => by
      obtain ⟨j, hj, rfl⟩ := List.mem_iff_getElem.1 hx; rw [← getD_some hj]; have := h j (by omega) k hk; have e : v k * r.getD j 0 = v j * r.getD k 0 := this.symm; rw [e]; exact ⟨v j, Int.mul_comm _ _⟩)
    rw [hg] at hd; obtain ⟨t, ht⟩ := hd; refine ⟨t, fun j hj => ?_⟩; refine Int.eq_of_mul_eq_mul_right hk0 ?_; have e : v j * r.getD k 0 = v k * r.getD j 0 := h j hj k hk; rw [e, show v k = v k * ((1 : Nat) : Int) by omega, ht]; grind
  · exfalso
    have h0 : ∀ x ∈ r, (0 : Int) ∣ x := fun x hx => by
      obtain ⟨j, hj, rfl⟩ := List.mem_iff_getElem.1 hx; by_cases c : r[j] = 0
      · rw [c]; exact Int.dvd_refl _
      · exact absurd ⟨j, by omega, by rw [getD_some hj]; exact c⟩ hz
    have := UA r 0 0 (by simp) h0; have h1 : (0 : Int) ∣ ((gc r : Nat) : Int) := this; rw [hg] at h1; exact absurd (Int.zero_dvd.1 h1) (by decide)
section
variable {X : List (List Int)} {m : Nat} {M0 : List (List Int)}
theorem Frm.mlen (h : Frm X m M0) : M0.length = m := by have := h.lns.len; rwa [List.length_range] at this
theorem Frm.four (h : Frm X m M0) : Four M0 := .inl (by rw [h.mlen]; exact h.m4)
theorem Frm.inv (h : Frm X m M0) : ∃ s M Q, red M0 = some (M, Q.map (fun x : Nat => (x : Int))) ∧ Inv s M0 6 M Q := by
  obtain ⟨s, h1, h2⟩ := h.sgn; obtain ⟨M, Q, h3⟩ := red_inv h1 h.four h.lns.six h.nine h2; exact ⟨s, M, Q, h3⟩
theorem Frm.sol (h : Frm X m M0) : Zd.f (M0.map mk6) (X.length : Int) = some (gsl M0 X.length) ∧ (((gsl M0 X.length).2 = true ∧ rkL M0 + 1 = X.length ∧ Prim X.length M0 (gsl M0 X.length).1) ∨ (gsl M0 X.length = ([], false) ∧ rkL M0 + 1 ≠ X.length ∧ ¬ ∃ v, Gnr X.length (KL X.length M0) v)) := by
  obtain ⟨s, M, Q, e, hi⟩ := h.inv; have hm := h.mlen; have h1 := h.m1; have h2 := h.m4; have he := solution_eq h.lns.six (by omega) (by omega) h.n6 e hi.six; have hr := rkL_eq e; by_cases c : Q.length + 1 = X.length
  · obtain ⟨r, a1, a2, a3, a4, a5, a6⟩ := sol_one hi h.four h.n6 h.lns.wid h.nine c; rw [a1] at he; have hg : gsl M0 X.length = (r, true) := by
      unfold gsl; rw [he]; rfl
    rw [hg]; exact ⟨he, .inl ⟨rfl, by rw [hr]; exact c, ⟨a2, a3, a4, a5, a6⟩⟩⟩
  · rw [sol_none hi c] at he; have hg : gsl M0 X.length = ([], false) := by
      unfold gsl; rw [he]; rfl
    rw [hg]; exact ⟨he, .inr ⟨rfl, by rw [hr]; exact c, fun hh => c ((hi.one h.n6 h.lns.wid).1 hh)⟩⟩
theorem Frm.bound (h : Frm X m M0) {r : List Int} (hp : Prim X.length M0 r) : ∀ j, j < X.length → (r.getD j 0).natAbs ≤ 157464 := by
  obtain ⟨s, M, Q, e, hi⟩ := h.inv; have hl := (hi.one h.n6 h.lns.wid).1 ⟨_, hp.gnr⟩; obtain ⟨l, -, -, -, hg, hb⟩ := hi.cof h.four h.n6 h.lns.wid hl h.nine; intro j hj; obtain ⟨t, ht⟩ := prim_mul hp.len hp.gc (hp.gnr.2.2 _ hg.1); have ht0 : t ≠ 0 := fun e => by
    obtain ⟨i, hi, hi0⟩ := hg.2.1; rw [ht i hi, e, Int.zero_mul] at hi0; exact hi0 rfl
  have h1 := hb j hj; rw [ht j hj, Int.natAbs_mul] at h1; have : 1 * (r.getD j 0).natAbs ≤ t.natAbs * (r.getD j 0).natAbs := Nat.mul_le_mul_right _ (by omega); omega
end
def sub (X : List (List Int)) (B : List Nat) : List (List Int) := B.map fun e => X.getD e []
def sl (M0 : List (List Int)) (B : List Nat) : List (List Int) := M0.map fun r => pad (some6 (toI B) r)
theorem Yo (X : List (List Int)) (B : List Nat) : (sub X B).length = B.length := by simp [sub]
theorem columns_mk {M0 : List (List Int)} {B : List Nat} (h6 : Six M0) (h0 : 0 < M0.length) (h1 : M0.length ≤ 1000) (hB : B.length ≤ 6) (hb : ∀ b ∈ B, b < 6) : Z7.f (M0.map mk6) (toI B) = some ((sl M0 B).map mk6) := by
  unfold Z7.f; rw [if_pos ⟨by simpa using h0, by simpa using h1, by rw [Ve]; exact hB, fun j hj => by
    obtain ⟨b, hbm, rfl⟩ := List.mem_map.1 hj; have := hb b hbm; omega⟩]
  congr 1; unfold sl; rw [List.map_map, List.map_map]; refine List.map_congr_left fun r hr => ?_
  show mk6 (colOf (toI B) (mk6 r)) = mk6 (pad (some6 (toI B) r))
  unfold colOf; rw [L6_mk6 (h6 r hr)]
theorem some6_at (B : List Nat) (r : List Int) (j : Nat) (h : j < B.length) : (some6 (toI B) r).getD j 0 = r.getD (B.getD j 0) 0 := by
  unfold some6 toI; rw [List.map_map, Zg _ j _ (by simpa using h), List.getElem_map, Zg B j _ h]; simp
theorem sl_at (M0 : List (List Int)) (B : List Nat) (b j : Nat) : (lineAt (sl M0 B) b).getD j 0 = if j < B.length then (lineAt M0 b).getD (B.getD j 0) 0 else 0 := by
  by_cases hb : b < M0.length
  · have e : lineAt (sl M0 B) b = pad (some6 (toI B) (lineAt M0 b)) := by
      rw [Z2 _ b (by simpa [sl] using hb), Z2 M0 b hb]; simp [sl]
    rw [e, pad_getD]; by_cases hj : j < B.length
    · rw [if_pos hj, some6_at B _ j hj]
    · rw [if_neg hj]; exact ZV (by simp [some6, toI]; omega)
  · rw [Z0 (sl M0 B) b (by simp [sl]; omega), Z0 M0 b (by omega)]; split <;> simp
theorem Jp {B : List Nat} {n j : Nat} (hb : ∀ b ∈ B, b < n) (hj : j < B.length) : B.getD j 0 < n := by
  rw [Zg B j _ hj]; exact hb _ (List.getElem_mem hj)
section
variable {X : List (List Int)} {m : Nat} {M0 : List (List Int)} {B : List Nat}
theorem Frm.sub (h : Frm X m M0) (hB0 : 1 ≤ B.length) (hB6 : B.length ≤ 6) (hb : ∀ b ∈ B, b < X.length) : Frm (sub X B) m (sl M0 B) where
  lns := {
    len := by have := h.lns.len; simpa [sl] using this
    six := fun r hr => by
      obtain ⟨x, -, rfl⟩ := List.mem_map.1 hr; exact Uo (by simp [some6, toI]; omega)
    fn := fun k hk => by
      funext j
      show (lineAt (sl M0 B) k).getD j 0 = ((P.sub X B).getD j []).getD ((List.range m).getD k 0) 0
      rw [sl_at]; by_cases hj : j < B.length
      · rw [if_pos hj]; have := congrFun (h.lns.fn k hk) (B.getD j 0); have e : (P.sub X B).getD j [] = X.getD (B.getD j 0) [] := by
          unfold P.sub; rw [Zg _ j _ (by simpa using hj), List.getElem_map, Zg B j _ hj]
        rw [e]; exact this
      · rw [if_neg hj]; rw [List.getD_eq_getElem?_getD (l := P.sub X B), List.getElem?_eq_none (by rw [Yo]; omega)]; rfl }
  sgn := by
    obtain ⟨s, h1, h2⟩ := h.sgn; refine ⟨fun j => s (B.getD j 0), fun j => h1 _, fun b => ?_⟩; obtain ⟨g, hg, h3⟩ := h2 b; refine ⟨g, hg, fun j => ?_⟩; rw [sl_at]; by_cases hj : j < B.length
    · rw [if_pos hj]; exact h3 _
    · rw [if_neg hj]; simp
  n1 := by rw [Yo]; exact hB0
  n6 := by rw [Yo]; exact hB6
  m1 := h.m1
  m4 := h.m4
  small := fun c hc e he => by
    obtain ⟨x, hx, rfl⟩ := List.mem_map.1 hc; rw [Zg X x _ (hb x hx)]; exact h.small _ (List.getElem_mem _) e he
  nine := fun b j => by
    rw [sl_at]; split
    · exact h.nine _ _
    · simp
theorem kl_sub (hB : B.Nodup) {n : Nat} (hb : ∀ b ∈ B, b < n) {v : Nat → Int} (hv : ∀ j, j < n → v j ≠ 0 → j ∈ B) : KL n M0 v ↔ KL B.length (sl M0 B) (rst B v) := by
  have e : ∀ b, dt n (fn (lineAt M0 b)) v = dt B.length (fn (lineAt (sl M0 B) b)) (rst B v) := fun b => by
    rw [dt_rst hB hb _ hv]; refine YS _ (fun j hj => ?_) (fun _ _ => rfl); show (lineAt M0 b).getD (B.getD j 0) 0 = (lineAt (sl M0 B) b).getD j 0
    rw [sl_at, if_pos hj]
  constructor
  · rintro h r ⟨b, rfl⟩; rw [← e]; exact h _ ⟨b, rfl⟩
  · rintro h r ⟨b, rfl⟩; rw [e]; exact h _ ⟨b, rfl⟩
def good (M0 : List (List Int)) (B : List Nat) : Bool := (gsl (sl M0 B) B.length).2 && pos (gsl (sl M0 B) B.length).1
theorem pos_at {r : List Int} (h : pos r = true) {j : Nat} (hj : j < r.length) : 1 ≤ r.getD j 0 := by
  rw [Zg r j _ hj]; exact of_decide_eq_true (List.all_eq_true.1 h _ (List.getElem_mem hj))
theorem pos_of {r : List Int} (h : ∀ j, j < r.length → 1 ≤ r.getD j 0) : pos r = true := List.all_eq_true.2 fun x hx => by
  obtain ⟨j, hj, rfl⟩ := List.mem_iff_getElem.1 hx; have := h j hj; rw [Zg r j _ hj] at this; exact decide_eq_true this
theorem prim_pos {n : Nat} {r : List Int} (hp : Prim n M0 r) {u : Nat → Int} (hu : KL n M0 u) (h0 : ∀ j, j < n → 0 < u j) : pos r = true := by
  obtain ⟨t, ht⟩ := prim_mul hp.len hp.gc (hp.gnr.2.2 u hu); obtain ⟨k, hk, hk0⟩ := hp.gnr.2.1; have hkl : (nzi r).toNat < r.length := (nzi_nn r k hk0).2.1; have h1 := h0 _ (by rw [← hp.len]; exact hkl); rw [ht _ (by rw [← hp.len]; exact hkl)] at h1; have h2 := hp.pos; have htp : 0 < t := by
    by_cases c : 0 < t
    · exact c
    · have := Int.mul_nonneg (show 0 ≤ -t by omega) (show 0 ≤ r.getD (nzi r).toNat 0 by omega); rw [Int.neg_mul] at this; omega
  refine pos_of fun j hj => ?_
  have h3 := h0 j (by rw [← hp.len]; exact hj); rw [ht j (by rw [← hp.len]; exact hj)] at h3; by_cases c : 1 ≤ r.getD j 0
  · exact c
  · have := Int.mul_nonneg (show 0 ≤ t by omega) (show 0 ≤ -r.getD j 0 by omega); rw [Int.mul_neg] at this; omega
theorem Frm.good_to (h : Frm X m M0) (hB : B.Nodup) (hb : ∀ b ∈ B, b < X.length) (hB0 : 1 ≤ B.length) (hB6 : B.length ≤ 6) (hg : good M0 B = true) :
    ∃ r, gsl (sl M0 B) B.length = (r, true) ∧ r.length = B.length ∧ pos r = true ∧ KL X.length M0 (ext B (fn r)) ∧ (∀ j, 0 ≤ ext B (fn r) j ∧ ext B (fn r) j ≤ 157464) ∧ (∀ j ∈ B, 0 < ext B (fn r) j) := by
  have hf := h.sub hB0 hB6 hb; obtain ⟨h1, h2⟩ := Bool.and_eq_true_iff.1 hg; have hs := hf.sol.2; rw [Yo] at hs; rcases hs with ⟨-, -, hp⟩ | ⟨e, -⟩
  · have hbd := hf.bound (r := (gsl (sl M0 B) B.length).1) (by rw [Yo]; exact hp); rw [Yo] at hbd; generalize hgs : gsl (sl M0 B) B.length = g at *; obtain ⟨r, b⟩ := g; simp only at h1 h2 hp hbd; subst h1; have hat : ∀ k, k < B.length → ext B (fn r) (B.getD k 0) = r.getD k 0 := fun k hk => Vv B (fn r) k hB hk
    refine ⟨r, rfl, hp.len, h2, ?_, fun j => ?_, fun j hj => ?_⟩
    · rw [kl_sub (M0 := M0) hB hb (fun j _ hj => by
        by_cases c : j ∈ B
        · exact c
        · exact absurd (YR B _ j c) hj)]
      rintro x ⟨b, rfl⟩; rw [← hp.gnr.1 _ ⟨b, rfl⟩]; exact YS _ (fun _ _ => rfl) (fun k hk => hat k hk)
    · by_cases c : j ∈ B
      · obtain ⟨k, hk, rfl⟩ := List.getElem_of_mem c; have e := hat k hk; rw [Zg B k _ hk] at e; rw [e]; have h3 := hbd k hk; have h4 := pos_at h2 (j := k) (by rw [hp.len]; exact hk); omega
      · rw [YR B _ j c]; omega
    · obtain ⟨k, hk, rfl⟩ := List.getElem_of_mem hj; have e := hat k hk; rw [Zg B k _ hk] at e; rw [e]; have h4 := pos_at h2 (j := k) (by rw [hp.len]; exact hk); omega
  · rw [e] at h1; cases h1
theorem Frm.good_of (h : Frm X m M0) (hB : B.Nodup) (hb : ∀ b ∈ B, b < X.length) (hB0 : 1 ≤ B.length) (hB6 : B.length ≤ 6) {u : Nat → Int} (hu : KL X.length M0 u) (hsp : ∀ j, j < X.length → (u j ≠ 0 ↔ j ∈ B)) (hp : ∀ j, j < X.length → 0 ≤ u j) (hm : ∀ w, KL X.length M0 w → (∀ j, j < X.length → w j ≠ 0 → u j ≠ 0) → Prp X.length u w) : good M0 B = true := by
  have hf := h.sub hB0 hB6 hb; have hs := hf.sol.2; rw [Yo] at hs; have hk : KL B.length (sl M0 B) (rst B u) := (kl_sub hB hb (fun j hj h => (hsp j hj).1 h)).1 hu; have hup : ∀ j, j < B.length → 0 < rst B u j := fun j hj => by
    have hl := Jp hb hj; have h1 := hp _ hl; have h2 := (hsp _ hl).2 (by rw [Zg B j _ hj]; exact List.getElem_mem hj); show 0 < u (B.getD j 0)
    omega
  have hg : Gnr B.length (KL B.length (sl M0 B)) (rst B u) := by
    refine ⟨hk, ⟨0, hB0, by have := hup 0 hB0; omega⟩, fun w hw => ?_⟩; have hw2 : KL X.length M0 (ext B w) := by
      rw [kl_sub hB hb (fun j _ hj => by
        by_cases c : j ∈ B
        · exact c
        · exact absurd (YR B _ j c) hj)]
      rintro x ⟨b, rfl⟩; rw [← hw _ ⟨b, rfl⟩]; exact YS _ (fun _ _ => rfl) (fun k hk => Vv B w k hB hk)
    have hpp := hm _ hw2 (fun j hj h1 => (hsp j hj).2 (by
      by_cases c : j ∈ B
      · exact c
      · exact absurd (YR B _ j c) h1))
    intro j hj k hk; have := hpp _ (Jp hb hj) _ (Jp hb hk); rw [Vv B w j hB hj, Vv B w k hB hk] at this; exact this
  rcases hs with ⟨h1, -, hpr⟩ | ⟨-, -, hno⟩
  · unfold good; rw [h1, prim_pos hpr hk hup]; rfl
  · exact absurd ⟨_, hg⟩ hno
theorem spt_inc (n : Nat) (u : Nat → Int) : (spt n u).Pairwise (· < ·) := by
  unfold spt; exact List.pairwise_lt_range.filter _
def Cb (n : Nat) (M0 : List (List Int)) : Prop := ∀ i, i < n → ∃ s, s < 2 ^ n ∧ i ∈ bits s ∧ good M0 (bits s) = true
theorem Jn {n s : Nat} (h : n < 7) (hs : s < 2 ^ n) : (bits s).Nodup ∧ (∀ b ∈ bits s, b < n) ∧ (bits s).length ≤ 6 := by
  have h64 : s < 64 := Nat.lt_of_lt_of_le hs (Nat.pow_le_pow_right (by omega) (show n ≤ 6 by omega)); refine ⟨(Jo s h64).imp (fun h => by omega), bits_lt_dec n h s hs, ?_⟩; unfold bits; exact Nat.le_trans (List.length_filter_le _ _) (by simp)
theorem Frm.cb_iff (h : Frm X m M0) : Cb X.length M0 ↔ ∃ v, KL X.length M0 v ∧ ∀ i, i < X.length → 0 < v i := by
  have h6 := h.n6; constructor
  · intro hc; have key : ∀ k, k ≤ X.length → ∃ v, KL X.length M0 v ∧ (∀ j, 0 ≤ v j) ∧ ∀ i, i < k → 0 < v i := by
      intro k; induction k with
      | zero => exact fun _ => ⟨fun _ => 0, fun r _ => Y2 _ _ _ (fun j _ => by simp), fun _ => Int.le_refl _, fun i hi => by omega⟩
      | succ k ih =>
        intro hk; obtain ⟨v, v1, v2, v3⟩ := ih (by omega); obtain ⟨s, s1, s2, s3⟩ := hc k (by omega); obtain ⟨b1, b2, b3⟩ := Jn (by omega) s1; obtain ⟨r, -, -, -, r1, r2, r3⟩ := h.good_to b1 b2 (List.length_pos_of_mem s2) b3 s3; refine ⟨comb 1 v 1 (ext (bits s) (fn r)), ker_cl _ _ _ _ _ _ v1 r1, fun j => ?_, fun i hi => ?_⟩
        · show 0 ≤ 1 * v j + 1 * ext (bits s) (fn r) j
          have := v2 j; have := (r2 j).1; omega
        · show 0 < 1 * v i + 1 * ext (bits s) (fn r) i
          have := v2 i; have := (r2 i).1; by_cases c : i = k
          · subst c; have := r3 i s2; omega
          · have := v3 i (by omega); omega
    obtain ⟨v, v1, -, v3⟩ := key X.length (Nat.le_refl _); exact ⟨v, v1, v3⟩
  · rintro ⟨v, hv, hp⟩ i hi; obtain ⟨u, u1, u2, u3, u4, u5⟩ := UT (ker_cl X.length (Sp M0)) X.length i hi _ v (Nat.le_refl _) hv (fun j hj => by have := hp j hj; omega) (hp i hi); have hi' : i ∈ spt X.length u := Yv.2 ⟨hi, by omega⟩; obtain ⟨c1, c2⟩ := inc_chs (n := X.length) (by omega) (spt_inc X.length u) (fun x hx => (Yv.1 hx).1); have c3 := List.mem_range.1 (List.mem_filter.1 c1).1; refine ⟨msk (spt X.length u), c3, by rw [c2]; exact hi', ?_⟩; rw [c2]; obtain ⟨b1, b2, b3⟩ := Jn (by omega) c3; rw [c2] at b1 b2 b3; exact h.good_of b1 b2 (List.length_pos_of_mem hi') b3 u1 (fun j hj => ⟨fun h => Yv.2 ⟨hj, h⟩, fun h => (Yv.1 h).2⟩) u2 u5
end
end Go.Proofs.Ytdneelgnmnpanaa.P
end
section
namespace Go.Proofs.Ytdneelgnmnpanaa.P
open Go.RowKit Go.Proofs.YtdneelgnmnpanaaW.PrintWords Go.Proofs.Det
set_option maxRecDepth 100000
theorem shl_dec : ∀ n : Nat, n < 7 → Go.Proofs.YtdneelgnmnpanaaW.PrintWords.shl .i64 1 (n : Int) = ((2 ^ n : Nat) : Int) := by decide +kernel
theorem bit_dec : ∀ s : Nat, s < 64 → ∀ i : Nat, i < 6 → Go.bits .and .i64 (shr .i64 (s : Int) (i : Int)) 1 = if s.testBit i then 1 else 0 := by decide +kernel
theorem tk_dec : ∀ n : Nat, n < 7 → ∀ s : Nat, s < 2 ^ n → (List.range n).filter (fun i => s.testBit i) = bits s := by decide +kernel
theorem pow64 {n s : Nat} (h : n < 7) (hs : s < 2 ^ n) : s < 64 := Nat.lt_of_lt_of_le hs (Nat.pow_le_pow_right (by omega) (show n ≤ 6 by omega))
theorem mem_bits {n s i : Nat} (h : n < 7) (hs : s < 2 ^ n) : i ∈ bits s ↔ i < n ∧ s.testBit i = true := by
  rw [← tk_dec n h s hs, List.mem_filter, List.mem_range]
theorem frm_ml {I O : List (List Int)} (h : vl I O = 0) : Frm (cols I O) (I.getD 0 []).length (ml I O) := by
  obtain ⟨h1, h2, h3, h4, h5, h6, h7⟩ := Yk h; obtain ⟨a1, a2⟩ := Y6 h; refine ⟨ml_lns h, ⟨csn I.length, csn_one I.length, fun b => ⟨1, .inl rfl, fun j => ?_⟩⟩, by rw [Yp]; omega, by rw [Yp]; omega, h5, h6, cols_small h, fun b j => ?_⟩
  · rw [Int.one_mul]; by_cases hb : b < (I.getD 0 []).length
    · rw [ml_at I O b hb]; exact (Up I O a1 a2 b j).1
    · rw [Z0 _ _ (by rw [YB]; omega)]; simp
  · by_cases hb : b < (I.getD 0 []).length
    · rw [ml_at I O b hb]; exact (Up I O a1 a2 b j).2
    · rw [Z0 _ _ (by rw [YB]; omega)]; simp
structure FewOk (n : Nat) (M0 : List (List Int)) (i : Nat) (l : List Int) : Prop where
  len : l.length = n
  kl : KL n M0 (fn l)
  bd : ∀ j, 0 ≤ l.getD j 0 ∧ l.getD j 0 ≤ 157464
  pos : 0 < l.getD i 0
theorem few_l2 (r : List Int) {B : List Nat} {n : Nat} (hr : r.length = B.length) (hB : B.Nodup) (hb : ∀ b ∈ B, b < n) (hB6 : B.length ≤ 6) (R : List Int → Prop)
    (hend : ∀ o : List Int, o.length = n → (∀ j, o.getD j 0 = ext B (fn r) j) → R o) : ∀ (d k : Nat) (o : List Int), k + d = B.length → o.length = n → (∀ j, o.getD j 0 = if j ∈ B.take k then ext B (fn r) j else 0) →
    ∃ o', R o' ∧ Ev (fun f => QH.l2 f r o (toI B) (B.length : Int) (k : Int)) (o', true) := by
  intro d; induction d with
  | zero =>
    intro k o hk ho hj; refine ⟨o, hend o ho (fun j => ?_), Ev.step (fun f => by rw [QH.l2]) ?_⟩
    · rw [hj, List.take_of_length_le (by omega)]; by_cases c : j ∈ B
      · rw [if_pos c]
      · rw [if_neg c, YR B _ j c]
    · have f1 : ¬ ((k : Int) < (B.length : Int)) := by omega
      simp only [f1, if_false]; exact Ev.now _
  | succ d ih =>
    intro k o hk ho hj; have hkB : k < B.length := by omega
    have hbk := hb _ (List.getElem_mem hkB); have f1 : ((k : Int) < (B.length : Int)) := by omega
    have f2 : (0 : Int) ≤ (k : Int) := by omega
    have f3 : ((k : Int) < (r.length : Int)) := by omega
    have f4 : (0 : Int) ≤ (B[k] : Int) := by omega
    have f5 : ((B[k] : Int) < (o.length : Int)) := by omega
    obtain ⟨o', a1, a2⟩ := ih (k + 1) (o.set B[k] (r.getD k 0)) (by omega) (by rw [List.length_set]; exact ho) (fun j => by
      rw [List.take_succ_eq_append_getElem hkB]; have hx : ext B (fn r) B[k] = r.getD k 0 := by
        have := Vv B (fn r) k hB hkB; rwa [Zg B k _ hkB] at this
      by_cases c : B[k] = j
      · subst c; rw [if_pos (List.mem_append_right _ (List.mem_singleton.2 rfl)), hx, Zg _ _ _ (by rw [List.length_set]; omega), List.getElem_set_self]
      · rw [List.getD_eq_getElem?_getD, List.getElem?_set_ne c, ← List.getD_eq_getElem?_getD, hj]; have : j ∈ B.take k ++ [B[k]] ↔ j ∈ B.take k := by
          rw [List.mem_append, List.mem_singleton]; exact ⟨fun h => h.resolve_right (fun e => c e.symm), fun h => .inl h⟩
        by_cases c2 : j ∈ B.take k
        · rw [if_pos c2, if_pos (this.2 c2)]
        · rw [if_neg c2, if_neg (fun h => c2 (this.1 h))])
    refine ⟨o', a1, Ev.step (fun f => by rw [QH.l2]) ?_⟩; simp only [Ve, f1, f2, if_true, f3, rdn, toI_at _ k hkB, f4, f5, Int.toNat_natCast]; rw [Z4 (m := B.length) hkB (by omega)]; exact a2
theorem few_l1 (I O : List (List Int)) {n s : Nat} (hn : n < 7) (hs : s < 2 ^ n) (i : Int) (N S : Int) (R : List Int × Bool) (hend : Ev (fun k => QH.l1 k i (s : Int) (toI (bits s)) N S (n : Int) (n : Int) I O) R) : ∀ (d j : Nat), j + d = n →
    Ev (fun k => QH.l1 k i (s : Int) (toI ((List.range j).filter fun i => s.testBit i)) N S (n : Int) (j : Int) I O) R := by
  intro d; induction d with
  | zero =>
    intro j hj; rw [show j = n by omega, tk_dec n hn s hs]; exact hend
  | succ d ih =>
    intro j hj; have f1 : ((j : Int) < (n : Int)) := by omega
    have f2 : (0 : Int) ≤ (j : Int) := by omega
    have f3 : (toI ((List.range j).filter fun i => s.testBit i)).length < 17592186044416 := by
      rw [Ve]; exact Nat.lt_of_le_of_lt (List.length_filter_le _ _) (by rw [List.length_range]; omega)
    have hb := bit_dec s (pow64 hn hs) j (by omega); have hih := ih (j + 1) (by omega); rw [List.range_succ, List.filter_append] at hih; refine Ev.step (fun k => by rw [QH.l1]) ?_; simp only [f1, f2, if_true, hb, f3]; rw [Z4 (m := n) (by omega) (by omega)]; cases c : s.testBit j
    · have e : [j].filter (fun i => s.testBit i) = [] := by simp [c]
      rw [e, List.append_nil] at hih; simp only [Bool.false_eq_true, if_false, show ¬ ((0 : Int) = 1) by decide]; exact hih
    · have e : [j].filter (fun i => s.testBit i) = [j] := by simp [c]
      rw [e, show toI ((List.range j).filter (fun i => s.testBit i) ++ [j]) = toI ((List.range j).filter fun i => s.testBit i) ++ [(j : Int)] by simp [toI]] at hih; simp only [if_true]; exact hih
theorem few_l0 {I O : List (List Int)} (h : vl I O = 0) {i : Nat} (hi : i < I.length + O.length) : ∀ (d s : Nat), s + d = 2 ^ (I.length + O.length) →
    ∃ res, Ev (fun k => QH.l0 k (i : Int) ((2 ^ (I.length + O.length) : Nat) : Int) (s : Int) I O) res ∧ ((res.2 = true ∧ FewOk (I.length + O.length) (ml I O) i res.1) ∨ (res = ([], false) ∧ ∀ s', s ≤ s' → s' < 2 ^ (I.length + O.length) → i ∈ bits s' → good (ml I O) (bits s') = false)) := by
  have hf := frm_ml h; obtain ⟨h1, h2, h3, h4, h5, h6, h7⟩ := Yk h; have hn : I.length + O.length < 7 := by omega
  have Fx : 2 ^ (I.length + O.length) ≤ 2 ^ 6 := Nat.pow_le_pow_right (by omega) (by omega); intro d; induction d with
  | zero =>
    intro s hs; refine ⟨([], false), Ev.step (fun k => by rw [QH.l0]) ?_, .inr ⟨rfl, fun s' a b => by omega⟩⟩; have f1 : ¬ ((s : Int) < ((2 ^ (I.length + O.length) : Nat) : Int)) := by omega
    simp only [f1, if_false]; exact Ev.now _
  | succ d ih =>
    intro s hs; have hs2 : s < 2 ^ (I.length + O.length) := by omega
    have s7 := pow64 hn hs2; have f1 : ((s : Int) < ((2 ^ (I.length + O.length) : Nat) : Int)) := by omega
    have f2 : (0 : Int) ≤ (i : Int) := by omega
    have hb := bit_dec s s7 i (by omega); obtain ⟨res, r1, r2⟩ := ih (s + 1) (by omega); by_cases c : s.testBit i = true
    · have himem : i ∈ bits s := (mem_bits hn hs2).2 ⟨hi, c⟩; obtain ⟨b1, b2, b3⟩ := Jn hn hs2; have hB0 := List.length_pos_of_mem himem; have hcl := Yp I O; have hfs := hf.sub (B := bits s) hB0 b3 (fun b hb => by rw [hcl]; exact b2 b hb); have hsol := hfs.sol; rw [Yo] at hsol; suffices ∃ res, Ev (fun k => QH.l1 k (i : Int) (s : Int) (toI (bits s)) ((2 ^ (I.length + O.length) : Nat) : Int) (s : Int) ((I.length + O.length : Nat) : Int) ((I.length + O.length : Nat) : Int) I O) res ∧ ((res.2 = true ∧ FewOk (I.length + O.length) (ml I O) i res.1) ∨ (res = ([], false) ∧ ∀ s', s ≤ s' → s' < 2 ^ (I.length + O.length) → i ∈ bits s' → good (ml I O) (bits s') = false)) by
        obtain ⟨res, e1, e2⟩ := this; refine ⟨res, Ev.step (fun k => by rw [QH.l0]) ?_, e2⟩; rw [c] at hb; simp only [f1, f2, if_true, hb, show ¬ ((1 : Int) = 0) by decide, if_false, YJ I O (by omega), Option.bind_some]; exact few_l1 I O hn hs2 _ _ _ res e1 (I.length + O.length) 0 (by omega)
      have hrest : good (ml I O) (bits s) = false → ((res.2 = true ∧ FewOk (I.length + O.length) (ml I O) i res.1) ∨ (res = ([], false) ∧ ∀ s', s ≤ s' → s' < 2 ^ (I.length + O.length) → i ∈ bits s' → good (ml I O) (bits s') = false)) := fun hg => by
        rcases r2 with r2 | ⟨r2, r3⟩
        · exact .inl r2
        · refine .inr ⟨r2, fun s' a b q => ?_⟩; by_cases e : s' = s
          · rw [e]; exact hg
          · exact r3 s' (by omega) b q
      have f3 : ¬ (((I.length + O.length : Nat) : Int) < ((I.length + O.length : Nat) : Int)) := Int.lt_irrefl _; have hcm := columns_mk (M0 := ml I O) (B := bits s) (ml_six h) (by rw [YB]; omega) (by rw [YB]; omega) b3 (fun b hb => by have := b2 b hb; omega); by_cases hg : good (ml I O) (bits s) = true
      · obtain ⟨r, g1, g2, g3, g4, g5, g6⟩ := hf.good_to b1 (fun b hb => by rw [hcl]; exact b2 b hb) hB0 b3 hg; rw [g1] at hsol; rw [hcl] at g4; have hmn := min_ev r (by omega) (by omega); have hdec : decide ((r.drop 1).foldl mn (r.getD 0 0) ≤ 0) = false := decide_eq_false (fun hh => (min_pos2 r (by omega)).1 hh g3); obtain ⟨o, o1, o2⟩ := few_l2 r (n := I.length + O.length) g2 b1 b2 b3 (fun o => FewOk (I.length + O.length) (ml I O) i o) (fun o ho hj => ⟨ho, by
          rintro x ⟨b, rfl⟩; rw [← g4 _ ⟨b, rfl⟩]; exact YS _ (fun _ _ => rfl) (fun k _ => hj k), fun j => by rw [hj]; exact g5 j, by rw [hj]; exact g6 i himem⟩) (bits s).length 0 (List.replicate (I.length + O.length) 0) (by omega) (by simp) (fun j => by
          rw [List.take_zero, if_neg (by simp), List.getD_eq_getElem?_getD, List.getElem?_replicate]; split <;> rfl)
        refine ⟨(o, true), ?_, .inl ⟨rfl, o1⟩⟩; refine Ev.step (fun k => by rw [QH.l1]) ?_; simp only [f3, if_false, lines_mk h, Option.bind_some, hcm, Ve, hsol.1, if_true]; refine Ev.bind hmn ?_; rw [hdec]; refine Ev.step (fun k => by rw [QH.j2]) ?_; have f4 : (0 : Int) ≤ ((I.length + O.length : Nat) : Int) := by omega
        have f5 : (((I.length + O.length : Nat) : Int)).toNat ≤ 35184372088832 := by omega
        simp only [Bool.false_eq_true, if_false, YJ I O (by omega), Option.bind_some, f4, f5, if_true, Ve]; rw [Int.toNat_natCast]; exact o2
      · have hg' : good (ml I O) (bits s) = false := by simpa using hg
        refine ⟨res, ?_, hrest hg'⟩; refine Ev.step (fun k => by rw [QH.l1]) ?_; simp only [f3, if_false, lines_mk h, Option.bind_some, hcm, Ve, hsol.1]; have hj2 : ∀ z, Ev (fun k => QH.j2 k (i : Int) (toI (bits s)) z ((2 ^ (I.length + O.length) : Nat) : Int) (s : Int) true I O) res := fun z => Ev.step (fun k => by rw [QH.j2]) (by
          simp only [if_true]; rw [Z4 (m := 64) s7 (by decide)]; exact r1)
        rcases hsol.2 with ⟨q1, -, q3⟩ | ⟨q1, -⟩
        · simp only [q1, if_true]; have hnp : ¬ pos (gsl (sl (ml I O) (bits s)) (bits s).length).1 = true := fun hh => hg (by unfold good; rw [q1, hh]; rfl)
          have hlen := q3.len; refine Ev.bind (min_ev _ (by omega) (by omega)) ?_; rw [decide_eq_true ((min_pos2 _ (by omega)).2 hnp)]; exact hj2 _
        · simp only [q1, Bool.false_eq_true, if_false]; exact hj2 _
    · refine ⟨res, Ev.step (fun k => by rw [QH.l0]) ?_, ?_⟩
      · rw [if_neg c] at hb; simp only [f1, f2, if_true, hb]; rw [Z4 (m := 64) s7 (by decide)]; exact r1
      · rcases r2 with r2 | ⟨r2, r3⟩
        · exact .inl r2
        · refine .inr ⟨r2, fun s' a b q => ?_⟩; by_cases e : s' = s
          · rw [e] at q; exact absurd ((mem_bits hn hs2).1 q).2 c
          · exact r3 s' (by omega) b q
theorem few_ev {I O : List (List Int)} (h : vl I O = 0) {i : Nat} (hi : i < I.length + O.length) :
    ∃ res, Ev (fun k => QH.f k I O (i : Int)) res ∧ ((res.2 = true ∧ FewOk (I.length + O.length) (ml I O) i res.1) ∨ (res = ([], false) ∧ ∀ s', s' < 2 ^ (I.length + O.length) → i ∈ bits s' → good (ml I O) (bits s') = false)) := by
  obtain ⟨h1, h2, h3, h4, -⟩ := Yk h; obtain ⟨res, r1, r2⟩ := few_l0 h hi (2 ^ (I.length + O.length)) 0 (by omega); refine ⟨res, ?_, r2.imp id (fun ⟨a, b⟩ => ⟨a, fun s' => b s' (Nat.zero_le _)⟩)⟩; unfold QH.f; rw [YJ I O (by omega)]; have f4 : (0 : Int) ≤ ((I.length + O.length : Nat) : Int) := by omega
  simp only [Option.bind_some, f4, if_true]; rw [shl_dec _ (by omega)]; exact r1
def plz (x y : List Int) : List Int := List.zipWith (fun a b => a + b) x y
theorem Y1 {x y : List Int} (h : x.length = y.length) : (plz x y).length = x.length := by simp [plz]; omega
theorem Ja {x y : List Int} (h : x.length = y.length) (j : Nat) : (plz x y).getD j 0 = x.getD j 0 + y.getD j 0 := by
  by_cases hj : j < x.length
  · rw [Zg _ j _ (by rw [Y1 h]; exact hj), Zg x j _ hj, Zg y j _ (by omega)]; simp [plz]
  · rw [ZV (by rw [Y1 h]; omega), ZV (l := x) (by omega), ZV (l := y) (by omega)]; rfl
theorem addw {a b : Int} (ha : 0 ≤ a ∧ a ≤ 10000000) (hb : 0 ≤ b ∧ b ≤ 10000000) : wrap64 (a + b) = a + b := wrp (by omega) (by omega)
theorem bal_l1 (I O : List (List Int)) {n : Nat} (hn : n ≤ 6) (i : Nat) (o l : List Int) (ho : o.length = n) (hl : l.length = n) (hob : ∀ j, 0 ≤ o.getD j 0 ∧ o.getD j 0 ≤ 10000000) (hlb : ∀ j, 0 ≤ l.getD j 0 ∧ l.getD j 0 ≤ 10000000) (R : List Int × Bool)
    (hend : Ev (fun k => QQ.l0 k (plz o l) (n : Int) (wrap64 ((i : Int) + 1)) I O) R) : ∀ (d j : Nat), j + d = n →
    Ev (fun k => QQ.l1 k ((plz o l).take j ++ o.drop j) (n : Int) (i : Int) l (n : Int) (j : Int) I O) R := by
  have hpl := Y1 (x := o) (y := l) (by omega); intro d; induction d with
  | zero =>
    intro j hj; refine Ev.step (fun k => by rw [QQ.l1]) ?_; have f1 : ¬ ((j : Int) < (n : Int)) := by omega
    simp only [f1, if_false]; rw [List.take_of_length_le (by omega), List.drop_eq_nil_of_le (by omega), List.append_nil]; exact hend
  | succ d ih =>
    intro j hj; have hjn : j < n := by omega
    have f1 : ((j : Int) < (n : Int)) := by omega
    have f2 : (0 : Int) ≤ (j : Int) := by omega
    have f3 : ((j : Int) < (l.length : Int)) := by omega
    have hlen : ((plz o l).take j ++ o.drop j).length = n := by rw [List.length_append, List.length_take, List.length_drop]; omega
    have hat : ((plz o l).take j ++ o.drop j).getD j 0 = o.getD j 0 := by
      rw [List.getD_eq_getElem?_getD, List.getElem?_append_right (by rw [List.length_take]; omega), List.length_take, List.getElem?_drop, show min j (plz o l).length = j by omega, Nat.sub_self, Nat.add_zero, List.getD_eq_getElem?_getD]
    have hset : ((plz o l).take j ++ o.drop j).set j (o.getD j 0 + l.getD j 0) = (plz o l).take (j + 1) ++ o.drop (j + 1) := by
      rw [List.set_append_right _ _ (by rw [List.length_take]; omega), List.length_take, show j - min j (plz o l).length = 0 by omega, List.drop_eq_getElem_cons (show j < o.length by omega), List.set_cons_zero, List.take_succ_eq_append_getElem (show j < (plz o l).length by omega), ← Ja (by omega), Zg (plz o l) j _ (by omega), List.append_assoc]; rfl
    have hw := addw (hob j) (hlb j); refine Ev.step (fun k => by rw [QQ.l1]) ?_; simp only [f1, f2, if_true, f3, hlen, rdn, hat, hw, Int.toNat_natCast, hset]; rw [Z4 (m := n) hjn (by omega)]; exact ih (j + 1) (by omega)
structure BalOk (n : Nat) (M0 : List (List Int)) (l : List Int) : Prop where
  len : l.length = n
  kl : KL n M0 (fn l)
  bd : ∀ j, j < n → 1 ≤ l.getD j 0 ∧ l.getD j 0 ≤ 1000000
theorem bal_l0 {I O : List (List Int)} (h : vl I O = 0) : ∀ (d i : Nat) (o : List Int), i + d = I.length + O.length → o.length = I.length + O.length → KL (I.length + O.length) (ml I O) (fn o) → (∀ j, 0 ≤ o.getD j 0 ∧ o.getD j 0 ≤ 157464 * (i : Int)) → (∀ j, j < i → 0 < o.getD j 0) →
    ∃ res, Ev (fun k => QQ.l0 k o ((I.length + O.length : Nat) : Int) (i : Int) I O) res ∧ ((res.2 = true ∧ BalOk (I.length + O.length) (ml I O) res.1) ∨ (res = ([], false) ∧ ¬ Cb (I.length + O.length) (ml I O))) := by
  obtain ⟨h1, h2, h3, h4, h5, h6, h7⟩ := Yk h; intro d; induction d with
  | zero =>
    intro i o hi ho hk hb hp; refine ⟨(o, true), Ev.step (fun k => by rw [QQ.l0]) ?_, .inl ⟨rfl, ho, hk, fun j hj => ?_⟩⟩
    · have f1 : ¬ ((i : Int) < ((I.length + O.length : Nat) : Int)) := by omega
      simp only [f1, if_false]; exact Ev.now _
    · have h8 := hb j; have h9 := hp j (by omega); show 1 ≤ o.getD j 0 ∧ o.getD j 0 ≤ 1000000
      omega
  | succ d ih =>
    intro i o hi ho hk hb hp; have hin : i < I.length + O.length := by omega
    have f1 : ((i : Int) < ((I.length + O.length : Nat) : Int)) := by omega
    have f2 : (0 : Int) ≤ (i : Int) := by omega
    have f3 : ((i : Int) < (o.length : Int)) := by omega
    have hn9 : I.length + O.length ≤ 9223372036854775807 := by omega
    by_cases c : o.getD i 0 > 0
    · obtain ⟨res, r1, r2⟩ := ih (i + 1) o (by omega) ho hk (fun j => by have := hb j; omega) (fun j hj => by
        by_cases e : j = i
        · rw [e]; exact c
        · exact hp j (by omega))
      refine ⟨res, Ev.step (fun k => by rw [QQ.l0]) ?_, r2⟩; simp only [f1, f2, f3, if_true, rdn, c]; rw [Z4 (m := I.length + O.length) hin hn9]; exact r1
    · obtain ⟨l, l1, l2⟩ := few_ev h hin; rcases l2 with ⟨l2, l3⟩ | ⟨l2, l3⟩
      · obtain ⟨l, b⟩ := l; simp only at l2 l3; subst l2; have hll := l3.len; obtain ⟨res, r1, r2⟩ := ih (i + 1) (plz o l) (by omega) (by rw [Y1 (by omega)]; exact ho) (by
            rintro x ⟨b, rfl⟩; have := ker_cl _ _ 1 (fn o) 1 (fn l) hk l3.kl _ ⟨b, rfl⟩; rw [← this]; refine YS _ (fun _ _ => rfl) (fun j _ => ?_); show (plz o l).getD j 0 = 1 * o.getD j 0 + 1 * l.getD j 0
            rw [Ja (by omega)]; omega) (fun j => by
            rw [Ja (by omega)]; have := hb j; have := l3.bd j; omega) (fun j hj => by
            rw [Ja (by omega)]; have := hb j; have := l3.bd j; by_cases e : j = i
            · have h9 := l3.pos; rw [← e] at h9; omega
            · have := hp j (by omega); omega)
        refine ⟨res, Ev.step (fun k => by rw [QQ.l0]) ?_, r2⟩; simp only [f1, f2, f3, if_true, rdn, c, if_false]; refine Ev.bind l1 ?_; simp only [if_true, hll]; rw [← Z4 (m := I.length + O.length) hin hn9] at r1; have := bal_l1 I O (n := I.length + O.length) (by omega) i o l ho hll (fun j => by have := hb j; omega) (fun j => by have := l3.bd j; omega) res r1 (I.length + O.length) 0 (by omega); rw [List.take_zero, List.nil_append, List.drop_zero] at this; exact this
      · refine ⟨([], false), Ev.step (fun k => by rw [QQ.l0]) ?_, .inr ⟨rfl, fun hc => ?_⟩⟩
        · simp only [f1, f2, f3, if_true, rdn, c, if_false]; refine Ev.bind l1 ?_; rw [l2]; simp only [Bool.false_eq_true, if_false]; exact Ev.now _
        · obtain ⟨s, s1, s2, s3⟩ := hc i hin; rw [l3 s s1 s2] at s3; cases s3
theorem balance_ev {I O : List (List Int)} (h : vl I O = 0) : ∃ res, Ev (fun k => QQ.f k I O) res ∧ ((res.2 = true ∧ BalOk (I.length + O.length) (ml I O) res.1) ∨ (res = ([], false) ∧ ¬ Cb (I.length + O.length) (ml I O))) := by
  obtain ⟨h1, h2, h3, h4, h5, h6, h7⟩ := Yk h; have hz : ∀ j, (List.replicate (I.length + O.length) (0 : Int)).getD j 0 = 0 := fun j => by
    rw [List.getD_eq_getElem?_getD, List.getElem?_replicate]; split <;> rfl
  obtain ⟨res, r1, r2⟩ := bal_l0 h (I.length + O.length) 0 (List.replicate (I.length + O.length) 0) (by omega) (by simp) (fun x _ => Y2 _ _ _ (fun j _ => by
    show x j * (List.replicate (I.length + O.length) (0 : Int)).getD j 0 = 0
    rw [hz, Int.mul_zero])) (fun j => by rw [hz]; omega) (fun j hj => by omega)
  refine ⟨res, ?_, r2⟩; unfold QQ.f; rw [YJ I O (by omega)]; have f4 : (0 : Int) ≤ ((I.length + O.length : Nat) : Int) := by omega
  have f5 : I.length + O.length ≤ 35184372088832 := by omega
  simp only [Option.bind_some, f4, f5, if_true, obs, List.length_replicate, Int.toNat_natCast]; exact r1
theorem balok_cb {I O : List (List Int)} (h : vl I O = 0) {l : List Int} (hl : BalOk (I.length + O.length) (ml I O) l) : Cb (I.length + O.length) (ml I O) := by
  have := (frm_ml h).cb_iff; rw [Yp] at this; exact this.2 ⟨fn l, hl.kl, fun i hi => by have := hl.bd i hi; show 0 < l.getD i 0; omega⟩
theorem YG {I O : List (List Int)} (h : Sh I O) : ∃ b, Ev (fun k => QG.f k I O) (b, vl I O) ∧ (b = true ↔ vl I O = 0 ∧ Cb (I.length + O.length) (ml I O)) := by
  by_cases c : vl I O = 0
  · obtain ⟨res, r1, r2⟩ := balance_ev c; refine ⟨res.2, ?_, ?_⟩
    · unfold QG.f; refine Ev.bind (U8 h) ?_; simp only [c, if_true]; exact Ev.bind r1 (Ev.now _)
    · rcases r2 with ⟨a, b⟩ | ⟨a, b⟩
      · exact ⟨fun _ => ⟨c, balok_cb c b⟩, fun _ => a⟩
      · rw [a]; exact ⟨fun h => absurd h (by decide), fun h => absurd h.2 b⟩
  · refine ⟨false, ?_, fun h => absurd h (by decide), fun h => absurd h.1 c⟩; unfold QG.f; refine Ev.bind (U8 h) ?_; simp only [c, if_false]; exact Ev.now _
end Go.Proofs.Ytdneelgnmnpanaa.P
end
section
namespace Go.Proofs.Ytdneelgnmnpanaa.P
open Go.RowKit Go.Proofs.YtdneelgnmnpanaaW.PrintWords Go.Proofs.Det
theorem csum_dt (e : Nat) : ∀ (L : List (List Int)) (t : List Int), t.length = L.length → dt L.length (fun j => (L.getD j []).getD e 0) (fn t) = csum L t e
  | [], t, _ => by rw [Vb]; rfl
  | c :: L, [], h => by simp at h
  | c :: L, x :: t, h => by
    rw [List.length_cons, dt_front, csum, ← csum_dt e L t (by simpa using h)]; show c.getD e 0 * x + _ = _
    rw [Int.mul_comm]; rfl
theorem ml_fn {I O : List (List Int)} (h : vl I O = 0) {q : Nat} (hq : q < (I.getD 0 []).length) : fn (lineAt (ml I O) q) = fun j => ((cols I O).getD j []).getD q 0 := by
  rw [ml_at I O q hq, Je I O (Y6 h).2]; rfl
theorem kl_csum {I O : List (List Int)} (h : vl I O = 0) {t : List Int} (ht : t.length = I.length + O.length) : KL (I.length + O.length) (ml I O) (fn t) ↔ ∀ q, q < (I.getD 0 []).length → csum I t q = csum O (t.drop I.length) q := by
  have key : ∀ q, q < (I.getD 0 []).length → dt (I.length + O.length) (fn (lineAt (ml I O) q)) (fn t) = csum I t q - csum O (t.drop I.length) q := fun q hq => by
    have := csum_dt q (cols I O) t (by rw [Yp]; exact ht); rw [Yp] at this; rw [ml_fn h hq, this]; unfold cols; rw [YT q I _ t (by omega), csum_neg q O _ (Y6 h).2]; omega
  constructor
  · intro hk q hq; have := hk _ ⟨q, rfl⟩; rw [key q hq] at this; omega
  · rintro hc r ⟨b, rfl⟩; by_cases hb : b < (I.getD 0 []).length
    · rw [key b hb, hc b hb]; omega
    · rw [Z0 _ _ (by rw [YB]; omega)]; exact Y2 _ _ _ (fun j _ => by show ([] : List Int).getD j 0 * _ = 0; simp)
theorem vl_iff (I O : List (List Int)) : vl I O = 0 ↔ ((1 ≤ I.length ∧ I.length ≤ 3) ∧ (1 ≤ O.length ∧ O.length ≤ 3) ∧ (1 ≤ (I.getD 0 []).length ∧ (I.getD 0 []).length ≤ 4)) ∧ ∀ c ∈ I ++ O, okr (I.getD 0 []).length c = true := by
  have key : (vsz I O = true ∧ (I ++ O).all (okr (I.getD 0 []).length) = true) ↔ ((1 ≤ I.length ∧ I.length ≤ 3) ∧ (1 ≤ O.length ∧ O.length ≤ 3) ∧ (1 ≤ (I.getD 0 []).length ∧ (I.getD 0 []).length ≤ 4)) ∧ ∀ c ∈ I ++ O, okr (I.getD 0 []).length c = true := by
    unfold vsz; rw [Bool.and_eq_true, Bool.and_eq_true, decide_eq_true_iff, decide_eq_true_iff, decide_eq_true_iff, List.all_eq_true]
  rw [← key]; unfold vl; by_cases c : vsz I O = true ∧ (I ++ O).all (okr (I.getD 0 []).length) = true
  · rw [if_pos c]; exact ⟨fun _ => c, fun _ => rfl⟩
  · rw [if_neg c]; exact ⟨fun h => absurd h (by decide), fun h => absurd h c⟩
theorem U2 {I J : List (List Int)} (h : 1 ≤ I.length) : (I ++ J).getD 0 [] = I.getD 0 [] := by
  rw [List.getD_eq_getElem?_getD, List.getElem?_append_left (by omega), ← List.getD_eq_getElem?_getD]
theorem vl_join {I O J R : List (List Int)} (h : vl I O = 0) (g : vl J R = 0) (e : (I.getD 0 []).length = (J.getD 0 []).length) (h1 : I.length + J.length ≤ 3) (h2 : O.length + R.length ≤ 3) : vl (I ++ J) (O ++ R) = 0 := by
  obtain ⟨⟨a1, a2, a3⟩, a4⟩ := (vl_iff I O).1 h; obtain ⟨⟨b1, b2, b3⟩, b4⟩ := (vl_iff J R).1 g; rw [vl_iff, U2 a1.1]; refine ⟨⟨⟨by rw [List.length_append]; omega, by rw [List.length_append]; omega⟩, ⟨by rw [List.length_append]; omega, by rw [List.length_append]; omega⟩, a3⟩, fun c hc => ?_⟩; rw [List.mem_append, List.mem_append, List.mem_append] at hc; rcases hc with (hc | hc) | hc | hc
  · exact a4 c (List.mem_append_left _ hc)
  · rw [e]; exact b4 c (List.mem_append_left _ hc)
  · exact a4 c (List.mem_append_right _ hc)
  · rw [e]; exact b4 c (List.mem_append_right _ hc)
theorem Vj (e : Nat) : ∀ (L : List (List Int)) (t : List Int), csum L (t.take L.length) e = csum L t e
  | [], t => by rw [Vb, Vb]
  | c :: L, [] => by rw [List.take_nil]
  | c :: L, x :: t => by rw [List.length_cons, List.take_succ_cons, csum, csum, Vj e L t]
theorem Jm {I O : List (List Int)} (h : vl I O = 0) : Cb (I.length + O.length) (ml I O) ↔ ∃ t : List Int, t.length = I.length + O.length ∧ (∀ x ∈ t, 0 < x) ∧ ∀ q, q < (I.getD 0 []).length → csum I t q = csum O (t.drop I.length) q := by
  have hcb := (frm_ml h).cb_iff; rw [Yp] at hcb; rw [hcb]; constructor
  · rintro ⟨v, v1, v2⟩; have hl : ((List.range (I.length + O.length)).map v).length = I.length + O.length := by simp
    refine ⟨(List.range (I.length + O.length)).map v, hl, fun x hx => ?_, (kl_csum h hl).1 ?_⟩
    · obtain ⟨j, hj, rfl⟩ := List.mem_map.1 hx; exact v2 j (List.mem_range.1 hj)
    · intro r hr; rw [← v1 r hr]; refine YS _ (fun _ _ => rfl) (fun j hj => ?_); show ((List.range (I.length + O.length)).map v).getD j 0 = v j
      rw [Zg _ j _ (by rw [hl]; exact hj)]; simp
  · rintro ⟨t, t1, t2, t3⟩; refine ⟨fn t, (kl_csum h t1).2 t3, fun i hi => ?_⟩; show 0 < t.getD i 0
    rw [Zg t i _ (by omega)]; exact t2 _ (List.getElem_mem _)
theorem cb_join {I O J R : List (List Int)} (h : vl I O = 0) (g : vl J R = 0) (e : (I.getD 0 []).length = (J.getD 0 []).length) (h1 : I.length + J.length ≤ 3) (h2 : O.length + R.length ≤ 3) (c1 : Cb (I.length + O.length) (ml I O)) (c2 : Cb (J.length + R.length) (ml J R)) : Cb ((I ++ J).length + (O ++ R).length) (ml (I ++ J) (O ++ R)) := by
  obtain ⟨t, t1, t2, t3⟩ := (Jm h).1 c1; obtain ⟨s, s1, s2, s3⟩ := (Jm g).1 c2; have hI := (Yk h).1; rw [Jm (vl_join h g e h1 h2), U2 hI]; have l1 : (t.take I.length).length = I.length := by rw [List.length_take]; omega
  have l2 : (s.take J.length).length = J.length := by rw [List.length_take]; omega
  have l3 : (t.drop I.length).length = O.length := by rw [List.length_drop]; omega
  have l4 : (s.drop J.length).length = R.length := by rw [List.length_drop]; omega
  refine ⟨t.take I.length ++ (s.take J.length ++ (t.drop I.length ++ s.drop J.length)), ?_, fun x hx => ?_, fun q hq => ?_⟩
  · simp only [List.length_append, l1, l2, l3, l4]; omega
  · rw [List.mem_append, List.mem_append, List.mem_append] at hx; rcases hx with hx | hx | hx | hx
    · exact t2 x (List.mem_of_mem_take hx)
    · exact s2 x (List.mem_of_mem_take hx)
    · exact t2 x (List.mem_of_mem_drop hx)
    · exact s2 x (List.mem_of_mem_drop hx)
  · have d1 : (t.take I.length ++ (s.take J.length ++ (t.drop I.length ++ s.drop J.length))).drop (I ++ J).length = t.drop I.length ++ s.drop J.length := by
      rw [← List.append_assoc, List.drop_left' (by rw [List.length_append, l1, l2, List.length_append])]
    have p1 : ∀ (L : List (List Int)) (a b : List Int), a.length = L.length → csum L (a ++ b) q = csum L a q := fun L a b hl => by
      rw [← Vj q L (a ++ b), List.take_left' hl]
    rw [d1, YT q I J _ (by simp only [List.length_append, l1]; omega), p1 I _ _ l1, List.drop_left' l1, p1 J _ _ l2, YT q O R _ (by rw [List.length_append, l3]; omega), p1 O _ _ l3, List.drop_left' l3, Vj, Vj, t3 q hq]; have := s3 q (by rw [← e]; exact hq); rw [this]
end Go.Proofs.Ytdneelgnmnpanaa.P
end
section
namespace Go.Proofs.Ytdneelgnmnpanaa.P
open Go.RowKit Go.Proofs.YtdneelgnmnpanaaW.PrintWords
theorem sh_vl {I O : List (List Int)} (h : vl I O = 0) : Sh I O := by
  obtain ⟨h1, h2, h3, h4, h5, h6, h7⟩ := Yk h; exact ⟨by omega, by omega, fun r hr => by rw [(h7 r hr).1]; omega⟩
theorem Uy {I O : List (List Int)} (h : vl I O = 0) : Few I ∧ Few O := by
  obtain ⟨h1, h2, h3, h4, h5, h6, h7⟩ := Yk h; exact ⟨⟨by omega, fun r hr => by rw [(h7 r (List.mem_append_left _ hr)).1]; omega⟩, ⟨by omega, fun r hr => by rw [(h7 r (List.mem_append_right _ hr)).1]; omega⟩⟩
def jnv (I O J R : List (List Int)) : List (List Int) × List (List Int) × Int :=
  if vl I O = 0 then (if vl J R = 0 then (if (I.getD 0 []).length = (J.getD 0 []).length then (if I.length + J.length ≤ 3 ∧ O.length + R.length ≤ 3 then (I ++ J, O ++ R, 0) else ([], [], 3)) else ([], [], 5)) else ([], [], vl J R)) else ([], [], vl I O)
theorem Join_ev {I O J R : List (List Int)} (h : Sh I O) (g : Sh J R) : Ev (fun k => QY.f k I O J R) (jnv I O J R) := by
  unfold QY.f jnv; refine Ev.bind (U8 h) ?_; by_cases c1 : vl I O = 0
  · simp only [c1, if_true]; refine Ev.bind (U8 g) ?_; by_cases c2 : vl J R = 0
    · obtain ⟨a1, a2, a3, a4, a5, a6, a7⟩ := Yk c1; obtain ⟨b1, b2, b3, b4, b5, b6, b7⟩ := Yk c2; obtain ⟨u1, u2⟩ := Uy c1; obtain ⟨u3, u4⟩ := Uy c2; have f1 : (0 : Int) < (I.length : Int) := by omega
      have f2 : (0 : Int) < (J.length : Int) := by omega
      simp only [c2, f1, f2, if_true, rdL0]; by_cases c3 : (I.getD 0 []).length = (J.getD 0 []).length
      · have f3 : (((I.getD 0 []).length : Nat) : Int) = (((J.getD 0 []).length : Nat) : Int) := by omega
        have w1 : wrap64 ((I.length : Int) + (J.length : Int)) = (I.length : Int) + (J.length : Int) := wrp (by omega) (by omega); have w2 : wrap64 ((O.length : Int) + (R.length : Int)) = (O.length : Int) + (R.length : Int) := wrp (by omega) (by omega); simp only [f3, c3, if_true, w1, w2]; clear w1 w2; have g1 : I.length + J.length < 5864062014805 := by omega
        have g2 : O.length + R.length < 5864062014805 := by omega
        by_cases c4 : (I.length : Int) + (J.length : Int) > 3
        · have c5 : ¬ (I.length + J.length ≤ 3 ∧ O.length + R.length ≤ 3) := by omega
          simp only [c4, c5, if_true, if_false]; refine Ev.step (fun k => by rw [QY.j0]) ?_; simp only [if_true]; exact Ev.now _
        · by_cases c6 : (O.length : Int) + (R.length : Int) > 3
          · have c5 : ¬ (I.length + J.length ≤ 3 ∧ O.length + R.length ≤ 3) := by omega
            simp only [c4, c5, c6, decide_true, if_false]; refine Ev.step (fun k => by rw [QY.j0]) ?_; simp only [if_true]; exact Ev.now _
          · have c5 : I.length + J.length ≤ 3 ∧ O.length + R.length ≤ 3 := by omega
            simp only [c4, c5, c6, decide_false, if_false, and_self, if_true]; refine Ev.step (fun k => by rw [QY.j0]) ?_; simp only [Bool.false_eq_true, if_false]; refine Ev.bind (V5 u1) ?_; refine Ev.bind (V5 u3) ?_; simp only [g1, if_true]; refine Ev.bind (V5 u2) ?_; refine Ev.bind (V5 u4) ?_; simp only [g2, if_true]; exact Ev.now _
      · have f3 : ¬ (((I.getD 0 []).length : Nat) : Int) = (((J.getD 0 []).length : Nat) : Int) := by omega
        simp only [f3, c3, if_false]; exact Ev.now _
    · simp only [c2, if_false]; exact Ev.now _
  · simp only [c1, if_false]; exact Ev.now _
theorem rJoin_ev {I O J R : List (List Int)} (h : Sh I O) (g : Sh J R) : Ev (fun k => QB.f k I O J R) (jnv I O J R) := by
  unfold QB.f jnv; refine Ev.bind (rval_ev h) ?_; by_cases c1 : vl I O = 0
  · simp only [c1, if_true]; refine Ev.bind (rval_ev g) ?_; by_cases c2 : vl J R = 0
    · obtain ⟨a1, a2, a3, a4, a5, a6, a7⟩ := Yk c1; obtain ⟨b1, b2, b3, b4, b5, b6, b7⟩ := Yk c2; obtain ⟨u1, u2⟩ := Uy c1; obtain ⟨u3, u4⟩ := Uy c2; have f1 : (0 : Int) < (I.length : Int) := by omega
      have f2 : (0 : Int) < (J.length : Int) := by omega
      simp only [c2, f1, f2, if_true, rdL0]; by_cases c3 : (I.getD 0 []).length = (J.getD 0 []).length
      · have f3 : (((I.getD 0 []).length : Nat) : Int) = (((J.getD 0 []).length : Nat) : Int) := by omega
        have w1 : wrap64 ((I.length : Int) + (J.length : Int)) = (I.length : Int) + (J.length : Int) := wrp (by omega) (by omega); have w2 : wrap64 ((O.length : Int) + (R.length : Int)) = (O.length : Int) + (R.length : Int) := wrp (by omega) (by omega); simp only [f3, c3, if_true, w1, w2]; clear w1 w2; have g1 : I.length + J.length < 5864062014805 := by omega
        have g2 : O.length + R.length < 5864062014805 := by omega
        by_cases c4 : (I.length : Int) + (J.length : Int) > 3
        · have c5 : ¬ (I.length + J.length ≤ 3 ∧ O.length + R.length ≤ 3) := by omega
          simp only [c4, c5, if_true, if_false]; refine Ev.step (fun k => by rw [QB.j0]) ?_; simp only [if_true]; exact Ev.now _
        · by_cases c6 : (O.length : Int) + (R.length : Int) > 3
          · have c5 : ¬ (I.length + J.length ≤ 3 ∧ O.length + R.length ≤ 3) := by omega
            simp only [c4, c5, c6, decide_true, if_false]; refine Ev.step (fun k => by rw [QB.j0]) ?_; simp only [if_true]; exact Ev.now _
          · have c5 : I.length + J.length ≤ 3 ∧ O.length + R.length ≤ 3 := by omega
            simp only [c4, c5, c6, decide_false, if_false, and_self, if_true]; refine Ev.step (fun k => by rw [QB.j0]) ?_; simp only [Bool.false_eq_true, if_false]; refine Ev.bind (Vk u1) ?_; refine Ev.bind (Vk u3) ?_; simp only [g1, if_true]; refine Ev.bind (Vk u2) ?_; refine Ev.bind (Vk u4) ?_; simp only [g2, if_true]; exact Ev.now _
      · have f3 : ¬ (((I.getD 0 []).length : Nat) : Int) = (((J.getD 0 []).length : Nat) : Int) := by omega
        simp only [f3, c3, if_false]; exact Ev.now _
    · simp only [c2, if_false]; exact Ev.now _
  · simp only [c1, if_false]; exact Ev.now _
theorem jnv_is (I O J R : List (List Int)) : ((jnv I O J R).2.2 = 0 ∧ jnv I O J R = (I ++ J, O ++ R, 0) ∧ vl I O = 0 ∧ vl J R = 0 ∧ (I.getD 0 []).length = (J.getD 0 []).length ∧ I.length + J.length ≤ 3 ∧ O.length + R.length ≤ 3) ∨ ((jnv I O J R).2.2 ≠ 0 ∧ (jnv I O J R).1 = [] ∧ (jnv I O J R).2.1 = []) := by
  unfold jnv; by_cases c1 : vl I O = 0
  · rw [if_pos c1]; by_cases c2 : vl J R = 0
    · rw [if_pos c2]; by_cases c3 : (I.getD 0 []).length = (J.getD 0 []).length
      · rw [if_pos c3]; by_cases c4 : I.length + J.length ≤ 3 ∧ O.length + R.length ≤ 3
        · rw [if_pos c4]; exact .inl ⟨rfl, rfl, c1, c2, c3, c4.1, c4.2⟩
        · rw [if_neg c4]; exact .inr ⟨by decide, rfl, rfl⟩
      · rw [if_neg c3]; exact .inr ⟨by decide, rfl, rfl⟩
    · rw [if_neg c2]; exact .inr ⟨c2, rfl, rfl⟩
  · rw [if_neg c1]; exact .inr ⟨c1, rfl, rfl⟩
theorem Us (I O J R : List (List Int)) : Ev (fun k => Qp.f k I O J R) true := by
  have hkn : Ev (fun k => Qp.j0 k true I O J R) true := Ev.step (fun k => by rw [Qp.j0]) (by
    simp only [if_true]; exact Ev.bind Y9 (Ev.now _))
  unfold Qp.f; obtain ⟨b, hb, hsh⟩ := long_ev I O; refine Ev.bind hb ?_; cases b with
  | true => simp only [if_true]; exact hkn
  | false =>
    have hs := hsh rfl; simp only [Bool.false_eq_true, if_false]; obtain ⟨b, hb, hsh⟩ := long_ev J R; refine Ev.bind hb ?_; cases b with
    | true => exact hkn
    | false =>
      have ht := hsh rfl; refine Ev.step (fun k => by rw [Qp.j0]) ?_; simp only [Bool.false_eq_true, if_false]; refine Ev.bind (rJoin_ev hs ht) ?_; refine Ev.bind (Join_ev hs ht) ?_; simp only [if_true]; obtain ⟨b1, e1, i1⟩ := YG hs; obtain ⟨b2, e2, i2⟩ := YG ht; rcases jnv_is I O J R with ⟨h0, h1, h2, h3, h4, h5, h6⟩ | ⟨h0, h1, h2⟩
      · have hj := vl_join h2 h3 h4 h5 h6; obtain ⟨u1, u2⟩ := Uy hj; obtain ⟨b3, e3, i3⟩ := YG (sh_vl hj); rw [h1]; refine Ev.bind (sameS_ev u1 u2) ?_; simp only [Bool.not_true]; refine Ev.step (fun k => by rw [Qp.j1]) ?_; simp only [Bool.false_eq_true, if_false]; refine Ev.bind e1 ?_; refine Ev.bind e2 ?_; refine Ev.bind e3 ?_; simp only [h2, h3, hj, if_true]; by_cases c1 : b1 = true
        · by_cases c2 : b2 = true
          · have c3 : b3 = true := i3.2 ⟨hj, cb_join h2 h3 h4 h5 h6 (i1.1 c1).2 (i2.1 c2).2⟩; simp only [c1, c2, c3, if_true]; exact Ev.bind Y9 (Ev.now _)
          · simp only [c1, c2, if_true, if_false]; exact Ev.bind Y9 (Ev.now _)
        · simp only [c1, if_false]; exact Ev.bind Y9 (Ev.now _)
      · have hn : Few ([] : List (List Int)) := ⟨by decide, by simp⟩; obtain ⟨b3, e3, i3⟩ := YG (I := []) (O := []) ⟨by decide, by decide, by simp⟩; rw [h1, h2]; refine Ev.bind (sameS_ev hn hn) ?_; simp only [Bool.not_true]; refine Ev.step (fun k => by rw [Qp.j1]) ?_; simp only [Bool.false_eq_true, if_false]; refine Ev.bind e1 ?_; refine Ev.bind e2 ?_; refine Ev.bind e3 ?_; simp only [h0, if_false]; exact Ev.bind Y9 (Ev.now _)
end Go.Proofs.Ytdneelgnmnpanaa.P
end
section
namespace Go.Proofs.Ytdneelgnmnpanaa.strikeJoins
open Go.ChangeShapes Go.WideShapes Go.ChangeAt Go.RowKit Go.Joins
open Go.Proofs.Ytdneelgnmnpanaa.P Go.Proofs.YtdneelgnmnpanaaW.PrintWords
set_option linter.unusedVariables false
theorem own : ownKnob Try.prog.godebug = none := by kernel_rfl
theorem laidOut : laidOutB Try.prog = true := by kernel_rfl
set_option maxRecDepth 100000 in
theorem lifted (os : Os) (started : os.Started) (H : Type) (enc : TypeId × Value → H) :
    ReturnsInHanded {} Try.checked os 15 .any (Rows.strikeJoinsSpec.pre6 enc Try.prog Try.f15 Rows.strikeJoinsRow.domain false) (Rows.strikeJoinsSpec.post enc Try.prog Try.f15 false true false false) := by
  refine returnsInHanded_of_change_sized (C := Try.checked) own started (by kernel_rfl) Try.func15
    (ChangeSpec.witness6 (enc := enc) (C := Try.checked) false ⟨#[], #[.agg #[.slice none 0 0, .slice none 0 0], .agg #[.slice none 0 0, .slice none 0 0]], []⟩ 8 (by kernel_rfl) (by kernel_rfl) (by kernel_rfl) (by kernel_rfl)) ?_
  intro W base args ds gs before rT hW hcnd uu _; have hsz : (DataW.weightsEach Try.prog (Try.f15.params.toList ++ Rows.strikeJoinsSpec.plain.varTypes Try.prog) (ds ++ gs)).all (· ≤ reachBytes) = true := uu; have hval : ∀ (j : Nat) t v, Try.f15.params[j]? = some t → args[j]? = some v → Value.okWide Try.prog W .any base t v := rT; have hW' := hW; obtain ⟨p, q, hA0, hV, rfl, hfz, hnd⟩ := hW; have hA : DataW.TrodAll enc Try.prog W 0 (fun _ => true) true Try.f15.params.toList args.toList ds p := hA0; rw [Try.params15] at hA hval hsz; obtain ⟨v0, vs0, d0, ds0, p0, q0, hargs, rfl, rfl, h0, r0⟩ := trodAll_cons hA; obtain ⟨v1, vs1, d1, ds1, p1, q1, rfl, rfl, rfl, h1, r1⟩ := trodAll_cons r0; obtain ⟨rfl, rfl, rfl⟩ := trodAll_nil r1; obtain rfl : args = #[v0, v1] := by cases args; simp_all
  obtain ⟨rfl, rfl⟩ := trodVars_none hV; have k0 := h0; have lt0 : ∀ x ∈ p0, x.block < W.heap.size := by obtain ⟨m, hm⟩ := k0; exact DataW.trod_lt m _ _ _ hm
  obtain ⟨an, ao, E7, E6, m0, rfl, rfl, rfl, uq, uo⟩ := open_agg2 Try.underlying24 (by kernel_rfl) (by kernel_rfl) (hval 0 24 v0 rfl rfl) h0; obtain ⟨FW, ae, bG, rfl, wV, tb, wR, sk, pq⟩ := VC uq (fun n hn => Vz hsz (j := 0) (t := 24) rfl rfl n (w24 (.inl hn))); obtain ⟨FV, ag, bE, rfl, wU, ta, wQ, sj, po⟩ := VC uo (fun n hn => Vz hsz (j := 0) (t := 24) rfl rfl n (w24 (.inr hn))); have k1 := h1; have lt1 : ∀ x ∈ p1, x.block < W.heap.size := by obtain ⟨m, hm⟩ := k1; exact DataW.trod_lt m _ _ _ hm
  obtain ⟨aZ, bc, E5, E4, m1, rfl, rfl, rfl, um, uk⟩ := open_agg2 Try.underlying24 (by kernel_rfl) (by kernel_rfl) (hval 1 24 v1 rfl rfl) h1; obtain ⟨FU, av, bQ, rfl, wT, s9, wP, si, pj⟩ := VC um (fun n hn => Vz hsz (j := 1) (t := 24) rfl rfl n (w24 (.inl hn))); obtain ⟨FT, aw, bL, rfl, wS, s8, wO, sh, ph⟩ := VC uk (fun n hn => Vz hsz (j := 1) (t := 24) rfl rfl n (w24 (.inr hn))); clear hA0 rT uu hsz; obtain ⟨k, hk⟩ : Ev (fun k => ZP.f k ae bG ag bE av bQ aw bL) true := by
    unfold ZP.f; refine Ev.bind (keepTable bG sk pq) ?_; refine Ev.bind (keepTable bE sj po) ?_; refine Ev.bind (keepTable bQ si pj) ?_; refine Ev.bind (keepTable bL sh ph) ?_; refine Ev.bind (Us ae ag av aw) ?_; simp only [if_true]; refine Ev.bind (keptTable bG sk pq) ?_; simp only [if_true]; refine Ev.bind (keptTable bE sj po) ?_; simp only [if_true]; refine Ev.bind (keptTable bQ si pj) ?_; simp only [if_true]; refine Ev.bind (keptTable bL sh ph) ?_; exact Ev.now _
  refine (ZP.calls k _ ae bG _ ag bE _ av bQ _ aw bL true W wV tb wR wU ta wQ wT s9 wP wS s8 wO (hk k (Nat.le_refl _))).mono fun e W' ⟨he, bel⟩ => ?_
  subst he; exact ⟨_, rfl, _, _, _, [], _, [], hW', trodAll_mk1 (shut_bool Try.underlying4 _), (trodAll_cons_mk (Below.trod laidOut (by kernel_rfl) (of_decide_eq_true (by kernel_rfl)) k0 bel lt0) (trodAll_cons_mk (Below.trod laidOut (by kernel_rfl) (of_decide_eq_true (by kernel_rfl)) k1 bel lt1) trodAll_mk0)), rfl, bel.frame _, fun h => by cases h⟩
theorem over : Rows.strikeJoinsRow.holds Try.pinned (OpenSpec.ofChange Rows.strikeJoinsSpec) :=
  OpenClaim.holds_of_wide 15 Try.f15 rfl rfl rfl rfl rfl rfl rfl ⟨rfl, rfl, rfl, rfl, rfl⟩ rfl rfl rfl rfl rfl (by kernel_rfl) Try.func15 (by kernel_rfl)
    (of_decide_eq_true (by kernel_rfl)) (by unfold Func.isWrapper; first | (rw [if_pos (by decide +kernel)]; kernel_rfl) | (rw [if_neg (by decide +kernel)]; exact ⟨rfl, rfl⟩))
    (fun os started H enc _ => lifted os started H enc)
theorem proved : Rows.StrikeJoinsSaid := over
#print axioms proved
end Go.Proofs.Ytdneelgnmnpanaa.strikeJoins
namespace Go.Proofs.Ytdneelgnmnpanaa
theorem strikeJoins_holds : Rows.StrikeJoinsSaid := strikeJoins.proved
end Go.Proofs.Ytdneelgnmnpanaa
end
