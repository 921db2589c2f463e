/- What the claim's last text wants, part 3: functions of the translation as Lean functions with their contracts, and plain theorems; no conditions beyond those that each theorem names. -/
import Derived.Test.YtdneelgnmnpanaaZFo2
import Derived.Laws.Rows
import Derived.Deep.WholeRow
import Derived.ChangeKeysEq
import Derived.WalkSpells
import Derived.Deep.Slices
import Derived.Deep.Fields
import Derived.ChangeSame
import Derived.ChangeSlices
import Derived.SizedLaws
import Derived.Lib.SmallJoins
set_option linter.unusedVariables false
set_option linter.unusedSimpArgs false
section
namespace Go.Proofs.Ytdneelgnmnpanaa.P
open Go.RowKit Go.Proofs.YtdneelgnmnpanaaW.PrintWords Go.Proofs.YtdneelgnmnpanaaW.PrintLast Go.Proofs.YtdneelgnmnpanaaW.PrintMore
def pad (l : List Int) : List Int := l ++ List.replicate (6 - l.length) 0
theorem V4 {l : List Int} (h : l.length ≤ 6) : (pad l).length = 6 := by simp [pad]; omega
theorem UR {l : List Int} (v : Int) (h : l.length < 6) : (pad l).set l.length v = pad (l ++ [v]) := by
 unfold pad; rw [List.set_append_right _ _ (Nat.le_refl _), Nat.sub_self, show 6 - l.length = (6 - (l ++ [v]).length) + 1 by simp; omega, List.replicate_succ, List.set_cons_zero, List.append_assoc]; rfl
def lineOf (l0 l1 : List (List Int)) (k : Nat) : List Int := pad (l0.map (·.getD k 0) ++ l1.map (fun c => wrap64 (-(c.getD k 0))))
def Zv.f (l0 l1 : List (List Int)) : Option (List S76) :=
 if 0 < l0.length ∧ l0.length + l1.length ≤ 6 ∧ (0 < (Qt l0 0).length ∧ (Qt l0 0).length ≤ 4) ∧ ∀ r ∈ l0 ++ l1, (Qt l0 0).length ≤ r.length then some ((List.range (Qt l0 0).length).map fun k => mk6 (lineOf l0 l1 k)) else none
def Made (f : Nat → List Int) (n k : Nat) (row : List Int) (M : List (List Int)) : Prop := M.length = n ∧ ∀ q, q < n → M[q]? = some (if q < k then f q else if q = k then row else pad [])
theorem Made.at {f : Nat → List Int} {n k : Nat} {row : List Int} {M : List (List Int)} (h : Made f n k row M) (hk : k < n) : ∃ hk' : k < M.length, M[k] = row := by
 have hk' : k < M.length := by rw [h.1]; exact hk
 have := h.2 k hk; rw [List.getElem?_eq_getElem hk', if_neg (by omega), if_pos rfl] at this; exact ⟨hk', Option.some.inj this⟩
theorem Made.set {f : Nat → List Int} {n k : Nat} {row : List Int} {M : List (List Int)} (h : Made f n k row M) (row' : List Int) : Made f n k row' (M.set k row') := by
 refine ⟨by simpa using h.1, fun q hq => ?_⟩; have := h.2 q hq; have hq' : q < M.length := by rw [h.1]; exact hq
 by_cases e : k = q
 ·subst e; simp [hq']
 ·rw [List.getElem?_set_ne e, this]; rw [if_neg (show ¬ q = k by omega), if_neg (show ¬ q = k by omega)]
theorem Made.next {f : Nat → List Int} {n k : Nat} {M : List (List Int)} (h : Made f n k (f k) M) : Made f n (k + 1) (pad []) M := by
 refine ⟨h.1, fun q hq => ?_⟩; rw [h.2 q hq]; by_cases e : q < k
 ·rw [if_pos e, if_pos (by omega)]
 ·by_cases e2 : q = k
  ·subst e2; rw [if_neg e, if_pos rfl, if_pos (by omega)]
  ·rw [if_neg e, if_neg e2, if_neg (by omega)]; split <;> rfl
theorem Made.all {f : Nat → List Int} {n : Nat} {row : List Int} {M : List (List Int)} (h : Made f n n row M) : M = (List.range n).map f := by
 apply List.ext_getElem?; intro q; by_cases hq : q < n
 ·rw [h.2 q hq, if_pos hq]; simp [hq]
 ·rw [List.getElem?_eq_none (by rw [h.1]; omega), List.getElem?_eq_none (by simp; omega)]
theorem addr_zero (ad : Addr) : ad.add 0 = ad := by
 cases ad; unfold Addr.add; split <;> simp_all
set_option maxHeartbeats 4000000 in
set_option maxRecDepth 100000 in
theorem Zv.calls (A0 : Option Addr) (c0 : Nat) (l0 : List (List Int)) (A1 : Option Addr) (c1 : Nat) (l1 : List (List Int)) (r : List S76) (w : World) (hr0 : Kd.C (Kd.slice 3 (Kd.int .i64)) w A0 l0.length l0) (hc0 : l0.length ≤ c0) (hr1 : Kd.C (Kd.slice 3 (Kd.int .i64)) w A1 l1.length l1) (hc1 : l1.length ≤ c1) (h : Zv.f l0 l1 = some r) :
  Calls Try.prog 73 #[.agg #[.slice A0 l0.length c0, .slice A1 l1.length c1]] w fun e w' => ∃ v0_ : Value, e = .returned (v0_) ∧ Kd.R k76 76 w' w.heap.size (fun _ => True) v0_ r ∧ Below w.heap.size w w' := by
 unfold Zv.f at h; split at h
 case isFalse => cases h
 rename_i hcond
 obtain ⟨z0, z1, z2, z3⟩ := hcond; obtain rfl := Option.some.inj h; clear h; have dD := Try.underlying24; have kt := Try.underlying76; have mG := Try.underlying65; have p8 := Try.underlying28; have p9 := Try.underlying22; have HR0 := aa.mk hr0; have HC0 := aa.mk hc0; have HR1 := aa.mk hr1; have HC1 := aa.mk hc1; have HZ3 := aa.mk z3; obtain ⟨ad, Aq, cq, eq, hxq, hlq, hiq⟩ := ZH hr0 0 (by omega) (by omega); cases eq; rw [show (0 : Int).toNat = 0 from rfl, addr_zero] at hxq; obtain ⟨n, hn⟩ : ∃ n, n = (Qt l0 0).length := ⟨_, rfl⟩; rw [← hn] at hxq hlq z2 HZ3; have HN := aa.mk hn; have HXQ := aa.mk hxq; clear hr0 hc0 hr1 hc1 z3 hiq; have HB := aa.mk (Below.refl w.heap.size w); rw [← hn]; clear hn hxq; have q0 : (0 : Int) < (l0.length : Int) := by omega
 go_enter Try.func73, Try.ntmps73; go_wp2_with (first
  | ((with_reducible refine QM (N := 1) rfl ?_); refine QU ?hg (N := 1) ?hd (cs := #[.slice (some ad) l0.length c0, .slice A1 l1.length c1]) (t := 24) ?hr ?_; (case hd => rfl); (case hg => rfl); (case hr => first | (go_simp; done) | (go_simp; rfl)); intro gb hgb w7 hbox hb; have HGB := aa.mk hgb; have BK := aa.mk hbox; have HBOX := aa.mk hbox; have mK : w7.cell? ⟨gb, 0, none⟩ = some (.slice (some ad) l0.length c0) := (Qb BK.out 0).trans rfl; have oN : w7.cell? ⟨gb, 1, none⟩ = some (.slice A1 l1.length c1) := (Qb BK.out 1).trans rfl; have hxq := (hb.cell (World.block_lt_of_cell? w _ HXQ.out)).trans HXQ.out; have n0_ := aa.mk (Qc HB.out hb); have HB7 := aa.mk hb; clear HB; have HB := n0_; clear n0_ hgb hbox hb)
  | ((with_reducible refine QM (N := 14) rfl ?_); refine Kd.U9 k76 _ 76 rfl (N := 14) rfl 65 _ _ rfl (n : Int) rfl rfl Try.underlying65 (.agg #[(.int .i64 0), (.int .i64 0), (.int .i64 0), (.int .i64 0), (.int .i64 0), (.int .i64 0)]) 48 info76 rfl (by decide) (by omega) z76 (ok := fun _ => True) (okp := fun _ => True) (VQ _ _ _ z76) (fun _ hk => hk) trivial (by omega) (by simp only [Int.toNat_natCast]; omega) (Below.refl _ _) (Nat.le_refl _) ?_; intro v14 w14 ho hb hgr hat; obtain ⟨g, c, hv, hgw, -, hbl, hlc, hcm⟩ := (Bl.of_R ho).resolve_left (fun hh => absurd (congrArg List.length hh.2) (by rw [List.length_replicate, List.length_nil, Int.toNat_natCast]; omega)); rw [List.length_replicate, Int.toNat_natCast] at hv hlc; subst hv; have HBL := aa.mk hbl; have HCM := aa.mk hcm; have HGW := aa.mk hgw; have sj := aa.mk (Ql BK.out hb); have n0_ := aa.mk (Qc HB.out hb); clear HB BK hbl hcm hgw; have HB := n0_; have BK := sj; clear n0_ sj ho hb hgr hat))
 have HB0 := aa.mk (show w.heap.size ≤ w7.heap.size from HB7.out.size); have HGG := aa.mk (show gb ≠ g by
  have h1 := HGW.out; have h2 := (Array.getElem?_eq_some_iff.1 HBOX.out).1; omega)
 have HM := aa.mk (show Made (lineOf l0 l1) n 0 (pad []) ((List.replicate (n : Int).toNat z76).map L6) from ⟨by simp, fun q hq => by
  rw [List.map_replicate, Int.toNat_natCast, List.getElem?_replicate, if_pos hq, if_neg (by omega)]; split <;> rfl⟩)
 generalize (List.replicate (n : Int).toNat z76).map L6 = M at HM HBL; go_loopw [17] (fun k_ w' => ∃ (k : Nat) (M : List (List Int)), k ≤ n ∧ k_ = .int .i64 k ∧ aa (Made (lineOf l0 l1) n k (pad []) M) ∧ aa (Bl w' g M c) ∧ aa (w'.heap[gb]? = some (.cells #[.slice (some ad) l0.length c0, .slice A1 l1.length c1] 24 (0, 0))) ∧ aa (Below w.heap.size w w')) (fun k_ _ => n - (intOf k_).toNat)
 case atStart => exact ⟨0, M, Nat.zero_le _, rfl, HM, HBL, BK, HB⟩
 case round =>
  clear HM HBL BK HB M; obtain ⟨k, M, hk, rfl, HM, HBL, BK, HB⟩ := hrel; have mK : wr.cell? ⟨gb, 0, none⟩ = some (.slice (some ad) l0.length c0) := (Qb BK.out 0).trans rfl; have oN : wr.cell? ⟨gb, 1, none⟩ = some (.slice A1 l1.length c1) := (Qb BK.out 1).trans rfl; by_cases hkn : k < n
  ·go_wp2_with fail
   clear mK oN; have HM1 := aa.mk (show Made (lineOf l0 l1) n k (pad ((l0.take 0).map (·.getD k 0))) M from HM.out); clear HM; go_loopw [23] (fun i_ w' => ∃ (i : Nat) (M : List (List Int)), i ≤ l0.length ∧ i_ = .int .i64 i ∧ aa (Made (lineOf l0 l1) n k (pad ((l0.take i).map (·.getD k 0))) M) ∧ aa (Bl w' g M c) ∧ aa (w'.heap[gb]? = some (.cells #[.slice (some ad) l0.length c0, .slice A1 l1.length c1] 24 (0, 0))) ∧ aa (Below w.heap.size w w')) (fun i_ _ => l0.length - (intOf i_).toNat)
   case atStart => exact ⟨0, M, Nat.zero_le _, rfl, HM1, HBL, BK, HB⟩
   case round =>
    clear HM1 HBL BK HB M; obtain ⟨i, M, hi, rfl, HM, HBL, BK, HB⟩ := hrel; by_cases hil : i < l0.length
    ·obtain ⟨ad1, A2, c2, e1, hx1, hl1, hi1⟩ := ZH HR0.out (i : Int) (by omega) (by omega); cases e1; replace hx1 := (HB.out.cell (World.block_lt_of_cell? w _ hx1)).trans hx1; have hge := HZ3.out (Qt l0 (i : Int)) (List.mem_append_left _ (by simp only [Qt, Int.toNat_natCast]; rw [rowD _ _ hil]; exact List.getElem_mem hil)); obtain ⟨ad2, e2, hx2⟩ := Kd.QZ hi1 (k : Int) (by omega) (by omega); subst e2; replace hx2 := (HB.out.cell (World.block_lt_of_cell? w _ hx2)).trans hx2; simp only [Int.toNat_natCast] at hx1 hx2; obtain ⟨hkM, hrow⟩ := HM.out.at hkn; have hi6 : i < 6 := by omega
     have hf := HBL.out.frozen (k * 6 + i); have hc := HBL.out.cell hkM hi6; have hlt : (k : Int) < ((Qt l0 (i : Int)).length : Int) := by omega
     clear hl1 hi1; generalize M[k].getD i 0 = old at hc; obtain ⟨x, hxe⟩ : ∃ x, x = rd (Qt l0 (i : Int)) (k : Int) := ⟨_, rfl⟩; rw [← hxe] at hx2; have hx3 : x = (l0[i]).getD k 0 := by rw [hxe]; simp only [rd, Qt, Int.toNat_natCast]; rw [rowD _ _ hil]
     have HROW := aa.mk (show pad ((l0.take (i + 1)).map (·.getD k 0)) = M[k].set i x by
      rw [hrow, List.take_succ_eq_append_getElem hil, List.map_append, hx3]; have := UR (l := (l0.take i).map (·.getD k 0)) ((l0[i]).getD k 0) (by simp; omega); rw [show ((l0.take i).map (·.getD k 0)).length = i by simp; omega] at this; exact this.symm)
     have HKM := aa.mk hkM; clear hxe hx3 hrow hge; go_wp2_with fail
     go_region; go_wp2_with fail
     go_roundw
     case rel => exact ⟨i + 1, M.set k (M[k].set i x), by omega, by go_num, ⟨by rw [HROW.out]; exact HM.out.set _⟩, ⟨HBL.out.store HKM.out hi6 x⟩, ⟨(heap_setCell_other _ _ _ _ HGG.out).trans BK.out⟩, ⟨(HB.out.setCell (Nat.le_trans HB0.out HGW.out) _).drew⟩⟩
     case measure => simp [intOf]; omega
    ·obtain rfl : i = l0.length := by omega
     have HM2 := aa.mk (show Made (lineOf l0 l1) n k (pad (l0.map (·.getD k 0) ++ (l1.take 0).map (fun c => wrap64 (-(c.getD k 0))))) M by
      have := HM.out; rw [List.take_length] at this; simpa using this)
     have mK : wr.cell? ⟨gb, 0, none⟩ = some (.slice (some ad) l0.length c0) := (Qb BK.out 0).trans rfl; have oN : wr.cell? ⟨gb, 1, none⟩ = some (.slice A1 l1.length c1) := (Qb BK.out 1).trans rfl; clear HM; go_wp2_with fail
     clear mK oN; go_loopw [41] (fun i_ w' => ∃ (i : Nat) (M : List (List Int)), i ≤ l1.length ∧ i_ = .int .i64 i ∧ aa (Made (lineOf l0 l1) n k (pad (l0.map (·.getD k 0) ++ (l1.take i).map (fun c => wrap64 (-(c.getD k 0))))) M) ∧ aa (Bl w' g M c) ∧ aa (w'.heap[gb]? = some (.cells #[.slice (some ad) l0.length c0, .slice A1 l1.length c1] 24 (0, 0))) ∧ aa (Below w.heap.size w w')) (fun i_ _ => l1.length - (intOf i_).toNat)
     case atStart => exact ⟨0, M, Nat.zero_le _, rfl, HM2, HBL, BK, HB⟩
     case round =>
      clear HM2 HBL BK HB M; obtain ⟨i, M, hi, rfl, HM, HBL, BK, HB⟩ := hrel; have mK : wr.cell? ⟨gb, 0, none⟩ = some (.slice (some ad) l0.length c0) := (Qb BK.out 0).trans rfl; by_cases hil : i < l1.length
      ·obtain ⟨ad1, A2, c2, e1, hx1, hl1, hi1⟩ := ZH HR1.out (i : Int) (by omega) (by omega); subst e1; replace hx1 := (HB.out.cell (World.block_lt_of_cell? w _ hx1)).trans hx1; have hge := HZ3.out (Qt l1 (i : Int)) (List.mem_append_right _ (by simp only [Qt, Int.toNat_natCast]; rw [rowD _ _ hil]; exact List.getElem_mem hil)); obtain ⟨ad2, e2, hx2⟩ := Kd.QZ hi1 (k : Int) (by omega) (by omega); subst e2; replace hx2 := (HB.out.cell (World.block_lt_of_cell? w _ hx2)).trans hx2; simp only [Int.toNat_natCast] at hx1 hx2; obtain ⟨hkM, hrow⟩ := HM.out.at hkn; have hi6 : l0.length + i < 6 := by omega
       have hf := HBL.out.frozen (k * 6 + (l0.length + i)); have hc := HBL.out.cell hkM hi6; have hlt : (k : Int) < ((Qt l1 (i : Int)).length : Int) := by omega
       clear hl1 hi1; generalize M[k].getD (l0.length + i) 0 = old at hc; obtain ⟨x, hxe⟩ : ∃ x, x = rd (Qt l1 (i : Int)) (k : Int) := ⟨_, rfl⟩; rw [← hxe] at hx2; have hx3 : x = (l1[i]).getD k 0 := by rw [hxe]; simp only [rd, Qt, Int.toNat_natCast]; rw [rowD _ _ hil]
       have HROW := aa.mk (show pad (l0.map (·.getD k 0) ++ (l1.take (i + 1)).map (fun c => wrap64 (-(c.getD k 0)))) = M[k].set (l0.length + i) (wrap64 (-x)) by
        rw [hrow, List.take_succ_eq_append_getElem hil, List.map_append, hx3]; have := UR (l := l0.map (·.getD k 0) ++ (l1.take i).map (fun c => wrap64 (-(c.getD k 0)))) (wrap64 (-((l1[i]).getD k 0))) (by simp; omega); rw [show (l0.map (·.getD k 0) ++ (l1.take i).map (fun c => wrap64 (-(c.getD k 0)))).length = l0.length + i by simp; omega] at this; rw [this, List.append_assoc]; rfl)
       have HKM := aa.mk hkM; clear hxe hx3 hrow hge; go_wp2_with fail
       go_region; go_wp2_with fail
       go_roundw
       case rel => exact ⟨i + 1, M.set k (M[k].set (l0.length + i) (wrap64 (-x))), by omega, by go_num, ⟨by rw [HROW.out]; exact HM.out.set _⟩, ⟨HBL.out.store HKM.out hi6 _⟩, ⟨(heap_setCell_other _ _ _ _ HGG.out).trans BK.out⟩, ⟨(HB.out.setCell (Nat.le_trans HB0.out HGW.out) _).drew⟩⟩
       case measure => simp [intOf]; omega
      ·obtain rfl : i = l1.length := by omega
       have HM3 := aa.mk (show Made (lineOf l0 l1) n (k + 1) (pad []) M from (by
        have := HM.out; rw [List.take_length] at this; exact this.next))
       go_wp2_with fail
       go_roundw
       case rel => exact ⟨k + 1, M, by omega, by go_num, HM3, HBL, BK, HB⟩
       case measure => simp [intOf]; omega
  ·obtain rfl : k = n := by omega
   have hall := HM.out.all; go_wp2_with fail
   go_ret; refine ⟨_, rfl, ?_, HB.out⟩; have hR := HBL.out.R (base := w.heap.size) (ok := fun _ => True) (n := k) (Nat.le_trans HB0.out HGW.out) trivial (by rw [HM.out.1]; exact Nat.le_refl _) HCM.out; rw [List.take_of_length_le (by rw [HM.out.1]; exact Nat.le_refl _), hall, List.map_map] at hR; exact hR
theorem wrp {x : Int} (h0 : -9223372036854775808 ≤ x) (h1 : x ≤ 9223372036854775807) : wrap64 x = x := by
  unfold wrap64; omega
def Lim (x : Int) : Prop := x.natAbs ≤ 4611686018427387904
theorem VK : ∀ (n : Nat) (a b : Int), b.natAbs < n → Lim a → Lim b → ∃ k, Zm.f k a b = some (Int.gcd a b : Int)
  | 0, _, _, h, _, _ => by omega
  | n + 1, a, b, h, ha, hb => by
    unfold Lim at ha hb; by_cases h0 : b = 0
    · subst h0; refine ⟨1, ?_⟩; unfold Zm.f Zm.l0; rw [if_pos rfl, wrp (by omega) (by omega)]; have : (Int.gcd a 0 : Int) = a.natAbs := by simp
      rw [this]; unfold mx; congr 1; split <;> omega
    · have h1 : (Int.tmod a b).natAbs = a.natAbs % b.natAbs := Int.natAbs_tmod a b; have h2 : a.natAbs % b.natAbs < b.natAbs := Nat.mod_lt _ (by omega); obtain ⟨k, hk⟩ := VK n b (Int.tmod a b) (by omega) (by unfold Lim; omega) (by unfold Lim; omega); refine ⟨k + 1, ?_⟩; unfold Zm.f Zm.l0; rw [if_neg h0]; refine Eq.trans hk ?_; congr 2; show Nat.gcd b.natAbs (Int.tmod a b).natAbs = Nat.gcd a.natAbs b.natAbs
      rw [h1, Nat.gcd_comm a.natAbs, Nat.gcd_comm b.natAbs, ← Nat.gcd_rec]
theorem Y9 (a b : Int) (ha : Lim a) (hb : Lim b) (w : World) : Calls Try.prog 117 #[.int .i64 a, .int .i64 b] w fun e w' => e = .returned (.int .i64 (Int.gcd a b : Int)) ∧ Below w.heap.size w w' := by
  obtain ⟨k, hk⟩ := VK (b.natAbs + 1) a b (by omega) ha hb; exact Zm.calls k a b _ w hk
def gc (m : List Int) : Nat := m.foldl (fun d n => Int.gcd d n) 0
def pln (m : List Int) : List Int := if 1 < gc m then m.map (·.tdiv (gc m)) else m
theorem gcd_lim {d x : Int} (hd : Lim d) (hx : Lim x) : Lim (Int.gcd d x : Int) := by
  unfold Lim at *; by_cases h : x = 0
  · subst h; simp; omega
  · have := Nat.gcd_le_right d.natAbs (show 0 < x.natAbs by omega); show ((Nat.gcd d.natAbs x.natAbs : Nat) : Int).natAbs ≤ _
    omega
theorem gc_lim : ∀ (m : List Int) (d : Nat), Lim d → (∀ x ∈ m, Lim x) → Lim (m.foldl (fun d n => Int.gcd d n) d : Nat)
  | [], d, hd, _ => hd
  | x :: m, d, hd, h => gc_lim m _ (gcd_lim hd (h x (List.mem_cons_self ..))) (fun y hy => h y (List.mem_cons_of_mem _ hy))
theorem lim0 : Lim (0 : Nat) := by unfold Lim; decide
theorem gc_take (m : List Int) (i : Nat) (hi : i < m.length) : gc (m.take (i + 1)) = Int.gcd (gc (m.take i)) m[i] := by
  rw [List.take_succ_eq_append_getElem hi]; unfold gc; rw [List.foldl_append]; rfl
theorem Ut (t e : TypeId) (m : List Int) (i : Nat) (h : Try.prog.underlying t = some (.array m.length e)) (he : Try.prog.plainKey e = true) (hs : (Try.prog.info? e).map (·.size) = some 1) (hi : i < m.length) (w : World) :
    (Instr.index t (.agg (arr m)) (.int .i64 (i : Int))).run Try.prog w = .ok (.int .i64 (m.getD i 0)) w := by
  have hsz : (sizeOf e).run Try.prog w = .ok 1 w := by
    cases hq : Try.prog.info? e with
    | none => simp [hq] at hs
    | some j =>
      have : j.size = 1 := by simpa [hq] using hs
      simp [sizeOf, typeInfo, hq, this]
  have hp := run_part_plain (P := Try.prog) w he (xs := arr m) (off := i) (VT m i hi); simp only [Instr.index, run_underlying h, asIntOf, hi, hsz, Sem.run_bind, Sem.run_pure, Result.andThen, Int.natCast_nonneg, Int.ofNat_lt, and_self, if_true, Int.toNat_natCast, Nat.mul_one]; exact hp
def zeros6 : List Int := List.replicate 6 0
theorem info76z : (Try.prog.info? 76).map (fun i => (i.zero, i.size)) = some (some (.agg (arr zeros6)), 6) := by kernel_rfl
theorem Z8 {B : Nat} {w0 w : World} (h : Below B w0 w) {g : Nat} (hg : B ≤ g) (cs : Array Value) : Below B w0 (w.setRow g cs) :=
  ⟨h.os, h.tape, h.output, by simpa using h.size, fun i hi => (setRow_other w g i cs (by omega)).trans (h.block i hi)⟩
set_option maxHeartbeats 2000000 in
set_option maxRecDepth 100000 in
theorem VG (m : List Int) (w : World) (hm : m.length = 6) (hl : ∀ x ∈ m, Lim x) :
    Calls Try.prog 118 #[.agg (arr m)] w fun e w' => e = .returned (.agg (arr (pln m))) ∧ Below w.heap.size w w' := by
  have kt := Try.underlying76; obtain ⟨tT, ku⟩ := zero_of_info info76z; have HI0 := aa.mk (show (Try.prog.info? 76).map (·.size) = some (arr m).size by rw [ZB, hm]; exact ku); have HML := aa.mk hm; have HL := aa.mk hl; have HIX := aa.mk (fun (n : Nat) (hn : n < 6) (W : World) => Ut 76 3 m n (by rw [hm]; exact Try.underlying76) (by kernel_rfl) (by kernel_rfl) (by omega) W); clear hm hl; have HB := aa.mk (Below.refl w.heap.size w); go_enter Try.func118, Try.ntmps118; go_wp2_with (first
    | ((with_reducible refine QM (N := 1) rfl ?_); refine QU ?hg (N := 1) ?hd (cs := arr m) (t := 76) ?hr ?_; (case hd => rfl); (case hg => rfl); (case hr => first | (go_simp; done) | (go_simp; rfl)); intro gb hgb w7 hbox hb; have HGB := aa.mk (show w.heap.size ≤ gb by omega); have BK := aa.mk hbox; have n0_ := aa.mk (Qc HB.out hb); have HB7 := aa.mk hb; clear HB; have HB := n0_; clear n0_ hgb hbox hb)
    | (refine wpList_load_row rfl 76 _ rfl gb rfl 76 (arr m) (0, 0) _ (Qu BK.out _) Try.underlying76 rfl HI0.out ?_))
  have HG2 := aa.mk (heap_alloc_last w7 (.cells (arr zeros6) 76)); have BK2 := aa.mk (Qu BK.out (.cells (arr zeros6) 76)); have HNE := aa.mk (show gb ≠ w7.heap.size from fun e => by have := Vh BK.out; omega); have HB2 := aa.mk (show Below w.heap.size w (w7.alloc (.cells (arr zeros6) 76)) from HB.out.alloc HB7.out.size _); have sb := aa.mk (show w.heap.size ≤ w7.heap.size from HB7.out.size); clear HB BK; generalize w7.heap.size = g2 at *; go_loopw [3, 8] (fun d_ i_ w' => ∃ i : Nat, i ≤ 6 ∧ i_ = .int .i64 i ∧ d_ = .int .i64 (gc (m.take i) : Int) ∧ aa (w'.heap[gb]? = some (.cells (arr m) 76 (0, 0))) ∧ aa (w'.heap[g2]? = some (.cells (arr zeros6) 76 (0, 0))) ∧ aa (Below w.heap.size w w')) (fun _ i_ _ => 6 - (intOf i_).toNat)
  case atStart => exact ⟨0, by omega, rfl, rfl, BK2, HG2, HB2⟩
  case round =>
    clear BK2 HG2 HB2; obtain ⟨i, hi, rfl, rfl, BK, HG2, HB⟩ := hrel; by_cases hlt : i < 6
    · have hix := HIX.out i hlt; have him : i < m.length := by rw [HML.out]; exact hlt
      have hgd : m.getD i 0 = m[i] := by rw [List.getD_eq_getElem?_getD, List.getElem?_eq_getElem him]; rfl
      rw [hgd] at hix; have HGT := aa.mk (gc_take m i him); have HDV := aa.mk (fun W => Y9 (gc (m.take i) : Int) m[i] (gc_lim (m.take i) 0 lim0 (fun x hx => HL.out x (List.mem_of_mem_take hx))) (HL.out _ (List.getElem_mem him)) W); clear hgd; generalize m[i] = x at *; go_wp2_with (first
        | ((with_reducible refine Qf (f := 117) rfl ?_); refine QE (some 13) rfl rfl Try.func117 (by kernel_rfl) rfl #[.int .i64 (gc (m.take i) : Int), .int .i64 x] rfl (by (try simp only [List.map_toArray, List.map_cons, List.map_nil]); first | done | rfl) ?_; (with_reducible refine (HDV.out _).mono ?_); rintro e w9 ⟨rfl, hb⟩; refine ⟨_, rfl, ?_⟩; have n0_ := aa.mk (Qc (by repeat (first | (with_reducible first | exact HB.out | apply QR | apply QA | apply QN) | exact HB.out)) hb); have n1_ := aa.mk (Ql BK.out hb); have n2_ := aa.mk (Ql HG2.out hb); clear HB BK HG2; have HB := n0_; have BK := n1_; have HG2 := n2_; clear n0_ n1_ n2_ hb))
      go_roundw
      case rel => exact ⟨i + 1, by omega, by go_num, by rw [HGT.out], BK, HG2, HB⟩
      case measure => simp [intOf]; omega
    · obtain rfl : i = 6 := by omega
      have he : gc (m.take 6) = gc m := by rw [List.take_of_length_le (by rw [HML.out]; exact Nat.le_refl _)]
      rw [he]; have hgl := gc_lim m 0 lim0 HL.out; obtain ⟨d, hd⟩ : ∃ d, d = gc m := ⟨_, rfl⟩; have HD := aa.mk hd; have wD : d ≤ 4611686018427387904 := by rw [hd]; exact hgl
      rw [← hd]; clear he hgl hd HIX; by_cases h1 : 1 < d
      · have c1 : decide ((1 : Int) < (d : Int)) = true := decide_eq_true (by omega); go_wp2_with fail
        go_loopw [17] (fun i_ w' => ∃ (i : Nat) (q : List Int), i ≤ 6 ∧ i_ = .int .i64 i ∧ aa (q = (m.take i).map (·.tdiv d) ++ m.drop i) ∧ aa (w'.heap[gb]? = some (.cells (arr q) 76 (0, 0))) ∧ aa (w'.heap[g2]? = some (.cells (arr zeros6) 76 (0, 0))) ∧ aa (Below w.heap.size w w')) (fun i_ _ => 6 - (intOf i_).toNat)
        case atStart => exact ⟨0, m, by omega, rfl, ⟨by simp⟩, BK, HG2, HB⟩
        case round =>
          clear BK HG2 HB; obtain ⟨i, q, hi, rfl, HQ, BK, HG2, HB⟩ := hrel; have hql : q.length = 6 := by rw [HQ.out]; simp [HML.out]; omega
          by_cases hlt : i < 6
          · have him : i < m.length := by rw [HML.out]; exact hlt
            have hqi : q.getD i 0 = m[i] := by
              rw [HQ.out, List.getD_eq_getElem?_getD, List.getElem?_append_right (by simp; omega), List.length_map, List.length_take, Nat.min_eq_left (by omega), Nat.sub_self, List.getElem?_drop, Nat.add_zero, List.getElem?_eq_getElem him]; rfl
            have hset : q.set i (m[i].tdiv d) = (m.take (i + 1)).map (·.tdiv d) ++ m.drop (i + 1) := by
              rw [HQ.out, List.set_append_right _ _ (by simp; omega), List.length_map, List.length_take, Nat.min_eq_left (by omega), Nat.sub_self, List.drop_eq_getElem_cons him, List.set_cons_zero, List.take_succ_eq_append_getElem him, List.map_append, List.append_assoc]; rfl
            have HSET := aa.mk hset; have hc := Yj BK.out i (by omega); rw [hqi] at hc; have hf := Vi BK.out i; have hx := HL.out _ (List.getElem_mem him); generalize m[i] = x at *; unfold Lim at hx; have hdv : (Int.tdiv x d).natAbs ≤ x.natAbs := by rw [Int.natAbs_tdiv]; exact Nat.div_le_self _ _
            have hwr : wrap64 (Int.tdiv x d) = Int.tdiv x d := wrp (by omega) (by omega); have hd0 : ((d : Int) == 0) = false := beq_eq_false_iff_ne.mpr (by omega); have hd1 : ¬ (d : Int) = 0 := by omega
            have HWR := aa.mk hwr; clear hqi hset hdv; go_wp2_with fail
            go_roundw
            case rel => exact ⟨i + 1, q.set i (Int.tdiv x d), by omega, by go_num, HSET, ⟨Vx BK.out i _⟩, ⟨(heap_setCell_other _ _ _ _ (fun e => HNE.out e.symm)).trans HG2.out⟩, ⟨HB.out.setCell HGB.out _⟩⟩
            case measure => simp [intOf]; omega
          · obtain rfl : i = 6 := by omega
            have hq : q = pln m := by
              rw [HQ.out, List.take_of_length_le (by rw [HML.out]; exact Nat.le_refl _), List.drop_eq_nil_of_le (by rw [HML.out]; exact Nat.le_refl _), List.append_nil]; unfold pln; rw [← HD.out, if_pos h1]
            have HQL := aa.mk hql; have HQP := aa.mk hq; have HIQ := aa.mk (show (Try.prog.info? 76).map (·.size) = some (arr q).size by rw [ZB, hql]; exact ku); clear hq hql; go_wp2_with (first
              | (refine wpList_load_row rfl 76 _ rfl gb rfl 76 (arr q) (0, 0) _ BK.out Try.underlying76 rfl HIQ.out ?_)
              | (refine wpList_store_row rfl 76 _ _ rfl g2 (arr q) rfl rfl 76 (arr zeros6) HG2.out HIQ.out (by rw [ZB, ZB, HQL.out]; rfl) (YD q) ?_))
            refine bodyPost_ret (results_cell_row rfl _ _ g2 76 (arr q) (0, 0) _ rfl (setRow_heap _ _ _ _ _ _ HG2.out) Try.underlying76 rfl HIQ.out) rfl ?_; exact ⟨by rw [HQP.out], Z8 HB.out sb.out _⟩
      · have c1 : decide ((1 : Int) < (d : Int)) = false := decide_eq_false (by omega); have HQP := aa.mk (show m = pln m by unfold pln; rw [← HD.out, if_neg h1]); go_wp2_with (first
          | (refine wpList_load_row rfl 76 _ rfl gb rfl 76 (arr m) (0, 0) _ BK.out Try.underlying76 rfl HI0.out ?_)
          | (refine wpList_store_row rfl 76 _ _ rfl g2 (arr m) rfl rfl 76 (arr zeros6) HG2.out HI0.out (by rw [ZB, ZB, HML.out]; rfl) (YD m) ?_))
        refine bodyPost_ret (results_cell_row rfl _ _ g2 76 (arr m) (0, 0) _ rfl (setRow_heap _ _ _ _ _ _ HG2.out) Try.underlying76 rfl HI0.out) rfl ?_; exact ⟨by rw [← HQP.out], Z8 HB.out sb.out _⟩
theorem UG {op : Oper} {a : Act} {w : World} (x : Operand) (ho : op.op = .load 76 x) (b o : Nat) (hx : a.eval x = .pointer (some ⟨b, o, none⟩)) {r : List Int} (hr : r.length = 6) (hc : w.rangeAt b o (r.map (Value.int .i64))) : (execOp a.eval op).run Try.prog w = .ok (.value (.agg (arr r))) w := by
 unfold execOp; simp only [ho, hx, Instr.loadAt, Instr.sureAddr, Sem.run_bind, Sem.run_pure, Result.andThen_ok, run_loadVar_mid w b o 76 _ _ hc Try.underlying76 rfl (by rw [List.length_map, hr]; exact size76)]; rfl
theorem VZ {op : Oper} {a : Act} {w : World} (x y : Operand) (ho : op.op = .store 76 x y) (b o : Nat) (hx : a.eval x = .pointer (some ⟨b, o, none⟩)) {r : List Int} (hy : a.eval y = .agg (arr r)) (hr : r.length = 6) (ht : w.there b o 6) : (execOp a.eval op).run Try.prog w = .ok .skip (w.setCells b o (r.map (Value.int .i64))) := by
 unfold execOp; simp only [ho, hx, hy, Instr.storeAt, Instr.sureAddr, Sem.run_bind, Sem.run_pure, Result.andThen_ok, run_storeVar_mid w b o 76 (arr r) (by rw [ZB, hr]; exact ht) (by rw [ZB, hr]; exact size76) (YD r)]; rfl
def exch.T0 : Bool × List (List Nat × List Nat) := (true, [([], []), ([], []), ([], []), ([], []), ([], []), ([], []), ([4, 5], [4, 5]), ([6], [6]), ([], []), ([], []), ([8, 9], [8, 9]), ([10], [10]), ([0, 1, 0, 1, 4, 5, 6, 7, 11], [0, 1]), ([12, 7, 0, 1, 4, 5, 6, 7, 11], [7, 12]), ([2, 3, 0, 1, 2, 3, 4, 5, 6, 7, 8, 9, 10, 11, 12, 13], [2, 3]), ([14, 11, 13, 0, 1, 2, 3, 4, 5, 6, 7, 8, 9, 10, 11, 12, 13], [11, 14])])
def exch.B0 : List Nat := [0, 0, 0, 0, 0, 0, 48, 112, 0, 0, 768, 1792, 4083, 8179, 16383, 32767]
theorem exch.tab0 : rtab .any (opsOf Try.f128 0) = exch.T0 := by kernel_rfl
theorem exch.bits0 : waitsOk exch.T0.2 exch.B0 = true := by kernel_rfl
set_option maxHeartbeats 2000000 in
set_option maxRecDepth 100000 in
theorem exch_calls (g n c a b : Nat) (M : List (List Int)) (w : World) (hM : Bl w g M c) (hn : n = M.length) (ha : a < M.length) (hb : b < M.length) (hc : n ≤ c) :
  Calls Try.prog 128 #[.slice (some ⟨g, 0, none⟩) n c, .int .i64 (a : Int), .int .i64 (b : Int)] w fun e w' => e = .returned (.tuple #[]) ∧ w' = (w.drew.setCells g (a * 6) (M[b].map (Value.int .i64))).setCells g (b * 6) (M[a].map (Value.int .i64)) := by
 have kt := Try.underlying76; have mG := Try.underlying65; have ku := size76; have HM := aa.mk hM.drew; have HA6 := aa.mk (hM.1.at ha); have HB6 := aa.mk (hM.1.at hb); have HM1 := aa.mk (hM.drew.stores ha (hM.1.at hb)); have hb1 : b < (M.set a M[b]).length := by simpa using hb
 have q1 : (a : Int) < (n : Int) := by omega
 have q2 : (b : Int) < (n : Int) := by omega
 clear hM hn; go_enter Try.func128, Try.ntmps128; go_wp2_with fail
 refine Yg (n := 16) (S := fun w' => w'.rangeAt g (b * 6) (M[b].map (Value.int .i64)) ∧ w'.rangeAt g (a * 6) (M[a].map (Value.int .i64))) (ds := [13, 15]) #[false, false, false, false, false, false, false, false, false, false, false, false, false, false, false, false] (by kernel_rfl) rfl rfl ⟨(HM.out.range hb), (HM.out.range ha)⟩ (fun hHeld => ?_); refine ZO exch.tab0 exch.bits0 (fun HT_ HW_ => ?_); refine QV (i := 0) (N := some 6) (v := ?_) (a' := ?_) #[true, false, false, false, false, false, false, false, false, false, false, false, false, false, false, false] rfl rfl (QL HT_.out (by kernel_rfl)) (fun _ _ _ h => h) (Or.inl ⟨by rfl, ?_⟩) ?_ ?_; rotate_left
 ·intro w'; go_simp; with_reducible rfl
 rotate_left
 ·simp only [Act.put, zA, zB, zC, QB, QD]; rfl
 refine QV (i := 1) (N := some 7) (v := ?_) (a' := ?_) #[true, true, false, false, false, false, false, false, false, false, false, false, false, false, false, false] rfl rfl (QL HT_.out (by kernel_rfl)) (fun _ _ _ h => h) (Or.inl ⟨by rfl, ?_⟩) ?_ ?_; rotate_left
 ·intro w'; go_simp; with_reducible rfl
 rotate_left
 ·simp only [Act.put, zA, zB, zC, QB, QD]; rfl
 refine QV (i := 2) (N := some 8) (v := ?_) (a' := ?_) #[true, true, true, false, false, false, false, false, false, false, false, false, false, false, false, false] rfl rfl (QL HT_.out (by kernel_rfl)) (fun _ _ _ h => h) (Or.inl ⟨by rfl, ?_⟩) ?_ ?_; rotate_left
 ·intro w'; go_simp; with_reducible rfl
 rotate_left
 ·simp only [Act.put, zA, zB, zC, QB, QD]; rfl
 refine QV (i := 3) (N := some 9) (v := ?_) (a' := ?_) #[true, true, true, true, false, false, false, false, false, false, false, false, false, false, false, false] rfl rfl (QL HT_.out (by kernel_rfl)) (fun _ _ _ h => h) (Or.inl ⟨by rfl, ?_⟩) ?_ ?_; rotate_left
 ·intro w'; go_simp; with_reducible rfl
 rotate_left
 ·simp only [Act.put, zA, zB, zC, QB, QD]; rfl
 refine QV (i := 4) (N := some 10) (v := ?_) (a' := ?_) #[true, true, true, true, true, false, false, false, false, false, false, false, false, false, false, false] rfl rfl (QL HT_.out (by kernel_rfl)) (fun _ _ _ h => h) (Or.inl ⟨by rfl, ?_⟩) ?_ ?_; rotate_left
 ·intro w'; go_simp; with_reducible rfl
 rotate_left
 ·simp only [Act.put, zA, zB, zC, QB, QD]; rfl
 refine QV (i := 5) (N := some 11) (v := ?_) (a' := ?_) #[true, true, true, true, true, true, false, false, false, false, false, false, false, false, false, false] rfl rfl (QL HT_.out (by kernel_rfl)) (fun _ _ _ h => h) (Or.inl ⟨by rfl, ?_⟩) ?_ ?_; rotate_left
 ·intro w'; go_simp; with_reducible rfl
 rotate_left
 ·simp only [Act.put, zA, zB, zC, QB, QD]; rfl
 refine QV (i := 6) (N := some 12) (v := ?_) (a' := ?_) #[true, true, true, true, true, true, true, false, false, false, false, false, false, false, false, false] rfl rfl (QL HT_.out (by kernel_rfl)) (fun _ _ _ h => h) (Or.inl ⟨by rfl, ?_⟩) ?_ ?_; rotate_left
 ·intro w'; go_simp; with_reducible rfl
 rotate_left
 ·simp only [Act.put, zA, zB, zC, QB, QD]; rfl
 refine QV (i := 8) (N := some 14) (v := ?_) (a' := ?_) #[true, true, true, true, true, true, true, false, true, false, false, false, false, false, false, false] rfl rfl (QL HT_.out (by kernel_rfl)) (fun _ _ _ h => h) (Or.inl ⟨by rfl, ?_⟩) ?_ ?_; rotate_left
 ·intro w'; go_simp; with_reducible rfl
 rotate_left
 ·simp only [Act.put, zA, zB, zC, QB, QD]; rfl
 refine QV (i := 9) (N := some 15) (v := ?_) (a' := ?_) #[true, true, true, true, true, true, true, false, true, true, false, false, false, false, false, false] rfl rfl (QL HT_.out (by kernel_rfl)) (fun _ _ _ h => h) (Or.inl ⟨by rfl, ?_⟩) ?_ ?_; rotate_left
 ·intro w'; go_simp; with_reducible rfl
 rotate_left
 ·simp only [Act.put, zA, zB, zC, QB, QD]; rfl
 refine QV (i := 10) (N := some 16) (v := ?_) (a' := ?_) #[true, true, true, true, true, true, true, false, true, true, true, false, false, false, false, false] rfl rfl (QL HT_.out (by kernel_rfl)) (fun _ _ _ h => h) (Or.inl ⟨by rfl, ?_⟩) ?_ ?_; rotate_left
 ·intro w'; go_simp; with_reducible rfl
 rotate_left
 ·simp only [Act.put, zA, zB, zC, QB, QD]; rfl
 refine ZG (i := 7) (N := some 13) (v := ?_) (a' := ?_) #[true, true, true, true, true, true, true, true, true, true, true, false, false, false, false, false] rfl rfl (Zc HT_.out HW_.out (by kernel_rfl)) (fun _ _ _ h => h) (Or.inl ⟨by rfl, ?_⟩) hHeld ?_ ?_; rotate_left
 ·rintro w' ⟨s0, s1⟩; refine Eq.trans (UG (.tmp 12) (by rfl) g (b * 6) (by rfl) HB6.out s0) ?_; with_reducible rfl
 rotate_left
 ·simp only [Act.put, zA, zB, zC, QB, QD]; rfl
 refine ZG (i := 11) (N := some 17) (v := ?_) (a' := ?_) #[true, true, true, true, true, true, true, true, true, true, true, true, false, false, false, false] rfl rfl (Zc HT_.out HW_.out (by kernel_rfl)) (fun _ _ _ h => h) (Or.inl ⟨by rfl, ?_⟩) hHeld ?_ ?_; rotate_left
 ·rintro w' ⟨s0, s1⟩; refine Eq.trans (UG (.tmp 16) (by rfl) g (a * 6) (by rfl) HA6.out s1) ?_; with_reducible rfl
 rotate_left
 ·simp only [Act.put, zA, zB, zC, QB, QD]; rfl
 refine QV (i := 12) (N := some 18) (v := ?_) (a' := ?_) #[true, true, true, true, true, true, true, true, true, true, true, true, true, false, false, false] rfl rfl (QL HT_.out (by kernel_rfl)) (fun _ _ _ h => h) (Or.inl ⟨by rfl, ?_⟩) ?_ ?_; rotate_left
 ·intro w'; go_simp; with_reducible rfl
 rotate_left
 ·simp only [Act.put, zA, zB, zC, QB, QD]; rfl
 refine last_ (i := 13) (N := none) #[true, true, true, true, true, true, true, true, true, true, true, true, true, true, false, false] rfl rfl (ZR HT_.out (by kernel_rfl)) (by decide) (fun K hK => ?_); refine skip_ (w1 := ?_) (by rfl) rfl ?_ ?_; rotate_left
 ·refine Eq.trans (VZ (.tmp 18) (.tmp 13) (by rfl) g (a * 6) (by rfl) (by rfl) HB6.out (HM.out.there ha)) ?_; with_reducible rfl
 refine hK.out _ _ ?_; clear hK K; refine QV (i := 14) (N := some 19) (v := ?_) (a' := ?_) #[true, true, true, true, true, true, true, true, true, true, true, true, true, true, true, false] rfl rfl (QL HT_.out (by kernel_rfl)) (fun _ _ _ h => h) (Or.inl ⟨by rfl, ?_⟩) ?_ ?_; rotate_left
 ·intro w'; go_simp; with_reducible rfl
 rotate_left
 ·simp only [Act.put, zA, zB, zC, QB, QD]; rfl
 refine last_ (i := 15) (N := none) #[true, true, true, true, true, true, true, true, true, true, true, true, true, true, true, true] rfl rfl (ZR HT_.out (by kernel_rfl)) (by decide) (fun K hK => ?_); refine skip_ (w1 := ?_) (by rfl) rfl ?_ ?_; rotate_left
 ·refine Eq.trans (VZ (.tmp 19) (.tmp 17) (by rfl) g (b * 6) (by rfl) (by rfl) HA6.out (HM1.out.there hb1)) ?_; with_reducible rfl
 refine hK.out _ _ ?_; clear hK K; refine YC (Z5 HT_.out (by kernel_rfl)) ?_; first | go_end0 | ((try simp only [Exit.inBlock, Exit.then]); refine bodyPost_ret (results_none rfl _ _ _) rfl ?_)
 exact ⟨rfl, rfl⟩
def ZU.f (l0 : List S76) : Option (List S76) := if l0.length < 1000 then some l0 else none
set_option maxHeartbeats 1000000 in
set_option maxRecDepth 100000 in
theorem ZU.calls (A0 : Option Addr) (c0 : Nat) (l0 : List S76) (r : List S76) (w : World) (hr0 : Kd.C k76 w A0 l0.length l0) (hc0 : l0.length ≤ c0) (h : ZU.f l0 = some r) :
    Calls Try.prog 108 #[.slice A0 l0.length c0] w fun e w' => ∃ v0_ : Value, e = .returned (v0_) ∧ Kd.R k76 76 w' w.heap.size (fun _ => True) v0_ r ∧ Below w.heap.size w w' := by
  unfold ZU.f at h; by_cases hl : l0.length < 1000
  case neg => rw [if_neg hl] at h; cases h
  rw [if_pos hl] at h; obtain rfl := Option.some.inj h; clear h; have HB := aa.mk (Below.refl w.heap.size w); have kt := Try.underlying76; cases A0 with
  | none =>
    obtain rfl : l0 = [] := by
      cases l0 with
      | nil => rfl
      | cons x r => obtain ⟨ad, e, _⟩ := hr0.2.2 (by simp); cases e
    have hnil : ∀ W, (binOp .eql 65 (.slice none 0 c0) (.slice none 0 0)).run Try.prog W = .ok (.bool true) W := fun W => Lib.run_eql_slice_nil W _ _ none 0 c0 0 0 Try.underlying65
    clear hr0 hc0; go_enter Try.func108, Try.ntmps108; go_wp2_with fail
    go_ret; exact ⟨_, rfl, Kd.Yp _ _ _ _ _, HB.out⟩
  | some ad =>
    have hnil : ∀ W, (binOp .eql 65 (.slice (some ad) l0.length c0) (.slice none 0 0)).run Try.prog W = .ok (.bool false) W := fun W => Lib.run_eql_slice_nil W _ _ (some ad) _ c0 0 0 Try.underlying65
    have HR0 := aa.mk hr0; have eS := aa.mk (show ([] : List S76) = ([] : List S76) from rfl); obtain ⟨eD, dO⟩ : ∃ y_ : List S76, y_ = (([] : List S76)) := ⟨_, rfl⟩; obtain ⟨j3, cQ⟩ : ∃ y_ : List S76, y_ = (eD ++ l0) := ⟨_, rfl⟩; have HY := aa.mk (show j3 = l0 by rw [cQ, dO]; rfl); have na := aa.mk (show eD.length + l0.length < 1000 by rw [dO]; simpa using hl); clear eS; have eS := aa.mk dO; have iN := aa.mk cQ; clear hr0 hc0 hl dO cQ; go_enter Try.func108, Try.ntmps108; go_wp2_with (first | ((with_reducible refine QM (N := 5) rfl ?_); refine Kd.YH k76 _ 76 ?hg (N := 5) ?hd (xs := ([] : List S76)) (inner := []) (ok := fun _ => True) (okp := fun _ => True) ?hr ?hp (fun _ hk => hk) trivial (Below.refl _ _) (Nat.le_refl _) (by simp) ?_; (case hd => rfl); (case hg => rfl); (case hr => first | (go_simp; done) | (go_simp; rfl)); (case hp => exact (Reps.none _ _)); intro kK w3 ho4 hb hg_ hnew_; clear hg_ hnew_; (first | rw [← eS.out] at ho4 | (simp only [Int.reduceToNat] at ho4; rw [← eS.out] at ho4)); have bh := aa.mk (Kd.Zb ho4 (Qe (by repeat (first | (with_reducible first | exact HB.out | apply QR | apply QA | apply QN) | exact HB.out)))); replace HB := aa.mk (Qc (by repeat (first | (with_reducible first | exact HB.out | apply QR | apply QA | apply QN) | exact HB.out)) hb); clear hb ho4) | ((with_reducible refine ZF (b := .append) (xs := #[.tmp 5, .tmp 6]) rfl ?_); at_builtin; refine Kd.Yn k76 (Rr := k76.K w) (w0 := w) w.heap.size rfl (.tmp 5) (.tmp 6) 65 76 (.agg #[(.int .i64 0), (.int .i64 0), (.int .i64 0), (.int .i64 0), (.int .i64 0), (.int .i64 0)]) 48 rfl Try.underlying65 info76 rfl (by decide) (by omega) kK eD l0 _ _ _ (fun _ => True) (fun _ => False) rfl rfl ?aO ?aR (fun x cs hK => by rw [V8 hK]; exact VQ _ _ _ x) (fun _ h => h.elim) ?aF ?aB ?aS ?aL ?_; (case aR => exact ReadsRow.imp_ HR0.out HB.out (fun _ _ hp => hp)); (case aB => exact (by repeat (first | (with_reducible first | exact HB.out | apply QR | apply QA | apply QN) | exact HB.out))); (case aF => exact (fun _ _ => trivial)); (case aO => exact (by (with_reducible repeat (first | apply Kd.R_alloc | apply Kd.R_drewN | apply Kd.QX)); exact bh.out)); (case aS => exact (Qe (by repeat (first | (with_reducible first | exact HB.out | apply QR | apply QA | apply QN) | exact HB.out)))); (case aL => have := na.out; omega); intro mr w5 ho hb hg hat; rw [← iN.out] at ho; replace HB := aa.mk (hb); have bk := aa.mk (ho); clear bh; clear ho hb hg hat))
    go_ret; exact ⟨_, rfl, by rw [← HY.out]; exact bk.out, HB.out⟩
def nzi : List Int → Int
  | [] => -1
  | x :: l => if x ≠ 0 then 0 else if nzi l < 0 then -1 else nzi l + 1
theorem nzi_at : ∀ (l : List Int) (n : Nat) (hn : n < l.length), (∀ k, k < n → l.getD k 0 = 0) → l[n] ≠ 0 → nzi l = n
  | [], n, hn, _, _ => by simp at hn
  | x :: l, 0, hn, _, h0 => by rw [nzi, if_pos (by simpa using h0)]; rfl
  | x :: l, n + 1, hn, h, h0 => by
    have hx := h 0 (by omega); simp only [List.getD_cons_zero] at hx; rw [nzi, if_neg (fun hh => hh hx), nzi_at l n (by simpa using hn) (fun k hk => by have := h (k + 1) (by omega); simpa using this) (by simpa using h0), if_neg (by omega)]; omega
theorem nzi_none : ∀ (l : List Int), (∀ k, k < l.length → l.getD k 0 = 0) → nzi l = -1
  | [], _ => rfl
  | x :: l, h => by
    have hx := h 0 (by simp); simp only [List.getD_cons_zero] at hx; rw [nzi, if_neg (fun hh => hh hx), nzi_none l (fun k hk => by have := h (k + 1) (by simpa using hk); simpa using this)]; rfl
theorem nzi_lt : ∀ (l : List Int), nzi l < l.length
  | [] => by simp [nzi]
  | x :: l => by
    have := nzi_lt l; rw [nzi]; split
    · rw [List.length_cons]; omega
    · split <;> rw [List.length_cons] <;> omega
theorem V3 (l : List Int) (n : Nat) (h : n < l.length) : rd l (n : Int) = l[n] := by simp [rd, h]
theorem index_find (l : List Int) (a : Int) (hl : l.length ≤ 1000) : ∀ (d n : Nat), n + d = l.length → ∃ k r, QW.l0 k l a (l.length : Int) (n : Int) = some r ∧ decide (r ≥ 0) = decide (a ∈ l.drop n) := by
  intro d; induction d with
  | zero =>
    intro n hn; refine ⟨1, -1, ?_, ?_⟩
    · rw [QW.l0, if_neg (by omega)]
    · rw [List.drop_eq_nil_of_le (by omega)]; simp
  | succ d ih =>
    intro n hn; have hlt : n < l.length := by omega
    by_cases h : a = l[n]
    · refine ⟨1, (n : Int), ?_, ?_⟩
      · rw [QW.l0, if_pos (by omega), if_pos (by omega), if_pos (by omega), V3 l n hlt, if_pos h]
      · have : a ∈ l.drop n := by rw [List.drop_eq_getElem_cons hlt, ← h]; exact List.mem_cons_self ..
        rw [decide_eq_true this, decide_eq_true (by omega)]
    · obtain ⟨k, r, h1, h2⟩ := ih (n + 1) (by omega); refine ⟨k + 1, r, ?_, ?_⟩
      · rw [QW.l0, if_pos (by omega), if_pos (by omega), if_pos (by omega), V3 l n hlt, if_neg h, wrp (by omega) (by omega)]; exact h1
      · rw [h2, List.drop_eq_getElem_cons hlt]; have : a ∈ l[n] :: l.drop (n + 1) ↔ a ∈ l.drop (n + 1) := ⟨fun hh => by rcases List.mem_cons.1 hh with e | e; exact absurd e h; exact e, fun hh => List.mem_cons_of_mem _ hh⟩; exact (decide_eq_decide.2 this).symm
theorem Ug (A0 : Option Addr) (c0 : Nat) (l0 : List Int) (a : Int) (w : World) (hr0 : Kd.C (Kd.int .i64) w A0 l0.length l0) (hc0 : l0.length ≤ c0) (hl : l0.length ≤ 1000) :
    Calls Try.prog 116 #[.slice A0 l0.length c0, .int .i64 a] w fun e w' => e = .returned (.bool (decide (a ∈ l0))) ∧ Below w.heap.size w w' := by
  obtain ⟨k, r, h1, h2⟩ := index_find l0 a hl l0.length 0 (by omega); have h : ZA.f k l0 a = some (decide (a ∈ l0)) := by
    unfold ZA.f QW.f; rw [show QW.l0 k l0 a (l0.length : Int) 0 = some r from h1, Option.bind_some, h2, List.drop_zero]
  exact (ZA.calls k A0 c0 l0 a _ w hr0 hc0 h).mono fun e w' hh => ⟨hh.1, hh.2.below⟩
set_option maxHeartbeats 1000000 in
set_option maxRecDepth 100000 in
theorem isnz_calls (t : Int) (w : World) : Calls Try.prog 120 #[.int .i64 t] w fun e w' => e = .returned (.bool (t != 0)) ∧ Below w.heap.size w w' := by
  obtain ⟨b, hb⟩ : ∃ b, b = (t != 0) := ⟨_, rfl⟩; go_enter Try.func120, Try.ntmps120; go_wp2_with fail
  go_ret; exact ⟨rfl, Below.refl _ _⟩
set_option maxHeartbeats 2000000 in
set_option maxRecDepth 100000 in
theorem nzi_calls (A0 : Option Addr) (c0 : Nat) (l0 : List Int) (w : World) (hr0 : Kd.C (Kd.int .i64) w A0 l0.length l0) (hc0 : l0.length ≤ c0) (hl : l0.length ≤ 1000) :
    Calls Try.prog 119 #[.slice A0 l0.length c0, .func (.func 120) #[] #[]] w fun e w' => e = .returned (.int .i64 (nzi l0)) ∧ Below w.heap.size w w' := by
  have HR0 := aa.mk hr0; have HC0 := aa.mk hc0; have HL := aa.mk hl; clear hr0 hc0; have HB := aa.mk (Below.refl w.heap.size w); go_enter Try.func119, Try.ntmps119; go_wp2_with fail
  go_loopw [8] (fun i w' => ∃ n : Nat, n ≤ l0.length ∧ i = .int .i64 n ∧ aa (∀ k, k < n → l0.getD k 0 = 0) ∧ aa (Below w.heap.size w w')) (fun i _ => l0.length - (intOf i).toNat)
  case atStart => exact ⟨0, by omega, rfl, ⟨fun q hq => absurd hq (by omega)⟩, by first | exact HB | exact ⟨HB.out.drew⟩⟩
  case round =>
    clear HB; obtain ⟨n, hn, rfl, HA, HB⟩ := hrel; by_cases hlt : n < l0.length
    · have p1 : 0 ≤ (n : Int) := by omega
      have q1 : (n : Int) < (l0.length : Int) := by omega
      obtain ⟨ad1, e1, hx0⟩ := Kd.QZ HR0.out (n : Int) p1 q1; cases e1; replace hx0 := (HB.out.cell (World.block_lt_of_cell? w _ hx0)).trans hx0; rw [V3 l0 n hlt] at hx0; simp only [Int.toNat_natCast] at hx0; obtain ⟨x, hx⟩ : ∃ x, x = l0[n] := ⟨_, rfl⟩; rw [← hx] at hx0; have HX := aa.mk hx; have HY := aa.mk (fun W => isnz_calls x W); obtain ⟨b, hb⟩ : ∃ b, b = (x != 0) := ⟨_, rfl⟩; rw [← hb] at HY; have HBB := aa.mk hb; clear hx hb; cases b with
      | true =>
        go_wp2_with (first
          | ((with_reducible refine QM (N := 16) rfl ?_); refine Vu (some 16) rfl rfl 11 #[] rfl Try.func120 (by kernel_rfl) rfl rfl #[.int .i64 x] (by (try simp only [List.map_toArray, List.map_cons, List.map_nil]); first | done | rfl) ?_; (with_reducible refine (HY.out _).mono ?_); rintro e w9 ⟨rfl, hb⟩; refine ⟨_, rfl, ?_⟩; replace HB := aa.mk (Qc (by repeat (first | (with_reducible first | exact HB.out | apply QR | apply QA | apply QN) | exact HB.out)) hb); (try clear hb)))
        go_ret; refine ⟨?_, HB.out⟩; have h1 := HBB.out.symm; rw [nzi_at l0 n hlt HA.out (by rw [← HX.out]; simpa using h1)]; rfl
      | false =>
        go_wp2_with (first
          | ((with_reducible refine QM (N := 16) rfl ?_); refine Vu (some 16) rfl rfl 11 #[] rfl Try.func120 (by kernel_rfl) rfl rfl #[.int .i64 x] (by (try simp only [List.map_toArray, List.map_cons, List.map_nil]); first | done | rfl) ?_; (with_reducible refine (HY.out _).mono ?_); rintro e w9 ⟨rfl, hb⟩; refine ⟨_, rfl, ?_⟩; replace HB := aa.mk (Qc (by repeat (first | (with_reducible first | exact HB.out | apply QR | apply QA | apply QN) | exact HB.out)) hb); (try clear hb)))
        go_roundw
        case rel =>
          refine ⟨n + 1, by omega, by go_num, ⟨fun k hk => ?_⟩, HB⟩; by_cases hk2 : k < n
          · exact HA.out k hk2
          · obtain rfl : k = n := by omega
            have h1 := HBB.out.symm; have h2 : x = 0 := by simpa using h1
            have h3 : l0.getD k 0 = l0[k] := by rw [List.getD_eq_getElem?_getD, List.getElem?_eq_getElem hlt]; rfl
            exact h3.trans (HX.out.symm.trans h2)
        case measure => simp [intOf]; omega
    · obtain rfl : n = l0.length := by omega
      go_wp2_with fail
      go_ret; exact ⟨by rw [nzi_none l0 HA.out]; rfl, HB.out⟩
def ZL.f (l0 : List Int) : Option (List Int) := if l0.length < 17592186044416 then some l0 else none
set_option maxHeartbeats 1000000 in
set_option maxRecDepth 100000 in
theorem ZL.calls (A0 : Option Addr) (c0 : Nat) (l0 : List Int) (r : List Int) (w : World) (hr0 : Kd.C (Kd.int .i64) w A0 l0.length l0) (hc0 : l0.length ≤ c0) (h : ZL.f l0 = some r) :
    Calls Try.prog 79 #[.slice A0 l0.length c0] w fun e w' => ∃ v0_ : Value, e = .returned (v0_) ∧ Kd.R (Kd.int .i64) 3 w' w.heap.size (fun _ => True) v0_ r ∧ Below w.heap.size w w' := by
  unfold ZL.f at h; by_cases hl : l0.length < 17592186044416
  case neg => rw [if_neg hl] at h; cases h
  rw [if_pos hl] at h; obtain rfl := Option.some.inj h; clear h; have HB := aa.mk (Below.refl w.heap.size w); have hu3 := Try.underlying3; cases A0 with
  | none =>
    obtain rfl : l0 = [] := by
      cases l0 with
      | nil => rfl
      | cons x r => obtain ⟨ad, e, _⟩ := hr0.2.2 (by simp); cases e
    have hnil : ∀ W, (binOp .eql 28 (.slice none 0 c0) (.slice none 0 0)).run Try.prog W = .ok (.bool true) W := fun W => Lib.run_eql_slice_nil W _ _ none 0 c0 0 0 Try.underlying28
    clear hr0 hc0; go_enter Try.func79, Try.ntmps79; go_wp2_with fail
    go_ret; exact ⟨_, rfl, Kd.Yp _ _ _ _ _, HB.out⟩
  | some ad =>
    have hnil : ∀ W, (binOp .eql 28 (.slice (some ad) l0.length c0) (.slice none 0 0)).run Try.prog W = .ok (.bool false) W := fun W => Lib.run_eql_slice_nil W _ _ (some ad) _ c0 0 0 Try.underlying28
    have HR0 := aa.mk hr0; have eS := aa.mk (show ([] : List Int) = ([] : List Int) from rfl); obtain ⟨eD, dO⟩ : ∃ y_ : List Int, y_ = (([] : List Int)) := ⟨_, rfl⟩; obtain ⟨j3, cQ⟩ : ∃ y_ : List Int, y_ = (eD ++ l0) := ⟨_, rfl⟩; have HY := aa.mk (show j3 = l0 by rw [cQ, dO]; rfl); have na := aa.mk (show eD.length + l0.length < 17592186044416 by rw [dO]; simpa using hl); clear eS; have eS := aa.mk dO; have iN := aa.mk cQ; clear hr0 hc0 hl dO cQ; go_enter Try.func79, Try.ntmps79; go_wp2_with (first | ((with_reducible refine QM (N := 5) rfl ?_); refine Kd.YH (Kd.int .i64) _ 3 ?hg (N := 5) ?hd (xs := ([] : List Int)) (inner := []) (ok := fun _ => True) (okp := fun _ => True) ?hr ?hp (fun _ hk => hk) trivial (Below.refl _ _) (Nat.le_refl _) (by simp) ?_; (case hd => rfl); (case hg => rfl); (case hr => first | (go_simp; done) | (go_simp; rfl)); (case hp => exact (Reps.none _ _)); intro kK w3 ho4 hb hg_ hnew_; clear hg_ hnew_; (first | rw [← eS.out] at ho4 | (simp only [Int.reduceToNat] at ho4; rw [← eS.out] at ho4)); have bh := aa.mk (Kd.Zb ho4 (Qe (by repeat (first | (with_reducible first | exact HB.out | apply QR | apply QA | apply QN) | exact HB.out)))); replace HB := aa.mk (Qc (by repeat (first | (with_reducible first | exact HB.out | apply QR | apply QA | apply QN) | exact HB.out)) hb); clear hb ho4) | ((with_reducible refine ZF (b := .append) (xs := #[.tmp 5, .tmp 6]) rfl ?_); at_builtin; refine Kd.Yn (Kd.int .i64) (w0 := w) w.heap.size rfl (.tmp 5) (.tmp 6) 28 3 (.int .i64 0) 8 rfl Try.underlying28 info3 rfl (by decide) (by omega) kK eD l0 _ _ _ (fun _ => True) (fun _ => False) rfl rfl ?aO ?aR (fun _ _ h => h) (fun _ h => h.elim) ?aF ?aB ?aS ?aL ?_; (case aR => repeat (first | exact (Kd.Qh HR0.out HB.out) | (with_reducible refine Kd.C_alloc ?_ _) | (with_reducible refine Kd.Zu ?_ _) | (with_reducible refine Kd.C_drew ?_))); (case aB => exact (by repeat (first | (with_reducible first | exact HB.out | apply QR | apply QA | apply QN) | exact HB.out))); (case aF => exact (fun _ _ => trivial)); (case aO => exact (by (with_reducible repeat (first | apply Kd.R_alloc | apply Kd.R_drewN | apply Kd.QX)); exact bh.out)); (case aS => exact (Qe (by repeat (first | (with_reducible first | exact HB.out | apply QR | apply QA | apply QN) | exact HB.out)))); (case aL => have := na.out; omega); intro mr w5 ho hb hg hat; rw [← iN.out] at ho; replace HB := aa.mk (hb); have bk := aa.mk (ho); clear bh; clear ho hb hg hat))
    go_ret; exact ⟨_, rfl, by rw [← HY.out]; exact bk.out, HB.out⟩
def some6 (js : List Int) (r : List Int) : List Int := js.map fun j => r.getD j.toNat 0
def colOf (js : List Int) (x : S76) : List Int := pad (some6 js (L6 x))
def ZK.f (l0 : List S76) (l1 : List Int) : Option (List S76) :=
 if 0 < l0.length ∧ l0.length ≤ 1000 ∧ l1.length ≤ 6 ∧ ∀ j ∈ l1, 0 ≤ j ∧ j < 6 then some (l0.map fun x => mk6 (colOf l1 x)) else none
set_option maxHeartbeats 4000000 in
set_option maxRecDepth 100000 in
theorem ZK.calls (A0 : Option Addr) (c0 : Nat) (l0 : List S76) (A1 : Option Addr) (c1 : Nat) (l1 : List Int) (r : List S76) (w : World) (hr0 : Kd.C k76 w A0 l0.length l0) (hc0 : l0.length ≤ c0) (hr1 : Kd.C (Kd.int .i64) w A1 l1.length l1) (hc1 : l1.length ≤ c1) (h : ZK.f l0 l1 = some r) :
  Calls Try.prog 129 #[.slice A0 l0.length c0, .slice A1 l1.length c1] w fun e w' => ∃ v0_ : Value, e = .returned (v0_) ∧ Kd.R k76 76 w' w.heap.size (fun _ => True) v0_ r ∧ Below w.heap.size w w' := by
 unfold ZK.f at h; split at h
 case isFalse => cases h
 rename_i hcond
 obtain ⟨z0, z1, z2, z3⟩ := hcond; obtain rfl := Option.some.inj h; clear h; have kt := Try.underlying76; have mG := Try.underlying65; have p8 := Try.underlying28; have ku := size76; obtain ⟨n, hn⟩ : ∃ n, n = l0.length := ⟨_, rfl⟩; have HR0 := aa.mk hr0; have HC0 := aa.mk hc0; have HR1 := aa.mk hr1; have HC1 := aa.mk hc1; have HZ3 := aa.mk z3; obtain ⟨ad, eL, hcL⟩ := hr0.2.2 z0; subst eL; have HL := aa.mk hcL; clear hcL hr0 hc0 hr1 hc1 z3; have HB := aa.mk (Below.refl w.heap.size w); go_enter Try.func129, Try.ntmps129; go_wp2_with (first
  | ((with_reducible refine QM (N := 11) rfl ?_); refine Kd.U9 k76 _ 76 rfl (N := 11) rfl 65 _ _ rfl (l0.length : Int) rfl rfl Try.underlying65 (.agg #[(.int .i64 0), (.int .i64 0), (.int .i64 0), (.int .i64 0), (.int .i64 0), (.int .i64 0)]) 48 info76 rfl (by decide) (by omega) z76 (ok := fun _ => True) (okp := fun _ => True) (VQ _ _ _ z76) (fun _ hk => hk) trivial (by omega) (by simp only [Int.toNat_natCast]; omega) (Below.refl _ _) (Nat.le_refl _) ?_; intro v14 w14 ho hb hgr hat; obtain ⟨g, c, hv, hgw, -, hbl, hlc, hcm⟩ := (Bl.of_R ho).resolve_left (fun hh => absurd (congrArg List.length hh.2) (by rw [List.length_replicate, List.length_nil, Int.toNat_natCast]; omega)); rw [List.length_replicate, Int.toNat_natCast] at hv hlc; subst hv; have HBL := aa.mk hbl; have HCM := aa.mk hcm; have HGW := aa.mk hgw; have n0_ := aa.mk (Qc HB.out hb); clear HB hbl hcm hgw; have HB := n0_; clear n0_ ho hb hgr hat))
 have HM := aa.mk (show Made (fun k => colOf l1 (l0.getD k z76)) l0.length 0 (pad []) ((List.replicate (l0.length : Int).toNat z76).map L6) from ⟨by simp, fun q hq => by
  rw [List.map_replicate, Int.toNat_natCast, List.getElem?_replicate, if_pos hq, if_neg (by omega)]; split <;> rfl⟩)
 generalize (List.replicate (l0.length : Int).toNat z76).map L6 = M at HM HBL; go_loopw [14] (fun k_ w' => ∃ (k : Nat) (M : List (List Int)), k ≤ l0.length ∧ k_ = .int .i64 k ∧ aa (Made (fun k => colOf l1 (l0.getD k z76)) l0.length k (pad []) M) ∧ aa (Bl w' g M c) ∧ aa (Below w.heap.size w w')) (fun k_ _ => l0.length - (intOf k_).toNat)
 case atStart => exact ⟨0, M, Nat.zero_le _, rfl, HM, HBL, HB⟩
 case round =>
  clear HM HBL HB M; obtain ⟨k, M, hk, rfl, HM, HBL, HB⟩ := hrel; by_cases hkn : k < l0.length
  ·go_wp2_with fail
   have HM1 := aa.mk (show Made (fun k => colOf l1 (l0.getD k z76)) l0.length k (pad (some6 (l1.take 0) (L6 (l0.getD k z76)))) M from HM.out); clear HM; go_loopw [19] (fun i_ w' => ∃ (i : Nat) (M : List (List Int)), i ≤ l1.length ∧ i_ = .int .i64 i ∧ aa (Made (fun k => colOf l1 (l0.getD k z76)) l0.length k (pad (some6 (l1.take i) (L6 (l0.getD k z76)))) M) ∧ aa (Bl w' g M c) ∧ aa (Below w.heap.size w w')) (fun i_ _ => l1.length - (intOf i_).toNat)
   case atStart => exact ⟨0, M, Nat.zero_le _, rfl, HM1, HBL, HB⟩
   case round =>
    clear HM1 HBL HB M; obtain ⟨i, M, hi, rfl, HM, HBL, HB⟩ := hrel; by_cases hil : i < l1.length
    ·obtain ⟨ad2, e2, hx2⟩ := Kd.QZ HR1.out (i : Int) (by omega) (by omega); subst e2; replace hx2 := (HB.out.cell (World.block_lt_of_cell? w _ hx2)).trans hx2; obtain ⟨x, hxe⟩ : ∃ x, x = rd l1 (i : Int) := ⟨_, rfl⟩; have hxi : x = l1[i] := by rw [hxe]; simp [rd, hil]
     obtain ⟨hx0, hx6⟩ := HZ3.out x (by rw [hxi]; exact List.getElem_mem hil); rw [← hxe] at hx2; obtain ⟨q, rfl⟩ : ∃ q : Nat, x = (q : Int) := ⟨x.toNat, by omega⟩; obtain ⟨cs, _, hK, hcell⟩ := HL.out k l0[k] (List.getElem?_eq_getElem hkn); obtain rfl := V8 hK; have hrd := hcell q (.int .i64 ((L6 l0[k]).getD q 0)) (by
      have h6 : q < 6 := by omega
      match q, h6 with
      | 0, _ => rfl
      | 1, _ => rfl
      | 2, _ => rfl
      | 3, _ => rfl
      | 4, _ => rfl
      | 5, _ => rfl)
     replace hrd := (HB.out.cell (World.block_lt_of_cell? w _ hrd)).trans hrd; obtain ⟨hkM, hrow⟩ := HM.out.at hkn; have hi6 : i < 6 := by omega
     have hf := HBL.out.frozen (k * 6 + i); have hc := HBL.out.cell hkM hi6; generalize M[k].getD i 0 = old at hc; rw [show k76.sz = 6 from rfl, ← Addr.add_add] at hrd; simp only [Int.toNat_natCast] at hx2; generalize hy : (L6 l0[k]).getD q 0 = y at hrd; have hq6 : q < 6 := by omega
     have HXI := aa.mk hxi; have HQ6 := aa.mk hq6; have HKM := aa.mk hkM; have HROW := aa.mk hrow; have HY := aa.mk hy; have wB : (q : Int) < 6 := by omega
     clear hK hcell hxe hxi hrow hq6 hx0 hx6 hy; go_wp2_with fail
     go_region; go_wp2_with fail
     have HNX := aa.mk (show pad (some6 (l1.take (i + 1)) (L6 (l0.getD k z76))) = M[k].set i y by
      have e1 : l0.getD k z76 = l0[k] := by rw [List.getD_eq_getElem?_getD, List.getElem?_eq_getElem hkn]; rfl
      have hl : (some6 (l1.take i) (L6 l0[k])).length = i := by simp [some6]; omega
      have := UR (l := some6 (l1.take i) (L6 l0[k])) y (by rw [hl]; exact hi6); rw [hl] at this; rw [HROW.out, e1, this]; unfold some6; rw [List.take_succ_eq_append_getElem hil, List.map_append, List.map_singleton, ← HXI.out, Int.toNat_natCast, HY.out])
     go_roundw
     case rel => exact ⟨i + 1, M.set k (M[k].set i y), by omega, by go_num, ⟨by rw [HNX.out]; exact HM.out.set _⟩, ⟨HBL.out.store HKM.out hi6 y⟩, ⟨(HB.out.setCell HGW.out _).drew⟩⟩
     case measure => simp [intOf]; omega
    ·obtain rfl : i = l1.length := by omega
     have HM3 := aa.mk (show Made (fun k => colOf l1 (l0.getD k z76)) l0.length (k + 1) (pad []) M from (by
      have := HM.out; rw [List.take_length] at this; exact this.next))
     go_wp2_with fail
     go_roundw
     case rel => exact ⟨k + 1, M, by omega, by go_num, HM3, HBL, HB⟩
     case measure => simp [intOf]; omega
  ·obtain rfl : k = l0.length := by omega
   have hall := HM.out.all; go_wp2_with fail
   go_ret; refine ⟨_, rfl, ?_, HB.out⟩; have hR := HBL.out.R (base := w.heap.size) (ok := fun _ => True) (n := l0.length) HGW.out trivial (by rw [HM.out.1]; exact Nat.le_refl _) HCM.out; have he : (List.range l0.length).map (fun k => colOf l1 (l0.getD k z76)) = l0.map (colOf l1) := by
    apply List.ext_getElem?; intro q; by_cases hq : q < l0.length
    ·simp [hq]
    ·rw [List.getElem?_eq_none (by simp; omega), List.getElem?_eq_none (by simp; omega)]
   rw [List.take_of_length_le (by rw [HM.out.1]; exact Nat.le_refl _), hall, he, List.map_map] at hR; exact hR
end Go.Proofs.Ytdneelgnmnpanaa.P
end
section
namespace Go.Proofs.Ytdneelgnmnpanaa.P
open Go.RowKit Go.Proofs.YtdneelgnmnpanaaW.PrintWords
open Go.ChangeShapes Go.WideShapes Go.Deep
theorem addr_zero' (ad : Addr) : ad.add 0 = ad := by
  cases ad; unfold Addr.add; split <;> simp_all
section
variable {H : Type} {enc : TypeId × Value → H} {w : World} {base : Nat} {held : Bool}
theorem C_take {α : Type} {K : Kd α} {a : Option Addr} {L : List α} (n : Nat) (h : Kd.C K w a L.length L) : Kd.C K w a (L.take n).length (L.take n) := by
  refine ⟨rfl, ?_, fun hn => ?_⟩
  · have := h.2.1; simp; omega
  · obtain ⟨ad, e, hc⟩ := h.2.2 (by simp at hn; omega); refine ⟨ad, e, fun j p hj => ?_⟩; rw [List.getElem?_take] at hj; split at hj
    · exact hc j p hj
    · cases hj
theorem open_row {fuel : Nat} {v : Value} {x : DataW H × List MemPlace} (h : DataW.trod enc Try.prog w base (fun _ => true) held fuel 28 [v] = some x) (hw : ∀ n ∈ x.1.weights Try.prog 28, n ≤ reachBytes) :
    ∃ a n q, v = .slice a n (q : List Int).length ∧ n ≤ q.length ∧ Kd.C (Kd.int .i64) w a q.length q ∧ q.length * 8 ≤ reachBytes := by
  rcases open_ints Try.underlying28 Try.underlying3 (by kernel_rfl) h with ⟨hcs, _⟩ | ⟨x0, l, c, zs, hcs, _, hl, hm, hz, hx, hcell, hwf⟩
  · simp at hcs; subst hcs; exact ⟨none, 0, [], rfl, Nat.le_refl _, ⟨rfl, by simp, fun h => absurd h (by simp)⟩, Nat.zero_le _⟩
  · simp at hcs; subst hcs; simp only [if_true] at hz; refine ⟨some x0, l, zs, by rw [hz], by omega, Kd.Uq (d := (0 : Int)) (h1 := fun _ => rfl) ⟨rfl, by unfold maxLen at hm; omega, fun _ => ⟨x0, rfl, fun j hj => hcell j (by omega)⟩⟩, ?_⟩; subst hx; have hu : Try.prog.underlying 28 = some (.slice 3) := Try.underlying28; have hB : Try.prog.bytesOf 3 = 8 := by kernel_rfl
    have := hw (zs.length * 8) (by
      simp only [DataW.weights, hu, hB]; refine List.mem_cons.2 (.inl ?_); simp [lits]; omega)
    exact this
theorem Yz {P : Program} {e : TypeId} {n : Nat} : ∀ {ds : List (DataW H)} {d : DataW H}, d ∈ ds → n ∈ d.weights P e → n ∈ DataW.weightsAll P e ds
  | d0 :: ds, d, hd, hn => by
    rw [DataW.weightsAll]; rcases List.mem_cons.1 hd with rfl | hd
    · exact List.mem_append_left _ hn
    · exact List.mem_append_right _ (Yz hd hn)
theorem open_tab {fuel : Nat} {v : Value} {x : DataW H × List MemPlace} (h : DataW.trod enc Try.prog w base (fun _ => true) held fuel 22 [v] = some x) (hw : ∀ n ∈ x.1.weights Try.prog 22, n ≤ reachBytes) :
    ∃ (a : Option Addr) (L Q : List (List Int)), v = .slice a L.length Q.length ∧ Kd.C (Kd.slice 3 (Kd.int .i64)) w a L.length L ∧ L.length ≤ Q.length ∧ Kd.C Full.kd w a Q.length Q ∧ Q.length * 24 ≤ reachBytes ∧ ∀ q ∈ Q, q.length * 8 ≤ reachBytes := by
  have hu : Try.prog.underlying 22 = some (.slice 28) := Try.underlying22; rcases open_slice hu h with ⟨hcs, _⟩ | ⟨x0, l, c, m, n, D, Pl, hcs, _, hl, hm, hmm, hx, hi⟩
  · simp at hcs; subst hcs; exact ⟨none, [], [], rfl, ⟨rfl, by simp, fun h => absurd h (by simp)⟩, Nat.le_refl _, ⟨rfl, by simp, fun h => absurd h (by simp)⟩, Nat.zero_le _, by simp⟩
  · simp at hcs; subst hcs; simp only [if_true] at hmm; subst hmm; have hB : Try.prog.bytesOf 28 = 24 := by kernel_rfl
    have hC : Try.prog.cellsOf 28 = 1 := by kernel_rfl
    have hD : ∀ i, i < m → ∀ k ∈ (D i).weights Try.prog 28, k ≤ reachBytes := by
      intro i him k hk; refine hw k ?_; rw [hx]; simp only [DataW.weights, hu]; refine List.mem_cons_of_mem _ ?_; by_cases hil : i < l
      · exact List.mem_append_left _ (Yz (d := D i) (List.mem_map.2 ⟨i, List.mem_range.2 hil, rfl⟩) hk)
      · exact List.mem_append_right _ (Yz (d := D i) (List.mem_map.2 ⟨i - l, List.mem_range.2 (by omega), by rw [show l + (i - l) = i by omega]⟩) hk)
    have hrow : ∀ i, i < m → ∃ (y : Option Addr × Nat × List Int), w.cell? (x0.add i) = some (.slice y.1 y.2.1 y.2.2.length) ∧ y.2.1 ≤ y.2.2.length ∧ Kd.C (Kd.int .i64) w y.1 y.2.2.length y.2.2 ∧ y.2.2.length * 8 ≤ reachBytes := by
      intro i him; obtain ⟨cs', hc, ht'⟩ := hi i him; rw [hC] at hc; obtain ⟨_, hcl, hat⟩ := World.cells?_some hc; match cs', hcl with
      | [u], _ =>
        obtain ⟨a, n1, q, rfl, h1, h2, h3⟩ := open_row ht' (hD i him); have := hat 0 (by omega); rw [Nat.mul_one, addr_zero'] at this; exact ⟨(a, n1, q), this, h1, h2, h3⟩
    obtain ⟨f, hf⟩ : ∃ f : Nat → Option Addr × Nat × List Int, ∀ i, i < m → w.cell? (x0.add i) = some (.slice (f i).1 (f i).2.1 (f i).2.2.length) ∧ (f i).2.1 ≤ (f i).2.2.length ∧ Kd.C (Kd.int .i64) w (f i).1 (f i).2.2.length (f i).2.2 ∧ (f i).2.2.length * 8 ≤ reachBytes := by
      refine ⟨fun i => if h : i < m then (hrow i h).choose else (none, 0, []), fun i hi => ?_⟩; simp only [hi, dif_pos]; exact (hrow i hi).choose_spec
    refine ⟨some x0, (List.range l).map fun i => (f i).2.2.take (f i).2.1, (List.range m).map fun i => (f i).2.2, by simp, ⟨rfl, by simp; unfold maxLen at hm; omega, fun _ => ⟨x0, rfl, fun j p hj => ?_⟩⟩, by simpa using hl, ⟨rfl, by simp; unfold maxLen at hm; omega, fun _ => ⟨x0, rfl, fun j p hj => ?_⟩⟩, ?_, fun q hq => ?_⟩
    · obtain ⟨hjm, hp⟩ := List.getElem?_eq_some_iff.1 hj; simp at hjm hp; obtain ⟨h1, h2, h3, _⟩ := hf j (by omega); subst hp; have hlen : ((f j).2.2.take (f j).2.1).length = (f j).2.1 := by simp; omega
      refine ⟨[.slice (f j).1 (f j).2.1 (f j).2.2.length], rfl, ⟨(f j).1, (f j).2.2.length, by rw [hlen], by rw [hlen]; exact h2, C_take _ h3⟩, fun i u hu => ?_⟩; have hi0 : i = 0 := by
        have := (List.getElem?_eq_some_iff.1 hu).1; simp at this; omega
      subst hi0; show w.cell? (x0.add (j * 1 + 0)) = some u
      rw [Nat.mul_one, Nat.add_zero, h1]; exact hu
    · obtain ⟨hjm, hp⟩ := List.getElem?_eq_some_iff.1 hj; simp at hjm hp; obtain ⟨h1, h2, h3, _⟩ := hf j hjm; subst hp; refine ⟨[.slice (f j).1 (f j).2.1 (f j).2.2.length], rfl, ⟨(f j).1, (f j).2.1, rfl, h2, h3⟩, fun i u hu => ?_⟩; have hi0 : i = 0 := by
        have := (List.getElem?_eq_some_iff.1 hu).1; simp at this; omega
      subst hi0; show w.cell? (x0.add (j * 1 + 0)) = some u
      rw [Nat.mul_one, Nat.add_zero, h1]; exact hu
    · have := hw (m * 24) (by
        rw [hx]; simp only [DataW.weights, hu, hB]; refine List.mem_cons.2 (.inl ?_); simp; omega)
      simpa using this
    · obtain ⟨i, hi2, rfl⟩ := List.mem_map.1 hq; exact (hf i (List.mem_range.1 hi2)).2.2.2
theorem w24 {y0 y1 : DataW H} {n : Nat} (h : n ∈ y0.weights Try.prog 22 ∨ n ∈ y1.weights Try.prog 22) : n ∈ (DataW.agg [y0, y1]).weights Try.prog 24 := by
  have hu := Try.underlying24; simp only [DataW.weights, hu, List.map_cons, List.map_nil, DataW.weightsEach, List.append_nil, List.mem_append]; exact h
theorem w30 {y0 y1 y2 : DataW H} {n : Nat} (h : n ∈ y0.weights Try.prog 28 ∨ n ∈ y1.weights Try.prog 28) : n ∈ (DataW.agg [y0, y1, y2]).weights Try.prog 30 := by
  have hu := Try.underlying30; simp only [DataW.weights, hu, List.map_cons, List.map_nil, DataW.weightsEach, List.append_nil, List.mem_append]; rcases h with h | h
  · exact .inl h
  · exact .inr (.inl h)
theorem V0 {ts : List TypeId} {ds : List (DataW H)} {j : Nat} {t : TypeId} {d : DataW H} (hsz : (DataW.weightsEach Try.prog ts ds).all (· ≤ reachBytes) = true) (ht : ts[j]? = some t) (hd : ds[j]? = some d) : ∀ n ∈ d.weights Try.prog t, n ≤ reachBytes := fun n hn => by
  have := List.all_eq_true.1 hsz n (DataW.weights_mem_each ht hd n hn); simpa using this
theorem take_len {q : List Int} {n : Nat} (h : n ≤ q.length) : ∃ l : List Int, n = l.length ∧ l = q.take l.length := ⟨q.take n, by simp; omega, by simp⟩
end
end Go.Proofs.Ytdneelgnmnpanaa.P
end
section
namespace Go.Proofs.Ytdneelgnmnpanaa.P
open Go.RowKit Go.Proofs.YtdneelgnmnpanaaW.PrintWords Go.Proofs.YtdneelgnmnpanaaW.PrintLast Go.Proofs.YtdneelgnmnpanaaW.PrintMore
attribute [local go_sem] max2_int min2_int max_two min_two max_three min_three max_four min_four
mutual
def Qg.j0 : Nat → Bool → List (List Int) → List (List Int) → Option (Int)
 | 0, _, _, _ => none
 | k + 1, x25, ar, au => if x25 = true then (some 1) else ((Q5.f ar au).bind fun t106 => (Qg.l0 k t106 (t106.length : Int) 0 ar au))
def Qg.l0 : Nat → List (List Int) → Int → Int → List (List Int) → List (List Int) → Option (Int)
 | 0, _, _, _, _, _ => none
 | k + 1, x31, x32, x33, ar, au => if x33 < x32 then (if 0 ≤ x33 then (if x33 < (x31.length : Int) then (if 0 < (ar.length : Int) then ((Zd.f (Qt x31 x33) ((Qt ar 0).length : Int) 0 9).bind fun t111 => (if t111 = true then ((Qr.f k (Qt x31 x33)).bind fun t112 => (if t112 = 0 then (some 1) else (Qg.l0 k x31 x32 (wrap64 (x33 + 1)) ar au))) else (some 1))) else (none)) else (none)) else (none)) else (some 0)
end
def Qg.f (k : Nat) (ae : List (List Int)) (af : List (List Int)) : Option (Int) := (Q6.f (ae.length : Int) 1 3).bind fun t102 => (if t102 = true then ((Q6.f (af.length : Int) 1 3).bind fun t103 => (if t103 = true then (if 0 < (ae.length : Int) then ((Q6.f ((Qt ae 0).length : Int) 1 4).bind fun t105 => (Qg.j0 k (!t105) ae af)) else (none)) else (Qg.j0 k true ae af))) else (Qg.j0 k true ae af))
theorem Qg.ZM : ∀ k, (∀ y0 y1 y2, LeO (Qg.j0 k y0 y1 y2) (Qg.j0 (k + 1) y0 y1 y2)) ∧ (∀ y0 y1 y2 y3 y4, LeO (Qg.l0 k y0 y1 y2 y3 y4) (Qg.l0 (k + 1) y0 y1 y2 y3 y4))
 | 0 => ⟨fun _ _ _ r h => by simp [Qg.j0] at h, fun _ _ _ _ _ r h => by simp [Qg.l0] at h⟩
 | k + 1 => by
  obtain ⟨ih0, ih1⟩ := Qg.ZM k; refine ⟨?_, ?_⟩ <;> intros <;> (first | unfold Qg.j0 | unfold Qg.l0) <;> repeat' first | (with_reducible exact ih0 _ _ _) | (with_reducible exact ih1 _ _ _ _ _) | (with_reducible exact Qr.mono _ _) | (with_reducible exact LeO.refl _) | (with_reducible exact LeO.none _) | (with_reducible refine LeO.ite ?_ ?_) | (with_reducible refine LeO.bind ?_ (fun _ => ?_)) | exact ih0 _ _ _ | exact ih1 _ _ _ _ _ | exact Qr.mono _ _ | exact LeO.none _ | refine LeO.ite ?_ ?_ | refine LeO.bind ?_ (fun _ => ?_)
theorem Qg.mono : ∀ a0 a1 k, LeO (Qg.f k a0 a1) (Qg.f (k + 1) a0 a1) := by
 intro a0 a1 k; obtain ⟨ih0, ih1⟩ := Qg.ZM k; unfold Qg.f; repeat' first | (with_reducible exact ih0 _ _ _) | (with_reducible exact ih1 _ _ _ _ _) | (with_reducible exact Qr.mono _ _) | (with_reducible exact LeO.refl _) | (with_reducible exact LeO.none _) | (with_reducible refine LeO.ite ?_ ?_) | (with_reducible refine LeO.bind ?_ (fun _ => ?_)) | exact ih0 _ _ _ | exact ih1 _ _ _ _ _ | exact Qr.mono _ _ | exact LeO.none _ | refine LeO.ite ?_ ?_ | refine LeO.bind ?_ (fun _ => ?_)
set_option maxHeartbeats 8000000 in
set_option maxRecDepth 100000 in
theorem Qg.calls (k : Nat) (ak : Option Addr) (an : Nat) (ae : List (List Int)) (aj : Option Addr) (al : Nat) (af : List (List Int)) (r : Int) (w : World) (aV : Kd.C (Kd.slice 3 (Kd.int .i64)) w ak ae.length ae) (aX : ae.length ≤ an) (aU : Kd.C (Kd.slice 3 (Kd.int .i64)) w aj af.length af) (aW : af.length ≤ al) (h : Qg.f k ae af = some r) :
  Calls Try.prog 38 #[.agg #[.slice ak ae.length an, .slice aj af.length al]] w fun e w' => e = .returned (.int .i64 r) ∧ Below w.heap.size w w' := by
 have dD := Try.underlying24; have av := aa.mk aV; have aw := aa.mk aX; clear aV aX; have ay := aa.mk aU; have ax := aa.mk aW; clear aU aW; have HB := aa.mk (Below.refl w.heap.size w); have H : ((Q6.f (ae.length : Int) 1 3).bind fun t102 => (if t102 = true then ((Q6.f (af.length : Int) 1 3).bind fun t103 => (if t103 = true then (if 0 < (ae.length : Int) then ((Q6.f ((Qt ae 0).length : Int) 1 4).bind fun t105 => (Qg.j0 k (!t105) ae af)) else (none)) else (Qg.j0 k true ae af))) else (Qg.j0 k true ae af))) = some r := h; clear h; have HC2 := aa.mk H; clear H; go_enter Try.func38, Try.ntmps38; go_upto_region 1 with (first | ((with_reducible refine QM (N := 1) rfl ?_); (try (refine ZE (by rfl) ?_; dsimp only)); refine QU ?hg (N := 1) ?hd (cs := #[.slice ak ae.length an, .slice aj af.length al]) (t := 24) ?hr ?_; (case hd => rfl); (case hg => rfl); (case hr => first | (go_simp; done) | (go_simp; rfl)); intro ag hg w3 hbox hb; have ab := aa.mk (hbox); have ba := aa.mk ((by rw [hg]; exact (Qe bB) : w.heap.size ≤ ag)); have aN := aa.mk ((by rw [hg]; exact (Qe bB) : w.heap.size ≤ ag)); replace HB := aa.mk (Qc bB hb); clear hb hbox hg))
 (try simp only [Act.put, zA, zB, zC])
 go_cut [25] (fun v25 wc => ∃ (kq : Nat) (bH : Bool), v25 = .bool bH ∧ aa (Qg.j0 kq bH ae af = some r) ∧ aa (kq ≤ k) ∧ aa (wc.heap[ag]? = some (.cells #[(.slice ak ae.length an), (.slice aj af.length al)] 24 (0, 0))) ∧ aa (Below w.heap.size w wc))
 case first =>
  have H := HC2.out; clear HC2; replace H := Option.bind_eq_some_iff.mp H; obtain ⟨t102, A40, H⟩ := H; replace H : (if t102 = true then ((Q6.f (af.length : Int) 1 3).bind fun t103 => (if t103 = true then (if 0 < (ae.length : Int) then ((Q6.f ((Qt ae 0).length : Int) 1 4).bind fun t105 => (Qg.j0 k (!t105) ae af)) else (none)) else (Qg.j0 k true ae af))) else (Qg.j0 k true ae af)) = some r := H; have A4 := aa.mk A40; clear A40; by_cases c5 : t102 = true
  ·subst c5; have H1 : ((Q6.f (af.length : Int) 1 3).bind fun t103 => (if t103 = true then (if 0 < (ae.length : Int) then ((Q6.f ((Qt ae 0).length : Int) 1 4).bind fun t105 => (Qg.j0 k (!t105) ae af)) else (none)) else (Qg.j0 k true ae af))) = some r := by rw [if_pos rfl] at H; exact H
   clear H; have H := H1; clear H1; replace H := Option.bind_eq_some_iff.mp H; obtain ⟨t103, A60, H⟩ := H; replace H : (if t103 = true then (if 0 < (ae.length : Int) then ((Q6.f ((Qt ae 0).length : Int) 1 4).bind fun t105 => (Qg.j0 k (!t105) ae af)) else (none)) else (Qg.j0 k true ae af)) = some r := H; have A6 := aa.mk A60; clear A60; by_cases c7 : t103 = true
   ·subst c7; have H1 : (if 0 < (ae.length : Int) then ((Q6.f ((Qt ae 0).length : Int) 1 4).bind fun t105 => (Qg.j0 k (!t105) ae af)) else (none)) = some r := by rw [if_pos rfl] at H; exact H
    clear H; have H := H1; clear H1; by_cases c8 : 0 < (ae.length : Int)
    ·rw [if_pos c8] at H; have dU : decide (0 < (ae.length : Int)) = true := decide_eq_true c8; have kz : decide (0 < ae.length) = true := decide_eq_true (by omega); clear c8; (first | rw [dU] | (simp only [QB, QD]; rw [dU]) | skip)
     replace H := Option.bind_eq_some_iff.mp H; obtain ⟨t105, A90, H⟩ := H; replace H : (Qg.j0 k (!t105) ae af) = some r := H; have A9 := aa.mk A90; clear A90; have H' := aa.mk H; clear H; have dH : w3.cell? ⟨ag, 0, none⟩ = some (.slice ak ae.length an) := (Qb ab.out 0).trans rfl; have dG : w3.cell? ⟨ag, 1, none⟩ = some (.slice aj af.length al) := (Qb ab.out 1).trans rfl; have dF := Qa ab.out 0; have dE := Qa ab.out 1; go_wp2_with (first | ((with_reducible refine Qf (f := 75) rfl ?_); refine QE (some 8) rfl rfl Try.func75 (by kernel_rfl) rfl #[.int .i64 (ae.length : Int), .int .i64 1, .int .i64 3] rfl hA ?_; (with_reducible refine (Q6.calls (ae.length : Int) 1 3 true _ A4.out).mono ?_); rintro e w' ⟨rfl, ⟨nd, rfl⟩⟩; refine ⟨_, rfl, ?_⟩) | (go_at_call 75; (with_reducible refine (Q6.calls (af.length : Int) 1 3 true _ A6.out).mono ?_); rintro e w' ⟨rfl, ⟨nd, rfl⟩⟩; have eZ : 0 ≤ (0 : Int) := (by omega); have eW : 0 < (ae.length : Int) := of_decide_eq_true (by assumption); obtain ⟨pG, qV, qK, mY, bK, fV, fY⟩ := ZH av.out 0 eZ eW; cases mY; have qY : (0 < ae.length) = True := eq_true (by omega); (try rw [show ((0 : Int)).toNat = 0 from rfl] at bK); (try rw [Addr.add_zero'] at bK); replace bK := (HB.out.cell (World.block_lt_of_cell? w _ bK)).trans bK; have oX := aa.mk fY; have pa := aa.mk fV; clear fY fV; replace eZ := eq_true eZ; replace eW := eq_true eW) | (go_at_call 75; (with_reducible refine (Q6.calls ((Qt ae 0).length : Int) 1 4 t105 _ A9.out).mono ?_); rintro e w' ⟨rfl, ⟨nd, rfl⟩⟩))
     go_meet
     case rel => exact ⟨_, (!t105), (by first | rfl | (simp; done) | (simp [*]; done)), H', ⟨by first | omega | exact Nat.le_refl _⟩, ⟨by (with_reducible repeat (first | refine Qv ?_ _ | refine Qx ?_ | refine Qu ?_ _)); exact ab.out⟩, ⟨bB⟩⟩
    ·rw [if_neg c8] at H; exact absurd H (by simp)
   ·replace c7 := Bool.eq_false_iff.mpr c7; subst c7; have H1 : (Qg.j0 k true ae af) = some r := by rw [if_neg (show ¬ (false = true) by decide)] at H; exact H
    clear H; have H := H1; clear H1; have H' := aa.mk H; clear H; have cl : w3.cell? ⟨ag, 0, none⟩ = some (.slice ak ae.length an) := (Qb ab.out 0).trans rfl; have ck : w3.cell? ⟨ag, 1, none⟩ = some (.slice aj af.length al) := (Qb ab.out 1).trans rfl; have cj := Qa ab.out 0; have ch := Qa ab.out 1; go_wp2_with (first | ((with_reducible refine Qf (f := 75) rfl ?_); refine QE (some 8) rfl rfl Try.func75 (by kernel_rfl) rfl #[.int .i64 (ae.length : Int), .int .i64 1, .int .i64 3] rfl hA ?_; (with_reducible refine (Q6.calls (ae.length : Int) 1 3 true _ A4.out).mono ?_); rintro e w' ⟨rfl, ⟨nd, rfl⟩⟩; refine ⟨_, rfl, ?_⟩) | (go_at_call 75; (with_reducible refine (Q6.calls (af.length : Int) 1 3 false _ A6.out).mono ?_); rintro e w' ⟨rfl, ⟨nd, rfl⟩⟩))
    go_meet
    case rel => exact ⟨_, (true), (by first | rfl | (simp; done) | (simp [*]; done)), H', ⟨by first | omega | exact Nat.le_refl _⟩, ⟨by (with_reducible repeat (first | refine Qv ?_ _ | refine Qx ?_ | refine Qu ?_ _)); exact ab.out⟩, ⟨bB⟩⟩
  ·replace c5 := Bool.eq_false_iff.mpr c5; subst c5; have H1 : (Qg.j0 k true ae af) = some r := by rw [if_neg (show ¬ (false = true) by decide)] at H; exact H
   clear H; have H := H1; clear H1; have H' := aa.mk H; clear H; have ei : w3.cell? ⟨ag, 0, none⟩ = some (.slice ak ae.length an) := (Qb ab.out 0).trans rfl; have eh : w3.cell? ⟨ag, 1, none⟩ = some (.slice aj af.length al) := (Qb ab.out 1).trans rfl; have eg := Qa ab.out 0; have ef := Qa ab.out 1; go_wp2_with (first | ((with_reducible refine Qf (f := 75) rfl ?_); refine QE (some 8) rfl rfl Try.func75 (by kernel_rfl) rfl #[.int .i64 (ae.length : Int), .int .i64 1, .int .i64 3] rfl hA ?_; (with_reducible refine (Q6.calls (ae.length : Int) 1 3 false _ A4.out).mono ?_); rintro e w' ⟨rfl, ⟨nd, rfl⟩⟩; refine ⟨_, rfl, ?_⟩))
   go_meet
   case rel => exact ⟨_, (true), (by first | rfl | (simp; done) | (simp [*]; done)), H', ⟨by first | omega | exact Nat.le_refl _⟩, ⟨by (with_reducible repeat (first | refine Qv ?_ _ | refine Qx ?_ | refine Qu ?_ _)); exact ab.out⟩, ⟨bB⟩⟩
 case rest =>
  clear HC2; try clear c1
  try clear p1
  try clear q1
  try clear hx1
  try clear qi1
  try clear p2
  try clear c3
  try clear c5
  try clear c7
  try clear c8
  try clear dU
  try clear kz
  try clear c10
  try clear p10
  try clear q10
  try clear hH
  try clear j7
  try clear dH
  try clear dG
  try clear cl
  try clear ck
  try clear ei
  try clear eh
  try clear dF
  try clear dE
  try clear cj
  try clear ch
  try clear eg
  try clear ef
  try clear bK
  try clear eZ
  try clear eW
  obtain ⟨kq, bH, rfl, HA, HJ1, ab, HB⟩ := hcut; cases kq with
  | zero => exact absurd HA.out (by simp [Qg.j0])
  | succ kj1 =>
   have H := HA.out; clear HA; simp only [Qg.j0] at H; by_cases c13 : bH = true
   ·subst c13; have H1 : (some 1) = some r := by rw [if_pos rfl] at H; exact H
    clear H; have H := H1; clear H1; obtain rfl := Option.some.inj H; go_wp2; go_ret; exact ⟨by first | rfl | (simp [Qk, Qj] <;> rfl) | (simp [*, Qk, Qj] <;> rfl), bB⟩
   ·replace c13 := Bool.eq_false_iff.mpr c13; subst c13; have H1 : ((Q5.f ae af).bind fun t106 => (Qg.l0 kj1 t106 (t106.length : Int) 0 ae af)) = some r := by rw [if_neg (show ¬ (false = true) by decide)] at H; exact H
    clear H; have H := H1; clear H1; replace H := Option.bind_eq_some_iff.mp H; obtain ⟨t106, sB, H⟩ := H; replace H : (Qg.l0 kj1 t106 (t106.length : Int) 0 ae af) = some r := H; have A14 := aa.mk sB; clear sB; have H' := aa.mk H; clear H; have gy : wc.cell? ⟨ag, 0, none⟩ = some (.slice ak ae.length an) := (Qb ab.out 0).trans rfl; have gw : wc.cell? ⟨ag, 1, none⟩ = some (.slice aj af.length al) := (Qb ab.out 1).trans rfl; have gj := Qa ab.out 0; have gi := Qa ab.out 1; go_wp2_with (first | ((with_reducible refine QM (N := 30) rfl ?_); refine Two.build ?hg (N := 30) ?hd (v0 := .slice ak ae.length an) (v1 := .slice aj af.length al) ?hr ?_; (case hd => rfl); (case hg => rfl); (case hr => first | (go_simp; done) | (go_simp; rfl)); intro gq hgq wq hqb hqbel; replace HB := aa.mk (Qc bB hqbel); replace ab := aa.mk (Ql ab.out hqbel); have BQ := aa.mk hqb; clear hqb hqbel hgq) | ((with_reducible refine Qf (f := 76) rfl ?_); refine QE (some 31) rfl rfl Try.func76 (by kernel_rfl) rfl #[.slice (some ⟨gq, 0, none⟩) 2 2] rfl hA ?_; (with_reducible refine (Q5.calls (fun k_ => k_ < w.heap.size) _ _ ae (fun k_ => k_ < w.heap.size) _ _ af t106 _ _ BQ.out ?ai ?ah A14.out).mono ?_); (case ai => exact Kd.V_mk aw.out (Kd.Z2 (Kd.C_F (Kd.ZQ 3 (Kd.Z3 .i64)) av.out) bB)); (case ah => exact Kd.V_mk ax.out (Kd.Z2 (Kd.C_F (Kd.ZQ 3 (Kd.Z3 .i64)) ay.out) bB)); rintro e w16 ⟨nq, rfl, ho0, hb⟩; refine ⟨_, rfl, ?_⟩; have jj := aa.mk (Kd.Ya (Kd.ZT (ok' := fun k_ => k_ ≠ ag) ho0 (fun k_ hk_ => Or.elim hk_ (fun hs_ => Or.elim hs_ (fun hs_ => fun e_ => Nat.not_le.2 hs_ (by rw [e_]; exact ba.out)) (fun hs_ => fun e_ => Nat.not_le.2 hs_ (by rw [e_]; exact ba.out))) (fun hn_ => (Kd.freshB (g := ag) (o := .cells #[.slice ak ae.length an, .slice aj af.length al] 24 (0, 0)) (by (with_reducible repeat (first | refine Qv ?_ _ | refine Qx ?_ | refine Qu ?_ _)); exact ab.out) k_ hn_)))) (Qe bB)); replace ab := aa.mk (Ql ab.out hb); replace HB := aa.mk (Qc bB hb); (try clear hb); (try clear hb2); (try clear hk); (try clear hi); (try clear ho0); obtain ⟨vt, uV, uL⟩ := Kd.ZX jj.out; subst uL))
    go_loopg [33] kj1 (fun kq v33 w' => ∃ (aI : Int), v33 = .int .i64 aI ∧ aa (Qg.l0 kq t106 (t106.length : Int) aI ae af = some r) ∧ aa (kq ≤ kj1) ∧ aa (Kd.N (Kd.slice 3 (Kd.int .i64)) 28 w' w.heap.size (fun k_ => k_ ≠ ag) (.slice vt t106.length uV) t106) ∧ aa (w'.heap[ag]? = some (.cells #[(.slice ak ae.length an), (.slice aj af.length al)] 24 (0, 0))) ∧ aa (Below w.heap.size w w'))
    case atStart => exact ⟨(0), (by first | rfl | (simp; done) | (simp [*]; done)), H', ⟨Nat.le_refl _⟩, ⟨by (with_reducible repeat (first | apply Kd.N_alloc | apply Kd.ZS | apply Kd.ZW)); exact jj.out⟩, ⟨by (with_reducible repeat (first | refine Qv ?_ _ | refine Qx ?_ | refine Qu ?_ _)); exact ab.out⟩, ⟨bB⟩⟩
    case round =>
     clear H'; try clear c1
     try clear p1
     try clear q1
     try clear hx1
     try clear qi1
     try clear p2
     try clear c3
     try clear c5
     try clear c7
     try clear c8
     try clear dU
     try clear kz
     try clear c10
     try clear p10
     try clear q10
     try clear hH
     try clear j7
     try clear c13
     try clear dH
     try clear dG
     try clear cl
     try clear ck
     try clear ei
     try clear eh
     try clear gy
     try clear gw
     try clear dF
     try clear dE
     try clear cj
     try clear ch
     try clear eg
     try clear ef
     try clear gj
     try clear gi
     try clear bK
     try clear p1
     try clear p10
     try clear eZ
     try clear p2
     try clear q1
     try clear q10
     try clear eW
     obtain ⟨aI, rfl, HA, HK2, bZ, ab, HB⟩ := hrel; cases gk with
     | zero => exact absurd HA.out (by simp [Qg.l0])
     | succ k2 =>
      have H := HA.out; clear HA; simp only [Qg.l0] at H; by_cases c18 : aI < (t106.length : Int)
      ·rw [if_pos c18] at H; have iH : decide (aI < (t106.length : Int)) = true := decide_eq_true c18; clear c18; by_cases c19 : 0 ≤ aI
       ·rw [if_pos c19] at H; have ft : decide (0 ≤ aI) = true := decide_eq_true c19; clear c19; by_cases c20 : aI < (t106.length : Int)
        ·rw [if_pos c20] at H; have iG : decide (aI < (t106.length : Int)) = true := decide_eq_true c20; clear c20; by_cases c21 : 0 < (ae.length : Int)
         ·rw [if_pos c21] at H; have iF : decide (0 < (ae.length : Int)) = true := decide_eq_true c21; have vT : decide (0 < ae.length) = true := decide_eq_true (by omega); clear c21; replace H := Option.bind_eq_some_iff.mp H; obtain ⟨t111, nj, H⟩ := H; replace H : (if t111 = true then ((Qr.f k2 (Qt t106 aI)).bind fun t112 => (if t112 = 0 then (some 1) else (Qg.l0 k2 t106 (t106.length : Int) (wrap64 (aI + 1)) ae af))) else (some 1)) = some r := H; have A22 := aa.mk nj; clear nj; by_cases c23 : t111 = true
          ·subst c23; have H1 : ((Qr.f k2 (Qt t106 aI)).bind fun t112 => (if t112 = 0 then (some 1) else (Qg.l0 k2 t106 (t106.length : Int) (wrap64 (aI + 1)) ae af))) = some r := by rw [if_pos rfl] at H; exact H
           clear H; have H := H1; clear H1; replace H := Option.bind_eq_some_iff.mp H; obtain ⟨t112, ni, H⟩ := H; replace H : (if t112 = 0 then (some 1) else (Qg.l0 k2 t106 (t106.length : Int) (wrap64 (aI + 1)) ae af)) = some r := H; have A24 := aa.mk ni; clear ni; by_cases c25 : t112 = 0
           ·rw [if_pos c25] at H; have rM : (t112 == 0) = true := beq_iff_eq.mpr c25; have rL : (t112 != 0) = false := bne_eq_false_iff_eq.mpr c25; clear c25; obtain rfl := Option.some.inj H; have eY : 0 ≤ (aI : Int) := of_decide_eq_true (by assumption); have eV : aI < (t106.length : Int) := of_decide_eq_true (by assumption); obtain ⟨l9, iU, iL, k8, fw, dZ, ed⟩ := ZH (Kd.Za bZ.out).2.2 aI eY eV; cases k8; obtain ⟨py, iz, iD, fo⟩ := Kd.YI bZ.out [] aI eY (by first | exact eV | exact of_decide_eq_true (by assumption) | (have e_ := (Kd.Za bZ.out).1; omega)); obtain ⟨lu, lr, rfl, cP, cW⟩ := Kd.Zk iD; have cb := fo 0 _ rfl; rw [Nat.add_zero, show ((Kd.slice 3 (Kd.int .i64))).sz = 1 from rfl, Nat.mul_one] at cb; replace cb := Option.some.inj (cb.symm.trans fw); injection cb with hva_ hvn_ hvc_
            rw [hva_] at cW; rw [hvc_] at cP; have cJ := aa.mk (show Kd.V (Kd.int .i64) 3 _ w.heap.size _ _ (Qt t106 aI) from Kd.V_mk cP cW); clear hva_ hvn_ hvc_ cW cP; clear fo iz; have bf := aa.mk ed; have eN := aa.mk dZ; clear ed dZ; replace eY := eq_true eY; replace eV := eq_true eV; have gr : wr.cell? ⟨ag, 0, none⟩ = some (.slice ak ae.length an) := (Qb ab.out 0).trans rfl; have gp : wr.cell? ⟨ag, 1, none⟩ = some (.slice aj af.length al) := (Qb ab.out 1).trans rfl; have gf := Qa ab.out 0; have fZ := Qa ab.out 1; have cO : 0 ≤ (0 : Int) := (by omega); have cN : 0 < (ae.length : Int) := of_decide_eq_true (by assumption); obtain ⟨gZ, ll, ld, gO, bc, cT, cV⟩ := ZH av.out 0 cO cN; cases gO; have pg : (0 < ae.length) = True := eq_true (by omega); (try rw [show ((0 : Int)).toNat = 0 from rfl] at bc)
            (try rw [Addr.add_zero'] at bc)
            replace bc := (HB.out.cell (World.block_lt_of_cell? w _ bc)).trans bc; have iv := aa.mk cV; have jZ := aa.mk cT; clear cV cT; replace cO := eq_true cO; replace cN := eq_true cN; go_wp2_with (first | ((with_reducible refine Qf (f := 77) rfl ?_); refine QE (some 43) rfl rfl Try.func77 (by kernel_rfl) rfl #[.slice iU (Qt t106 aI).length iL, .int .i64 ((Qt ae 0).length : Int), .int .i64 0, .int .i64 9] rfl hA ?_; (with_reducible refine (Zd.calls _ _ (Qt t106 aI) ((Qt ae 0).length : Int) 0 9 true _ ?ai ?ah A22.out).mono ?_); (case ai => repeat (first | exact (by repeat (first | (with_reducible exact bf.out) | (with_reducible refine Kd.C_alloc ?_ _) | (with_reducible refine Kd.Zu ?_ _) | (with_reducible refine Kd.C_drew ?_) | exact bf.out)) | (with_reducible refine Kd.C_alloc ?_ _) | (with_reducible refine Kd.Zu ?_ _) | (with_reducible refine Kd.C_drew ?_))); (case ah => exact eN.out); rintro e w27 ⟨rfl, hb⟩; refine ⟨_, rfl, ?_⟩; replace bZ := aa.mk (Kd.Z0 bZ.out hb); replace cJ := aa.mk (Kd.Yv cJ.out hb); replace ab := aa.mk (Ql ab.out hb); replace bf := aa.mk (Kd.Qh (by repeat (first | (with_reducible exact bf.out) | (with_reducible refine Kd.C_alloc ?_ _) | (with_reducible refine Kd.Zu ?_ _) | (with_reducible refine Kd.C_drew ?_) | exact bf.out)) hb); replace HB := aa.mk (Qc bB hb); (try clear hb); (try clear hb2); (try clear hk); (try clear hi)) | (go_at_call 78; (with_reducible refine (Qr.calls k2 _ _ (Qt t106 aI) t112 _ ?ai ?ah A24.out).mono ?_); (case ai => repeat (first | exact (by repeat (first | (with_reducible exact bf.out) | (with_reducible refine Kd.C_alloc ?_ _) | (with_reducible refine Kd.Zu ?_ _) | (with_reducible refine Kd.C_drew ?_) | exact bf.out)) | (with_reducible refine Kd.C_alloc ?_ _) | (with_reducible refine Kd.Zu ?_ _) | (with_reducible refine Kd.C_drew ?_))); (case ah => exact eN.out); rintro e w28 ⟨rfl, hb⟩; replace bZ := aa.mk (Kd.Z0 bZ.out hb); replace cJ := aa.mk (Kd.Yv cJ.out hb); replace ab := aa.mk (Ql ab.out hb); replace bf := aa.mk (Kd.Qh (by repeat (first | (with_reducible exact bf.out) | (with_reducible refine Kd.C_alloc ?_ _) | (with_reducible refine Kd.Zu ?_ _) | (with_reducible refine Kd.C_drew ?_) | exact bf.out)) hb); replace HB := aa.mk (Qc bB hb); (try clear hb); (try clear hb2); (try clear hk); (try clear hi)))
            go_ret; exact ⟨by first | rfl | (simp [Qk, Qj] <;> rfl) | (simp [*, Qk, Qj] <;> rfl), bB⟩
           ·rw [if_neg c25] at H; have rM : (t112 == 0) = false := beq_eq_false_iff_ne.mpr c25; have rL : (t112 != 0) = true := bne_iff_ne.mpr c25; have H' := aa.mk H; clear H; have eY : 0 ≤ (aI : Int) := of_decide_eq_true (by assumption); have eV : aI < (t106.length : Int) := of_decide_eq_true (by assumption); obtain ⟨l9, iU, iL, k8, fw, dZ, ed⟩ := ZH (Kd.Za bZ.out).2.2 aI eY eV; cases k8; obtain ⟨py, iz, iD, fo⟩ := Kd.YI bZ.out [] aI eY (by first | exact eV | exact of_decide_eq_true (by assumption) | (have e_ := (Kd.Za bZ.out).1; omega)); obtain ⟨lu, lr, rfl, cP, cW⟩ := Kd.Zk iD; have cb := fo 0 _ rfl; rw [Nat.add_zero, show ((Kd.slice 3 (Kd.int .i64))).sz = 1 from rfl, Nat.mul_one] at cb; replace cb := Option.some.inj (cb.symm.trans fw); injection cb with hva_ hvn_ hvc_
            rw [hva_] at cW; rw [hvc_] at cP; have cJ := aa.mk (show Kd.V (Kd.int .i64) 3 _ w.heap.size _ _ (Qt t106 aI) from Kd.V_mk cP cW); clear hva_ hvn_ hvc_ cW cP; clear fo iz; have bf := aa.mk ed; have eN := aa.mk dZ; clear ed dZ; replace eY := eq_true eY; replace eV := eq_true eV; have lX : wr.cell? ⟨ag, 0, none⟩ = some (.slice ak ae.length an) := (Qb ab.out 0).trans rfl; have lW : wr.cell? ⟨ag, 1, none⟩ = some (.slice aj af.length al) := (Qb ab.out 1).trans rfl; have lP := Qa ab.out 0; have lO := Qa ab.out 1; have cO : 0 ≤ (0 : Int) := (by omega); have cN : 0 < (ae.length : Int) := of_decide_eq_true (by assumption); obtain ⟨gZ, ll, ld, gO, bc, cT, cV⟩ := ZH av.out 0 cO cN; cases gO; have pg : (0 < ae.length) = True := eq_true (by omega); (try rw [show ((0 : Int)).toNat = 0 from rfl] at bc)
            (try rw [Addr.add_zero'] at bc)
            replace bc := (HB.out.cell (World.block_lt_of_cell? w _ bc)).trans bc; have iv := aa.mk cV; have jZ := aa.mk cT; clear cV cT; replace cO := eq_true cO; replace cN := eq_true cN; go_wp2_with (first | ((with_reducible refine Qf (f := 77) rfl ?_); refine QE (some 43) rfl rfl Try.func77 (by kernel_rfl) rfl #[.slice iU (Qt t106 aI).length iL, .int .i64 ((Qt ae 0).length : Int), .int .i64 0, .int .i64 9] rfl hA ?_; (with_reducible refine (Zd.calls _ _ (Qt t106 aI) ((Qt ae 0).length : Int) 0 9 true _ ?ai ?ah A22.out).mono ?_); (case ai => repeat (first | exact (by repeat (first | (with_reducible exact bf.out) | (with_reducible refine Kd.C_alloc ?_ _) | (with_reducible refine Kd.Zu ?_ _) | (with_reducible refine Kd.C_drew ?_) | exact bf.out)) | (with_reducible refine Kd.C_alloc ?_ _) | (with_reducible refine Kd.Zu ?_ _) | (with_reducible refine Kd.C_drew ?_))); (case ah => exact eN.out); rintro e w30 ⟨rfl, hb⟩; refine ⟨_, rfl, ?_⟩; replace bZ := aa.mk (Kd.Z0 bZ.out hb); replace cJ := aa.mk (Kd.Yv cJ.out hb); replace ab := aa.mk (Ql ab.out hb); replace bf := aa.mk (Kd.Qh (by repeat (first | (with_reducible exact bf.out) | (with_reducible refine Kd.C_alloc ?_ _) | (with_reducible refine Kd.Zu ?_ _) | (with_reducible refine Kd.C_drew ?_) | exact bf.out)) hb); replace HB := aa.mk (Qc bB hb); (try clear hb); (try clear hb2); (try clear hk); (try clear hi)) | (go_at_call 78; (with_reducible refine (Qr.calls k2 _ _ (Qt t106 aI) t112 _ ?ai ?ah A24.out).mono ?_); (case ai => repeat (first | exact (by repeat (first | (with_reducible exact bf.out) | (with_reducible refine Kd.C_alloc ?_ _) | (with_reducible refine Kd.Zu ?_ _) | (with_reducible refine Kd.C_drew ?_) | exact bf.out)) | (with_reducible refine Kd.C_alloc ?_ _) | (with_reducible refine Kd.Zu ?_ _) | (with_reducible refine Kd.C_drew ?_))); (case ah => exact eN.out); rintro e w31 ⟨rfl, hb⟩; replace bZ := aa.mk (Kd.Z0 bZ.out hb); replace cJ := aa.mk (Kd.Yv cJ.out hb); replace ab := aa.mk (Ql ab.out hb); replace bf := aa.mk (Kd.Qh (by repeat (first | (with_reducible exact bf.out) | (with_reducible refine Kd.C_alloc ?_ _) | (with_reducible refine Kd.Zu ?_ _) | (with_reducible refine Kd.C_drew ?_) | exact bf.out)) hb); replace HB := aa.mk (Qc bB hb); (try clear hb); (try clear hb2); (try clear hk); (try clear hi)))
            go_roundg k2
            case measure => have := HJ1.out; have := HK2.out; omega
            case rel => exact ⟨(wrap64 (aI + 1)), (by first | rfl | (simp; done) | (simp [*]; done)), H', ⟨by have := HJ1.out; have := HK2.out; omega⟩, ⟨by (with_reducible repeat (first | apply Kd.N_alloc | apply Kd.ZS | apply Kd.ZW)); exact bZ.out⟩, ⟨by (with_reducible repeat (first | refine Qv ?_ _ | refine Qx ?_ | refine Qu ?_ _)); exact ab.out⟩, ⟨bB⟩⟩
          ·replace c23 := Bool.eq_false_iff.mpr c23; subst c23; have H1 : (some 1) = some r := by rw [if_neg (show ¬ (false = true) by decide)] at H; exact H
           clear H; have H := H1; clear H1; obtain rfl := Option.some.inj H; have eY : 0 ≤ (aI : Int) := of_decide_eq_true (by assumption); have eV : aI < (t106.length : Int) := of_decide_eq_true (by assumption); obtain ⟨l9, iU, iL, k8, fw, dZ, ed⟩ := ZH (Kd.Za bZ.out).2.2 aI eY eV; cases k8; obtain ⟨py, iz, iD, fo⟩ := Kd.YI bZ.out [] aI eY (by first | exact eV | exact of_decide_eq_true (by assumption) | (have e_ := (Kd.Za bZ.out).1; omega)); obtain ⟨lu, lr, rfl, cP, cW⟩ := Kd.Zk iD; have cb := fo 0 _ rfl; rw [Nat.add_zero, show ((Kd.slice 3 (Kd.int .i64))).sz = 1 from rfl, Nat.mul_one] at cb; replace cb := Option.some.inj (cb.symm.trans fw); injection cb with hva_ hvn_ hvc_
           rw [hva_] at cW; rw [hvc_] at cP; have cJ := aa.mk (show Kd.V (Kd.int .i64) 3 _ w.heap.size _ _ (Qt t106 aI) from Kd.V_mk cP cW); clear hva_ hvn_ hvc_ cW cP; clear fo iz; have bf := aa.mk ed; have eN := aa.mk dZ; clear ed dZ; replace eY := eq_true eY; replace eV := eq_true eV; have oE : wr.cell? ⟨ag, 0, none⟩ = some (.slice ak ae.length an) := (Qb ab.out 0).trans rfl; have oD : wr.cell? ⟨ag, 1, none⟩ = some (.slice aj af.length al) := (Qb ab.out 1).trans rfl; have nX := Qa ab.out 0; have nW := Qa ab.out 1; have cO : 0 ≤ (0 : Int) := (by omega); have cN : 0 < (ae.length : Int) := of_decide_eq_true (by assumption); obtain ⟨gZ, ll, ld, gO, bc, cT, cV⟩ := ZH av.out 0 cO cN; cases gO; have pg : (0 < ae.length) = True := eq_true (by omega); (try rw [show ((0 : Int)).toNat = 0 from rfl] at bc)
           (try rw [Addr.add_zero'] at bc)
           replace bc := (HB.out.cell (World.block_lt_of_cell? w _ bc)).trans bc; have iv := aa.mk cV; have jZ := aa.mk cT; clear cV cT; replace cO := eq_true cO; replace cN := eq_true cN; go_wp2_with (first | ((with_reducible refine Qf (f := 77) rfl ?_); refine QE (some 43) rfl rfl Try.func77 (by kernel_rfl) rfl #[.slice iU (Qt t106 aI).length iL, .int .i64 ((Qt ae 0).length : Int), .int .i64 0, .int .i64 9] rfl hA ?_; (with_reducible refine (Zd.calls _ _ (Qt t106 aI) ((Qt ae 0).length : Int) 0 9 false _ ?ai ?ah A22.out).mono ?_); (case ai => repeat (first | exact (by repeat (first | (with_reducible exact bf.out) | (with_reducible refine Kd.C_alloc ?_ _) | (with_reducible refine Kd.Zu ?_ _) | (with_reducible refine Kd.C_drew ?_) | exact bf.out)) | (with_reducible refine Kd.C_alloc ?_ _) | (with_reducible refine Kd.Zu ?_ _) | (with_reducible refine Kd.C_drew ?_))); (case ah => exact eN.out); rintro e w33 ⟨rfl, hb⟩; refine ⟨_, rfl, ?_⟩; replace bZ := aa.mk (Kd.Z0 bZ.out hb); replace cJ := aa.mk (Kd.Yv cJ.out hb); replace ab := aa.mk (Ql ab.out hb); replace bf := aa.mk (Kd.Qh (by repeat (first | (with_reducible exact bf.out) | (with_reducible refine Kd.C_alloc ?_ _) | (with_reducible refine Kd.Zu ?_ _) | (with_reducible refine Kd.C_drew ?_) | exact bf.out)) hb); replace HB := aa.mk (Qc bB hb); (try clear hb); (try clear hb2); (try clear hk); (try clear hi)))
           go_ret; exact ⟨by first | rfl | (simp [Qk, Qj] <;> rfl) | (simp [*, Qk, Qj] <;> rfl), bB⟩
         ·rw [if_neg c21] at H; exact absurd H (by simp)
        ·rw [if_neg c20] at H; exact absurd H (by simp)
       ·rw [if_neg c19] at H; exact absurd H (by simp)
      ·rw [if_neg c18] at H; have iH : decide (aI < (t106.length : Int)) = false := decide_eq_false c18; clear c18; obtain rfl := Option.some.inj H; go_wp2; go_ret; exact ⟨by first | rfl | (simp [Qk, Qj] <;> rfl) | (simp [*, Qk, Qj] <;> rfl), bB⟩
def Zs.f (k : Nat) (ae : List (List Int)) (af : List (List Int)) (l1 : List Int) : Option (Int) := (Qg.f k ae af).bind fun t102 => (if t102 = 0 then ((QS.f ae af).bind fun t103 => ((Zd.f l1 t103 (-1000000) 1000000).bind fun t104 => (if t104 = true then (some 0) else (some 1)))) else (some t102))
theorem Zs.mono : ∀ a0 a1 a2 k, LeO (Zs.f k a0 a1 a2) (Zs.f (k + 1) a0 a1 a2) := by
 intro a0 a1 a2 k; unfold Zs.f; repeat' first | (with_reducible exact Qg.mono _ _ _) | (with_reducible exact LeO.refl _) | (with_reducible exact LeO.none _) | (with_reducible refine LeO.ite ?_ ?_) | (with_reducible refine LeO.bind ?_ (fun _ => ?_)) | exact Qg.mono _ _ _ | exact LeO.none _ | refine LeO.ite ?_ ?_ | refine LeO.bind ?_ (fun _ => ?_)
set_option maxHeartbeats 8000000 in
set_option maxRecDepth 100000 in
theorem Zs.calls (k : Nat) (ak : Option Addr) (an : Nat) (ae : List (List Int)) (aj : Option Addr) (al : Nat) (af : List (List Int)) (A1 : Option Addr) (c1 : Nat) (l1 : List Int) (r : Int) (w : World) (aV : Kd.C (Kd.slice 3 (Kd.int .i64)) w ak ae.length ae) (aX : ae.length ≤ an) (aU : Kd.C (Kd.slice 3 (Kd.int .i64)) w aj af.length af) (aW : af.length ≤ al) (hr1 : Kd.C (Kd.int .i64) w A1 l1.length l1) (hc1 : l1.length ≤ c1) (h : Zs.f k ae af l1 = some r) :
  Calls Try.prog 87 #[.agg #[.slice ak ae.length an, .slice aj af.length al], .slice A1 l1.length c1] w fun e w' => e = .returned (.int .i64 r) ∧ Below w.heap.size w w' := by
 have dD := Try.underlying24; have av := aa.mk aV; have aw := aa.mk aX; clear aV aX; have ay := aa.mk aU; have ax := aa.mk aW; clear aU aW; have HR1 := aa.mk hr1; have HC1 := aa.mk hc1; clear hr1 hc1; have HB := aa.mk (Below.refl w.heap.size w); have H : ((Qg.f k ae af).bind fun t102 => (if t102 = 0 then ((QS.f ae af).bind fun t103 => ((Zd.f l1 t103 (-1000000) 1000000).bind fun t104 => (if t104 = true then (some 0) else (some 1)))) else (some t102))) = some r := h; clear h; replace H := Option.bind_eq_some_iff.mp H; obtain ⟨t102, A30, H⟩ := H; replace H : (if t102 = 0 then ((QS.f ae af).bind fun t103 => ((Zd.f l1 t103 (-1000000) 1000000).bind fun t104 => (if t104 = true then (some 0) else (some 1)))) else (some t102)) = some r := H; have A3 := aa.mk A30; clear A30; by_cases c4 : t102 = 0
 ·rw [if_pos c4] at H; have bI : (t102 == 0) = true := beq_iff_eq.mpr c4; have cZ : (t102 != 0) = false := bne_eq_false_iff_eq.mpr c4; clear c4; replace H := Option.bind_eq_some_iff.mp H; obtain ⟨t103, A50, H⟩ := H; replace H : ((Zd.f l1 t103 (-1000000) 1000000).bind fun t104 => (if t104 = true then (some 0) else (some 1))) = some r := H; have A5 := aa.mk A50; clear A50; replace H := Option.bind_eq_some_iff.mp H; obtain ⟨t104, A60, H⟩ := H; replace H : (if t104 = true then (some 0) else (some 1)) = some r := H; have A6 := aa.mk A60; clear A60; by_cases c7 : t104 = true
  ·subst c7; have H1 : (some 0) = some r := by rw [if_pos rfl] at H; exact H
   clear H; have H := H1; clear H1; obtain rfl := Option.some.inj H; go_enter Try.func87, Try.ntmps87; go_wp2_with (first | ((with_reducible refine QM (N := 2) rfl ?_); refine QU ?hg (N := 2) ?hd (cs := #[.slice ak ae.length an, .slice aj af.length al]) (t := 24) ?hr ?_; (case hd => rfl); (case hg => rfl); (case hr => first | (go_simp; done) | (go_simp; rfl)); intro ag hg w8 hbox hb; have ab := aa.mk (hbox); have ba := aa.mk ((by rw [hg]; exact (Qe bB) : w.heap.size ≤ ag)); have aN := aa.mk ((by rw [hg]; exact (Qe bB) : w.heap.size ≤ ag)); replace HB := aa.mk (Qc bB hb); clear hb hbox hg; have jG : w8.cell? ⟨ag, 0, none⟩ = some (.slice ak ae.length an) := (Qb ab.out 0).trans rfl; have jF : w8.cell? ⟨ag, 1, none⟩ = some (.slice aj af.length al) := (Qb ab.out 1).trans rfl; have jA := Qa ab.out 0; have jz := Qa ab.out 1) | ((with_reducible refine Qf (f := 38) rfl ?_); refine QE (some 7) rfl rfl Try.func38 (by kernel_rfl) rfl #[.agg #[.slice ak ae.length an, .slice aj af.length al]] rfl hA ?_; (with_reducible refine (Qg.calls k _ _ ae _ _ af t102 _ ?ai ?ah ?aq ?ao A3.out).mono ?_); (case ai => exact (Kd.Qh av.out HB.out)); (case ah => exact aw.out); (case aq => exact (Kd.Qh ay.out HB.out)); (case ao => exact ax.out); rintro e w10 ⟨rfl, hb⟩; refine ⟨_, rfl, ?_⟩; replace ab := aa.mk (Ql ab.out hb); replace HB := aa.mk (Qc bB hb); (try clear hb); (try clear hb2); (try clear hk); (try clear hi); have cl : w10.cell? ⟨ag, 0, none⟩ = some (.slice ak ae.length an) := (Qb ab.out 0).trans rfl; have ck : w10.cell? ⟨ag, 1, none⟩ = some (.slice aj af.length al) := (Qb ab.out 1).trans rfl; have cj := Qa ab.out 0; have ch := Qa ab.out 1) | ((with_reducible refine Qf (f := 71) rfl ?_); refine QE (some 13) rfl rfl Try.func71 (by kernel_rfl) rfl #[.agg #[.slice ak ae.length an, .slice aj af.length al]] rfl hA ?_; (with_reducible refine (QS.calls _ _ ae _ _ af t103 _ ?ai ?ah ?aq ?ao A5.out).mono ?_); (case ai => exact (Kd.Qh av.out HB.out)); (case ah => exact aw.out); (case aq => exact (Kd.Qh ay.out HB.out)); (case ao => exact ax.out); rintro e w12 ⟨rfl, hb⟩; refine ⟨_, rfl, ?_⟩; replace ab := aa.mk (Ql ab.out hb); replace HB := aa.mk (Qc bB hb); (try clear hb); (try clear hb2); (try clear hk); (try clear hi)) | ((with_reducible refine Qf (f := 77) rfl ?_); refine QE (some 14) rfl rfl Try.func77 (by kernel_rfl) rfl #[.slice A1 l1.length c1, .int .i64 t103, .int .i64 (-1000000), .int .i64 1000000] rfl hA ?_; (with_reducible refine (Zd.calls _ _ l1 t103 (-1000000) 1000000 true _ ?ai ?ah A6.out).mono ?_); (case ai => exact (Kd.Qh HR1.out HB.out)); (case ah => exact HC1.out); rintro e w13 ⟨rfl, hb⟩; refine ⟨_, rfl, ?_⟩; replace ab := aa.mk (Ql ab.out hb); replace HB := aa.mk (Qc bB hb); (try clear hb); (try clear hb2); (try clear hk); (try clear hi)))
   go_ret; exact ⟨by first | rfl | (simp [Qk, Qj] <;> rfl) | (simp [*, Qk, Qj] <;> rfl), bB⟩
  ·replace c7 := Bool.eq_false_iff.mpr c7; subst c7; have H1 : (some 1) = some r := by rw [if_neg (show ¬ (false = true) by decide)] at H; exact H
   clear H; have H := H1; clear H1; obtain rfl := Option.some.inj H; go_enter Try.func87, Try.ntmps87; go_wp2_with (first | ((with_reducible refine QM (N := 2) rfl ?_); refine QU ?hg (N := 2) ?hd (cs := #[.slice ak ae.length an, .slice aj af.length al]) (t := 24) ?hr ?_; (case hd => rfl); (case hg => rfl); (case hr => first | (go_simp; done) | (go_simp; rfl)); intro ag hg w14 hbox hb; have ab := aa.mk (hbox); have ba := aa.mk ((by rw [hg]; exact (Qe bB) : w.heap.size ≤ ag)); have aN := aa.mk ((by rw [hg]; exact (Qe bB) : w.heap.size ≤ ag)); replace HB := aa.mk (Qc bB hb); clear hb hbox hg; have gy : w14.cell? ⟨ag, 0, none⟩ = some (.slice ak ae.length an) := (Qb ab.out 0).trans rfl; have gw : w14.cell? ⟨ag, 1, none⟩ = some (.slice aj af.length al) := (Qb ab.out 1).trans rfl; have gj := Qa ab.out 0; have gi := Qa ab.out 1) | ((with_reducible refine Qf (f := 38) rfl ?_); refine QE (some 7) rfl rfl Try.func38 (by kernel_rfl) rfl #[.agg #[.slice ak ae.length an, .slice aj af.length al]] rfl hA ?_; (with_reducible refine (Qg.calls k _ _ ae _ _ af t102 _ ?ai ?ah ?aq ?ao A3.out).mono ?_); (case ai => exact (Kd.Qh av.out HB.out)); (case ah => exact aw.out); (case aq => exact (Kd.Qh ay.out HB.out)); (case ao => exact ax.out); rintro e w16 ⟨rfl, hb⟩; refine ⟨_, rfl, ?_⟩; replace ab := aa.mk (Ql ab.out hb); replace HB := aa.mk (Qc bB hb); (try clear hb); (try clear hb2); (try clear hk); (try clear hi); have gv : w16.cell? ⟨ag, 0, none⟩ = some (.slice ak ae.length an) := (Qb ab.out 0).trans rfl; have gu : w16.cell? ⟨ag, 1, none⟩ = some (.slice aj af.length al) := (Qb ab.out 1).trans rfl; have gh := Qa ab.out 0; have gg := Qa ab.out 1) | ((with_reducible refine Qf (f := 71) rfl ?_); refine QE (some 13) rfl rfl Try.func71 (by kernel_rfl) rfl #[.agg #[.slice ak ae.length an, .slice aj af.length al]] rfl hA ?_; (with_reducible refine (QS.calls _ _ ae _ _ af t103 _ ?ai ?ah ?aq ?ao A5.out).mono ?_); (case ai => exact (Kd.Qh av.out HB.out)); (case ah => exact aw.out); (case aq => exact (Kd.Qh ay.out HB.out)); (case ao => exact ax.out); rintro e w18 ⟨rfl, hb⟩; refine ⟨_, rfl, ?_⟩; replace ab := aa.mk (Ql ab.out hb); replace HB := aa.mk (Qc bB hb); (try clear hb); (try clear hb2); (try clear hk); (try clear hi)) | ((with_reducible refine Qf (f := 77) rfl ?_); refine QE (some 14) rfl rfl Try.func77 (by kernel_rfl) rfl #[.slice A1 l1.length c1, .int .i64 t103, .int .i64 (-1000000), .int .i64 1000000] rfl hA ?_; (with_reducible refine (Zd.calls _ _ l1 t103 (-1000000) 1000000 false _ ?ai ?ah A6.out).mono ?_); (case ai => exact (Kd.Qh HR1.out HB.out)); (case ah => exact HC1.out); rintro e w19 ⟨rfl, hb⟩; refine ⟨_, rfl, ?_⟩; replace ab := aa.mk (Ql ab.out hb); replace HB := aa.mk (Qc bB hb); (try clear hb); (try clear hb2); (try clear hk); (try clear hi)))
   go_ret; exact ⟨by first | rfl | (simp [Qk, Qj] <;> rfl) | (simp [*, Qk, Qj] <;> rfl), bB⟩
 ·rw [if_neg c4] at H; have bI : (t102 == 0) = false := beq_eq_false_iff_ne.mpr c4; have cZ : (t102 != 0) = true := bne_iff_ne.mpr c4; obtain rfl := Option.some.inj H; go_enter Try.func87, Try.ntmps87; go_wp2_with (first | ((with_reducible refine QM (N := 2) rfl ?_); refine QU ?hg (N := 2) ?hd (cs := #[.slice ak ae.length an, .slice aj af.length al]) (t := 24) ?hr ?_; (case hd => rfl); (case hg => rfl); (case hr => first | (go_simp; done) | (go_simp; rfl)); intro ag hg w20 hbox hb; have ab := aa.mk (hbox); have ba := aa.mk ((by rw [hg]; exact (Qe bB) : w.heap.size ≤ ag)); have aN := aa.mk ((by rw [hg]; exact (Qe bB) : w.heap.size ≤ ag)); replace HB := aa.mk (Qc bB hb); clear hb hbox hg; have iu : w20.cell? ⟨ag, 0, none⟩ = some (.slice ak ae.length an) := (Qb ab.out 0).trans rfl; have ir : w20.cell? ⟨ag, 1, none⟩ = some (.slice aj af.length al) := (Qb ab.out 1).trans rfl; have il := Qa ab.out 0; have ik := Qa ab.out 1) | ((with_reducible refine Qf (f := 38) rfl ?_); refine QE (some 7) rfl rfl Try.func38 (by kernel_rfl) rfl #[.agg #[.slice ak ae.length an, .slice aj af.length al]] rfl hA ?_; (with_reducible refine (Qg.calls k _ _ ae _ _ af t102 _ ?ai ?ah ?aq ?ao A3.out).mono ?_); (case ai => exact (Kd.Qh av.out HB.out)); (case ah => exact aw.out); (case aq => exact (Kd.Qh ay.out HB.out)); (case ao => exact ax.out); rintro e w22 ⟨rfl, hb⟩; refine ⟨_, rfl, ?_⟩; replace ab := aa.mk (Ql ab.out hb); replace HB := aa.mk (Qc bB hb); (try clear hb); (try clear hb2); (try clear hk); (try clear hi)))
  go_ret; exact ⟨by first | rfl | (simp [Qk, Qj] <;> rfl) | (simp [*, Qk, Qj] <;> rfl), bB⟩
mutual
def QJ.l0 : Nat → List Int → List Int → List (List Int) → Int → Int → Option (List Int)
 | 0, _, _, _, _, _ => none
 | k + 1, x1, x5, x16, x17, x18 => if x18 < x17 then (if 0 ≤ x18 then (if x18 < (x16.length : Int) then (QJ.l1 k x1 x5 0 x16 x17 x18 (Qt x16 x18) ((Qt x16 x18).length : Int) 0) else (none)) else (none)) else (some x5)
def QJ.l1 : Nat → List Int → List Int → Int → List (List Int) → Int → Int → List Int → Int → Int → Option (List Int)
 | 0, _, _, _, _, _, _, _, _, _ => none
 | k + 1, x1, x5, x8, x16, x17, x18, x22, x23, x24 => if x24 < x23 then (if 0 ≤ x24 then (if x24 < (x22.length : Int) then (if x24 < (x1.length : Int) then (QJ.l1 k x1 x5 (wrap64 (x8 + (wrap64 ((rd x22 x24) * (rd x1 x24))))) x16 x17 x18 x22 x23 (wrap64 (x24 + 1))) else (none)) else (none)) else (none)) else (if x5.length < 17592186044416 then (QJ.l0 k x1 (x5 ++ [x8]) x16 x17 (wrap64 (x18 + 1))) else (none))
end
def QJ.f (k : Nat) (ae : List (List Int)) (af : List (List Int)) (l1 : List Int) : Option (List Int) := (Q5.f ae af).bind fun t102 => (QJ.l0 k l1 ([] : List Int) t102 (t102.length : Int) 0)
theorem QJ.ZM : ∀ k, (∀ y0 y1 y2 y3 y4, LeO (QJ.l0 k y0 y1 y2 y3 y4) (QJ.l0 (k + 1) y0 y1 y2 y3 y4)) ∧ (∀ y0 y1 y2 y3 y4 y5 y6 y7 y8, LeO (QJ.l1 k y0 y1 y2 y3 y4 y5 y6 y7 y8) (QJ.l1 (k + 1) y0 y1 y2 y3 y4 y5 y6 y7 y8))
 | 0 => ⟨fun _ _ _ _ _ r h => by simp [QJ.l0] at h, fun _ _ _ _ _ _ _ _ _ r h => by simp [QJ.l1] at h⟩
 | k + 1 => by
  obtain ⟨ih0, ih1⟩ := QJ.ZM k; refine ⟨?_, ?_⟩ <;> intros <;> (first | unfold QJ.l0 | unfold QJ.l1) <;> repeat' first | (with_reducible exact ih0 _ _ _ _ _) | (with_reducible exact ih1 _ _ _ _ _ _ _ _ _) | (with_reducible exact LeO.refl _) | (with_reducible exact LeO.none _) | (with_reducible refine LeO.ite ?_ ?_) | (with_reducible refine LeO.bind ?_ (fun _ => ?_)) | exact ih0 _ _ _ _ _ | exact ih1 _ _ _ _ _ _ _ _ _ | exact LeO.none _ | refine LeO.ite ?_ ?_ | refine LeO.bind ?_ (fun _ => ?_)
theorem QJ.mono : ∀ a0 a1 a2 k, LeO (QJ.f k a0 a1 a2) (QJ.f (k + 1) a0 a1 a2) := by
 intro a0 a1 a2 k; obtain ⟨ih0, ih1⟩ := QJ.ZM k; unfold QJ.f; repeat' first | (with_reducible exact ih0 _ _ _ _ _) | (with_reducible exact ih1 _ _ _ _ _ _ _ _ _) | (with_reducible exact LeO.refl _) | (with_reducible exact LeO.none _) | (with_reducible refine LeO.ite ?_ ?_) | (with_reducible refine LeO.bind ?_ (fun _ => ?_)) | exact ih0 _ _ _ _ _ | exact ih1 _ _ _ _ _ _ _ _ _ | exact LeO.none _ | refine LeO.ite ?_ ?_ | refine LeO.bind ?_ (fun _ => ?_)
set_option maxHeartbeats 8000000 in
set_option maxRecDepth 100000 in
theorem QJ.calls (k : Nat) (ak : Option Addr) (an : Nat) (ae : List (List Int)) (aj : Option Addr) (al : Nat) (af : List (List Int)) (A1 : Option Addr) (c1 : Nat) (l1 : List Int) (r : List Int) (w : World) (aV : Kd.C (Kd.slice 3 (Kd.int .i64)) w ak ae.length ae) (aX : ae.length ≤ an) (aU : Kd.C (Kd.slice 3 (Kd.int .i64)) w aj af.length af) (aW : af.length ≤ al) (hr1 : Kd.C (Kd.int .i64) w A1 l1.length l1) (hc1 : l1.length ≤ c1) (h : QJ.f k ae af l1 = some r) :
  Calls Try.prog 86 #[.agg #[.slice ak ae.length an, .slice aj af.length al], .slice A1 l1.length c1] w fun e w' => ∃ v0_ : Value, e = .returned (v0_) ∧ Kd.R (Kd.int .i64) 3 w' w.heap.size (fun _ => True) v0_ r ∧ Below w.heap.size w w' := by
 have dD := Try.underlying24; have av := aa.mk aV; have aw := aa.mk aX; clear aV aX; have ay := aa.mk aU; have ax := aa.mk aW; clear aU aW; have HR1 := aa.mk hr1; have HC1 := aa.mk hc1; clear hr1 hc1; have HB := aa.mk (Below.refl w.heap.size w); have H : ((Q5.f ae af).bind fun t102 => (QJ.l0 k l1 ([] : List Int) t102 (t102.length : Int) 0)) = some r := h; clear h; replace H := Option.bind_eq_some_iff.mp H; obtain ⟨t102, A30, H⟩ := H; replace H : (QJ.l0 k l1 ([] : List Int) t102 (t102.length : Int) 0) = some r := H; have A3 := aa.mk A30; clear A30; have H' := aa.mk H; clear H; go_enter Try.func86, Try.ntmps86; go_wp2_with (first | ((with_reducible refine QM (N := 2) rfl ?_); refine QU ?hg (N := 2) ?hd (cs := #[.slice ak ae.length an, .slice aj af.length al]) (t := 24) ?hr ?_; (case hd => rfl); (case hg => rfl); (case hr => first | (go_simp; done) | (go_simp; rfl)); intro ag hg w4 hbox hb; have ab := aa.mk (hbox); have ba := aa.mk ((by rw [hg]; exact (Qe bB) : w.heap.size ≤ ag)); have aN := aa.mk ((by rw [hg]; exact (Qe bB) : w.heap.size ≤ ag)); replace HB := aa.mk (Qc bB hb); clear hb hbox hg; have fm : w4.cell? ⟨ag, 0, none⟩ = some (.slice ak ae.length an) := (Qb ab.out 0).trans rfl; have fl : w4.cell? ⟨ag, 1, none⟩ = some (.slice aj af.length al) := (Qb ab.out 1).trans rfl; have fi := Qa ab.out 0; have fh := Qa ab.out 1) | ((with_reducible refine QM (N := 15) rfl ?_); refine Two.build ?hg (N := 15) ?hd (v0 := .slice ak ae.length an) (v1 := .slice aj af.length al) ?hr ?_; (case hd => rfl); (case hg => rfl); (case hr => first | (go_simp; done) | (go_simp; rfl)); intro gq hgq wq hqb hqbel; replace HB := aa.mk (Qc bB hqbel); replace ab := aa.mk (Ql ab.out hqbel); have BQ := aa.mk hqb; clear hqb hqbel hgq) | ((with_reducible refine Qf (f := 76) rfl ?_); refine QE (some 16) rfl rfl Try.func76 (by kernel_rfl) rfl #[.slice (some ⟨gq, 0, none⟩) 2 2] rfl hA ?_; (with_reducible refine (Q5.calls (fun k_ => k_ < w.heap.size) _ _ ae (fun k_ => k_ < w.heap.size) _ _ af t102 _ _ BQ.out ?ai ?ah A3.out).mono ?_); (case ai => exact Kd.V_mk aw.out (Kd.Z2 (Kd.C_F (Kd.ZQ 3 (Kd.Z3 .i64)) av.out) bB)); (case ah => exact Kd.V_mk ax.out (Kd.Z2 (Kd.C_F (Kd.ZQ 3 (Kd.Z3 .i64)) ay.out) bB)); rintro e w6 ⟨hG, rfl, ho0, hb⟩; refine ⟨_, rfl, ?_⟩; have aM := aa.mk (Kd.Ya (Kd.ZT (ok' := fun k_ => k_ ≠ ag) ho0 (fun k_ hk_ => Or.elim hk_ (fun hs_ => Or.elim hs_ (fun hs_ => fun e_ => Nat.not_le.2 hs_ (by rw [e_]; exact ba.out)) (fun hs_ => fun e_ => Nat.not_le.2 hs_ (by rw [e_]; exact ba.out))) (fun hn_ => (Kd.freshB (g := ag) (o := .cells #[.slice ak ae.length an, .slice aj af.length al] 24 (0, 0)) (by (with_reducible repeat (first | refine Qv ?_ _ | refine Qx ?_ | refine Qu ?_ _)); exact ab.out) k_ hn_)))) (Qe bB)); replace ab := aa.mk (Ql ab.out hb); replace HB := aa.mk (Qc bB hb); (try clear hb); (try clear hb2); (try clear hk); (try clear hi); (try clear ho0); obtain ⟨Ao7, co7, eo7⟩ := Kd.ZX aM.out; subst eo7))
 go_loopg [5, 18] k (fun kq v5 v18 w' => ∃ (aD : List Int) (bR : Int), v18 = .int .i64 bR ∧ aa (QJ.l0 kq l1 aD t102 (t102.length : Int) bR = some r) ∧ aa (kq ≤ k) ∧ aa (Kd.R (Kd.int .i64) 3 w' w.heap.size (fun _ => True) v5 aD) ∧ aa (Kd.N (Kd.slice 3 (Kd.int .i64)) 28 w' w.heap.size (fun k_ => some k_ ≠ (v5 : Value).ownBlock ∧ k_ ≠ ag) (.slice Ao7 t102.length co7) t102) ∧ aa (w'.heap[ag]? = some (.cells #[(.slice ak ae.length an), (.slice aj af.length al)] 24 (0, 0))) ∧ aa (Below w.heap.size w w'))
 case atStart => exact ⟨(([] : List Int)), (0), (by first | rfl | (simp; done) | (simp [*]; done)), H', ⟨Nat.le_refl _⟩, ⟨by first | exact Kd.Yp _ _ _ _ _ | exact Kd.YU _ _ _ _ _ | exact Kd.V_nil _ _ _ _ _ | exact Kd.Q_nil _ _ _ _ _ | exact Kd.YZ _ _ _ _ _⟩, ⟨by (with_reducible repeat (first | apply Kd.N_alloc | apply Kd.ZS | apply Kd.ZW)); exact Kd.ZT aM.out (fun _ hk => ⟨(by simp [Value.ownBlock]), hk⟩)⟩, ⟨by (with_reducible repeat (first | refine Qv ?_ _ | refine Qx ?_ | refine Qu ?_ _)); exact ab.out⟩, ⟨bB⟩⟩
 case round =>
  clear H'; try clear c1
  try clear p2
  try clear c7
  try clear fm
  try clear fl
  try clear fi
  try clear fh
  obtain ⟨aD, bR, rfl, HA, HK1, dW, gF, ab, HB⟩ := hrel; cases gk with
  | zero => exact absurd HA.out (by simp [QJ.l0])
  | succ k1 =>
   have H := HA.out; clear HA; simp only [QJ.l0] at H; by_cases c8 : bR < (t102.length : Int)
   ·rw [if_pos c8] at H; have dU : decide (bR < (t102.length : Int)) = true := decide_eq_true c8; clear c8; by_cases c9 : 0 ≤ bR
    ·rw [if_pos c9] at H; have fA : decide (0 ≤ bR) = true := decide_eq_true c9; clear c9; by_cases c10 : bR < (t102.length : Int)
     ·rw [if_pos c10] at H; have eQ : decide (bR < (t102.length : Int)) = true := decide_eq_true c10; clear c10; have H' := aa.mk H; clear H; have b9 : 0 ≤ (bR : Int) := of_decide_eq_true (by assumption); have b8 : bR < (t102.length : Int) := of_decide_eq_true (by assumption); obtain ⟨gC, qU, uZ, fp, bY, lD, lJ⟩ := ZH (Kd.Za gF.out).2.2 bR b9 b8; cases fp; obtain ⟨vG, qn, qt, mN⟩ := Kd.YI gF.out [] bR b9 (by first | exact b8 | exact of_decide_eq_true (by assumption) | (have e_ := (Kd.Za gF.out).1; omega)); obtain ⟨sK, sG, rfl, jo, jN⟩ := Kd.Zk qt; have ic := mN 0 _ rfl; rw [Nat.add_zero, show ((Kd.slice 3 (Kd.int .i64))).sz = 1 from rfl, Nat.mul_one] at ic; replace ic := Option.some.inj (ic.symm.trans bY); injection ic with hva_ hvn_ hvc_
      rw [hva_] at jN; rw [hvc_] at jo; have tK := aa.mk (show Kd.V (Kd.int .i64) 3 _ w.heap.size _ _ (Qt t102 bR) from Kd.V_mk jo jN); clear hva_ hvn_ hvc_ jN jo; clear mN qn; have fx := aa.mk lJ; have tP := aa.mk lD; clear lJ lD; replace b9 := eq_true b9; replace b8 := eq_true b8; go_wp2; go_loopg [8, 24] k1 (fun kq v8 v24 w' => ∃ (fD : Int) (cG : Int), v8 = .int .i64 fD ∧ v24 = .int .i64 cG ∧ aa (QJ.l1 kq l1 aD fD t102 (t102.length : Int) bR (Qt t102 bR) ((Qt t102 bR).length : Int) cG = some r) ∧ aa (kq ≤ k1) ∧ aa (Kd.R (Kd.int .i64) 3 w' w.heap.size (fun _ => True) u5 aD) ∧ aa (Kd.N (Kd.slice 3 (Kd.int .i64)) 28 w' w.heap.size (fun k_ => some k_ ≠ (u5 : Value).ownBlock ∧ k_ ≠ ag) (.slice (some gC) t102.length co7) t102) ∧ aa (w'.heap[ag]? = some (.cells #[(.slice ak ae.length an), (.slice aj af.length al)] 24 (0, 0))) ∧ aa (Kd.C (Kd.int .i64) w' qU (Qt t102 bR).length (Qt t102 bR)) ∧ aa (Below w.heap.size w w'))
      case atStart => exact ⟨(0), (0), (by first | rfl | (simp; done) | (simp [*]; done)), (by first | rfl | (simp; done) | (simp [*]; done)), H', ⟨Nat.le_refl _⟩, ⟨by (with_reducible repeat (first | apply Kd.R_alloc | apply Kd.R_drewN | apply Kd.QX)); exact dW.out⟩, ⟨by (with_reducible repeat (first | apply Kd.N_alloc | apply Kd.ZS | apply Kd.ZW)); exact gF.out⟩, ⟨by (with_reducible repeat (first | refine Qv ?_ _ | refine Qx ?_ | refine Qu ?_ _)); exact ab.out⟩, ⟨by repeat (first | (with_reducible exact fx.out) | (with_reducible refine Kd.C_alloc ?_ _) | (with_reducible refine Kd.Zu ?_ _) | (with_reducible refine Kd.C_drew ?_) | exact fx.out)⟩, ⟨bB⟩⟩
      case round =>
       clear H'; try clear c1
       try clear p1
       try clear q1
       try clear hx1
       try clear p2
       try clear c7
       try clear c8
       try clear dU
       try clear c9
       try clear fA
       try clear c10
       try clear eQ
       try clear p10
       try clear q10
       try clear hH
       try clear fm
       try clear fl
       try clear fi
       try clear fh
       try clear bY
       try clear b9
       try clear p2
       try clear b8
       obtain ⟨fD, cG, rfl, rfl, HA, HK2, dW, gF, ab, fx, HB⟩ := hrel; cases gk with
       | zero => exact absurd HA.out (by simp [QJ.l1])
       | succ k2 =>
        have H := HA.out; clear HA; simp only [QJ.l1] at H; by_cases c11 : cG < ((Qt t102 bR).length : Int)
        ·rw [if_pos c11] at H; have dV : decide (cG < ((Qt t102 bR).length : Int)) = true := decide_eq_true c11; clear c11; by_cases c12 : 0 ≤ cG
         ·rw [if_pos c12] at H; have eB : decide (0 ≤ cG) = true := decide_eq_true c12; clear c12; by_cases c13 : cG < ((Qt t102 bR).length : Int)
          ·rw [if_pos c13] at H; have iJ : decide (cG < ((Qt t102 bR).length : Int)) = true := decide_eq_true c13; clear c13; by_cases c14 : cG < (l1.length : Int)
           ·rw [if_pos c14] at H; have eA : decide (cG < (l1.length : Int)) = true := decide_eq_true c14; clear c14; have H' := aa.mk H; clear H; have bz : 0 ≤ (cG : Int) := of_decide_eq_true (by assumption); have bw : cG < ((Qt t102 bR).length : Int) := of_decide_eq_true (by assumption); obtain ⟨da, dr, aQ⟩ := Kd.QZ fx.out cG bz bw; cases dr; replace aQ := by first | exact (HB.out.cell (World.block_lt_of_cell? w _ aQ)).trans aQ | exact aQ
            replace bz := eq_true bz; replace bw := eq_true bw; have fJ : 0 ≤ (cG : Int) := of_decide_eq_true (by assumption); have fH : cG < (l1.length : Int) := of_decide_eq_true (by assumption); obtain ⟨jd, k9, eI⟩ := Kd.QZ HR1.out cG fJ fH; cases k9; replace eI := by first | exact (HB.out.cell (World.block_lt_of_cell? w _ eI)).trans eI | exact eI
            replace fJ := eq_true fJ; replace fH := eq_true fH; go_wp2; go_roundg k2
            case measure => have := HK1.out; have := HK2.out; omega
            case rel => exact ⟨(wrap64 (fD + (wrap64 ((rd (Qt t102 bR) cG) * (rd l1 cG))))), (wrap64 (cG + 1)), (by first | rfl | (simp; done) | (simp [*]; done)), (by first | rfl | (simp; done) | (simp [*]; done)), H', ⟨by have := HK1.out; have := HK2.out; omega⟩, ⟨by (with_reducible repeat (first | apply Kd.R_alloc | apply Kd.R_drewN | apply Kd.QX)); exact dW.out⟩, ⟨by (with_reducible repeat (first | apply Kd.N_alloc | apply Kd.ZS | apply Kd.ZW)); exact gF.out⟩, ⟨by (with_reducible repeat (first | refine Qv ?_ _ | refine Qx ?_ | refine Qu ?_ _)); exact ab.out⟩, ⟨by repeat (first | (with_reducible exact fx.out) | (with_reducible refine Kd.C_alloc ?_ _) | (with_reducible refine Kd.Zu ?_ _) | (with_reducible refine Kd.C_drew ?_) | exact fx.out)⟩, ⟨bB⟩⟩
           ·rw [if_neg c14] at H; exact absurd H (by simp)
          ·rw [if_neg c13] at H; exact absurd H (by simp)
         ·rw [if_neg c12] at H; exact absurd H (by simp)
        ·rw [if_neg c11] at H; have dV : decide (cG < ((Qt t102 bR).length : Int)) = false := decide_eq_false c11; clear c11; by_cases c15 : aD.length < 17592186044416
         ·rw [if_pos c15] at H; have nb := aa.mk c15; clear c15; obtain ⟨ct, dm⟩ : ∃ y_ : List Int, y_ = (aD ++ [fD]) := ⟨_, rfl⟩; replace H : (QJ.l0 k2 l1 ct t102 (t102.length : Int) (wrap64 (bR + 1))) = some r := by first | (rw [dm]; with_reducible exact H) | (have H2_ := (Option.bind_some _ _).symm.trans H; rw [dm]; with_reducible exact H2_) | (have H2_ := (Option.bind_some _ _).symm.trans H; with_reducible exact H2_) | with_reducible exact H | (rw [dm]; exact H) | exact H
          have jf := aa.mk dm; clear dm; have H' := aa.mk H; clear H; go_wp2_with (first | ((with_reducible refine ZF (b := .append) (xs := #[.tmp 38, .tmp 40]) rfl ?_); at_builtin; refine Kd.YO (Kd.int .i64) (w0 := w) w.heap.size rfl (.tmp 38) (.tmp 40) 28 3 (.int .i64 0) 8 rfl Try.underlying28 info3 rfl (by decide) (by omega) u5 aD fD [.int .i64 fD] (fun _ => True) (fun _ => False) rfl rfl ?aP (fun _ hk => hk.elim) ?aF ?aO ?aB ?aS ?aL ?_; (case aP => exact rfl); (case aB => exact bB); (case aF => exact (fun _ _ => trivial)); (case aO => exact dW.out); (case aS => exact (Qe bB)); (case aL => have := nb.out; omega); intro e6 w16 ho hb hg hat; rw [← jf.out] at ho; replace gF := aa.mk (Kd.N_afterv (ok := (fun k_ => k_ ≠ ag)) (by (with_reducible repeat (first | apply Kd.N_alloc | apply Kd.ZS | apply Kd.ZW)); exact Kd.ZT gF.out (fun _ hk => ⟨hk.2, hk.1⟩)) hg hat); replace ab := aa.mk (Z4 (g := ag) (o := .cells #[.slice ak ae.length an, .slice aj af.length al] 24 (0, 0)) (by (with_reducible repeat (first | refine Qv ?_ _ | refine Qx ?_ | refine Qu ?_ _)); exact ab.out) hg (Kd.R_ne dW.out ab.out (by decide))); replace HB := aa.mk (hb); have bl := aa.mk (ho); clear dW; clear ho hb hg hat))
          go_roundg k2
          case measure => have := HK1.out; have := HK2.out; omega
          case rel => exact ⟨(ct), (wrap64 (bR + 1)), (by first | rfl | (simp; done) | (simp [*]; done)), H', ⟨by have := HK1.out; have := HK2.out; omega⟩, ⟨by (with_reducible repeat (first | apply Kd.R_alloc | apply Kd.R_drewN | apply Kd.QX)); exact bl.out⟩, ⟨by (with_reducible repeat (first | apply Kd.N_alloc | apply Kd.ZS | apply Kd.ZW)); exact Kd.ZT gF.out (fun _ hk => ⟨hk.2, hk.1⟩)⟩, ⟨by (with_reducible repeat (first | refine Qv ?_ _ | refine Qx ?_ | refine Qu ?_ _)); exact ab.out⟩, ⟨bB⟩⟩
         ·rw [if_neg c15] at H; exact absurd H (by simp)
     ·rw [if_neg c10] at H; exact absurd H (by simp)
    ·rw [if_neg c9] at H; exact absurd H (by simp)
   ·rw [if_neg c8] at H; have dU : decide (bR < (t102.length : Int)) = false := decide_eq_false c8; clear c8; obtain rfl := Option.some.inj H; go_wp2; go_ret; exact ⟨_, by first | rfl | (simp [Qk, Qj] <;> rfl) | (simp [*, Qk, Qj] <;> rfl), by (with_reducible repeat (first | apply Kd.R_alloc | apply Kd.R_drewN | apply Kd.QX)); exact dW.out, bB⟩
def QI.l0 : Nat → Bool → List Int → Int → Int → List (List Int) → List (List Int) → Option (Bool)
 | 0, _, _, _, _, _, _ => none
 | k + 1, x5, x10, x11, x12, ar, au => if x12 < x11 then (if 0 ≤ x12 then (if x12 < (x10.length : Int) then (if x12 ≥ (ar.length : Int) then (if (wrap64 (-(rd x10 x12))) < 0 then (some false) else (if x5 = true then (QI.l0 k true x10 x11 (wrap64 (x12 + 1)) ar au) else (QI.l0 k (decide ((wrap64 (-(rd x10 x12))) > 0)) x10 x11 (wrap64 (x12 + 1)) ar au))) else (if (rd x10 x12) < 0 then (some false) else (if x5 = true then (QI.l0 k true x10 x11 (wrap64 (x12 + 1)) ar au) else (QI.l0 k (decide ((rd x10 x12) > 0)) x10 x11 (wrap64 (x12 + 1)) ar au)))) else (none)) else (none)) else (some x5)
def QI.f (k : Nat) (ae : List (List Int)) (af : List (List Int)) (l1 : List Int) : Option (Bool) := (QJ.f k ae af l1).bind fun t102 => (QI.l0 k false t102 (t102.length : Int) 0 ae af)
theorem QI.ZM : ∀ k, (∀ y0 y1 y2 y3 y4 y5, LeO (QI.l0 k y0 y1 y2 y3 y4 y5) (QI.l0 (k + 1) y0 y1 y2 y3 y4 y5))
 | 0 => fun _ _ _ _ _ _ r h => by simp [QI.l0] at h
 | k + 1 => by
  have ih0 := QI.ZM k
  ·intro y0 y1 y2 y3 y4 y5; unfold QI.l0; repeat' first | (with_reducible exact ih0 _ _ _ _ _ _) | (with_reducible exact QJ.mono _ _ _ _) | (with_reducible exact LeO.refl _) | (with_reducible exact LeO.none _) | (with_reducible refine LeO.ite ?_ ?_) | (with_reducible refine LeO.bind ?_ (fun _ => ?_)) | exact ih0 _ _ _ _ _ _ | exact QJ.mono _ _ _ _ | exact LeO.none _ | refine LeO.ite ?_ ?_ | refine LeO.bind ?_ (fun _ => ?_)
theorem QI.mono : ∀ a0 a1 a2 k, LeO (QI.f k a0 a1 a2) (QI.f (k + 1) a0 a1 a2) := by
 intro a0 a1 a2 k; have ih0 := QI.ZM k; unfold QI.f; repeat' first | (with_reducible exact ih0 _ _ _ _ _ _) | (with_reducible exact QJ.mono _ _ _ _) | (with_reducible exact LeO.refl _) | (with_reducible exact LeO.none _) | (with_reducible refine LeO.ite ?_ ?_) | (with_reducible refine LeO.bind ?_ (fun _ => ?_)) | exact ih0 _ _ _ _ _ _ | exact QJ.mono _ _ _ _ | exact LeO.none _ | refine LeO.ite ?_ ?_ | refine LeO.bind ?_ (fun _ => ?_)
set_option maxHeartbeats 8000000 in
set_option maxRecDepth 100000 in
theorem QI.calls (k : Nat) (ak : Option Addr) (an : Nat) (ae : List (List Int)) (aj : Option Addr) (al : Nat) (af : List (List Int)) (A1 : Option Addr) (c1 : Nat) (l1 : List Int) (r : Bool) (w : World) (aV : Kd.C (Kd.slice 3 (Kd.int .i64)) w ak ae.length ae) (aX : ae.length ≤ an) (aU : Kd.C (Kd.slice 3 (Kd.int .i64)) w aj af.length af) (aW : af.length ≤ al) (hr1 : Kd.C (Kd.int .i64) w A1 l1.length l1) (hc1 : l1.length ≤ c1) (h : QI.f k ae af l1 = some r) :
  Calls Try.prog 83 #[.agg #[.slice ak ae.length an, .slice aj af.length al], .slice A1 l1.length c1] w fun e w' => e = .returned (.bool r) ∧ Below w.heap.size w w' := by
 have dD := Try.underlying24; have av := aa.mk aV; have aw := aa.mk aX; clear aV aX; have ay := aa.mk aU; have ax := aa.mk aW; clear aU aW; have HR1 := aa.mk hr1; have HC1 := aa.mk hc1; clear hr1 hc1; have HB := aa.mk (Below.refl w.heap.size w); have H : ((QJ.f k ae af l1).bind fun t102 => (QI.l0 k false t102 (t102.length : Int) 0 ae af)) = some r := h; clear h; replace H := Option.bind_eq_some_iff.mp H; obtain ⟨t102, A30, H⟩ := H; replace H : (QI.l0 k false t102 (t102.length : Int) 0 ae af) = some r := H; have A3 := aa.mk A30; clear A30; have H' := aa.mk H; clear H; go_enter Try.func83, Try.ntmps83; go_wp2_with (first | ((with_reducible refine QM (N := 2) rfl ?_); refine QU ?hg (N := 2) ?hd (cs := #[.slice ak ae.length an, .slice aj af.length al]) (t := 24) ?hr ?_; (case hd => rfl); (case hg => rfl); (case hr => first | (go_simp; done) | (go_simp; rfl)); intro ag hg w4 hbox hb; have ab := aa.mk (hbox); have ba := aa.mk ((by rw [hg]; exact (Qe bB) : w.heap.size ≤ ag)); have aN := aa.mk ((by rw [hg]; exact (Qe bB) : w.heap.size ≤ ag)); replace HB := aa.mk (Qc bB hb); clear hb hbox hg; have fm : w4.cell? ⟨ag, 0, none⟩ = some (.slice ak ae.length an) := (Qb ab.out 0).trans rfl; have fl : w4.cell? ⟨ag, 1, none⟩ = some (.slice aj af.length al) := (Qb ab.out 1).trans rfl; have fi := Qa ab.out 0; have fh := Qa ab.out 1) | ((with_reducible refine Qf (f := 86) rfl ?_); refine QE (some 10) rfl rfl Try.func86 (by kernel_rfl) rfl #[.agg #[.slice ak ae.length an, .slice aj af.length al], .slice A1 l1.length c1] rfl hA ?_; (with_reducible refine (QJ.calls k _ _ ae _ _ af _ _ l1 t102 _ ?ai ?ah ?aq ?ao ?aK ?aJ A3.out).mono ?_); (case ai => exact (Kd.Qh av.out HB.out)); (case ah => exact aw.out); (case aq => exact (Kd.Qh ay.out HB.out)); (case ao => exact ax.out); (case aK => exact (Kd.Qh HR1.out HB.out)); (case aJ => exact HC1.out); rintro e w6 ⟨hG, rfl, ho0, hb⟩; refine ⟨_, rfl, ?_⟩; have aM := aa.mk (Kd.Zb ho0 (Qe bB)); replace ab := aa.mk (Ql ab.out hb); replace HB := aa.mk (Qc bB hb); (try clear hb); (try clear hb2); (try clear hk); (try clear hi); (try clear ho0); obtain ⟨Ao7, co7, eo7⟩ := Kd.Q9 aM.out; subst eo7))
 go_loopg [5, 12] k (fun kq v5 v12 w' => ∃ (aD : Bool) (a7 : Int), v5 = .bool aD ∧ v12 = .int .i64 a7 ∧ aa (QI.l0 kq aD t102 (t102.length : Int) a7 ae af = some r) ∧ aa (kq ≤ k) ∧ aa (Kd.R (Kd.int .i64) 3 w' w.heap.size (fun _ => True) (.slice Ao7 t102.length co7) t102) ∧ aa (w'.heap[ag]? = some (.cells #[(.slice ak ae.length an), (.slice aj af.length al)] 24 (0, 0))) ∧ aa (Below w.heap.size w w'))
 case atStart => exact ⟨(false), (0), (by first | rfl | (simp; done) | (simp [*]; done)), (by first | rfl | (simp; done) | (simp [*]; done)), H', ⟨Nat.le_refl _⟩, ⟨by (with_reducible repeat (first | apply Kd.R_alloc | apply Kd.R_drewN | apply Kd.QX)); exact aM.out⟩, ⟨by (with_reducible repeat (first | refine Qv ?_ _ | refine Qx ?_ | refine Qu ?_ _)); exact ab.out⟩, ⟨bB⟩⟩
 case round =>
  clear H'; try clear c1
  try clear p2
  try clear fm
  try clear fl
  try clear fi
  try clear fh
  obtain ⟨aD, a7, rfl, rfl, HA, HK1, fC, ab, HB⟩ := hrel; cases gk with
  | zero => exact absurd HA.out (by simp [QI.l0])
  | succ k1 =>
   have H := HA.out; clear HA; simp only [QI.l0] at H; by_cases c8 : a7 < (t102.length : Int)
   ·rw [if_pos c8] at H; have dU : decide (a7 < (t102.length : Int)) = true := decide_eq_true c8; clear c8; by_cases c9 : 0 ≤ a7
    ·rw [if_pos c9] at H; have fA : decide (0 ≤ a7) = true := decide_eq_true c9; clear c9; by_cases c10 : a7 < (t102.length : Int)
     ·rw [if_pos c10] at H; have eQ : decide (a7 < (t102.length : Int)) = true := decide_eq_true c10; clear c10; by_cases c11 : a7 ≥ (ae.length : Int)
      ·rw [if_pos c11] at H; have dV : decide ((ae.length : Int) ≤ a7) = true := decide_eq_true c11; clear c11; by_cases c12 : (wrap64 (-(rd t102 a7))) < 0
       ·rw [if_pos c12] at H; have eB : decide ((wrap64 (-(rd t102 a7))) < 0) = true := decide_eq_true c12; clear c12; obtain rfl := Option.some.inj H; have b9 : 0 ≤ (a7 : Int) := of_decide_eq_true (by assumption); have b8 : a7 < (t102.length : Int) := of_decide_eq_true (by assumption); obtain ⟨gC, fp, bY⟩ := Kd.QZ (Kd.QH fC.out).2.2 a7 b9 b8; cases fp; replace b9 := eq_true b9; replace b8 := eq_true b8; have dh : wr.cell? ⟨ag, 0, none⟩ = some (.slice ak ae.length an) := (Qb ab.out 0).trans rfl; have dg : wr.cell? ⟨ag, 1, none⟩ = some (.slice aj af.length al) := (Qb ab.out 1).trans rfl; have df := Qa ab.out 0; have de := Qa ab.out 1; go_wp2; go_ret; exact ⟨by first | rfl | (simp [Qk, Qj] <;> rfl) | (simp [*, Qk, Qj] <;> rfl), bB⟩
       ·rw [if_neg c12] at H; have eB : decide ((wrap64 (-(rd t102 a7))) < 0) = false := decide_eq_false c12; clear c12; by_cases c14 : aD = true
        ·subst c14; have H1 : (QI.l0 k1 true t102 (t102.length : Int) (wrap64 (a7 + 1)) ae af) = some r := by rw [if_pos rfl] at H; exact H
         clear H; have H := H1; clear H1; have H' := aa.mk H; clear H; have b9 : 0 ≤ (a7 : Int) := of_decide_eq_true (by assumption); have b8 : a7 < (t102.length : Int) := of_decide_eq_true (by assumption); obtain ⟨gC, fp, bY⟩ := Kd.QZ (Kd.QH fC.out).2.2 a7 b9 b8; cases fp; replace b9 := eq_true b9; replace b8 := eq_true b8; have gy : wr.cell? ⟨ag, 0, none⟩ = some (.slice ak ae.length an) := (Qb ab.out 0).trans rfl; have gw : wr.cell? ⟨ag, 1, none⟩ = some (.slice aj af.length al) := (Qb ab.out 1).trans rfl; have gj := Qa ab.out 0; have gi := Qa ab.out 1; go_wp2; go_roundg k1
         case measure => have := HK1.out; omega
         case rel => exact ⟨(true), (wrap64 (a7 + 1)), (by first | rfl | (simp; done) | (simp [*]; done)), (by first | rfl | (simp; done) | (simp [*]; done)), H', ⟨by have := HK1.out; omega⟩, ⟨by (with_reducible repeat (first | apply Kd.R_alloc | apply Kd.R_drewN | apply Kd.QX)); exact fC.out⟩, ⟨by (with_reducible repeat (first | refine Qv ?_ _ | refine Qx ?_ | refine Qu ?_ _)); exact ab.out⟩, ⟨bB⟩⟩
        ·replace c14 := Bool.eq_false_iff.mpr c14; subst c14; have H1 : (QI.l0 k1 (decide ((wrap64 (-(rd t102 a7))) > 0)) t102 (t102.length : Int) (wrap64 (a7 + 1)) ae af) = some r := by rw [if_neg (show ¬ (false = true) by decide)] at H; exact H
         clear H; have H := H1; clear H1; have H' := aa.mk H; clear H; have b9 : 0 ≤ (a7 : Int) := of_decide_eq_true (by assumption); have b8 : a7 < (t102.length : Int) := of_decide_eq_true (by assumption); obtain ⟨gC, fp, bY⟩ := Kd.QZ (Kd.QH fC.out).2.2 a7 b9 b8; cases fp; replace b9 := eq_true b9; replace b8 := eq_true b8; have jK : wr.cell? ⟨ag, 0, none⟩ = some (.slice ak ae.length an) := (Qb ab.out 0).trans rfl; have jJ : wr.cell? ⟨ag, 1, none⟩ = some (.slice aj af.length al) := (Qb ab.out 1).trans rfl; have jE := Qa ab.out 0; have jD := Qa ab.out 1; go_wp2; go_roundg k1
         case measure => have := HK1.out; omega
         case rel => exact ⟨(decide ((wrap64 (-(rd t102 a7))) > 0)), (wrap64 (a7 + 1)), (by first | rfl | (simp; done) | (simp [*]; done)), (by first | rfl | (simp; done) | (simp [*]; done)), H', ⟨by have := HK1.out; omega⟩, ⟨by (with_reducible repeat (first | apply Kd.R_alloc | apply Kd.R_drewN | apply Kd.QX)); exact fC.out⟩, ⟨by (with_reducible repeat (first | refine Qv ?_ _ | refine Qx ?_ | refine Qu ?_ _)); exact ab.out⟩, ⟨bB⟩⟩
      ·rw [if_neg c11] at H; have dV : decide ((ae.length : Int) ≤ a7) = false := decide_eq_false c11; clear c11; by_cases c17 : (rd t102 a7) < 0
       ·rw [if_pos c17] at H; have ej : decide ((rd t102 a7) < 0) = true := decide_eq_true c17; clear c17; obtain rfl := Option.some.inj H; have b9 : 0 ≤ (a7 : Int) := of_decide_eq_true (by assumption); have b8 : a7 < (t102.length : Int) := of_decide_eq_true (by assumption); obtain ⟨gC, fp, bY⟩ := Kd.QZ (Kd.QH fC.out).2.2 a7 b9 b8; cases fp; replace b9 := eq_true b9; replace b8 := eq_true b8; have lZ : wr.cell? ⟨ag, 0, none⟩ = some (.slice ak ae.length an) := (Qb ab.out 0).trans rfl; have lY : wr.cell? ⟨ag, 1, none⟩ = some (.slice aj af.length al) := (Qb ab.out 1).trans rfl; have lR := Qa ab.out 0; have lQ := Qa ab.out 1; go_wp2; go_ret; exact ⟨by first | rfl | (simp [Qk, Qj] <;> rfl) | (simp [*, Qk, Qj] <;> rfl), bB⟩
       ·rw [if_neg c17] at H; have ej : decide ((rd t102 a7) < 0) = false := decide_eq_false c17; clear c17; by_cases c19 : aD = true
        ·subst c19; have H1 : (QI.l0 k1 true t102 (t102.length : Int) (wrap64 (a7 + 1)) ae af) = some r := by rw [if_pos rfl] at H; exact H
         clear H; have H := H1; clear H1; have H' := aa.mk H; clear H; have b9 : 0 ≤ (a7 : Int) := of_decide_eq_true (by assumption); have b8 : a7 < (t102.length : Int) := of_decide_eq_true (by assumption); obtain ⟨gC, fp, bY⟩ := Kd.QZ (Kd.QH fC.out).2.2 a7 b9 b8; cases fp; replace b9 := eq_true b9; replace b8 := eq_true b8; have oM : wr.cell? ⟨ag, 0, none⟩ = some (.slice ak ae.length an) := (Qb ab.out 0).trans rfl; have oL : wr.cell? ⟨ag, 1, none⟩ = some (.slice aj af.length al) := (Qb ab.out 1).trans rfl; have n8 := Qa ab.out 0; have n7 := Qa ab.out 1; go_wp2; go_roundg k1
         case measure => have := HK1.out; omega
         case rel => exact ⟨(true), (wrap64 (a7 + 1)), (by first | rfl | (simp; done) | (simp [*]; done)), (by first | rfl | (simp; done) | (simp [*]; done)), H', ⟨by have := HK1.out; omega⟩, ⟨by (with_reducible repeat (first | apply Kd.R_alloc | apply Kd.R_drewN | apply Kd.QX)); exact fC.out⟩, ⟨by (with_reducible repeat (first | refine Qv ?_ _ | refine Qx ?_ | refine Qu ?_ _)); exact ab.out⟩, ⟨bB⟩⟩
        ·replace c19 := Bool.eq_false_iff.mpr c19; subst c19; have H1 : (QI.l0 k1 (decide ((rd t102 a7) > 0)) t102 (t102.length : Int) (wrap64 (a7 + 1)) ae af) = some r := by rw [if_neg (show ¬ (false = true) by decide)] at H; exact H
         clear H; have H := H1; clear H1; have H' := aa.mk H; clear H; have b9 : 0 ≤ (a7 : Int) := of_decide_eq_true (by assumption); have b8 : a7 < (t102.length : Int) := of_decide_eq_true (by assumption); obtain ⟨gC, fp, bY⟩ := Kd.QZ (Kd.QH fC.out).2.2 a7 b9 b8; cases fp; replace b9 := eq_true b9; replace b8 := eq_true b8; have iu : wr.cell? ⟨ag, 0, none⟩ = some (.slice ak ae.length an) := (Qb ab.out 0).trans rfl; have ir : wr.cell? ⟨ag, 1, none⟩ = some (.slice aj af.length al) := (Qb ab.out 1).trans rfl; have il := Qa ab.out 0; have ik := Qa ab.out 1; go_wp2; go_roundg k1
         case measure => have := HK1.out; omega
         case rel => exact ⟨(decide ((rd t102 a7) > 0)), (wrap64 (a7 + 1)), (by first | rfl | (simp; done) | (simp [*]; done)), (by first | rfl | (simp; done) | (simp [*]; done)), H', ⟨by have := HK1.out; omega⟩, ⟨by (with_reducible repeat (first | apply Kd.R_alloc | apply Kd.R_drewN | apply Kd.QX)); exact fC.out⟩, ⟨by (with_reducible repeat (first | refine Qv ?_ _ | refine Qx ?_ | refine Qu ?_ _)); exact ab.out⟩, ⟨bB⟩⟩
     ·rw [if_neg c10] at H; exact absurd H (by simp)
    ·rw [if_neg c9] at H; exact absurd H (by simp)
   ·rw [if_neg c8] at H; have dU : decide (a7 < (t102.length : Int)) = false := decide_eq_false c8; clear c8; obtain rfl := Option.some.inj H; go_wp2; go_ret; exact ⟨by first | rfl | (simp [Qk, Qj] <;> rfl) | (simp [*, Qk, Qj] <;> rfl), bB⟩
def Zi.f (k : Nat) (ae : List (List Int)) (af : List (List Int)) (l1 : List Int) : Option (Int) := (Qg.f k ae af).bind fun t102 => (if t102 = 0 then (if 0 < (ae.length : Int) then ((Zd.f l1 ((Qt ae 0).length : Int) (-1000000) 1000000).bind fun t104 => (if t104 = true then (some 0) else (some 1))) else (none)) else (some t102))
theorem Zi.mono : ∀ a0 a1 a2 k, LeO (Zi.f k a0 a1 a2) (Zi.f (k + 1) a0 a1 a2) := by
 intro a0 a1 a2 k; unfold Zi.f; repeat' first | (with_reducible exact Qg.mono _ _ _) | (with_reducible exact LeO.refl _) | (with_reducible exact LeO.none _) | (with_reducible refine LeO.ite ?_ ?_) | (with_reducible refine LeO.bind ?_ (fun _ => ?_)) | exact Qg.mono _ _ _ | exact LeO.none _ | refine LeO.ite ?_ ?_ | refine LeO.bind ?_ (fun _ => ?_)
set_option maxHeartbeats 8000000 in
set_option maxRecDepth 100000 in
theorem Zi.calls (k : Nat) (ak : Option Addr) (an : Nat) (ae : List (List Int)) (aj : Option Addr) (al : Nat) (af : List (List Int)) (A1 : Option Addr) (c1 : Nat) (l1 : List Int) (r : Int) (w : World) (aV : Kd.C (Kd.slice 3 (Kd.int .i64)) w ak ae.length ae) (aX : ae.length ≤ an) (aU : Kd.C (Kd.slice 3 (Kd.int .i64)) w aj af.length af) (aW : af.length ≤ al) (hr1 : Kd.C (Kd.int .i64) w A1 l1.length l1) (hc1 : l1.length ≤ c1) (h : Zi.f k ae af l1 = some r) :
  Calls Try.prog 85 #[.agg #[.slice ak ae.length an, .slice aj af.length al], .slice A1 l1.length c1] w fun e w' => e = .returned (.int .i64 r) ∧ Below w.heap.size w w' := by
 have dD := Try.underlying24; have av := aa.mk aV; have aw := aa.mk aX; clear aV aX; have ay := aa.mk aU; have ax := aa.mk aW; clear aU aW; have HR1 := aa.mk hr1; have HC1 := aa.mk hc1; clear hr1 hc1; have HB := aa.mk (Below.refl w.heap.size w); have H : ((Qg.f k ae af).bind fun t102 => (if t102 = 0 then (if 0 < (ae.length : Int) then ((Zd.f l1 ((Qt ae 0).length : Int) (-1000000) 1000000).bind fun t104 => (if t104 = true then (some 0) else (some 1))) else (none)) else (some t102))) = some r := h; clear h; replace H := Option.bind_eq_some_iff.mp H; obtain ⟨t102, A30, H⟩ := H; replace H : (if t102 = 0 then (if 0 < (ae.length : Int) then ((Zd.f l1 ((Qt ae 0).length : Int) (-1000000) 1000000).bind fun t104 => (if t104 = true then (some 0) else (some 1))) else (none)) else (some t102)) = some r := H; have A3 := aa.mk A30; clear A30; by_cases c4 : t102 = 0
 ·rw [if_pos c4] at H; have bI : (t102 == 0) = true := beq_iff_eq.mpr c4; have cZ : (t102 != 0) = false := bne_eq_false_iff_eq.mpr c4; clear c4; by_cases c5 : 0 < (ae.length : Int)
  ·rw [if_pos c5] at H; have dp : decide (0 < (ae.length : Int)) = true := decide_eq_true c5; have fN : decide (0 < ae.length) = true := decide_eq_true (by omega); clear c5; replace H := Option.bind_eq_some_iff.mp H; obtain ⟨t104, A60, H⟩ := H; replace H : (if t104 = true then (some 0) else (some 1)) = some r := H; have A6 := aa.mk A60; clear A60; by_cases c7 : t104 = true
   ·subst c7; have H1 : (some 0) = some r := by rw [if_pos rfl] at H; exact H
    clear H; have H := H1; clear H1; obtain rfl := Option.some.inj H; go_enter Try.func85, Try.ntmps85; go_wp2_with (first | ((with_reducible refine QM (N := 2) rfl ?_); refine QU ?hg (N := 2) ?hd (cs := #[.slice ak ae.length an, .slice aj af.length al]) (t := 24) ?hr ?_; (case hd => rfl); (case hg => rfl); (case hr => first | (go_simp; done) | (go_simp; rfl)); intro ag hg w8 hbox hb; have ab := aa.mk (hbox); have ba := aa.mk ((by rw [hg]; exact (Qe bB) : w.heap.size ≤ ag)); have aN := aa.mk ((by rw [hg]; exact (Qe bB) : w.heap.size ≤ ag)); replace HB := aa.mk (Qc bB hb); clear hb hbox hg; have jG : w8.cell? ⟨ag, 0, none⟩ = some (.slice ak ae.length an) := (Qb ab.out 0).trans rfl; have jF : w8.cell? ⟨ag, 1, none⟩ = some (.slice aj af.length al) := (Qb ab.out 1).trans rfl; have jA := Qa ab.out 0; have jz := Qa ab.out 1) | ((with_reducible refine Qf (f := 38) rfl ?_); refine QE (some 7) rfl rfl Try.func38 (by kernel_rfl) rfl #[.agg #[.slice ak ae.length an, .slice aj af.length al]] rfl hA ?_; (with_reducible refine (Qg.calls k _ _ ae _ _ af t102 _ ?ai ?ah ?aq ?ao A3.out).mono ?_); (case ai => exact (Kd.Qh av.out HB.out)); (case ah => exact aw.out); (case aq => exact (Kd.Qh ay.out HB.out)); (case ao => exact ax.out); rintro e w10 ⟨rfl, hb⟩; refine ⟨_, rfl, ?_⟩; replace ab := aa.mk (Ql ab.out hb); replace HB := aa.mk (Qc bB hb); (try clear hb); (try clear hb2); (try clear hk); (try clear hi); have cl : w10.cell? ⟨ag, 0, none⟩ = some (.slice ak ae.length an) := (Qb ab.out 0).trans rfl; have ck : w10.cell? ⟨ag, 1, none⟩ = some (.slice aj af.length al) := (Qb ab.out 1).trans rfl; have cj := Qa ab.out 0; have ch := Qa ab.out 1; have cn : 0 ≤ (0 : Int) := (by omega); have cm : 0 < (ae.length : Int) := of_decide_eq_true (by assumption); obtain ⟨fB, iV, iM, fq, aG, bS, bT⟩ := ZH av.out 0 cn cm; cases fq; have mF : (0 < ae.length) = True := eq_true (by omega); (try rw [show ((0 : Int)).toNat = 0 from rfl] at aG); (try rw [Addr.add_zero'] at aG); replace aG := (HB.out.cell (World.block_lt_of_cell? w _ aG)).trans aG; have gE := aa.mk bT; have gH := aa.mk bS; clear bT bS; replace cn := eq_true cn; replace cm := eq_true cm) | ((with_reducible refine Qf (f := 77) rfl ?_); refine QE (some 17) rfl rfl Try.func77 (by kernel_rfl) rfl #[.slice A1 l1.length c1, .int .i64 ((Qt ae 0).length : Int), .int .i64 (-1000000), .int .i64 1000000] rfl hA ?_; (with_reducible refine (Zd.calls _ _ l1 ((Qt ae 0).length : Int) (-1000000) 1000000 true _ ?ai ?ah A6.out).mono ?_); (case ai => exact (Kd.Qh HR1.out HB.out)); (case ah => exact HC1.out); rintro e w12 ⟨rfl, hb⟩; refine ⟨_, rfl, ?_⟩; replace ab := aa.mk (Ql ab.out hb); replace HB := aa.mk (Qc bB hb); (try clear hb); (try clear hb2); (try clear hk); (try clear hi)))
    go_ret; exact ⟨by first | rfl | (simp [Qk, Qj] <;> rfl) | (simp [*, Qk, Qj] <;> rfl), bB⟩
   ·replace c7 := Bool.eq_false_iff.mpr c7; subst c7; have H1 : (some 1) = some r := by rw [if_neg (show ¬ (false = true) by decide)] at H; exact H
    clear H; have H := H1; clear H1; obtain rfl := Option.some.inj H; go_enter Try.func85, Try.ntmps85; go_wp2_with (first | ((with_reducible refine QM (N := 2) rfl ?_); refine QU ?hg (N := 2) ?hd (cs := #[.slice ak ae.length an, .slice aj af.length al]) (t := 24) ?hr ?_; (case hd => rfl); (case hg => rfl); (case hr => first | (go_simp; done) | (go_simp; rfl)); intro ag hg w13 hbox hb; have ab := aa.mk (hbox); have ba := aa.mk ((by rw [hg]; exact (Qe bB) : w.heap.size ≤ ag)); have aN := aa.mk ((by rw [hg]; exact (Qe bB) : w.heap.size ≤ ag)); replace HB := aa.mk (Qc bB hb); clear hb hbox hg; have gA : w13.cell? ⟨ag, 0, none⟩ = some (.slice ak ae.length an) := (Qb ab.out 0).trans rfl; have gz : w13.cell? ⟨ag, 1, none⟩ = some (.slice aj af.length al) := (Qb ab.out 1).trans rfl; have gm := Qa ab.out 0; have gl := Qa ab.out 1) | ((with_reducible refine Qf (f := 38) rfl ?_); refine QE (some 7) rfl rfl Try.func38 (by kernel_rfl) rfl #[.agg #[.slice ak ae.length an, .slice aj af.length al]] rfl hA ?_; (with_reducible refine (Qg.calls k _ _ ae _ _ af t102 _ ?ai ?ah ?aq ?ao A3.out).mono ?_); (case ai => exact (Kd.Qh av.out HB.out)); (case ah => exact aw.out); (case aq => exact (Kd.Qh ay.out HB.out)); (case ao => exact ax.out); rintro e w15 ⟨rfl, hb⟩; refine ⟨_, rfl, ?_⟩; replace ab := aa.mk (Ql ab.out hb); replace HB := aa.mk (Qc bB hb); (try clear hb); (try clear hb2); (try clear hk); (try clear hi); have jK : w15.cell? ⟨ag, 0, none⟩ = some (.slice ak ae.length an) := (Qb ab.out 0).trans rfl; have jJ : w15.cell? ⟨ag, 1, none⟩ = some (.slice aj af.length al) := (Qb ab.out 1).trans rfl; have jE := Qa ab.out 0; have jD := Qa ab.out 1; have cn : 0 ≤ (0 : Int) := (by omega); have cm : 0 < (ae.length : Int) := of_decide_eq_true (by assumption); obtain ⟨fB, iV, iM, fq, aG, bS, bT⟩ := ZH av.out 0 cn cm; cases fq; have mF : (0 < ae.length) = True := eq_true (by omega); (try rw [show ((0 : Int)).toNat = 0 from rfl] at aG); (try rw [Addr.add_zero'] at aG); replace aG := (HB.out.cell (World.block_lt_of_cell? w _ aG)).trans aG; have gE := aa.mk bT; have gH := aa.mk bS; clear bT bS; replace cn := eq_true cn; replace cm := eq_true cm) | ((with_reducible refine Qf (f := 77) rfl ?_); refine QE (some 17) rfl rfl Try.func77 (by kernel_rfl) rfl #[.slice A1 l1.length c1, .int .i64 ((Qt ae 0).length : Int), .int .i64 (-1000000), .int .i64 1000000] rfl hA ?_; (with_reducible refine (Zd.calls _ _ l1 ((Qt ae 0).length : Int) (-1000000) 1000000 false _ ?ai ?ah A6.out).mono ?_); (case ai => exact (Kd.Qh HR1.out HB.out)); (case ah => exact HC1.out); rintro e w17 ⟨rfl, hb⟩; refine ⟨_, rfl, ?_⟩; replace ab := aa.mk (Ql ab.out hb); replace HB := aa.mk (Qc bB hb); (try clear hb); (try clear hb2); (try clear hk); (try clear hi)))
    go_ret; exact ⟨by first | rfl | (simp [Qk, Qj] <;> rfl) | (simp [*, Qk, Qj] <;> rfl), bB⟩
  ·rw [if_neg c5] at H; exact absurd H (by simp)
 ·rw [if_neg c4] at H; have bI : (t102 == 0) = false := beq_eq_false_iff_ne.mpr c4; have cZ : (t102 != 0) = true := bne_iff_ne.mpr c4; obtain rfl := Option.some.inj H; go_enter Try.func85, Try.ntmps85; go_wp2_with (first | ((with_reducible refine QM (N := 2) rfl ?_); refine QU ?hg (N := 2) ?hd (cs := #[.slice ak ae.length an, .slice aj af.length al]) (t := 24) ?hr ?_; (case hd => rfl); (case hg => rfl); (case hr => first | (go_simp; done) | (go_simp; rfl)); intro ag hg w18 hbox hb; have ab := aa.mk (hbox); have ba := aa.mk ((by rw [hg]; exact (Qe bB) : w.heap.size ≤ ag)); have aN := aa.mk ((by rw [hg]; exact (Qe bB) : w.heap.size ≤ ag)); replace HB := aa.mk (Qc bB hb); clear hb hbox hg; have jI : w18.cell? ⟨ag, 0, none⟩ = some (.slice ak ae.length an) := (Qb ab.out 0).trans rfl; have jH : w18.cell? ⟨ag, 1, none⟩ = some (.slice aj af.length al) := (Qb ab.out 1).trans rfl; have jC := Qa ab.out 0; have jB := Qa ab.out 1) | ((with_reducible refine Qf (f := 38) rfl ?_); refine QE (some 7) rfl rfl Try.func38 (by kernel_rfl) rfl #[.agg #[.slice ak ae.length an, .slice aj af.length al]] rfl hA ?_; (with_reducible refine (Qg.calls k _ _ ae _ _ af t102 _ ?ai ?ah ?aq ?ao A3.out).mono ?_); (case ai => exact (Kd.Qh av.out HB.out)); (case ah => exact aw.out); (case aq => exact (Kd.Qh ay.out HB.out)); (case ao => exact ax.out); rintro e w20 ⟨rfl, hb⟩; refine ⟨_, rfl, ?_⟩; replace ab := aa.mk (Ql ab.out hb); replace HB := aa.mk (Qc bB hb); (try clear hb); (try clear hb2); (try clear hk); (try clear hi)))
  go_ret; exact ⟨by first | rfl | (simp [Qk, Qj] <;> rfl) | (simp [*, Qk, Qj] <;> rfl), bB⟩
def QG.f (k : Nat) (ae : List (List Int)) (af : List (List Int)) (l1 : List Int) : Option (Int) := (Zi.f k ae af l1).bind fun t102 => (if t102 = 0 then ((QI.f k ae af l1).bind fun t103 => (if t103 = true then (some 0) else (some 7))) else (some t102))
theorem QG.mono : ∀ a0 a1 a2 k, LeO (QG.f k a0 a1 a2) (QG.f (k + 1) a0 a1 a2) := by
 intro a0 a1 a2 k; unfold QG.f; repeat' first | (with_reducible exact QI.mono _ _ _ _) | (with_reducible exact Zi.mono _ _ _ _) | (with_reducible exact LeO.refl _) | (with_reducible exact LeO.none _) | (with_reducible refine LeO.ite ?_ ?_) | (with_reducible refine LeO.bind ?_ (fun _ => ?_)) | exact QI.mono _ _ _ _ | exact Zi.mono _ _ _ _ | exact LeO.none _ | refine LeO.ite ?_ ?_ | refine LeO.bind ?_ (fun _ => ?_)
set_option maxHeartbeats 8000000 in
set_option maxRecDepth 100000 in
theorem QG.calls (k : Nat) (ak : Option Addr) (an : Nat) (ae : List (List Int)) (aj : Option Addr) (al : Nat) (af : List (List Int)) (A1 : Option Addr) (c1 : Nat) (l1 : List Int) (r : Int) (w : World) (aV : Kd.C (Kd.slice 3 (Kd.int .i64)) w ak ae.length ae) (aX : ae.length ≤ an) (aU : Kd.C (Kd.slice 3 (Kd.int .i64)) w aj af.length af) (aW : af.length ≤ al) (hr1 : Kd.C (Kd.int .i64) w A1 l1.length l1) (hc1 : l1.length ≤ c1) (h : QG.f k ae af l1 = some r) :
  Calls Try.prog 43 #[.agg #[.slice ak ae.length an, .slice aj af.length al], .slice A1 l1.length c1] w fun e w' => e = .returned (.int .i64 r) ∧ Below w.heap.size w w' := by
 have dD := Try.underlying24; have av := aa.mk aV; have aw := aa.mk aX; clear aV aX; have ay := aa.mk aU; have ax := aa.mk aW; clear aU aW; have HR1 := aa.mk hr1; have HC1 := aa.mk hc1; clear hr1 hc1; have HB := aa.mk (Below.refl w.heap.size w); have H : ((Zi.f k ae af l1).bind fun t102 => (if t102 = 0 then ((QI.f k ae af l1).bind fun t103 => (if t103 = true then (some 0) else (some 7))) else (some t102))) = some r := h; clear h; replace H := Option.bind_eq_some_iff.mp H; obtain ⟨t102, A30, H⟩ := H; replace H : (if t102 = 0 then ((QI.f k ae af l1).bind fun t103 => (if t103 = true then (some 0) else (some 7))) else (some t102)) = some r := H; have A3 := aa.mk A30; clear A30; by_cases c4 : t102 = 0
 ·rw [if_pos c4] at H; have bI : (t102 == 0) = true := beq_iff_eq.mpr c4; have cZ : (t102 != 0) = false := bne_eq_false_iff_eq.mpr c4; clear c4; replace H := Option.bind_eq_some_iff.mp H; obtain ⟨t103, A50, H⟩ := H; replace H : (if t103 = true then (some 0) else (some 7)) = some r := H; have A5 := aa.mk A50; clear A50; by_cases c6 : t103 = true
  ·subst c6; have H1 : (some 0) = some r := by rw [if_pos rfl] at H; exact H
   clear H; have H := H1; clear H1; obtain rfl := Option.some.inj H; go_enter Try.func43, Try.ntmps43; go_wp2_with (first | ((with_reducible refine QM (N := 2) rfl ?_); refine QU ?hg (N := 2) ?hd (cs := #[.slice ak ae.length an, .slice aj af.length al]) (t := 24) ?hr ?_; (case hd => rfl); (case hg => rfl); (case hr => first | (go_simp; done) | (go_simp; rfl)); intro ag hg w7 hbox hb; have ab := aa.mk (hbox); have ba := aa.mk ((by rw [hg]; exact (Qe bB) : w.heap.size ≤ ag)); have aN := aa.mk ((by rw [hg]; exact (Qe bB) : w.heap.size ≤ ag)); replace HB := aa.mk (Qc bB hb); clear hb hbox hg; have qj : w7.cell? ⟨ag, 0, none⟩ = some (.slice ak ae.length an) := (Qb ab.out 0).trans rfl; have qi : w7.cell? ⟨ag, 1, none⟩ = some (.slice aj af.length al) := (Qb ab.out 1).trans rfl; have qf := Qa ab.out 0; have qe := Qa ab.out 1) | ((with_reducible refine Qf (f := 85) rfl ?_); refine QE (some 8) rfl rfl Try.func85 (by kernel_rfl) rfl #[.agg #[.slice ak ae.length an, .slice aj af.length al], .slice A1 l1.length c1] rfl hA ?_; (with_reducible refine (Zi.calls k _ _ ae _ _ af _ _ l1 t102 _ ?ai ?ah ?aq ?ao ?aK ?aJ A3.out).mono ?_); (case ai => exact (Kd.Qh av.out HB.out)); (case ah => exact aw.out); (case aq => exact (Kd.Qh ay.out HB.out)); (case ao => exact ax.out); (case aK => exact (Kd.Qh HR1.out HB.out)); (case aJ => exact HC1.out); rintro e w9 ⟨rfl, hb⟩; refine ⟨_, rfl, ?_⟩; replace ab := aa.mk (Ql ab.out hb); replace HB := aa.mk (Qc bB hb); (try clear hb); (try clear hb2); (try clear hk); (try clear hi); have dH : w9.cell? ⟨ag, 0, none⟩ = some (.slice ak ae.length an) := (Qb ab.out 0).trans rfl; have dG : w9.cell? ⟨ag, 1, none⟩ = some (.slice aj af.length al) := (Qb ab.out 1).trans rfl; have dF := Qa ab.out 0; have dE := Qa ab.out 1) | ((with_reducible refine Qf (f := 83) rfl ?_); refine QE (some 14) rfl rfl Try.func83 (by kernel_rfl) rfl #[.agg #[.slice ak ae.length an, .slice aj af.length al], .slice A1 l1.length c1] rfl hA ?_; (with_reducible refine (QI.calls k _ _ ae _ _ af _ _ l1 true _ ?ai ?ah ?aq ?ao ?aK ?aJ A5.out).mono ?_); (case ai => exact (Kd.Qh av.out HB.out)); (case ah => exact aw.out); (case aq => exact (Kd.Qh ay.out HB.out)); (case ao => exact ax.out); (case aK => exact (Kd.Qh HR1.out HB.out)); (case aJ => exact HC1.out); rintro e w11 ⟨rfl, hb⟩; refine ⟨_, rfl, ?_⟩; replace ab := aa.mk (Ql ab.out hb); replace HB := aa.mk (Qc bB hb); (try clear hb); (try clear hb2); (try clear hk); (try clear hi)))
   go_ret; exact ⟨by first | rfl | (simp [Qk, Qj] <;> rfl) | (simp [*, Qk, Qj] <;> rfl), bB⟩
  ·replace c6 := Bool.eq_false_iff.mpr c6; subst c6; have H1 : (some 7) = some r := by rw [if_neg (show ¬ (false = true) by decide)] at H; exact H
   clear H; have H := H1; clear H1; obtain rfl := Option.some.inj H; go_enter Try.func43, Try.ntmps43; go_wp2_with (first | ((with_reducible refine QM (N := 2) rfl ?_); refine QU ?hg (N := 2) ?hd (cs := #[.slice ak ae.length an, .slice aj af.length al]) (t := 24) ?hr ?_; (case hd => rfl); (case hg => rfl); (case hr => first | (go_simp; done) | (go_simp; rfl)); intro ag hg w12 hbox hb; have ab := aa.mk (hbox); have ba := aa.mk ((by rw [hg]; exact (Qe bB) : w.heap.size ≤ ag)); have aN := aa.mk ((by rw [hg]; exact (Qe bB) : w.heap.size ≤ ag)); replace HB := aa.mk (Qc bB hb); clear hb hbox hg; have dh : w12.cell? ⟨ag, 0, none⟩ = some (.slice ak ae.length an) := (Qb ab.out 0).trans rfl; have dg : w12.cell? ⟨ag, 1, none⟩ = some (.slice aj af.length al) := (Qb ab.out 1).trans rfl; have df := Qa ab.out 0; have de := Qa ab.out 1) | ((with_reducible refine Qf (f := 85) rfl ?_); refine QE (some 8) rfl rfl Try.func85 (by kernel_rfl) rfl #[.agg #[.slice ak ae.length an, .slice aj af.length al], .slice A1 l1.length c1] rfl hA ?_; (with_reducible refine (Zi.calls k _ _ ae _ _ af _ _ l1 t102 _ ?ai ?ah ?aq ?ao ?aK ?aJ A3.out).mono ?_); (case ai => exact (Kd.Qh av.out HB.out)); (case ah => exact aw.out); (case aq => exact (Kd.Qh ay.out HB.out)); (case ao => exact ax.out); (case aK => exact (Kd.Qh HR1.out HB.out)); (case aJ => exact HC1.out); rintro e w14 ⟨rfl, hb⟩; refine ⟨_, rfl, ?_⟩; replace ab := aa.mk (Ql ab.out hb); replace HB := aa.mk (Qc bB hb); (try clear hb); (try clear hb2); (try clear hk); (try clear hi); have gy : w14.cell? ⟨ag, 0, none⟩ = some (.slice ak ae.length an) := (Qb ab.out 0).trans rfl; have gw : w14.cell? ⟨ag, 1, none⟩ = some (.slice aj af.length al) := (Qb ab.out 1).trans rfl; have gj := Qa ab.out 0; have gi := Qa ab.out 1) | ((with_reducible refine Qf (f := 83) rfl ?_); refine QE (some 14) rfl rfl Try.func83 (by kernel_rfl) rfl #[.agg #[.slice ak ae.length an, .slice aj af.length al], .slice A1 l1.length c1] rfl hA ?_; (with_reducible refine (QI.calls k _ _ ae _ _ af _ _ l1 false _ ?ai ?ah ?aq ?ao ?aK ?aJ A5.out).mono ?_); (case ai => exact (Kd.Qh av.out HB.out)); (case ah => exact aw.out); (case aq => exact (Kd.Qh ay.out HB.out)); (case ao => exact ax.out); (case aK => exact (Kd.Qh HR1.out HB.out)); (case aJ => exact HC1.out); rintro e w16 ⟨rfl, hb⟩; refine ⟨_, rfl, ?_⟩; replace ab := aa.mk (Ql ab.out hb); replace HB := aa.mk (Qc bB hb); (try clear hb); (try clear hb2); (try clear hk); (try clear hi)))
   go_ret; exact ⟨by first | rfl | (simp [Qk, Qj] <;> rfl) | (simp [*, Qk, Qj] <;> rfl), bB⟩
 ·rw [if_neg c4] at H; have bI : (t102 == 0) = false := beq_eq_false_iff_ne.mpr c4; have cZ : (t102 != 0) = true := bne_iff_ne.mpr c4; obtain rfl := Option.some.inj H; go_enter Try.func43, Try.ntmps43; go_wp2_with (first | ((with_reducible refine QM (N := 2) rfl ?_); refine QU ?hg (N := 2) ?hd (cs := #[.slice ak ae.length an, .slice aj af.length al]) (t := 24) ?hr ?_; (case hd => rfl); (case hg => rfl); (case hr => first | (go_simp; done) | (go_simp; rfl)); intro ag hg w17 hbox hb; have ab := aa.mk (hbox); have ba := aa.mk ((by rw [hg]; exact (Qe bB) : w.heap.size ≤ ag)); have aN := aa.mk ((by rw [hg]; exact (Qe bB) : w.heap.size ≤ ag)); replace HB := aa.mk (Qc bB hb); clear hb hbox hg; have lZ : w17.cell? ⟨ag, 0, none⟩ = some (.slice ak ae.length an) := (Qb ab.out 0).trans rfl; have lY : w17.cell? ⟨ag, 1, none⟩ = some (.slice aj af.length al) := (Qb ab.out 1).trans rfl; have lR := Qa ab.out 0; have lQ := Qa ab.out 1) | ((with_reducible refine Qf (f := 85) rfl ?_); refine QE (some 8) rfl rfl Try.func85 (by kernel_rfl) rfl #[.agg #[.slice ak ae.length an, .slice aj af.length al], .slice A1 l1.length c1] rfl hA ?_; (with_reducible refine (Zi.calls k _ _ ae _ _ af _ _ l1 t102 _ ?ai ?ah ?aq ?ao ?aK ?aJ A3.out).mono ?_); (case ai => exact (Kd.Qh av.out HB.out)); (case ah => exact aw.out); (case aq => exact (Kd.Qh ay.out HB.out)); (case ao => exact ax.out); (case aK => exact (Kd.Qh HR1.out HB.out)); (case aJ => exact HC1.out); rintro e w19 ⟨rfl, hb⟩; refine ⟨_, rfl, ?_⟩; replace ab := aa.mk (Ql ab.out hb); replace HB := aa.mk (Qc bB hb); (try clear hb); (try clear hb2); (try clear hk); (try clear hi)))
  go_ret; exact ⟨by first | rfl | (simp [Qk, Qj] <;> rfl) | (simp [*, Qk, Qj] <;> rfl), bB⟩
end Go.Proofs.Ytdneelgnmnpanaa.P
end
