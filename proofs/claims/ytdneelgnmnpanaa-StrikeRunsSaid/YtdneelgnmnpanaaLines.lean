/- The lines of a strike's elements: what the program's lines makes; for strikes of at most six compounds and four elements. -/
import Derived.Test.YtdneelgnmnpanaaBl
namespace Go.Proofs.Ytdneelgnmnpanaa.P
open Go.RowKit Go.Proofs.YtdneelgnmnpanaaW.PrintWords Go.Proofs.YtdneelgnmnpanaaW.PrintLast Go.Proofs.YtdneelgnmnpanaaW.PrintMore
set_option linter.unusedVariables false
set_option linter.unusedSimpArgs false
/-- A line with noughts behind. -/
def pad (l : List Int) : List Int := l ++ List.replicate (6 - l.length) 0
theorem pad_length {l : List Int} (h : l.length ≤ 6) : (pad l).length = 6 := by simp [pad]; omega
theorem pad_set {l : List Int} (v : Int) (h : l.length < 6) : (pad l).set l.length v = pad (l ++ [v]) := by
 unfold pad
 rw [List.set_append_right _ _ (Nat.le_refl _), Nat.sub_self, show 6 - l.length = (6 - (l ++ [v]).length) + 1 by simp; omega, List.replicate_succ, List.set_cons_zero, List.append_assoc]
 rfl
def lineOf (l0 l1 : List (List Int)) (k : Nat) : List Int := pad (l0.map (·.getD k 0) ++ l1.map (fun c => wrap64 (-(c.getD k 0))))
def strike_lines.f (l0 l1 : List (List Int)) : Option (List S76) :=
 if 0 < l0.length ∧ l0.length + l1.length ≤ 6 ∧ (0 < (rd_L1 l0 0).length ∧ (rd_L1 l0 0).length ≤ 4) ∧ ∀ r ∈ l0 ++ l1, (rd_L1 l0 0).length ≤ r.length then some ((List.range (rd_L1 l0 0).length).map fun k => mk6 (lineOf l0 l1 k)) else none
/-- The lines before k are made, that of k so far. -/
def Made (f : Nat → List Int) (n k : Nat) (row : List Int) (M : List (List Int)) : Prop := M.length = n ∧ ∀ q, q < n → M[q]? = some (if q < k then f q else if q = k then row else pad [])
theorem Made.at {f : Nat → List Int} {n k : Nat} {row : List Int} {M : List (List Int)} (h : Made f n k row M) (hk : k < n) : ∃ hk' : k < M.length, M[k] = row := by
 have hk' : k < M.length := by rw [h.1]; exact hk
 have := h.2 k hk
 rw [List.getElem?_eq_getElem hk', if_neg (by omega), if_pos rfl] at this
 exact ⟨hk', Option.some.inj this⟩
theorem Made.set {f : Nat → List Int} {n k : Nat} {row : List Int} {M : List (List Int)} (h : Made f n k row M) (row' : List Int) : Made f n k row' (M.set k row') := by
 refine ⟨by simpa using h.1, fun q hq => ?_⟩
 have := h.2 q hq
 have hq' : q < M.length := by rw [h.1]; exact hq
 by_cases e : k = q
 ·
  subst e
  simp [hq']
 ·
  rw [List.getElem?_set_ne e, this]
  rw [if_neg (show ¬ q = k by omega), if_neg (show ¬ q = k by omega)]
theorem Made.next {f : Nat → List Int} {n k : Nat} {M : List (List Int)} (h : Made f n k (f k) M) : Made f n (k + 1) (pad []) M := by
 refine ⟨h.1, fun q hq => ?_⟩
 rw [h.2 q hq]
 by_cases e : q < k
 ·
  rw [if_pos e, if_pos (by omega)]
 ·
  by_cases e2 : q = k
  ·
   subst e2
   rw [if_neg e, if_pos rfl, if_pos (by omega)]
  ·
   rw [if_neg e, if_neg e2, if_neg (by omega)]
   split <;> rfl
theorem Made.all {f : Nat → List Int} {n : Nat} {row : List Int} {M : List (List Int)} (h : Made f n n row M) : M = (List.range n).map f := by
 apply List.ext_getElem?
 intro q
 by_cases hq : q < n
 ·
  rw [h.2 q hq, if_pos hq]
  simp [hq]
 ·
  rw [List.getElem?_eq_none (by rw [h.1]; omega), List.getElem?_eq_none (by simp; omega)]
theorem addr_zero (ad : Addr) : ad.add 0 = ad := by
 cases ad
 unfold Addr.add
 split <;> simp_all
set_option maxHeartbeats 4000000 in
set_option maxRecDepth 100000 in
theorem strike_lines.calls (A0 : Option Addr) (c0 : Nat) (l0 : List (List Int)) (A1 : Option Addr) (c1 : Nat) (l1 : List (List Int)) (r : List S76) (w : World) (hr0 : Kd.C (Kd.slice 3 (Kd.int .i64)) w A0 l0.length l0) (hc0 : l0.length ≤ c0) (hr1 : Kd.C (Kd.slice 3 (Kd.int .i64)) w A1 l1.length l1) (hc1 : l1.length ≤ c1) (h : strike_lines.f l0 l1 = some r) :
  Calls Try.prog 73 #[.agg #[.slice A0 l0.length c0, .slice A1 l1.length c1]] w fun e w' => ∃ v0_ : Value, e = .returned (v0_) ∧ Kd.R k76 76 w' w.heap.size (fun _ => True) v0_ r ∧ Below w.heap.size w w' := by
 unfold strike_lines.f at h
 split at h
 case isFalse => cases h
 rename_i hcond
 obtain ⟨z0, z1, z2, z3⟩ := hcond
 obtain rfl := Option.some.inj h
 clear h
 have hu24 := Try.underlying24
 have hu76 := Try.underlying76
 have hu65 := Try.underlying65
 have hu28 := Try.underlying28
 have hu22 := Try.underlying22
 have HR0 := Aside0.mk hr0
 have HC0 := Aside0.mk hc0
 have HR1 := Aside0.mk hr1
 have HC1 := Aside0.mk hc1
 have HZ3 := Aside0.mk z3
 obtain ⟨ad, Aq, cq, eq, hxq, hlq, hiq⟩ := at_L1 hr0 0 (by omega) (by omega)
 cases eq
 rw [show (0 : Int).toNat = 0 from rfl, addr_zero] at hxq
 obtain ⟨n, hn⟩ : ∃ n, n = (rd_L1 l0 0).length := ⟨_, rfl⟩
 rw [← hn] at hxq hlq z2 HZ3
 have HN := Aside0.mk hn
 have HXQ := Aside0.mk hxq
 clear hr0 hc0 hr1 hc1 z3 hiq
 have HB := Aside0.mk (Below.refl w.heap.size w)
 rw [← hn]
 clear hn hxq
 have q0 : (0 : Int) < (l0.length : Int) := by omega
 go_enter Try.func73, Try.ntmps73
 go_wp2_with (first
  | ((with_reducible refine gate_dst (N := 1) rfl ?_); refine box_event ?hg (N := 1) ?hd (cs := #[.slice (some ad) l0.length c0, .slice A1 l1.length c1]) (t := 24) ?hr ?_; (case hd => rfl); (case hg => rfl); (case hr => first | (go_simp; done) | (go_simp; rfl)); intro gb hgb w7 hbox hb; have HGB := Aside0.mk hgb; have BK := Aside0.mk hbox; have HBOX := Aside0.mk hbox; have hcz0 : w7.cell? ⟨gb, 0, none⟩ = some (.slice (some ad) l0.length c0) := (blk_cell BK.out 0).trans rfl; have hcz1 : w7.cell? ⟨gb, 1, none⟩ = some (.slice A1 l1.length c1) := (blk_cell BK.out 1).trans rfl; have hxq := (hb.cell (World.block_lt_of_cell? w _ HXQ.out)).trans HXQ.out; have n0_ := Aside0.mk (below_step HB.out hb); have HB7 := Aside0.mk hb; clear HB; have HB := n0_; clear n0_ hgb hbox hb)
  | ((with_reducible refine gate_dst (N := 14) rfl ?_); refine Kd.R_make k76 _ 76 rfl (N := 14) rfl 65 _ _ rfl (n : Int) rfl rfl Try.underlying65 (.agg #[(.int .i64 0), (.int .i64 0), (.int .i64 0), (.int .i64 0), (.int .i64 0), (.int .i64 0)]) 48 info76 rfl (by decide) (by omega) z76 (ok := fun _ => True) (okp := fun _ => True) (k76_mkM _ _ _ z76) (fun _ hk => hk) trivial (by omega) (by simp only [Int.toNat_natCast]; omega) (Below.refl _ _) (Nat.le_refl _) ?_; intro v14 w14 ho hb hgr hat; obtain ⟨g, c, hv, hgw, -, hbl, hlc, hcm⟩ := (Bl.of_R ho).resolve_left (fun hh => absurd (congrArg List.length hh.2) (by rw [List.length_replicate, List.length_nil, Int.toNat_natCast]; omega)); rw [List.length_replicate, Int.toNat_natCast] at hv hlc; subst hv; have HBL := Aside0.mk hbl; have HCM := Aside0.mk hcm; have HGW := Aside0.mk hgw; have BK14 := Aside0.mk (blk_below BK.out hb); have n0_ := Aside0.mk (below_step HB.out hb); clear HB BK hbl hcm hgw; have HB := n0_; have BK := BK14; clear n0_ BK14 ho hb hgr hat))
 have HB0 := Aside0.mk (show w.heap.size ≤ w7.heap.size from HB7.out.size)
 have HGG := Aside0.mk (show gb ≠ g by
  have h1 := HGW.out
  have h2 := (Array.getElem?_eq_some_iff.1 HBOX.out).1
  omega)
 have HM := Aside0.mk (show Made (lineOf l0 l1) n 0 (pad []) ((List.replicate (n : Int).toNat z76).map L6) from ⟨by simp, fun q hq => by
  rw [List.map_replicate, Int.toNat_natCast, List.getElem?_replicate, if_pos hq, if_neg (by omega)]
  split <;> rfl⟩)
 generalize (List.replicate (n : Int).toNat z76).map L6 = M at HM HBL
 go_loopw [17] (fun k_ w' => ∃ (k : Nat) (M : List (List Int)), k ≤ n ∧ k_ = .int .i64 k ∧ Aside0 (Made (lineOf l0 l1) n k (pad []) M) ∧ Aside0 (Bl w' g M c) ∧ Aside0 (w'.heap[gb]? = some (.cells #[.slice (some ad) l0.length c0, .slice A1 l1.length c1] 24 (0, 0))) ∧ Aside0 (Below w.heap.size w w')) (fun k_ _ => n - (intOf k_).toNat)
 case atStart => exact ⟨0, M, Nat.zero_le _, rfl, HM, HBL, BK, HB⟩
 case round =>
  clear HM HBL BK HB M
  obtain ⟨k, M, hk, rfl, HM, HBL, BK, HB⟩ := hrel
  have hcz0 : wr.cell? ⟨gb, 0, none⟩ = some (.slice (some ad) l0.length c0) := (blk_cell BK.out 0).trans rfl
  have hcz1 : wr.cell? ⟨gb, 1, none⟩ = some (.slice A1 l1.length c1) := (blk_cell BK.out 1).trans rfl
  by_cases hkn : k < n
  ·
   go_wp2_with fail
   clear hcz0 hcz1
   have HM1 := Aside0.mk (show Made (lineOf l0 l1) n k (pad ((l0.take 0).map (·.getD k 0))) M from HM.out)
   clear HM
   go_loopw [23] (fun i_ w' => ∃ (i : Nat) (M : List (List Int)), i ≤ l0.length ∧ i_ = .int .i64 i ∧ Aside0 (Made (lineOf l0 l1) n k (pad ((l0.take i).map (·.getD k 0))) M) ∧ Aside0 (Bl w' g M c) ∧ Aside0 (w'.heap[gb]? = some (.cells #[.slice (some ad) l0.length c0, .slice A1 l1.length c1] 24 (0, 0))) ∧ Aside0 (Below w.heap.size w w')) (fun i_ _ => l0.length - (intOf i_).toNat)
   case atStart => exact ⟨0, M, Nat.zero_le _, rfl, HM1, HBL, BK, HB⟩
   case round =>
    clear HM1 HBL BK HB M
    obtain ⟨i, M, hi, rfl, HM, HBL, BK, HB⟩ := hrel
    by_cases hil : i < l0.length
    ·
     obtain ⟨ad1, A2, c2, e1, hx1, hl1, hi1⟩ := at_L1 HR0.out (i : Int) (by omega) (by omega)
     cases e1
     replace hx1 := (HB.out.cell (World.block_lt_of_cell? w _ hx1)).trans hx1
     have hge := HZ3.out (rd_L1 l0 (i : Int)) (List.mem_append_left _ (by simp only [rd_L1, Int.toNat_natCast]; rw [rowD _ _ hil]; exact List.getElem_mem hil))
     obtain ⟨ad2, e2, hx2⟩ := Kd.at_int hi1 (k : Int) (by omega) (by omega)
     subst e2
     replace hx2 := (HB.out.cell (World.block_lt_of_cell? w _ hx2)).trans hx2
     simp only [Int.toNat_natCast] at hx1 hx2
     obtain ⟨hkM, hrow⟩ := HM.out.at hkn
     have hi6 : i < 6 := by omega
     have hf := HBL.out.frozen (k * 6 + i)
     have hc := HBL.out.cell hkM hi6
     have hlt : (k : Int) < ((rd_L1 l0 (i : Int)).length : Int) := by omega
     clear hl1 hi1
     generalize M[k].getD i 0 = old at hc
     obtain ⟨x, hxe⟩ : ∃ x, x = rd (rd_L1 l0 (i : Int)) (k : Int) := ⟨_, rfl⟩
     rw [← hxe] at hx2
     have hx3 : x = (l0[i]).getD k 0 := by rw [hxe]; simp only [rd, rd_L1, Int.toNat_natCast]; rw [rowD _ _ hil]
     have HROW := Aside0.mk (show pad ((l0.take (i + 1)).map (·.getD k 0)) = M[k].set i x by
      rw [hrow, List.take_succ_eq_append_getElem hil, List.map_append, hx3]
      have := pad_set (l := (l0.take i).map (·.getD k 0)) ((l0[i]).getD k 0) (by simp; omega)
      rw [show ((l0.take i).map (·.getD k 0)).length = i by simp; omega] at this
      exact this.symm)
     have HKM := Aside0.mk hkM
     clear hxe hx3 hrow hge
     go_wp2_with fail
     go_region
     go_wp2_with fail
     go_roundw
     case rel => exact ⟨i + 1, M.set k (M[k].set i x), by omega, by go_num, ⟨by rw [HROW.out]; exact HM.out.set _⟩, ⟨HBL.out.store HKM.out hi6 x⟩, ⟨(heap_setCell_other _ _ _ _ HGG.out).trans BK.out⟩, ⟨(HB.out.setCell (Nat.le_trans HB0.out HGW.out) _).drew⟩⟩
     case measure => simp [intOf]; omega
    ·
     obtain rfl : i = l0.length := by omega
     have HM2 := Aside0.mk (show Made (lineOf l0 l1) n k (pad (l0.map (·.getD k 0) ++ (l1.take 0).map (fun c => wrap64 (-(c.getD k 0))))) M by
      have := HM.out
      rw [List.take_length] at this
      simpa using this)
     have hcz0 : wr.cell? ⟨gb, 0, none⟩ = some (.slice (some ad) l0.length c0) := (blk_cell BK.out 0).trans rfl
     have hcz1 : wr.cell? ⟨gb, 1, none⟩ = some (.slice A1 l1.length c1) := (blk_cell BK.out 1).trans rfl
     clear HM
     go_wp2_with fail
     clear hcz0 hcz1
     go_loopw [41] (fun i_ w' => ∃ (i : Nat) (M : List (List Int)), i ≤ l1.length ∧ i_ = .int .i64 i ∧ Aside0 (Made (lineOf l0 l1) n k (pad (l0.map (·.getD k 0) ++ (l1.take i).map (fun c => wrap64 (-(c.getD k 0))))) M) ∧ Aside0 (Bl w' g M c) ∧ Aside0 (w'.heap[gb]? = some (.cells #[.slice (some ad) l0.length c0, .slice A1 l1.length c1] 24 (0, 0))) ∧ Aside0 (Below w.heap.size w w')) (fun i_ _ => l1.length - (intOf i_).toNat)
     case atStart => exact ⟨0, M, Nat.zero_le _, rfl, HM2, HBL, BK, HB⟩
     case round =>
      clear HM2 HBL BK HB M
      obtain ⟨i, M, hi, rfl, HM, HBL, BK, HB⟩ := hrel
      have hcz0 : wr.cell? ⟨gb, 0, none⟩ = some (.slice (some ad) l0.length c0) := (blk_cell BK.out 0).trans rfl
      by_cases hil : i < l1.length
      ·
       obtain ⟨ad1, A2, c2, e1, hx1, hl1, hi1⟩ := at_L1 HR1.out (i : Int) (by omega) (by omega)
       subst e1
       replace hx1 := (HB.out.cell (World.block_lt_of_cell? w _ hx1)).trans hx1
       have hge := HZ3.out (rd_L1 l1 (i : Int)) (List.mem_append_right _ (by simp only [rd_L1, Int.toNat_natCast]; rw [rowD _ _ hil]; exact List.getElem_mem hil))
       obtain ⟨ad2, e2, hx2⟩ := Kd.at_int hi1 (k : Int) (by omega) (by omega)
       subst e2
       replace hx2 := (HB.out.cell (World.block_lt_of_cell? w _ hx2)).trans hx2
       simp only [Int.toNat_natCast] at hx1 hx2
       obtain ⟨hkM, hrow⟩ := HM.out.at hkn
       have hi6 : l0.length + i < 6 := by omega
       have hf := HBL.out.frozen (k * 6 + (l0.length + i))
       have hc := HBL.out.cell hkM hi6
       have hlt : (k : Int) < ((rd_L1 l1 (i : Int)).length : Int) := by omega
       clear hl1 hi1
       generalize M[k].getD (l0.length + i) 0 = old at hc
       obtain ⟨x, hxe⟩ : ∃ x, x = rd (rd_L1 l1 (i : Int)) (k : Int) := ⟨_, rfl⟩
       rw [← hxe] at hx2
       have hx3 : x = (l1[i]).getD k 0 := by rw [hxe]; simp only [rd, rd_L1, Int.toNat_natCast]; rw [rowD _ _ hil]
       have HROW := Aside0.mk (show pad (l0.map (·.getD k 0) ++ (l1.take (i + 1)).map (fun c => wrap64 (-(c.getD k 0)))) = M[k].set (l0.length + i) (wrap64 (-x)) by
        rw [hrow, List.take_succ_eq_append_getElem hil, List.map_append, hx3]
        have := pad_set (l := l0.map (·.getD k 0) ++ (l1.take i).map (fun c => wrap64 (-(c.getD k 0)))) (wrap64 (-((l1[i]).getD k 0))) (by simp; omega)
        rw [show (l0.map (·.getD k 0) ++ (l1.take i).map (fun c => wrap64 (-(c.getD k 0)))).length = l0.length + i by simp; omega] at this
        rw [this, List.append_assoc]
        rfl)
       have HKM := Aside0.mk hkM
       clear hxe hx3 hrow hge
       go_wp2_with fail
       go_region
       go_wp2_with fail
       go_roundw
       case rel => exact ⟨i + 1, M.set k (M[k].set (l0.length + i) (wrap64 (-x))), by omega, by go_num, ⟨by rw [HROW.out]; exact HM.out.set _⟩, ⟨HBL.out.store HKM.out hi6 _⟩, ⟨(heap_setCell_other _ _ _ _ HGG.out).trans BK.out⟩, ⟨(HB.out.setCell (Nat.le_trans HB0.out HGW.out) _).drew⟩⟩
       case measure => simp [intOf]; omega
      ·
       obtain rfl : i = l1.length := by omega
       have HM3 := Aside0.mk (show Made (lineOf l0 l1) n (k + 1) (pad []) M from (by
        have := HM.out
        rw [List.take_length] at this
        exact this.next))
       go_wp2_with fail
       go_roundw
       case rel => exact ⟨k + 1, M, by omega, by go_num, HM3, HBL, BK, HB⟩
       case measure => simp [intOf]; omega
  ·
   obtain rfl : k = n := by omega
   have hall := HM.out.all
   go_wp2_with fail
   go_ret
   refine ⟨_, rfl, ?_, HB.out⟩
   have hR := HBL.out.R (base := w.heap.size) (ok := fun _ => True) (n := k) (Nat.le_trans HB0.out HGW.out) trivial (by rw [HM.out.1]; exact Nat.le_refl _) HCM.out
   rw [List.take_of_length_le (by rw [HM.out.1]; exact Nat.le_refl _), hall, List.map_map] at hR
   exact hR
end Go.Proofs.Ytdneelgnmnpanaa.P
