/- The program's reduced and rank: contracts; for lists of lines that are not long, as far as no product leaves 2^61. -/
import Derived.Test.YtdneelgnmnpanaaRed
import Derived.Test.YtdneelgnmnpanaaExch
import Derived.Test.YtdneelgnmnpanaaCloneL
namespace Go.Proofs.Ytdneelgnmnpanaa.P
open Go.RowKit Go.Proofs.YtdneelgnmnpanaaW.PrintWords Go.Proofs.YtdneelgnmnpanaaW.PrintLast Go.Proofs.YtdneelgnmnpanaaW.PrintMore
set_option linter.unusedVariables false
set_option linter.unusedSimpArgs false
theorem setCells_heap (g : Nat) : ∀ (vs : List Value) (o : Nat) (w : World), (∀ k, k ≠ g → (w.setCells g o vs).heap[k]? = w.heap[k]?) ∧ (w.setCells g o vs).heap.size = w.heap.size
 | [], _, _ => ⟨fun _ _ => rfl, rfl⟩
 | v :: r, o, w => by
  obtain ⟨h1, h2⟩ := setCells_heap g r (o + 1) (w.setCell ⟨g, o, none⟩ v)
  rw [World.setCells]
  exact ⟨fun k hk => (h1 k hk).trans (heap_setCell_other w _ k v hk), by rw [h2]; simp⟩
theorem below_setCells {B g : Nat} (hg : B ≤ g) {w0 : World} : ∀ (vs : List Value) (o : Nat) (w : World), Below B w0 w → Below B w0 (w.setCells g o vs)
 | [], _, _, h => h
 | v :: r, o, w, h => by
  rw [World.setCells]
  exact below_setCells hg r (o + 1) _ (h.setCell hg v)
set_option maxHeartbeats 8000000 in
set_option maxRecDepth 100000 in
theorem reduced_calls (A0 : Option Addr) (c0 : Nat) (l0 : List S76) (Mf : List (List Int)) (Pf : List Int) (w : World) (hr0 : Kd.C k76 w A0 l0.length l0) (hc0 : l0.length ≤ c0) (hne : 0 < l0.length) (hlen : l0.length < 1000) (h : red (l0.map L6) = some (Mf, Pf)) :
  Calls Try.prog 111 #[.slice A0 l0.length c0] w fun e w' => ∃ v0_ v1_ : Value, e = .returned (.tuple #[v0_, v1_]) ∧ Kd.R k76 76 w' w.heap.size (fun _ => True) v0_ ((Mf.take Pf.length).map mk6) ∧ Kd.R (Kd.int .i64) 3 w' w.heap.size (fun k => some k ≠ v0_.ownBlock) v1_ Pf ∧ Below w.heap.size w w' := by
 have hu76 := Try.underlying76
 have hu65 := Try.underlying65
 have hu28 := Try.underlying28
 have hu3 := Try.underlying3
 have hs76 := size76
 have HR0 := Aside0.mk hr0
 have HC0 := Aside0.mk hc0
 have HCL := Aside0.mk (show strike_line_108.f l0 = some l0 by unfold strike_line_108.f; rw [if_pos hlen])
 have HNE := Aside0.mk hne
 have HLEN := Aside0.mk hlen
 have HRED := Aside0.mk h
 obtain ⟨n, hn⟩ : ∃ n, n = l0.length := ⟨_, rfl⟩
 have HN := Aside0.mk hn
 clear hr0 hc0 h hn
 have HB := Aside0.mk (Below.refl w.heap.size w)
 go_enter Try.func111, Try.ntmps111
 go_wp2_with (first
  | ((with_reducible refine gate_callee (f := 108) rfl ?_); refine goesL_ (some 13) rfl rfl Try.func108 (by kernel_rfl) rfl #[.slice A0 l0.length c0] rfl (by (try simp only [List.map_toArray, List.map_cons, List.map_nil]); first | done | rfl) ?_; (with_reducible refine (strike_line_108.calls A0 c0 l0 l0 _ (Kd.C_below HR0.out HB.out) HC0.out HCL.out).mono ?_); rintro e w9 ⟨v9, rfl, ho, hb⟩; refine ⟨_, rfl, ?_⟩; obtain ⟨g, c, hv, hgw, -, hbl, hlc, hcm⟩ := (Bl.of_R ho).resolve_left (fun hh => absurd (congrArg List.length hh.2) (by have := HNE.out; simp only [List.length_nil]; omega)); subst hv; have HBL := Aside0.mk hbl; have HCM := Aside0.mk hcm; have HGW := Aside0.mk hgw; have HLC := Aside0.mk hlc; have n0_ := Aside0.mk (below_step HB.out hb); clear HB hbl hcm hgw hlc ho hb; have HB := n0_; clear n0_))
 rw [← HN.out] at HLC
 rw [← HN.out]
 have HM := Aside0.mk (show (l0.map L6).length = n by rw [List.length_map, HN.out])
 have HRC := Aside0.mk (show redc (6 - 0) 0 (l0.map L6) [] = some (Mf, Pf) from HRED.out)
 have HO := Aside0.mk (show Kd.R (Kd.int .i64) 3 w9 w.heap.size (fun k => k ≠ g) (.slice none 0 0) ([] : List Int) from Kd.R_nil _ _ _ _ _)
 have HPL := Aside0.mk (show ([] : List Int).length ≤ n from Nat.zero_le _)
 have HPI := Aside0.mk (show ([] : List Int).length ≤ 0 from Nat.le_refl _)
 generalize l0.map L6 = M at HBL HM HRC
 generalize ([] : List Int) = P at HRC HO HPL HPI
 clear HRED HCL HR0 HC0
 go_loopw [4, 14] (fun p_ i_ w' => ∃ (i : Nat) (M : List (List Int)) (P : List Int), i ≤ 6 ∧ i_ = .int .i64 i ∧ Aside0 (redc (6 - i) i M P = some (Mf, Pf)) ∧ Aside0 (Bl w' g M c) ∧ Aside0 (M.length = n) ∧ Aside0 (P.length ≤ n) ∧ Aside0 (P.length ≤ i) ∧ Aside0 (Kd.R (Kd.int .i64) 3 w' w.heap.size (fun k => k ≠ g) p_ P) ∧ Aside0 (Below w.heap.size w w')) (fun _ i_ _ => 6 - (intOf i_).toNat)
 case atStart => exact ⟨0, M, P, by omega, rfl, HRC, HBL, HM, HPL, HPI, HO, HB⟩
 case round =>
  clear HRC HBL HM HPL HPI HO HB M P
  obtain ⟨i, M, P, hi, rfl, HRC, HBL, HM, HPL, HPI, HO, HB⟩ := hrel
  by_cases hi6 : i < 6
  ·
   have hn1000 : n < 1000 := by have := HLEN.out; have := HN.out; omega
   obtain ⟨Ap, cp, ep⟩ := Kd.R_slice HO.out
   subst ep
   have htn := HPL.out
   have hlc := HLC.out
   obtain ⟨kk, hkk⟩ : ∃ kk, kk = fst i (M.drop P.length) := ⟨_, rfl⟩
   have HKK := Aside0.mk hkk
   have hrl : (M.drop P.length).length = n - P.length := by rw [List.length_drop, HM.out]
   have hflt := fst_lt i (M.drop P.length)
   rw [← hkk, hrl] at hflt
   have hrc := HRC.out
   rw [show 6 - i = (6 - (i + 1)) + 1 by omega, redc] at hrc
   have HS := Aside0.mk hrc
   have hrd : Rd (wr.alloc (.cells #[.int .i64 (i : Int)] 3)) (some ⟨g, P.length * 6, none⟩) (M.drop P.length) := fun _ => ⟨g, P.length * 6, rfl, fun q r hq => by
    rw [List.getElem?_drop] at hq
    obtain ⟨hq1, hq2⟩ := List.getElem?_eq_some_iff.1 hq
    have hbl := HBL.out.alloc (.cells #[.int .i64 (i : Int)] 3)
    refine ⟨hq2 ▸ hbl.1.at hq1, ?_⟩
    have := hbl.range hq1
    rw [hq2, Nat.add_mul] at this
    exact this⟩
   have hcell : (wr.alloc (.cells #[.int .i64 (i : Int)] 3)).cell? ⟨wr.heap.size, 0, none⟩ = some (.int .i64 (i : Int)) := (blk_cell (blk_new wr _) 0).trans rfl
   clear hrc HRC hkk
   by_cases hct : c = P.length
   ·
    have hr0 : M.drop P.length = [] := List.eq_nil_of_length_eq_zero (by rw [hrl]; omega)
    have hy := idxL_calls (some ⟨g, 0, none⟩) (c - P.length) (M.drop P.length) i wr.heap.size _ (fun hne => absurd hr0 hne) (by rw [hrl]; have := HLEN.out; have := HN.out; omega) (by rw [hrl]; omega) hi6 hcell
    rw [hrl, ← HKK.out, show c - P.length = 0 by omega, show n - P.length = 0 by omega] at hy
    have HY := Aside0.mk hy
    have hk0 : decide (kk < 0) = true := decide_eq_true (by omega)
    have HS2 := Aside0.mk (show redc (6 - (i + 1)) (i + 1) M P = some (Mf, Pf) by
     have := HS.out
     unfold stepc at this
     rw [← HKK.out, if_pos (by omega)] at this
     exact this)
    clear hy hrd hcell HS hr0 HKK
    subst hct
    go_wp2_with (first | ((with_reducible refine gate_callee (f := 126) rfl ?_); refine goesL_ (some 23) rfl rfl Try.func126 (by kernel_rfl) rfl #[.slice (some ⟨g, 0, none⟩) 0 0, .func (.func 127) #[] #[.pointer (some ⟨wr.heap.size, 0, none⟩)]] rfl (by (try simp only [List.map_toArray, List.map_cons, List.map_nil]); first | done | rfl) ?_; (with_reducible refine HY.out.mono ?_); rintro e w10 ⟨rfl, hb⟩; refine ⟨_, rfl, ?_⟩; have hbx := below_step ((Below.refl wr.heap.size wr).alloc (Nat.le_refl _) (.cells #[.int .i64 (i : Int)] 3)) hb; have n0_ := Aside0.mk (HBL.out.below hbx); have n1_ := Aside0.mk (Kd.R_below HO.out hbx); have n2_ := Aside0.mk (below_step HB.out hbx); have HBX := Aside0.mk (blk_below (blk_new wr (.cells #[.int .i64 (i : Int)] 3)) hb); have HW10 := Aside0.mk (show wr.heap.size ≤ w10.heap.size from hbx.size); clear HBL HO HB hb hbx; have HBL := n0_; have HO := n1_; have HB := n2_; clear n0_ n1_ n2_))
    go_roundw
    case rel => exact ⟨i + 1, M, P, by omega, by go_num, HS2, HBL, HM, HPL, ⟨by have := HPI.out; omega⟩, HO, HB⟩
    case measure => simp [intOf]; omega
   ·
    have hy := idxL_calls (some ⟨g, P.length * 6, none⟩) (c - P.length) (M.drop P.length) i wr.heap.size _ hrd (by rw [hrl]; have := HLEN.out; have := HN.out; omega) (by rw [hrl]; omega) hi6 hcell
    rw [hrl, ← HKK.out] at hy
    have HY := Aside0.mk hy
    by_cases hk : kk < 0
    ·
     have hk0 : decide (kk < 0) = true := decide_eq_true hk
     have HS2 := Aside0.mk (show redc (6 - (i + 1)) (i + 1) M P = some (Mf, Pf) by
      have := HS.out
      unfold stepc at this
      rw [← HKK.out, if_pos hk] at this
      exact this)
     clear hy hrd hcell HS HKK
     go_wp2_with (first | ((with_reducible refine gate_callee (f := 126) rfl ?_); refine goesL_ (some 23) rfl rfl Try.func126 (by kernel_rfl) rfl #[.slice (some ⟨g, P.length * 6, none⟩) (n - P.length) (c - P.length), .func (.func 127) #[] #[.pointer (some ⟨wr.heap.size, 0, none⟩)]] rfl (by (try simp only [List.map_toArray, List.map_cons, List.map_nil]); first | done | rfl) ?_; (with_reducible refine HY.out.mono ?_); rintro e w10 ⟨rfl, hb⟩; refine ⟨_, rfl, ?_⟩; have hbx := below_step ((Below.refl wr.heap.size wr).alloc (Nat.le_refl _) (.cells #[.int .i64 (i : Int)] 3)) hb; have n0_ := Aside0.mk (HBL.out.below hbx); have n1_ := Aside0.mk (Kd.R_below HO.out hbx); have n2_ := Aside0.mk (below_step HB.out hbx); have HBX := Aside0.mk (blk_below (blk_new wr (.cells #[.int .i64 (i : Int)] 3)) hb); have HW10 := Aside0.mk (show wr.heap.size ≤ w10.heap.size from hbx.size); clear HBL HO HB hb hbx; have HBL := n0_; have HO := n1_; have HB := n2_; clear n0_ n1_ n2_))
     go_roundw
     case rel => exact ⟨i + 1, M, P, by omega, by go_num, HS2, HBL, HM, HPL, ⟨by have := HPI.out; omega⟩, HO, HB⟩
     case measure => simp [intOf]; omega
    ·
     obtain ⟨kn, hkn⟩ := Int.eq_ofNat_of_zero_le (show 0 ≤ kk by omega)
     subst hkn
     have hk0 : decide ((kn : Int) < 0) = false := decide_eq_false hk
     have ha : P.length < M.length := by rw [HM.out]; omega
     have hb' : P.length + kn < M.length := by rw [HM.out]; omega
     obtain ⟨M1, hM1, hs2⟩ : ∃ M1, elims i P.length M.length 0 (swp M P.length (P.length + kn)) = some M1 ∧ redc (6 - (i + 1)) (i + 1) M1 (P ++ [(i : Int)]) = some (Mf, Pf) := by
      have := HS.out
      unfold stepc at this
      rw [← HKK.out, if_neg hk, Int.toNat_natCast] at this
      obtain ⟨x, hx1, hx2⟩ := Option.bind_eq_some_iff.1 this
      obtain ⟨M1, hM1, hx⟩ := Option.bind_eq_some_iff.1 hx1
      obtain rfl := Option.some.inj hx
      exact ⟨M1, hM1, hx2⟩
     have HNG := Aside0.mk (show wr.heap.size ≠ g from by have := HBL.out.lt; omega)
     have HWR := Aside0.mk (show wrap64 ((P.length : Int) + (kn : Int)) = ((P.length + kn : Nat) : Int) by rw [wrp (by omega) (by have := HLEN.out; have := HN.out; omega)]; omega)
     have HA := Aside0.mk ha
     have HBB := Aside0.mk hb'
     have HEL := Aside0.mk hM1
     have HS2 := Aside0.mk hs2
     clear hy hrd hcell HS HKK hM1 hs2 ha hb'
     go_wp2_with (first
      | ((with_reducible refine gate_callee (f := 126) rfl ?_); refine goesL_ (some 23) rfl rfl Try.func126 (by kernel_rfl) rfl #[.slice (some ⟨g, P.length * 6, none⟩) (n - P.length) (c - P.length), .func (.func 127) #[] #[.pointer (some ⟨wr.heap.size, 0, none⟩)]] rfl (by (try simp only [List.map_toArray, List.map_cons, List.map_nil]); first | done | rfl) ?_; (with_reducible refine HY.out.mono ?_); rintro e w10 ⟨rfl, hb⟩; refine ⟨_, rfl, ?_⟩; have hbx := below_step ((Below.refl wr.heap.size wr).alloc (Nat.le_refl _) (.cells #[.int .i64 (i : Int)] 3)) hb; have n0_ := Aside0.mk (HBL.out.below hbx); have n1_ := Aside0.mk (Kd.R_below HO.out hbx); have n2_ := Aside0.mk (below_step HB.out hbx); have HBX := Aside0.mk (blk_below (blk_new wr (.cells #[.int .i64 (i : Int)] 3)) hb); have HW10 := Aside0.mk (show wr.heap.size ≤ w10.heap.size from hbx.size); clear HBL HO HB hb hbx; have HBL := n0_; have HO := n1_; have HB := n2_; clear n0_ n1_ n2_)
      | ((with_reducible refine gate_callee (f := 128) rfl ?_); refine goesL_ (some 31) rfl rfl Try.func128 (by kernel_rfl) rfl #[.slice (some ⟨g, 0, none⟩) n c, .int .i64 (P.length : Int), .int .i64 ((P.length + kn : Nat) : Int)] rfl (by (try simp only [List.map_toArray, List.map_cons, List.map_nil]); first | done | rfl | (rw [← HWR.out]; done) | (rw [← HWR.out]; rfl)) ?_; (with_reducible refine (exch_calls g n c P.length (P.length + kn) M _ HBL.out HM.out.symm HA.out HBB.out HLC.out).mono ?_); rintro e w11 ⟨rfl, hw11⟩; refine ⟨_, rfl, ?_⟩; have HW11 := Aside0.mk hw11; clear hw11))
     have hsix := HBL.out.1
     have hb1 := (HBL.out.drew.stores HA.out (hsix.at HBB.out)).stores (by simpa using HBB.out) (hsix.at HA.out)
     rw [← HW11.out] at hb1
     have hh : ∀ k, k ≠ g → w11.heap[k]? = w10.heap[k]? := fun k hk_ => by rw [HW11.out]; exact ((setCells_heap g _ _ _).1 k hk_).trans ((setCells_heap g _ _ _).1 k hk_)
     have HBL2 := Aside0.mk hb1
     have HO2 := Aside0.mk (Kd.R_step HO.out (fun k hk_ _ => hh k hk_))
     have HBX2 := Aside0.mk ((hh _ HNG.out).trans HBX.out)
     have HB2 := Aside0.mk (show Below w.heap.size w w11 by rw [HW11.out]; exact below_setCells HGW.out _ _ _ (below_setCells HGW.out _ _ _ (below_drew HB.out)))
     clear HBL HO HBX HB hb1 hh hsix HW11
     have HBL := HBL2
     have HO := HO2
     have HBX := HBX2
     have HB := HB2
     clear HBL2 HO2 HBX2 HB2
     generalize hb5 : wr.heap.size = b5 at *
     have HNB := Aside0.mk (show b5 ≠ g from HNG.out)
     have HM1 := Aside0.mk (show (swp M P.length (P.length + kn)).length = n by rw [swp_length, HM.out])
     have HBL1 := Aside0.mk (show Bl w11 g (swp M P.length (P.length + kn)) c by
      have := HBL.out
      unfold swp
      rw [lineAt_eq _ _ HA.out, lineAt_eq _ _ HBB.out]
      exact this)
     have HEL1 := Aside0.mk (show elims i P.length (n - 0) 0 (swp M P.length (P.length + kn)) = some M1 by rw [← HEL.out, HM.out]; rfl)
     have HTN := Aside0.mk (show P.length < n by rw [← HM.out]; exact HA.out)
     have HPI2 := Aside0.mk (show P.length ≤ i from HPI.out)
     clear HBL HEL HA HBB hb5 HWR HW10 hk HY HM HPI
     generalize swp M P.length (P.length + kn) = N at *
     go_loopw [34] (fun j_ w' => ∃ (j : Nat) (N : List (List Int)), j ≤ n ∧ j_ = .int .i64 j ∧ Aside0 (elims i P.length (n - j) j N = some M1) ∧ Aside0 (Bl w' g N c) ∧ Aside0 (N.length = n) ∧ Aside0 (w'.heap[b5]? = some (.cells #[.int .i64 (i : Int)] 3 (0, 0))) ∧ Aside0 (Kd.R (Kd.int .i64) 3 w' w.heap.size (fun k => k ≠ g) (.slice Ap P.length cp) P) ∧ Aside0 (Below w.heap.size w w')) (fun j_ _ => n - (intOf j_).toNat)
     case atStart => exact ⟨0, N, Nat.zero_le _, rfl, HEL1, HBL1, HM1, HBX, HO, HB⟩
     case round =>
      clear HEL1 HBL1 HM1 HBX HO HB N
      obtain ⟨j, N, hj, rfl, HEL, HBL, HM, HBX, HO, HB⟩ := hrel
      by_cases hjn : j < n
      ·
       have hbx : wr.cell? ⟨b5, 0, none⟩ = some (.int .i64 (i : Int)) := (blk_cell HBX.out 0).trans rfl
       have hjN : j < N.length := by rw [HM.out]; exact hjn
       have htN : P.length < N.length := by rw [HM.out]; exact HTN.out
       have hel := HEL.out
       rw [show n - j = (n - (j + 1)) + 1 by omega, elims] at hel
       unfold elim at hel
       have HE2 := Aside0.mk hel
       clear hel HEL
       by_cases hjt : j = P.length
       ·
        have c1 : ((j : Int) == (P.length : Int)) = true := beq_iff_eq.mpr (by omega)
        have HE3 := Aside0.mk (show elims i P.length (n - (j + 1)) (j + 1) N = some M1 by
         have := HE2.out
         rw [if_pos (Or.inl hjt)] at this
         exact this)
        clear HE2 hjt
        go_wp2_with fail
        go_quiet (fail)
        go_wp2_with fail
        go_roundw
        case rel => exact ⟨j + 1, N, by omega, by go_num, HE3, HBL, HM, HBX, HO, ⟨pw_below_drewN HB.out _⟩⟩
        case measure => simp [intOf]; omega
       ·
        have c1 : ((j : Int) == (P.length : Int)) = false := beq_eq_false_iff_ne.mpr (by omega)
        have hcj := HBL.out.cell hjN hi6
        by_cases hz : N[j].getD i 0 = 0
        ·
         have HE3 := Aside0.mk (show elims i P.length (n - (j + 1)) (j + 1) N = some M1 by
          have := HE2.out
          rw [if_pos (Or.inr (by rw [lineAt_eq _ _ hjN]; exact hz))] at this
          exact this)
         rw [hz] at hcj
         clear HE2 hjt hz
         go_wp2_with fail
         go_quiet (fail)
         go_wp2_with fail
         go_roundw
         case rel => exact ⟨j + 1, N, by omega, by go_num, HE3, HBL, HM, HBX, HO, ⟨pw_below_drewN HB.out _⟩⟩
         case measure => simp [intOf]; omega
        ·
         have hct' := HBL.out.cell htN hi6
         obtain ⟨q, hq⟩ : ∃ q, q = N[j].getD i 0 := ⟨_, rfl⟩
         obtain ⟨p, hp⟩ : ∃ p, p = N[P.length].getD i 0 := ⟨_, rfl⟩
         have hj6 := HBL.out.1.at hjN
         have ht6 := HBL.out.1.at htN
         obtain ⟨hok, hel⟩ : Okc p q N[j] N[P.length] ∧ elims i P.length (n - (j + 1)) (j + 1) (N.set j (pln (cmb p q N[j] N[P.length]))) = some M1 := by
          have := HE2.out
          rw [if_neg (by rw [lineAt_eq _ _ hjN]; rintro (h1 | h1); exact hjt h1; exact hz h1), lineAt_eq _ _ hjN, lineAt_eq _ _ htN, ← hq, ← hp] at this
          split at this
          ·
           rename_i h1
           exact ⟨h1, this⟩
          ·
           cases this
         have HOK := Aside0.mk hok
         have HEL := Aside0.mk hel
         have HJ6 := Aside0.mk hj6
         have HT6 := Aside0.mk ht6
         have HJT := Aside0.mk hjt
         have HJN := Aside0.mk hjN
         have HTL := Aside0.mk htN
         rw [← hq] at hcj hz
         rw [← hp] at hct'
         have hq0 : (q == 0) = false := beq_eq_false_iff_ne.mpr hz
         clear HE2 hjt hz hok hel hj6 ht6 hq hp
         go_wp2_with fail
         go_quiet (fail)
         go_wp2_with fail
         go_quiet (fail)
         go_wp2_with fail
         have HBL0 := Aside0.mk (show Bl wr g (N.set j ((cmb p q N[j] N[P.length]).take 0 ++ N[j].drop 0)) c by
          rw [List.take_zero, List.nil_append, List.drop_zero, List.set_getElem_self]
          exact HBL.out)
         have HCL := Aside0.mk (show (cmb p q N[j] N[P.length]).length = 6 by rw [cmb_length _ _ _ _ (by rw [HJ6.out, HT6.out]), HJ6.out])
         clear HBL hcj hct'
         go_loopw [61] (fun m_ w' => ∃ m : Nat, m ≤ 6 ∧ m_ = .int .i64 m ∧ Aside0 (Bl w' g (N.set j ((cmb p q N[j] N[P.length]).take m ++ N[j].drop m)) c) ∧ Aside0 (w'.heap[b5]? = some (.cells #[.int .i64 (i : Int)] 3 (0, 0))) ∧ Aside0 (Kd.R (Kd.int .i64) 3 w' w.heap.size (fun k => k ≠ g) (.slice Ap P.length cp) P) ∧ Aside0 (Below w.heap.size w w')) (fun m_ _ => 6 - (intOf m_).toNat)
         case atStart => exact ⟨0, by omega, rfl, ⟨HBL0.out⟩, ⟨HBX.out⟩, ⟨HO.out⟩, ⟨pw_below_drewN (pw_below_drewN HB.out _) _⟩⟩
         case round =>
          clear HBL0 HBX HO HB
          obtain ⟨m, hm, rfl, HBL, HBX, HO, HB⟩ := hrel
          have hjS : j < (N.set j ((cmb p q N[j] N[P.length]).take m ++ N[j].drop m)).length := by simpa using hjN
          have htS : P.length < (N.set j ((cmb p q N[j] N[P.length]).take m ++ N[j].drop m)).length := by simpa using htN
          by_cases hm6 : m < 6
          ·
           have hj6 := HJ6.out
           have ht6 := HT6.out
           have hcl := HCL.out
           have hrj := HBL.out.cell hjS hm6
           have hrt := HBL.out.cell htS hm6
           have e1 : (N.set j ((cmb p q N[j] N[P.length]).take m ++ N[j].drop m))[j] = (cmb p q N[j] N[P.length]).take m ++ N[j].drop m := by simp
           have e2 : (N.set j ((cmb p q N[j] N[P.length]).take m ++ N[j].drop m))[P.length] = N[P.length] := by
            rw [List.getElem_set_ne]
            exact HJT.out
           have e3 : ((cmb p q N[j] N[P.length]).take m ++ N[j].drop m).getD m 0 = N[j][m] := by
            rw [List.getD_eq_getElem?_getD, List.getElem?_append_right (by rw [List.length_take]; omega), List.length_take, Nat.min_eq_left (by omega), Nat.sub_self, List.getElem?_drop, Nat.add_zero, List.getElem?_eq_getElem (by omega)]
            rfl
           have e4 : N[P.length].getD m 0 = N[P.length][m] := by rw [List.getD_eq_getElem?_getD, List.getElem?_eq_getElem (by omega)]; rfl
           rw [e1, e3] at hrj
           rw [e2, e4] at hrt
           have hst := fun v => HBL.out.store hjS hm6 v
           rw [e1] at hst
           have hcm : (cmb p q N[j] N[P.length])[m] = N[j][m] * p - N[P.length][m] * q := by unfold cmb; rw [List.getElem_zipWith]
           have hnext : ((cmb p q N[j] N[P.length]).take m ++ N[j].drop m).set m (N[j][m] * p - N[P.length][m] * q) = (cmb p q N[j] N[P.length]).take (m + 1) ++ N[j].drop (m + 1) := by
            rw [List.set_append_right _ _ (by rw [List.length_take]; omega), List.length_take, Nat.min_eq_left (by omega), Nat.sub_self, List.drop_eq_getElem_cons (by omega : m < N[j].length), List.set_cons_zero, List.take_succ_eq_append_getElem (by omega), hcm, List.append_assoc]
            rfl
           have hnx := hst (N[j][m] * p - N[P.length][m] * q)
           rw [hnext, List.set_set] at hnx
           have HNX := Aside0.mk hnx
           have hff := HBL.out.frozen (j * 6 + m)
           have o1 := HOK.out.1 _ (List.getElem_mem (show m < N[j].length by omega))
           have o2 := HOK.out.2 _ (List.getElem_mem (show m < N[P.length].length by omega))
           have hB5 := Aside0.mk (HBX.out)
           clear e1 e2 e3 e4 hst hcm hnext hnx
           generalize N[j][m] = rj at *
           generalize N[P.length][m] = rt at *
           have w1 : wrap64 (rj * p) = rj * p := wrp (by omega) (by omega)
           have w2 : wrap64 (rt * q) = rt * q := wrp (by omega) (by omega)
           have w3 : wrap64 (rj * p - rt * q) = rj * p - rt * q := wrp (by omega) (by omega)
           clear o1 o2
           go_wp2_with fail
           go_region
           go_wp2_with fail
           go_roundw
           case rel => exact ⟨m + 1, by omega, by go_num, HNX, ⟨(heap_setCell_other _ _ _ _ HNB.out).trans HBX.out⟩, ⟨Kd.R_far HO.out (fun _ hk_ => hk_) _⟩, ⟨(HB.out.setCell HGW.out _).drew⟩⟩
           case measure => simp [intOf]; omega
          ·
           obtain rfl : m = 6 := by omega
           have hbl := HBL.out
           rw [List.take_of_length_le (by rw [HCL.out]; exact Nat.le_refl _), List.drop_eq_nil_of_le (by rw [HJ6.out]; exact Nat.le_refl _), List.append_nil] at hbl
           have hjS2 : j < (N.set j (cmb p q N[j] N[P.length])).length := by simpa using hjN
           have hrg := hbl.range hjS2
           rw [List.getElem_set_self] at hrg
           have hth := hbl.there hjS2
           have hnew := fun (w2 : World) (hb : Below wr.heap.size wr w2) => (hbl.below hb).stores hjS2 (r := pln (cmb p q N[j] N[P.length])) (by rw [pln_length, HCL.out])
           simp only [List.set_set] at hnew
           have HPL2 := Aside0.mk (fun W => plain_calls (cmb p q N[j] N[P.length]) W HCL.out (cmb_lim HOK.out))
           have HPN := Aside0.mk (show (pln (cmb p q N[j] N[P.length])).length = 6 by rw [pln_length, HCL.out])
           have HE := Aside0.mk (show elims i P.length (n - (j + 1)) (j + 1) (N.set j (pln (cmb p q N[j] N[P.length]))) = some M1 from HEL.out)
           have HMN := Aside0.mk (show (N.set j (pln (cmb p q N[j] N[P.length]))).length = n by rw [List.length_set, HM.out])
           have HBF := Aside0.mk (fun (w2 : World) (hb : Below wr.heap.size wr w2) (o : Nat) => (hbl.below hb).frozen o)
           have HRG := Aside0.mk hrg
           have HTH := Aside0.mk hth
           have HNW := Aside0.mk hnew
           have HI1 := Aside0.mk (show (Try.prog.info? 76).map (·.size) = some ((cmb p q N[j] N[P.length]).map (Value.int .i64)).length by rw [List.length_map, HCL.out]; exact size76)
           have HI2 := Aside0.mk (show (Try.prog.info? 76).map (·.size) = some (arr (pln (cmb p q N[j] N[P.length]))).size by rw [arr_size, HPN.out]; exact size76)
           clear hbl hrg hth hnew HEL
           generalize pln (cmb p q N[j] N[P.length]) = s at *
           generalize cmb p q N[j] N[P.length] = z at *
           go_wp2_with (first
            | (refine wpList_load_mid rfl 76 _ rfl g (j * 6) rfl (z.map (Value.int .i64)) _ HRG.out Try.underlying76 rfl HI1.out ?_)
            | ((with_reducible refine gate_callee (f := 118) rfl ?_); refine goesL_ (some 93) rfl rfl Try.func118 (by kernel_rfl) rfl #[.agg (arr z)] rfl (by (try simp only [List.map_toArray, List.map_cons, List.map_nil]); first | done | rfl) ?_; (with_reducible refine (HPL2.out _).mono ?_); rintro e w12 ⟨rfl, hb⟩; refine ⟨_, rfl, ?_⟩; have HNW2 := Aside0.mk (HNW.out _ hb); have HTH2 := Aside0.mk (show w12.there g (j * 6) 6 from fun q hq => ⟨by obtain ⟨u, hu⟩ := Option.isSome_iff_exists.1 (HTH.out q hq).1; rw [(hb.cell (World.block_lt_of_cell? wr _ hu)).trans hu]; rfl, HBF.out _ hb _⟩); have HBX2 := Aside0.mk (blk_below HBX.out hb); have HO2 := Aside0.mk (Kd.R_below HO.out hb); have HB2 := Aside0.mk (below_step HB.out hb); clear HBL HO HBX HB hb HNW HTH)
            | (refine wpList_store_mid rfl 76 _ _ rfl g (j * 6) (arr s) rfl rfl (by rw [arr_size, HPN.out]; exact HTH2.out) HI2.out (arr_one s) ?_))
           go_roundw
           case rel => exact ⟨j + 1, N.set j s, by omega, by go_num, HE, HNW2, HMN, ⟨((setCells_heap g _ _ _).1 _ HNB.out).trans HBX2.out⟩, ⟨Kd.R_step HO2.out (fun k hk_ _ => (setCells_heap g _ _ _).1 k hk_)⟩, ⟨below_setCells HGW.out _ _ _ HB2.out⟩⟩
           case measure => simp [intOf]; omega
      ·
       obtain rfl : j = n := by omega
       have hN : N = M1 := by
        have := HEL.out
        rw [Nat.sub_self, elims] at this
        exact Option.some.inj this
       subst hN
       have hbx : wr.cell? ⟨b5, 0, none⟩ = some (.int .i64 (i : Int)) := (blk_cell HBX.out 0).trans rfl
       have HGL := Aside0.mk HBL.out.lt
       go_wp2_with (first
        | ((with_reducible refine gate_builtin (b := .append) (xs := #[.tmp 96, .tmp 98]) rfl ?_); at_builtin; refine Kd.R_append (Kd.int .i64) (w0 := w) w.heap.size rfl (.tmp 96) (.tmp 98) 28 3 (.int .i64 0) 8 rfl Try.underlying28 info3 rfl (by decide) (by omega) (.slice Ap P.length cp) P (i : Int) [.int .i64 (i : Int)] (fun k_ => k_ ≠ g) (fun _ => False) rfl rfl ?aP (fun _ hk => hk.elim) ?aF ?aO ?aB ?aS ?aL ?_; (case aP => exact rfl); (case aB => exact (by repeat (first | (with_reducible first | exact HB.out | apply below_alloc | apply pw_below_drewN | apply below_drew1) | exact HB.out))); (case aF => exact (fun k_ hk => by have h1 := HGL.out; have h2 : wr.heap.size ≤ k_ := Nat.le_trans (by simp) hk; show k_ ≠ g; omega)); (case aO => exact (by (with_reducible repeat (first | apply Kd.R_alloc | apply Kd.R_drewN | apply Kd.R_drew)); exact HO.out)); (case aS => exact (below_size (by repeat (first | (with_reducible first | exact HB.out | apply below_alloc | apply pw_below_drewN | apply below_drew1) | exact HB.out)))); (case aL => have := HTN.out; omega); intro v105 w12 ho hb hg hat; have HBL2 := Aside0.mk (show Bl w12 g N c from by first | exact HBL.out.move (hg.block g HGL.out (fun e_ => HO.out.1 g e_.symm rfl)) | exact (HBL.out.alloc _).move (hg.block g (Nat.lt_of_lt_of_le HGL.out (by simp)) (fun e_ => HO.out.1 g e_.symm rfl))); have n1_ := Aside0.mk (hb); have n2_ := Aside0.mk (ho); clear HB; clear HO; have HB := n1_; have HO := n2_; clear n1_ n2_; clear ho hb hg hat))
       go_roundw
       case rel => exact ⟨i + 1, N, P ++ [(i : Int)], by omega, by go_num, HS2, HBL2, HM, ⟨by have := HTN.out; simp; omega⟩, ⟨by have := HPI2.out; simp; omega⟩, HO, HB⟩
       case measure => simp [intOf]; omega
  ·
   obtain rfl : i = 6 := by omega
   have hf : M = Mf ∧ P = Pf := by
    have := HRC.out
    rw [Nat.sub_self, redc] at this
    have := Option.some.inj this
    exact ⟨congrArg Prod.fst this, congrArg Prod.snd this⟩
   obtain ⟨rfl, rfl⟩ := hf
   obtain ⟨Ap, cp, ep⟩ := Kd.R_slice HO.out
   subst ep
   have htn := HPL.out
   have hlc := HLC.out
   have hle : P.length ≤ c := by omega
   go_wp2_with fail
   go_ret2
   refine ⟨_, _, rfl, HBL.out.R HGW.out trivial (by rw [HM.out]; exact htn) HCM.out, ?_, HB.out⟩
   exact Kd.R_mono HO.out (fun k hk => by simp [Value.ownBlock]; exact fun e => hk e)
/-- What reduced answers. -/
def strike_reduced.f (l : List S76) : Option (List S76 × List Int) := if 0 < l.length ∧ l.length < 1000 then (red (l.map L6)).map fun x => ((x.1.take x.2.length).map mk6, x.2) else none
theorem strike_reduced.calls (A0 : Option Addr) (c0 : Nat) (l0 : List S76) (r1 : List S76) (r2 : List Int) (w : World) (hr0 : Kd.C k76 w A0 l0.length l0) (hc0 : l0.length ≤ c0) (h : strike_reduced.f l0 = some (r1, r2)) :
  Calls Try.prog 111 #[.slice A0 l0.length c0] w fun e w' => ∃ v0_ v1_ : Value, e = .returned (.tuple #[v0_, v1_]) ∧ Kd.R k76 76 w' w.heap.size (fun _ => True) v0_ r1 ∧ Kd.R (Kd.int .i64) 3 w' w.heap.size (fun k => some k ≠ v0_.ownBlock) v1_ r2 ∧ Below w.heap.size w w' := by
 unfold strike_reduced.f at h
 split at h
 case isFalse => cases h
 rename_i hc
 obtain ⟨⟨Mf, Pf⟩, hx, e⟩ := Option.map_eq_some_iff.1 h
 obtain ⟨rfl, rfl⟩ := Prod.mk.inj e
 exact reduced_calls A0 c0 l0 Mf Pf w hr0 hc0 hc.1 hc.2 hx
/-- What rank answers. -/
def strike_rank.f (l : List S76) : Option Int := (strike_reduced.f l).map fun x => (x.2.length : Int)
set_option maxHeartbeats 1000000 in
set_option maxRecDepth 100000 in
theorem strike_rank.calls (A0 : Option Addr) (c0 : Nat) (l0 : List S76) (r : Int) (w : World) (hr0 : Kd.C k76 w A0 l0.length l0) (hc0 : l0.length ≤ c0) (h : strike_rank.f l0 = some r) :
  Calls Try.prog 72 #[.slice A0 l0.length c0] w fun e w' => e = .returned (.int .i64 r) ∧ Below w.heap.size w w' := by
 obtain ⟨⟨r1, r2⟩, hx, rfl⟩ := Option.map_eq_some_iff.1 h
 have HX := Aside0.mk (strike_reduced.calls A0 c0 l0 r1 r2 w hr0 hc0 hx)
 clear hr0 hc0 h hx
 have HB := Aside0.mk (Below.refl w.heap.size w)
 go_enter Try.func72, Try.ntmps72
 go_wp2_with (first
  | ((with_reducible refine gate_callee (f := 111) rfl ?_); refine goesL_ (some 7) rfl rfl Try.func111 (by kernel_rfl) rfl #[.slice A0 l0.length c0] rfl (by (try simp only [List.map_toArray, List.map_cons, List.map_nil]); first | done | rfl) ?_; (with_reducible refine HX.out.mono ?_); rintro e w9 ⟨v0, v1, rfl, ho0, ho1, hb⟩; refine ⟨_, rfl, ?_⟩; obtain ⟨Ap, cp, ep⟩ := Kd.R_slice ho1; subst ep; have HB2 := Aside0.mk hb; clear ho0 ho1 hb))
 go_ret
 exact ⟨rfl, HB2.out⟩
end Go.Proofs.Ytdneelgnmnpanaa.P
