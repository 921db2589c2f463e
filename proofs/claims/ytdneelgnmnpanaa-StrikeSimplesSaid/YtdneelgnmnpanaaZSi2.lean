/- What the claim's last text wants, part 2: functions of the translation as Lean functions with their contracts, and plain theorems; no conditions beyond those that each theorem names. -/
import Derived.Test.YtdneelgnmnpanaaZSi1
import Derived.Test.YtdneelgnmnpanaaProg
import Derived.Below
import Derived.Deep.Draws
import Derived.Deep.AppendLies
import Derived.Maps.AppendAt
import Derived.OwnWalk
import Derived.Laws.BytesArg
import Derived.Laws.MakeOwn
import Derived.Laws.OwnMore
import Derived.Deep.OwnRows
import Derived.Tactics
import Derived.Lib.ConvBytes
import Derived.Laws.Slices
import Derived.WalkKit
import Derived.KernelRfl
import Derived.RowKit3
import Derived.Deep.LoopGhost
import Derived.Deep.QuietTactic
import Derived.BigQuiet
import Derived.WideLaws
import Derived.Deep.DeepCutAuto
import Derived.Deep.CutBlock
import Derived.Deep.RegionHeld3
import Derived.Laws.Rows
import Derived.Lib.AppendStr
import Derived.ArgAppend
import Derived.Laws.IdiomCopy
import Derived.OrdersHeld
import Derived.Laws.BitsLemmas
import Derived.RowKit
set_option linter.unusedVariables false
set_option linter.unusedSimpArgs false
section
namespace Go.Proofs.Ytdneelgnmnpanaa.P
open Go.RowKit Go.Proofs.YtdneelgnmnpanaaW.PrintWords Go.Proofs.YtdneelgnmnpanaaW.PrintLast Go.Proofs.YtdneelgnmnpanaaW.PrintMore
attribute [local go_sem] max2_int min2_int max_two min_two max_three min_three max_four min_four
def errW : Option Int → Value
  | none => .nilIface
  | some c => .iface 0 (.int .i64 c)
theorem Qj : errW none = .nilIface := rfl
theorem Qi (c : Int) : errW (some c) = .iface 0 (.int .i64 c) := rfl
theorem info3 : (Try.prog.info? 3).map (fun i => (i.zero, i.size, i.bytes)) = some (some (.int .i64 0), 1, 8) := by kernel_rfl
theorem info28 : (Try.prog.info? 28).map (fun i => (i.zero, i.size, i.bytes)) = some (some (.slice none 0 0), 1, 24) := by kernel_rfl
theorem info76 : (Try.prog.info? 76).map (fun i => (i.zero, i.size, i.bytes)) = some (some (.agg #[(.int .i64 0), (.int .i64 0), (.int .i64 0), (.int .i64 0), (.int .i64 0), (.int .i64 0)]), 6, 48) := by kernel_rfl
def Qu (xs : List (List Int)) (i : Int) : (List Int) := xs.getD i.toNat ([] : List Int)
theorem ZO {w : World} {A : Option Addr} {n : Nat} {xs : List (List Int)} (h : Kd.C (Kd.slice 3 (Kd.int .i64)) w A n xs) (i : Int) (h0 : 0 ≤ i) (h1 : i < n) : ∃ ad A0 c0, A = some ad ∧ w.cell? (ad.add i.toNat) = some (.slice A0 (Qu xs i).length c0) ∧ (Qu xs i).length ≤ c0 ∧ (Kd.int .i64).C w A0 (Qu xs i).length (Qu xs i) := by
  obtain ⟨ad, c, e, _, hK, hc0⟩ := Kd.C_get h ([] : List Int) i h0 h1; have hc : ∀ j u, c[j]? = some u → w.cell? (ad.add (i.toNat * 1 + j)) = some u := hc0; obtain ⟨A0, c0, rfl, l0, g0⟩ := hK; exact ⟨ad, A0, c0, e, by have hq := hc 0 _ rfl; rwa [Nat.mul_one, Nat.add_zero] at hq, l0, g0⟩
structure S76 where
  f0 : Int
  f1 : Int
  f2 : Int
  f3 : Int
  f4 : Int
  f5 : Int
def z76 : S76 := ⟨(0 : Int), (0 : Int), (0 : Int), (0 : Int), (0 : Int), (0 : Int)⟩
def k76 : Kd S76 := Kd.iso (Kd.pair (Kd.int .i64) (Kd.pair (Kd.int .i64) (Kd.pair (Kd.int .i64) (Kd.pair (Kd.int .i64) (Kd.pair (Kd.int .i64) (Kd.int .i64)))))) (fun x : S76 => (x.f0, x.f1, x.f2, x.f3, x.f4, x.f5))
theorem UI {w : World} {x : S76} {cs : List Value} (h : k76.K w x cs) : cs = [.int .i64 x.f0, .int .i64 x.f1, .int .i64 x.f2, .int .i64 x.f3, .int .i64 x.f4, .int .i64 x.f5] := by
  obtain ⟨_, _, rfl, rfl, ⟨_, _, rfl, rfl, ⟨_, _, rfl, rfl, ⟨_, _, rfl, rfl, ⟨_, _, rfl, rfl, rfl⟩⟩⟩⟩⟩ := h; exact rfl
theorem k76_openM {w : World} {base : Nat} {ok : Nat → Prop} {x : S76} {cs : List Value} (h : k76.M w base ok x cs) : cs = [.int .i64 x.f0, .int .i64 x.f1, .int .i64 x.f2, .int .i64 x.f3, .int .i64 x.f4, .int .i64 x.f5] := by
  obtain ⟨_, _, rfl, rfl, ⟨_, _, rfl, rfl, ⟨_, _, rfl, rfl, ⟨_, _, rfl, rfl, ⟨_, _, rfl, rfl, rfl⟩⟩⟩⟩⟩ := h; exact rfl
theorem Uo (w : World) (base : Nat) (ok : Nat → Prop) (x : S76)  : k76.M w base ok x [.int .i64 x.f0, .int .i64 x.f1, .int .i64 x.f2, .int .i64 x.f3, .int .i64 x.f4, .int .i64 x.f5] := ⟨[.int .i64 x.f0], [.int .i64 x.f1, .int .i64 x.f2, .int .i64 x.f3, .int .i64 x.f4, .int .i64 x.f5], rfl, rfl, ⟨[.int .i64 x.f1], [.int .i64 x.f2, .int .i64 x.f3, .int .i64 x.f4, .int .i64 x.f5], rfl, rfl, ⟨[.int .i64 x.f2], [.int .i64 x.f3, .int .i64 x.f4, .int .i64 x.f5], rfl, rfl, ⟨[.int .i64 x.f3], [.int .i64 x.f4, .int .i64 x.f5], rfl, rfl, ⟨[.int .i64 x.f4], [.int .i64 x.f5], rfl, rfl, rfl⟩⟩⟩⟩⟩
mutual
def QD.j0 : Nat → Bool → List (List Int) → List (List Int) → Option (Bool)
 | 0, _, _, _ => none
 | k + 1, x14, au, av => if x14 = true then (some true) else (QD.l0 k 0 au av)
def QD.l0 : Nat → Int → List (List Int) → List (List Int) → Option (Bool)
 | 0, _, _, _ => none
 | k + 1, x3, au, av => if x3 < (au.length : Int) then (if 0 ≤ x3 then (if ((Qu au x3).length : Int) > 50 then (some true) else (QD.l0 k (wrap64 (x3 + 1)) au av)) else (none)) else (QD.l1 k 0 au av)
def QD.l1 : Nat → Int → List (List Int) → List (List Int) → Option (Bool)
 | 0, _, _, _ => none
 | k + 1, x4, au, av => if x4 < (av.length : Int) then (if 0 ≤ x4 then (if ((Qu av x4).length : Int) > 50 then (some true) else (QD.l1 k (wrap64 (x4 + 1)) au av)) else (none)) else (some false)
end
def QD.f (k : Nat) (ae : List (List Int)) (af : List (List Int)) : Option (Bool) := if (ae.length : Int) > 50 then (QD.j0 k true ae af) else (QD.j0 k (decide ((af.length : Int) > 50)) ae af)
set_option maxHeartbeats 8000000 in
set_option maxRecDepth 100000 in
theorem QD.calls (k : Nat) (ak : Option Addr) (an : Nat) (ae : List (List Int)) (aj : Option Addr) (al : Nat) (af : List (List Int)) (r : Bool) (w : World) (aN : Kd.C (Kd.slice 3 (Kd.int .i64)) w ak ae.length ae) (aT : ae.length ≤ an) (aM : Kd.C (Kd.slice 3 (Kd.int .i64)) w aj af.length af) (aQ : af.length ≤ al) (h : QD.f k ae af = some r) :
  Calls Try.prog 36 #[.agg #[.slice ak ae.length an, .slice aj af.length al]] w fun e w' => e = .returned (.bool r) ∧ Below w.heap.size w w' := by
 have en := Try.underlying24; have aw := aa.mk aN; have az := aa.mk aT; clear aN aT; have ay := aa.mk aM; have aA := aa.mk aQ; clear aM aQ; have HB := aa.mk (Below.refl w.heap.size w); have H : (if (ae.length : Int) > 50 then (QD.j0 k true ae af) else (QD.j0 k (decide ((af.length : Int) > 50)) ae af)) = some r := h; clear h; have HC2 := aa.mk H; clear H; go_enter Try.func36, Try.ntmps36; go_upto_region 1 with (first | ((with_reducible refine QO (N := 1) rfl ?_); (try (refine Z5 (by rfl) ?_; dsimp only)); refine Q4 ?hg (N := 1) ?hd (cs := #[.slice ak ae.length an, .slice aj af.length al]) (t := 24) ?hr ?_; (case hd => rfl); (case hg => rfl); (case hr => first | (go_simp; done) | (go_simp; rfl)); intro ag hg w3 hbox hb; have ab := aa.mk (hbox); have bo := aa.mk ((by rw [hg]; exact (Qc bB) : w.heap.size ≤ ag)); have aV := aa.mk ((by rw [hg]; exact (Qc bB) : w.heap.size ≤ ag)); replace HB := aa.mk (Qa bB hb); clear hb hbox hg))
 (try simp only [Act.put, zA, zB, zC])
 go_cut [14] (fun v14 wc => ∃ (kq : Nat) (m8 : Bool), v14 = .bool m8 ∧ aa (QD.j0 kq m8 ae af = some r) ∧ aa (kq ≤ k) ∧ aa (wc.heap[ag]? = some (.cells #[(.slice ak ae.length an), (.slice aj af.length al)] 24 (0, 0))) ∧ aa (Below w.heap.size w wc))
 case first =>
  have H := HC2.out; clear HC2; by_cases c4 : (ae.length : Int) > 50
  ·rw [if_pos c4] at H; have bE : decide (50 < (ae.length : Int)) = true := decide_eq_true c4; have dO : decide (50 < ae.length) = true := decide_eq_true (by omega); clear c4; (first | rw [bE] | (simp only [Qy, QB]; rw [bE]) | skip)
   have H' := aa.mk H; clear H; have gF : w3.cell? ⟨ag, 0, none⟩ = some (.slice ak ae.length an) := (Qd ab.out 0).trans rfl; have gE : w3.cell? ⟨ag, 1, none⟩ = some (.slice aj af.length al) := (Qd ab.out 1).trans rfl; have gD := Qb ab.out 0; have gC := Qb ab.out 1; go_wp2; go_meet
   case rel => exact ⟨_, (true), (by first | rfl | (simp; done) | (simp [*]; done)), H', ⟨by first | omega | exact Nat.le_refl _⟩, ⟨by (with_reducible repeat (first | refine QC ?_ _ | refine QE ?_ | refine Qz ?_ _)); exact ab.out⟩, ⟨bB⟩⟩
  ·rw [if_neg c4] at H; have bE : decide (50 < (ae.length : Int)) = false := decide_eq_false c4; have dO : decide (50 < ae.length) = false := decide_eq_false (by omega); clear c4; (first | rw [bE] | (simp only [Qy, QB]; rw [bE]) | skip)
   have H' := aa.mk H; clear H; have fj : w3.cell? ⟨ag, 0, none⟩ = some (.slice ak ae.length an) := (Qd ab.out 0).trans rfl; have fi : w3.cell? ⟨ag, 1, none⟩ = some (.slice aj af.length al) := (Qd ab.out 1).trans rfl; have fh := Qb ab.out 0; have fg := Qb ab.out 1; go_wp2; go_meet
   case rel => exact ⟨_, (decide ((af.length : Int) > 50)), (by first | rfl | (simp; done) | (simp [*]; done)), H', ⟨by first | omega | exact Nat.le_refl _⟩, ⟨by (with_reducible repeat (first | refine QC ?_ _ | refine QE ?_ | refine Qz ?_ _)); exact ab.out⟩, ⟨bB⟩⟩
 case rest =>
  clear HC2; try clear p2
  try clear c3
  try clear c4
  try clear bE
  try clear dO
  try clear gF
  try clear gE
  try clear fj
  try clear fi
  try clear gD
  try clear gC
  try clear fh
  try clear fg
  obtain ⟨kq, m8, rfl, HA, HJ1, ab, HB⟩ := hcut; cases kq with
  | zero => exact absurd HA.out (by simp [QD.j0])
  | succ kj1 =>
   have H := HA.out; clear HA; simp only [QD.j0] at H; by_cases c7 : m8 = true
   ·subst c7; have H1 : (some true) = some r := by rw [if_pos rfl] at H; exact H
    clear H; have H := H1; clear H1; obtain rfl := Option.some.inj H; go_wp2; go_ret; exact ⟨by first | rfl | (simp [Qj, Qi] <;> rfl) | (simp [*, Qj, Qi] <;> rfl), bB⟩
   ·replace c7 := Bool.eq_false_iff.mpr c7; subst c7; have H1 : (QD.l0 kj1 0 ae af) = some r := by rw [if_neg (show ¬ (false = true) by decide)] at H; exact H
    clear H; have H := H1; clear H1; have H' := aa.mk H; clear H; go_wp2; go_loopg [3] kj1 (fun kq v3 w' => ∃ (cd : Int), v3 = .int .i64 cd ∧ aa (QD.l0 kq cd ae af = some r) ∧ aa (kq ≤ kj1) ∧ aa (w'.heap[ag]? = some (.cells #[(.slice ak ae.length an), (.slice aj af.length al)] 24 (0, 0))) ∧ aa (Below w.heap.size w w'))
    case atStart => exact ⟨(0), (by first | rfl | (simp; done) | (simp [*]; done)), H', ⟨Nat.le_refl _⟩, ⟨by (with_reducible repeat (first | refine QC ?_ _ | refine QE ?_ | refine Qz ?_ _)); exact ab.out⟩, ⟨bB⟩⟩
    case round =>
     clear H'; try clear p2
     try clear c3
     try clear c4
     try clear bE
     try clear dO
     try clear c7
     try clear gF
     try clear gE
     try clear fj
     try clear fi
     try clear gD
     try clear gC
     try clear fh
     try clear fg
     try clear p2
     obtain ⟨cd, rfl, HA, HK2, ab, HB⟩ := hrel; cases gk with
     | zero => exact absurd HA.out (by simp [QD.l0])
     | succ k2 =>
      have H := HA.out; clear HA; simp only [QD.l0] at H; by_cases c8 : cd < (ae.length : Int)
      ·rw [if_pos c8] at H; have dQ : decide (cd < (ae.length : Int)) = true := decide_eq_true c8; clear c8; by_cases c9 : 0 ≤ cd
       ·rw [if_pos c9] at H; have eU : decide (0 ≤ cd) = true := decide_eq_true c9; clear c9; by_cases c10 : ((Qu ae cd).length : Int) > 50
        ·rw [if_pos c10] at H; have fq : decide (50 < ((Qu ae cd).length : Int)) = true := decide_eq_true c10; have ja : decide (50 < (Qu ae cd).length) = true := decide_eq_true (by omega); clear c10; obtain rfl := Option.some.inj H; have cY : wr.cell? ⟨ag, 0, none⟩ = some (.slice ak ae.length an) := (Qd ab.out 0).trans rfl; have cX : wr.cell? ⟨ag, 1, none⟩ = some (.slice aj af.length al) := (Qd ab.out 1).trans rfl; have cU := Qb ab.out 0; have cT := Qb ab.out 1; have bD : 0 ≤ (cd : Int) := of_decide_eq_true (by assumption); have bC : cd < (ae.length : Int) := of_decide_eq_true (by assumption); obtain ⟨bI, eu, et, dP, aG, ch, ck⟩ := ZO aw.out cd bD bC; cases dP; replace aG := (HB.out.cell (World.block_lt_of_cell? w _ aG)).trans aG; have dj := aa.mk ck; have dL := aa.mk ch; clear ck ch; replace bD := eq_true bD; replace bC := eq_true bC; go_wp2; go_ret; exact ⟨by first | rfl | (simp [Qj, Qi] <;> rfl) | (simp [*, Qj, Qi] <;> rfl), bB⟩
        ·rw [if_neg c10] at H; have fq : decide (50 < ((Qu ae cd).length : Int)) = false := decide_eq_false c10; have ja : decide (50 < (Qu ae cd).length) = false := decide_eq_false (by omega); clear c10; have H' := aa.mk H; clear H; have dU : wr.cell? ⟨ag, 0, none⟩ = some (.slice ak ae.length an) := (Qd ab.out 0).trans rfl; have dT : wr.cell? ⟨ag, 1, none⟩ = some (.slice aj af.length al) := (Qd ab.out 1).trans rfl; have dS := Qb ab.out 0; have dR := Qb ab.out 1; have bD : 0 ≤ (cd : Int) := of_decide_eq_true (by assumption); have bC : cd < (ae.length : Int) := of_decide_eq_true (by assumption); obtain ⟨bI, eu, et, dP, aG, ch, ck⟩ := ZO aw.out cd bD bC; cases dP; replace aG := (HB.out.cell (World.block_lt_of_cell? w _ aG)).trans aG; have dj := aa.mk ck; have dL := aa.mk ch; clear ck ch; replace bD := eq_true bD; replace bC := eq_true bC; go_wp2; go_roundg k2
         case measure => have := HJ1.out; have := HK2.out; omega
         case rel => exact ⟨(wrap64 (cd + 1)), (by first | rfl | (simp; done) | (simp [*]; done)), H', ⟨by have := HJ1.out; have := HK2.out; omega⟩, ⟨by (with_reducible repeat (first | refine QC ?_ _ | refine QE ?_ | refine Qz ?_ _)); exact ab.out⟩, ⟨bB⟩⟩
       ·rw [if_neg c9] at H; exact absurd H (by simp)
      ·rw [if_neg c8] at H; have dQ : decide (cd < (ae.length : Int)) = false := decide_eq_false c8; clear c8; have H' := aa.mk H; clear H; have dH : wr.cell? ⟨ag, 0, none⟩ = some (.slice ak ae.length an) := (Qd ab.out 0).trans rfl; have dG : wr.cell? ⟨ag, 1, none⟩ = some (.slice aj af.length al) := (Qd ab.out 1).trans rfl; have dF := Qb ab.out 0; have dE := Qb ab.out 1; go_wp2; go_loopg [4] k2 (fun kq v4 w' => ∃ (fm : Int), v4 = .int .i64 fm ∧ aa (QD.l1 kq fm ae af = some r) ∧ aa (kq ≤ k2) ∧ aa (w'.heap[ag]? = some (.cells #[(.slice ak ae.length an), (.slice aj af.length al)] 24 (0, 0))) ∧ aa (Below w.heap.size w w'))
       case atStart => exact ⟨(0), (by first | rfl | (simp; done) | (simp [*]; done)), H', ⟨Nat.le_refl _⟩, ⟨by (with_reducible repeat (first | refine QC ?_ _ | refine QE ?_ | refine Qz ?_ _)); exact ab.out⟩, ⟨bB⟩⟩
       case round =>
        clear H'; try clear c1
        try clear p1
        try clear q1
        try clear hx1
        try clear p2
        try clear c3
        try clear c4
        try clear bE
        try clear dO
        try clear p6
        try clear c7
        try clear c8
        try clear dQ
        try clear c9
        try clear eU
        try clear c10
        try clear fq
        try clear ja
        try clear p10
        try clear q10
        try clear hZ
        try clear cY
        try clear cX
        try clear dU
        try clear dT
        try clear dH
        try clear dG
        try clear gF
        try clear gE
        try clear fj
        try clear fi
        try clear cU
        try clear cT
        try clear dS
        try clear dR
        try clear dF
        try clear dE
        try clear gD
        try clear gC
        try clear fh
        try clear fg
        try clear aG
        try clear bD
        try clear p2
        try clear bC
        obtain ⟨fm, rfl, HA, HK3, ab, HB⟩ := hrel; cases gk with
        | zero => exact absurd HA.out (by simp [QD.l1])
        | succ k3 =>
         have H := HA.out; clear HA; simp only [QD.l1] at H; by_cases c14 : fm < (af.length : Int)
         ·rw [if_pos c14] at H; have gJ : decide (fm < (af.length : Int)) = true := decide_eq_true c14; clear c14; by_cases c15 : 0 ≤ fm
          ·rw [if_pos c15] at H; have gI : decide (0 ≤ fm) = true := decide_eq_true c15; clear c15; by_cases c16 : ((Qu af fm).length : Int) > 50
           ·rw [if_pos c16] at H; have gH : decide (50 < ((Qu af fm).length : Int)) = true := decide_eq_true c16; have vo : decide (50 < (Qu af fm).length) = true := decide_eq_true (by omega); clear c16; obtain rfl := Option.some.inj H; have fJ : wr.cell? ⟨ag, 0, none⟩ = some (.slice ak ae.length an) := (Qd ab.out 0).trans rfl; have fI : wr.cell? ⟨ag, 1, none⟩ = some (.slice aj af.length al) := (Qd ab.out 1).trans rfl; have fF := Qb ab.out 0; have fE := Qb ab.out 1; have dN : 0 ≤ (fm : Int) := of_decide_eq_true (by assumption); have dM : fm < (af.length : Int) := of_decide_eq_true (by assumption); obtain ⟨jd, m6, mX, iS, a7, dA, dD⟩ := ZO ay.out fm dN dM; cases iS; replace a7 := (HB.out.cell (World.block_lt_of_cell? w _ a7)).trans a7; have lf := aa.mk dD; have lq := aa.mk dA; clear dD dA; replace dN := eq_true dN; replace dM := eq_true dM; go_wp2; go_ret; exact ⟨by first | rfl | (simp [Qj, Qi] <;> rfl) | (simp [*, Qj, Qi] <;> rfl), bB⟩
           ·rw [if_neg c16] at H; have gH : decide (50 < ((Qu af fm).length : Int)) = false := decide_eq_false c16; have vo : decide (50 < (Qu af fm).length) = false := decide_eq_false (by omega); clear c16; have H' := aa.mk H; clear H; have kX : wr.cell? ⟨ag, 0, none⟩ = some (.slice ak ae.length an) := (Qd ab.out 0).trans rfl; have kW : wr.cell? ⟨ag, 1, none⟩ = some (.slice aj af.length al) := (Qd ab.out 1).trans rfl; have kT := Qb ab.out 0; have kS := Qb ab.out 1; have dN : 0 ≤ (fm : Int) := of_decide_eq_true (by assumption); have dM : fm < (af.length : Int) := of_decide_eq_true (by assumption); obtain ⟨jd, m6, mX, iS, a7, dA, dD⟩ := ZO ay.out fm dN dM; cases iS; replace a7 := (HB.out.cell (World.block_lt_of_cell? w _ a7)).trans a7; have lf := aa.mk dD; have lq := aa.mk dA; clear dD dA; replace dN := eq_true dN; replace dM := eq_true dM; go_wp2; go_roundg k3
            case measure => have := HJ1.out; have := HK2.out; have := HK3.out; omega
            case rel => exact ⟨(wrap64 (fm + 1)), (by first | rfl | (simp; done) | (simp [*]; done)), H', ⟨by have := HJ1.out; have := HK2.out; have := HK3.out; omega⟩, ⟨by (with_reducible repeat (first | refine QC ?_ _ | refine QE ?_ | refine Qz ?_ _)); exact ab.out⟩, ⟨bB⟩⟩
          ·rw [if_neg c15] at H; exact absurd H (by simp)
         ·rw [if_neg c14] at H; have gJ : decide (fm < (af.length : Int)) = false := decide_eq_false c14; clear c14; obtain rfl := Option.some.inj H; have nB : wr.cell? ⟨ag, 0, none⟩ = some (.slice ak ae.length an) := (Qd ab.out 0).trans rfl; have nA : wr.cell? ⟨ag, 1, none⟩ = some (.slice aj af.length al) := (Qd ab.out 1).trans rfl; have nw := Qb ab.out 0; have nv := Qb ab.out 1; go_wp2; go_ret; exact ⟨by first | rfl | (simp [Qj, Qi] <;> rfl) | (simp [*, Qj, Qi] <;> rfl), bB⟩
def Qn.l0 : Nat → List Int → List Int → Int → Option (Bool)
 | 0, _, _, _ => none
 | k + 1, x0, x1, x5 => if x5 < (x0.length : Int) then (if 0 ≤ x5 then (if x5 < (x1.length : Int) then (if (rd x0 x5) = (rd x1 x5) then (Qn.l0 k x0 x1 (wrap64 (x5 + 1))) else (some false)) else (none)) else (none)) else (some true)
def Qn.f (k : Nat) (l0 : List Int) (l1 : List Int) : Option (Bool) := if (l0.length : Int) = (l1.length : Int) then (Qn.l0 k l0 l1 0) else (some false)
theorem Qn.ZP : ∀ k, (∀ y0 y1 y2, LeO (Qn.l0 k y0 y1 y2) (Qn.l0 (k + 1) y0 y1 y2))
 | 0 => fun _ _ _ r h => by simp [Qn.l0] at h
 | k + 1 => by
  have ih0 := Qn.ZP k
  ·intro y0 y1 y2; unfold Qn.l0; repeat' first | (with_reducible exact ih0 _ _ _) | (with_reducible exact LeO.refl _) | (with_reducible exact LeO.none _) | (with_reducible refine LeO.ite ?_ ?_) | (with_reducible refine LeO.bind ?_ (fun _ => ?_)) | exact ih0 _ _ _ | exact LeO.none _ | refine LeO.ite ?_ ?_ | refine LeO.bind ?_ (fun _ => ?_)
theorem Qn.mono : ∀ a0 a1 k, LeO (Qn.f k a0 a1) (Qn.f (k + 1) a0 a1) := by
 intro a0 a1 k; have ih0 := Qn.ZP k; unfold Qn.f; repeat' first | (with_reducible exact ih0 _ _ _) | (with_reducible exact LeO.refl _) | (with_reducible exact LeO.none _) | (with_reducible refine LeO.ite ?_ ?_) | (with_reducible refine LeO.bind ?_ (fun _ => ?_)) | exact ih0 _ _ _ | exact LeO.none _ | refine LeO.ite ?_ ?_ | refine LeO.bind ?_ (fun _ => ?_)
set_option maxHeartbeats 8000000 in
set_option maxRecDepth 100000 in
theorem Qn.calls (k : Nat) (A0 : Option Addr) (c0 : Nat) (l0 : List Int) (A1 : Option Addr) (c1 : Nat) (l1 : List Int) (r : Bool) (w : World) (hr0 : Kd.C (Kd.int .i64) w A0 l0.length l0) (hc0 : l0.length ≤ c0) (hr1 : Kd.C (Kd.int .i64) w A1 l1.length l1) (hc1 : l1.length ≤ c1) (h : Qn.f k l0 l1 = some r) :
  Calls Try.prog 45 #[.slice A0 l0.length c0, .slice A1 l1.length c1] w fun e w' => e = .returned (.bool r) ∧ Drawn0 w w' := by
 have HR0 := aa.mk hr0; have HC0 := aa.mk hc0; clear hr0 hc0; have HR1 := aa.mk hr1; have HC1 := aa.mk hc1; clear hr1 hc1; have H : (if (l0.length : Int) = (l1.length : Int) then (Qn.l0 k l0 l1 0) else (some false)) = some r := h; clear h; by_cases c3 : (l0.length : Int) = (l1.length : Int)
 ·rw [if_pos c3] at H; have bH : ((l0.length : Int) == (l1.length : Int)) = true := beq_iff_eq.mpr c3; have cx : ((l0.length : Int) != (l1.length : Int)) = false := bne_eq_false_iff_eq.mpr c3; have iV : (l0.length == l1.length) = true := by first | simpa using c3 | (simp at c3 ⊢; omega)
  clear c3; have H' := aa.mk H; clear H; go_enter Try.func45, Try.ntmps45; go_wp2; repeat (go_quiet (fail); try go_wp2)
  go_loopg [5] k (fun kq v5 w' => ∃ (ao : Int), v5 = .int .i64 ao ∧ aa (Qn.l0 kq l0 l1 ao = some r) ∧ aa (kq ≤ k) ∧ Drawn0 w w')
  case atStart => exact ⟨(0), (by first | rfl | (simp; done) | (simp [*]; done)), H', ⟨Nat.le_refl _⟩, by repeat (first | exact Drawn0.refl _ | apply Drawn0.step)⟩
  case round =>
   clear H'; try clear c1
   try clear p2
   try clear c3
   try clear bH
   try clear cx
   try clear iV
   obtain ⟨ao, rfl, HA, HK1, ⟨m1, rfl⟩⟩ := hrel; cases gk with
   | zero => exact absurd HA.out (by simp [Qn.l0])
   | succ k1 =>
    have H := HA.out; clear HA; simp only [Qn.l0] at H; by_cases c4 : ao < (l0.length : Int)
    ·rw [if_pos c4] at H; have bE : decide (ao < (l0.length : Int)) = true := decide_eq_true c4; clear c4; by_cases c5 : 0 ≤ ao
     ·rw [if_pos c5] at H; have dq : decide (0 ≤ ao) = true := decide_eq_true c5; clear c5; by_cases c6 : ao < (l1.length : Int)
      ·rw [if_pos c6] at H; have gX : decide (ao < (l1.length : Int)) = true := decide_eq_true c6; clear c6; by_cases c7 : (rd l0 ao) = (rd l1 ao)
       ·rw [if_pos c7] at H; have jm : ((rd l0 ao) == (rd l1 ao)) = true := beq_iff_eq.mpr c7; have tv : ((rd l0 ao) != (rd l1 ao)) = false := bne_eq_false_iff_eq.mpr c7; clear c7; have H' := aa.mk H; clear H; have bw : 0 ≤ (ao : Int) := of_decide_eq_true (by assumption); have bu : ao < (l0.length : Int) := of_decide_eq_true (by assumption); obtain ⟨cb, dJ, aK⟩ := Kd.Zh HR0.out ao bw bu; cases dJ; replace bw := eq_true bw; replace bu := eq_true bu; have bD : 0 ≤ (ao : Int) := of_decide_eq_true (by assumption); have bC : ao < (l1.length : Int) := of_decide_eq_true (by assumption); obtain ⟨bI, dP, aG⟩ := Kd.Zh HR1.out ao bD bC; cases dP; replace bD := eq_true bD; replace bC := eq_true bC; go_wp2; repeat (go_quiet (fail); try go_wp2)
        go_roundg k1
        case measure => have := HK1.out; omega
        case rel => exact ⟨(wrap64 (ao + 1)), (by first | rfl | (simp; done) | (simp [*]; done)), H', ⟨by have := HK1.out; omega⟩, by repeat (first | exact Drawn0.refl _ | apply Drawn0.step)⟩
       ·rw [if_neg c7] at H; have jm : ((rd l0 ao) == (rd l1 ao)) = false := beq_eq_false_iff_ne.mpr c7; have tv : ((rd l0 ao) != (rd l1 ao)) = true := bne_iff_ne.mpr c7; obtain rfl := Option.some.inj H; have bw : 0 ≤ (ao : Int) := of_decide_eq_true (by assumption); have bu : ao < (l0.length : Int) := of_decide_eq_true (by assumption); obtain ⟨cb, dJ, aK⟩ := Kd.Zh HR0.out ao bw bu; cases dJ; replace bw := eq_true bw; replace bu := eq_true bu; have bD : 0 ≤ (ao : Int) := of_decide_eq_true (by assumption); have bC : ao < (l1.length : Int) := of_decide_eq_true (by assumption); obtain ⟨bI, dP, aG⟩ := Kd.Zh HR1.out ao bD bC; cases dP; replace bD := eq_true bD; replace bC := eq_true bC; go_wp2; repeat (go_quiet (fail); try go_wp2)
        go_ret; exact ⟨by first | rfl | (simp; done) | (simp [*]; done), by repeat (first | exact Drawn0.refl _ | apply Drawn0.step)⟩
      ·rw [if_neg c6] at H; exact absurd H (by simp)
     ·rw [if_neg c5] at H; exact absurd H (by simp)
    ·rw [if_neg c4] at H; have bE : decide (ao < (l0.length : Int)) = false := decide_eq_false c4; clear c4; obtain rfl := Option.some.inj H; go_wp2; repeat (go_quiet (fail); try go_wp2)
     go_ret; exact ⟨by first | rfl | (simp; done) | (simp [*]; done), by repeat (first | exact Drawn0.refl _ | apply Drawn0.step)⟩
 ·rw [if_neg c3] at H; have bH : ((l0.length : Int) == (l1.length : Int)) = false := beq_eq_false_iff_ne.mpr c3; have cx : ((l0.length : Int) != (l1.length : Int)) = true := bne_iff_ne.mpr c3; have iV : (l0.length == l1.length) = false := by first | simpa using c3 | (simp at c3 ⊢; omega)
  obtain rfl := Option.some.inj H; go_enter Try.func45, Try.ntmps45; go_wp2; repeat (go_quiet (fail); try go_wp2)
  go_ret; exact ⟨by first | rfl | (simp; done) | (simp [*]; done), by repeat (first | exact Drawn0.refl _ | apply Drawn0.step)⟩
mutual
def Ql.j0 : Nat → List Int → Option (Int)
 | 0, _ => none
 | k + 1, x0 => if 0 < (x0.length : Int) then (Ql.l0 k x0 (rd x0 0) 1) else (none)
def Ql.l0 : Nat → List Int → Int → Int → Option (Int)
 | 0, _, _, _ => none
 | k + 1, x0, x3, x4 => if x4 < (x0.length : Int) then (if 0 ≤ x4 then (Ql.l0 k x0 (mn x3 (rd x0 x4)) (wrap64 (x4 + 1))) else (none)) else (some x3)
end
def Ql.f (k : Nat) (l0 : List Int) : Option (Int) := if (l0.length : Int) < 1 then (if 0 ≤ (-1) then (if (-1) < (l0.length : Int) then (Ql.j0 k l0) else (none)) else (none)) else (Ql.j0 k l0)
theorem Ql.ZP : ∀ k, (∀ y0, LeO (Ql.j0 k y0) (Ql.j0 (k + 1) y0)) ∧ (∀ y0 y1 y2, LeO (Ql.l0 k y0 y1 y2) (Ql.l0 (k + 1) y0 y1 y2))
 | 0 => ⟨fun _ r h => by simp [Ql.j0] at h, fun _ _ _ r h => by simp [Ql.l0] at h⟩
 | k + 1 => by
  obtain ⟨ih0, ih1⟩ := Ql.ZP k; refine ⟨?_, ?_⟩ <;> intros <;> (first | unfold Ql.j0 | unfold Ql.l0) <;> repeat' first | (with_reducible exact ih0 _) | (with_reducible exact ih1 _ _ _) | (with_reducible exact LeO.refl _) | (with_reducible exact LeO.none _) | (with_reducible refine LeO.ite ?_ ?_) | (with_reducible refine LeO.bind ?_ (fun _ => ?_)) | exact ih0 _ | exact ih1 _ _ _ | exact LeO.none _ | refine LeO.ite ?_ ?_ | refine LeO.bind ?_ (fun _ => ?_)
theorem Ql.mono : ∀ a0 k, LeO (Ql.f k a0) (Ql.f (k + 1) a0) := by
 intro a0 k; obtain ⟨ih0, ih1⟩ := Ql.ZP k; unfold Ql.f; repeat' first | (with_reducible exact ih0 _) | (with_reducible exact ih1 _ _ _) | (with_reducible exact LeO.refl _) | (with_reducible exact LeO.none _) | (with_reducible refine LeO.ite ?_ ?_) | (with_reducible refine LeO.bind ?_ (fun _ => ?_)) | exact ih0 _ | exact ih1 _ _ _ | exact LeO.none _ | refine LeO.ite ?_ ?_ | refine LeO.bind ?_ (fun _ => ?_)
set_option maxHeartbeats 8000000 in
set_option maxRecDepth 100000 in
theorem Ql.calls (k : Nat) (A0 : Option Addr) (c0 : Nat) (l0 : List Int) (r : Int) (w : World) (hr0 : Kd.C (Kd.int .i64) w A0 l0.length l0) (hc0 : l0.length ≤ c0) (h : Ql.f k l0 = some r) :
  Calls Try.prog 84 #[.slice A0 l0.length c0] w fun e w' => e = .returned (.int .i64 r) ∧ Below w.heap.size w w' := by
 have HR0 := aa.mk hr0; have HC0 := aa.mk hc0; clear hr0 hc0; have HB := aa.mk (Below.refl w.heap.size w); have H : (if (l0.length : Int) < 1 then (if 0 ≤ (-1) then (if (-1) < (l0.length : Int) then (Ql.j0 k l0) else (none)) else (none)) else (Ql.j0 k l0)) = some r := h; clear h; have HC2 := aa.mk H; clear H; go_enter Try.func84, Try.ntmps84; go_upto_if 7 with (fail)
 go_cut [] (fun wc => ∃ (kq : Nat), aa (Ql.j0 kq l0 = some r) ∧ aa (kq ≤ k) ∧ aa (Below w.heap.size w wc))
 case first =>
  have H := HC2.out; clear HC2; by_cases c3 : (l0.length : Int) < 1
  ·rw [if_pos c3] at H; have bH : decide ((l0.length : Int) < 1) = true := decide_eq_true c3; have cx : decide (l0.length < 1) = true := decide_eq_true (by omega); clear c3; (first | rw [bH] | (simp only [Qy, QB]; rw [bH]) | skip)
   by_cases c4 : 0 ≤ (-1)
   ·rw [if_pos c4] at H; have bE : decide (0 ≤ (-1)) = true := decide_eq_true c4; clear c4; by_cases c5 : (-1) < (l0.length : Int)
    ·rw [if_pos c5] at H; have dq : decide ((-1) < (l0.length : Int)) = true := decide_eq_true c5; clear c5; have H' := aa.mk H; clear H; exact absurd (show (0 : Int) ≤ -1 from of_decide_eq_true (by assumption)) (by decide)
    ·rw [if_neg c5] at H; exact absurd H (by simp)
   ·rw [if_neg c4] at H; exact absurd H (by simp)
  ·rw [if_neg c3] at H; have bH : decide ((l0.length : Int) < 1) = false := decide_eq_false c3; have cx : decide (l0.length < 1) = false := decide_eq_false (by omega); clear c3; (first | rw [bH] | (simp only [Qy, QB]; rw [bH]) | skip)
   have H' := aa.mk H; clear H; go_wp2; go_meet
   case rel => exact ⟨_, H', ⟨by first | omega | exact Nat.le_refl _⟩, ⟨bB⟩⟩
 case rest =>
  clear HC2; try clear p1
  try clear q1
  try clear hx1
  try clear p2
  try clear c3
  try clear bH
  try clear cx
  try clear c4
  try clear bE
  try clear c5
  try clear dq
  try clear aK
  try clear bw
  try clear bu
  obtain ⟨kq, HA, HJ1, HB⟩ := hcut; cases kq with
  | zero => exact absurd HA.out (by simp [Ql.j0])
  | succ kj1 =>
   have H := HA.out; clear HA; simp only [Ql.j0] at H; by_cases c6 : 0 < (l0.length : Int)
   ·rw [if_pos c6] at H; have gX : decide (0 < (l0.length : Int)) = true := decide_eq_true c6; have lV : decide (0 < l0.length) = true := decide_eq_true (by omega); clear c6; have H' := aa.mk H; clear H; have bD : 0 ≤ (0 : Int) := (by omega); have bC : 0 < (l0.length : Int) := of_decide_eq_true (by assumption); obtain ⟨bI, dP, aG⟩ := Kd.Zh HR0.out 0 bD bC; cases dP; have rf : (0 < l0.length) = True := eq_true (by omega); (try rw [show ((0 : Int)).toNat = 0 from rfl] at aG)
    (try rw [Addr.add_zero'] at aG)
    replace aG := (HB.out.cell (World.block_lt_of_cell? w _ aG)).trans aG; replace bD := eq_true bD; replace bC := eq_true bC; go_wp2; go_loopg [3, 4] kj1 (fun kq v3 v4 w' => ∃ (cd : Int) (aD : Int), v3 = .int .i64 cd ∧ v4 = .int .i64 aD ∧ aa (Ql.l0 kq l0 cd aD = some r) ∧ aa (kq ≤ kj1) ∧ aa (Below w.heap.size w w'))
    case atStart => exact ⟨(rd l0 0), (1), (by first | rfl | (simp; done) | (simp [*]; done)), (by first | rfl | (simp; done) | (simp [*]; done)), H', ⟨Nat.le_refl _⟩, ⟨bB⟩⟩
    case round =>
     clear H'; try clear p1
     try clear q1
     try clear hx1
     try clear qi1
     try clear p2
     try clear c3
     try clear bH
     try clear cx
     try clear c4
     try clear bE
     try clear c5
     try clear dq
     try clear c6
     try clear gX
     try clear lV
     try clear aK
     try clear aG
     try clear p1
     try clear bw
     try clear bD
     try clear p2
     try clear q1
     try clear bu
     try clear bC
     obtain ⟨cd, aD, rfl, rfl, HA, HK2, HB⟩ := hrel; cases gk with
     | zero => exact absurd HA.out (by simp [Ql.l0])
     | succ k2 =>
      have H := HA.out; clear HA; simp only [Ql.l0] at H; by_cases c7 : aD < (l0.length : Int)
      ·rw [if_pos c7] at H; have jm : decide (aD < (l0.length : Int)) = true := decide_eq_true c7; clear c7; by_cases c8 : 0 ≤ aD
       ·rw [if_pos c8] at H; have dQ : decide (0 ≤ aD) = true := decide_eq_true c8; clear c8; obtain ⟨ji9, kP⟩ : ∃ j_ : Int, (mn cd (rd l0 aD)) = j_ := ⟨_, rfl⟩; replace H : (Ql.l0 k2 l0 ji9 (wrap64 (aD + 1))) = some r := by first | (rw [kP] at H; exact H) | (simp only [kP] at H ⊢; exact H)
        have uq : (if (rd l0 aD) < cd then (rd l0 aD) else cd) = ji9 := kP; have H' := aa.mk H; clear H; have dN : 0 ≤ (aD : Int) := of_decide_eq_true (by assumption); have dM : aD < (l0.length : Int) := of_decide_eq_true (by assumption); obtain ⟨jd, iS, a7⟩ := Kd.Zh HR0.out aD dN dM; obtain rfl : bI = jd := (by injection iS); replace a7 := (HB.out.cell (World.block_lt_of_cell? w _ a7)).trans a7; replace dN := eq_true dN; replace dM := eq_true dM; go_wp2; go_roundg k2
        case measure => have := HJ1.out; have := HK2.out; omega
        case rel => exact ⟨(ji9), (wrap64 (aD + 1)), (by first | rfl | (simp; done) | (simp only [← kP] <;> (first | rfl | simp)) | (simp [*]; done)), (by first | rfl | (simp; done) | (simp [*]; done)), H', ⟨by have := HJ1.out; have := HK2.out; omega⟩, ⟨bB⟩⟩
       ·rw [if_neg c8] at H; exact absurd H (by simp)
      ·rw [if_neg c7] at H; have jm : decide (aD < (l0.length : Int)) = false := decide_eq_false c7; clear c7; obtain rfl := Option.some.inj H; go_wp2; go_ret; exact ⟨by first | rfl | (simp [Qj, Qi] <;> rfl) | (simp [*, Qj, Qi] <;> rfl), bB⟩
   ·rw [if_neg c6] at H; exact absurd H (by simp)
def Zk.f (a0 : Int) (a1 : Int) (a2 : Int) : Option (Bool) := if a0 ≥ a1 then (some (decide (a0 ≤ a2))) else (some false)
set_option maxHeartbeats 8000000 in
set_option maxRecDepth 100000 in
theorem Zk.calls (a0 : Int) (a1 : Int) (a2 : Int) (r : Bool) (w : World) (h : Zk.f a0 a1 a2 = some r) :
  Calls Try.prog 75 #[.int .i64 a0, .int .i64 a1, .int .i64 a2] w fun e w' => e = .returned (.bool r) ∧ Drawn0 w w' := by
 have H : (if a0 ≥ a1 then (some (decide (a0 ≤ a2))) else (some false)) = some r := h; clear h; by_cases c4 : a0 ≥ a1
 ·rw [if_pos c4] at H; have bE : decide (a1 ≤ a0) = true := decide_eq_true c4; clear c4; obtain rfl := Option.some.inj H; go_enter Try.func75, Try.ntmps75; go_wp2; go_ret; exact ⟨by first | rfl | (simp; done) | (simp [*]; done), by repeat (first | exact Drawn0.refl _ | apply Drawn0.step)⟩
 ·rw [if_neg c4] at H; have bE : decide (a1 ≤ a0) = false := decide_eq_false c4; clear c4; obtain rfl := Option.some.inj H; go_enter Try.func75, Try.ntmps75; go_wp2; go_ret; exact ⟨by first | rfl | (simp; done) | (simp [*]; done), by repeat (first | exact Drawn0.refl _ | apply Drawn0.step)⟩
mutual
def Qv.j0 : Nat → List Int → Option (Int)
 | 0, _ => none
 | k + 1, x0 => if 0 < (x0.length : Int) then (Qv.l0 k x0 (rd x0 0) 1) else (none)
def Qv.l0 : Nat → List Int → Int → Int → Option (Int)
 | 0, _, _, _ => none
 | k + 1, x0, x3, x4 => if x4 < (x0.length : Int) then (if 0 ≤ x4 then (Qv.l0 k x0 (mx x3 (rd x0 x4)) (wrap64 (x4 + 1))) else (none)) else (some x3)
end
def Qv.f (k : Nat) (l0 : List Int) : Option (Int) := if (l0.length : Int) < 1 then (if 0 ≤ (-1) then (if (-1) < (l0.length : Int) then (Qv.j0 k l0) else (none)) else (none)) else (Qv.j0 k l0)
theorem Qv.ZP : ∀ k, (∀ y0, LeO (Qv.j0 k y0) (Qv.j0 (k + 1) y0)) ∧ (∀ y0 y1 y2, LeO (Qv.l0 k y0 y1 y2) (Qv.l0 (k + 1) y0 y1 y2))
 | 0 => ⟨fun _ r h => by simp [Qv.j0] at h, fun _ _ _ r h => by simp [Qv.l0] at h⟩
 | k + 1 => by
  obtain ⟨ih0, ih1⟩ := Qv.ZP k; refine ⟨?_, ?_⟩ <;> intros <;> (first | unfold Qv.j0 | unfold Qv.l0) <;> repeat' first | (with_reducible exact ih0 _) | (with_reducible exact ih1 _ _ _) | (with_reducible exact LeO.refl _) | (with_reducible exact LeO.none _) | (with_reducible refine LeO.ite ?_ ?_) | (with_reducible refine LeO.bind ?_ (fun _ => ?_)) | exact ih0 _ | exact ih1 _ _ _ | exact LeO.none _ | refine LeO.ite ?_ ?_ | refine LeO.bind ?_ (fun _ => ?_)
theorem Qv.mono : ∀ a0 k, LeO (Qv.f k a0) (Qv.f (k + 1) a0) := by
 intro a0 k; obtain ⟨ih0, ih1⟩ := Qv.ZP k; unfold Qv.f; repeat' first | (with_reducible exact ih0 _) | (with_reducible exact ih1 _ _ _) | (with_reducible exact LeO.refl _) | (with_reducible exact LeO.none _) | (with_reducible refine LeO.ite ?_ ?_) | (with_reducible refine LeO.bind ?_ (fun _ => ?_)) | exact ih0 _ | exact ih1 _ _ _ | exact LeO.none _ | refine LeO.ite ?_ ?_ | refine LeO.bind ?_ (fun _ => ?_)
set_option maxHeartbeats 8000000 in
set_option maxRecDepth 100000 in
theorem Qv.calls (k : Nat) (A0 : Option Addr) (c0 : Nat) (l0 : List Int) (r : Int) (w : World) (hr0 : Kd.C (Kd.int .i64) w A0 l0.length l0) (hc0 : l0.length ≤ c0) (h : Qv.f k l0 = some r) :
  Calls Try.prog 78 #[.slice A0 l0.length c0] w fun e w' => e = .returned (.int .i64 r) ∧ Below w.heap.size w w' := by
 have HR0 := aa.mk hr0; have HC0 := aa.mk hc0; clear hr0 hc0; have HB := aa.mk (Below.refl w.heap.size w); have H : (if (l0.length : Int) < 1 then (if 0 ≤ (-1) then (if (-1) < (l0.length : Int) then (Qv.j0 k l0) else (none)) else (none)) else (Qv.j0 k l0)) = some r := h; clear h; have HC2 := aa.mk H; clear H; go_enter Try.func78, Try.ntmps78; go_upto_if 7 with (fail)
 go_cut [] (fun wc => ∃ (kq : Nat), aa (Qv.j0 kq l0 = some r) ∧ aa (kq ≤ k) ∧ aa (Below w.heap.size w wc))
 case first =>
  have H := HC2.out; clear HC2; by_cases c3 : (l0.length : Int) < 1
  ·rw [if_pos c3] at H; have bH : decide ((l0.length : Int) < 1) = true := decide_eq_true c3; have cx : decide (l0.length < 1) = true := decide_eq_true (by omega); clear c3; (first | rw [bH] | (simp only [Qy, QB]; rw [bH]) | skip)
   by_cases c4 : 0 ≤ (-1)
   ·rw [if_pos c4] at H; have bE : decide (0 ≤ (-1)) = true := decide_eq_true c4; clear c4; by_cases c5 : (-1) < (l0.length : Int)
    ·rw [if_pos c5] at H; have dq : decide ((-1) < (l0.length : Int)) = true := decide_eq_true c5; clear c5; have H' := aa.mk H; clear H; exact absurd (show (0 : Int) ≤ -1 from of_decide_eq_true (by assumption)) (by decide)
    ·rw [if_neg c5] at H; exact absurd H (by simp)
   ·rw [if_neg c4] at H; exact absurd H (by simp)
  ·rw [if_neg c3] at H; have bH : decide ((l0.length : Int) < 1) = false := decide_eq_false c3; have cx : decide (l0.length < 1) = false := decide_eq_false (by omega); clear c3; (first | rw [bH] | (simp only [Qy, QB]; rw [bH]) | skip)
   have H' := aa.mk H; clear H; go_wp2; go_meet
   case rel => exact ⟨_, H', ⟨by first | omega | exact Nat.le_refl _⟩, ⟨bB⟩⟩
 case rest =>
  clear HC2; try clear p1
  try clear q1
  try clear hx1
  try clear p2
  try clear c3
  try clear bH
  try clear cx
  try clear c4
  try clear bE
  try clear c5
  try clear dq
  try clear aK
  try clear bw
  try clear bu
  obtain ⟨kq, HA, HJ1, HB⟩ := hcut; cases kq with
  | zero => exact absurd HA.out (by simp [Qv.j0])
  | succ kj1 =>
   have H := HA.out; clear HA; simp only [Qv.j0] at H; by_cases c6 : 0 < (l0.length : Int)
   ·rw [if_pos c6] at H; have gX : decide (0 < (l0.length : Int)) = true := decide_eq_true c6; have lV : decide (0 < l0.length) = true := decide_eq_true (by omega); clear c6; have H' := aa.mk H; clear H; have bD : 0 ≤ (0 : Int) := (by omega); have bC : 0 < (l0.length : Int) := of_decide_eq_true (by assumption); obtain ⟨bI, dP, aG⟩ := Kd.Zh HR0.out 0 bD bC; cases dP; have rf : (0 < l0.length) = True := eq_true (by omega); (try rw [show ((0 : Int)).toNat = 0 from rfl] at aG)
    (try rw [Addr.add_zero'] at aG)
    replace aG := (HB.out.cell (World.block_lt_of_cell? w _ aG)).trans aG; replace bD := eq_true bD; replace bC := eq_true bC; go_wp2; go_loopg [3, 4] kj1 (fun kq v3 v4 w' => ∃ (cd : Int) (aD : Int), v3 = .int .i64 cd ∧ v4 = .int .i64 aD ∧ aa (Qv.l0 kq l0 cd aD = some r) ∧ aa (kq ≤ kj1) ∧ aa (Below w.heap.size w w'))
    case atStart => exact ⟨(rd l0 0), (1), (by first | rfl | (simp; done) | (simp [*]; done)), (by first | rfl | (simp; done) | (simp [*]; done)), H', ⟨Nat.le_refl _⟩, ⟨bB⟩⟩
    case round =>
     clear H'; try clear p1
     try clear q1
     try clear hx1
     try clear qi1
     try clear p2
     try clear c3
     try clear bH
     try clear cx
     try clear c4
     try clear bE
     try clear c5
     try clear dq
     try clear c6
     try clear gX
     try clear lV
     try clear aK
     try clear aG
     try clear p1
     try clear bw
     try clear bD
     try clear p2
     try clear q1
     try clear bu
     try clear bC
     obtain ⟨cd, aD, rfl, rfl, HA, HK2, HB⟩ := hrel; cases gk with
     | zero => exact absurd HA.out (by simp [Qv.l0])
     | succ k2 =>
      have H := HA.out; clear HA; simp only [Qv.l0] at H; by_cases c7 : aD < (l0.length : Int)
      ·rw [if_pos c7] at H; have jm : decide (aD < (l0.length : Int)) = true := decide_eq_true c7; clear c7; by_cases c8 : 0 ≤ aD
       ·rw [if_pos c8] at H; have dQ : decide (0 ≤ aD) = true := decide_eq_true c8; clear c8; obtain ⟨ji9, kP⟩ : ∃ j_ : Int, (mx cd (rd l0 aD)) = j_ := ⟨_, rfl⟩; replace H : (Qv.l0 k2 l0 ji9 (wrap64 (aD + 1))) = some r := by first | (rw [kP] at H; exact H) | (simp only [kP] at H ⊢; exact H)
        have uq : (if cd < (rd l0 aD) then (rd l0 aD) else cd) = ji9 := kP; have H' := aa.mk H; clear H; have dN : 0 ≤ (aD : Int) := of_decide_eq_true (by assumption); have dM : aD < (l0.length : Int) := of_decide_eq_true (by assumption); obtain ⟨jd, iS, a7⟩ := Kd.Zh HR0.out aD dN dM; obtain rfl : bI = jd := (by injection iS); replace a7 := (HB.out.cell (World.block_lt_of_cell? w _ a7)).trans a7; replace dN := eq_true dN; replace dM := eq_true dM; go_wp2; go_roundg k2
        case measure => have := HJ1.out; have := HK2.out; omega
        case rel => exact ⟨(ji9), (wrap64 (aD + 1)), (by first | rfl | (simp; done) | (simp only [← kP] <;> (first | rfl | simp)) | (simp [*]; done)), (by first | rfl | (simp; done) | (simp [*]; done)), H', ⟨by have := HJ1.out; have := HK2.out; omega⟩, ⟨bB⟩⟩
       ·rw [if_neg c8] at H; exact absurd H (by simp)
      ·rw [if_neg c7] at H; have jm : decide (aD < (l0.length : Int)) = false := decide_eq_false c7; clear c7; obtain rfl := Option.some.inj H; go_wp2; go_ret; exact ⟨by first | rfl | (simp [Qj, Qi] <;> rfl) | (simp [*, Qj, Qi] <;> rfl), bB⟩
   ·rw [if_neg c6] at H; exact absurd H (by simp)
def QY.f (ae : List (List Int)) (af : List (List Int)) : Option (Int) := some (wrap64 ((ae.length : Int) + (af.length : Int)))
set_option maxHeartbeats 8000000 in
set_option maxRecDepth 100000 in
theorem QY.calls (ak : Option Addr) (an : Nat) (ae : List (List Int)) (aj : Option Addr) (al : Nat) (af : List (List Int)) (r : Int) (w : World) (aN : Kd.C (Kd.slice 3 (Kd.int .i64)) w ak ae.length ae) (aT : ae.length ≤ an) (aM : Kd.C (Kd.slice 3 (Kd.int .i64)) w aj af.length af) (aQ : af.length ≤ al) (h : QY.f ae af = some r) :
  Calls Try.prog 71 #[.agg #[.slice ak ae.length an, .slice aj af.length al]] w fun e w' => e = .returned (.int .i64 r) ∧ Below w.heap.size w w' := by
 have en := Try.underlying24; have aw := aa.mk aN; have az := aa.mk aT; clear aN aT; have ay := aa.mk aM; have aA := aa.mk aQ; clear aM aQ; have HB := aa.mk (Below.refl w.heap.size w); have H : (some (wrap64 ((ae.length : Int) + (af.length : Int)))) = some r := h; clear h; obtain rfl := Option.some.inj H; go_enter Try.func71, Try.ntmps71; go_wp2_with (first | ((with_reducible refine QO (N := 1) rfl ?_); refine Q4 ?hg (N := 1) ?hd (cs := #[.slice ak ae.length an, .slice aj af.length al]) (t := 24) ?hr ?_; (case hd => rfl); (case hg => rfl); (case hr => first | (go_simp; done) | (go_simp; rfl)); intro ag hg w2 hbox hb; have ab := aa.mk (hbox); have bo := aa.mk ((by rw [hg]; exact (Qc bB) : w.heap.size ≤ ag)); have aV := aa.mk ((by rw [hg]; exact (Qc bB) : w.heap.size ≤ ag)); replace HB := aa.mk (Qa bB hb); clear hb hbox hg; have yx : w2.cell? ⟨ag, 0, none⟩ = some (.slice ak ae.length an) := (Qd ab.out 0).trans rfl; have yw : w2.cell? ⟨ag, 1, none⟩ = some (.slice aj af.length al) := (Qd ab.out 1).trans rfl; have yq := Qb ab.out 0; have yp := Qb ab.out 1))
 go_ret; exact ⟨by first | rfl | (simp [Qj, Qi] <;> rfl) | (simp [*, Qj, Qi] <;> rfl), bB⟩
def QL.l0 : Nat → List Int → List Int → Int → Int → Option (Bool)
 | 0, _, _, _, _ => none
 | k + 1, x0, x1, x12, x13 => if x13 < x12 then (if 0 ≤ x13 then (if x13 < (x0.length : Int) then (if x13 < (x1.length : Int) then (if (rd x0 x13) = (rd x1 x13) then (QL.l0 k x0 x1 x12 (wrap64 (x13 + 1))) else (some false)) else (none)) else (none)) else (none)) else (some true)
def QL.f (k : Nat) (l0 : List Int) (l1 : List Int) : Option (Bool) := if (l0.length : Int) = (l1.length : Int) then (QL.l0 k l0 l1 (l0.length : Int) 0) else (some false)
theorem QL.ZP : ∀ k, (∀ y0 y1 y2 y3, LeO (QL.l0 k y0 y1 y2 y3) (QL.l0 (k + 1) y0 y1 y2 y3))
 | 0 => fun _ _ _ _ r h => by simp [QL.l0] at h
 | k + 1 => by
  have ih0 := QL.ZP k
  ·intro y0 y1 y2 y3; unfold QL.l0; repeat' first | (with_reducible exact ih0 _ _ _ _) | (with_reducible exact LeO.refl _) | (with_reducible exact LeO.none _) | (with_reducible refine LeO.ite ?_ ?_) | (with_reducible refine LeO.bind ?_ (fun _ => ?_)) | exact ih0 _ _ _ _ | exact LeO.none _ | refine LeO.ite ?_ ?_ | refine LeO.bind ?_ (fun _ => ?_)
theorem QL.mono : ∀ a0 a1 k, LeO (QL.f k a0 a1) (QL.f (k + 1) a0 a1) := by
 intro a0 a1 k; have ih0 := QL.ZP k; unfold QL.f; repeat' first | (with_reducible exact ih0 _ _ _ _) | (with_reducible exact LeO.refl _) | (with_reducible exact LeO.none _) | (with_reducible refine LeO.ite ?_ ?_) | (with_reducible refine LeO.bind ?_ (fun _ => ?_)) | exact ih0 _ _ _ _ | exact LeO.none _ | refine LeO.ite ?_ ?_ | refine LeO.bind ?_ (fun _ => ?_)
set_option maxHeartbeats 8000000 in
set_option maxRecDepth 100000 in
theorem QL.calls (k : Nat) (A0 : Option Addr) (c0 : Nat) (l0 : List Int) (A1 : Option Addr) (c1 : Nat) (l1 : List Int) (r : Bool) (w : World) (hr0 : Kd.C (Kd.int .i64) w A0 l0.length l0) (hc0 : l0.length ≤ c0) (hr1 : Kd.C (Kd.int .i64) w A1 l1.length l1) (hc1 : l1.length ≤ c1) (h : QL.f k l0 l1 = some r) :
  Calls Try.prog 122 #[.slice A0 l0.length c0, .slice A1 l1.length c1] w fun e w' => e = .returned (.bool r) ∧ Drawn0 w w' := by
 have HR0 := aa.mk hr0; have HC0 := aa.mk hc0; clear hr0 hc0; have HR1 := aa.mk hr1; have HC1 := aa.mk hc1; clear hr1 hc1; have H : (if (l0.length : Int) = (l1.length : Int) then (QL.l0 k l0 l1 (l0.length : Int) 0) else (some false)) = some r := h; clear h; by_cases c3 : (l0.length : Int) = (l1.length : Int)
 ·rw [if_pos c3] at H; have bH : ((l0.length : Int) == (l1.length : Int)) = true := beq_iff_eq.mpr c3; have cx : ((l0.length : Int) != (l1.length : Int)) = false := bne_eq_false_iff_eq.mpr c3; have iV : (l0.length == l1.length) = true := by first | simpa using c3 | (simp at c3 ⊢; omega)
  clear c3; have H' := aa.mk H; clear H; go_enter Try.func122, Try.ntmps122; go_wp2; repeat (go_quiet (fail); try go_wp2)
  go_loopg [13] k (fun kq v13 w' => ∃ (bR : Int), v13 = .int .i64 bR ∧ aa (QL.l0 kq l0 l1 (l0.length : Int) bR = some r) ∧ aa (kq ≤ k) ∧ Drawn0 w w')
  case atStart => exact ⟨(0), (by first | rfl | (simp; done) | (simp [*]; done)), H', ⟨Nat.le_refl _⟩, by repeat (first | exact Drawn0.refl _ | apply Drawn0.step)⟩
  case round =>
   clear H'; try clear c1
   try clear p2
   try clear c3
   try clear bH
   try clear cx
   try clear iV
   obtain ⟨bR, rfl, HA, HK1, ⟨m1, rfl⟩⟩ := hrel; cases gk with
   | zero => exact absurd HA.out (by simp [QL.l0])
   | succ k1 =>
    have H := HA.out; clear HA; simp only [QL.l0] at H; by_cases c4 : bR < (l0.length : Int)
    ·rw [if_pos c4] at H; have bE : decide (bR < (l0.length : Int)) = true := decide_eq_true c4; clear c4; by_cases c5 : 0 ≤ bR
     ·rw [if_pos c5] at H; have dq : decide (0 ≤ bR) = true := decide_eq_true c5; clear c5; by_cases c6 : bR < (l0.length : Int)
      ·rw [if_pos c6] at H; have gX : decide (bR < (l0.length : Int)) = true := decide_eq_true c6; clear c6; by_cases c7 : bR < (l1.length : Int)
       ·rw [if_pos c7] at H; have jm : decide (bR < (l1.length : Int)) = true := decide_eq_true c7; clear c7; by_cases c8 : (rd l0 bR) = (rd l1 bR)
        ·rw [if_pos c8] at H; have dQ : ((rd l0 bR) == (rd l1 bR)) = true := beq_iff_eq.mpr c8; have iU : ((rd l0 bR) != (rd l1 bR)) = false := bne_eq_false_iff_eq.mpr c8; clear c8; have H' := aa.mk H; clear H; have bw : 0 ≤ (bR : Int) := of_decide_eq_true (by assumption); have bu : bR < (l0.length : Int) := of_decide_eq_true (by assumption); obtain ⟨cb, dJ, aK⟩ := Kd.Zh HR0.out bR bw bu; cases dJ; replace bw := eq_true bw; replace bu := eq_true bu; have bD : 0 ≤ (bR : Int) := of_decide_eq_true (by assumption); have bC : bR < (l1.length : Int) := of_decide_eq_true (by assumption); obtain ⟨bI, dP, aG⟩ := Kd.Zh HR1.out bR bD bC; cases dP; replace bD := eq_true bD; replace bC := eq_true bC; go_wp2; repeat (go_quiet (fail); try go_wp2)
         go_roundg k1
         case measure => have := HK1.out; omega
         case rel => exact ⟨(wrap64 (bR + 1)), (by first | rfl | (simp; done) | (simp [*]; done)), H', ⟨by have := HK1.out; omega⟩, by repeat (first | exact Drawn0.refl _ | apply Drawn0.step)⟩
        ·rw [if_neg c8] at H; have dQ : ((rd l0 bR) == (rd l1 bR)) = false := beq_eq_false_iff_ne.mpr c8; have iU : ((rd l0 bR) != (rd l1 bR)) = true := bne_iff_ne.mpr c8; obtain rfl := Option.some.inj H; have bw : 0 ≤ (bR : Int) := of_decide_eq_true (by assumption); have bu : bR < (l0.length : Int) := of_decide_eq_true (by assumption); obtain ⟨cb, dJ, aK⟩ := Kd.Zh HR0.out bR bw bu; cases dJ; replace bw := eq_true bw; replace bu := eq_true bu; have bD : 0 ≤ (bR : Int) := of_decide_eq_true (by assumption); have bC : bR < (l1.length : Int) := of_decide_eq_true (by assumption); obtain ⟨bI, dP, aG⟩ := Kd.Zh HR1.out bR bD bC; cases dP; replace bD := eq_true bD; replace bC := eq_true bC; go_wp2; repeat (go_quiet (fail); try go_wp2)
         go_ret; exact ⟨by first | rfl | (simp; done) | (simp [*]; done), by repeat (first | exact Drawn0.refl _ | apply Drawn0.step)⟩
       ·rw [if_neg c7] at H; exact absurd H (by simp)
      ·rw [if_neg c6] at H; exact absurd H (by simp)
     ·rw [if_neg c5] at H; exact absurd H (by simp)
    ·rw [if_neg c4] at H; have bE : decide (bR < (l0.length : Int)) = false := decide_eq_false c4; clear c4; obtain rfl := Option.some.inj H; go_wp2; repeat (go_quiet (fail); try go_wp2)
     go_ret; exact ⟨by first | rfl | (simp; done) | (simp [*]; done), by repeat (first | exact Drawn0.refl _ | apply Drawn0.step)⟩
 ·rw [if_neg c3] at H; have bH : ((l0.length : Int) == (l1.length : Int)) = false := beq_eq_false_iff_ne.mpr c3; have cx : ((l0.length : Int) != (l1.length : Int)) = true := bne_iff_ne.mpr c3; have iV : (l0.length == l1.length) = false := by first | simpa using c3 | (simp at c3 ⊢; omega)
  obtain rfl := Option.some.inj H; go_enter Try.func122, Try.ntmps122; go_wp2; repeat (go_quiet (fail); try go_wp2)
  go_ret; exact ⟨by first | rfl | (simp; done) | (simp [*]; done), by repeat (first | exact Drawn0.refl _ | apply Drawn0.step)⟩
def Zu.l0 : Nat → Int → Int → Option (Int)
 | 0, _, _ => none
 | k + 1, x0, x1 => if x1 = 0 then (some (mx x0 (wrap64 (-x0)))) else (Zu.l0 k x1 (Int.tmod x0 x1))
def Zu.f (k : Nat) (a0 : Int) (a1 : Int) : Option (Int) := Zu.l0 k a0 a1
set_option maxHeartbeats 8000000 in
set_option maxRecDepth 100000 in
theorem Zu.calls (k : Nat) (a0 : Int) (a1 : Int) (r : Int) (w : World) (h : Zu.f k a0 a1 = some r) :
  Calls Try.prog 117 #[.int .i64 a0, .int .i64 a1] w fun e w' => e = .returned (.int .i64 r) ∧ Below w.heap.size w w' := by
 have HB := aa.mk (Below.refl w.heap.size w); have H : (Zu.l0 k a0 a1) = some r := h; clear h; have H' := aa.mk H; clear H; go_enter Try.func117, Try.ntmps117; go_wp2; repeat (go_quiet (fail); try go_wp2)
 go_loopg [0, 1] k (fun kq v0 v1 w' => ∃ (ko : Int) (km : Int), v0 = .int .i64 ko ∧ v1 = .int .i64 km ∧ aa (Zu.l0 kq ko km = some r) ∧ aa (kq ≤ k) ∧ aa (Below w.heap.size w w'))
 case atStart => exact ⟨(a0), (a1), (by first | rfl | (simp; done) | (simp [*]; done)), (by first | rfl | (simp; done) | (simp [*]; done)), H', ⟨Nat.le_refl _⟩, ⟨bB⟩⟩
 case round =>
  clear H'; try clear c1
  try clear p2
  obtain ⟨ko, km, rfl, rfl, HA, HK1, HB⟩ := hrel; cases gk with
  | zero => exact absurd HA.out (by simp [Zu.l0])
  | succ k1 =>
   have H := HA.out; clear HA; simp only [Zu.l0] at H; by_cases c3 : km = 0
   ·rw [if_pos c3] at H; have bH : (km == 0) = true := beq_iff_eq.mpr c3; have cx : (km != 0) = false := bne_eq_false_iff_eq.mpr c3; clear c3; obtain ⟨ji4, gU⟩ : ∃ j_ : Int, (mx ko (wrap64 (-ko))) = j_ := ⟨_, rfl⟩; replace H : (some ji4) = some r := by first | (rw [gU] at H; exact H) | (simp only [gU] at H ⊢; exact H)
    have ru : (if ko < (wrap64 (-ko)) then (wrap64 (-ko)) else ko) = ji4 := gU; obtain rfl := Option.some.inj H; go_wp2; repeat (go_quiet (fail); try go_wp2)
    go_ret; exact ⟨by first | rfl | (simp [Qj, Qi] <;> rfl) | (simp only [← gU]; first | rfl | (simp [Qj, Qi] <;> rfl)) | (simp [*, Qj, Qi] <;> rfl), bB⟩
   ·rw [if_neg c3] at H; have bH : (km == 0) = false := beq_eq_false_iff_ne.mpr c3; have cx : (km != 0) = true := bne_iff_ne.mpr c3; have H' := aa.mk H; clear H; go_wp2; repeat (go_quiet (fail); try go_wp2)
    go_roundg k1
    case measure => have := HK1.out; omega
    case rel => exact ⟨(km), (Int.tmod ko km), (by first | rfl | (simp; done) | (simp [*]; done)), (by first | rfl | (simp; done) | (simp [*]; done)), H', ⟨by have := HK1.out; omega⟩, ⟨bB⟩⟩
def Za.l0 : Nat → List Int → Int → Int → Int → Option (Int)
 | 0, _, _, _, _ => none
 | k + 1, x0, x1, x7, x8 => if x8 < x7 then (if 0 ≤ x8 then (if x8 < (x0.length : Int) then (if x1 = (rd x0 x8) then (some x8) else (Za.l0 k x0 x1 x7 (wrap64 (x8 + 1)))) else (none)) else (none)) else (some (-1))
def Za.f (k : Nat) (l0 : List Int) (a1 : Int) : Option (Int) := Za.l0 k l0 a1 (l0.length : Int) 0
set_option maxHeartbeats 8000000 in
set_option maxRecDepth 100000 in
theorem Za.calls (k : Nat) (A0 : Option Addr) (c0 : Nat) (l0 : List Int) (a1 : Int) (r : Int) (w : World) (hr0 : Kd.C (Kd.int .i64) w A0 l0.length l0) (hc0 : l0.length ≤ c0) (h : Za.f k l0 a1 = some r) :
  Calls Try.prog 130 #[.slice A0 l0.length c0, .int .i64 a1] w fun e w' => e = .returned (.int .i64 r) ∧ Drawn0 w w' := by
 have HR0 := aa.mk hr0; have HC0 := aa.mk hc0; clear hr0 hc0; have H : (Za.l0 k l0 a1 (l0.length : Int) 0) = some r := h; clear h; have H' := aa.mk H; clear H; go_enter Try.func130, Try.ntmps130; go_wp2; go_loopg [8] k (fun kq v8 w' => ∃ (eR : Int), v8 = .int .i64 eR ∧ aa (Za.l0 kq l0 a1 (l0.length : Int) eR = some r) ∧ aa (kq ≤ k) ∧ Drawn0 w w')
 case atStart => exact ⟨(0), (by first | rfl | (simp; done) | (simp [*]; done)), H', ⟨Nat.le_refl _⟩, by repeat (first | exact Drawn0.refl _ | apply Drawn0.step)⟩
 case round =>
  clear H'; try clear c1
  try clear p2
  obtain ⟨eR, rfl, HA, HK1, ⟨m1, rfl⟩⟩ := hrel; cases gk with
  | zero => exact absurd HA.out (by simp [Za.l0])
  | succ k1 =>
   have H := HA.out; clear HA; simp only [Za.l0] at H; by_cases c3 : eR < (l0.length : Int)
   ·rw [if_pos c3] at H; have bH : decide (eR < (l0.length : Int)) = true := decide_eq_true c3; clear c3; by_cases c4 : 0 ≤ eR
    ·rw [if_pos c4] at H; have bE : decide (0 ≤ eR) = true := decide_eq_true c4; clear c4; by_cases c5 : eR < (l0.length : Int)
     ·rw [if_pos c5] at H; have dq : decide (eR < (l0.length : Int)) = true := decide_eq_true c5; clear c5; by_cases c6 : a1 = (rd l0 eR)
      ·rw [if_pos c6] at H; have gX : (a1 == (rd l0 eR)) = true := beq_iff_eq.mpr c6; have lV : (a1 != (rd l0 eR)) = false := bne_eq_false_iff_eq.mpr c6; clear c6; obtain rfl := Option.some.inj H; have bw : 0 ≤ (eR : Int) := of_decide_eq_true (by assumption); have bu : eR < (l0.length : Int) := of_decide_eq_true (by assumption); obtain ⟨cb, dJ, aK⟩ := Kd.Zh HR0.out eR bw bu; cases dJ; replace bw := eq_true bw; replace bu := eq_true bu; go_wp2; go_ret; exact ⟨by first | rfl | (simp; done) | (simp [*]; done), by repeat (first | exact Drawn0.refl _ | apply Drawn0.step)⟩
      ·rw [if_neg c6] at H; have gX : (a1 == (rd l0 eR)) = false := beq_eq_false_iff_ne.mpr c6; have lV : (a1 != (rd l0 eR)) = true := bne_iff_ne.mpr c6; have H' := aa.mk H; clear H; have bw : 0 ≤ (eR : Int) := of_decide_eq_true (by assumption); have bu : eR < (l0.length : Int) := of_decide_eq_true (by assumption); obtain ⟨cb, dJ, aK⟩ := Kd.Zh HR0.out eR bw bu; cases dJ; replace bw := eq_true bw; replace bu := eq_true bu; go_wp2; go_roundg k1
       case measure => have := HK1.out; omega
       case rel => exact ⟨(wrap64 (eR + 1)), (by first | rfl | (simp; done) | (simp [*]; done)), H', ⟨by have := HK1.out; omega⟩, by repeat (first | exact Drawn0.refl _ | apply Drawn0.step)⟩
     ·rw [if_neg c5] at H; exact absurd H (by simp)
    ·rw [if_neg c4] at H; exact absurd H (by simp)
   ·rw [if_neg c3] at H; have bH : decide (eR < (l0.length : Int)) = false := decide_eq_false c3; clear c3; obtain rfl := Option.some.inj H; go_wp2; go_ret; exact ⟨by first | rfl | (simp; done) | (simp [*]; done), by repeat (first | exact Drawn0.refl _ | apply Drawn0.step)⟩
def ZQ.f (k : Nat) (l0 : List Int) (a1 : Int) : Option (Bool) := (Za.f k l0 a1).bind fun t101 => (some (decide (t101 ≥ 0)))
set_option maxHeartbeats 8000000 in
set_option maxRecDepth 100000 in
theorem ZQ.calls (k : Nat) (A0 : Option Addr) (c0 : Nat) (l0 : List Int) (a1 : Int) (r : Bool) (w : World) (hr0 : Kd.C (Kd.int .i64) w A0 l0.length l0) (hc0 : l0.length ≤ c0) (h : ZQ.f k l0 a1 = some r) :
  Calls Try.prog 116 #[.slice A0 l0.length c0, .int .i64 a1] w fun e w' => e = .returned (.bool r) ∧ Drawn0 w w' := by
 have HR0 := aa.mk hr0; have HC0 := aa.mk hc0; clear hr0 hc0; have H : ((Za.f k l0 a1).bind fun t101 => (some (decide (t101 ≥ 0)))) = some r := h; clear h; replace H := Option.bind_eq_some_iff.mp H; obtain ⟨t101, A30, H⟩ := H; replace H : (some (decide (t101 ≥ 0))) = some r := H; have A3 := aa.mk A30; clear A30; obtain rfl := Option.some.inj H; go_enter Try.func116, Try.ntmps116; go_wp2_with (first | ((with_reducible refine Qg (f := 130) rfl ?_); refine QG (some 7) rfl rfl Try.func130 (by kernel_rfl) rfl #[.slice A0 l0.length c0, .int .i64 a1] rfl hA ?_; (with_reducible refine (Za.calls k _ _ l0 a1 t101 _ ?ah ?ai A3.out).mono ?_); (case ah => exact HR0.out); (case ai => exact HC0.out); rintro e w' ⟨rfl, ⟨nd, rfl⟩⟩; refine ⟨_, rfl, ?_⟩))
 go_ret; exact ⟨by first | rfl | (simp; done) | (simp [*]; done), by repeat (first | exact Drawn0.refl _ | apply Drawn0.step)⟩
def QQ.f (a0 : Int) (a1 : Int) (a2 : Int) : Option (Bool) := if a0 ≥ a1 then (some (decide (a0 ≤ a2))) else (some false)
set_option maxHeartbeats 8000000 in
set_option maxRecDepth 100000 in
theorem QQ.calls (a0 : Int) (a1 : Int) (a2 : Int) (r : Bool) (w : World) (h : QQ.f a0 a1 a2 = some r) :
  Calls Try.prog 99 #[.int .i64 a0, .int .i64 a1, .int .i64 a2] w fun e w' => e = .returned (.bool r) ∧ Drawn0 w w' := by
 have H : (if a0 ≥ a1 then (some (decide (a0 ≤ a2))) else (some false)) = some r := h; clear h; by_cases c4 : a0 ≥ a1
 ·rw [if_pos c4] at H; have bE : decide (a1 ≤ a0) = true := decide_eq_true c4; clear c4; obtain rfl := Option.some.inj H; go_enter Try.func99, Try.ntmps99; go_wp2; go_ret; exact ⟨by first | rfl | (simp; done) | (simp [*]; done), by repeat (first | exact Drawn0.refl _ | apply Drawn0.step)⟩
 ·rw [if_neg c4] at H; have bE : decide (a1 ≤ a0) = false := decide_eq_false c4; clear c4; obtain rfl := Option.some.inj H; go_enter Try.func99, Try.ntmps99; go_wp2; go_ret; exact ⟨by first | rfl | (simp; done) | (simp [*]; done), by repeat (first | exact Drawn0.refl _ | apply Drawn0.step)⟩
mutual
def Qe.j0 : Nat → Bool → List (List Int) → List (List Int) → Option (Int)
 | 0, _, _, _ => none
 | k + 1, x27, au, av => if x27 = true then (some 1) else ((some (([] : List (List Int)) : List (List Int))).bind fun gi => (if gi.length + au.length < 5864062014805 then ((some (gi ++ au : List (List Int))).bind fun eQ => (if eQ.length + av.length < 5864062014805 then (Qe.l0 k (eQ ++ av) 0 au av) else (none))) else (none)))
def Qe.l0 : Nat → List (List Int) → Int → List (List Int) → List (List Int) → Option (Int)
 | 0, _, _, _, _ => none
 | k + 1, x3, x4, au, av => if x4 < (x3.length : Int) then (if 0 ≤ x4 then (if 0 < (au.length : Int) then (if ((Qu x3 x4).length : Int) = ((Qu au 0).length : Int) then (Qe.l1 k x3 x4 0 0 au av) else (some 1)) else (none)) else (none)) else (some 0)
def Qe.l1 : Nat → List (List Int) → Int → Int → Int → List (List Int) → List (List Int) → Option (Int)
 | 0, _, _, _, _, _, _ => none
 | k + 1, x3, x4, x5, x6, au, av => if 0 ≤ x4 then (if x4 < (x3.length : Int) then (if x6 < ((Qu x3 x4).length : Int) then (if 0 ≤ x6 then ((QQ.f (rd (Qu x3 x4) x6) 0 9).bind fun t120 => (if t120 = true then (Qe.l1 k x3 x4 (wrap64 (x5 + (rd (Qu x3 x4) x6))) (wrap64 (x6 + 1)) au av) else (some 1))) else (none)) else (if x5 = 0 then (some 1) else (Qe.l0 k x3 (wrap64 (x4 + 1)) au av))) else (none)) else (none)
end
def Qe.f (k : Nat) (ae : List (List Int)) (af : List (List Int)) : Option (Int) := (QQ.f (ae.length : Int) 1 3).bind fun t102 => (if t102 = true then ((QQ.f (af.length : Int) 1 3).bind fun t103 => (if t103 = true then (if 0 < (ae.length : Int) then ((QQ.f ((Qu ae 0).length : Int) 1 4).bind fun t105 => (Qe.j0 k (!t105) ae af)) else (none)) else (Qe.j0 k true ae af))) else (Qe.j0 k true ae af))
def Qe.T3 : Bool × List (List Nat × List Nat) := (true, [([], []), ([], []), ([1], [1]), ([0, 2], [0, 2]), ([], []), ([4], [4]), ([3, 5, 3], [3, 5]), ([6, 6, 0, 1, 2, 3, 4, 5, 6], [6])])
def Qe.B3 : List Nat := [0, 0, 2, 7, 0, 16, 63, 127]
theorem Qe.tab3 : rtab .any (opsOf Try.f55 3) = Qe.T3 := by kernel_rfl
theorem Qe.bits3 : waitsOk Qe.T3.2 Qe.B3 = true := by kernel_rfl
def Qe.T7 : Bool × List (List Nat × List Nat) := (true, [([], []), ([], []), ([0, 1], [0, 1]), ([2], [2]), ([3], [3]), ([], []), ([5], [5]), ([6], [6]), ([7], [7]), ([8], [8]), ([4, 9], [4, 9])])
def Qe.B7 : List Nat := [0, 0, 3, 7, 15, 0, 32, 96, 224, 480, 1023]
theorem Qe.tab7 : rtab .any (opsOf Try.f55 7) = Qe.T7 := by kernel_rfl
theorem Qe.bits7 : waitsOk Qe.T7.2 Qe.B7 = true := by kernel_rfl
set_option maxHeartbeats 8000000 in
set_option maxRecDepth 100000 in
theorem Qe.calls (k : Nat) (cJ : Nat → Prop) (ak : Option Addr) (an : Nat) (ae : List (List Int)) (cI : Nat → Prop) (aj : Option Addr) (al : Nat) (af : List (List Int)) (r : Int) (w : World) (um : Kd.V (Kd.slice 3 (Kd.int .i64)) 28 w w.heap.size (fun k_ => cJ k_) (.slice ak ae.length an) ae) (uk : Kd.V (Kd.slice 3 (Kd.int .i64)) 28 w w.heap.size (fun k_ => cI k_) (.slice aj af.length al) af) (h : Qe.f k ae af = some r) :
  Calls Try.prog 55 #[.agg #[.slice ak ae.length an, .slice aj af.length al]] w fun e w' => e = .returned (.int .i64 r) ∧ Below w.heap.size w w' := by
 have en := Try.underlying24; have jg := aa.mk (show Kd.V (Kd.slice 3 (Kd.int .i64)) 28 w w.heap.size (fun k_ => ((cJ k_ ∨ cI k_) ∨ w.heap.size ≤ k_)) (.slice ak ae.length an) ae from Kd.Z6 um (fun k_ hk => .inl (.inl hk))); have me := aa.mk (show Kd.V (Kd.slice 3 (Kd.int .i64)) 28 w w.heap.size (fun k_ => ((cJ k_ ∨ cI k_) ∨ w.heap.size ≤ k_)) (.slice aj af.length al) af from Kd.Z6 uk (fun k_ hk => .inl (.inr hk))); have HB := aa.mk (Below.refl w.heap.size w); have H : ((QQ.f (ae.length : Int) 1 3).bind fun t102 => (if t102 = true then ((QQ.f (af.length : Int) 1 3).bind fun t103 => (if t103 = true then (if 0 < (ae.length : Int) then ((QQ.f ((Qu ae 0).length : Int) 1 4).bind fun t105 => (Qe.j0 k (!t105) ae af)) else (none)) else (Qe.j0 k true ae af))) else (Qe.j0 k true ae af))) = some r := h; clear h; have HC2 := aa.mk H; clear H; go_enter Try.func55, Try.ntmps55; go_upto_region 1 with (first | ((with_reducible refine QO (N := 1) rfl ?_); (try (refine Z5 (by rfl) ?_; dsimp only)); refine Q4 ?hg (N := 1) ?hd (cs := #[.slice ak ae.length an, .slice aj af.length al]) (t := 24) ?hr ?_; (case hd => rfl); (case hg => rfl); (case hr => first | (go_simp; done) | (go_simp; rfl)); intro ag hg w3 hbox hb; replace jg := aa.mk (Kd.Z7 (Kd.V_elderB jg.out ag (Nat.le_of_eq hg.symm)) hb); replace me := aa.mk (Kd.Z7 (Kd.V_elderB me.out ag (Nat.le_of_eq hg.symm)) hb); have ab := aa.mk (hbox); have bo := aa.mk ((by rw [hg]; exact (Qc bB) : w.heap.size ≤ ag)); have aV := aa.mk ((by rw [hg]; exact (Qc bB) : w.heap.size ≤ ag)); replace HB := aa.mk (Qa bB hb); clear hb hbox hg))
 (try simp only [Act.put, zA, zB, zC])
 go_cut [27] (fun v27 wc => ∃ (kq : Nat) (m7 : Bool), v27 = .bool m7 ∧ aa (Qe.j0 kq m7 ae af = some r) ∧ aa (kq ≤ k) ∧ aa (Kd.V (Kd.slice 3 (Kd.int .i64)) 28 wc w.heap.size (fun k_ => ((cJ k_ ∨ cI k_) ∨ w.heap.size ≤ k_) ∧ k_ ≠ ag) (.slice ak ae.length an) ae) ∧ aa (Kd.V (Kd.slice 3 (Kd.int .i64)) 28 wc w.heap.size (fun k_ => ((cJ k_ ∨ cI k_) ∨ w.heap.size ≤ k_) ∧ k_ ≠ ag) (.slice aj af.length al) af) ∧ aa (wc.heap[ag]? = some (.cells #[(.slice ak ae.length an), (.slice aj af.length al)] 24 (0, 0))) ∧ aa (Below w.heap.size w wc))
 case first =>
  have H := HC2.out; clear HC2; replace H := Option.bind_eq_some_iff.mp H; obtain ⟨t102, A40, H⟩ := H; replace H : (if t102 = true then ((QQ.f (af.length : Int) 1 3).bind fun t103 => (if t103 = true then (if 0 < (ae.length : Int) then ((QQ.f ((Qu ae 0).length : Int) 1 4).bind fun t105 => (Qe.j0 k (!t105) ae af)) else (none)) else (Qe.j0 k true ae af))) else (Qe.j0 k true ae af)) = some r := H; have A4 := aa.mk A40; clear A40; by_cases c5 : t102 = true
  ·subst c5; have H1 : ((QQ.f (af.length : Int) 1 3).bind fun t103 => (if t103 = true then (if 0 < (ae.length : Int) then ((QQ.f ((Qu ae 0).length : Int) 1 4).bind fun t105 => (Qe.j0 k (!t105) ae af)) else (none)) else (Qe.j0 k true ae af))) = some r := by rw [if_pos rfl] at H; exact H
   clear H; have H := H1; clear H1; replace H := Option.bind_eq_some_iff.mp H; obtain ⟨t103, A60, H⟩ := H; replace H : (if t103 = true then (if 0 < (ae.length : Int) then ((QQ.f ((Qu ae 0).length : Int) 1 4).bind fun t105 => (Qe.j0 k (!t105) ae af)) else (none)) else (Qe.j0 k true ae af)) = some r := H; have A6 := aa.mk A60; clear A60; by_cases c7 : t103 = true
   ·subst c7; have H1 : (if 0 < (ae.length : Int) then ((QQ.f ((Qu ae 0).length : Int) 1 4).bind fun t105 => (Qe.j0 k (!t105) ae af)) else (none)) = some r := by rw [if_pos rfl] at H; exact H
    clear H; have H := H1; clear H1; by_cases c8 : 0 < (ae.length : Int)
    ·rw [if_pos c8] at H; have dQ : decide (0 < (ae.length : Int)) = true := decide_eq_true c8; have iU : decide (0 < ae.length) = true := decide_eq_true (by omega); clear c8; (first | rw [dQ] | (simp only [Qy, QB]; rw [dQ]) | skip)
     replace H := Option.bind_eq_some_iff.mp H; obtain ⟨t105, A90, H⟩ := H; replace H : (Qe.j0 k (!t105) ae af) = some r := H; have A9 := aa.mk A90; clear A90; have H' := aa.mk H; clear H; have da : w3.cell? ⟨ag, 0, none⟩ = some (.slice ak ae.length an) := (Qd ab.out 0).trans rfl; have cZ : w3.cell? ⟨ag, 1, none⟩ = some (.slice aj af.length al) := (Qd ab.out 1).trans rfl; have cW := Qb ab.out 0; have cV := Qb ab.out 1; go_wp2_with (first | ((with_reducible refine Qg (f := 99) rfl ?_); refine QG (some 10) rfl rfl Try.func99 (by kernel_rfl) rfl #[.int .i64 (ae.length : Int), .int .i64 1, .int .i64 3] rfl hA ?_; (with_reducible refine (QQ.calls (ae.length : Int) 1 3 true _ A4.out).mono ?_); rintro e w' ⟨rfl, ⟨nd, rfl⟩⟩; refine ⟨_, rfl, ?_⟩) | (go_at_call 99; (with_reducible refine (QQ.calls (af.length : Int) 1 3 true _ A6.out).mono ?_); rintro e w' ⟨rfl, ⟨nd, rfl⟩⟩; have fZ : 0 ≤ (0 : Int) := (by omega); have fX : 0 < (ae.length : Int) := of_decide_eq_true (by assumption); obtain ⟨rU, tV, tB, o7, bY, iv, iz⟩ := ZO (Kd.Z9 jg.out).2.2 0 fZ fX; cases o7; obtain ⟨zV, sN, sU, oJ⟩ := Kd.V_get jg.out [] 0 fZ (by first | exact fX | exact of_decide_eq_true (by assumption) | (have e_ := (Kd.Z9 jg.out).1; omega)); obtain ⟨wz, wo, rfl, kD, k6⟩ := Kd.Zs sU; have jx := oJ 0 _ rfl; rw [Nat.add_zero, show ((Kd.slice 3 (Kd.int .i64))).sz = 1 from rfl, Nat.mul_one] at jx; replace jx := Option.some.inj (jx.symm.trans bY); injection jx with hva_ hvn_ hvc_; rw [hva_] at k6; rw [hvc_] at kD; have xK := aa.mk (show Kd.V (Kd.int .i64) 3 _ w.heap.size _ _ (Qu ae 0) from Kd.V_mk kD k6); clear hva_ hvn_ hvc_ k6 kD; clear oJ sN; have ub : (0 < ae.length) = True := eq_true (by omega); (try rw [show ((0 : Int)).toNat = 0 from rfl] at bY); (try rw [Addr.add_zero'] at bY); have qS := aa.mk iz; have qZ := aa.mk iv; clear iz iv; replace fZ := eq_true fZ; replace fX := eq_true fX) | (go_at_call 99; (with_reducible refine (QQ.calls ((Qu ae 0).length : Int) 1 4 t105 _ A9.out).mono ?_); rintro e w' ⟨rfl, ⟨nd, rfl⟩⟩))
     go_meet
     case rel => exact ⟨_, (!t105), (by first | rfl | (simp; done) | (simp [*]; done)), H', ⟨by first | omega | exact Nat.le_refl _⟩, ⟨by (with_reducible repeat (first | apply Kd.V_alloc | apply Kd.ZL | apply Kd.ZI)); exact jg.out⟩, ⟨by (with_reducible repeat (first | apply Kd.V_alloc | apply Kd.ZL | apply Kd.ZI)); exact me.out⟩, ⟨by (with_reducible repeat (first | refine QC ?_ _ | refine QE ?_ | refine Qz ?_ _)); exact ab.out⟩, ⟨bB⟩⟩
    ·rw [if_neg c8] at H; exact absurd H (by simp)
   ·replace c7 := Bool.eq_false_iff.mpr c7; subst c7; have H1 : (Qe.j0 k true ae af) = some r := by rw [if_neg (show ¬ (false = true) by decide)] at H; exact H
    clear H; have H := H1; clear H1; have H' := aa.mk H; clear H; have cY : w3.cell? ⟨ag, 0, none⟩ = some (.slice ak ae.length an) := (Qd ab.out 0).trans rfl; have cX : w3.cell? ⟨ag, 1, none⟩ = some (.slice aj af.length al) := (Qd ab.out 1).trans rfl; have cU := Qb ab.out 0; have cT := Qb ab.out 1; go_wp2_with (first | ((with_reducible refine Qg (f := 99) rfl ?_); refine QG (some 10) rfl rfl Try.func99 (by kernel_rfl) rfl #[.int .i64 (ae.length : Int), .int .i64 1, .int .i64 3] rfl hA ?_; (with_reducible refine (QQ.calls (ae.length : Int) 1 3 true _ A4.out).mono ?_); rintro e w' ⟨rfl, ⟨nd, rfl⟩⟩; refine ⟨_, rfl, ?_⟩) | (go_at_call 99; (with_reducible refine (QQ.calls (af.length : Int) 1 3 false _ A6.out).mono ?_); rintro e w' ⟨rfl, ⟨nd, rfl⟩⟩))
    go_meet
    case rel => exact ⟨_, (true), (by first | rfl | (simp; done) | (simp [*]; done)), H', ⟨by first | omega | exact Nat.le_refl _⟩, ⟨by (with_reducible repeat (first | apply Kd.V_alloc | apply Kd.ZL | apply Kd.ZI)); exact jg.out⟩, ⟨by (with_reducible repeat (first | apply Kd.V_alloc | apply Kd.ZL | apply Kd.ZI)); exact me.out⟩, ⟨by (with_reducible repeat (first | refine QC ?_ _ | refine QE ?_ | refine Qz ?_ _)); exact ab.out⟩, ⟨bB⟩⟩
  ·replace c5 := Bool.eq_false_iff.mpr c5; subst c5; have H1 : (Qe.j0 k true ae af) = some r := by rw [if_neg (show ¬ (false = true) by decide)] at H; exact H
   clear H; have H := H1; clear H1; have H' := aa.mk H; clear H; have dU : w3.cell? ⟨ag, 0, none⟩ = some (.slice ak ae.length an) := (Qd ab.out 0).trans rfl; have dT : w3.cell? ⟨ag, 1, none⟩ = some (.slice aj af.length al) := (Qd ab.out 1).trans rfl; have dS := Qb ab.out 0; have dR := Qb ab.out 1; go_wp2_with (first | ((with_reducible refine Qg (f := 99) rfl ?_); refine QG (some 10) rfl rfl Try.func99 (by kernel_rfl) rfl #[.int .i64 (ae.length : Int), .int .i64 1, .int .i64 3] rfl hA ?_; (with_reducible refine (QQ.calls (ae.length : Int) 1 3 false _ A4.out).mono ?_); rintro e w' ⟨rfl, ⟨nd, rfl⟩⟩; refine ⟨_, rfl, ?_⟩))
   go_meet
   case rel => exact ⟨_, (true), (by first | rfl | (simp; done) | (simp [*]; done)), H', ⟨by first | omega | exact Nat.le_refl _⟩, ⟨by (with_reducible repeat (first | apply Kd.V_alloc | apply Kd.ZL | apply Kd.ZI)); exact jg.out⟩, ⟨by (with_reducible repeat (first | apply Kd.V_alloc | apply Kd.ZL | apply Kd.ZI)); exact me.out⟩, ⟨by (with_reducible repeat (first | refine QC ?_ _ | refine QE ?_ | refine Qz ?_ _)); exact ab.out⟩, ⟨bB⟩⟩
 case rest =>
  clear HC2; try clear c1
  try clear p1
  try clear q1
  try clear hx1
  try clear qi1
  try clear p2
  try clear c5
  try clear c7
  try clear c8
  try clear dQ
  try clear iU
  try clear c9
  try clear c10
  try clear p10
  try clear q10
  try clear hZ
  try clear ly
  try clear da
  try clear cZ
  try clear cY
  try clear cX
  try clear dU
  try clear dT
  try clear cW
  try clear cV
  try clear cU
  try clear cT
  try clear dS
  try clear dR
  try clear bY
  try clear fZ
  try clear fX
  obtain ⟨kq, m7, rfl, HA, HJ1, aJ, ba, ab, HB⟩ := hcut; cases kq with
  | zero => exact absurd HA.out (by simp [Qe.j0])
  | succ kj1 =>
   have H := HA.out; clear HA; simp only [Qe.j0] at H; by_cases c13 : m7 = true
   ·subst c13; have H1 : (some 1) = some r := by rw [if_pos rfl] at H; exact H
    clear H; have H := H1; clear H1; obtain rfl := Option.some.inj H; go_wp2; go_ret; exact ⟨by first | rfl | (simp [Qj, Qi] <;> rfl) | (simp [*, Qj, Qi] <;> rfl), bB⟩
   ·replace c13 := Bool.eq_false_iff.mpr c13; subst c13; have H1 : ((some (([] : List (List Int)) : List (List Int))).bind fun gi => (if gi.length + ae.length < 5864062014805 then ((some (gi ++ ae : List (List Int))).bind fun eQ => (if eQ.length + af.length < 5864062014805 then (Qe.l0 kj1 (eQ ++ af) 0 ae af) else (none))) else (none))) = some r := by rw [if_neg (show ¬ (false = true) by decide)] at H; exact H
    clear H; have H := H1; clear H1; obtain ⟨gi, gy⟩ : ∃ y_ : List (List Int), y_ = (([] : List (List Int))) := ⟨_, rfl⟩; replace H : (if gi.length + ae.length < 5864062014805 then ((some (gi ++ ae : List (List Int))).bind fun eQ => (if eQ.length + af.length < 5864062014805 then (Qe.l0 kj1 (eQ ++ af) 0 ae af) else (none))) else (none)) = some r := by first | (rw [gy]; with_reducible exact H) | (have H2_ := (Option.bind_some _ _).symm.trans H; rw [gy]; with_reducible exact H2_) | (have H2_ := (Option.bind_some _ _).symm.trans H; with_reducible exact H2_) | with_reducible exact H | (rw [gy]; exact H) | exact H
    have nN := aa.mk gy; clear gy; by_cases c14 : gi.length + ae.length < 5864062014805
    ·rw [if_pos c14] at H; have nO := aa.mk c14; clear c14; obtain ⟨eQ, dZ⟩ : ∃ y_ : List (List Int), y_ = (gi ++ ae) := ⟨_, rfl⟩; replace H : (if eQ.length + af.length < 5864062014805 then (Qe.l0 kj1 (eQ ++ af) 0 ae af) else (none)) = some r := by first | (rw [dZ]; with_reducible exact H) | (have H2_ := (Option.bind_some _ _).symm.trans H; rw [dZ]; with_reducible exact H2_) | (have H2_ := (Option.bind_some _ _).symm.trans H; with_reducible exact H2_) | with_reducible exact H | (rw [dZ]; exact H) | exact H
     have l9 := aa.mk dZ; clear dZ; by_cases c15 : eQ.length + af.length < 5864062014805
     ·rw [if_pos c15] at H; have pq := aa.mk c15; clear c15; obtain ⟨bM, lL⟩ : ∃ y_ : List (List Int), y_ = (eQ ++ af) := ⟨_, rfl⟩; replace H : (Qe.l0 kj1 bM 0 ae af) = some r := by first | (rw [lL]; with_reducible exact H) | (have H2_ := (Option.bind_some _ _).symm.trans H; rw [lL]; with_reducible exact H2_) | (have H2_ := (Option.bind_some _ _).symm.trans H; with_reducible exact H2_) | with_reducible exact H | (rw [lL]; exact H) | exact H
      have vu := aa.mk lL; clear lL; have H' := aa.mk H; clear H; try go_wp2
      replace aJ := aa.mk (Kd.ZI aJ.out); replace ba := aa.mk (Kd.ZI ba.out); replace ab := aa.mk (QE ab.out); replace HB := aa.mk (QP HB.out); refine Yt (n := 8) (S := fun w' => w'.cell? ⟨ag, 0, none⟩ = some (.slice ak ae.length an) ∧ w'.cell? ⟨ag, 1, none⟩ = some (.slice aj af.length al)) (ds := []) #[false, false, false, false, false, false, false, false] (by kernel_rfl) rfl rfl ⟨(Qd ab.out 0).trans rfl, (Qd ab.out 1).trans rfl⟩ (fun hHeld => ?_); refine ZV Qe.tab3 Qe.bits3 (fun HT_ HW_ => ?_); generalize wc.drew = w16 at aJ ba ab HB hHeld ⊢; refine QX (i := 1) (N := some 29) (v := ?_) (a' := ?_) #[false, true, false, false, false, false, false, false] rfl rfl (QK HT_.out (by kernel_rfl)) (fun _ _ _ h => h) (Or.inl ⟨by rfl, ?_⟩) ?_ ?_; rotate_left
      ·intro w'; go_simp; with_reducible rfl
      rotate_left
      ·simp only [Act.put, zA, zB, zC, Qy, QB]; rfl
      refine QX (i := 4) (N := some 32) (v := ?_) (a' := ?_) #[false, true, false, false, true, false, false, false] rfl rfl (QK HT_.out (by kernel_rfl)) (fun _ _ _ h => h) (Or.inl ⟨by rfl, ?_⟩) ?_ ?_; rotate_left
      ·intro w'; go_simp; with_reducible rfl
      rotate_left
      ·simp only [Act.put, zA, zB, zC, Qy, QB]; rfl
      refine ZU (i := 2) (N := some 30) (v := ?_) (a' := ?_) #[false, true, true, false, true, false, false, false] rfl rfl (Zp HT_.out HW_.out (by kernel_rfl)) (fun _ _ _ h => h) (Or.inl ⟨by rfl, ?_⟩) hHeld ?_ ?_; rotate_left
      ·rintro w' ⟨s0, s1⟩; go_simp; with_reducible rfl
      rotate_left
      ·simp only [Act.put, zA, zB, zC, Qy, QB]; rfl
      refine ZU (i := 5) (N := some 33) (v := ?_) (a' := ?_) #[false, true, true, false, true, true, false, false] rfl rfl (Zp HT_.out HW_.out (by kernel_rfl)) (fun _ _ _ h => h) (Or.inl ⟨by rfl, ?_⟩) hHeld ?_ ?_; rotate_left
      ·rintro w' ⟨s0, s1⟩; go_simp; with_reducible rfl
      rotate_left
      ·simp only [Act.put, zA, zB, zC, Qy, QB]; rfl
      refine one_ (i := 0) (N := some 28) #[true, true, true, false, true, true, false, false] rfl rfl (ZT HT_.out (by kernel_rfl)) (by decide) (fun K hK => ?_); refine Kd.VH (Kd.slice 3 (Kd.int .i64)) _ 28 ?hg (N' := 28) ?hd (xs := ([] : List (List Int))) (inner := []) (ok := (fun k_ => ((cJ k_ ∨ cI k_) ∨ w.heap.size ≤ k_) ∧ k_ ≠ ag)) (okp := (fun k_ => ((cJ k_ ∨ cI k_) ∨ w.heap.size ≤ k_) ∧ k_ ≠ ag)) ?hr ?hp (fun _ hk => hk) ((show ∀ k_, w16.heap.size ≤ k_ → (fun k_ => ((cJ k_ ∨ cI k_) ∨ w.heap.size ≤ k_) ∧ k_ ≠ ag) k_ from fun k_ hk => ⟨(.inr (Nat.le_trans (Qc bB) hk)), Kd.freshB (g := ag) (o := .cells #[.slice ak ae.length an, .slice aj af.length al] 24 (0, 0)) (by (with_reducible repeat (first | refine QC ?_ _ | refine QE ?_ | refine Qz ?_ _)); exact ab.out) k_ hk⟩) _ (Nat.le_refl _)) (Below.refl _ _) (Nat.le_refl _) (by simp) ?_; (case hd => rfl); (case hg => rfl); (case hr => first | (go_simp; done) | (go_simp; rfl)); (case hp => exact (Reps.none _ _)); intro n4 w17 gf hb hg_ hnew_; clear hg_ hnew_; (first | rw [← nN.out] at gf | (simp only [Int.reduceToNat] at gf; rw [← nN.out] at gf))
      replace aJ := aa.mk (Kd.ZX aJ.out (Kd.Z8 gf) hb); replace ba := aa.mk (Kd.ZX ba.out (Kd.Z8 gf) hb); have eh := aa.mk (Kd.Yj gf (Qc bB)); replace ab := aa.mk (Qq ab.out hb); replace HB := aa.mk (Qa bB hb); clear hb gf; refine hK.out _ _ ⟨(Qd ab.out 0).trans rfl, (Qd ab.out 1).trans rfl⟩ (fun hHeld => ?_); clear hK K; refine Yc (a' := ?_) ?_ ?_; rotate_left
      ·show Act.put _ (some 28) _ = _
       simp only [Act.put, zA, zB, zC, Qy, QB]; rfl
      refine one_ (i := 3) (N := some 31) #[true, true, true, true, true, true, false, false] rfl rfl (ZT HT_.out (by kernel_rfl)) (by decide) (fun K hK => ?_); refine Kd.ZZ (Kd.slice 3 (Kd.int .i64)) (w0 := w) w.heap.size (by rfl) (.tmp 28) (.tmp 30) 22 28 (.slice none 0 0) 24 rfl Try.underlying22 info28 rfl (by decide) (by omega) n4 gi ae _ _ _ (fun k_ => ((cJ k_ ∨ cI k_) ∨ w.heap.size ≤ k_) ∧ k_ ≠ ag) (fun k_ => ((fun k_ => ((cJ k_ ∨ cI k_) ∨ w.heap.size ≤ k_) ∧ k_ ≠ ag)) k_ ∧ some k_ ≠ (n4 : Value).ownBlock) rfl rfl ?aO ?aR (fun _ hk => hk) ?aF ?aB ?aS ?aL ?_; (case aR => exact (by skip; exact Kd.V_F (Kd.Z6 (ok' := (fun k_ => ((fun k_ => ((cJ k_ ∨ cI k_) ∨ w.heap.size ≤ k_) ∧ k_ ≠ ag)) k_ ∧ some k_ ≠ (n4 : Value).ownBlock)) (aJ.out) (fun k_ hk => ⟨⟨hk.1.1, hk.1.2⟩, hk.2⟩))))
      (case aB => exact bB)
      (case aF => exact (fun k_ hk => ⟨(.inr (Nat.le_trans (Qc bB) hk)), Kd.freshB (g := ag) (o := .cells #[.slice ak ae.length an, .slice aj af.length al] 24 (0, 0)) (by (with_reducible repeat (first | refine QC ?_ _ | refine QE ?_ | refine Qz ?_ _)); exact ab.out) k_ hk⟩))
      (case aO => exact eh.out)
      (case aS => exact (Qc bB))
      (case aL => have := nO.out; omega)
      intro mg w19 ho hb hg hat; rw [← l9.out] at ho; replace aJ := aa.mk (Kd.ZF (ok := (fun k_ => ((cJ k_ ∨ cI k_) ∨ w.heap.size ≤ k_) ∧ k_ ≠ ag)) aJ.out hg hat); replace ba := aa.mk (Kd.ZF (ok := (fun k_ => ((cJ k_ ∨ cI k_) ∨ w.heap.size ≤ k_) ∧ k_ ≠ ag)) ba.out hg hat); replace ab := aa.mk (Yl (g := ag) (o := .cells #[.slice ak ae.length an, .slice aj af.length al] 24 (0, 0)) (by (with_reducible repeat (first | refine QC ?_ _ | refine QE ?_ | refine Qz ?_ _)); exact ab.out) hg (Kd.N_ne eh.out ab.out (by decide))); replace HB := aa.mk (hb); have di := aa.mk (ho); clear eh; clear ho hb hg hat; refine hK.out _ _ ⟨(Qd ab.out 0).trans rfl, (Qd ab.out 1).trans rfl⟩ (fun hHeld => ?_); clear hK K; refine Yc (a' := ?_) ?_ ?_; rotate_left
      ·show Act.put _ (some 31) _ = _
       simp only [Act.put, zA, zB, zC, Qy, QB]; rfl
      refine one_ (i := 6) (N := some 34) #[true, true, true, true, true, true, true, false] rfl rfl (ZT HT_.out (by kernel_rfl)) (by decide) (fun K hK => ?_); refine Kd.ZZ (Kd.slice 3 (Kd.int .i64)) (w0 := w) w.heap.size (by rfl) (.tmp 31) (.tmp 33) 22 28 (.slice none 0 0) 24 rfl Try.underlying22 info28 rfl (by decide) (by omega) mg eQ af _ _ _ (fun k_ => ((cJ k_ ∨ cI k_) ∨ w.heap.size ≤ k_) ∧ k_ ≠ ag) (fun k_ => ((fun k_ => ((cJ k_ ∨ cI k_) ∨ w.heap.size ≤ k_) ∧ k_ ≠ ag)) k_ ∧ some k_ ≠ (mg : Value).ownBlock) rfl rfl ?aO ?aR (fun _ hk => hk) ?aF ?aB ?aS ?aL ?_; (case aR => exact (by skip; exact Kd.V_F (Kd.Z6 (ok' := (fun k_ => ((fun k_ => ((cJ k_ ∨ cI k_) ∨ w.heap.size ≤ k_) ∧ k_ ≠ ag)) k_ ∧ some k_ ≠ (mg : Value).ownBlock)) (ba.out) (fun k_ hk => ⟨⟨hk.1.1, hk.1.2⟩, hk.2⟩))))
      (case aB => exact bB)
      (case aF => exact (fun k_ hk => ⟨(.inr (Nat.le_trans (Qc bB) hk)), Kd.freshB (g := ag) (o := .cells #[.slice ak ae.length an, .slice aj af.length al] 24 (0, 0)) (by (with_reducible repeat (first | refine QC ?_ _ | refine QE ?_ | refine Qz ?_ _)); exact ab.out) k_ hk⟩))
      (case aO => exact di.out)
      (case aS => exact (Qc bB))
      (case aL => have := pq.out; omega)
      intro om w20 ho hb hg hat; rw [← vu.out] at ho; replace aJ := aa.mk (Kd.ZF (ok := (fun k_ => ((cJ k_ ∨ cI k_) ∨ w.heap.size ≤ k_) ∧ k_ ≠ ag)) aJ.out hg hat); replace ba := aa.mk (Kd.ZF (ok := (fun k_ => ((cJ k_ ∨ cI k_) ∨ w.heap.size ≤ k_) ∧ k_ ≠ ag)) ba.out hg hat); replace ab := aa.mk (Yl (g := ag) (o := .cells #[.slice ak ae.length an, .slice aj af.length al] 24 (0, 0)) (by (with_reducible repeat (first | refine QC ?_ _ | refine QE ?_ | refine Qz ?_ _)); exact ab.out) hg (Kd.N_ne di.out ab.out (by decide))); replace HB := aa.mk (hb); have b7 := aa.mk (ho); clear di; clear ho hb hg hat; refine hK.out _ _ ⟨(Qd ab.out 0).trans rfl, (Qd ab.out 1).trans rfl⟩ (fun hHeld => ?_); clear hK K; refine Yc (a' := ?_) ?_ ?_; rotate_left
      ·show Act.put _ (some 34) _ = _
       simp only [Act.put, zA, zB, zC, Qy, QB]; rfl
      refine QX (i := 7) (N := some 3) (v := ?_) (a' := ?_) #[true, true, true, true, true, true, true, true] rfl rfl (QK HT_.out (by kernel_rfl)) (fun _ _ _ h => h) (Or.inl ⟨by rfl, ?_⟩) ?_ ?_; rotate_left
      ·intro w'; go_simp; with_reducible rfl
      rotate_left
      ·simp only [Act.put, zA, zB, zC, Qy, QB]; rfl
      refine YM (Yi HT_.out (by kernel_rfl)) ?_; try go_wp2
      go_loopg [4] kj1 (fun kq v4 w' => ∃ (aD : Int), v4 = .int .i64 aD ∧ aa (Qe.l0 kq bM aD ae af = some r) ∧ aa (kq ≤ kj1) ∧ aa (Kd.N (Kd.slice 3 (Kd.int .i64)) 28 w' w.heap.size (fun k_ => ((cJ k_ ∨ cI k_) ∨ w.heap.size ≤ k_) ∧ k_ ≠ ag) om bM) ∧ aa (Kd.V (Kd.slice 3 (Kd.int .i64)) 28 w' w.heap.size (fun k_ => ((cJ k_ ∨ cI k_) ∨ w.heap.size ≤ k_) ∧ some k_ ≠ (om : Value).ownBlock ∧ k_ ≠ ag) (.slice ak ae.length an) ae) ∧ aa (Kd.V (Kd.slice 3 (Kd.int .i64)) 28 w' w.heap.size (fun k_ => ((cJ k_ ∨ cI k_) ∨ w.heap.size ≤ k_) ∧ some k_ ≠ (om : Value).ownBlock ∧ k_ ≠ ag) (.slice aj af.length al) af) ∧ aa (w'.heap[ag]? = some (.cells #[(.slice ak ae.length an), (.slice aj af.length al)] 24 (0, 0))) ∧ aa (Below w.heap.size w w'))
      case atStart => exact ⟨(0), (by first | rfl | (simp; done) | (simp [*]; done)), H', ⟨Nat.le_refl _⟩, ⟨by (with_reducible repeat (first | apply Kd.N_alloc | apply Kd.Ye | apply Kd.Yn)); exact b7.out⟩, ⟨by (with_reducible repeat (first | apply Kd.V_alloc | apply Kd.ZL | apply Kd.ZI)); exact Kd.Z6 aJ.out (fun _ hk => ⟨hk.1.1, ⟨hk.2, hk.1.2⟩⟩)⟩, ⟨by (with_reducible repeat (first | apply Kd.V_alloc | apply Kd.ZL | apply Kd.ZI)); exact Kd.Z6 ba.out (fun _ hk => ⟨hk.1.1, ⟨hk.2, hk.1.2⟩⟩)⟩, ⟨by (with_reducible repeat (first | refine QC ?_ _ | refine QE ?_ | refine Qz ?_ _)); exact ab.out⟩, ⟨bB⟩⟩
      case round =>
       clear H'; try clear c1
       try clear p1
       try clear q1
       try clear hx1
       try clear qi1
       try clear p2
       try clear c5
       try clear c7
       try clear c8
       try clear dQ
       try clear iU
       try clear c9
       try clear c10
       try clear p10
       try clear q10
       try clear hZ
       try clear ly
       try clear c13
       try clear c14
       try clear c15
       try clear da
       try clear cZ
       try clear cY
       try clear cX
       try clear dU
       try clear dT
       try clear cW
       try clear cV
       try clear cU
       try clear cT
       try clear dS
       try clear dR
       try clear bY
       try clear p1
       try clear p10
       try clear fZ
       try clear p2
       try clear q1
       try clear q10
       try clear fX
       obtain ⟨aD, rfl, HA, HK2, a9, aJ, ba, ab, HB⟩ := hrel; cases gk with
       | zero => exact absurd HA.out (by simp [Qe.l0])
       | succ k2 =>
        have H := HA.out; clear HA; simp only [Qe.l0] at H; by_cases c21 : aD < (bM.length : Int)
        ·rw [if_pos c21] at H; have iZ : decide (aD < (bM.length : Int)) = true := decide_eq_true c21; clear c21; by_cases c22 : 0 ≤ aD
         ·rw [if_pos c22] at H; have lY : decide (0 ≤ aD) = true := decide_eq_true c22; clear c22; by_cases c23 : 0 < (ae.length : Int)
          ·rw [if_pos c23] at H; have rN : decide (0 < (ae.length : Int)) = true := decide_eq_true c23; have vn : decide (0 < ae.length) = true := decide_eq_true (by omega); clear c23; by_cases c24 : ((Qu bM aD).length : Int) = ((Qu ae 0).length : Int)
           ·rw [if_pos c24] at H; have pd : (((Qu bM aD).length : Int) == ((Qu ae 0).length : Int)) = true := beq_iff_eq.mpr c24; have rM : (((Qu bM aD).length : Int) != ((Qu ae 0).length : Int)) = false := bne_eq_false_iff_eq.mpr c24; have rL : ((Qu bM aD).length == (Qu ae 0).length) = true := by first | simpa using c24 | (simp at c24 ⊢; omega)
            clear c24; have H' := aa.mk H; clear H; obtain ⟨zG, qO, qG⟩ := Kd.Yb a9.out; subst qG; try go_wp2
            replace a9 := aa.mk (Kd.Yn a9.out); replace aJ := aa.mk (Kd.ZI aJ.out); replace ba := aa.mk (Kd.ZI ba.out); replace ab := aa.mk (QE ab.out); replace HB := aa.mk (QP HB.out); have hY : 0 ≤ (aD : Int) := of_decide_eq_true (by assumption); have hU : aD < (bM.length : Int) := of_decide_eq_true (by assumption); obtain ⟨ew, kg, lb, oX, cQ, eW, eZ⟩ := ZO (Kd.Zi a9.out).2.2 aD hY hU; cases oX; obtain ⟨uY, mI, mL, jZ⟩ := Kd.Y2 a9.out [] aD hY (by first | exact hU | exact of_decide_eq_true (by assumption) | (have e_ := (Kd.Zi a9.out).1; omega)); obtain ⟨pQ, pN, rfl, fz, fO⟩ := Kd.Zs mL; have eD := jZ 0 _ rfl; rw [Nat.add_zero, show ((Kd.slice 3 (Kd.int .i64))).sz = 1 from rfl, Nat.mul_one] at eD; replace eD := Option.some.inj (eD.symm.trans cQ); injection eD with hva_ hvn_ hvc_
            rw [hva_] at fO; rw [hvc_] at fz; have ll := aa.mk (show Kd.V (Kd.int .i64) 3 _ w.heap.size _ _ (Qu bM aD) from Kd.V_mk fz fO); clear hva_ hvn_ hvc_ fO fz; clear jZ mI; have dV := aa.mk eZ; have nW := aa.mk eW; clear eZ eW; replace hY := eq_true hY; replace hU := eq_true hU; have eT : 0 ≤ (0 : Int) := (by omega); have eS : 0 < (ae.length : Int) := of_decide_eq_true (by assumption); obtain ⟨fU, lr, mU, la, b8, ir, ix⟩ := ZO (Kd.Z9 aJ.out).2.2 0 eT eS; cases la; obtain ⟨uX, mH, mK, jY⟩ := Kd.V_get aJ.out [] 0 eT (by first | exact eS | exact of_decide_eq_true (by assumption) | (have e_ := (Kd.Z9 aJ.out).1; omega)); obtain ⟨pP, pM, rfl, fy, fN⟩ := Kd.Zs mK; have eC := jY 0 _ rfl; rw [Nat.add_zero, show ((Kd.slice 3 (Kd.int .i64))).sz = 1 from rfl, Nat.mul_one] at eC; replace eC := Option.some.inj (eC.symm.trans b8); injection eC with hva_ hvn_ hvc_
            rw [hva_] at fN; rw [hvc_] at fy; have lh := aa.mk (show Kd.V (Kd.int .i64) 3 _ w.heap.size _ _ (Qu ae 0) from Kd.V_mk fy fN); clear hva_ hvn_ hvc_ fN fy; clear jY mH; have ua : (0 < ae.length) = True := eq_true (by omega); (try rw [show ((0 : Int)).toNat = 0 from rfl] at b8)
            (try rw [Addr.add_zero'] at b8)
            have fb := aa.mk ix; have qX := aa.mk ir; clear ix ir; replace eT := eq_true eT; replace eS := eq_true eS; refine Yt (n := 11) (S := fun w' => w'.cell? ⟨ag, 0, none⟩ = some (.slice (some fU) ae.length an) ∧ w'.cell? ⟨ag, 1, none⟩ = some (.slice aj af.length al) ∧ w'.cell? (ew.add (aD).toNat) = some (.slice kg (Qu bM aD).length lb) ∧ w'.cell? fU = some (.slice lr (Qu ae 0).length mU)) (ds := []) #[false, false, false, false, false, false, false, false, false, false, false] (by kernel_rfl) rfl rfl ⟨(Qd ab.out 0).trans rfl, (Qd ab.out 1).trans rfl, cQ, b8⟩ (fun hHeld => ?_); refine ZV Qe.tab7 Qe.bits7 (fun HT_ HW_ => ?_); generalize wr.drew = w26 at a9 aJ ba ab HB ll lh dV fb cQ b8 hHeld ⊢; refine QX (i := 0) (N := some 41) (v := ?_) (a' := ?_) #[true, false, false, false, false, false, false, false, false, false, false] rfl rfl (QK HT_.out (by kernel_rfl)) (fun _ _ _ h => h) (Or.inl ⟨by rfl, ?_⟩) ?_ ?_; rotate_left
            ·intro w'; go_simp; with_reducible rfl
            rotate_left
            ·simp only [Act.put, zA, zB, zC, Qy, QB]; rfl
            refine QX (i := 1) (N := some 42) (v := ?_) (a' := ?_) #[true, true, false, false, false, false, false, false, false, false, false] rfl rfl (QK HT_.out (by kernel_rfl)) (fun _ _ _ h => h) (Or.inl ⟨by rfl, ?_⟩) ?_ ?_; rotate_left
            ·intro w'; go_simp; with_reducible rfl
            rotate_left
            ·simp only [Act.put, zA, zB, zC, Qy, QB]; rfl
            refine QX (i := 2) (N := some 43) (v := ?_) (a' := ?_) #[true, true, true, false, false, false, false, false, false, false, false] rfl rfl (QK HT_.out (by kernel_rfl)) (fun _ _ _ h => h) (Or.inl ⟨by rfl, ?_⟩) ?_ ?_; rotate_left
            ·intro w'; go_simp; with_reducible rfl
            rotate_left
            ·simp only [Act.put, zA, zB, zC, Qy, QB]; rfl
            refine QX (i := 5) (N := some 46) (v := ?_) (a' := ?_) #[true, true, true, false, false, true, false, false, false, false, false] rfl rfl (QK HT_.out (by kernel_rfl)) (fun _ _ _ h => h) (Or.inl ⟨by rfl, ?_⟩) ?_ ?_; rotate_left
            ·intro w'; go_simp; with_reducible rfl
            rotate_left
            ·simp only [Act.put, zA, zB, zC, Qy, QB]; rfl
            refine ZU (i := 3) (N := some 44) (v := ?_) (a' := ?_) #[true, true, true, true, false, true, false, false, false, false, false] rfl rfl (Zp HT_.out HW_.out (by kernel_rfl)) (fun _ _ _ h => h) (Or.inl ⟨by rfl, ?_⟩) hHeld ?_ ?_; rotate_left
            ·rintro w' ⟨s0, s1, s2, s3⟩; go_simp; with_reducible rfl
            rotate_left
            ·simp only [Act.put, zA, zB, zC, Qy, QB]; rfl
            refine QX (i := 4) (N := some 45) (v := ?_) (a' := ?_) #[true, true, true, true, true, true, false, false, false, false, false] rfl rfl (QK HT_.out (by kernel_rfl)) (fun _ _ _ h => h) (Or.inl ⟨by rfl, ?_⟩) ?_ ?_; rotate_left
            ·intro w'; go_simp; with_reducible rfl
            rotate_left
            ·simp only [Act.put, zA, zB, zC, Qy, QB]; rfl
            refine ZU (i := 6) (N := some 47) (v := ?_) (a' := ?_) #[true, true, true, true, true, true, true, false, false, false, false] rfl rfl (Zp HT_.out HW_.out (by kernel_rfl)) (fun _ _ _ h => h) (Or.inl ⟨by rfl, ?_⟩) hHeld ?_ ?_; rotate_left
            ·rintro w' ⟨s0, s1, s2, s3⟩; go_simp; with_reducible rfl
            rotate_left
            ·simp only [Act.put, zA, zB, zC, Qy, QB]; rfl
            refine QX (i := 7) (N := some 48) (v := ?_) (a' := ?_) #[true, true, true, true, true, true, true, true, false, false, false] rfl rfl (QK HT_.out (by kernel_rfl)) (fun _ _ _ h => h) (Or.inl ⟨by rfl, ?_⟩) ?_ ?_; rotate_left
            ·intro w'; go_simp; with_reducible rfl
            rotate_left
            ·simp only [Act.put, zA, zB, zC, Qy, QB]; rfl
            refine ZU (i := 8) (N := some 49) (v := ?_) (a' := ?_) #[true, true, true, true, true, true, true, true, true, false, false] rfl rfl (Zp HT_.out HW_.out (by kernel_rfl)) (fun _ _ _ h => h) (Or.inl ⟨by rfl, ?_⟩) hHeld ?_ ?_; rotate_left
            ·rintro w' ⟨s0, s1, s2, s3⟩; go_simp; with_reducible rfl
            rotate_left
            ·simp only [Act.put, zA, zB, zC, Qy, QB]; rfl
            refine QX (i := 9) (N := some 50) (v := ?_) (a' := ?_) #[true, true, true, true, true, true, true, true, true, true, false] rfl rfl (QK HT_.out (by kernel_rfl)) (fun _ _ _ h => h) (Or.inl ⟨by rfl, ?_⟩) ?_ ?_; rotate_left
            ·intro w'; go_simp; with_reducible rfl
            rotate_left
            ·simp only [Act.put, zA, zB, zC, Qy, QB]; rfl
            refine QX (i := 10) (N := some 51) (v := ?_) (a' := ?_) #[true, true, true, true, true, true, true, true, true, true, true] rfl rfl (QK HT_.out (by kernel_rfl)) (fun _ _ _ h => h) (Or.inl ⟨by rfl, ?_⟩) ?_ ?_; rotate_left
            ·intro w'; go_simp; with_reducible rfl
            rotate_left
            ·simp only [Act.put, zA, zB, zC, Qy, QB]; rfl
            refine YM (Yi HT_.out (by kernel_rfl)) ?_; try go_wp2
            go_loopg [5, 6] k2 (fun kq v5 v6 w' => ∃ (jT : Int) (cD : Int), v5 = .int .i64 jT ∧ v6 = .int .i64 cD ∧ aa (Qe.l1 kq bM aD jT cD ae af = some r) ∧ aa (kq ≤ k2) ∧ aa (Kd.N (Kd.slice 3 (Kd.int .i64)) 28 w' w.heap.size (fun k_ => ((cJ k_ ∨ cI k_) ∨ w.heap.size ≤ k_) ∧ k_ ≠ ag) (.slice (some ew) bM.length qO) bM) ∧ aa (Kd.V (Kd.slice 3 (Kd.int .i64)) 28 w' w.heap.size (fun k_ => ((cJ k_ ∨ cI k_) ∨ w.heap.size ≤ k_) ∧ some k_ ≠ ((.slice (some ew) bM.length qO) : Value).ownBlock ∧ k_ ≠ ag) (.slice (some fU) ae.length an) ae) ∧ aa (Kd.V (Kd.slice 3 (Kd.int .i64)) 28 w' w.heap.size (fun k_ => ((cJ k_ ∨ cI k_) ∨ w.heap.size ≤ k_) ∧ some k_ ≠ ((.slice (some ew) bM.length qO) : Value).ownBlock ∧ k_ ≠ ag) (.slice aj af.length al) af) ∧ aa (w'.heap[ag]? = some (.cells #[(.slice (some fU) ae.length an), (.slice aj af.length al)] 24 (0, 0))) ∧ aa (Kd.C (Kd.int .i64) w' kg (Qu bM aD).length (Qu bM aD)) ∧ aa (Kd.C (Kd.int .i64) w' lr (Qu ae 0).length (Qu ae 0)) ∧ aa (Below w.heap.size w w'))
            case atStart => exact ⟨(0), (0), (by first | rfl | (simp; done) | (simp [*]; done)), (by first | rfl | (simp; done) | (simp [*]; done)), H', ⟨Nat.le_refl _⟩, ⟨by (with_reducible repeat (first | apply Kd.N_alloc | apply Kd.Ye | apply Kd.Yn)); exact a9.out⟩, ⟨by (with_reducible repeat (first | apply Kd.V_alloc | apply Kd.ZL | apply Kd.ZI)); exact aJ.out⟩, ⟨by (with_reducible repeat (first | apply Kd.V_alloc | apply Kd.ZL | apply Kd.ZI)); exact ba.out⟩, ⟨by (with_reducible repeat (first | refine QC ?_ _ | refine QE ?_ | refine Qz ?_ _)); exact ab.out⟩, ⟨by repeat (first | (with_reducible exact dV.out) | (with_reducible refine Kd.C_alloc ?_ _) | (with_reducible refine Kd.ZM ?_ _) | (with_reducible refine Kd.C_drew ?_) | exact dV.out)⟩, ⟨by repeat (first | (with_reducible exact fb.out) | (with_reducible refine Kd.C_alloc ?_ _) | (with_reducible refine Kd.ZM ?_ _) | (with_reducible refine Kd.C_drew ?_) | exact fb.out)⟩, ⟨bB⟩⟩
            case round =>
             clear H'; try clear c1
             try clear p1
             try clear q1
             try clear hx1
             try clear qi1
             try clear c2
             try clear p2
             try clear c5
             try clear c7
             try clear c8
             try clear dQ
             try clear iU
             try clear c9
             try clear c10
             try clear p10
             try clear q10
             try clear hZ
             try clear ly
             try clear c11
             try clear p11
             try clear q11
             try clear sr
             try clear AF
             try clear c13
             try clear c14
             try clear c15
             try clear c21
             try clear iZ
             try clear c22
             try clear lY
             try clear c23
             try clear rN
             try clear vn
             try clear c24
             try clear pd
             try clear rM
             try clear rL
             try clear da
             try clear cZ
             try clear cY
             try clear cX
             try clear dU
             try clear dT
             try clear cW
             try clear cV
             try clear cU
             try clear cT
             try clear dS
             try clear dR
             try clear bY
             try clear cQ
             try clear b8
             try clear p1
             try clear p10
             try clear fZ
             try clear hY
             try clear eT
             try clear p2
             try clear q1
             try clear q10
             try clear fX
             try clear hU
             try clear eS
             obtain ⟨jT, cD, rfl, rfl, HA, HK3, a9, aJ, ba, ab, dV, fb, HB⟩ := hrel; cases gk with
             | zero => exact absurd HA.out (by simp [Qe.l1])
             | succ k3 =>
              have H := HA.out; clear HA; simp only [Qe.l1] at H; by_cases c27 : 0 ≤ aD
              ·rw [if_pos c27] at H; have Ae : decide (0 ≤ aD) = true := decide_eq_true c27; clear c27; by_cases c28 : aD < (bM.length : Int)
               ·rw [if_pos c28] at H; have lX : decide (aD < (bM.length : Int)) = true := decide_eq_true c28; clear c28; by_cases c29 : cD < ((Qu bM aD).length : Int)
                ·rw [if_pos c29] at H; have lW : decide (cD < ((Qu bM aD).length : Int)) = true := decide_eq_true c29; clear c29; by_cases c30 : 0 ≤ cD
                 ·rw [if_pos c30] at H; have nD : decide (0 ≤ cD) = true := decide_eq_true c30; clear c30; replace H := Option.bind_eq_some_iff.mp H; obtain ⟨t120, vZ, H⟩ := H; replace H : (if t120 = true then (Qe.l1 k3 bM aD (wrap64 (jT + (rd (Qu bM aD) cD))) (wrap64 (cD + 1)) ae af) else (some 1)) = some r := H; have A31 := aa.mk vZ; clear vZ; by_cases c32 : t120 = true
                  ·subst c32; have H1 : (Qe.l1 k3 bM aD (wrap64 (jT + (rd (Qu bM aD) cD))) (wrap64 (cD + 1)) ae af) = some r := by rw [if_pos rfl] at H; exact H
                   clear H; have H := H1; clear H1; have H' := aa.mk H; clear H; have eH : 0 ≤ (aD : Int) := of_decide_eq_true (by assumption); have eG : aD < (bM.length : Int) := of_decide_eq_true (by assumption); obtain ⟨jc, m3, mT, k9, cG, dy, dB⟩ := ZO (Kd.Zi a9.out).2.2 aD eH eG; obtain rfl : ew = jc := (by injection k9); obtain ⟨pa, ib, ic, eN⟩ := Kd.Y2 a9.out [] aD eH (by first | exact eG | exact of_decide_eq_true (by assumption) | (have e_ := (Kd.Zi a9.out).1; omega)); obtain ⟨kH, kG, rfl, cA, cB⟩ := Kd.Zs ic; have bZ := eN 0 _ rfl; rw [Nat.add_zero, show ((Kd.slice 3 (Kd.int .i64))).sz = 1 from rfl, Nat.mul_one] at bZ; replace bZ := Option.some.inj (bZ.symm.trans cG); injection bZ with hva_ hvn_ hvc_
                   rw [hva_] at cB; rw [hvc_] at cA; have lg := aa.mk (show Kd.V (Kd.int .i64) 3 _ w.heap.size _ _ (Qu bM aD) from Kd.V_mk cA cB); clear hva_ hvn_ hvc_ cB cA; clear eN ib; have ld := aa.mk dB; have ln := aa.mk dy; clear dB dy; replace eH := eq_true eH; replace eG := eq_true eG; have iM : 0 ≤ (aD : Int) := of_decide_eq_true (by assumption); have iJ : aD < (bM.length : Int) := of_decide_eq_true (by assumption); obtain ⟨l6, tU, tx, oW, dx, iq, iw⟩ := ZO (Kd.Zi a9.out).2.2 aD iM iJ; obtain rfl : ew = l6 := (by injection oW); obtain ⟨uW, mG, mJ, jX⟩ := Kd.Y2 a9.out [] aD iM (by first | exact iJ | exact of_decide_eq_true (by assumption) | (have e_ := (Kd.Zi a9.out).1; omega)); obtain ⟨pO, pL, rfl, fx, fM⟩ := Kd.Zs mJ; have eB := jX 0 _ rfl; rw [Nat.add_zero, show ((Kd.slice 3 (Kd.int .i64))).sz = 1 from rfl, Nat.mul_one] at eB; replace eB := Option.some.inj (eB.symm.trans dx); injection eB with hva_ hvn_ hvc_
                   rw [hva_] at fM; rw [hvc_] at fx; have qT := aa.mk (show Kd.V (Kd.int .i64) 3 _ w.heap.size _ _ (Qu bM aD) from Kd.V_mk fx fM); clear hva_ hvn_ hvc_ fM fx; clear jX mG; have iD := aa.mk iw; have qW := aa.mk iq; clear iw iq; replace iM := eq_true iM; replace iJ := eq_true iJ; have ea_ := Option.some.inj (cG.symm.trans dx); injection ea_ with ea_ en_ ec_
                   subst ea_; subst ec_; clear en_; have mw : 0 ≤ (cD : Int) := of_decide_eq_true (by assumption); have mo : cD < ((Qu bM aD).length : Int) := of_decide_eq_true (by assumption); obtain ⟨vq, tl, pV⟩ := Kd.Zh (by repeat (first | (with_reducible exact iD.out) | (with_reducible refine Kd.C_alloc ?_ _) | (with_reducible refine Kd.ZM ?_ _) | (with_reducible refine Kd.C_drew ?_) | exact iD.out)) cD mw mo; cases tl; replace mw := eq_true mw; replace mo := eq_true mo; go_wp2_with (first | ((with_reducible refine Qg (f := 99) rfl ?_); refine QG (some 68) rfl rfl Try.func99 (by kernel_rfl) rfl #[.int .i64 (rd (Qu bM aD) cD), .int .i64 0, .int .i64 9] rfl hA ?_; (with_reducible refine (QQ.calls (rd (Qu bM aD) cD) 0 9 true _ A31.out).mono ?_); rintro e w' ⟨rfl, ⟨nd, rfl⟩⟩; refine ⟨_, rfl, ?_⟩; have pS : 0 ≤ (aD : Int) := of_decide_eq_true (by assumption); have pR : aD < (bM.length : Int) := of_decide_eq_true (by assumption); obtain ⟨vp, zJ, zj, yZ, nb, ni, np⟩ := ZO (Kd.Zi a9.out).2.2 aD pS pR; obtain rfl : ew = vp := (by injection yZ); obtain ⟨zT, sL, sS, oH⟩ := Kd.Y2 a9.out [] aD pS (by first | exact pR | exact of_decide_eq_true (by assumption) | (have e_ := (Kd.Zi a9.out).1; omega)); obtain ⟨wx, wk, rfl, kB, kZ⟩ := Kd.Zs sS; have jv := oH 0 _ rfl; rw [Nat.add_zero, show ((Kd.slice 3 (Kd.int .i64))).sz = 1 from rfl, Nat.mul_one] at jv; replace jv := Option.some.inj (jv.symm.trans nb); injection jv with hva_ hvn_ hvc_; rw [hva_] at kZ; rw [hvc_] at kB; have xI := aa.mk (show Kd.V (Kd.int .i64) 3 _ w.heap.size _ _ (Qu bM aD) from Kd.V_mk kB kZ); clear hva_ hvn_ hvc_ kZ kB; clear oH sL; have nP := aa.mk np; have xL := aa.mk ni; clear np ni; replace pS := eq_true pS; replace pR := eq_true pR; have ea_ := Option.some.inj (cG.symm.trans nb); injection ea_ with ea_ en_ ec_; subst ea_; subst ec_; clear en_; have mv : 0 ≤ (cD : Int) := of_decide_eq_true (by assumption); have mj : cD < ((Qu bM aD).length : Int) := of_decide_eq_true (by assumption); obtain ⟨ph, tj, pU⟩ := Kd.Zh (by repeat (first | (with_reducible exact nP.out) | (with_reducible refine Kd.C_alloc ?_ _) | (with_reducible refine Kd.ZM ?_ _) | (with_reducible refine Kd.C_drew ?_) | exact nP.out)) cD mv mj; cases tj; replace mv := eq_true mv; replace mj := eq_true mj))
                   go_roundg k3
                   case measure => have := HJ1.out; have := HK2.out; have := HK3.out; omega
                   case rel => exact ⟨(wrap64 (jT + (rd (Qu bM aD) cD))), (wrap64 (cD + 1)), (by first | rfl | (simp; done) | (simp [*]; done)), (by first | rfl | (simp; done) | (simp [*]; done)), H', ⟨by have := HJ1.out; have := HK2.out; have := HK3.out; omega⟩, ⟨by (with_reducible repeat (first | apply Kd.N_alloc | apply Kd.Ye | apply Kd.Yn)); exact a9.out⟩, ⟨by (with_reducible repeat (first | apply Kd.V_alloc | apply Kd.ZL | apply Kd.ZI)); exact aJ.out⟩, ⟨by (with_reducible repeat (first | apply Kd.V_alloc | apply Kd.ZL | apply Kd.ZI)); exact ba.out⟩, ⟨by (with_reducible repeat (first | refine QC ?_ _ | refine QE ?_ | refine Qz ?_ _)); exact ab.out⟩, ⟨by repeat (first | (with_reducible exact dV.out) | (with_reducible refine Kd.C_alloc ?_ _) | (with_reducible refine Kd.ZM ?_ _) | (with_reducible refine Kd.C_drew ?_) | exact dV.out)⟩, ⟨by repeat (first | (with_reducible exact fb.out) | (with_reducible refine Kd.C_alloc ?_ _) | (with_reducible refine Kd.ZM ?_ _) | (with_reducible refine Kd.C_drew ?_) | exact fb.out)⟩, ⟨bB⟩⟩
                  ·replace c32 := Bool.eq_false_iff.mpr c32; subst c32; have H1 : (some 1) = some r := by rw [if_neg (show ¬ (false = true) by decide)] at H; exact H
                   clear H; have H := H1; clear H1; obtain rfl := Option.some.inj H; have eH : 0 ≤ (aD : Int) := of_decide_eq_true (by assumption); have eG : aD < (bM.length : Int) := of_decide_eq_true (by assumption); obtain ⟨jc, m3, mT, k9, cG, dy, dB⟩ := ZO (Kd.Zi a9.out).2.2 aD eH eG; obtain rfl : ew = jc := (by injection k9); obtain ⟨pa, ib, ic, eN⟩ := Kd.Y2 a9.out [] aD eH (by first | exact eG | exact of_decide_eq_true (by assumption) | (have e_ := (Kd.Zi a9.out).1; omega)); obtain ⟨kH, kG, rfl, cA, cB⟩ := Kd.Zs ic; have bZ := eN 0 _ rfl; rw [Nat.add_zero, show ((Kd.slice 3 (Kd.int .i64))).sz = 1 from rfl, Nat.mul_one] at bZ; replace bZ := Option.some.inj (bZ.symm.trans cG); injection bZ with hva_ hvn_ hvc_
                   rw [hva_] at cB; rw [hvc_] at cA; have lg := aa.mk (show Kd.V (Kd.int .i64) 3 _ w.heap.size _ _ (Qu bM aD) from Kd.V_mk cA cB); clear hva_ hvn_ hvc_ cB cA; clear eN ib; have ld := aa.mk dB; have ln := aa.mk dy; clear dB dy; replace eH := eq_true eH; replace eG := eq_true eG; have iM : 0 ≤ (aD : Int) := of_decide_eq_true (by assumption); have iJ : aD < (bM.length : Int) := of_decide_eq_true (by assumption); obtain ⟨l6, tU, tx, oW, dx, iq, iw⟩ := ZO (Kd.Zi a9.out).2.2 aD iM iJ; obtain rfl : ew = l6 := (by injection oW); obtain ⟨uW, mG, mJ, jX⟩ := Kd.Y2 a9.out [] aD iM (by first | exact iJ | exact of_decide_eq_true (by assumption) | (have e_ := (Kd.Zi a9.out).1; omega)); obtain ⟨pO, pL, rfl, fx, fM⟩ := Kd.Zs mJ; have eB := jX 0 _ rfl; rw [Nat.add_zero, show ((Kd.slice 3 (Kd.int .i64))).sz = 1 from rfl, Nat.mul_one] at eB; replace eB := Option.some.inj (eB.symm.trans dx); injection eB with hva_ hvn_ hvc_
                   rw [hva_] at fM; rw [hvc_] at fx; have qT := aa.mk (show Kd.V (Kd.int .i64) 3 _ w.heap.size _ _ (Qu bM aD) from Kd.V_mk fx fM); clear hva_ hvn_ hvc_ fM fx; clear jX mG; have iD := aa.mk iw; have qW := aa.mk iq; clear iw iq; replace iM := eq_true iM; replace iJ := eq_true iJ; have ea_ := Option.some.inj (cG.symm.trans dx); injection ea_ with ea_ en_ ec_
                   subst ea_; subst ec_; clear en_; have mw : 0 ≤ (cD : Int) := of_decide_eq_true (by assumption); have mo : cD < ((Qu bM aD).length : Int) := of_decide_eq_true (by assumption); obtain ⟨vq, tl, pV⟩ := Kd.Zh (by repeat (first | (with_reducible exact iD.out) | (with_reducible refine Kd.C_alloc ?_ _) | (with_reducible refine Kd.ZM ?_ _) | (with_reducible refine Kd.C_drew ?_) | exact iD.out)) cD mw mo; cases tl; replace mw := eq_true mw; replace mo := eq_true mo; go_wp2_with (first | ((with_reducible refine Qg (f := 99) rfl ?_); refine QG (some 68) rfl rfl Try.func99 (by kernel_rfl) rfl #[.int .i64 (rd (Qu bM aD) cD), .int .i64 0, .int .i64 9] rfl hA ?_; (with_reducible refine (QQ.calls (rd (Qu bM aD) cD) 0 9 false _ A31.out).mono ?_); rintro e w' ⟨rfl, ⟨nd, rfl⟩⟩; refine ⟨_, rfl, ?_⟩))
                   go_ret; exact ⟨by first | rfl | (simp [Qj, Qi] <;> rfl) | (simp [*, Qj, Qi] <;> rfl), bB⟩
                 ·rw [if_neg c30] at H; exact absurd H (by simp)
                ·rw [if_neg c29] at H; have lW : decide (cD < ((Qu bM aD).length : Int)) = false := decide_eq_false c29; clear c29; by_cases c33 : jT = 0
                 ·rw [if_pos c33] at H; have rJ : (jT == 0) = true := beq_iff_eq.mpr c33; have ve : (jT != 0) = false := bne_eq_false_iff_eq.mpr c33; clear c33; obtain rfl := Option.some.inj H; have eH : 0 ≤ (aD : Int) := of_decide_eq_true (by assumption); have eG : aD < (bM.length : Int) := of_decide_eq_true (by assumption); obtain ⟨jc, m3, mT, k9, cG, dy, dB⟩ := ZO (Kd.Zi a9.out).2.2 aD eH eG; obtain rfl : ew = jc := (by injection k9); obtain ⟨pa, ib, ic, eN⟩ := Kd.Y2 a9.out [] aD eH (by first | exact eG | exact of_decide_eq_true (by assumption) | (have e_ := (Kd.Zi a9.out).1; omega)); obtain ⟨kH, kG, rfl, cA, cB⟩ := Kd.Zs ic; have bZ := eN 0 _ rfl; rw [Nat.add_zero, show ((Kd.slice 3 (Kd.int .i64))).sz = 1 from rfl, Nat.mul_one] at bZ; replace bZ := Option.some.inj (bZ.symm.trans cG); injection bZ with hva_ hvn_ hvc_
                  rw [hva_] at cB; rw [hvc_] at cA; have lg := aa.mk (show Kd.V (Kd.int .i64) 3 _ w.heap.size _ _ (Qu bM aD) from Kd.V_mk cA cB); clear hva_ hvn_ hvc_ cB cA; clear eN ib; have ld := aa.mk dB; have ln := aa.mk dy; clear dB dy; replace eH := eq_true eH; replace eG := eq_true eG; go_wp2; go_ret; exact ⟨by first | rfl | (simp [Qj, Qi] <;> rfl) | (simp [*, Qj, Qi] <;> rfl), bB⟩
                 ·rw [if_neg c33] at H; have rJ : (jT == 0) = false := beq_eq_false_iff_ne.mpr c33; have ve : (jT != 0) = true := bne_iff_ne.mpr c33; have H' := aa.mk H; clear H; have eH : 0 ≤ (aD : Int) := of_decide_eq_true (by assumption); have eG : aD < (bM.length : Int) := of_decide_eq_true (by assumption); obtain ⟨jc, m3, mT, k9, cG, dy, dB⟩ := ZO (Kd.Zi a9.out).2.2 aD eH eG; obtain rfl : ew = jc := (by injection k9); obtain ⟨pa, ib, ic, eN⟩ := Kd.Y2 a9.out [] aD eH (by first | exact eG | exact of_decide_eq_true (by assumption) | (have e_ := (Kd.Zi a9.out).1; omega)); obtain ⟨kH, kG, rfl, cA, cB⟩ := Kd.Zs ic; have bZ := eN 0 _ rfl; rw [Nat.add_zero, show ((Kd.slice 3 (Kd.int .i64))).sz = 1 from rfl, Nat.mul_one] at bZ; replace bZ := Option.some.inj (bZ.symm.trans cG); injection bZ with hva_ hvn_ hvc_
                  rw [hva_] at cB; rw [hvc_] at cA; have lg := aa.mk (show Kd.V (Kd.int .i64) 3 _ w.heap.size _ _ (Qu bM aD) from Kd.V_mk cA cB); clear hva_ hvn_ hvc_ cB cA; clear eN ib; have ld := aa.mk dB; have ln := aa.mk dy; clear dB dy; replace eH := eq_true eH; replace eG := eq_true eG; go_wp2; go_roundg k3
                  case measure => have := HJ1.out; have := HK2.out; have := HK3.out; omega
                  case rel => exact ⟨(wrap64 (aD + 1)), (by first | rfl | (simp; done) | (simp [*]; done)), H', ⟨by have := HJ1.out; have := HK2.out; have := HK3.out; omega⟩, ⟨by (with_reducible repeat (first | apply Kd.N_alloc | apply Kd.Ye | apply Kd.Yn)); exact a9.out⟩, ⟨by (with_reducible repeat (first | apply Kd.V_alloc | apply Kd.ZL | apply Kd.ZI)); exact aJ.out⟩, ⟨by (with_reducible repeat (first | apply Kd.V_alloc | apply Kd.ZL | apply Kd.ZI)); exact ba.out⟩, ⟨by (with_reducible repeat (first | refine QC ?_ _ | refine QE ?_ | refine Qz ?_ _)); exact ab.out⟩, ⟨bB⟩⟩
               ·rw [if_neg c28] at H; exact absurd H (by simp)
              ·rw [if_neg c27] at H; exact absurd H (by simp)
           ·rw [if_neg c24] at H; have pd : (((Qu bM aD).length : Int) == ((Qu ae 0).length : Int)) = false := beq_eq_false_iff_ne.mpr c24; have rM : (((Qu bM aD).length : Int) != ((Qu ae 0).length : Int)) = true := bne_iff_ne.mpr c24; have rL : ((Qu bM aD).length == (Qu ae 0).length) = false := by first | simpa using c24 | (simp at c24 ⊢; omega)
            obtain rfl := Option.some.inj H; obtain ⟨q9, qL, oR⟩ := Kd.Yb a9.out; subst oR; try go_wp2
            replace a9 := aa.mk (Kd.Yn a9.out); replace aJ := aa.mk (Kd.ZI aJ.out); replace ba := aa.mk (Kd.ZI ba.out); replace ab := aa.mk (QE ab.out); replace HB := aa.mk (QP HB.out); have hY : 0 ≤ (aD : Int) := of_decide_eq_true (by assumption); have hU : aD < (bM.length : Int) := of_decide_eq_true (by assumption); obtain ⟨ew, kg, lb, oX, cQ, eW, eZ⟩ := ZO (Kd.Zi a9.out).2.2 aD hY hU; cases oX; obtain ⟨uY, mI, mL, jZ⟩ := Kd.Y2 a9.out [] aD hY (by first | exact hU | exact of_decide_eq_true (by assumption) | (have e_ := (Kd.Zi a9.out).1; omega)); obtain ⟨pQ, pN, rfl, fz, fO⟩ := Kd.Zs mL; have eD := jZ 0 _ rfl; rw [Nat.add_zero, show ((Kd.slice 3 (Kd.int .i64))).sz = 1 from rfl, Nat.mul_one] at eD; replace eD := Option.some.inj (eD.symm.trans cQ); injection eD with hva_ hvn_ hvc_
            rw [hva_] at fO; rw [hvc_] at fz; have ll := aa.mk (show Kd.V (Kd.int .i64) 3 _ w.heap.size _ _ (Qu bM aD) from Kd.V_mk fz fO); clear hva_ hvn_ hvc_ fO fz; clear jZ mI; have dV := aa.mk eZ; have nW := aa.mk eW; clear eZ eW; replace hY := eq_true hY; replace hU := eq_true hU; have eT : 0 ≤ (0 : Int) := (by omega); have eS : 0 < (ae.length : Int) := of_decide_eq_true (by assumption); obtain ⟨fU, lr, mU, la, b8, ir, ix⟩ := ZO (Kd.Z9 aJ.out).2.2 0 eT eS; cases la; obtain ⟨uX, mH, mK, jY⟩ := Kd.V_get aJ.out [] 0 eT (by first | exact eS | exact of_decide_eq_true (by assumption) | (have e_ := (Kd.Z9 aJ.out).1; omega)); obtain ⟨pP, pM, rfl, fy, fN⟩ := Kd.Zs mK; have eC := jY 0 _ rfl; rw [Nat.add_zero, show ((Kd.slice 3 (Kd.int .i64))).sz = 1 from rfl, Nat.mul_one] at eC; replace eC := Option.some.inj (eC.symm.trans b8); injection eC with hva_ hvn_ hvc_
            rw [hva_] at fN; rw [hvc_] at fy; have lh := aa.mk (show Kd.V (Kd.int .i64) 3 _ w.heap.size _ _ (Qu ae 0) from Kd.V_mk fy fN); clear hva_ hvn_ hvc_ fN fy; clear jY mH; have ua : (0 < ae.length) = True := eq_true (by omega); (try rw [show ((0 : Int)).toNat = 0 from rfl] at b8)
            (try rw [Addr.add_zero'] at b8)
            have fb := aa.mk ix; have qX := aa.mk ir; clear ix ir; replace eT := eq_true eT; replace eS := eq_true eS; refine Yt (n := 11) (S := fun w' => w'.cell? ⟨ag, 0, none⟩ = some (.slice (some fU) ae.length an) ∧ w'.cell? ⟨ag, 1, none⟩ = some (.slice aj af.length al) ∧ w'.cell? (ew.add (aD).toNat) = some (.slice kg (Qu bM aD).length lb) ∧ w'.cell? fU = some (.slice lr (Qu ae 0).length mU)) (ds := []) #[false, false, false, false, false, false, false, false, false, false, false] (by kernel_rfl) rfl rfl ⟨(Qd ab.out 0).trans rfl, (Qd ab.out 1).trans rfl, cQ, b8⟩ (fun hHeld => ?_); refine ZV Qe.tab7 Qe.bits7 (fun HT_ HW_ => ?_); generalize wr.drew = w35 at a9 aJ ba ab HB ll lh dV fb cQ b8 hHeld ⊢; refine QX (i := 0) (N := some 41) (v := ?_) (a' := ?_) #[true, false, false, false, false, false, false, false, false, false, false] rfl rfl (QK HT_.out (by kernel_rfl)) (fun _ _ _ h => h) (Or.inl ⟨by rfl, ?_⟩) ?_ ?_; rotate_left
            ·intro w'; go_simp; with_reducible rfl
            rotate_left
            ·simp only [Act.put, zA, zB, zC, Qy, QB]; rfl
            refine QX (i := 1) (N := some 42) (v := ?_) (a' := ?_) #[true, true, false, false, false, false, false, false, false, false, false] rfl rfl (QK HT_.out (by kernel_rfl)) (fun _ _ _ h => h) (Or.inl ⟨by rfl, ?_⟩) ?_ ?_; rotate_left
            ·intro w'; go_simp; with_reducible rfl
            rotate_left
            ·simp only [Act.put, zA, zB, zC, Qy, QB]; rfl
            refine QX (i := 2) (N := some 43) (v := ?_) (a' := ?_) #[true, true, true, false, false, false, false, false, false, false, false] rfl rfl (QK HT_.out (by kernel_rfl)) (fun _ _ _ h => h) (Or.inl ⟨by rfl, ?_⟩) ?_ ?_; rotate_left
            ·intro w'; go_simp; with_reducible rfl
            rotate_left
            ·simp only [Act.put, zA, zB, zC, Qy, QB]; rfl
            refine QX (i := 5) (N := some 46) (v := ?_) (a' := ?_) #[true, true, true, false, false, true, false, false, false, false, false] rfl rfl (QK HT_.out (by kernel_rfl)) (fun _ _ _ h => h) (Or.inl ⟨by rfl, ?_⟩) ?_ ?_; rotate_left
            ·intro w'; go_simp; with_reducible rfl
            rotate_left
            ·simp only [Act.put, zA, zB, zC, Qy, QB]; rfl
            refine ZU (i := 3) (N := some 44) (v := ?_) (a' := ?_) #[true, true, true, true, false, true, false, false, false, false, false] rfl rfl (Zp HT_.out HW_.out (by kernel_rfl)) (fun _ _ _ h => h) (Or.inl ⟨by rfl, ?_⟩) hHeld ?_ ?_; rotate_left
            ·rintro w' ⟨s0, s1, s2, s3⟩; go_simp; with_reducible rfl
            rotate_left
            ·simp only [Act.put, zA, zB, zC, Qy, QB]; rfl
            refine QX (i := 4) (N := some 45) (v := ?_) (a' := ?_) #[true, true, true, true, true, true, false, false, false, false, false] rfl rfl (QK HT_.out (by kernel_rfl)) (fun _ _ _ h => h) (Or.inl ⟨by rfl, ?_⟩) ?_ ?_; rotate_left
            ·intro w'; go_simp; with_reducible rfl
            rotate_left
            ·simp only [Act.put, zA, zB, zC, Qy, QB]; rfl
            refine ZU (i := 6) (N := some 47) (v := ?_) (a' := ?_) #[true, true, true, true, true, true, true, false, false, false, false] rfl rfl (Zp HT_.out HW_.out (by kernel_rfl)) (fun _ _ _ h => h) (Or.inl ⟨by rfl, ?_⟩) hHeld ?_ ?_; rotate_left
            ·rintro w' ⟨s0, s1, s2, s3⟩; go_simp; with_reducible rfl
            rotate_left
            ·simp only [Act.put, zA, zB, zC, Qy, QB]; rfl
            refine QX (i := 7) (N := some 48) (v := ?_) (a' := ?_) #[true, true, true, true, true, true, true, true, false, false, false] rfl rfl (QK HT_.out (by kernel_rfl)) (fun _ _ _ h => h) (Or.inl ⟨by rfl, ?_⟩) ?_ ?_; rotate_left
            ·intro w'; go_simp; with_reducible rfl
            rotate_left
            ·simp only [Act.put, zA, zB, zC, Qy, QB]; rfl
            refine ZU (i := 8) (N := some 49) (v := ?_) (a' := ?_) #[true, true, true, true, true, true, true, true, true, false, false] rfl rfl (Zp HT_.out HW_.out (by kernel_rfl)) (fun _ _ _ h => h) (Or.inl ⟨by rfl, ?_⟩) hHeld ?_ ?_; rotate_left
            ·rintro w' ⟨s0, s1, s2, s3⟩; go_simp; with_reducible rfl
            rotate_left
            ·simp only [Act.put, zA, zB, zC, Qy, QB]; rfl
            refine QX (i := 9) (N := some 50) (v := ?_) (a' := ?_) #[true, true, true, true, true, true, true, true, true, true, false] rfl rfl (QK HT_.out (by kernel_rfl)) (fun _ _ _ h => h) (Or.inl ⟨by rfl, ?_⟩) ?_ ?_; rotate_left
            ·intro w'; go_simp; with_reducible rfl
            rotate_left
            ·simp only [Act.put, zA, zB, zC, Qy, QB]; rfl
            refine QX (i := 10) (N := some 51) (v := ?_) (a' := ?_) #[true, true, true, true, true, true, true, true, true, true, true] rfl rfl (QK HT_.out (by kernel_rfl)) (fun _ _ _ h => h) (Or.inl ⟨by rfl, ?_⟩) ?_ ?_; rotate_left
            ·intro w'; go_simp; with_reducible rfl
            rotate_left
            ·simp only [Act.put, zA, zB, zC, Qy, QB]; rfl
            refine YM (Yi HT_.out (by kernel_rfl)) ?_; try go_wp2
            go_ret; exact ⟨by first | rfl | (simp [Qj, Qi] <;> rfl) | (simp [*, Qj, Qi] <;> rfl), bB⟩
          ·rw [if_neg c23] at H; exact absurd H (by simp)
         ·rw [if_neg c22] at H; exact absurd H (by simp)
        ·rw [if_neg c21] at H; have iZ : decide (aD < (bM.length : Int)) = false := decide_eq_false c21; clear c21; obtain rfl := Option.some.inj H; obtain ⟨q8, qK, n7⟩ := Kd.Yb a9.out; subst n7; go_wp2; go_ret; exact ⟨by first | rfl | (simp [Qj, Qi] <;> rfl) | (simp [*, Qj, Qi] <;> rfl), bB⟩
     ·rw [if_neg c15] at H; exact absurd H (by simp)
    ·rw [if_neg c14] at H; exact absurd H (by simp)
mutual
def Qf.l0 : Nat → List (List Int) → List Int → Int → Int → Int → Option (Int)
 | 0, _, _, _, _, _ => none
 | k + 1, x0, x1, x5, x6, x7 => if x7 < (x1.length : Int) then ((some (([] : List Int) : List Int)).bind fun dp => (if 0 ≤ x7 then (if x7 ≤ (x1.length : Int) then (if dp.length + (x1.take (x7 : Int).toNat).length < 17592186044416 then ((some (dp ++ (x1.take (x7 : Int).toNat) : List Int)).bind fun cL => (if 0 ≤ (wrap64 (x7 + 1)) then (if (wrap64 (x7 + 1)) ≤ (x1.length : Int) then (if cL.length + (x1.drop ((wrap64 (x7 + 1)) : Int).toNat).length < 17592186044416 then (if 0 < (x0.length : Int) then (if 0 ≤ (rd x1 x7) then (if (rd x1 x7) < ((Qu x0 0).length : Int) then (if 1 ≤ (x0.length : Int) then ((Qf.f k (x0.drop 1) (cL ++ (x1.drop ((wrap64 (x7 + 1)) : Int).toNat))).bind fun t119 => (Qf.l0 k x0 x1 (wrap64 (x5 + (wrap64 ((wrap64 (x6 * (rd (Qu x0 0) (rd x1 x7)))) * t119)))) (wrap64 (-x6)) (wrap64 (x7 + 1)))) else (none)) else (none)) else (none)) else (none)) else (none)) else (none)) else (none))) else (none)) else (none)) else (none))) else (some x5)
def Qf.f : Nat → List (List Int) → List Int → Option (Int)
 | 0, _, _ => none
 | k + 1, l0, l1 => if (l1.length : Int) = 0 then (some 1) else (Qf.l0 k l0 l1 0 1 0)
end
def Qf.T7 : Bool × List (List Nat × List Nat) := (true, [([], []), ([], []), ([], []), ([1, 2], [1, 2]), ([0, 3], [0, 3]), ([], []), ([], []), ([6], [6]), ([5, 7], [5, 7]), ([4, 8, 4], [4, 8]), ([9, 9, 0, 1, 2, 3, 4, 5, 6, 7, 8, 9], [9])])
def Qf.B7 : List Nat := [0, 0, 0, 6, 15, 0, 0, 64, 224, 511, 1023]
theorem Qf.tab7 : rtab .any (opsOf Try.f124 7) = Qf.T7 := by kernel_rfl
theorem Qf.bits7 : waitsOk Qf.T7.2 Qf.B7 = true := by kernel_rfl
def Qf.T8 : Bool × List (List Nat × List Nat) := (true, [([], []), ([], []), ([], []), ([2], [2]), ([3], [3]), ([], []), ([], []), ([5, 6], [5, 6]), ([7], [7]), ([4, 8], [4, 8]), ([9], [9]), ([1, 10], [1, 10]), ([], []), ([12], [12]), ([], []), ([13, 14], [13, 14]), ([11, 15], [11, 15]), ([0, 16], [0, 16]), ([17, 15, 0, 1, 2, 3, 4, 5, 6, 7, 8, 9, 10, 11, 12, 13, 14, 15, 16, 17], [0, 17])])
def Qf.B8 : List Nat := [0, 0, 0, 4, 12, 0, 0, 96, 224, 508, 1020, 2046, 0, 4096, 0, 28672, 65534, 131071, 262143]
theorem Qf.tab8 : rtab .any (opsOf Try.f124 8) = Qf.T8 := by kernel_rfl
theorem Qf.bits8 : waitsOk Qf.T8.2 Qf.B8 = true := by kernel_rfl
set_option maxHeartbeats 8000000 in
set_option maxRecDepth 100000 in
theorem Qf.calls (k : Nat) : ∀ (A0 : Option Addr) (c0 : Nat) (l0 : List (List Int)) (A1 : Option Addr) (c1 : Nat) (l1 : List Int) (r : Int) (w : World) (hr0 : Kd.C (Kd.slice 3 (Kd.int .i64)) w A0 l0.length l0) (hc0 : l0.length ≤ c0) (hr1 : Kd.C (Kd.int .i64) w A1 l1.length l1) (hc1 : l1.length ≤ c1) (h : Qf.f k l0 l1 = some r),
  Calls Try.prog 124 #[.slice A0 l0.length c0, .slice A1 l1.length c1] w fun e w' => e = .returned (.int .i64 r) ∧ Below w.heap.size w w' := by
 induction k using Nat.strongRecOn with
 | _ k ih =>
 intro A0 c0 l0 A1 c1 l1 r w hr0 hc0 hr1 hc1 h; cases k with
 | zero => exact absurd h (by simp [Qf.f])
 | succ k =>
 simp only [Qf.f] at h; have HR0 := aa.mk hr0; have HC0 := aa.mk hc0; clear hr0 hc0; have HR1 := aa.mk hr1; have HC1 := aa.mk hc1; clear hr1 hc1; have HB := aa.mk (Below.refl w.heap.size w); have H : (if (l1.length : Int) = 0 then (some 1) else (Qf.l0 k l0 l1 0 1 0)) = some r := h; clear h; by_cases c3 : (l1.length : Int) = 0
 ·rw [if_pos c3] at H; have bH : ((l1.length : Int) == 0) = true := beq_iff_eq.mpr c3; have cx : ((l1.length : Int) != 0) = false := bne_eq_false_iff_eq.mpr c3; clear c3; obtain rfl := Option.some.inj H; go_enter Try.func124, Try.ntmps124; go_wp2; go_ret; exact ⟨by first | rfl | (simp [Qj, Qi] <;> rfl) | (simp [*, Qj, Qi] <;> rfl), bB⟩
 ·rw [if_neg c3] at H; have bH : ((l1.length : Int) == 0) = false := beq_eq_false_iff_ne.mpr c3; have cx : ((l1.length : Int) != 0) = true := bne_iff_ne.mpr c3; have iV : ¬ (l1 = []) := fun h_ => c3 (by rw [h_]; rfl)
  have H' := aa.mk H; clear H; go_enter Try.func124, Try.ntmps124; go_wp2; go_loopg [5, 6, 7] k (fun kq v5 v6 v7 w' => ∃ (ao : Int) (ax : Int) (bx : Int), v5 = .int .i64 ao ∧ v6 = .int .i64 ax ∧ v7 = .int .i64 bx ∧ aa (Qf.l0 kq l0 l1 ao ax bx = some r) ∧ aa (kq ≤ k) ∧ aa (Below w.heap.size w w'))
  case atStart => exact ⟨(0), (1), (0), (by first | rfl | (simp; done) | (simp [*]; done)), (by first | rfl | (simp; done) | (simp [*]; done)), (by first | rfl | (simp; done) | (simp [*]; done)), H', ⟨Nat.le_refl _⟩, ⟨bB⟩⟩
  case round =>
   clear H'; try clear c1
   try clear p2
   try clear c3
   try clear bH
   try clear cx
   try clear iV
   obtain ⟨ao, ax, bx, rfl, rfl, rfl, HA, HK1, HB⟩ := hrel; cases gk with
   | zero => exact absurd HA.out (by simp [Qf.l0])
   | succ k1 =>
    have H := HA.out; clear HA; simp only [Qf.l0] at H; by_cases c4 : bx < (l1.length : Int)
    ·rw [if_pos c4] at H; have bE : decide (bx < (l1.length : Int)) = true := decide_eq_true c4; clear c4; obtain ⟨dp, cw⟩ : ∃ y_ : List Int, y_ = (([] : List Int)) := ⟨_, rfl⟩; replace H : (if 0 ≤ bx then (if bx ≤ (l1.length : Int) then (if dp.length + (l1.take (bx : Int).toNat).length < 17592186044416 then ((some (dp ++ (l1.take (bx : Int).toNat) : List Int)).bind fun cL => (if 0 ≤ (wrap64 (bx + 1)) then (if (wrap64 (bx + 1)) ≤ (l1.length : Int) then (if cL.length + (l1.drop ((wrap64 (bx + 1)) : Int).toNat).length < 17592186044416 then (if 0 < (l0.length : Int) then (if 0 ≤ (rd l1 bx) then (if (rd l1 bx) < ((Qu l0 0).length : Int) then (if 1 ≤ (l0.length : Int) then ((Qf.f k1 (l0.drop 1) (cL ++ (l1.drop ((wrap64 (bx + 1)) : Int).toNat))).bind fun t119 => (Qf.l0 k1 l0 l1 (wrap64 (ao + (wrap64 ((wrap64 (ax * (rd (Qu l0 0) (rd l1 bx)))) * t119)))) (wrap64 (-ax)) (wrap64 (bx + 1)))) else (none)) else (none)) else (none)) else (none)) else (none)) else (none)) else (none))) else (none)) else (none)) else (none)) = some r := by first | (rw [cw]; with_reducible exact H) | (have H2_ := (Option.bind_some _ _).symm.trans H; rw [cw]; with_reducible exact H2_) | (have H2_ := (Option.bind_some _ _).symm.trans H; with_reducible exact H2_) | with_reducible exact H | (rw [cw]; exact H) | exact H
     have ef := aa.mk cw; clear cw; by_cases c5 : 0 ≤ bx
     ·rw [if_pos c5] at H; have dq := eq_true c5; have jn : decide (0 ≤ bx) = true := decide_eq_true c5; clear c5; by_cases c6 : bx ≤ (l1.length : Int)
      ·rw [if_pos c6] at H; have gX := eq_true c6; have lV : decide (bx ≤ (l1.length : Int)) = true := decide_eq_true c6; clear c6; by_cases c7 : dp.length + (l1.take (bx : Int).toNat).length < 17592186044416
       ·rw [if_pos c7] at H; have tD := aa.mk c7; clear c7; obtain ⟨cL, cM⟩ : ∃ y_ : List Int, y_ = (dp ++ (l1.take (bx : Int).toNat)) := ⟨_, rfl⟩; replace H : (if 0 ≤ (wrap64 (bx + 1)) then (if (wrap64 (bx + 1)) ≤ (l1.length : Int) then (if cL.length + (l1.drop ((wrap64 (bx + 1)) : Int).toNat).length < 17592186044416 then (if 0 < (l0.length : Int) then (if 0 ≤ (rd l1 bx) then (if (rd l1 bx) < ((Qu l0 0).length : Int) then (if 1 ≤ (l0.length : Int) then ((Qf.f k1 (l0.drop 1) (cL ++ (l1.drop ((wrap64 (bx + 1)) : Int).toNat))).bind fun t119 => (Qf.l0 k1 l0 l1 (wrap64 (ao + (wrap64 ((wrap64 (ax * (rd (Qu l0 0) (rd l1 bx)))) * t119)))) (wrap64 (-ax)) (wrap64 (bx + 1)))) else (none)) else (none)) else (none)) else (none)) else (none)) else (none)) else (none)) = some r := by first | (rw [cM]; with_reducible exact H) | (have H2_ := (Option.bind_some _ _).symm.trans H; rw [cM]; with_reducible exact H2_) | (have H2_ := (Option.bind_some _ _).symm.trans H; with_reducible exact H2_) | with_reducible exact H | (rw [cM]; exact H) | exact H
        have gN := aa.mk cM; clear cM; obtain ⟨ji8, pW⟩ : ∃ j_ : Int, (wrap64 (bx + 1)) = j_ := ⟨_, rfl⟩; replace H : (if 0 ≤ (ji8) then (if (ji8) ≤ (l1.length : Int) then (if cL.length + (l1.drop ((ji8) : Int).toNat).length < 17592186044416 then (if 0 < (l0.length : Int) then (if 0 ≤ (rd l1 bx) then (if (rd l1 bx) < ((Qu l0 0).length : Int) then (if 1 ≤ (l0.length : Int) then ((Qf.f k1 (l0.drop 1) (cL ++ (l1.drop ((ji8) : Int).toNat))).bind fun t119 => (Qf.l0 k1 l0 l1 (wrap64 (ao + (wrap64 ((wrap64 (ax * (rd (Qu l0 0) (rd l1 bx)))) * t119)))) (wrap64 (-ax)) ji8)) else (none)) else (none)) else (none)) else (none)) else (none)) else (none)) else (none)) = some r := by first | (rw [pW] at H; exact H) | (simp only [pW] at H ⊢; exact H)
        have zP : (IntKind.i64.wrap (bx + 1)) = ji8 := (Qy _).trans pW; by_cases c9 : 0 ≤ (ji8)
        ·rw [if_pos c9] at H; have eU := eq_true c9; have zi : decide (0 ≤ (ji8)) = true := decide_eq_true c9; clear c9; by_cases c10 : (ji8) ≤ (l1.length : Int)
         ·rw [if_pos c10] at H; have fq := eq_true c10; have ja : decide ((ji8) ≤ (l1.length : Int)) = true := decide_eq_true c10; clear c10; by_cases c11 : cL.length + (l1.drop ((ji8) : Int).toNat).length < 17592186044416
          ·rw [if_pos c11] at H; have vz := aa.mk c11; clear c11; obtain ⟨eQ, dZ⟩ : ∃ y_ : List Int, y_ = (cL ++ (l1.drop ((ji8) : Int).toNat)) := ⟨_, rfl⟩; replace H : (if 0 < (l0.length : Int) then (if 0 ≤ (rd l1 bx) then (if (rd l1 bx) < ((Qu l0 0).length : Int) then (if 1 ≤ (l0.length : Int) then ((Qf.f k1 (l0.drop 1) eQ).bind fun t119 => (Qf.l0 k1 l0 l1 (wrap64 (ao + (wrap64 ((wrap64 (ax * (rd (Qu l0 0) (rd l1 bx)))) * t119)))) (wrap64 (-ax)) ji8)) else (none)) else (none)) else (none)) else (none)) = some r := by first | (rw [dZ]; with_reducible exact H) | (have H2_ := (Option.bind_some _ _).symm.trans H; rw [dZ]; with_reducible exact H2_) | (have H2_ := (Option.bind_some _ _).symm.trans H; with_reducible exact H2_) | with_reducible exact H | (rw [dZ]; exact H) | exact H
           have l9 := aa.mk dZ; clear dZ; by_cases c12 : 0 < (l0.length : Int)
           ·rw [if_pos c12] at H; have eO : decide (0 < (l0.length : Int)) = true := decide_eq_true c12; have kt : decide (0 < l0.length) = true := decide_eq_true (by omega); clear c12; by_cases c13 : 0 ≤ (rd l1 bx)
            ·rw [if_pos c13] at H; have ks : decide (0 ≤ (rd l1 bx)) = true := decide_eq_true c13; clear c13; by_cases c14 : (rd l1 bx) < ((Qu l0 0).length : Int)
             ·rw [if_pos c14] at H; have gJ : decide ((rd l1 bx) < ((Qu l0 0).length : Int)) = true := decide_eq_true c14; clear c14; by_cases c15 : 1 ≤ (l0.length : Int)
              ·rw [if_pos c15] at H; have gI := eq_true c15; have Ah : decide (1 ≤ (l0.length : Int)) = true := decide_eq_true c15; clear c15; obtain ⟨jR, gu⟩ : ∃ y_ : List (List Int), y_ = (l0.drop 1) := ⟨_, rfl⟩; replace H : ((Qf.f k1 jR eQ).bind fun t119 => (Qf.l0 k1 l0 l1 (wrap64 (ao + (wrap64 ((wrap64 (ax * (rd (Qu l0 0) (rd l1 bx)))) * t119)))) (wrap64 (-ax)) ji8)) = some r := by first | (rw [gu]; with_reducible exact H) | (have H2_ := (Option.bind_some _ _).symm.trans H; rw [gu]; with_reducible exact H2_) | (have H2_ := (Option.bind_some _ _).symm.trans H; with_reducible exact H2_) | with_reducible exact H | (rw [gu]; exact H) | exact H
               have nL := aa.mk gu; clear gu; replace H := Option.bind_eq_some_iff.mp H; obtain ⟨t119, pG, H⟩ := H; replace H : (Qf.l0 k1 l0 l1 (wrap64 (ao + (wrap64 ((wrap64 (ax * (rd (Qu l0 0) (rd l1 bx)))) * t119)))) (wrap64 (-ax)) ji8) = some r := H; have A16 := aa.mk pG; clear pG; have H' := aa.mk H; clear H; try go_wp2
               replace HB := aa.mk (QP HB.out); obtain ⟨AM, rD, _, rp, _⟩ := info_parts info3; obtain ⟨yz, uN, uJ⟩ := U4 (P := Try.prog) (Value.int .i64) 0 28 3 .i64 Try.underlying28 rD rp A1 c1 l1 bx (of_decide_eq_true (by assumption)) (of_decide_eq_true (by assumption)) HC1.out; have nQ := aa.mk (Kd.Ve (h1 := fun _ => rfl) (uN _ (Kd.Vx HR1.out))); have Ak := aa.mk uJ; clear uN uJ rD rp; obtain ⟨AL, rC, _, rn, _⟩ := info_parts info3; obtain ⟨A19, yy, uM, uI⟩ := U5 (P := Try.prog) (Value.int .i64) 0 28 3 .i64 Try.underlying28 rC rn A1 c1 l1 (ji8) (of_decide_eq_true (by assumption)) (of_decide_eq_true (by assumption)) HC1.out; have pt := aa.mk (Kd.Ve (h1 := fun _ => rfl) (uM _ (Kd.Vx HR1.out))); have Aj := aa.mk uI; clear uM uI rC rn; refine Yt (n := 11) (S := fun w' => True) (ds := []) #[false, false, false, false, false, false, false, false, false, false, false] (by kernel_rfl) rfl rfl trivial (fun hHeld => ?_); refine ZV Qf.tab7 Qf.bits7 (fun HT_ HW_ => ?_); generalize wr.drew = w17 at HB nQ pt hHeld ⊢; refine QX (i := 1) (N := some 19) (v := ?_) (a' := ?_) #[false, true, false, false, false, false, false, false, false, false, false] rfl rfl (QK HT_.out (by kernel_rfl)) (fun _ _ _ h => h) (Or.inl ⟨by rfl, ?_⟩) ?_ ?_; rotate_left
               ·intro w'; go_simp; with_reducible rfl
               rotate_left
               ·simp only [Act.put, zA, zB, zC, Qy, QB]; rfl
               refine QX (i := 2) (N := some 20) (v := ?_) (a' := ?_) #[false, true, true, false, false, false, false, false, false, false, false] rfl rfl (QK HT_.out (by kernel_rfl)) (fun _ _ _ h => h) (Or.inl ⟨by rfl, ?_⟩) ?_ ?_; rotate_left
               ·intro w'; go_simp; with_reducible rfl
               rotate_left
               ·simp only [Act.put, zA, zB, zC, Qy, QB]; rfl
               refine QX (i := 3) (N := some 21) (v := ?_) (a' := ?_) #[false, true, true, true, false, false, false, false, false, false, false] rfl rfl (QK HT_.out (by kernel_rfl)) (fun _ _ _ h => h) (Or.inl ⟨by rfl, ?_⟩) ?_ ?_; rotate_left
               ·intro w'; go_simp; with_reducible rfl
               rotate_left
               ·simp only [Act.put, zA, zB, zC, Qy, QB]; rfl
               refine QX (i := 5) (N := some 23) (v := ?_) (a' := ?_) #[false, true, true, true, false, true, false, false, false, false, false] rfl rfl (QK HT_.out (by kernel_rfl)) (fun _ _ _ h => h) (Or.inl ⟨by rfl, ?_⟩) ?_ ?_; rotate_left
               ·intro w'; go_simp; with_reducible rfl
               rotate_left
               ·simp only [Act.put, zA, zB, zC, Qy, QB]; rfl
               refine QX (i := 6) (N := some 24) (v := ?_) (a' := ?_) #[false, true, true, true, false, true, true, false, false, false, false] rfl rfl (QK HT_.out (by kernel_rfl)) (fun _ _ _ h => h) (Or.inl ⟨by rfl, ?_⟩) ?_ ?_; rotate_left
               ·intro w'; go_simp; with_reducible rfl
               rotate_left
               ·simp only [Act.put, zA, zB, zC, Qy, QB]; rfl
               refine QX (i := 7) (N := some 25) (v := ?_) (a' := ?_) #[false, true, true, true, false, true, true, true, false, false, false] rfl rfl (QK HT_.out (by kernel_rfl)) (fun _ _ _ h => h) (Or.inl ⟨by rfl, ?_⟩) ?_ ?_; rotate_left
               ·intro w'; go_simp; with_reducible rfl
               rotate_left
               ·simp only [Act.put, zA, zB, zC, Qy, QB]; rfl
               refine QX (i := 8) (N := some 26) (v := ?_) (a' := ?_) #[false, true, true, true, false, true, true, true, true, false, false] rfl rfl (QK HT_.out (by kernel_rfl)) (fun _ _ _ h => h) (Or.inl ⟨by rfl, ?_⟩) ?_ ?_; rotate_left
               ·intro w'; go_simp; with_reducible rfl
               rotate_left
               ·simp only [Act.put, zA, zB, zC, Qy, QB]; rfl
               refine one_ (i := 0) (N := some 18) #[true, true, true, true, false, true, true, true, true, false, false] rfl rfl (ZT HT_.out (by kernel_rfl)) (by decide) (fun K hK => ?_); refine Kd.VF (Kd.int .i64) _ 3 ?hg (N := 18) ?hd (xs := ([] : List Int)) (inner := []) (ok := fun _ => True) (okp := fun _ => True) ?hr ?hp (fun _ hk => hk) trivial (Below.refl _ _) (Nat.le_refl _) (by simp) ?_; (case hd => rfl); (case hg => rfl); (case hr => first | (go_simp; done) | (go_simp; rfl)); (case hp => exact (Reps.none _ _)); intro hP w20 oA hb hg_ hnew_; clear hg_ hnew_; (first | rw [← ef.out] at oA | (simp only [Int.reduceToNat] at oA; rw [← ef.out] at oA))
               have aX := aa.mk (Kd.Zg oA (Qc bB)); replace HB := aa.mk (Qa bB hb); clear hb oA; refine hK.out _ _ trivial (fun hHeld => ?_); clear hK K; refine Yc (a' := ?_) ?_ ?_; rotate_left
               ·show Act.put _ (some 18) _ = _
                simp only [Act.put, zA, zB, zC, Qy, QB]; rfl
               refine one_ (i := 4) (N := some 22) #[true, true, true, true, true, true, true, true, true, false, false] rfl rfl (ZT HT_.out (by kernel_rfl)) (by decide) (fun K hK => ?_); refine Kd.YA (Kd.int .i64) (w0 := w) w.heap.size (by rfl) (.tmp 18) (.tmp 21) 28 3 (.int .i64 0) 8 rfl Try.underlying28 info3 rfl (by decide) (by omega) hP dp (l1.take (bx : Int).toNat) _ _ _ (fun _ => True) (fun _ => False) rfl rfl ?aO ?aR (fun _ _ h => h) (fun _ h => h.elim) ?aF ?aB ?aS ?aL ?_; (case aR => first | (have e_ := show (l1.take (bx : Int).toNat).length = bx.toNat from (by rw [List.length_take]; have h_ : (bx : Int) ≤ (l1.length : Int) := of_decide_eq_true (by assumption); omega); have h_ := Kd.Qo nQ.out HB.out; rw [e_] at h_; exact h_) | (exact (Kd.Qo nQ.out HB.out)) | (exact (Kd.Qo nQ.out HB.out)))
               (case aB => exact bB)
               (case aF => exact (fun _ _ => trivial))
               (case aO => exact aX.out)
               (case aS => exact (Qc bB))
               (case aL => have := tD.out; have hlx_ := (show (l1.take (bx : Int).toNat).length = bx.toNat from (by rw [List.length_take]; have h_ : (bx : Int) ≤ (l1.length : Int) := of_decide_eq_true (by assumption); omega)); omega)
               intro hH w22 ho hb hg hat; rw [← gN.out] at ho; replace HB := aa.mk (hb); have bS := aa.mk (ho); clear aX; clear ho hb hg hat; refine hK.out _ _ trivial (fun hHeld => ?_); clear hK K; refine Yc (a' := ?_) ?_ ?_; rotate_left
               ·show Act.put _ (some 22) _ = _
                simp only [Act.put, zA, zB, zC, Qy, QB]; rfl
               refine one_ (i := 9) (N := some 27) #[true, true, true, true, true, true, true, true, true, true, false] rfl rfl (ZT HT_.out (by kernel_rfl)) (by decide) (fun K hK => ?_); refine Kd.YA (Kd.int .i64) (w0 := w) w.heap.size (by rfl) (.tmp 22) (.tmp 26) 28 3 (.int .i64 0) 8 rfl Try.underlying28 info3 rfl (by decide) (by omega) hH cL (l1.drop ((ji8) : Int).toNat) _ _ _ (fun _ => True) (fun _ => False) rfl rfl ?aO ?aR (fun _ _ h => h) (fun _ h => h.elim) ?aF ?aB ?aS ?aL ?_; (case aR => first | (rw [← show (l1.drop ((ji8) : Int).toNat).length = (l1.length - (ji8).toNat) from List.length_drop]; exact (Kd.Qo pt.out HB.out)) | (exact (Kd.Qo pt.out HB.out)))
               (case aB => exact bB)
               (case aF => exact (fun _ _ => trivial))
               (case aO => exact bS.out)
               (case aS => exact (Qc bB))
               (case aL => have := vz.out; have hlx_ := (show (l1.drop ((ji8) : Int).toNat).length = (l1.length - (ji8).toNat) from List.length_drop); omega)
               intro mg w23 ho hb hg hat; rw [← l9.out] at ho; replace HB := aa.mk (hb); have di := aa.mk (ho); clear bS; clear ho hb hg hat; refine hK.out _ _ trivial (fun hHeld => ?_); clear hK K; refine Yc (a' := ?_) ?_ ?_; rotate_left
               ·show Act.put _ (some 27) _ = _
                simp only [Act.put, zA, zB, zC, Qy, QB]; rfl
               refine QX (i := 10) (N := some 8) (v := ?_) (a' := ?_) #[true, true, true, true, true, true, true, true, true, true, true] rfl rfl (QK HT_.out (by kernel_rfl)) (fun _ _ _ h => h) (Or.inl ⟨by rfl, ?_⟩) ?_ ?_; rotate_left
               ·intro w'; go_simp; with_reducible rfl
               rotate_left
               ·simp only [Act.put, zA, zB, zC, Qy, QB]; rfl
               refine YM (Yi HT_.out (by kernel_rfl)) ?_; try go_wp2
               replace di := aa.mk (Kd.QN di.out); replace HB := aa.mk (QP HB.out); have ej : 0 ≤ (0 : Int) := (by omega); have ei : 0 < (l0.length : Int) := of_decide_eq_true (by assumption); obtain ⟨fv, pI, mV, j3, bq, eX, e0⟩ := ZO HR0.out 0 ej ei; have fD := bq; (try rw [show ((0 : Int)).toNat = 0 from rfl] at fD)
               (try rw [show 0 * 1 = 0 from rfl] at fD)
               (try rw [Addr.add_zero'] at fD)
               cases j3; have zN : (0 < l0.length) = True := eq_true (by omega); (try rw [show ((0 : Int)).toNat = 0 from rfl] at bq)
               (try rw [Addr.add_zero'] at bq)
               replace bq := (HB.out.cell (World.block_lt_of_cell? w _ bq)).trans bq; have jO := aa.mk e0; have nX := aa.mk eX; clear e0 eX; replace ej := eq_true ej; replace ei := eq_true ei; have iN : 0 ≤ (bx : Int) := of_decide_eq_true (by assumption); have iK : bx < (l1.length : Int) := of_decide_eq_true (by assumption); obtain ⟨l7, oY, b9⟩ := Kd.Zh HR1.out bx iN iK; have fC := b9; cases oY; replace b9 := (HB.out.cell (World.block_lt_of_cell? w _ b9)).trans b9; replace iN := eq_true iN; replace iK := eq_true iK; have my : 0 ≤ ((rd l1 bx) : Int) := of_decide_eq_true (by assumption); have mq : (rd l1 bx) < ((Qu l0 0).length : Int) := of_decide_eq_true (by assumption); obtain ⟨pj, tn, eA⟩ := Kd.Zh jO.out (rd l1 bx) my mq; have ju := eA; cases tn; replace eA := (HB.out.cell (World.block_lt_of_cell? w _ eA)).trans eA; replace my := eq_true my; replace mq := eq_true mq; have q25 : (1 : Int) ≤ ((l0.length : Int) : Int) := of_decide_eq_true (by assumption); obtain ⟨AI, rz, _, rl, _⟩ := info_parts info28; have kM : l0.length ≤ c0 := HC0.out; have uF : Kd.C (Kd.slice 3 (Kd.int .i64)) _ (some fv) l0.length l0 := HR0.out; have sI := US (P := Try.prog) 22 28 .i64 Try.underlying22 rz 1 rl (some fv) l0.length c0 1 (by omega) q25; have ox := Kd.C_drop (m := (1 : Int).toNat) (c := c0) uF (by omega) kM; obtain ⟨A25, qE⟩ : ∃ A1, A1 = (if c0 = (1 : Int).toNat then (some fv) else ((some fv) : Option Addr).map (·.add ((1 : Int).toNat * 1))) := ⟨_, rfl⟩; obtain ⟨c25, sQ⟩ : ∃ c1, c1 = c0 - (1 : Int).toNat := ⟨_, rfl⟩; have pT : jR.length = l0.length - (1 : Int).toNat := (by rw [nL.out, List.length_drop] <;> omega); rw [show (l0).drop (1 : Int).toNat = jR from nL.out.symm] at ox; replace ox : Kd.C (Kd.slice 3 (Kd.int .i64)) _ A25 jR.length jR := (by rw [qE]; exact ox); rw [← pT, ← qE, ← sQ] at sI; have r8 := aa.mk ox; have vL := aa.mk (show jR.length ≤ c25 from by rw [pT, sQ]; exact Nat.sub_le_sub_right kM _); clear ox uF kM rz rl sQ; have Bo := aa.mk pT; have Bs := aa.mk qE; clear pT qE; replace q25 := eq_true q25; obtain ⟨tS, tr, oU⟩ := Kd.Zc di.out; (first | subst oU | (injection oU with f1_ f2_ f3_; have f4_ := f1_.symm; have f5_ := f3_.symm; clear f1_ f2_ f3_; subst f4_; subst f5_))
               refine Yt (n := 19) (S := fun w' => w'.cell? fv = some (.slice (some pj) (Qu l0 0).length mV) ∧ w'.cell? (l7.add (bx).toNat) = some (.int .i64 (rd l1 bx)) ∧ w'.cell? (pj.add ((rd l1 bx)).toNat) = some (.int .i64 (rd (Qu l0 0) (rd l1 bx)))) (ds := []) #[false, false, false, false, false, false, false, false, false, false, false, false, false, false, false, false, false, false, false] (by kernel_rfl) rfl rfl ⟨((HB.out.cell (World.block_lt_of_cell? w _ fD)).trans fD), ((HB.out.cell (World.block_lt_of_cell? w _ fC)).trans fC), ((HB.out.cell (World.block_lt_of_cell? w _ ju)).trans ju)⟩ (fun hHeld => ?_); refine ZV Qf.tab8 Qf.bits8 (fun HT_ HW_ => ?_); generalize w23.drew = w24 at di HB jO r8 bq b9 eA hHeld ⊢; refine QX (i := 0) (N := some 28) (v := ?_) (a' := ?_) #[true, false, false, false, false, false, false, false, false, false, false, false, false, false, false, false, false, false, false] rfl rfl (QK HT_.out (by kernel_rfl)) (fun _ _ _ h => h) (Or.inl ⟨by rfl, ?_⟩) ?_ ?_; rotate_left
               ·intro w'; go_simp; with_reducible rfl
               rotate_left
               ·simp only [Act.put, zA, zB, zC, Qy, QB]; rfl
               refine QX (i := 1) (N := some 29) (v := ?_) (a' := ?_) #[true, true, false, false, false, false, false, false, false, false, false, false, false, false, false, false, false, false, false] rfl rfl (QK HT_.out (by kernel_rfl)) (fun _ _ _ h => h) (Or.inl ⟨by rfl, ?_⟩) ?_ ?_; rotate_left
               ·intro w'; go_simp; with_reducible rfl
               rotate_left
               ·simp only [Act.put, zA, zB, zC, Qy, QB]; rfl
               refine QX (i := 2) (N := some 30) (v := ?_) (a' := ?_) #[true, true, true, false, false, false, false, false, false, false, false, false, false, false, false, false, false, false, false] rfl rfl (QK HT_.out (by kernel_rfl)) (fun _ _ _ h => h) (Or.inl ⟨by rfl, ?_⟩) ?_ ?_; rotate_left
               ·intro w'; go_simp; with_reducible rfl
               rotate_left
               ·simp only [Act.put, zA, zB, zC, Qy, QB]; rfl
               refine QX (i := 3) (N := some 31) (v := ?_) (a' := ?_) #[true, true, true, true, false, false, false, false, false, false, false, false, false, false, false, false, false, false, false] rfl rfl (QK HT_.out (by kernel_rfl)) (fun _ _ _ h => h) (Or.inl ⟨by rfl, ?_⟩) ?_ ?_; rotate_left
               ·intro w'; go_simp; with_reducible rfl
               rotate_left
               ·simp only [Act.put, zA, zB, zC, Qy, QB]; rfl
               refine QX (i := 5) (N := some 33) (v := ?_) (a' := ?_) #[true, true, true, true, false, true, false, false, false, false, false, false, false, false, false, false, false, false, false] rfl rfl (QK HT_.out (by kernel_rfl)) (fun _ _ _ h => h) (Or.inl ⟨by rfl, ?_⟩) ?_ ?_; rotate_left
               ·intro w'; go_simp; with_reducible rfl
               rotate_left
               ·simp only [Act.put, zA, zB, zC, Qy, QB]; rfl
               refine QX (i := 6) (N := some 34) (v := ?_) (a' := ?_) #[true, true, true, true, false, true, true, false, false, false, false, false, false, false, false, false, false, false, false] rfl rfl (QK HT_.out (by kernel_rfl)) (fun _ _ _ h => h) (Or.inl ⟨by rfl, ?_⟩) ?_ ?_; rotate_left
               ·intro w'; go_simp; with_reducible rfl
               rotate_left
               ·simp only [Act.put, zA, zB, zC, Qy, QB]; rfl
               refine QX (i := 7) (N := some 35) (v := ?_) (a' := ?_) #[true, true, true, true, false, true, true, true, false, false, false, false, false, false, false, false, false, false, false] rfl rfl (QK HT_.out (by kernel_rfl)) (fun _ _ _ h => h) (Or.inl ⟨by rfl, ?_⟩) ?_ ?_; rotate_left
               ·intro w'; go_simp; with_reducible rfl
               rotate_left
               ·simp only [Act.put, zA, zB, zC, Qy, QB]; rfl
               refine QX (i := 12) (N := some 40) (v := ?_) (a' := ?_) #[true, true, true, true, false, true, true, true, false, false, false, false, true, false, false, false, false, false, false] rfl rfl (QK HT_.out (by kernel_rfl)) (fun _ _ _ h => h) (Or.inl ⟨by rfl, ?_⟩) ?_ ?_; rotate_left
               ·intro w'; go_simp; with_reducible rfl
               rotate_left
               ·simp only [Act.put, zA, zB, zC, Qy, QB]; rfl
               refine QX (i := 13) (N := some 41) (v := ?_) (a' := ?_) #[true, true, true, true, false, true, true, true, false, false, false, false, true, true, false, false, false, false, false] rfl rfl (QK HT_.out (by kernel_rfl)) (fun _ _ _ h => h) (Or.inl ⟨by rfl, ?_⟩) ?_ ?_; rotate_left
               ·intro w'; go_simp; with_reducible rfl
               rotate_left
               ·simp only [Act.put, zA, zB, zC, Qy, QB]; rfl
               refine QX (i := 14) (N := some 42) (v := ?_) (a' := ?_) #[true, true, true, true, false, true, true, true, false, false, false, false, true, true, true, false, false, false, false] rfl rfl (QK HT_.out (by kernel_rfl)) (fun _ _ _ h => h) (Or.inl ⟨by rfl, ?_⟩) ?_ ?_; rotate_left
               ·intro w'; go_simp; with_reducible rfl
               rotate_left
               ·simp only [Act.put, zA, zB, zC, Qy, QB]; rfl
               refine ZU (i := 4) (N := some 32) (v := ?_) (a' := ?_) #[true, true, true, true, true, true, true, true, false, false, false, false, true, true, true, false, false, false, false] rfl rfl (Zp HT_.out HW_.out (by kernel_rfl)) (fun _ _ _ h => h) (Or.inl ⟨by rfl, ?_⟩) hHeld ?_ ?_; rotate_left
               ·rintro w' ⟨s0, s1, s2⟩; go_simp; with_reducible rfl
               rotate_left
               ·simp only [Act.put, zA, zB, zC, Qy, QB]; rfl
               refine ZU (i := 8) (N := some 36) (v := ?_) (a' := ?_) #[true, true, true, true, true, true, true, true, true, false, false, false, true, true, true, false, false, false, false] rfl rfl (Zp HT_.out HW_.out (by kernel_rfl)) (fun _ _ _ h => h) (Or.inl ⟨by rfl, ?_⟩) hHeld ?_ ?_; rotate_left
               ·rintro w' ⟨s0, s1, s2⟩; go_simp; with_reducible rfl
               rotate_left
               ·simp only [Act.put, zA, zB, zC, Qy, QB]; rfl
               refine QX (i := 9) (N := some 37) (v := ?_) (a' := ?_) #[true, true, true, true, true, true, true, true, true, true, false, false, true, true, true, false, false, false, false] rfl rfl (QK HT_.out (by kernel_rfl)) (fun _ _ _ h => h) (Or.inl ⟨by rfl, ?_⟩) ?_ ?_; rotate_left
               ·intro w'; go_simp; with_reducible rfl
               rotate_left
               ·simp only [Act.put, zA, zB, zC, Qy, QB]; rfl
               refine ZU (i := 10) (N := some 38) (v := ?_) (a' := ?_) #[true, true, true, true, true, true, true, true, true, true, true, false, true, true, true, false, false, false, false] rfl rfl (Zp HT_.out HW_.out (by kernel_rfl)) (fun _ _ _ h => h) (Or.inl ⟨by rfl, ?_⟩) hHeld ?_ ?_; rotate_left
               ·rintro w' ⟨s0, s1, s2⟩; go_simp; with_reducible rfl
               rotate_left
               ·simp only [Act.put, zA, zB, zC, Qy, QB]; rfl
               refine QX (i := 11) (N := some 39) (v := ?_) (a' := ?_) #[true, true, true, true, true, true, true, true, true, true, true, true, true, true, true, false, false, false, false] rfl rfl (QK HT_.out (by kernel_rfl)) (fun _ _ _ h => h) (Or.inl ⟨by rfl, ?_⟩) ?_ ?_; rotate_left
               ·intro w'; go_simp; with_reducible rfl
               rotate_left
               ·simp only [Act.put, zA, zB, zC, Qy, QB]; rfl
               refine one_ (i := 15) (N := some 43) #[true, true, true, true, true, true, true, true, true, true, true, true, true, true, true, true, false, false, false] rfl rfl (ZT HT_.out (by kernel_rfl)) (by decide) (fun K hK => ?_); refine Vj Try.func124 (by kernel_rfl) rfl #[.slice A25 jR.length c25, .slice tS eQ.length tr] (by rfl) rfl rfl hA ?_; with_reducible refine (ih k1 (by have := HK1.out; omega) _ _ jR _ _ eQ t119 _ ?ah ?ai ?aq ?ar A16.out).mono ?_
               (case ah => exact (Kd.Qo r8.out HB.out))
               (case ai => exact vL.out)
               (case aq => exact (Kd.QA di.out).2.2)
               (case ar => exact (Kd.QA di.out).2.1)
               rintro e w27 ⟨rfl, hb⟩; refine ⟨_, rfl, ?_⟩; replace di := aa.mk (Kd.QR di.out hb); replace HB := aa.mk (Qa bB hb); (try clear hb)
               (try clear hb2)
               (try clear hk)
               (try clear hi)
               refine hK.out _ _ ⟨((HB.out.cell (World.block_lt_of_cell? w _ fD)).trans fD), ((HB.out.cell (World.block_lt_of_cell? w _ fC)).trans fC), ((HB.out.cell (World.block_lt_of_cell? w _ ju)).trans ju)⟩ (fun hHeld => ?_); clear hK K; refine Yc (a' := ?_) ?_ ?_; rotate_left
               ·show Act.put _ (some 43) _ = _
                simp only [Act.put, zA, zB, zC, Qy, QB]; rfl
               refine QX (i := 16) (N := some 44) (v := ?_) (a' := ?_) #[true, true, true, true, true, true, true, true, true, true, true, true, true, true, true, true, true, false, false] rfl rfl (QK HT_.out (by kernel_rfl)) (fun _ _ _ h => h) (Or.inl ⟨by rfl, ?_⟩) ?_ ?_; rotate_left
               ·intro w'; go_simp; with_reducible rfl
               rotate_left
               ·simp only [Act.put, zA, zB, zC, Qy, QB]; rfl
               refine QX (i := 17) (N := some 45) (v := ?_) (a' := ?_) #[true, true, true, true, true, true, true, true, true, true, true, true, true, true, true, true, true, true, false] rfl rfl (QK HT_.out (by kernel_rfl)) (fun _ _ _ h => h) (Or.inl ⟨by rfl, ?_⟩) ?_ ?_; rotate_left
               ·intro w'; go_simp; with_reducible rfl
               rotate_left
               ·simp only [Act.put, zA, zB, zC, Qy, QB]; rfl
               refine QX (i := 18) (N := some 5) (v := ?_) (a' := ?_) #[true, true, true, true, true, true, true, true, true, true, true, true, true, true, true, true, true, true, true] rfl rfl (QK HT_.out (by kernel_rfl)) (fun _ _ _ h => h) (Or.inl ⟨by rfl, ?_⟩) ?_ ?_; rotate_left
               ·intro w'; go_simp; with_reducible rfl
               rotate_left
               ·simp only [Act.put, zA, zB, zC, Qy, QB]; rfl
               refine YM (Yi HT_.out (by kernel_rfl)) ?_; try go_wp2
               go_roundg k1
               case measure => have := HK1.out; omega
               case rel => exact ⟨(wrap64 (ao + (wrap64 ((wrap64 (ax * (rd (Qu l0 0) (rd l1 bx)))) * t119)))), (wrap64 (-ax)), (ji8), (by first | rfl | (simp; done) | (simp [*]; done)), (by first | rfl | (simp; done) | (simp [*]; done)), (by first | rfl | (simp; done) | (simp only [← pW] <;> (first | rfl | simp)) | (simp [*]; done)), H', ⟨by have := HK1.out; omega⟩, ⟨bB⟩⟩
              ·rw [if_neg c15] at H; exact absurd H (by simp)
             ·rw [if_neg c14] at H; exact absurd H (by simp)
            ·rw [if_neg c13] at H; exact absurd H (by simp)
           ·rw [if_neg c12] at H; exact absurd H (by simp)
          ·rw [if_neg c11] at H; exact absurd H (by simp)
         ·rw [if_neg c10] at H; exact absurd H (by simp)
        ·rw [if_neg c9] at H; exact absurd H (by simp)
       ·rw [if_neg c7] at H; exact absurd H (by simp)
      ·rw [if_neg c6] at H; exact absurd H (by simp)
     ·rw [if_neg c5] at H; exact absurd H (by simp)
    ·rw [if_neg c4] at H; have bE : decide (bx < (l1.length : Int)) = false := decide_eq_false c4; clear c4; obtain rfl := Option.some.inj H; go_wp2; go_ret; exact ⟨by first | rfl | (simp [Qj, Qi] <;> rfl) | (simp [*, Qj, Qi] <;> rfl), bB⟩
def Qt.l0 : Nat → Int → List Int → Int → Option (List Int)
 | 0, _, _, _ => none
 | k + 1, x0, x3, x4 => if 0 ≤ (IntKind.u64.wrap (x4)) then (if (shr .i64 x0 (IntKind.u64.wrap (x4))) > 0 then (if (Go.bits .and .i64 (shr .i64 x0 (IntKind.u64.wrap (x4))) 1) = 1 then (if x3.length < 17592186044416 then (Qt.l0 k x0 (x3 ++ [x4]) (wrap64 (x4 + 1))) else (none)) else (Qt.l0 k x0 x3 (wrap64 (x4 + 1)))) else (some x3)) else (none)
def Qt.f (k : Nat) (a0 : Int) : Option (List Int) := Qt.l0 k a0 ([] : List Int) 0
theorem Qt.ZP : ∀ k, (∀ y0 y1 y2, LeO (Qt.l0 k y0 y1 y2) (Qt.l0 (k + 1) y0 y1 y2))
 | 0 => fun _ _ _ r h => by simp [Qt.l0] at h
 | k + 1 => by
  have ih0 := Qt.ZP k
  ·intro y0 y1 y2; unfold Qt.l0; repeat' first | (with_reducible exact ih0 _ _ _) | (with_reducible exact LeO.refl _) | (with_reducible exact LeO.none _) | (with_reducible refine LeO.ite ?_ ?_) | (with_reducible refine LeO.bind ?_ (fun _ => ?_)) | exact ih0 _ _ _ | exact LeO.none _ | refine LeO.ite ?_ ?_ | refine LeO.bind ?_ (fun _ => ?_)
theorem Qt.mono : ∀ a0 k, LeO (Qt.f k a0) (Qt.f (k + 1) a0) := by
 intro a0 k; have ih0 := Qt.ZP k; unfold Qt.f; repeat' first | (with_reducible exact ih0 _ _ _) | (with_reducible exact LeO.refl _) | (with_reducible exact LeO.none _) | (with_reducible refine LeO.ite ?_ ?_) | (with_reducible refine LeO.bind ?_ (fun _ => ?_)) | exact ih0 _ _ _ | exact LeO.none _ | refine LeO.ite ?_ ?_ | refine LeO.bind ?_ (fun _ => ?_)
set_option maxHeartbeats 8000000 in
set_option maxRecDepth 100000 in
theorem Qt.calls (k : Nat) (a0 : Int) (r : List Int) (w : World) (h : Qt.f k a0 = some r) :
  Calls Try.prog 103 #[.int .i64 a0] w fun e w' => ∃ v0_ : Value, e = .returned (v0_) ∧ Kd.R (Kd.int .i64) 3 w' w.heap.size (fun _ => True) v0_ r ∧ Below w.heap.size w w' := by
 have HB := aa.mk (Below.refl w.heap.size w); have H : (Qt.l0 k a0 ([] : List Int) 0) = some r := h; clear h; have H' := aa.mk H; clear H; go_enter Try.func103, Try.ntmps103; go_wp2; go_loopg [3, 4] k (fun kq v3 v4 w' => ∃ (cm : List Int) (aZ : Int), v4 = .int .i64 aZ ∧ aa (Qt.l0 kq a0 cm aZ = some r) ∧ aa (kq ≤ k) ∧ aa (Kd.R (Kd.int .i64) 3 w' w.heap.size (fun _ => True) v3 cm) ∧ aa (Below w.heap.size w w'))
 case atStart => exact ⟨(([] : List Int)), (0), (by first | rfl | (simp; done) | (simp [*]; done)), H', ⟨Nat.le_refl _⟩, ⟨by first | exact Kd.Yg _ _ _ _ _ | exact Kd.Yp _ _ _ _ _ | exact Kd.V_nil _ _ _ _ _ | exact Kd.Q_nil _ _ _ _ _ | exact Kd.Ys _ _ _ _ _⟩, ⟨bB⟩⟩
 case round =>
  clear H'; try clear c1
  obtain ⟨cm, aZ, rfl, HA, HK1, a9, HB⟩ := hrel; cases gk with
  | zero => exact absurd HA.out (by simp [Qt.l0])
  | succ k1 =>
   have H := HA.out; clear HA; simp only [Qt.l0] at H; obtain ⟨ji2, sB⟩ : ∃ j_ : Int, (IntKind.u64.wrap (aZ)) = j_ := ⟨_, rfl⟩; replace H : (if 0 ≤ (ji2) then (if (shr .i64 a0 (ji2)) > 0 then (if (Go.bits .and .i64 (shr .i64 a0 (ji2)) 1) = 1 then (if cm.length < 17592186044416 then (Qt.l0 k1 a0 (cm ++ [aZ]) (wrap64 (aZ + 1))) else (none)) else (Qt.l0 k1 a0 cm (wrap64 (aZ + 1)))) else (some cm)) else (none)) = some r := by first | (rw [sB] at H; exact H) | (simp only [sB] at H ⊢; exact H)
   by_cases c3 : 0 ≤ (ji2)
   ·rw [if_pos c3] at H; have bH := eq_true c3; have cx : decide (0 ≤ (ji2)) = true := decide_eq_true c3; clear c3; obtain ⟨ji4, gU⟩ : ∃ j_ : Int, (shr .i64 a0 (ji2)) = j_ := ⟨_, rfl⟩; replace H : (if (ji4) > 0 then (if (Go.bits .and .i64 (ji4) 1) = 1 then (if cm.length < 17592186044416 then (Qt.l0 k1 a0 (cm ++ [aZ]) (wrap64 (aZ + 1))) else (none)) else (Qt.l0 k1 a0 cm (wrap64 (aZ + 1)))) else (some cm)) = some r := by first | (rw [gU] at H; exact H) | (simp only [gU] at H ⊢; exact H)
    have ru : (a0 / 2 ^ min (ji2).toNat 64) = ji4 := gU; have zQ : (ji2) ≤ 64 → (a0 / 2 ^ (ji2).toNat) = ji4 := VU gU; by_cases c5 : (ji4) > 0
    ·rw [if_pos c5] at H; have dq : decide (0 < (ji4)) = true := decide_eq_true c5; clear c5; have gX := eq_true (of_decide_eq_true (by assumption) : 0 ≤ (ji2)); by_cases c8 : (Go.bits .and .i64 (ji4) 1) = 1
     ·rw [if_pos c8] at H; have dQ : ((Go.bits .and .i64 (ji4) 1) == 1) = true := beq_iff_eq.mpr c8; have iU : ((Go.bits .and .i64 (ji4) 1) != 1) = false := bne_eq_false_iff_eq.mpr c8; clear c8; by_cases c9 : cm.length < 17592186044416
      ·rw [if_pos c9] at H; have tC := aa.mk c9; clear c9; obtain ⟨dp, cw⟩ : ∃ y_ : List Int, y_ = (cm ++ [aZ]) := ⟨_, rfl⟩; replace H : (Qt.l0 k1 a0 dp (wrap64 (aZ + 1))) = some r := by first | (rw [cw]; with_reducible exact H) | (have H2_ := (Option.bind_some _ _).symm.trans H; rw [cw]; with_reducible exact H2_) | (have H2_ := (Option.bind_some _ _).symm.trans H; with_reducible exact H2_) | with_reducible exact H | (rw [cw]; exact H) | exact H
       have ef := aa.mk cw; clear cw; have H' := aa.mk H; clear H; go_wp2_with (first | ((with_reducible refine Zr (b := .append) (xs := #[.tmp 18, .tmp 20]) rfl ?_); at_builtin; refine Kd.Ym (Kd.int .i64) (w0 := w) w.heap.size rfl (.tmp 18) (.tmp 20) 28 3 (.int .i64 0) 8 rfl Try.underlying28 info3 rfl (by decide) (by omega) u3 cm aZ [.int .i64 aZ] (fun _ => True) (fun _ => False) rfl rfl ?aP (fun _ hk => hk.elim) ?aF ?aO ?aB ?aS ?aL ?_; (case aP => exact rfl); (case aB => exact bB); (case aF => exact (fun _ _ => trivial)); (case aO => exact a9.out); (case aS => exact (Qc bB)); (case aL => have := tC.out; omega); intro hP w10 ho hb hg hat; rw [← ef.out] at ho; replace HB := aa.mk (hb); have aX := aa.mk (ho); clear a9; clear ho hb hg hat))
       go_roundg k1
       case measure => have := HK1.out; omega
       case rel => exact ⟨(dp), (wrap64 (aZ + 1)), (by first | rfl | (simp; done) | (simp [*]; done)), H', ⟨by have := HK1.out; omega⟩, ⟨by (with_reducible repeat (first | apply Kd.R_alloc | apply Kd.QI | apply Kd.QN)); exact aX.out⟩, ⟨bB⟩⟩
      ·rw [if_neg c9] at H; exact absurd H (by simp)
     ·rw [if_neg c8] at H; have dQ : ((Go.bits .and .i64 (ji4) 1) == 1) = false := beq_eq_false_iff_ne.mpr c8; have iU : ((Go.bits .and .i64 (ji4) 1) != 1) = true := bne_iff_ne.mpr c8; have H' := aa.mk H; clear H; go_wp2; go_roundg k1
      case measure => have := HK1.out; omega
      case rel => exact ⟨(cm), (wrap64 (aZ + 1)), (by first | rfl | (simp; done) | (simp [*]; done)), H', ⟨by have := HK1.out; omega⟩, ⟨by (with_reducible repeat (first | apply Kd.R_alloc | apply Kd.QI | apply Kd.QN)); exact a9.out⟩, ⟨bB⟩⟩
    ·rw [if_neg c5] at H; have dq : decide (0 < (ji4)) = false := decide_eq_false c5; clear c5; obtain rfl := Option.some.inj H; go_wp2; go_ret; exact ⟨_, by first | rfl | (simp [Qj, Qi] <;> rfl) | (simp only [← sB, ← gU]; first | rfl | (simp [Qj, Qi] <;> rfl)) | (simp [*, Qj, Qi] <;> rfl), by (with_reducible repeat (first | apply Kd.R_alloc | apply Kd.QI | apply Kd.QN)); exact a9.out, bB⟩
   ·rw [if_neg c3] at H; exact absurd H (by simp)
def Qw.l0 : Nat → Int → Int → List Int → Int → Option (List Int)
 | 0, _, _, _, _ => none
 | k + 1, x0, x1, x5, x6 => if 0 ≤ (IntKind.u64.wrap (x0)) then (if x6 < (shl .i64 1 (IntKind.u64.wrap (x0))) then ((Qt.f k x6).bind fun t101 => (if (t101.length : Int) = x1 then (if x5.length < 17592186044416 then (Qw.l0 k x0 x1 (x5 ++ [x6]) (wrap64 (x6 + 1))) else (none)) else (Qw.l0 k x0 x1 x5 (wrap64 (x6 + 1))))) else (some x5)) else (none)
def Qw.f (k : Nat) (a0 : Int) (a1 : Int) : Option (List Int) := Qw.l0 k a0 a1 ([] : List Int) 0
theorem Qw.ZP : ∀ k, (∀ y0 y1 y2 y3, LeO (Qw.l0 k y0 y1 y2 y3) (Qw.l0 (k + 1) y0 y1 y2 y3))
 | 0 => fun _ _ _ _ r h => by simp [Qw.l0] at h
 | k + 1 => by
  have ih0 := Qw.ZP k
  ·intro y0 y1 y2 y3; unfold Qw.l0; repeat' first | (with_reducible exact ih0 _ _ _ _) | (with_reducible exact Qt.mono _ _) | (with_reducible exact LeO.refl _) | (with_reducible exact LeO.none _) | (with_reducible refine LeO.ite ?_ ?_) | (with_reducible refine LeO.bind ?_ (fun _ => ?_)) | exact ih0 _ _ _ _ | exact Qt.mono _ _ | exact LeO.none _ | refine LeO.ite ?_ ?_ | refine LeO.bind ?_ (fun _ => ?_)
theorem Qw.mono : ∀ a0 a1 k, LeO (Qw.f k a0 a1) (Qw.f (k + 1) a0 a1) := by
 intro a0 a1 k; have ih0 := Qw.ZP k; unfold Qw.f; repeat' first | (with_reducible exact ih0 _ _ _ _) | (with_reducible exact Qt.mono _ _) | (with_reducible exact LeO.refl _) | (with_reducible exact LeO.none _) | (with_reducible refine LeO.ite ?_ ?_) | (with_reducible refine LeO.bind ?_ (fun _ => ?_)) | exact ih0 _ _ _ _ | exact Qt.mono _ _ | exact LeO.none _ | refine LeO.ite ?_ ?_ | refine LeO.bind ?_ (fun _ => ?_)
set_option maxHeartbeats 8000000 in
set_option maxRecDepth 100000 in
theorem Qw.calls (k : Nat) (a0 : Int) (a1 : Int) (r : List Int) (w : World) (h : Qw.f k a0 a1 = some r) :
  Calls Try.prog 123 #[.int .i64 a0, .int .i64 a1] w fun e w' => ∃ v0_ : Value, e = .returned (v0_) ∧ Kd.R (Kd.int .i64) 3 w' w.heap.size (fun _ => True) v0_ r ∧ Below w.heap.size w w' := by
 have HB := aa.mk (Below.refl w.heap.size w); have H : (Qw.l0 k a0 a1 ([] : List Int) 0) = some r := h; clear h; have H' := aa.mk H; clear H; go_enter Try.func123, Try.ntmps123; go_wp2; go_loopg [5, 6] k (fun kq v5 v6 w' => ∃ (ao : List Int) (ax : Int), v6 = .int .i64 ax ∧ aa (Qw.l0 kq a0 a1 ao ax = some r) ∧ aa (kq ≤ k) ∧ aa (Kd.R (Kd.int .i64) 3 w' w.heap.size (fun _ => True) v5 ao) ∧ aa (Below w.heap.size w w'))
 case atStart => exact ⟨(([] : List Int)), (0), (by first | rfl | (simp; done) | (simp [*]; done)), H', ⟨Nat.le_refl _⟩, ⟨by first | exact Kd.Yg _ _ _ _ _ | exact Kd.Yp _ _ _ _ _ | exact Kd.V_nil _ _ _ _ _ | exact Kd.Q_nil _ _ _ _ _ | exact Kd.Ys _ _ _ _ _⟩, ⟨bB⟩⟩
 case round =>
  clear H'; try clear c1
  try clear p2
  obtain ⟨ao, ax, rfl, HA, HK1, bj, HB⟩ := hrel; cases gk with
  | zero => exact absurd HA.out (by simp [Qw.l0])
  | succ k1 =>
   have H := HA.out; clear HA; simp only [Qw.l0] at H; obtain ⟨ji3, gA⟩ : ∃ j_ : Int, (IntKind.u64.wrap (a0)) = j_ := ⟨_, rfl⟩; replace H : (if 0 ≤ (ji3) then (if ax < (shl .i64 1 (ji3)) then ((Qt.f k1 ax).bind fun t101 => (if (t101.length : Int) = a1 then (if ao.length < 17592186044416 then (Qw.l0 k1 a0 a1 (ao ++ [ax]) (wrap64 (ax + 1))) else (none)) else (Qw.l0 k1 a0 a1 ao (wrap64 (ax + 1))))) else (some ao)) else (none)) = some r := by first | (rw [gA] at H; exact H) | (simp only [gA] at H ⊢; exact H)
   by_cases c4 : 0 ≤ (ji3)
   ·rw [if_pos c4] at H; have bE := eq_true c4; have dO : decide (0 ≤ (ji3)) = true := decide_eq_true c4; clear c4; obtain ⟨ji5, iQ⟩ : ∃ j_ : Int, (shl .i64 1 (ji3)) = j_ := ⟨_, rfl⟩; replace H : (if ax < (ji5) then ((Qt.f k1 ax).bind fun t101 => (if (t101.length : Int) = a1 then (if ao.length < 17592186044416 then (Qw.l0 k1 a0 a1 (ao ++ [ax]) (wrap64 (ax + 1))) else (none)) else (Qw.l0 k1 a0 a1 ao (wrap64 (ax + 1))))) else (some ao)) = some r := by first | (rw [iQ] at H; exact H) | (simp only [iQ] at H ⊢; exact H)
    have lS : (IntKind.i64.wrap (1 * 2 ^ min (ji3).toNat 64)) = ji5 := iQ; have lR : (ji3) ≤ 64 → (IntKind.i64.wrap (1 * 2 ^ (ji3).toNat)) = ji5 := Ja iQ; have uw : (IntKind.i64.wrap (2 ^ min (ji3).toNat 64)) = ji5 := by have h_ := lS; rw [Int.one_mul] at h_; exact h_
    have uv : (ji3) ≤ 64 → (IntKind.i64.wrap (2 ^ (ji3).toNat)) = ji5 := fun hle_ => by have h_ := lR hle_; rw [Int.one_mul] at h_; exact h_
    have ur : (wrap64 (1 * 2 ^ min (ji3).toNat 64)) = ji5 := (Qy _).symm.trans lS; have uu : (ji3) ≤ 64 → (wrap64 (1 * 2 ^ (ji3).toNat)) = ji5 := fun h_ => (Qy _).symm.trans (lR h_)
    by_cases c6 : ax < (ji5)
    ·rw [if_pos c6] at H; have gX : decide (ax < (ji5)) = true := decide_eq_true c6; clear c6; replace H := Option.bind_eq_some_iff.mp H; obtain ⟨t101, A70, H⟩ := H; replace H : (if (t101.length : Int) = a1 then (if ao.length < 17592186044416 then (Qw.l0 k1 a0 a1 (ao ++ [ax]) (wrap64 (ax + 1))) else (none)) else (Qw.l0 k1 a0 a1 ao (wrap64 (ax + 1)))) = some r := H; have A7 := aa.mk A70; clear A70; by_cases c8 : (t101.length : Int) = a1
     ·rw [if_pos c8] at H; have dQ : ((t101.length : Int) == a1) = true := beq_iff_eq.mpr c8; have iU : ((t101.length : Int) != a1) = false := bne_eq_false_iff_eq.mpr c8; clear c8; by_cases c9 : ao.length < 17592186044416
      ·rw [if_pos c9] at H; have tC := aa.mk c9; clear c9; obtain ⟨jS, cF⟩ : ∃ y_ : List Int, y_ = (ao ++ [ax]) := ⟨_, rfl⟩; replace H : (Qw.l0 k1 a0 a1 jS (wrap64 (ax + 1))) = some r := by first | (rw [cF]; with_reducible exact H) | (have H2_ := (Option.bind_some _ _).symm.trans H; rw [cF]; with_reducible exact H2_) | (have H2_ := (Option.bind_some _ _).symm.trans H; with_reducible exact H2_) | with_reducible exact H | (rw [cF]; exact H) | exact H
       have iB := aa.mk cF; clear cF; have H' := aa.mk H; clear H; go_wp2_with (first | ((with_reducible refine Qg (f := 103) rfl ?_); refine QG (some 15) rfl rfl Try.func103 (by kernel_rfl) rfl #[.int .i64 ax] rfl hA ?_; (with_reducible refine (Qt.calls k1 ax t101 _ A7.out).mono ?_); rintro e w10 ⟨hP, rfl, ho0, hb⟩; refine ⟨_, rfl, ?_⟩; have aX := aa.mk (Kd.Zg (Kd.Zt ho0 (Kd.R_lt bj.out)) (Qc bB)); replace bj := aa.mk (Kd.Zd bj.out (Kd.QS ho0) hb); replace HB := aa.mk (Qa bB hb); (try clear hb); (try clear hb2); (try clear hk); (try clear hi); (try clear ho0); obtain ⟨zI, zg, yW⟩ := Kd.Zc aX.out; subst yW) | ((with_reducible refine Zr (b := .append) (xs := #[.tmp 19, .tmp 21]) rfl ?_); at_builtin; refine Kd.Ym (Kd.int .i64) (w0 := w) w.heap.size rfl (.tmp 19) (.tmp 21) 28 3 (.int .i64 0) 8 rfl Try.underlying28 info3 rfl (by decide) (by omega) u5 ao ax [.int .i64 ax] (fun k_ => some k_ ≠ (.slice zI t101.length zg : Value).ownBlock) (fun _ => False) rfl rfl ?aP (fun _ hk => hk.elim) ?aF ?aO ?aB ?aS ?aL ?_; (case aP => exact rfl); (case aB => exact bB); (case aF => exact (fun k_ hk => Kd.fresh' (Kd.R_lt aX.out) k_ hk)); (case aO => exact (by (with_reducible repeat (first | apply Kd.R_alloc | apply Kd.QI | apply Kd.QN)); exact Kd.Q8 bj.out (fun _ hk => hk.2))); (case aS => exact (Qc bB)); (case aL => have := tC.out; omega); intro ie w12 ho hb hg hat; rw [← iB.out] at ho; replace aX := aa.mk (Kd.Yy (ok := (fun _ => True)) aX.out hg hat); replace HB := aa.mk (hb); have aY := aa.mk (ho); clear bj; clear ho hb hg hat))
       go_roundg k1
       case measure => have := HK1.out; omega
       case rel => exact ⟨(jS), (wrap64 (ax + 1)), (by first | rfl | (simp; done) | (simp [*]; done)), H', ⟨by have := HK1.out; omega⟩, ⟨by (with_reducible repeat (first | apply Kd.R_alloc | apply Kd.QI | apply Kd.QN)); exact Kd.Q8 aY.out (fun _ hk => trivial)⟩, ⟨bB⟩⟩
      ·rw [if_neg c9] at H; exact absurd H (by simp)
     ·rw [if_neg c8] at H; have dQ : ((t101.length : Int) == a1) = false := beq_eq_false_iff_ne.mpr c8; have iU : ((t101.length : Int) != a1) = true := bne_iff_ne.mpr c8; have H' := aa.mk H; clear H; go_wp2_with (first | ((with_reducible refine Qg (f := 103) rfl ?_); refine QG (some 15) rfl rfl Try.func103 (by kernel_rfl) rfl #[.int .i64 ax] rfl hA ?_; (with_reducible refine (Qt.calls k1 ax t101 _ A7.out).mono ?_); rintro e w13 ⟨hP, rfl, ho0, hb⟩; refine ⟨_, rfl, ?_⟩; have aX := aa.mk (Kd.Zg (Kd.Zt ho0 (Kd.R_lt bj.out)) (Qc bB)); replace bj := aa.mk (Kd.Zd bj.out (Kd.QS ho0) hb); replace HB := aa.mk (Qa bB hb); (try clear hb); (try clear hb2); (try clear hk); (try clear hi); (try clear ho0); obtain ⟨gQ, ee, mO⟩ := Kd.Zc aX.out; subst mO))
      go_roundg k1
      case measure => have := HK1.out; omega
      case rel => exact ⟨(ao), (wrap64 (ax + 1)), (by first | rfl | (simp; done) | (simp [*]; done)), H', ⟨by have := HK1.out; omega⟩, ⟨by (with_reducible repeat (first | apply Kd.R_alloc | apply Kd.QI | apply Kd.QN)); exact Kd.Q8 bj.out (fun _ hk => trivial)⟩, ⟨bB⟩⟩
    ·rw [if_neg c6] at H; have gX : decide (ax < (ji5)) = false := decide_eq_false c6; clear c6; obtain rfl := Option.some.inj H; go_wp2; go_ret; exact ⟨_, by first | rfl | (simp [Qj, Qi] <;> rfl) | (simp only [← gA, ← iQ]; first | rfl | (simp [Qj, Qi] <;> rfl)) | (simp [*, Qj, Qi] <;> rfl), by (with_reducible repeat (first | apply Kd.R_alloc | apply Kd.QI | apply Kd.QN)); exact bj.out, bB⟩
   ·rw [if_neg c4] at H; exact absurd H (by simp)
def Zb.l0 : Nat → List (List Int) → List Int → List (List Int) → Int → Option ((List (List Int)))
 | 0, _, _, _, _ => none
 | k + 1, x0, x1, x5, x6 => if x6 < (x1.length : Int) then (if 0 ≤ x6 then (if 0 ≤ (rd x1 x6) then (if (rd x1 x6) < (x0.length : Int) then (if x5.length < 5864062014805 then (Zb.l0 k x0 x1 (x5 ++ [Qu x0 (rd x1 x6)]) (wrap64 (x6 + 1))) else (none)) else (none)) else (none)) else (none)) else (some x5)
def Zb.f (k : Nat) (l0 : List (List Int)) (l1 : List Int) : Option ((List (List Int))) := Zb.l0 k l0 l1 ([] : List (List Int)) 0
set_option maxHeartbeats 8000000 in
set_option maxRecDepth 100000 in
theorem Zb.calls (k : Nat) (P0_ : Nat → Prop) (A0 : Option Addr) (c0 : Nat) (l0 : List (List Int)) (A1 : Option Addr) (c1 : Nat) (l1 : List Int) (r : List (List Int)) (w : World) (hs0 : Kd.V (Kd.slice 3 (Kd.int .i64)) 28 w w.heap.size (fun k_ => P0_ k_) (.slice A0 l0.length c0) l0) (hr1 : Kd.C (Kd.int .i64) w A1 l1.length l1) (hc1 : l1.length ≤ c1) (h : Zb.f k l0 l1 = some r) :
  Calls Try.prog 102 #[.slice A0 l0.length c0, .slice A1 l1.length c1] w fun e w' => ∃ v0_ : Value, e = .returned (v0_) ∧ Kd.N (Kd.slice 3 (Kd.int .i64)) 28 w' w.heap.size (fun k_ => (P0_ k_ ∨ w.heap.size ≤ k_)) v0_ r ∧ Below w.heap.size w w' := by
 have HO0 := aa.mk (show Kd.V (Kd.slice 3 (Kd.int .i64)) 28 w w.heap.size (fun k_ => (P0_ k_ ∨ w.heap.size ≤ k_)) (.slice A0 l0.length c0) l0 from Kd.Z6 hs0 (fun k_ hk => .inl hk)); have HR1 := aa.mk hr1; have HC1 := aa.mk hc1; clear hr1 hc1; have HB := aa.mk (Below.refl w.heap.size w); have H : (Zb.l0 k l0 l1 ([] : List (List Int)) 0) = some r := h; clear h; have H' := aa.mk H; clear H; go_enter Try.func102, Try.ntmps102; go_wp2; go_loopg [5, 6] k (fun kq v5 v6 w' => ∃ (ao : List (List Int)) (ax : Int), v6 = .int .i64 ax ∧ aa (Zb.l0 kq l0 l1 ao ax = some r) ∧ aa (kq ≤ k) ∧ aa (Kd.V (Kd.slice 3 (Kd.int .i64)) 28 w' w.heap.size (fun k_ => (P0_ k_ ∨ w.heap.size ≤ k_) ∧ some k_ ≠ (v5 : Value).ownBlock) (.slice A0 l0.length c0) l0) ∧ aa (Kd.N (Kd.slice 3 (Kd.int .i64)) 28 w' w.heap.size (fun k_ => (P0_ k_ ∨ w.heap.size ≤ k_)) v5 ao) ∧ aa (Below w.heap.size w w'))
 case atStart => exact ⟨(([] : List (List Int))), (0), (by first | rfl | (simp; done) | (simp [*]; done)), H', ⟨Nat.le_refl _⟩, ⟨by (with_reducible repeat (first | apply Kd.V_alloc | apply Kd.ZL | apply Kd.ZI)); exact Kd.Z6 HO0.out (fun _ hk => ⟨hk, (by simp [Value.ownBlock])⟩)⟩, ⟨by first | exact Kd.Ys _ _ _ _ _ | exact Kd.Yp _ _ _ _ _ | exact Kd.V_nil _ _ _ _ _ | exact Kd.Q_nil _ _ _ _ _ | exact Kd.Yg _ _ _ _ _⟩, ⟨bB⟩⟩
 case round =>
  clear H'; try clear c1
  try clear p2
  obtain ⟨ao, ax, rfl, HA, HK1, bQ, bj, HB⟩ := hrel; cases gk with
  | zero => exact absurd HA.out (by simp [Zb.l0])
  | succ k1 =>
   have H := HA.out; clear HA; simp only [Zb.l0] at H; by_cases c3 : ax < (l1.length : Int)
   ·rw [if_pos c3] at H; have bH : decide (ax < (l1.length : Int)) = true := decide_eq_true c3; clear c3; by_cases c4 : 0 ≤ ax
    ·rw [if_pos c4] at H; have bE : decide (0 ≤ ax) = true := decide_eq_true c4; clear c4; by_cases c5 : 0 ≤ (rd l1 ax)
     ·rw [if_pos c5] at H; have dq : decide (0 ≤ (rd l1 ax)) = true := decide_eq_true c5; clear c5; by_cases c6 : (rd l1 ax) < (l0.length : Int)
      ·rw [if_pos c6] at H; have gX : decide ((rd l1 ax) < (l0.length : Int)) = true := decide_eq_true c6; clear c6; by_cases c7 : ao.length < 5864062014805
       ·rw [if_pos c7] at H; have tD := aa.mk c7; clear c7; obtain ⟨du, ec⟩ : ∃ y_ : List (List Int), y_ = (ao ++ [Qu l0 (rd l1 ax)]) := ⟨_, rfl⟩; replace H : (Zb.l0 k1 l0 l1 du (wrap64 (ax + 1))) = some r := by first | (rw [ec]; with_reducible exact H) | (have H2_ := (Option.bind_some _ _).symm.trans H; rw [ec]; with_reducible exact H2_) | (have H2_ := (Option.bind_some _ _).symm.trans H; with_reducible exact H2_) | with_reducible exact H | (rw [ec]; exact H) | exact H
        have iC := aa.mk ec; clear ec; have H' := aa.mk H; clear H; have bw : 0 ≤ (ax : Int) := of_decide_eq_true (by assumption); have bu : ax < (l1.length : Int) := of_decide_eq_true (by assumption); obtain ⟨cb, dJ, aK⟩ := Kd.Zh HR1.out ax bw bu; cases dJ; replace aK := (HB.out.cell (World.block_lt_of_cell? w _ aK)).trans aK; replace bw := eq_true bw; replace bu := eq_true bu; have bD : 0 ≤ ((rd l1 ax) : Int) := of_decide_eq_true (by assumption); have bC : (rd l1 ax) < (l0.length : Int) := of_decide_eq_true (by assumption); obtain ⟨bI, eu, et, dP, aG, ch, ck⟩ := ZO (Kd.Z9 bQ.out).2.2 (rd l1 ax) bD bC; cases dP; obtain ⟨zW, sO, sV, oK⟩ := Kd.V_get bQ.out [] (rd l1 ax) bD (by first | exact bC | exact of_decide_eq_true (by assumption) | (have e_ := (Kd.Z9 bQ.out).1; omega)); obtain ⟨wA, wu, rfl, kE, k7⟩ := Kd.Zs sV; have jy := oK 0 _ rfl; rw [Nat.add_zero, show ((Kd.slice 3 (Kd.int .i64))).sz = 1 from rfl, Nat.mul_one] at jy; replace jy := Option.some.inj (jy.symm.trans aG); injection jy with hva_ hvn_ hvc_
        rw [hva_] at k7; rw [hvc_] at kE; have jQ := aa.mk (show Kd.V (Kd.int .i64) 3 _ w.heap.size _ _ (Qu l0 (rd l1 ax)) from Kd.V_mk kE k7); clear hva_ hvn_ hvc_ k7 kE; clear oK sO; have dj := aa.mk ck; have dL := aa.mk ch; clear ck ch; replace bD := eq_true bD; replace bC := eq_true bC; go_wp2_with (first | ((with_reducible refine Zr (b := .append) (xs := #[.tmp 13, .tmp 21]) rfl ?_); at_builtin; refine Kd.N_append (Kd.slice 3 (Kd.int .i64)) (w0 := w) w.heap.size rfl (.tmp 13) (.tmp 21) 22 28 (.slice none 0 0) 24 rfl Try.underlying22 info28 rfl (by decide) (by omega) u5 ao (Qu l0 (rd l1 ax)) [.slice eu (Qu l0 (rd l1 ax)).length et] (fun k_ => (P0_ k_ ∨ w.heap.size ≤ k_)) (fun k_ => ((fun k_ => (P0_ k_ ∨ w.heap.size ≤ k_))) k_ ∧ some k_ ≠ (u5 : Value).ownBlock) rfl rfl ?aP (fun _ hk => hk) ?aF ?aO ?aB ?aS ?aL ?_; (case aP => exact (Kd.YC (Kd.Z9 (Kd.Z6 (ok' := (fun k_ => ((fun k_ => (P0_ k_ ∨ w.heap.size ≤ k_))) k_ ∧ some k_ ≠ (u5 : Value).ownBlock)) (jQ.out) (fun k_ hk => ⟨hk.1, hk.2⟩))).2.1 (Kd.V_F (Kd.Z6 (ok' := (fun k_ => ((fun k_ => (P0_ k_ ∨ w.heap.size ≤ k_))) k_ ∧ some k_ ≠ (u5 : Value).ownBlock)) (jQ.out) (fun k_ hk => ⟨hk.1, hk.2⟩))))); (case aB => exact bB); (case aF => exact (fun k_ hk => (.inr (Nat.le_trans (Qc bB) hk)))); (case aO => exact bj.out); (case aS => exact (Qc bB)); (case aL => have := tD.out; omega); intro ff w8 ho hb hg hat; rw [← iC.out] at ho; replace bQ := aa.mk (Kd.ZF (ok := (fun k_ => (P0_ k_ ∨ w.heap.size ≤ k_))) bQ.out hg hat); replace jQ := aa.mk (Kd.ZF (ok := (fun k_ => (P0_ k_ ∨ w.heap.size ≤ k_))) jQ.out hg hat); replace HB := aa.mk (hb); have bf := aa.mk (ho); clear bj; clear ho hb hg hat))
        go_roundg k1
        case measure => have := HK1.out; omega
        case rel => exact ⟨(du), (wrap64 (ax + 1)), (by first | rfl | (simp; done) | (simp [*]; done)), H', ⟨by have := HK1.out; omega⟩, ⟨by (with_reducible repeat (first | apply Kd.V_alloc | apply Kd.ZL | apply Kd.ZI)); exact bQ.out⟩, ⟨by (with_reducible repeat (first | apply Kd.N_alloc | apply Kd.Ye | apply Kd.Yn)); exact bf.out⟩, ⟨bB⟩⟩
       ·rw [if_neg c7] at H; exact absurd H (by simp)
      ·rw [if_neg c6] at H; exact absurd H (by simp)
     ·rw [if_neg c5] at H; exact absurd H (by simp)
    ·rw [if_neg c4] at H; exact absurd H (by simp)
   ·rw [if_neg c3] at H; have bH : decide (ax < (l1.length : Int)) = false := decide_eq_false c3; clear c3; obtain rfl := Option.some.inj H; go_wp2; go_ret; exact ⟨_, by first | rfl | (simp [Qj, Qi] <;> rfl) | (simp [*, Qj, Qi] <;> rfl), by (with_reducible repeat (first | apply Kd.N_alloc | apply Kd.Ye | apply Kd.Yn)); exact bj.out, bB⟩
def Q9.l0 : Nat → List (List Int) → List Int → Int → Option (List Int)
 | 0, _, _, _ => none
 | k + 1, x0, x3, x4 => if 0 < (x0.length : Int) then (if x4 < ((Qu x0 0).length : Int) then (if x3.length < 17592186044416 then (Q9.l0 k x0 (x3 ++ [x4]) (wrap64 (x4 + 1))) else (none)) else (some x3)) else (none)
def Q9.f (k : Nat) (l0 : List (List Int)) : Option (List Int) := Q9.l0 k l0 ([] : List Int) 0
set_option maxHeartbeats 8000000 in
set_option maxRecDepth 100000 in
theorem Q9.calls (k : Nat) (A0 : Option Addr) (c0 : Nat) (l0 : List (List Int)) (r : List Int) (w : World) (hr0 : Kd.C (Kd.slice 3 (Kd.int .i64)) w A0 l0.length l0) (hc0 : l0.length ≤ c0) (h : Q9.f k l0 = some r) :
  Calls Try.prog 98 #[.slice A0 l0.length c0] w fun e w' => ∃ v0_ : Value, e = .returned (v0_) ∧ Kd.R (Kd.int .i64) 3 w' w.heap.size (fun _ => True) v0_ r ∧ Below w.heap.size w w' := by
 have HR0 := aa.mk hr0; have HC0 := aa.mk hc0; clear hr0 hc0; have HB := aa.mk (Below.refl w.heap.size w); have H : (Q9.l0 k l0 ([] : List Int) 0) = some r := h; clear h; have H' := aa.mk H; clear H; go_enter Try.func98, Try.ntmps98; go_wp2; go_loopg [3, 4] k (fun kq v3 v4 w' => ∃ (cm : List Int) (aZ : Int), v4 = .int .i64 aZ ∧ aa (Q9.l0 kq l0 cm aZ = some r) ∧ aa (kq ≤ k) ∧ aa (Kd.R (Kd.int .i64) 3 w' w.heap.size (fun _ => True) v3 cm) ∧ aa (Below w.heap.size w w'))
 case atStart => exact ⟨(([] : List Int)), (0), (by first | rfl | (simp; done) | (simp [*]; done)), H', ⟨Nat.le_refl _⟩, ⟨by first | exact Kd.Yg _ _ _ _ _ | exact Kd.Yp _ _ _ _ _ | exact Kd.V_nil _ _ _ _ _ | exact Kd.Q_nil _ _ _ _ _ | exact Kd.Ys _ _ _ _ _⟩, ⟨bB⟩⟩
 case round =>
  clear H'; obtain ⟨cm, aZ, rfl, HA, HK1, a9, HB⟩ := hrel; cases gk with
  | zero => exact absurd HA.out (by simp [Q9.l0])
  | succ k1 =>
   have H := HA.out; clear HA; simp only [Q9.l0] at H; by_cases c2 : 0 < (l0.length : Int)
   ·rw [if_pos c2] at H; have pc : decide (0 < (l0.length : Int)) = true := decide_eq_true c2; have tw : decide (0 < l0.length) = true := decide_eq_true (by omega); clear c2; by_cases c3 : aZ < ((Qu l0 0).length : Int)
    ·rw [if_pos c3] at H; have bH : decide (aZ < ((Qu l0 0).length : Int)) = true := decide_eq_true c3; clear c3; by_cases c4 : cm.length < 17592186044416
     ·rw [if_pos c4] at H; have zn := aa.mk c4; clear c4; obtain ⟨fw, ed⟩ : ∃ y_ : List Int, y_ = (cm ++ [aZ]) := ⟨_, rfl⟩; replace H : (Q9.l0 k1 l0 fw (wrap64 (aZ + 1))) = some r := by first | (rw [ed]; with_reducible exact H) | (have H2_ := (Option.bind_some _ _).symm.trans H; rw [ed]; with_reducible exact H2_) | (have H2_ := (Option.bind_some _ _).symm.trans H; with_reducible exact H2_) | with_reducible exact H | (rw [ed]; exact H) | exact H
      have j9 := aa.mk ed; clear ed; have H' := aa.mk H; clear H; have bw : 0 ≤ (0 : Int) := (by omega); have bu : 0 < (l0.length : Int) := of_decide_eq_true (by assumption); obtain ⟨cb, iY, iW, dJ, aK, cj, cl⟩ := ZO HR0.out 0 bw bu; cases dJ; have rh : (0 < l0.length) = True := eq_true (by omega); (try rw [show ((0 : Int)).toNat = 0 from rfl] at aK)
      (try rw [Addr.add_zero'] at aK)
      replace aK := (HB.out.cell (World.block_lt_of_cell? w _ aK)).trans aK; have cC := aa.mk cl; have dm := aa.mk cj; clear cl cj; replace bw := eq_true bw; replace bu := eq_true bu; go_wp2_with (first | ((with_reducible refine Zr (b := .append) (xs := #[.tmp 13, .tmp 15]) rfl ?_); at_builtin; refine Kd.Ym (Kd.int .i64) (w0 := w) w.heap.size rfl (.tmp 13) (.tmp 15) 28 3 (.int .i64 0) 8 rfl Try.underlying28 info3 rfl (by decide) (by omega) u3 cm aZ [.int .i64 aZ] (fun _ => True) (fun _ => False) rfl rfl ?aP (fun _ hk => hk.elim) ?aF ?aO ?aB ?aS ?aL ?_; (case aP => exact rfl); (case aB => exact bB); (case aF => exact (fun _ _ => trivial)); (case aO => exact a9.out); (case aS => exact (Qc bB)); (case aL => have := zn.out; omega); intro iI w5 ho hb hg hat; rw [← j9.out] at ho; replace HB := aa.mk (hb); have a8 := aa.mk (ho); clear a9; clear ho hb hg hat))
      go_roundg k1
      case measure => have := HK1.out; omega
      case rel => exact ⟨(fw), (wrap64 (aZ + 1)), (by first | rfl | (simp; done) | (simp [*]; done)), H', ⟨by have := HK1.out; omega⟩, ⟨by (with_reducible repeat (first | apply Kd.R_alloc | apply Kd.QI | apply Kd.QN)); exact a8.out⟩, ⟨bB⟩⟩
     ·rw [if_neg c4] at H; exact absurd H (by simp)
    ·rw [if_neg c3] at H; have bH : decide (aZ < ((Qu l0 0).length : Int)) = false := decide_eq_false c3; clear c3; obtain rfl := Option.some.inj H; have bw : 0 ≤ (0 : Int) := (by omega); have bu : 0 < (l0.length : Int) := of_decide_eq_true (by assumption); obtain ⟨cb, iY, iW, dJ, aK, cj, cl⟩ := ZO HR0.out 0 bw bu; cases dJ; have rh : (0 < l0.length) = True := eq_true (by omega); (try rw [show ((0 : Int)).toNat = 0 from rfl] at aK)
     (try rw [Addr.add_zero'] at aK)
     replace aK := (HB.out.cell (World.block_lt_of_cell? w _ aK)).trans aK; have cC := aa.mk cl; have dm := aa.mk cj; clear cl cj; replace bw := eq_true bw; replace bu := eq_true bu; go_wp2; go_ret; exact ⟨_, by first | rfl | (simp [Qj, Qi] <;> rfl) | (simp [*, Qj, Qi] <;> rfl), by (with_reducible repeat (first | apply Kd.R_alloc | apply Kd.QI | apply Kd.QN)); exact a9.out, bB⟩
   ·rw [if_neg c2] at H; exact absurd H (by simp)
mutual
def Qp.l0 : Nat → List (List Int) → List Int → Int → Option (Int)
 | 0, _, _, _ => none
 | k + 1, x0, x1, x5 => if x5 > 0 then ((Qw.f k (x0.length : Int) x5).bind fun t101 => ((Qw.f k (x1.length : Int) x5).bind fun t104 => (Qp.l1 k x0 x1 x5 t101 t104 0))) else (some 0)
def Qp.l1 : Nat → List (List Int) → List Int → Int → List Int → List Int → Int → Option (Int)
 | 0, _, _, _, _, _, _ => none
 | k + 1, x0, x1, x5, x6, x7, x8 => if x8 < (x6.length : Int) then (Qp.l2 k x0 x1 x5 x6 x7 x8 0) else (Qp.l0 k x0 x1 (wrap64 (x5 - 1)))
def Qp.l2 : Nat → List (List Int) → List Int → Int → List Int → List Int → Int → Int → Option (Int)
 | 0, _, _, _, _, _, _, _ => none
 | k + 1, x0, x1, x5, x6, x7, x8, x9 => if x9 < (x7.length : Int) then (if 0 ≤ x9 then ((Qt.f k (rd x7 x9)).bind fun t108 => (Qp.l3 k x0 x1 x5 x6 x7 x8 x9 ([] : List Int) t108 (t108.length : Int) 0)) else (none)) else (Qp.l1 k x0 x1 x5 x6 x7 (wrap64 (x8 + 1)))
def Qp.l3 : Nat → List (List Int) → List Int → Int → List Int → List Int → Int → Int → List Int → List Int → Int → Int → Option (Int)
 | 0, _, _, _, _, _, _, _, _, _, _, _ => none
 | k + 1, x0, x1, x5, x6, x7, x8, x9, x10, x46, x47, x48 => if x48 < x47 then (if 0 ≤ x48 then (if x48 < (x46.length : Int) then (if 0 ≤ (rd x46 x48) then (if (rd x46 x48) < (x1.length : Int) then (if x10.length < 17592186044416 then (Qp.l3 k x0 x1 x5 x6 x7 x8 x9 (x10 ++ [rd x1 (rd x46 x48)]) x46 x47 (wrap64 (x48 + 1))) else (none)) else (none)) else (none)) else (none)) else (none)) else (if 0 ≤ x8 then (if x8 < (x6.length : Int) then ((Qt.f k (rd x6 x8)).bind fun t117 => ((Zb.f k x0 t117).bind fun t120 => ((Qf.f k t120 x10).bind fun t123 => (if t123 = 0 then (Qp.l2 k x0 x1 x5 x6 x7 x8 (wrap64 (x9 + 1))) else (some x5))))) else (none)) else (none))
end
def Qp.f (k : Nat) (l0 : List (List Int)) (l1 : List Int) : Option (Int) := Qp.l0 k l0 l1 (mn (l0.length : Int) (l1.length : Int))
set_option maxHeartbeats 8000000 in
set_option maxRecDepth 100000 in
theorem Qp.calls (k : Nat) (A0 : Option Addr) (c0 : Nat) (l0 : List (List Int)) (A1 : Option Addr) (c1 : Nat) (l1 : List Int) (r : Int) (w : World) (hr0 : Kd.C (Kd.slice 3 (Kd.int .i64)) w A0 l0.length l0) (hc0 : l0.length ≤ c0) (hr1 : Kd.C (Kd.int .i64) w A1 l1.length l1) (hc1 : l1.length ≤ c1) (h : Qp.f k l0 l1 = some r) :
  Calls Try.prog 97 #[.slice A0 l0.length c0, .slice A1 l1.length c1] w fun e w' => e = .returned (.int .i64 r) ∧ Below w.heap.size w w' := by
 have HR0 := aa.mk hr0; have HC0 := aa.mk hc0; clear hr0 hc0; have HR1 := aa.mk hr1; have HC1 := aa.mk hc1; clear hr1 hc1; have HB := aa.mk (Below.refl w.heap.size w); have H : (Qp.l0 k l0 l1 (mn (l0.length : Int) (l1.length : Int))) = some r := h; clear h; obtain ⟨ji3, gA⟩ : ∃ j_ : Int, (mn (l0.length : Int) (l1.length : Int)) = j_ := ⟨_, rfl⟩; replace H : (Qp.l0 k l0 l1 ji3) = some r := by first | (rw [gA] at H; exact H) | (simp only [gA] at H ⊢; exact H)
 (try (have zS : 0 ≤ ji3 := by (rw [← gA]; unfold mn; (repeat' split) <;> omega)))
 (try (have zR : 0 ≤ ji3 := by omega))
 have ux : (if (l1.length : Int) < (l0.length : Int) then (l1.length : Int) else (l0.length : Int)) = ji3 := gA; have H' := aa.mk H; clear H; go_enter Try.func97, Try.ntmps97; go_wp2; all_goals (
 go_loopg [5] k (fun kq v5 w' => ∃ (ao : Int), v5 = .int .i64 ao ∧ aa (Qp.l0 kq l0 l1 ao = some r) ∧ aa (kq ≤ k) ∧ aa (Below w.heap.size w w'))
 case atStart => exact ⟨(ji3), (by first | rfl | (simp; done) | (congr 1; rw [← gA]; unfold mn; split <;> omega) | (simp [*]; done)), H', ⟨Nat.le_refl _⟩, ⟨bB⟩⟩
 case round =>
  clear H'; try clear c1
  try clear p2
  obtain ⟨ao, rfl, HA, HK1, HB⟩ := hrel; cases gk with
  | zero => exact absurd HA.out (by simp [Qp.l0])
  | succ k1 =>
   have H := HA.out; clear HA; simp only [Qp.l0] at H; by_cases c4 : ao > 0
   ·rw [if_pos c4] at H; have bE : decide (0 < ao) = true := decide_eq_true c4; clear c4; replace H := Option.bind_eq_some_iff.mp H; obtain ⟨t101, A50, H⟩ := H; replace H : ((Qw.f k1 (l1.length : Int) ao).bind fun t104 => (Qp.l1 k1 l0 l1 ao t101 t104 0)) = some r := H; have A5 := aa.mk A50; clear A50; replace H := Option.bind_eq_some_iff.mp H; obtain ⟨t104, A60, H⟩ := H; replace H : (Qp.l1 k1 l0 l1 ao t101 t104 0) = some r := H; have A6 := aa.mk A60; clear A60; have H' := aa.mk H; clear H; go_wp2_with (first | ((with_reducible refine Qg (f := 123) rfl ?_); refine QG (some 25) rfl rfl Try.func123 (by kernel_rfl) rfl #[.int .i64 (l0.length : Int), .int .i64 ao] rfl hA ?_; (with_reducible refine (Qw.calls k1 (l0.length : Int) ao t101 _ A5.out).mono ?_); rintro e w7 ⟨hP, rfl, ho0, hb⟩; refine ⟨_, rfl, ?_⟩; have aX := aa.mk (Kd.Zg ho0 (Qc bB)); replace HB := aa.mk (Qa bB hb); (try clear hb); (try clear hb2); (try clear hk); (try clear hi); (try clear ho0)) | ((with_reducible refine Qg (f := 123) rfl ?_); refine QG (some 29) rfl rfl Try.func123 (by kernel_rfl) rfl #[.int .i64 (l1.length : Int), .int .i64 ao] rfl hA ?_; (with_reducible refine (Qw.calls k1 (l1.length : Int) ao t104 _ A6.out).mono ?_); rintro e w8 ⟨ie, rfl, ho0, hb⟩; refine ⟨_, rfl, ?_⟩; have aY := aa.mk (Kd.Zg (Kd.Zt ho0 (Kd.R_lt aX.out)) (Qc bB)); replace aX := aa.mk (Kd.Zd aX.out (Kd.QS ho0) hb); replace HB := aa.mk (Qa bB hb); (try clear hb); (try clear hb2); (try clear hk); (try clear hi); (try clear ho0)))
    go_loopg [8] k1 (fun kq v8 w' => ∃ (bs : Int), v8 = .int .i64 bs ∧ aa (Qp.l1 kq l0 l1 ao t101 t104 bs = some r) ∧ aa (kq ≤ k1) ∧ aa (Kd.R (Kd.int .i64) 3 w' w.heap.size (fun k_ => some k_ ≠ (ie : Value).ownBlock) hP t101) ∧ aa (Kd.R (Kd.int .i64) 3 w' w.heap.size (fun k_ => some k_ ≠ (hP : Value).ownBlock) ie t104) ∧ aa (Below w.heap.size w w'))
    case atStart => exact ⟨(0), (by first | rfl | (simp; done) | (simp [*]; done)), H', ⟨Nat.le_refl _⟩, ⟨by (with_reducible repeat (first | apply Kd.R_alloc | apply Kd.QI | apply Kd.QN)); exact Kd.Q8 aX.out (fun _ hk => hk.2)⟩, ⟨by (with_reducible repeat (first | apply Kd.R_alloc | apply Kd.QI | apply Kd.QN)); exact Kd.Q8 aY.out (fun _ hk => hk.2)⟩, ⟨bB⟩⟩
    case round =>
     clear H'; try clear c1
     try clear p2
     try clear c4
     try clear bE
     try clear p2
     obtain ⟨bs, rfl, HA, HK2, aI, aC, HB⟩ := hrel; cases gk with
     | zero => exact absurd HA.out (by simp [Qp.l1])
     | succ k2 =>
      have H := HA.out; clear HA; simp only [Qp.l1] at H; by_cases c9 : bs < (t101.length : Int)
      ·rw [if_pos c9] at H; have eU : decide (bs < (t101.length : Int)) = true := decide_eq_true c9; clear c9; have H' := aa.mk H; clear H; obtain ⟨kf, gg, tf⟩ := Kd.Zc aI.out; subst tf; go_wp2; go_loopg [9] k2 (fun kq v9 w' => ∃ (fk : Int), v9 = .int .i64 fk ∧ aa (Qp.l2 kq l0 l1 ao t101 t104 bs fk = some r) ∧ aa (kq ≤ k2) ∧ aa (Kd.R (Kd.int .i64) 3 w' w.heap.size (fun k_ => some k_ ≠ (ie : Value).ownBlock) (.slice kf t101.length gg) t101) ∧ aa (Kd.R (Kd.int .i64) 3 w' w.heap.size (fun k_ => some k_ ≠ ((.slice kf t101.length gg) : Value).ownBlock) ie t104) ∧ aa (Below w.heap.size w w'))
       case atStart => exact ⟨(0), (by first | rfl | (simp; done) | (simp [*]; done)), H', ⟨Nat.le_refl _⟩, ⟨by (with_reducible repeat (first | apply Kd.R_alloc | apply Kd.QI | apply Kd.QN)); exact aI.out⟩, ⟨by (with_reducible repeat (first | apply Kd.R_alloc | apply Kd.QI | apply Kd.QN)); exact aC.out⟩, ⟨bB⟩⟩
       case round =>
        clear H'; try clear c1
        try clear p2
        try clear c4
        try clear bE
        try clear c9
        try clear eU
        try clear p2
        obtain ⟨fk, rfl, HA, HK3, aI, aC, HB⟩ := hrel; cases gk with
        | zero => exact absurd HA.out (by simp [Qp.l2])
        | succ k3 =>
         have H := HA.out; clear HA; simp only [Qp.l2] at H; by_cases c11 : fk < (t104.length : Int)
         ·rw [if_pos c11] at H; have fp : decide (fk < (t104.length : Int)) = true := decide_eq_true c11; clear c11; by_cases c12 : 0 ≤ fk
          ·rw [if_pos c12] at H; have eO : decide (0 ≤ fk) = true := decide_eq_true c12; clear c12; replace H := Option.bind_eq_some_iff.mp H; obtain ⟨t108, pH, H⟩ := H; replace H : (Qp.l3 k3 l0 l1 ao t101 t104 bs fk ([] : List Int) t108 (t108.length : Int) 0) = some r := H; have A13 := aa.mk pH; clear pH; have H' := aa.mk H; clear H; obtain ⟨gQ, ee, mO⟩ := Kd.Zc aC.out; subst mO; have lA : 0 ≤ (fk : Int) := of_decide_eq_true (by assumption); have lz : fk < (t104.length : Int) := of_decide_eq_true (by assumption); obtain ⟨g9, tp, gR⟩ := Kd.Zh (Kd.QA aC.out).2.2 fk lA lz; cases tp; replace lA := eq_true lA; replace lz := eq_true lz; go_wp2_with (first | ((with_reducible refine Qg (f := 103) rfl ?_); refine QG (some 46) rfl rfl Try.func103 (by kernel_rfl) rfl #[.int .i64 (rd t104 fk)] rfl hA ?_; (with_reducible refine (Qt.calls k3 (rd t104 fk) t108 _ A13.out).mono ?_); rintro e w15 ⟨kp, rfl, ho0, hb⟩; refine ⟨_, rfl, ?_⟩; have cv := aa.mk (Kd.Zg (Kd.Zt (Kd.Zt ho0 (Kd.R_lt aI.out)) (Kd.R_lt aC.out)) (Qc bB)); replace aI := aa.mk (Kd.Zd aI.out (Kd.QS ho0) hb); replace aC := aa.mk (Kd.Zd aC.out (Kd.QS ho0) hb); replace HB := aa.mk (Qa bB hb); (try clear hb); (try clear hb2); (try clear hk); (try clear hi); (try clear ho0); obtain ⟨iX, gV, n9⟩ := Kd.Zc cv.out; subst n9))
           go_loopg [10, 48] k3 (fun kq v10 v48 w' => ∃ (fS : List Int) (cE : Int), v48 = .int .i64 cE ∧ aa (Qp.l3 kq l0 l1 ao t101 t104 bs fk fS t108 (t108.length : Int) cE = some r) ∧ aa (kq ≤ k3) ∧ aa (Kd.R (Kd.int .i64) 3 w' w.heap.size (fun k_ => some k_ ≠ ((.slice (some g9) t104.length ee) : Value).ownBlock ∧ some k_ ≠ (v10 : Value).ownBlock ∧ some k_ ≠ ((.slice iX t108.length gV) : Value).ownBlock) (.slice kf t101.length gg) t101) ∧ aa (Kd.R (Kd.int .i64) 3 w' w.heap.size (fun k_ => some k_ ≠ ((.slice kf t101.length gg) : Value).ownBlock ∧ some k_ ≠ (v10 : Value).ownBlock ∧ some k_ ≠ ((.slice iX t108.length gV) : Value).ownBlock) (.slice (some g9) t104.length ee) t104) ∧ aa (Kd.R (Kd.int .i64) 3 w' w.heap.size (fun k_ => some k_ ≠ ((.slice kf t101.length gg) : Value).ownBlock ∧ some k_ ≠ ((.slice (some g9) t104.length ee) : Value).ownBlock ∧ some k_ ≠ ((.slice iX t108.length gV) : Value).ownBlock) v10 fS) ∧ aa (Kd.R (Kd.int .i64) 3 w' w.heap.size (fun k_ => some k_ ≠ ((.slice kf t101.length gg) : Value).ownBlock ∧ some k_ ≠ ((.slice (some g9) t104.length ee) : Value).ownBlock ∧ some k_ ≠ (v10 : Value).ownBlock) (.slice iX t108.length gV) t108) ∧ aa (Below w.heap.size w w'))
           case atStart => exact ⟨(([] : List Int)), (0), (by first | rfl | (simp; done) | (simp [*]; done)), H', ⟨Nat.le_refl _⟩, ⟨by (with_reducible repeat (first | apply Kd.R_alloc | apply Kd.QI | apply Kd.QN)); exact Kd.Q8 aI.out (fun _ hk => ⟨hk.1, ⟨(by simp [Value.ownBlock]), hk.2⟩⟩)⟩, ⟨by (with_reducible repeat (first | apply Kd.R_alloc | apply Kd.QI | apply Kd.QN)); exact Kd.Q8 aC.out (fun _ hk => ⟨hk.1, ⟨(by simp [Value.ownBlock]), hk.2⟩⟩)⟩, ⟨by first | exact Kd.Yg _ _ _ _ _ | exact Kd.Yp _ _ _ _ _ | exact Kd.V_nil _ _ _ _ _ | exact Kd.Q_nil _ _ _ _ _ | exact Kd.Ys _ _ _ _ _⟩, ⟨by (with_reducible repeat (first | apply Kd.R_alloc | apply Kd.QI | apply Kd.QN)); exact Kd.Q8 cv.out (fun _ hk => ⟨hk.1.2, ⟨hk.2, (by simp [Value.ownBlock])⟩⟩)⟩, ⟨bB⟩⟩
           case round =>
            clear H'; try clear c1
            try clear p1
            try clear q1
            try clear hx1
            try clear p2
            try clear c4
            try clear bE
            try clear c9
            try clear eU
            try clear c10
            try clear p10
            try clear q10
            try clear hZ
            try clear c11
            try clear fp
            try clear c12
            try clear eO
            try clear gR
            try clear lA
            try clear p2
            try clear lz
            obtain ⟨fS, cE, rfl, HA, HK4, aI, aC, bO, cO, HB⟩ := hrel; cases gk with
            | zero => exact absurd HA.out (by simp [Qp.l3])
            | succ k4 =>
             have H := HA.out; clear HA; simp only [Qp.l3] at H; by_cases c17 : cE < (t108.length : Int)
             ·rw [if_pos c17] at H; have fT : decide (cE < (t108.length : Int)) = true := decide_eq_true c17; clear c17; by_cases c18 : 0 ≤ cE
              ·rw [if_pos c18] at H; have j6 : decide (0 ≤ cE) = true := decide_eq_true c18; clear c18; by_cases c19 : cE < (t108.length : Int)
               ·rw [if_pos c19] at H; have cN : decide (cE < (t108.length : Int)) = true := decide_eq_true c19; clear c19; by_cases c20 : 0 ≤ (rd t108 cE)
                ·rw [if_pos c20] at H; have gZ : decide (0 ≤ (rd t108 cE)) = true := decide_eq_true c20; clear c20; by_cases c21 : (rd t108 cE) < (l1.length : Int)
                 ·rw [if_pos c21] at H; have iZ : decide ((rd t108 cE) < (l1.length : Int)) = true := decide_eq_true c21; clear c21; by_cases c22 : fS.length < 17592186044416
                  ·rw [if_pos c22] at H; have vx := aa.mk c22; clear c22; obtain ⟨dX, dY⟩ : ∃ y_ : List Int, y_ = (fS ++ [rd l1 (rd t108 cE)]) := ⟨_, rfl⟩; replace H : (Qp.l3 k4 l0 l1 ao t101 t104 bs fk dX t108 (t108.length : Int) (wrap64 (cE + 1))) = some r := by first | (rw [dY]; with_reducible exact H) | (have H2_ := (Option.bind_some _ _).symm.trans H; rw [dY]; with_reducible exact H2_) | (have H2_ := (Option.bind_some _ _).symm.trans H; with_reducible exact H2_) | with_reducible exact H | (rw [dY]; exact H) | exact H
                   have kv := aa.mk dY; clear dY; have H' := aa.mk H; clear H; have iO : 0 ≤ (cE : Int) := of_decide_eq_true (by assumption); have iL : cE < (t108.length : Int) := of_decide_eq_true (by assumption); obtain ⟨ku, oZ, fB⟩ := Kd.Zh (Kd.QA cO.out).2.2 cE iO iL; cases oZ; replace iO := eq_true iO; replace iL := eq_true iL; have ej : 0 ≤ ((rd t108 cE) : Int) := of_decide_eq_true (by assumption); have ei : (rd t108 cE) < (l1.length : Int) := of_decide_eq_true (by assumption); obtain ⟨fv, j3, bq⟩ := Kd.Zh HR1.out (rd t108 cE) ej ei; cases j3; replace bq := (HB.out.cell (World.block_lt_of_cell? w _ bq)).trans bq; replace ej := eq_true ej; replace ei := eq_true ei; go_wp2_with (first | ((with_reducible refine Zr (b := .append) (xs := #[.tmp 52, .tmp 57]) rfl ?_); at_builtin; refine Kd.Ym (Kd.int .i64) (w0 := w) w.heap.size rfl (.tmp 52) (.tmp 57) 28 3 (.int .i64 0) 8 rfl Try.underlying28 info3 rfl (by decide) (by omega) u10 fS (rd l1 (rd t108 cE)) [.int .i64 (rd l1 (rd t108 cE))] (fun k_ => some k_ ≠ (.slice kf t101.length gg : Value).ownBlock ∧ some k_ ≠ (.slice (some g9) t104.length ee : Value).ownBlock ∧ some k_ ≠ (.slice (some ku) t108.length gV : Value).ownBlock) (fun _ => False) rfl rfl ?aP (fun _ hk => hk.elim) ?aF ?aO ?aB ?aS ?aL ?_; (case aP => exact rfl); (case aB => exact bB); (case aF => exact (fun k_ hk => ⟨Kd.fresh' (Kd.R_lt aI.out) k_ hk, Kd.fresh' (Kd.R_lt aC.out) k_ hk, Kd.fresh' (Kd.R_lt cO.out) k_ hk⟩)); (case aO => exact bO.out); (case aS => exact (Qc bB)); (case aL => have := vx.out; omega); intro lu w23 ho hb hg hat; rw [← kv.out] at ho; replace aI := aa.mk (Kd.Yy (ok := (fun k_ => some k_ ≠ (.slice (some g9) t104.length ee : Value).ownBlock ∧ some k_ ≠ (.slice (some ku) t108.length gV : Value).ownBlock)) (by (with_reducible repeat (first | apply Kd.R_alloc | apply Kd.QI | apply Kd.QN)); exact Kd.Q8 aI.out (fun _ hk => ⟨⟨hk.1, hk.2.2⟩, hk.2.1⟩)) hg hat); replace aC := aa.mk (Kd.Yy (ok := (fun k_ => some k_ ≠ (.slice kf t101.length gg : Value).ownBlock ∧ some k_ ≠ (.slice (some ku) t108.length gV : Value).ownBlock)) (by (with_reducible repeat (first | apply Kd.R_alloc | apply Kd.QI | apply Kd.QN)); exact Kd.Q8 aC.out (fun _ hk => ⟨⟨hk.1, hk.2.2⟩, hk.2.1⟩)) hg hat); replace cO := aa.mk (Kd.Yy (ok := (fun k_ => some k_ ≠ (.slice kf t101.length gg : Value).ownBlock ∧ some k_ ≠ (.slice (some g9) t104.length ee : Value).ownBlock)) (by (with_reducible repeat (first | apply Kd.R_alloc | apply Kd.QI | apply Kd.QN)); exact Kd.Q8 cO.out (fun _ hk => ⟨⟨hk.1, hk.2.1⟩, hk.2.2⟩)) hg hat); replace HB := aa.mk (hb); have gP := aa.mk (ho); clear bO; clear ho hb hg hat))
                   go_roundg k4
                   case measure => have := HK1.out; have := HK2.out; have := HK3.out; have := HK4.out; omega
                   case rel => exact ⟨(dX), (wrap64 (cE + 1)), (by first | rfl | (simp; done) | (simp [*]; done)), H', ⟨by have := HK1.out; have := HK2.out; have := HK3.out; have := HK4.out; omega⟩, ⟨by (with_reducible repeat (first | apply Kd.R_alloc | apply Kd.QI | apply Kd.QN)); exact Kd.Q8 aI.out (fun _ hk => ⟨hk.1.1, ⟨hk.2, hk.1.2⟩⟩)⟩, ⟨by (with_reducible repeat (first | apply Kd.R_alloc | apply Kd.QI | apply Kd.QN)); exact Kd.Q8 aC.out (fun _ hk => ⟨hk.1.1, ⟨hk.2, hk.1.2⟩⟩)⟩, ⟨by (with_reducible repeat (first | apply Kd.R_alloc | apply Kd.QI | apply Kd.QN)); exact gP.out⟩, ⟨by (with_reducible repeat (first | apply Kd.R_alloc | apply Kd.QI | apply Kd.QN)); exact Kd.Q8 cO.out (fun _ hk => ⟨hk.1.1, ⟨hk.1.2, hk.2⟩⟩)⟩, ⟨bB⟩⟩
                  ·rw [if_neg c22] at H; exact absurd H (by simp)
                 ·rw [if_neg c21] at H; exact absurd H (by simp)
                ·rw [if_neg c20] at H; exact absurd H (by simp)
               ·rw [if_neg c19] at H; exact absurd H (by simp)
              ·rw [if_neg c18] at H; exact absurd H (by simp)
             ·rw [if_neg c17] at H; have fT : decide (cE < (t108.length : Int)) = false := decide_eq_false c17; clear c17; by_cases c24 : 0 ≤ bs
              ·rw [if_pos c24] at H; have pd : decide (0 ≤ bs) = true := decide_eq_true c24; clear c24; by_cases c25 : bs < (t101.length : Int)
               ·rw [if_pos c25] at H; have rK : decide (bs < (t101.length : Int)) = true := decide_eq_true c25; clear c25; replace H := Option.bind_eq_some_iff.mp H; obtain ⟨t117, pC, H⟩ := H; replace H : ((Zb.f k4 l0 t117).bind fun t120 => ((Qf.f k4 t120 fS).bind fun t123 => (if t123 = 0 then (Qp.l2 k4 l0 l1 ao t101 t104 bs (wrap64 (fk + 1))) else (some ao)))) = some r := H; have A26 := aa.mk pC; clear pC; replace H := Option.bind_eq_some_iff.mp H; obtain ⟨t120, pB, H⟩ := H; replace H : ((Qf.f k4 t120 fS).bind fun t123 => (if t123 = 0 then (Qp.l2 k4 l0 l1 ao t101 t104 bs (wrap64 (fk + 1))) else (some ao))) = some r := H; have A27 := aa.mk pB; clear pB; replace H := Option.bind_eq_some_iff.mp H; obtain ⟨t123, wa, H⟩ := H; replace H : (if t123 = 0 then (Qp.l2 k4 l0 l1 ao t101 t104 bs (wrap64 (fk + 1))) else (some ao)) = some r := H; have A28 := aa.mk wa; clear wa; by_cases c29 : t123 = 0
                ·rw [if_pos c29] at H; have lW : (t123 == 0) = true := beq_iff_eq.mpr c29; have vi : (t123 != 0) = false := bne_eq_false_iff_eq.mpr c29; clear c29; have H' := aa.mk H; clear H; have eT : 0 ≤ (bs : Int) := of_decide_eq_true (by assumption); have eS : bs < (t101.length : Int) := of_decide_eq_true (by assumption); obtain ⟨fU, la, b8⟩ := Kd.Zh (Kd.QA aI.out).2.2 bs eT eS; cases la; replace eT := eq_true eT; replace eS := eq_true eS; go_wp2_with (first | ((with_reducible refine Qg (f := 103) rfl ?_); refine QG (some 65) rfl rfl Try.func103 (by kernel_rfl) rfl #[.int .i64 (rd t101 bs)] rfl hA ?_; (with_reducible refine (Qt.calls k4 (rd t101 bs) t117 _ A26.out).mono ?_); rintro e w30 ⟨xV, rfl, ho0, hb⟩; refine ⟨_, rfl, ?_⟩; have dK := aa.mk (Kd.Zg (Kd.Zt (Kd.Zt (Kd.Zt (Kd.Zt ho0 (Kd.R_lt aI.out)) (Kd.R_lt aC.out)) (Kd.R_lt bO.out)) (Kd.R_lt cO.out)) (Qc bB)); replace aI := aa.mk (Kd.Zd aI.out (Kd.QS ho0) hb); replace aC := aa.mk (Kd.Zd aC.out (Kd.QS ho0) hb); replace bO := aa.mk (Kd.Zd bO.out (Kd.QS ho0) hb); replace cO := aa.mk (Kd.Zd cO.out (Kd.QS ho0) hb); replace HB := aa.mk (Qa bB hb); (try clear hb); (try clear hb2); (try clear hk); (try clear hi); (try clear ho0); obtain ⟨jq, jj, oS⟩ := Kd.Zc dK.out; subst oS) | ((with_reducible refine Qg (f := 102) rfl ?_); refine QG (some 66) rfl rfl Try.func102 (by kernel_rfl) rfl #[.slice A0 l0.length c0, .slice jq t117.length jj] rfl hA ?_; (with_reducible refine (Zb.calls k4 (fun k_ => k_ < w.heap.size) _ _ l0 _ _ t117 t120 _ ?ah ?ai ?aq A27.out).mono ?_); (case ah => exact Kd.V_mk HC0.out (Kd.Yr (Kd.C_F (Kd.Yf 3 (Kd.Yv .i64)) HR0.out) bB)); (case ai => exact (Kd.QA dK.out).2.2); (case aq => exact (Kd.QA dK.out).2.1); rintro e w32 ⟨xT, rfl, ho0, hb⟩; refine ⟨_, rfl, ?_⟩; have gO := aa.mk (Kd.Yj (Kd.Ya (ok' := fun k_ => some k_ ≠ (.slice (some fU) t101.length gg : Value).ownBlock ∧ some k_ ≠ (.slice (some g9) t104.length ee : Value).ownBlock ∧ some k_ ≠ (u10 : Value).ownBlock ∧ some k_ ≠ (.slice iX t108.length gV : Value).ownBlock ∧ some k_ ≠ (.slice jq t117.length jj : Value).ownBlock) ho0 (fun k_ hk_ => ⟨Or.elim hk_ (fun hs_ => fun e_ => Nat.not_le.2 hs_ (Kd.QS aI.out k_ e_.symm)) (fun hn_ => (Kd.fresh' (Kd.R_lt aI.out) k_ hn_)), Or.elim hk_ (fun hs_ => fun e_ => Nat.not_le.2 hs_ (Kd.QS aC.out k_ e_.symm)) (fun hn_ => (Kd.fresh' (Kd.R_lt aC.out) k_ hn_)), Or.elim hk_ (fun hs_ => fun e_ => Nat.not_le.2 hs_ (Kd.QS bO.out k_ e_.symm)) (fun hn_ => (Kd.fresh' (Kd.R_lt bO.out) k_ hn_)), Or.elim hk_ (fun hs_ => fun e_ => Nat.not_le.2 hs_ (Kd.QS cO.out k_ e_.symm)) (fun hn_ => (Kd.fresh' (Kd.R_lt cO.out) k_ hn_)), Or.elim hk_ (fun hs_ => fun e_ => Nat.not_le.2 hs_ (Kd.QS dK.out k_ e_.symm)) (fun hn_ => (Kd.fresh' (Kd.R_lt dK.out) k_ hn_))⟩)) (Qc bB)); replace aI := aa.mk (Kd.QR aI.out hb); replace aC := aa.mk (Kd.QR aC.out hb); replace bO := aa.mk (Kd.QR bO.out hb); replace cO := aa.mk (Kd.QR cO.out hb); replace dK := aa.mk (Kd.QR dK.out hb); replace HB := aa.mk (Qa bB hb); (try clear hb); (try clear hb2); (try clear hk); (try clear hi); (try clear ho0); obtain ⟨ra, qM, s9⟩ := Kd.Yb gO.out; subst s9; obtain ⟨q9, qL, oR⟩ := Kd.Zc bO.out; subst oR) | ((with_reducible refine Qg (f := 124) rfl ?_); refine QG (some 68) rfl rfl Try.func124 (by kernel_rfl) rfl #[.slice ra t120.length qM, .slice q9 fS.length qL] rfl hA ?_; (with_reducible refine (Qf.calls k4 _ _ t120 _ _ fS t123 _ ?ah ?ai ?aq ?ar A28.out).mono ?_); (case ah => exact (Kd.Zi gO.out).2.2); (case ai => exact (Kd.Zi gO.out).2.1); (case aq => exact (Kd.QA bO.out).2.2); (case ar => exact (Kd.QA bO.out).2.1); rintro e w35 ⟨rfl, hb⟩; refine ⟨_, rfl, ?_⟩; replace aI := aa.mk (Kd.QR aI.out hb); replace aC := aa.mk (Kd.QR aC.out hb); replace bO := aa.mk (Kd.QR bO.out hb); replace cO := aa.mk (Kd.QR cO.out hb); replace dK := aa.mk (Kd.QR dK.out hb); replace gO := aa.mk (Kd.Z0 gO.out hb); replace HB := aa.mk (Qa bB hb); (try clear hb); (try clear hb2); (try clear hk); (try clear hi)))
                 go_roundg k4
                 case measure => have := HK1.out; have := HK2.out; have := HK3.out; have := HK4.out; omega
                 case rel => exact ⟨(wrap64 (fk + 1)), (by first | rfl | (simp; done) | (simp [*]; done)), H', ⟨by have := HK1.out; have := HK2.out; have := HK3.out; have := HK4.out; omega⟩, ⟨by (with_reducible repeat (first | apply Kd.R_alloc | apply Kd.QI | apply Kd.QN)); exact Kd.Q8 aI.out (fun _ hk => hk.1.1)⟩, ⟨by (with_reducible repeat (first | apply Kd.R_alloc | apply Kd.QI | apply Kd.QN)); exact Kd.Q8 aC.out (fun _ hk => hk.1.1)⟩, ⟨bB⟩⟩
                ·rw [if_neg c29] at H; have lW : (t123 == 0) = false := beq_eq_false_iff_ne.mpr c29; have vi : (t123 != 0) = true := bne_iff_ne.mpr c29; obtain rfl := Option.some.inj H; have eT : 0 ≤ (bs : Int) := of_decide_eq_true (by assumption); have eS : bs < (t101.length : Int) := of_decide_eq_true (by assumption); obtain ⟨fU, la, b8⟩ := Kd.Zh (Kd.QA aI.out).2.2 bs eT eS; cases la; replace eT := eq_true eT; replace eS := eq_true eS; go_wp2_with (first | ((with_reducible refine Qg (f := 103) rfl ?_); refine QG (some 65) rfl rfl Try.func103 (by kernel_rfl) rfl #[.int .i64 (rd t101 bs)] rfl hA ?_; (with_reducible refine (Qt.calls k4 (rd t101 bs) t117 _ A26.out).mono ?_); rintro e w36 ⟨xV, rfl, ho0, hb⟩; refine ⟨_, rfl, ?_⟩; have dK := aa.mk (Kd.Zg (Kd.Zt (Kd.Zt (Kd.Zt (Kd.Zt ho0 (Kd.R_lt aI.out)) (Kd.R_lt aC.out)) (Kd.R_lt bO.out)) (Kd.R_lt cO.out)) (Qc bB)); replace aI := aa.mk (Kd.Zd aI.out (Kd.QS ho0) hb); replace aC := aa.mk (Kd.Zd aC.out (Kd.QS ho0) hb); replace bO := aa.mk (Kd.Zd bO.out (Kd.QS ho0) hb); replace cO := aa.mk (Kd.Zd cO.out (Kd.QS ho0) hb); replace HB := aa.mk (Qa bB hb); (try clear hb); (try clear hb2); (try clear hk); (try clear hi); (try clear ho0); obtain ⟨q7, qJ, s8⟩ := Kd.Zc dK.out; subst s8) | ((with_reducible refine Qg (f := 102) rfl ?_); refine QG (some 66) rfl rfl Try.func102 (by kernel_rfl) rfl #[.slice A0 l0.length c0, .slice q7 t117.length qJ] rfl hA ?_; (with_reducible refine (Zb.calls k4 (fun k_ => k_ < w.heap.size) _ _ l0 _ _ t117 t120 _ ?ah ?ai ?aq A27.out).mono ?_); (case ah => exact Kd.V_mk HC0.out (Kd.Yr (Kd.C_F (Kd.Yf 3 (Kd.Yv .i64)) HR0.out) bB)); (case ai => exact (Kd.QA dK.out).2.2); (case aq => exact (Kd.QA dK.out).2.1); rintro e w38 ⟨xT, rfl, ho0, hb⟩; refine ⟨_, rfl, ?_⟩; have gO := aa.mk (Kd.Yj (Kd.Ya (ok' := fun k_ => some k_ ≠ (.slice (some fU) t101.length gg : Value).ownBlock ∧ some k_ ≠ (.slice (some g9) t104.length ee : Value).ownBlock ∧ some k_ ≠ (u10 : Value).ownBlock ∧ some k_ ≠ (.slice iX t108.length gV : Value).ownBlock ∧ some k_ ≠ (.slice q7 t117.length qJ : Value).ownBlock) ho0 (fun k_ hk_ => ⟨Or.elim hk_ (fun hs_ => fun e_ => Nat.not_le.2 hs_ (Kd.QS aI.out k_ e_.symm)) (fun hn_ => (Kd.fresh' (Kd.R_lt aI.out) k_ hn_)), Or.elim hk_ (fun hs_ => fun e_ => Nat.not_le.2 hs_ (Kd.QS aC.out k_ e_.symm)) (fun hn_ => (Kd.fresh' (Kd.R_lt aC.out) k_ hn_)), Or.elim hk_ (fun hs_ => fun e_ => Nat.not_le.2 hs_ (Kd.QS bO.out k_ e_.symm)) (fun hn_ => (Kd.fresh' (Kd.R_lt bO.out) k_ hn_)), Or.elim hk_ (fun hs_ => fun e_ => Nat.not_le.2 hs_ (Kd.QS cO.out k_ e_.symm)) (fun hn_ => (Kd.fresh' (Kd.R_lt cO.out) k_ hn_)), Or.elim hk_ (fun hs_ => fun e_ => Nat.not_le.2 hs_ (Kd.QS dK.out k_ e_.symm)) (fun hn_ => (Kd.fresh' (Kd.R_lt dK.out) k_ hn_))⟩)) (Qc bB)); replace aI := aa.mk (Kd.QR aI.out hb); replace aC := aa.mk (Kd.QR aC.out hb); replace bO := aa.mk (Kd.QR bO.out hb); replace cO := aa.mk (Kd.QR cO.out hb); replace dK := aa.mk (Kd.QR dK.out hb); replace HB := aa.mk (Qa bB hb); (try clear hb); (try clear hb2); (try clear hk); (try clear hi); (try clear ho0); obtain ⟨zF, zd, yP⟩ := Kd.Yb gO.out; subst yP; obtain ⟨od, oa, lT⟩ := Kd.Zc bO.out; subst lT) | ((with_reducible refine Qg (f := 124) rfl ?_); refine QG (some 68) rfl rfl Try.func124 (by kernel_rfl) rfl #[.slice zF t120.length zd, .slice od fS.length oa] rfl hA ?_; (with_reducible refine (Qf.calls k4 _ _ t120 _ _ fS t123 _ ?ah ?ai ?aq ?ar A28.out).mono ?_); (case ah => exact (Kd.Zi gO.out).2.2); (case ai => exact (Kd.Zi gO.out).2.1); (case aq => exact (Kd.QA bO.out).2.2); (case ar => exact (Kd.QA bO.out).2.1); rintro e w41 ⟨rfl, hb⟩; refine ⟨_, rfl, ?_⟩; replace aI := aa.mk (Kd.QR aI.out hb); replace aC := aa.mk (Kd.QR aC.out hb); replace bO := aa.mk (Kd.QR bO.out hb); replace cO := aa.mk (Kd.QR cO.out hb); replace dK := aa.mk (Kd.QR dK.out hb); replace gO := aa.mk (Kd.Z0 gO.out hb); replace HB := aa.mk (Qa bB hb); (try clear hb); (try clear hb2); (try clear hk); (try clear hi)))
                 go_ret; exact ⟨by first | rfl | (simp [Qj, Qi] <;> rfl) | (simp only [← gA]; first | rfl | (simp [Qj, Qi] <;> rfl)) | (simp [*, Qj, Qi] <;> rfl), bB⟩
               ·rw [if_neg c25] at H; exact absurd H (by simp)
              ·rw [if_neg c24] at H; exact absurd H (by simp)
          ·rw [if_neg c12] at H; exact absurd H (by simp)
         ·rw [if_neg c11] at H; have fp : decide (fk < (t104.length : Int)) = false := decide_eq_false c11; clear c11; have H' := aa.mk H; clear H; obtain ⟨BC, Bb, yO⟩ := Kd.Zc aC.out; subst yO; go_wp2; go_roundg k3
          case measure => have := HK1.out; have := HK2.out; have := HK3.out; omega
          case rel => exact ⟨(wrap64 (bs + 1)), (by first | rfl | (simp; done) | (simp [*]; done)), H', ⟨by have := HK1.out; have := HK2.out; have := HK3.out; omega⟩, ⟨by (with_reducible repeat (first | apply Kd.R_alloc | apply Kd.QI | apply Kd.QN)); exact aI.out⟩, ⟨by (with_reducible repeat (first | apply Kd.R_alloc | apply Kd.QI | apply Kd.QN)); exact aC.out⟩, ⟨bB⟩⟩
      ·rw [if_neg c9] at H; have eU : decide (bs < (t101.length : Int)) = false := decide_eq_false c9; clear c9; have H' := aa.mk H; clear H; obtain ⟨BB, Ba, yN⟩ := Kd.Zc aI.out; subst yN; go_wp2; go_roundg k2
       case measure => have := HK1.out; have := HK2.out; omega
       case rel => exact ⟨(wrap64 (ao - 1)), (by first | rfl | (simp; done) | (simp [*]; done)), H', ⟨by have := HK1.out; have := HK2.out; omega⟩, ⟨bB⟩⟩
   ·rw [if_neg c4] at H; have bE : decide (0 < ao) = false := decide_eq_false c4; clear c4; obtain rfl := Option.some.inj H; go_wp2; go_ret; exact ⟨by first | rfl | (simp [Qj, Qi] <;> rfl) | (simp only [← gA]; first | rfl | (simp [Qj, Qi] <;> rfl)) | (simp [*, Qj, Qi] <;> rfl), bB⟩
 )
mutual
def Qr.l0 : Nat → List (List Int) → Int → List (List Int) → List (List Int) → Option ((List (List Int)))
 | 0, _, _, _, _ => none
 | k + 1, x3, x4, au, av => if x4 < (au.length : Int) then ((some (([] : List Int) : List Int)).bind fun fw => (if 0 ≤ x4 then (if fw.length + (Qu au x4).length < 17592186044416 then (if x3.length < 5864062014805 then (Qr.l0 k (x3 ++ [(fw ++ (Qu au x4))]) (wrap64 (x4 + 1)) au av) else (none)) else (none)) else (none))) else (Qr.l1 k x3 0 au av)
def Qr.l1 : Nat → List (List Int) → Int → List (List Int) → List (List Int) → Option ((List (List Int)))
 | 0, _, _, _, _ => none
 | k + 1, x3, x5, au, av => if x5 < (av.length : Int) then (Qr.l2 k x3 x5 ([] : List Int) 0 au av) else (some x3)
def Qr.l2 : Nat → List (List Int) → Int → List Int → Int → List (List Int) → List (List Int) → Option ((List (List Int)))
 | 0, _, _, _, _, _, _ => none
 | k + 1, x3, x5, x6, x7, au, av => if 0 ≤ x5 then (if x5 < (av.length : Int) then (if x7 < ((Qu av x5).length : Int) then (if 0 ≤ x7 then (if x6.length < 17592186044416 then (Qr.l2 k x3 x5 (x6 ++ [wrap64 (-(rd (Qu av x5) x7))]) (wrap64 (x7 + 1)) au av) else (none)) else (none)) else (if x3.length < 5864062014805 then (Qr.l1 k (x3 ++ [x6]) (wrap64 (x5 + 1)) au av) else (none))) else (none)) else (none)
end
def Qr.f (k : Nat) (ae : List (List Int)) (af : List (List Int)) : Option ((List (List Int))) := Qr.l0 k ([] : List (List Int)) 0 ae af
set_option maxHeartbeats 8000000 in
set_option maxRecDepth 100000 in
theorem Qr.calls (k : Nat) (ak : Option Addr) (an : Nat) (ae : List (List Int)) (aj : Option Addr) (al : Nat) (af : List (List Int)) (r : List (List Int)) (w : World) (aN : Kd.C (Kd.slice 3 (Kd.int .i64)) w ak ae.length ae) (aT : ae.length ≤ an) (aM : Kd.C (Kd.slice 3 (Kd.int .i64)) w aj af.length af) (aQ : af.length ≤ al) (h : Qr.f k ae af = some r) :
  Calls Try.prog 96 #[.agg #[.slice ak ae.length an, .slice aj af.length al]] w fun e w' => ∃ v0_ : Value, e = .returned (v0_) ∧ Kd.S (Kd.slice 3 (Kd.int .i64)) 28 w' w.heap.size (fun _ => True) v0_ r ∧ Below w.heap.size w w' := by
 have en := Try.underlying24; have aw := aa.mk aN; have az := aa.mk aT; clear aN aT; have ay := aa.mk aM; have aA := aa.mk aQ; clear aM aQ; have HB := aa.mk (Below.refl w.heap.size w); have H : (Qr.l0 k ([] : List (List Int)) 0 ae af) = some r := h; clear h; have H' := aa.mk H; clear H; go_enter Try.func96, Try.ntmps96; go_wp2_with (first | ((with_reducible refine QO (N := 1) rfl ?_); refine Q4 ?hg (N := 1) ?hd (cs := #[.slice ak ae.length an, .slice aj af.length al]) (t := 24) ?hr ?_; (case hd => rfl); (case hg => rfl); (case hr => first | (go_simp; done) | (go_simp; rfl)); intro ag hg w2 hbox hb; have ab := aa.mk (hbox); have bo := aa.mk ((by rw [hg]; exact (Qc bB) : w.heap.size ≤ ag)); have aV := aa.mk ((by rw [hg]; exact (Qc bB) : w.heap.size ≤ ag)); replace HB := aa.mk (Qa bB hb); clear hb hbox hg))
 go_loopg [3, 4] k (fun kq v3 v4 w' => ∃ (cm : List (List Int)) (aZ : Int), v4 = .int .i64 aZ ∧ aa (Qr.l0 kq cm aZ ae af = some r) ∧ aa (kq ≤ k) ∧ aa (Kd.S (Kd.slice 3 (Kd.int .i64)) 28 w' w.heap.size (fun _ => True) v3 cm) ∧ aa (w'.heap[ag]? = some (.cells #[(.slice ak ae.length an), (.slice aj af.length al)] 24 (0, 0))) ∧ aa (Below w.heap.size w w'))
 case atStart => exact ⟨(([] : List (List Int))), (0), (by first | rfl | (simp; done) | (simp [*]; done)), H', ⟨Nat.le_refl _⟩, ⟨by first | exact Kd.Ys _ _ _ _ _ | exact Kd.Yp _ _ _ _ _ | exact Kd.V_nil _ _ _ _ _ | exact Kd.Q_nil _ _ _ _ _ | exact Kd.Yg _ _ _ _ _⟩, ⟨by (with_reducible repeat (first | refine QC ?_ _ | refine QE ?_ | refine Qz ?_ _)); exact ab.out⟩, ⟨bB⟩⟩
 case round =>
  clear H'; try clear p2
  obtain ⟨cm, aZ, rfl, HA, HK1, a9, ab, HB⟩ := hrel; cases gk with
  | zero => exact absurd HA.out (by simp [Qr.l0])
  | succ k1 =>
   have H := HA.out; clear HA; simp only [Qr.l0] at H; by_cases c3 : aZ < (ae.length : Int)
   ·rw [if_pos c3] at H; have bH : decide (aZ < (ae.length : Int)) = true := decide_eq_true c3; clear c3; obtain ⟨fw, ed⟩ : ∃ y_ : List Int, y_ = (([] : List Int)) := ⟨_, rfl⟩; replace H : (if 0 ≤ aZ then (if fw.length + (Qu ae aZ).length < 17592186044416 then (if cm.length < 5864062014805 then (Qr.l0 k1 (cm ++ [(fw ++ (Qu ae aZ))]) (wrap64 (aZ + 1)) ae af) else (none)) else (none)) else (none)) = some r := by first | (rw [ed]; with_reducible exact H) | (have H2_ := (Option.bind_some _ _).symm.trans H; rw [ed]; with_reducible exact H2_) | (have H2_ := (Option.bind_some _ _).symm.trans H; with_reducible exact H2_) | with_reducible exact H | (rw [ed]; exact H) | exact H
    have j9 := aa.mk ed; clear ed; by_cases c4 : 0 ≤ aZ
    ·rw [if_pos c4] at H; have bE : decide (0 ≤ aZ) = true := decide_eq_true c4; clear c4; by_cases c5 : fw.length + (Qu ae aZ).length < 17592186044416
     ·rw [if_pos c5] at H; have tE := aa.mk c5; clear c5; obtain ⟨gi, gy⟩ : ∃ y_ : List Int, y_ = (fw ++ (Qu ae aZ)) := ⟨_, rfl⟩; replace H : (if cm.length < 5864062014805 then (Qr.l0 k1 (cm ++ [gi]) (wrap64 (aZ + 1)) ae af) else (none)) = some r := by first | (rw [gy]; with_reducible exact H) | (have H2_ := (Option.bind_some _ _).symm.trans H; rw [gy]; with_reducible exact H2_) | (have H2_ := (Option.bind_some _ _).symm.trans H; with_reducible exact H2_) | with_reducible exact H | (rw [gy]; exact H) | exact H
      have nN := aa.mk gy; clear gy; by_cases c6 : cm.length < 5864062014805
      ·rw [if_pos c6] at H; have zm := aa.mk c6; clear c6; obtain ⟨eQ, dZ⟩ : ∃ y_ : List (List Int), y_ = (cm ++ [gi]) := ⟨_, rfl⟩; replace H : (Qr.l0 k1 eQ (wrap64 (aZ + 1)) ae af) = some r := by first | (rw [dZ]; with_reducible exact H) | (have H2_ := (Option.bind_some _ _).symm.trans H; rw [dZ]; with_reducible exact H2_) | (have H2_ := (Option.bind_some _ _).symm.trans H; with_reducible exact H2_) | with_reducible exact H | (rw [dZ]; exact H) | exact H
       have l9 := aa.mk dZ; clear dZ; have H' := aa.mk H; clear H; have eM : wr.cell? ⟨ag, 0, none⟩ = some (.slice ak ae.length an) := (Qd ab.out 0).trans rfl; have eK : wr.cell? ⟨ag, 1, none⟩ = some (.slice aj af.length al) := (Qd ab.out 1).trans rfl; have eJ := Qb ab.out 0; have eI := Qb ab.out 1; go_wp2_with (first | ((with_reducible refine QO (N := 16) rfl ?_); refine Kd.YS (Kd.int .i64) _ 3 ?hg (N := 16) ?hd (xs := ([] : List Int)) (inner := []) (ok := fun _ => True) (okp := fun _ => True) ?hr ?hp (fun _ hk => hk) trivial (Below.refl _ _) (Nat.le_refl _) (by simp) ?_; (case hd => rfl); (case hg => rfl); (case hr => first | (go_simp; done) | (go_simp; rfl)); (case hp => exact (Reps.none _ _)); intro iI w8 ho9 hb hg_ hnew_; clear hg_ hnew_; (first | rw [← j9.out] at ho9 | (simp only [Int.reduceToNat] at ho9; rw [← j9.out] at ho9)); replace a9 := aa.mk (Kd.YR a9.out (Kd.QS ho9) hb); have a8 := aa.mk (Kd.Zg ho9 (Qc bB)); replace ab := aa.mk (Qq ab.out hb); replace HB := aa.mk (Qa bB hb); clear hb ho9; have da : w8.cell? ⟨ag, 0, none⟩ = some (.slice ak ae.length an) := (Qd ab.out 0).trans rfl; have cZ : w8.cell? ⟨ag, 1, none⟩ = some (.slice aj af.length al) := (Qd ab.out 1).trans rfl; have cW := Qb ab.out 0; have cV := Qb ab.out 1; have cu : 0 ≤ (aZ : Int) := of_decide_eq_true (by assumption); have cn : aZ < (ae.length : Int) := of_decide_eq_true (by assumption); obtain ⟨fV, pJ, tA, fP, bN, iu, iy⟩ := ZO aw.out aZ cu cn; cases fP; replace bN := (HB.out.cell (World.block_lt_of_cell? w _ bN)).trans bN; have fc := aa.mk iy; have qY := aa.mk iu; clear iy iu; replace cu := eq_true cu; replace cn := eq_true cn) | ((with_reducible refine Zr (b := .append) (xs := #[.tmp 16, .tmp 21]) rfl ?_); at_builtin; refine Kd.Yx (Kd.int .i64) (w0 := w) w.heap.size rfl (.tmp 16) (.tmp 21) 28 3 (.int .i64 0) 8 rfl Try.underlying28 info3 rfl (by decide) (by omega) iI fw (Qu ae aZ) _ _ _ (fun _ => True) (fun _ => False) rfl rfl ?aO ?aR (fun _ _ h => h) (fun _ h => h.elim) ?aF ?aB ?aS ?aL ?_; (case aR => exact (Kd.Qo fc.out HB.out)); (case aB => exact bB); (case aF => exact (fun _ _ => trivial)); (case aO => exact a8.out); (case aS => exact (Qc bB)); (case aL => have := tE.out; omega); intro n4 w11 ho hb hg hat; rw [← nN.out] at ho; replace a9 := aa.mk (Kd.S_after (ok := (fun _ => True)) a9.out hg hat); replace ab := aa.mk (Yl (g := ag) (o := .cells #[.slice (some fV) ae.length an, .slice aj af.length al] 24 (0, 0)) (by (with_reducible repeat (first | refine QC ?_ _ | refine QE ?_ | refine Qz ?_ _)); exact ab.out) hg (Kd.R_ne a8.out ab.out (by decide))); replace HB := aa.mk (hb); have eh := aa.mk (ho); clear a8; clear ho hb hg hat; obtain ⟨gY, gW, te⟩ := Kd.Zc eh.out; subst te) | ((with_reducible refine Zr (b := .append) (xs := #[.tmp 15, .tmp 23]) rfl ?_); at_builtin; refine Kd.UW (Kd.slice 3 (Kd.int .i64)) (w0 := w) w.heap.size rfl (.tmp 15) (.tmp 23) 22 28 (.slice none 0 0) 24 rfl Try.underlying22 info28 rfl (by decide) (by omega) u3 cm gi [.slice gY gi.length gW] (fun _ => True) (fun k_ => some k_ = (.slice gY gi.length gW : Value).ownBlock) rfl rfl ?aP (fun k_ hk_ => ((Kd.Q8 (ok' := fun k_ => ((fun _ => True)) k_ ∧ some k_ ≠ (u3 : Value).ownBlock) (Kd.ZD (eh.out) (Kd.Vq a9.out) (by decide)) (fun k_ hk => ⟨trivial, hk.2⟩))).1 k_ hk_.symm) ?aF ?aO ?aB ?aS ?aL ?_; (case aP => exact Kd.M_row (Kd.Q8 (Kd.Ut rfl (Kd.Q8 (ok' := fun k_ => ((fun _ => True)) k_ ∧ some k_ ≠ (u3 : Value).ownBlock) (Kd.ZD (eh.out) (Kd.Vq a9.out) (by decide)) (fun k_ hk => ⟨trivial, hk.2⟩))) (fun _ h_ => h_))); (case aB => exact bB); (case aF => exact (fun _ _ => trivial)); (case aO => exact (by (with_reducible repeat (first | apply Kd.S_alloc | apply Kd.S_drewN | apply Kd.S_drew)); exact Kd.VE a9.out (fun k_ hk => ⟨trivial, fun e_ => hk.2 e_⟩))); (case aS => exact (Qc bB)); (case aL => have := zm.out; omega); intro mg w12 ho hb hg hat; rw [← l9.out] at ho; replace ab := aa.mk (Yl (g := ag) (o := .cells #[.slice (some fV) ae.length an, .slice aj af.length al] 24 (0, 0)) (by (with_reducible repeat (first | refine QC ?_ _ | refine QE ?_ | refine Qz ?_ _)); exact ab.out) hg (Kd.S_ne a9.out ab.out (by decide))); replace HB := aa.mk (hb); have di := aa.mk (ho); clear eh a9; clear ho hb hg hat))
       go_roundg k1
       case measure => have := HK1.out; omega
       case rel => exact ⟨(eQ), (wrap64 (aZ + 1)), (by first | rfl | (simp; done) | (simp [*]; done)), H', ⟨by have := HK1.out; omega⟩, ⟨by (with_reducible repeat (first | apply Kd.S_alloc | apply Kd.S_drewN | apply Kd.S_drew)); exact di.out⟩, ⟨by (with_reducible repeat (first | refine QC ?_ _ | refine QE ?_ | refine Qz ?_ _)); exact ab.out⟩, ⟨bB⟩⟩
      ·rw [if_neg c6] at H; exact absurd H (by simp)
     ·rw [if_neg c5] at H; exact absurd H (by simp)
    ·rw [if_neg c4] at H; exact absurd H (by simp)
   ·rw [if_neg c3] at H; have bH : decide (aZ < (ae.length : Int)) = false := decide_eq_false c3; clear c3; have H' := aa.mk H; clear H; have e9 : wr.cell? ⟨ag, 0, none⟩ = some (.slice ak ae.length an) := (Qd ab.out 0).trans rfl; have e8 : wr.cell? ⟨ag, 1, none⟩ = some (.slice aj af.length al) := (Qd ab.out 1).trans rfl; have e7 := Qb ab.out 0; have e6 := Qb ab.out 1; go_wp2; go_loopg [3, 5] k1 (fun kq v3 v5 w' => ∃ (cd : List (List Int)) (dv : Int), v5 = .int .i64 dv ∧ aa (Qr.l1 kq cd dv ae af = some r) ∧ aa (kq ≤ k1) ∧ aa (Kd.S (Kd.slice 3 (Kd.int .i64)) 28 w' w.heap.size (fun _ => True) v3 cd) ∧ aa (w'.heap[ag]? = some (.cells #[(.slice ak ae.length an), (.slice aj af.length al)] 24 (0, 0))) ∧ aa (Below w.heap.size w w'))
    case atStart => exact ⟨(cm), (0), (by first | rfl | (simp; done) | (simp [*]; done)), H', ⟨Nat.le_refl _⟩, ⟨by (with_reducible repeat (first | apply Kd.S_alloc | apply Kd.S_drewN | apply Kd.S_drew)); exact a9.out⟩, ⟨by (with_reducible repeat (first | refine QC ?_ _ | refine QE ?_ | refine Qz ?_ _)); exact ab.out⟩, ⟨bB⟩⟩
    case round =>
     clear H'; try clear c1
     try clear p1
     try clear q1
     try clear hx1
     try clear p2
     try clear c3
     try clear bH
     try clear c4
     try clear bE
     try clear c5
     try clear c6
     try clear p6
     try clear c9
     try clear c10
     try clear p10
     try clear q10
     try clear hZ
     try clear da
     try clear cZ
     try clear e9
     try clear e8
     try clear eM
     try clear eK
     try clear cW
     try clear cV
     try clear e7
     try clear e6
     try clear eJ
     try clear eI
     try clear bN
     try clear cu
     try clear p2
     try clear cn
     obtain ⟨cd, dv, rfl, HA, HK2, a9, ab, HB⟩ := hrel; cases gk with
     | zero => exact absurd HA.out (by simp [Qr.l1])
     | succ k2 =>
      have H := HA.out; clear HA; simp only [Qr.l1] at H; by_cases c15 : dv < (af.length : Int)
      ·rw [if_pos c15] at H; have gI : decide (dv < (af.length : Int)) = true := decide_eq_true c15; clear c15; have H' := aa.mk H; clear H; have jN : wr.cell? ⟨ag, 0, none⟩ = some (.slice ak ae.length an) := (Qd ab.out 0).trans rfl; have jM : wr.cell? ⟨ag, 1, none⟩ = some (.slice aj af.length al) := (Qd ab.out 1).trans rfl; have jH := Qb ab.out 0; have jG := Qb ab.out 1; go_wp2; go_loopg [6, 7] k2 (fun kq v6 v7 w' => ∃ (cD : List Int) (db : Int), v7 = .int .i64 db ∧ aa (Qr.l2 kq cd dv cD db ae af = some r) ∧ aa (kq ≤ k2) ∧ aa (Kd.S (Kd.slice 3 (Kd.int .i64)) 28 w' w.heap.size (fun k_ => some k_ ≠ (v6 : Value).ownBlock) u3 cd) ∧ aa (Kd.R (Kd.int .i64) 3 w' w.heap.size (fun _ => True) v6 cD) ∧ aa (w'.heap[ag]? = some (.cells #[(.slice ak ae.length an), (.slice aj af.length al)] 24 (0, 0))) ∧ aa (Below w.heap.size w w'))
       case atStart => exact ⟨(([] : List Int)), (0), (by first | rfl | (simp; done) | (simp [*]; done)), H', ⟨Nat.le_refl _⟩, ⟨by (with_reducible repeat (first | apply Kd.S_alloc | apply Kd.S_drewN | apply Kd.S_drew)); exact Kd.VE a9.out (fun _ hk => (by simp [Value.ownBlock]))⟩, ⟨by first | exact Kd.Yg _ _ _ _ _ | exact Kd.Yp _ _ _ _ _ | exact Kd.V_nil _ _ _ _ _ | exact Kd.Q_nil _ _ _ _ _ | exact Kd.Ys _ _ _ _ _⟩, ⟨by (with_reducible repeat (first | refine QC ?_ _ | refine QE ?_ | refine Qz ?_ _)); exact ab.out⟩, ⟨bB⟩⟩
       case round =>
        clear H'; try clear c1
        try clear p1
        try clear q1
        try clear hx1
        try clear p2
        try clear c3
        try clear bH
        try clear c4
        try clear bE
        try clear c5
        try clear c6
        try clear p6
        try clear c9
        try clear c10
        try clear p10
        try clear q10
        try clear hZ
        try clear c15
        try clear gI
        try clear da
        try clear cZ
        try clear e9
        try clear e8
        try clear jN
        try clear jM
        try clear eM
        try clear eK
        try clear cW
        try clear cV
        try clear e7
        try clear e6
        try clear jH
        try clear jG
        try clear eJ
        try clear eI
        try clear bN
        try clear p1
        try clear p10
        try clear cu
        try clear p2
        try clear p6
        try clear q1
        try clear q10
        try clear cn
        obtain ⟨cD, db, rfl, HA, HK3, a9, aI, ab, HB⟩ := hrel; cases gk with
        | zero => exact absurd HA.out (by simp [Qr.l2])
        | succ k3 =>
         have H := HA.out; clear HA; simp only [Qr.l2] at H; by_cases c17 : 0 ≤ dv
         ·rw [if_pos c17] at H; have fT : decide (0 ≤ dv) = true := decide_eq_true c17; clear c17; by_cases c18 : dv < (af.length : Int)
          ·rw [if_pos c18] at H; have j6 : decide (dv < (af.length : Int)) = true := decide_eq_true c18; clear c18; by_cases c19 : db < ((Qu af dv).length : Int)
           ·rw [if_pos c19] at H; have cN : decide (db < ((Qu af dv).length : Int)) = true := decide_eq_true c19; clear c19; by_cases c20 : 0 ≤ db
            ·rw [if_pos c20] at H; have gZ : decide (0 ≤ db) = true := decide_eq_true c20; clear c20; by_cases c21 : cD.length < 17592186044416
             ·rw [if_pos c21] at H; have vy := aa.mk c21; clear c21; obtain ⟨jR, gu⟩ : ∃ y_ : List Int, y_ = (cD ++ [wrap64 (-(rd (Qu af dv) db))]) := ⟨_, rfl⟩; replace H : (Qr.l2 k3 cd dv jR (wrap64 (db + 1)) ae af) = some r := by first | (rw [gu]; with_reducible exact H) | (have H2_ := (Option.bind_some _ _).symm.trans H; rw [gu]; with_reducible exact H2_) | (have H2_ := (Option.bind_some _ _).symm.trans H; with_reducible exact H2_) | with_reducible exact H | (rw [gu]; exact H) | exact H
              have nL := aa.mk gu; clear gu; have H' := aa.mk H; clear H; have qx : wr.cell? ⟨ag, 0, none⟩ = some (.slice ak ae.length an) := (Qd ab.out 0).trans rfl; have qw : wr.cell? ⟨ag, 1, none⟩ = some (.slice aj af.length al) := (Qd ab.out 1).trans rfl; have qe := Qb ab.out 0; have qd := Qb ab.out 1; have ej : 0 ≤ (dv : Int) := of_decide_eq_true (by assumption); have ei : dv < (af.length : Int) := of_decide_eq_true (by assumption); obtain ⟨fv, pI, mV, j3, bq, eX, e0⟩ := ZO ay.out dv ej ei; cases j3; replace bq := (HB.out.cell (World.block_lt_of_cell? w _ bq)).trans bq; have jO := aa.mk e0; have nX := aa.mk eX; clear e0 eX; replace ej := eq_true ej; replace ei := eq_true ei; have iN : 0 ≤ (dv : Int) := of_decide_eq_true (by assumption); have iK : dv < (af.length : Int) := of_decide_eq_true (by assumption); obtain ⟨l7, zK, zk, oY, b9, nj, nq⟩ := ZO ay.out dv iN iK; obtain rfl : fv = l7 := (by injection oY); replace b9 := (HB.out.cell (World.block_lt_of_cell? w _ b9)).trans b9; have qQ := aa.mk nq; have xM := aa.mk nj; clear nq nj; replace iN := eq_true iN; replace iK := eq_true iK; have ea_ := Option.some.inj (bq.symm.trans b9); injection ea_ with ea_ en_ ec_
              subst ea_; subst ec_; clear en_; have my : 0 ≤ (db : Int) := of_decide_eq_true (by assumption); have mq : db < ((Qu af dv).length : Int) := of_decide_eq_true (by assumption); obtain ⟨pj, tn, eA⟩ := Kd.Zh qQ.out db my mq; cases tn; replace eA := (HB.out.cell (World.block_lt_of_cell? w _ eA)).trans eA; replace my := eq_true my; replace mq := eq_true mq; go_wp2_with (first | ((with_reducible refine Zr (b := .append) (xs := #[.tmp 42, .tmp 52]) rfl ?_); at_builtin; refine Kd.Ym (Kd.int .i64) (w0 := w) w.heap.size rfl (.tmp 42) (.tmp 52) 28 3 (.int .i64 0) 8 rfl Try.underlying28 info3 rfl (by decide) (by omega) u6 cD (wrap64 (-(rd (Qu af dv) db))) [.int .i64 (wrap64 (-(rd (Qu af dv) db)))] (fun _ => True) (fun _ => False) rfl rfl ?aP (fun _ hk => hk.elim) ?aF ?aO ?aB ?aS ?aL ?_; (case aP => exact rfl); (case aB => exact bB); (case aF => exact (fun _ _ => trivial)); (case aO => exact aI.out); (case aS => exact (Qc bB)); (case aL => have := vy.out; omega); intro tY w23 ho hb hg hat; rw [← nL.out] at ho; replace a9 := aa.mk (Kd.S_after (ok := (fun _ => True)) (by (with_reducible repeat (first | apply Kd.S_alloc | apply Kd.S_drewN | apply Kd.S_drew)); exact Kd.VE a9.out (fun _ hk => ⟨trivial, hk⟩)) hg hat); replace ab := aa.mk (Yl (g := ag) (o := .cells #[.slice ak ae.length an, .slice (some fv) af.length al] 24 (0, 0)) (by (with_reducible repeat (first | refine QC ?_ _ | refine QE ?_ | refine Qz ?_ _)); exact ab.out) hg (Kd.R_ne aI.out ab.out (by decide))); replace HB := aa.mk (hb); have b6 := aa.mk (ho); clear aI; clear ho hb hg hat))
              go_roundg k3
              case measure => have := HK1.out; have := HK2.out; have := HK3.out; omega
              case rel => exact ⟨(jR), (wrap64 (db + 1)), (by first | rfl | (simp; done) | (simp [*]; done)), H', ⟨by have := HK1.out; have := HK2.out; have := HK3.out; omega⟩, ⟨by (with_reducible repeat (first | apply Kd.S_alloc | apply Kd.S_drewN | apply Kd.S_drew)); exact Kd.VE a9.out (fun _ hk => hk.2)⟩, ⟨by (with_reducible repeat (first | apply Kd.R_alloc | apply Kd.QI | apply Kd.QN)); exact b6.out⟩, ⟨by (with_reducible repeat (first | refine QC ?_ _ | refine QE ?_ | refine Qz ?_ _)); exact ab.out⟩, ⟨bB⟩⟩
             ·rw [if_neg c21] at H; exact absurd H (by simp)
            ·rw [if_neg c20] at H; exact absurd H (by simp)
           ·rw [if_neg c19] at H; have cN : decide (db < ((Qu af dv).length : Int)) = false := decide_eq_false c19; clear c19; by_cases c24 : cd.length < 5864062014805
            ·rw [if_pos c24] at H; have vw := aa.mk c24; clear c24; obtain ⟨gh, gr⟩ : ∃ y_ : List (List Int), y_ = (cd ++ [cD]) := ⟨_, rfl⟩; replace H : (Qr.l1 k3 gh (wrap64 (dv + 1)) ae af) = some r := by first | (rw [gr]; with_reducible exact H) | (have H2_ := (Option.bind_some _ _).symm.trans H; rw [gr]; with_reducible exact H2_) | (have H2_ := (Option.bind_some _ _).symm.trans H; with_reducible exact H2_) | with_reducible exact H | (rw [gr]; exact H) | exact H
             have nJ := aa.mk gr; clear gr; have H' := aa.mk H; clear H; have xF : wr.cell? ⟨ag, 0, none⟩ = some (.slice ak ae.length an) := (Qd ab.out 0).trans rfl; have xE : wr.cell? ⟨ag, 1, none⟩ = some (.slice aj af.length al) := (Qd ab.out 1).trans rfl; have xc := Qb ab.out 0; have xb := Qb ab.out 1; have ej : 0 ≤ (dv : Int) := of_decide_eq_true (by assumption); have ei : dv < (af.length : Int) := of_decide_eq_true (by assumption); obtain ⟨fv, pI, mV, j3, bq, eX, e0⟩ := ZO ay.out dv ej ei; cases j3; replace bq := (HB.out.cell (World.block_lt_of_cell? w _ bq)).trans bq; have jO := aa.mk e0; have nX := aa.mk eX; clear e0 eX; replace ej := eq_true ej; replace ei := eq_true ei; obtain ⟨tR, tq, ta⟩ := Kd.Zc aI.out; subst ta; go_wp2_with (first | ((with_reducible refine Zr (b := .append) (xs := #[.tmp 54, .tmp 56]) rfl ?_); at_builtin; refine Kd.UW (Kd.slice 3 (Kd.int .i64)) (w0 := w) w.heap.size rfl (.tmp 54) (.tmp 56) 22 28 (.slice none 0 0) 24 rfl Try.underlying22 info28 rfl (by decide) (by omega) u3 cd cD [.slice tR cD.length tq] (fun _ => True) (fun k_ => some k_ = (.slice tR cD.length tq : Value).ownBlock) rfl rfl ?aP (fun k_ hk_ => ((Kd.Q8 (ok' := fun k_ => ((fun _ => True)) k_ ∧ some k_ ≠ (u3 : Value).ownBlock) (Kd.ZD (aI.out) (Kd.Vq a9.out) (by decide)) (fun k_ hk => ⟨trivial, hk.2⟩))).1 k_ hk_.symm) ?aF ?aO ?aB ?aS ?aL ?_; (case aP => exact Kd.M_row (Kd.Q8 (Kd.Ut rfl (Kd.Q8 (ok' := fun k_ => ((fun _ => True)) k_ ∧ some k_ ≠ (u3 : Value).ownBlock) (Kd.ZD (aI.out) (Kd.Vq a9.out) (by decide)) (fun k_ hk => ⟨trivial, hk.2⟩))) (fun _ h_ => h_))); (case aB => exact bB); (case aF => exact (fun _ _ => trivial)); (case aO => exact (by (with_reducible repeat (first | apply Kd.S_alloc | apply Kd.S_drewN | apply Kd.S_drew)); exact Kd.VE a9.out (fun k_ hk => ⟨trivial, fun e_ => hk e_⟩))); (case aS => exact (Qc bB)); (case aL => have := vw.out; omega); intro xU w26 ho hb hg hat; rw [← nJ.out] at ho; replace ab := aa.mk (Yl (g := ag) (o := .cells #[.slice ak ae.length an, .slice (some fv) af.length al] 24 (0, 0)) (by (with_reducible repeat (first | refine QC ?_ _ | refine QE ?_ | refine Qz ?_ _)); exact ab.out) hg (Kd.S_ne a9.out ab.out (by decide))); replace HB := aa.mk (hb); have aU := aa.mk (ho); clear a9 aI; clear ho hb hg hat))
             go_roundg k3
             case measure => have := HK1.out; have := HK2.out; have := HK3.out; omega
             case rel => exact ⟨(gh), (wrap64 (dv + 1)), (by first | rfl | (simp; done) | (simp [*]; done)), H', ⟨by have := HK1.out; have := HK2.out; have := HK3.out; omega⟩, ⟨by (with_reducible repeat (first | apply Kd.S_alloc | apply Kd.S_drewN | apply Kd.S_drew)); exact aU.out⟩, ⟨by (with_reducible repeat (first | refine QC ?_ _ | refine QE ?_ | refine Qz ?_ _)); exact ab.out⟩, ⟨bB⟩⟩
            ·rw [if_neg c24] at H; exact absurd H (by simp)
          ·rw [if_neg c18] at H; exact absurd H (by simp)
         ·rw [if_neg c17] at H; exact absurd H (by simp)
      ·rw [if_neg c15] at H; have gI : decide (dv < (af.length : Int)) = false := decide_eq_false c15; clear c15; obtain rfl := Option.some.inj H; have xD : wr.cell? ⟨ag, 0, none⟩ = some (.slice ak ae.length an) := (Qd ab.out 0).trans rfl; have xC : wr.cell? ⟨ag, 1, none⟩ = some (.slice aj af.length al) := (Qd ab.out 1).trans rfl; have xa := Qb ab.out 0; have wZ := Qb ab.out 1; go_wp2; go_ret; exact ⟨_, by first | rfl | (simp [Qj, Qi] <;> rfl) | (simp [*, Qj, Qi] <;> rfl), by (with_reducible repeat (first | apply Kd.S_alloc | apply Kd.S_drewN | apply Kd.S_drew)); exact a9.out, bB⟩
def QM.l0 : Nat → Int → Int → Option (Int)
 | 0, _, _ => none
 | k + 1, x5, x6 => if x6 > 0 then (if x6 = 0 then (none) else (QM.l0 k x6 (Int.tmod x5 x6))) else (some x5)
def QM.f (k : Nat) (a0 : Int) (a1 : Int) : Option (Int) := QM.l0 k (mx a0 (wrap64 (-a0))) (mx a1 (wrap64 (-a1)))
set_option maxHeartbeats 8000000 in
set_option maxRecDepth 100000 in
theorem QM.calls (k : Nat) (a0 : Int) (a1 : Int) (r : Int) (w : World) (h : QM.f k a0 a1 = some r) :
  Calls Try.prog 125 #[.int .i64 a0, .int .i64 a1] w fun e w' => e = .returned (.int .i64 r) ∧ Below w.heap.size w w' := by
 have HB := aa.mk (Below.refl w.heap.size w); have H : (QM.l0 k (mx a0 (wrap64 (-a0))) (mx a1 (wrap64 (-a1)))) = some r := h; clear h; obtain ⟨ji3, gA⟩ : ∃ j_ : Int, (mx a0 (wrap64 (-a0))) = j_ := ⟨_, rfl⟩; replace H : (QM.l0 k ji3 (mx a1 (wrap64 (-a1)))) = some r := by first | (rw [gA] at H; exact H) | (simp only [gA] at H ⊢; exact H)
 have ux : (if a0 < (wrap64 (-a0)) then (wrap64 (-a0)) else a0) = ji3 := gA; obtain ⟨ji4, gU⟩ : ∃ j_ : Int, (mx a1 (wrap64 (-a1))) = j_ := ⟨_, rfl⟩; replace H : (QM.l0 k ji3 ji4) = some r := by first | (rw [gU] at H; exact H) | (simp only [gU] at H ⊢; exact H)
 have ru : (if a1 < (wrap64 (-a1)) then (wrap64 (-a1)) else a1) = ji4 := gU; have H' := aa.mk H; clear H; go_enter Try.func125, Try.ntmps125; go_wp2; go_loopg [5, 6] k (fun kq v5 v6 w' => ∃ (ao : Int) (ax : Int), v5 = .int .i64 ao ∧ v6 = .int .i64 ax ∧ aa (QM.l0 kq ao ax = some r) ∧ aa (kq ≤ k) ∧ aa (Below w.heap.size w w'))
 case atStart => exact ⟨(ji3), (ji4), (by first | rfl | (simp; done) | (simp only [← gA] <;> (first | rfl | simp)) | (simp [*]; done)), (by first | rfl | (simp; done) | (simp only [← gU] <;> (first | rfl | simp)) | (simp [*]; done)), H', ⟨Nat.le_refl _⟩, ⟨bB⟩⟩
 case round =>
  clear H'; try clear c1
  try clear p2
  obtain ⟨ao, ax, rfl, rfl, HA, HK1, HB⟩ := hrel; cases gk with
  | zero => exact absurd HA.out (by simp [QM.l0])
  | succ k1 =>
   have H := HA.out; clear HA; simp only [QM.l0] at H; by_cases c5 : ax > 0
   ·rw [if_pos c5] at H; have dq : decide (0 < ax) = true := decide_eq_true c5; clear c5; by_cases c6 : ax = 0
    ·rw [if_pos c6] at H; exact absurd H (by simp)
    ·rw [if_neg c6] at H; have gX : (ax == 0) = false := beq_eq_false_iff_ne.mpr c6; have lV : (ax != 0) = true := bne_iff_ne.mpr c6; have H' := aa.mk H; clear H; go_wp2; go_roundg k1
     case measure => have := HK1.out; omega
     case rel => exact ⟨(ax), (Int.tmod ao ax), (by first | rfl | (simp; done) | (simp [*]; done)), (by first | rfl | (simp; done) | (simp [*]; done)), H', ⟨by have := HK1.out; omega⟩, ⟨bB⟩⟩
   ·rw [if_neg c5] at H; have dq : decide (0 < ax) = false := decide_eq_false c5; clear c5; obtain rfl := Option.some.inj H; go_wp2; go_ret; exact ⟨by first | rfl | (simp [Qj, Qi] <;> rfl) | (simp only [← gA, ← gU]; first | rfl | (simp [Qj, Qi] <;> rfl)) | (simp [*, Qj, Qi] <;> rfl), bB⟩
end Go.Proofs.Ytdneelgnmnpanaa.P
end
