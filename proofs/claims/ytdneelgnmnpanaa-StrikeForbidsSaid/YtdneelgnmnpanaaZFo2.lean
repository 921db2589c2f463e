/- What the claim's last text wants, part 2: functions of the translation as Lean functions with their contracts, and plain theorems; no conditions beyond those that each theorem names. -/
import Derived.Test.YtdneelgnmnpanaaZFo1
import Derived.Test.YtdneelgnmnpanaaProg
import Derived.Below
import Derived.Deep.Draws
import Derived.Deep.AppendLies
import Derived.Maps.AppendAt
import Derived.OwnWalk
import Derived.Laws.BytesArg
import Derived.Laws.MakeOwn
import Derived.Laws.OwnMore
import Derived.Deep.OwnRows
import Derived.Tactics
import Derived.Lib.ConvBytes
import Derived.Laws.Slices
import Derived.WalkKit
import Derived.KernelRfl
import Derived.RowKit3
import Derived.Deep.LoopGhost
import Derived.Deep.QuietTactic
import Derived.BigQuiet
import Derived.WideLaws
import Derived.Deep.DeepCutAuto
import Derived.Deep.CutBlock
import Derived.Deep.RegionHeld3
import Derived.Laws.Rows
import Derived.Lib.AppendStr
import Derived.ArgAppend
import Derived.Laws.IdiomCopy
import Derived.OrdersHeld
import Derived.Laws.BitsLemmas
import Derived.RowKit
import Derived.Great.BuildSlice
import Derived.Lib.AppendZeros
import Derived.WalkSpells
import Derived.Deep.MidRow
import Derived.Deep.WholeRow
import Derived.RegionTactic
import Derived.ChangeAlike
set_option linter.unusedVariables false
set_option linter.unusedSimpArgs false
section
namespace Go.Proofs.Ytdneelgnmnpanaa.P
open Go.RowKit Go.Proofs.YtdneelgnmnpanaaW.PrintWords Go.Proofs.YtdneelgnmnpanaaW.PrintLast Go.Proofs.YtdneelgnmnpanaaW.PrintMore
attribute [local go_sem] max2_int min2_int max_two min_two max_three min_three max_four min_four
def errW : Option Int → Value
  | none => .nilIface
  | some c => .iface 0 (.int .i64 c)
theorem Qk : errW none = .nilIface := rfl
theorem Qj (c : Int) : errW (some c) = .iface 0 (.int .i64 c) := rfl
theorem info3 : (Try.prog.info? 3).map (fun i => (i.zero, i.size, i.bytes)) = some (some (.int .i64 0), 1, 8) := by kernel_rfl
theorem info28 : (Try.prog.info? 28).map (fun i => (i.zero, i.size, i.bytes)) = some (some (.slice none 0 0), 1, 24) := by kernel_rfl
theorem info76 : (Try.prog.info? 76).map (fun i => (i.zero, i.size, i.bytes)) = some (some (.agg #[(.int .i64 0), (.int .i64 0), (.int .i64 0), (.int .i64 0), (.int .i64 0), (.int .i64 0)]), 6, 48) := by kernel_rfl
def Qt (xs : List (List Int)) (i : Int) : (List Int) := xs.getD i.toNat ([] : List Int)
theorem ZH {w : World} {A : Option Addr} {n : Nat} {xs : List (List Int)} (h : Kd.C (Kd.slice 3 (Kd.int .i64)) w A n xs) (i : Int) (h0 : 0 ≤ i) (h1 : i < n) : ∃ ad A0 c0, A = some ad ∧ w.cell? (ad.add i.toNat) = some (.slice A0 (Qt xs i).length c0) ∧ (Qt xs i).length ≤ c0 ∧ (Kd.int .i64).C w A0 (Qt xs i).length (Qt xs i) := by
  obtain ⟨ad, c, e, _, hK, hc0⟩ := Kd.C_get h ([] : List Int) i h0 h1; have hc : ∀ j u, c[j]? = some u → w.cell? (ad.add (i.toNat * 1 + j)) = some u := hc0; obtain ⟨A0, c0, rfl, l0, g0⟩ := hK; exact ⟨ad, A0, c0, e, by have hq := hc 0 _ rfl; rwa [Nat.mul_one, Nat.add_zero] at hq, l0, g0⟩
structure S76 where
  f0 : Int
  f1 : Int
  f2 : Int
  f3 : Int
  f4 : Int
  f5 : Int
def z76 : S76 := ⟨(0 : Int), (0 : Int), (0 : Int), (0 : Int), (0 : Int), (0 : Int)⟩
def k76 : Kd S76 := Kd.iso (Kd.pair (Kd.int .i64) (Kd.pair (Kd.int .i64) (Kd.pair (Kd.int .i64) (Kd.pair (Kd.int .i64) (Kd.pair (Kd.int .i64) (Kd.int .i64)))))) (fun x : S76 => (x.f0, x.f1, x.f2, x.f3, x.f4, x.f5))
theorem V8 {w : World} {x : S76} {cs : List Value} (h : k76.K w x cs) : cs = [.int .i64 x.f0, .int .i64 x.f1, .int .i64 x.f2, .int .i64 x.f3, .int .i64 x.f4, .int .i64 x.f5] := by
  obtain ⟨_, _, rfl, rfl, ⟨_, _, rfl, rfl, ⟨_, _, rfl, rfl, ⟨_, _, rfl, rfl, ⟨_, _, rfl, rfl, rfl⟩⟩⟩⟩⟩ := h; exact rfl
theorem k76_openM {w : World} {base : Nat} {ok : Nat → Prop} {x : S76} {cs : List Value} (h : k76.M w base ok x cs) : cs = [.int .i64 x.f0, .int .i64 x.f1, .int .i64 x.f2, .int .i64 x.f3, .int .i64 x.f4, .int .i64 x.f5] := by
  obtain ⟨_, _, rfl, rfl, ⟨_, _, rfl, rfl, ⟨_, _, rfl, rfl, ⟨_, _, rfl, rfl, ⟨_, _, rfl, rfl, rfl⟩⟩⟩⟩⟩ := h; exact rfl
theorem VQ (w : World) (base : Nat) (ok : Nat → Prop) (x : S76)  : k76.M w base ok x [.int .i64 x.f0, .int .i64 x.f1, .int .i64 x.f2, .int .i64 x.f3, .int .i64 x.f4, .int .i64 x.f5] := ⟨[.int .i64 x.f0], [.int .i64 x.f1, .int .i64 x.f2, .int .i64 x.f3, .int .i64 x.f4, .int .i64 x.f5], rfl, rfl, ⟨[.int .i64 x.f1], [.int .i64 x.f2, .int .i64 x.f3, .int .i64 x.f4, .int .i64 x.f5], rfl, rfl, ⟨[.int .i64 x.f2], [.int .i64 x.f3, .int .i64 x.f4, .int .i64 x.f5], rfl, rfl, ⟨[.int .i64 x.f3], [.int .i64 x.f4, .int .i64 x.f5], rfl, rfl, ⟨[.int .i64 x.f4], [.int .i64 x.f5], rfl, rfl, rfl⟩⟩⟩⟩⟩
mutual
def Qy.j0 : Nat → Bool → List (List Int) → List (List Int) → Option (Bool)
 | 0, _, _, _ => none
 | k + 1, x14, ar, au => if x14 = true then (some true) else (Qy.l0 k 0 ar au)
def Qy.l0 : Nat → Int → List (List Int) → List (List Int) → Option (Bool)
 | 0, _, _, _ => none
 | k + 1, x3, ar, au => if x3 < (ar.length : Int) then (if 0 ≤ x3 then (if ((Qt ar x3).length : Int) > 50 then (some true) else (Qy.l0 k (wrap64 (x3 + 1)) ar au)) else (none)) else (Qy.l1 k 0 ar au)
def Qy.l1 : Nat → Int → List (List Int) → List (List Int) → Option (Bool)
 | 0, _, _, _ => none
 | k + 1, x4, ar, au => if x4 < (au.length : Int) then (if 0 ≤ x4 then (if ((Qt au x4).length : Int) > 50 then (some true) else (Qy.l1 k (wrap64 (x4 + 1)) ar au)) else (none)) else (some false)
end
def Qy.f (k : Nat) (ae : List (List Int)) (af : List (List Int)) : Option (Bool) := if (ae.length : Int) > 50 then (Qy.j0 k true ae af) else (Qy.j0 k (decide ((af.length : Int) > 50)) ae af)
set_option maxHeartbeats 8000000 in
set_option maxRecDepth 100000 in
theorem Qy.calls (k : Nat) (ak : Option Addr) (an : Nat) (ae : List (List Int)) (aj : Option Addr) (al : Nat) (af : List (List Int)) (r : Bool) (w : World) (aV : Kd.C (Kd.slice 3 (Kd.int .i64)) w ak ae.length ae) (aX : ae.length ≤ an) (aU : Kd.C (Kd.slice 3 (Kd.int .i64)) w aj af.length af) (aW : af.length ≤ al) (h : Qy.f k ae af = some r) :
  Calls Try.prog 36 #[.agg #[.slice ak ae.length an, .slice aj af.length al]] w fun e w' => e = .returned (.bool r) ∧ Below w.heap.size w w' := by
 have dD := Try.underlying24; have av := aa.mk aV; have aw := aa.mk aX; clear aV aX; have ay := aa.mk aU; have ax := aa.mk aW; clear aU aW; have HB := aa.mk (Below.refl w.heap.size w); have H : (if (ae.length : Int) > 50 then (Qy.j0 k true ae af) else (Qy.j0 k (decide ((af.length : Int) > 50)) ae af)) = some r := h; clear h; have HC2 := aa.mk H; clear H; go_enter Try.func36, Try.ntmps36; go_upto_region 1 with (first | ((with_reducible refine QM (N := 1) rfl ?_); (try (refine ZE (by rfl) ?_; dsimp only)); refine QU ?hg (N := 1) ?hd (cs := #[.slice ak ae.length an, .slice aj af.length al]) (t := 24) ?hr ?_; (case hd => rfl); (case hg => rfl); (case hr => first | (go_simp; done) | (go_simp; rfl)); intro ag hg w3 hbox hb; have ab := aa.mk (hbox); have ba := aa.mk ((by rw [hg]; exact (Qe bB) : w.heap.size ≤ ag)); have aN := aa.mk ((by rw [hg]; exact (Qe bB) : w.heap.size ≤ ag)); replace HB := aa.mk (Qc bB hb); clear hb hbox hg))
 (try simp only [Act.put, zA, zB, zC])
 go_cut [14] (fun v14 wc => ∃ (kq : Nat) (lq : Bool), v14 = .bool lq ∧ aa (Qy.j0 kq lq ae af = some r) ∧ aa (kq ≤ k) ∧ aa (wc.heap[ag]? = some (.cells #[(.slice ak ae.length an), (.slice aj af.length al)] 24 (0, 0))) ∧ aa (Below w.heap.size w wc))
 case first =>
  have H := HC2.out; clear HC2; by_cases c4 : (ae.length : Int) > 50
  ·rw [if_pos c4] at H; have bI : decide (50 < (ae.length : Int)) = true := decide_eq_true c4; have cZ : decide (50 < ae.length) = true := decide_eq_true (by omega); clear c4; (first | rw [bI] | (simp only [QB, QD]; rw [bI]) | skip)
   have H' := aa.mk H; clear H; have fm : w3.cell? ⟨ag, 0, none⟩ = some (.slice ak ae.length an) := (Qb ab.out 0).trans rfl; have fl : w3.cell? ⟨ag, 1, none⟩ = some (.slice aj af.length al) := (Qb ab.out 1).trans rfl; have fi := Qa ab.out 0; have fh := Qa ab.out 1; go_wp2; go_meet
   case rel => exact ⟨_, (true), (by first | rfl | (simp; done) | (simp [*]; done)), H', ⟨by first | omega | exact Nat.le_refl _⟩, ⟨by (with_reducible repeat (first | refine Qv ?_ _ | refine Qx ?_ | refine Qu ?_ _)); exact ab.out⟩, ⟨bB⟩⟩
  ·rw [if_neg c4] at H; have bI : decide (50 < (ae.length : Int)) = false := decide_eq_false c4; have cZ : decide (50 < ae.length) = false := decide_eq_false (by omega); clear c4; (first | rw [bI] | (simp only [QB, QD]; rw [bI]) | skip)
   have H' := aa.mk H; clear H; have fk : w3.cell? ⟨ag, 0, none⟩ = some (.slice ak ae.length an) := (Qb ab.out 0).trans rfl; have fj : w3.cell? ⟨ag, 1, none⟩ = some (.slice aj af.length al) := (Qb ab.out 1).trans rfl; have fg := Qa ab.out 0; have ff := Qa ab.out 1; go_wp2; go_meet
   case rel => exact ⟨_, (decide ((af.length : Int) > 50)), (by first | rfl | (simp; done) | (simp [*]; done)), H', ⟨by first | omega | exact Nat.le_refl _⟩, ⟨by (with_reducible repeat (first | refine Qv ?_ _ | refine Qx ?_ | refine Qu ?_ _)); exact ab.out⟩, ⟨bB⟩⟩
 case rest =>
  clear HC2; try clear p2
  try clear c3
  try clear c4
  try clear bI
  try clear cZ
  try clear fm
  try clear fl
  try clear fk
  try clear fj
  try clear fi
  try clear fh
  try clear fg
  try clear ff
  obtain ⟨kq, lq, rfl, HA, HJ1, ab, HB⟩ := hcut; cases kq with
  | zero => exact absurd HA.out (by simp [Qy.j0])
  | succ kj1 =>
   have H := HA.out; clear HA; simp only [Qy.j0] at H; by_cases c7 : lq = true
   ·subst c7; have H1 : (some true) = some r := by rw [if_pos rfl] at H; exact H
    clear H; have H := H1; clear H1; obtain rfl := Option.some.inj H; go_wp2; go_ret; exact ⟨by first | rfl | (simp [Qk, Qj] <;> rfl) | (simp [*, Qk, Qj] <;> rfl), bB⟩
   ·replace c7 := Bool.eq_false_iff.mpr c7; subst c7; have H1 : (Qy.l0 kj1 0 ae af) = some r := by rw [if_neg (show ¬ (false = true) by decide)] at H; exact H
    clear H; have H := H1; clear H1; have H' := aa.mk H; clear H; go_wp2; go_loopg [3] kj1 (fun kq v3 w' => ∃ (cw : Int), v3 = .int .i64 cw ∧ aa (Qy.l0 kq cw ae af = some r) ∧ aa (kq ≤ kj1) ∧ aa (w'.heap[ag]? = some (.cells #[(.slice ak ae.length an), (.slice aj af.length al)] 24 (0, 0))) ∧ aa (Below w.heap.size w w'))
    case atStart => exact ⟨(0), (by first | rfl | (simp; done) | (simp [*]; done)), H', ⟨Nat.le_refl _⟩, ⟨by (with_reducible repeat (first | refine Qv ?_ _ | refine Qx ?_ | refine Qu ?_ _)); exact ab.out⟩, ⟨bB⟩⟩
    case round =>
     clear H'; try clear p2
     try clear c3
     try clear c4
     try clear bI
     try clear cZ
     try clear c7
     try clear fm
     try clear fl
     try clear fk
     try clear fj
     try clear fi
     try clear fh
     try clear fg
     try clear ff
     try clear p2
     obtain ⟨cw, rfl, HA, HK2, ab, HB⟩ := hrel; cases gk with
     | zero => exact absurd HA.out (by simp [Qy.l0])
     | succ k2 =>
      have H := HA.out; clear HA; simp only [Qy.l0] at H; by_cases c8 : cw < (ae.length : Int)
      ·rw [if_pos c8] at H; have dU : decide (cw < (ae.length : Int)) = true := decide_eq_true c8; clear c8; by_cases c9 : 0 ≤ cw
       ·rw [if_pos c9] at H; have fA : decide (0 ≤ cw) = true := decide_eq_true c9; clear c9; by_cases c10 : ((Qt ae cw).length : Int) > 50
        ·rw [if_pos c10] at H; have eQ : decide (50 < ((Qt ae cw).length : Int)) = true := decide_eq_true c10; have iK : decide (50 < (Qt ae cw).length) = true := decide_eq_true (by omega); clear c10; obtain rfl := Option.some.inj H; have cl : wr.cell? ⟨ag, 0, none⟩ = some (.slice ak ae.length an) := (Qb ab.out 0).trans rfl; have ck : wr.cell? ⟨ag, 1, none⟩ = some (.slice aj af.length al) := (Qb ab.out 1).trans rfl; have cj := Qa ab.out 0; have ch := Qa ab.out 1; have bp : 0 ≤ (cw : Int) := of_decide_eq_true (by assumption); have bo : cw < (ae.length : Int) := of_decide_eq_true (by assumption); obtain ⟨bt, ev, eu, du, aH, cd, cg⟩ := ZH av.out cw bp bo; cases du; replace aH := (HB.out.cell (World.block_lt_of_cell? w _ aH)).trans aH; have cX := aa.mk cg; have dj := aa.mk cd; clear cg cd; replace bp := eq_true bp; replace bo := eq_true bo; go_wp2; go_ret; exact ⟨by first | rfl | (simp [Qk, Qj] <;> rfl) | (simp [*, Qk, Qj] <;> rfl), bB⟩
        ·rw [if_neg c10] at H; have eQ : decide (50 < ((Qt ae cw).length : Int)) = false := decide_eq_false c10; have iK : decide (50 < (Qt ae cw).length) = false := decide_eq_false (by omega); clear c10; have H' := aa.mk H; clear H; have ei : wr.cell? ⟨ag, 0, none⟩ = some (.slice ak ae.length an) := (Qb ab.out 0).trans rfl; have eh : wr.cell? ⟨ag, 1, none⟩ = some (.slice aj af.length al) := (Qb ab.out 1).trans rfl; have eg := Qa ab.out 0; have ef := Qa ab.out 1; have bp : 0 ≤ (cw : Int) := of_decide_eq_true (by assumption); have bo : cw < (ae.length : Int) := of_decide_eq_true (by assumption); obtain ⟨bt, ev, eu, du, aH, cd, cg⟩ := ZH av.out cw bp bo; cases du; replace aH := (HB.out.cell (World.block_lt_of_cell? w _ aH)).trans aH; have cX := aa.mk cg; have dj := aa.mk cd; clear cg cd; replace bp := eq_true bp; replace bo := eq_true bo; go_wp2; go_roundg k2
         case measure => have := HJ1.out; have := HK2.out; omega
         case rel => exact ⟨(wrap64 (cw + 1)), (by first | rfl | (simp; done) | (simp [*]; done)), H', ⟨by have := HJ1.out; have := HK2.out; omega⟩, ⟨by (with_reducible repeat (first | refine Qv ?_ _ | refine Qx ?_ | refine Qu ?_ _)); exact ab.out⟩, ⟨bB⟩⟩
       ·rw [if_neg c9] at H; exact absurd H (by simp)
      ·rw [if_neg c8] at H; have dU : decide (cw < (ae.length : Int)) = false := decide_eq_false c8; clear c8; have H' := aa.mk H; clear H; have dh : wr.cell? ⟨ag, 0, none⟩ = some (.slice ak ae.length an) := (Qb ab.out 0).trans rfl; have dg : wr.cell? ⟨ag, 1, none⟩ = some (.slice aj af.length al) := (Qb ab.out 1).trans rfl; have df := Qa ab.out 0; have de := Qa ab.out 1; go_wp2; go_loopg [4] k2 (fun kq v4 w' => ∃ (ew : Int), v4 = .int .i64 ew ∧ aa (Qy.l1 kq ew ae af = some r) ∧ aa (kq ≤ k2) ∧ aa (w'.heap[ag]? = some (.cells #[(.slice ak ae.length an), (.slice aj af.length al)] 24 (0, 0))) ∧ aa (Below w.heap.size w w'))
       case atStart => exact ⟨(0), (by first | rfl | (simp; done) | (simp [*]; done)), H', ⟨Nat.le_refl _⟩, ⟨by (with_reducible repeat (first | refine Qv ?_ _ | refine Qx ?_ | refine Qu ?_ _)); exact ab.out⟩, ⟨bB⟩⟩
       case round =>
        clear H'; try clear c1
        try clear p1
        try clear q1
        try clear hx1
        try clear p2
        try clear c3
        try clear c4
        try clear bI
        try clear cZ
        try clear p6
        try clear c7
        try clear c8
        try clear dU
        try clear c9
        try clear fA
        try clear c10
        try clear eQ
        try clear iK
        try clear p10
        try clear q10
        try clear hH
        try clear cl
        try clear ck
        try clear ei
        try clear eh
        try clear dh
        try clear dg
        try clear fm
        try clear fl
        try clear fk
        try clear fj
        try clear cj
        try clear ch
        try clear eg
        try clear ef
        try clear df
        try clear de
        try clear fi
        try clear fh
        try clear fg
        try clear ff
        try clear aH
        try clear bp
        try clear p2
        try clear bo
        obtain ⟨ew, rfl, HA, HK3, ab, HB⟩ := hrel; cases gk with
        | zero => exact absurd HA.out (by simp [Qy.l1])
        | succ k3 =>
         have H := HA.out; clear HA; simp only [Qy.l1] at H; by_cases c14 : ew < (af.length : Int)
         ·rw [if_pos c14] at H; have eA : decide (ew < (af.length : Int)) = true := decide_eq_true c14; clear c14; by_cases c15 : 0 ≤ ew
          ·rw [if_pos c15] at H; have iI : decide (0 ≤ ew) = true := decide_eq_true c15; clear c15; by_cases c16 : ((Qt af ew).length : Int) > 50
           ·rw [if_pos c16] at H; have fu : decide (50 < ((Qt af ew).length : Int)) = true := decide_eq_true c16; have rP : decide (50 < (Qt af ew).length) = true := decide_eq_true (by omega); clear c16; obtain rfl := Option.some.inj H; have gv : wr.cell? ⟨ag, 0, none⟩ = some (.slice ak ae.length an) := (Qb ab.out 0).trans rfl; have gu : wr.cell? ⟨ag, 1, none⟩ = some (.slice aj af.length al) := (Qb ab.out 1).trans rfl; have gh := Qa ab.out 0; have gg := Qa ab.out 1; have cn : 0 ≤ (ew : Int) := of_decide_eq_true (by assumption); have cm : ew < (af.length : Int) := of_decide_eq_true (by assumption); obtain ⟨fB, iV, iM, fq, aG, bS, bT⟩ := ZH ay.out ew cn cm; cases fq; replace aG := (HB.out.cell (World.block_lt_of_cell? w _ aG)).trans aG; have gE := aa.mk bT; have gH := aa.mk bS; clear bT bS; replace cn := eq_true cn; replace cm := eq_true cm; go_wp2; go_ret; exact ⟨by first | rfl | (simp [Qk, Qj] <;> rfl) | (simp [*, Qk, Qj] <;> rfl), bB⟩
           ·rw [if_neg c16] at H; have fu : decide (50 < ((Qt af ew).length : Int)) = false := decide_eq_false c16; have rP : decide (50 < (Qt af ew).length) = false := decide_eq_false (by omega); clear c16; have H' := aa.mk H; clear H; have lZ : wr.cell? ⟨ag, 0, none⟩ = some (.slice ak ae.length an) := (Qb ab.out 0).trans rfl; have lY : wr.cell? ⟨ag, 1, none⟩ = some (.slice aj af.length al) := (Qb ab.out 1).trans rfl; have lR := Qa ab.out 0; have lQ := Qa ab.out 1; have cn : 0 ≤ (ew : Int) := of_decide_eq_true (by assumption); have cm : ew < (af.length : Int) := of_decide_eq_true (by assumption); obtain ⟨fB, iV, iM, fq, aG, bS, bT⟩ := ZH ay.out ew cn cm; cases fq; replace aG := (HB.out.cell (World.block_lt_of_cell? w _ aG)).trans aG; have gE := aa.mk bT; have gH := aa.mk bS; clear bT bS; replace cn := eq_true cn; replace cm := eq_true cm; go_wp2; go_roundg k3
            case measure => have := HJ1.out; have := HK2.out; have := HK3.out; omega
            case rel => exact ⟨(wrap64 (ew + 1)), (by first | rfl | (simp; done) | (simp [*]; done)), H', ⟨by have := HJ1.out; have := HK2.out; have := HK3.out; omega⟩, ⟨by (with_reducible repeat (first | refine Qv ?_ _ | refine Qx ?_ | refine Qu ?_ _)); exact ab.out⟩, ⟨bB⟩⟩
          ·rw [if_neg c15] at H; exact absurd H (by simp)
         ·rw [if_neg c14] at H; have eA : decide (ew < (af.length : Int)) = false := decide_eq_false c14; clear c14; obtain rfl := Option.some.inj H; have jI : wr.cell? ⟨ag, 0, none⟩ = some (.slice ak ae.length an) := (Qb ab.out 0).trans rfl; have jH : wr.cell? ⟨ag, 1, none⟩ = some (.slice aj af.length al) := (Qb ab.out 1).trans rfl; have jC := Qa ab.out 0; have jB := Qa ab.out 1; go_wp2; go_ret; exact ⟨by first | rfl | (simp [Qk, Qj] <;> rfl) | (simp [*, Qk, Qj] <;> rfl), bB⟩
def Qp.l0 : Nat → List Int → List Int → Int → Option (Bool)
 | 0, _, _, _ => none
 | k + 1, x0, x1, x5 => if x5 < (x0.length : Int) then (if 0 ≤ x5 then (if x5 < (x1.length : Int) then (if (rd x0 x5) = (rd x1 x5) then (Qp.l0 k x0 x1 (wrap64 (x5 + 1))) else (some false)) else (none)) else (none)) else (some true)
def Qp.f (k : Nat) (l0 : List Int) (l1 : List Int) : Option (Bool) := if (l0.length : Int) = (l1.length : Int) then (Qp.l0 k l0 l1 0) else (some false)
theorem Qp.ZM : ∀ k, (∀ y0 y1 y2, LeO (Qp.l0 k y0 y1 y2) (Qp.l0 (k + 1) y0 y1 y2))
 | 0 => fun _ _ _ r h => by simp [Qp.l0] at h
 | k + 1 => by
  have ih0 := Qp.ZM k
  ·intro y0 y1 y2; unfold Qp.l0; repeat' first | (with_reducible exact ih0 _ _ _) | (with_reducible exact LeO.refl _) | (with_reducible exact LeO.none _) | (with_reducible refine LeO.ite ?_ ?_) | (with_reducible refine LeO.bind ?_ (fun _ => ?_)) | exact ih0 _ _ _ | exact LeO.none _ | refine LeO.ite ?_ ?_ | refine LeO.bind ?_ (fun _ => ?_)
theorem Qp.mono : ∀ a0 a1 k, LeO (Qp.f k a0 a1) (Qp.f (k + 1) a0 a1) := by
 intro a0 a1 k; have ih0 := Qp.ZM k; unfold Qp.f; repeat' first | (with_reducible exact ih0 _ _ _) | (with_reducible exact LeO.refl _) | (with_reducible exact LeO.none _) | (with_reducible refine LeO.ite ?_ ?_) | (with_reducible refine LeO.bind ?_ (fun _ => ?_)) | exact ih0 _ _ _ | exact LeO.none _ | refine LeO.ite ?_ ?_ | refine LeO.bind ?_ (fun _ => ?_)
set_option maxHeartbeats 8000000 in
set_option maxRecDepth 100000 in
theorem Qp.calls (k : Nat) (A0 : Option Addr) (c0 : Nat) (l0 : List Int) (A1 : Option Addr) (c1 : Nat) (l1 : List Int) (r : Bool) (w : World) (hr0 : Kd.C (Kd.int .i64) w A0 l0.length l0) (hc0 : l0.length ≤ c0) (hr1 : Kd.C (Kd.int .i64) w A1 l1.length l1) (hc1 : l1.length ≤ c1) (h : Qp.f k l0 l1 = some r) :
  Calls Try.prog 45 #[.slice A0 l0.length c0, .slice A1 l1.length c1] w fun e w' => e = .returned (.bool r) ∧ Drawn0 w w' := by
 have HR0 := aa.mk hr0; have HC0 := aa.mk hc0; clear hr0 hc0; have HR1 := aa.mk hr1; have HC1 := aa.mk hc1; clear hr1 hc1; have H : (if (l0.length : Int) = (l1.length : Int) then (Qp.l0 k l0 l1 0) else (some false)) = some r := h; clear h; by_cases c3 : (l0.length : Int) = (l1.length : Int)
 ·rw [if_pos c3] at H; have bU : ((l0.length : Int) == (l1.length : Int)) = true := beq_iff_eq.mpr c3; have cE : ((l0.length : Int) != (l1.length : Int)) = false := bne_eq_false_iff_eq.mpr c3; have iE : (l0.length == l1.length) = true := by first | simpa using c3 | (simp at c3 ⊢; omega)
  clear c3; have H' := aa.mk H; clear H; go_enter Try.func45, Try.ntmps45; go_wp2; repeat (go_quiet (fail); try go_wp2)
  go_loopg [5] k (fun kq v5 w' => ∃ (aD : Int), v5 = .int .i64 aD ∧ aa (Qp.l0 kq l0 l1 aD = some r) ∧ aa (kq ≤ k) ∧ Drawn0 w w')
  case atStart => exact ⟨(0), (by first | rfl | (simp; done) | (simp [*]; done)), H', ⟨Nat.le_refl _⟩, by repeat (first | exact Drawn0.refl _ | apply Drawn0.step)⟩
  case round =>
   clear H'; try clear c1
   try clear p2
   try clear c3
   try clear bU
   try clear cE
   try clear iE
   obtain ⟨aD, rfl, HA, HK1, ⟨m1, rfl⟩⟩ := hrel; cases gk with
   | zero => exact absurd HA.out (by simp [Qp.l0])
   | succ k1 =>
    have H := HA.out; clear HA; simp only [Qp.l0] at H; by_cases c4 : aD < (l0.length : Int)
    ·rw [if_pos c4] at H; have bI : decide (aD < (l0.length : Int)) = true := decide_eq_true c4; clear c4; by_cases c5 : 0 ≤ aD
     ·rw [if_pos c5] at H; have dp : decide (0 ≤ aD) = true := decide_eq_true c5; clear c5; by_cases c6 : aD < (l1.length : Int)
      ·rw [if_pos c6] at H; have hU : decide (aD < (l1.length : Int)) = true := decide_eq_true c6; clear c6; by_cases c7 : (rd l0 aD) = (rd l1 aD)
       ·rw [if_pos c7] at H; have jR : ((rd l0 aD) == (rd l1 aD)) = true := beq_iff_eq.mpr c7; have qH : ((rd l0 aD) != (rd l1 aD)) = false := bne_eq_false_iff_eq.mpr c7; clear c7; have H' := aa.mk H; clear H; have bC : 0 ≤ (aD : Int) := of_decide_eq_true (by assumption); have bA : aD < (l0.length : Int) := of_decide_eq_true (by assumption); obtain ⟨eR, dv, bL⟩ := Kd.QZ HR0.out aD bC bA; cases dv; replace bC := eq_true bC; replace bA := eq_true bA; have bp : 0 ≤ (aD : Int) := of_decide_eq_true (by assumption); have bo : aD < (l1.length : Int) := of_decide_eq_true (by assumption); obtain ⟨bt, du, aH⟩ := Kd.QZ HR1.out aD bp bo; cases du; replace bp := eq_true bp; replace bo := eq_true bo; go_wp2; repeat (go_quiet (fail); try go_wp2)
        go_roundg k1
        case measure => have := HK1.out; omega
        case rel => exact ⟨(wrap64 (aD + 1)), (by first | rfl | (simp; done) | (simp [*]; done)), H', ⟨by have := HK1.out; omega⟩, by repeat (first | exact Drawn0.refl _ | apply Drawn0.step)⟩
       ·rw [if_neg c7] at H; have jR : ((rd l0 aD) == (rd l1 aD)) = false := beq_eq_false_iff_ne.mpr c7; have qH : ((rd l0 aD) != (rd l1 aD)) = true := bne_iff_ne.mpr c7; obtain rfl := Option.some.inj H; have bC : 0 ≤ (aD : Int) := of_decide_eq_true (by assumption); have bA : aD < (l0.length : Int) := of_decide_eq_true (by assumption); obtain ⟨eR, dv, bL⟩ := Kd.QZ HR0.out aD bC bA; cases dv; replace bC := eq_true bC; replace bA := eq_true bA; have bp : 0 ≤ (aD : Int) := of_decide_eq_true (by assumption); have bo : aD < (l1.length : Int) := of_decide_eq_true (by assumption); obtain ⟨bt, du, aH⟩ := Kd.QZ HR1.out aD bp bo; cases du; replace bp := eq_true bp; replace bo := eq_true bo; go_wp2; repeat (go_quiet (fail); try go_wp2)
        go_ret; exact ⟨by first | rfl | (simp; done) | (simp [*]; done), by repeat (first | exact Drawn0.refl _ | apply Drawn0.step)⟩
      ·rw [if_neg c6] at H; exact absurd H (by simp)
     ·rw [if_neg c5] at H; exact absurd H (by simp)
    ·rw [if_neg c4] at H; have bI : decide (aD < (l0.length : Int)) = false := decide_eq_false c4; clear c4; obtain rfl := Option.some.inj H; go_wp2; repeat (go_quiet (fail); try go_wp2)
     go_ret; exact ⟨by first | rfl | (simp; done) | (simp [*]; done), by repeat (first | exact Drawn0.refl _ | apply Drawn0.step)⟩
 ·rw [if_neg c3] at H; have bU : ((l0.length : Int) == (l1.length : Int)) = false := beq_eq_false_iff_ne.mpr c3; have cE : ((l0.length : Int) != (l1.length : Int)) = true := bne_iff_ne.mpr c3; have iE : (l0.length == l1.length) = false := by first | simpa using c3 | (simp at c3 ⊢; omega)
  obtain rfl := Option.some.inj H; go_enter Try.func45, Try.ntmps45; go_wp2; repeat (go_quiet (fail); try go_wp2)
  go_ret; exact ⟨by first | rfl | (simp; done) | (simp [*]; done), by repeat (first | exact Drawn0.refl _ | apply Drawn0.step)⟩
mutual
def Qi.j0 : Nat → List Int → Option (Int)
 | 0, _ => none
 | k + 1, x0 => if 0 < (x0.length : Int) then (Qi.l0 k x0 (rd x0 0) 1) else (none)
def Qi.l0 : Nat → List Int → Int → Int → Option (Int)
 | 0, _, _, _ => none
 | k + 1, x0, x3, x4 => if x4 < (x0.length : Int) then (if 0 ≤ x4 then (Qi.l0 k x0 (mn x3 (rd x0 x4)) (wrap64 (x4 + 1))) else (none)) else (some x3)
end
def Qi.f (k : Nat) (l0 : List Int) : Option (Int) := if (l0.length : Int) < 1 then (if 0 ≤ (-1) then (if (-1) < (l0.length : Int) then (Qi.j0 k l0) else (none)) else (none)) else (Qi.j0 k l0)
theorem Qi.ZM : ∀ k, (∀ y0, LeO (Qi.j0 k y0) (Qi.j0 (k + 1) y0)) ∧ (∀ y0 y1 y2, LeO (Qi.l0 k y0 y1 y2) (Qi.l0 (k + 1) y0 y1 y2))
 | 0 => ⟨fun _ r h => by simp [Qi.j0] at h, fun _ _ _ r h => by simp [Qi.l0] at h⟩
 | k + 1 => by
  obtain ⟨ih0, ih1⟩ := Qi.ZM k; refine ⟨?_, ?_⟩ <;> intros <;> (first | unfold Qi.j0 | unfold Qi.l0) <;> repeat' first | (with_reducible exact ih0 _) | (with_reducible exact ih1 _ _ _) | (with_reducible exact LeO.refl _) | (with_reducible exact LeO.none _) | (with_reducible refine LeO.ite ?_ ?_) | (with_reducible refine LeO.bind ?_ (fun _ => ?_)) | exact ih0 _ | exact ih1 _ _ _ | exact LeO.none _ | refine LeO.ite ?_ ?_ | refine LeO.bind ?_ (fun _ => ?_)
theorem Qi.mono : ∀ a0 k, LeO (Qi.f k a0) (Qi.f (k + 1) a0) := by
 intro a0 k; obtain ⟨ih0, ih1⟩ := Qi.ZM k; unfold Qi.f; repeat' first | (with_reducible exact ih0 _) | (with_reducible exact ih1 _ _ _) | (with_reducible exact LeO.refl _) | (with_reducible exact LeO.none _) | (with_reducible refine LeO.ite ?_ ?_) | (with_reducible refine LeO.bind ?_ (fun _ => ?_)) | exact ih0 _ | exact ih1 _ _ _ | exact LeO.none _ | refine LeO.ite ?_ ?_ | refine LeO.bind ?_ (fun _ => ?_)
set_option maxHeartbeats 8000000 in
set_option maxRecDepth 100000 in
theorem Qi.calls (k : Nat) (A0 : Option Addr) (c0 : Nat) (l0 : List Int) (r : Int) (w : World) (hr0 : Kd.C (Kd.int .i64) w A0 l0.length l0) (hc0 : l0.length ≤ c0) (h : Qi.f k l0 = some r) :
  Calls Try.prog 84 #[.slice A0 l0.length c0] w fun e w' => e = .returned (.int .i64 r) ∧ Below w.heap.size w w' := by
 have HR0 := aa.mk hr0; have HC0 := aa.mk hc0; clear hr0 hc0; have HB := aa.mk (Below.refl w.heap.size w); have H : (if (l0.length : Int) < 1 then (if 0 ≤ (-1) then (if (-1) < (l0.length : Int) then (Qi.j0 k l0) else (none)) else (none)) else (Qi.j0 k l0)) = some r := h; clear h; have HC2 := aa.mk H; clear H; go_enter Try.func84, Try.ntmps84; go_upto_if 7 with (fail)
 go_cut [] (fun wc => ∃ (kq : Nat), aa (Qi.j0 kq l0 = some r) ∧ aa (kq ≤ k) ∧ aa (Below w.heap.size w wc))
 case first =>
  have H := HC2.out; clear HC2; by_cases c3 : (l0.length : Int) < 1
  ·rw [if_pos c3] at H; have bU : decide ((l0.length : Int) < 1) = true := decide_eq_true c3; have cE : decide (l0.length < 1) = true := decide_eq_true (by omega); clear c3; (first | rw [bU] | (simp only [QB, QD]; rw [bU]) | skip)
   by_cases c4 : 0 ≤ (-1)
   ·rw [if_pos c4] at H; have bI : decide (0 ≤ (-1)) = true := decide_eq_true c4; clear c4; by_cases c5 : (-1) < (l0.length : Int)
    ·rw [if_pos c5] at H; have dp : decide ((-1) < (l0.length : Int)) = true := decide_eq_true c5; clear c5; have H' := aa.mk H; clear H; exact absurd (show (0 : Int) ≤ -1 from of_decide_eq_true (by assumption)) (by decide)
    ·rw [if_neg c5] at H; exact absurd H (by simp)
   ·rw [if_neg c4] at H; exact absurd H (by simp)
  ·rw [if_neg c3] at H; have bU : decide ((l0.length : Int) < 1) = false := decide_eq_false c3; have cE : decide (l0.length < 1) = false := decide_eq_false (by omega); clear c3; (first | rw [bU] | (simp only [QB, QD]; rw [bU]) | skip)
   have H' := aa.mk H; clear H; go_wp2; go_meet
   case rel => exact ⟨_, H', ⟨by first | omega | exact Nat.le_refl _⟩, ⟨bB⟩⟩
 case rest =>
  clear HC2; try clear p1
  try clear q1
  try clear hx1
  try clear p2
  try clear c3
  try clear bU
  try clear cE
  try clear c4
  try clear bI
  try clear c5
  try clear dp
  try clear bL
  try clear bC
  try clear bA
  obtain ⟨kq, HA, HJ1, HB⟩ := hcut; cases kq with
  | zero => exact absurd HA.out (by simp [Qi.j0])
  | succ kj1 =>
   have H := HA.out; clear HA; simp only [Qi.j0] at H; by_cases c6 : 0 < (l0.length : Int)
   ·rw [if_pos c6] at H; have hU : decide (0 < (l0.length : Int)) = true := decide_eq_true c6; have mA : decide (0 < l0.length) = true := decide_eq_true (by omega); clear c6; have H' := aa.mk H; clear H; have bp : 0 ≤ (0 : Int) := (by omega); have bo : 0 < (l0.length : Int) := of_decide_eq_true (by assumption); obtain ⟨bt, du, aH⟩ := Kd.QZ HR0.out 0 bp bo; cases du; have ph : (0 < l0.length) = True := eq_true (by omega); (try rw [show ((0 : Int)).toNat = 0 from rfl] at aH)
    (try rw [Addr.add_zero'] at aH)
    replace aH := (HB.out.cell (World.block_lt_of_cell? w _ aH)).trans aH; replace bp := eq_true bp; replace bo := eq_true bo; go_wp2; go_loopg [3, 4] kj1 (fun kq v3 v4 w' => ∃ (cw : Int) (az : Int), v3 = .int .i64 cw ∧ v4 = .int .i64 az ∧ aa (Qi.l0 kq l0 cw az = some r) ∧ aa (kq ≤ kj1) ∧ aa (Below w.heap.size w w'))
    case atStart => exact ⟨(rd l0 0), (1), (by first | rfl | (simp; done) | (simp [*]; done)), (by first | rfl | (simp; done) | (simp [*]; done)), H', ⟨Nat.le_refl _⟩, ⟨bB⟩⟩
    case round =>
     clear H'; try clear p1
     try clear q1
     try clear hx1
     try clear qi1
     try clear p2
     try clear c3
     try clear bU
     try clear cE
     try clear c4
     try clear bI
     try clear c5
     try clear dp
     try clear c6
     try clear hU
     try clear mA
     try clear bL
     try clear aH
     try clear p1
     try clear bC
     try clear bp
     try clear p2
     try clear q1
     try clear bA
     try clear bo
     obtain ⟨cw, az, rfl, rfl, HA, HK2, HB⟩ := hrel; cases gk with
     | zero => exact absurd HA.out (by simp [Qi.l0])
     | succ k2 =>
      have H := HA.out; clear HA; simp only [Qi.l0] at H; by_cases c7 : az < (l0.length : Int)
      ·rw [if_pos c7] at H; have jR : decide (az < (l0.length : Int)) = true := decide_eq_true c7; clear c7; by_cases c8 : 0 ≤ az
       ·rw [if_pos c8] at H; have dU : decide (0 ≤ az) = true := decide_eq_true c8; clear c8; obtain ⟨ji9, jy⟩ : ∃ j_ : Int, (mn cw (rd l0 az)) = j_ := ⟨_, rfl⟩; replace H : (Qi.l0 k2 l0 ji9 (wrap64 (az + 1))) = some r := by first | (rw [jy] at H; exact H) | (simp only [jy] at H ⊢; exact H)
        have q9 : (if (rd l0 az) < cw then (rd l0 az) else cw) = ji9 := jy; have H' := aa.mk H; clear H; have cn : 0 ≤ (az : Int) := of_decide_eq_true (by assumption); have cm : az < (l0.length : Int) := of_decide_eq_true (by assumption); obtain ⟨fB, fq, aG⟩ := Kd.QZ HR0.out az cn cm; obtain rfl : bt = fB := (by injection fq); replace aG := (HB.out.cell (World.block_lt_of_cell? w _ aG)).trans aG; replace cn := eq_true cn; replace cm := eq_true cm; go_wp2; go_roundg k2
        case measure => have := HJ1.out; have := HK2.out; omega
        case rel => exact ⟨(ji9), (wrap64 (az + 1)), (by first | rfl | (simp; done) | (simp only [← jy] <;> (first | rfl | simp)) | (simp [*]; done)), (by first | rfl | (simp; done) | (simp [*]; done)), H', ⟨by have := HJ1.out; have := HK2.out; omega⟩, ⟨bB⟩⟩
       ·rw [if_neg c8] at H; exact absurd H (by simp)
      ·rw [if_neg c7] at H; have jR : decide (az < (l0.length : Int)) = false := decide_eq_false c7; clear c7; obtain rfl := Option.some.inj H; go_wp2; go_ret; exact ⟨by first | rfl | (simp [Qk, Qj] <;> rfl) | (simp [*, Qk, Qj] <;> rfl), bB⟩
   ·rw [if_neg c6] at H; exact absurd H (by simp)
def Q6.f (a0 : Int) (a1 : Int) (a2 : Int) : Option (Bool) := if a0 ≥ a1 then (some (decide (a0 ≤ a2))) else (some false)
set_option maxHeartbeats 8000000 in
set_option maxRecDepth 100000 in
theorem Q6.calls (a0 : Int) (a1 : Int) (a2 : Int) (r : Bool) (w : World) (h : Q6.f a0 a1 a2 = some r) :
  Calls Try.prog 75 #[.int .i64 a0, .int .i64 a1, .int .i64 a2] w fun e w' => e = .returned (.bool r) ∧ Drawn0 w w' := by
 have H : (if a0 ≥ a1 then (some (decide (a0 ≤ a2))) else (some false)) = some r := h; clear h; by_cases c4 : a0 ≥ a1
 ·rw [if_pos c4] at H; have bI : decide (a1 ≤ a0) = true := decide_eq_true c4; clear c4; obtain rfl := Option.some.inj H; go_enter Try.func75, Try.ntmps75; go_wp2; go_ret; exact ⟨by first | rfl | (simp; done) | (simp [*]; done), by repeat (first | exact Drawn0.refl _ | apply Drawn0.step)⟩
 ·rw [if_neg c4] at H; have bI : decide (a1 ≤ a0) = false := decide_eq_false c4; clear c4; obtain rfl := Option.some.inj H; go_enter Try.func75, Try.ntmps75; go_wp2; go_ret; exact ⟨by first | rfl | (simp; done) | (simp [*]; done), by repeat (first | exact Drawn0.refl _ | apply Drawn0.step)⟩
mutual
def Qr.j0 : Nat → List Int → Option (Int)
 | 0, _ => none
 | k + 1, x0 => if 0 < (x0.length : Int) then (Qr.l0 k x0 (rd x0 0) 1) else (none)
def Qr.l0 : Nat → List Int → Int → Int → Option (Int)
 | 0, _, _, _ => none
 | k + 1, x0, x3, x4 => if x4 < (x0.length : Int) then (if 0 ≤ x4 then (Qr.l0 k x0 (mx x3 (rd x0 x4)) (wrap64 (x4 + 1))) else (none)) else (some x3)
end
def Qr.f (k : Nat) (l0 : List Int) : Option (Int) := if (l0.length : Int) < 1 then (if 0 ≤ (-1) then (if (-1) < (l0.length : Int) then (Qr.j0 k l0) else (none)) else (none)) else (Qr.j0 k l0)
theorem Qr.ZM : ∀ k, (∀ y0, LeO (Qr.j0 k y0) (Qr.j0 (k + 1) y0)) ∧ (∀ y0 y1 y2, LeO (Qr.l0 k y0 y1 y2) (Qr.l0 (k + 1) y0 y1 y2))
 | 0 => ⟨fun _ r h => by simp [Qr.j0] at h, fun _ _ _ r h => by simp [Qr.l0] at h⟩
 | k + 1 => by
  obtain ⟨ih0, ih1⟩ := Qr.ZM k; refine ⟨?_, ?_⟩ <;> intros <;> (first | unfold Qr.j0 | unfold Qr.l0) <;> repeat' first | (with_reducible exact ih0 _) | (with_reducible exact ih1 _ _ _) | (with_reducible exact LeO.refl _) | (with_reducible exact LeO.none _) | (with_reducible refine LeO.ite ?_ ?_) | (with_reducible refine LeO.bind ?_ (fun _ => ?_)) | exact ih0 _ | exact ih1 _ _ _ | exact LeO.none _ | refine LeO.ite ?_ ?_ | refine LeO.bind ?_ (fun _ => ?_)
theorem Qr.mono : ∀ a0 k, LeO (Qr.f k a0) (Qr.f (k + 1) a0) := by
 intro a0 k; obtain ⟨ih0, ih1⟩ := Qr.ZM k; unfold Qr.f; repeat' first | (with_reducible exact ih0 _) | (with_reducible exact ih1 _ _ _) | (with_reducible exact LeO.refl _) | (with_reducible exact LeO.none _) | (with_reducible refine LeO.ite ?_ ?_) | (with_reducible refine LeO.bind ?_ (fun _ => ?_)) | exact ih0 _ | exact ih1 _ _ _ | exact LeO.none _ | refine LeO.ite ?_ ?_ | refine LeO.bind ?_ (fun _ => ?_)
set_option maxHeartbeats 8000000 in
set_option maxRecDepth 100000 in
theorem Qr.calls (k : Nat) (A0 : Option Addr) (c0 : Nat) (l0 : List Int) (r : Int) (w : World) (hr0 : Kd.C (Kd.int .i64) w A0 l0.length l0) (hc0 : l0.length ≤ c0) (h : Qr.f k l0 = some r) :
  Calls Try.prog 78 #[.slice A0 l0.length c0] w fun e w' => e = .returned (.int .i64 r) ∧ Below w.heap.size w w' := by
 have HR0 := aa.mk hr0; have HC0 := aa.mk hc0; clear hr0 hc0; have HB := aa.mk (Below.refl w.heap.size w); have H : (if (l0.length : Int) < 1 then (if 0 ≤ (-1) then (if (-1) < (l0.length : Int) then (Qr.j0 k l0) else (none)) else (none)) else (Qr.j0 k l0)) = some r := h; clear h; have HC2 := aa.mk H; clear H; go_enter Try.func78, Try.ntmps78; go_upto_if 7 with (fail)
 go_cut [] (fun wc => ∃ (kq : Nat), aa (Qr.j0 kq l0 = some r) ∧ aa (kq ≤ k) ∧ aa (Below w.heap.size w wc))
 case first =>
  have H := HC2.out; clear HC2; by_cases c3 : (l0.length : Int) < 1
  ·rw [if_pos c3] at H; have bU : decide ((l0.length : Int) < 1) = true := decide_eq_true c3; have cE : decide (l0.length < 1) = true := decide_eq_true (by omega); clear c3; (first | rw [bU] | (simp only [QB, QD]; rw [bU]) | skip)
   by_cases c4 : 0 ≤ (-1)
   ·rw [if_pos c4] at H; have bI : decide (0 ≤ (-1)) = true := decide_eq_true c4; clear c4; by_cases c5 : (-1) < (l0.length : Int)
    ·rw [if_pos c5] at H; have dp : decide ((-1) < (l0.length : Int)) = true := decide_eq_true c5; clear c5; have H' := aa.mk H; clear H; exact absurd (show (0 : Int) ≤ -1 from of_decide_eq_true (by assumption)) (by decide)
    ·rw [if_neg c5] at H; exact absurd H (by simp)
   ·rw [if_neg c4] at H; exact absurd H (by simp)
  ·rw [if_neg c3] at H; have bU : decide ((l0.length : Int) < 1) = false := decide_eq_false c3; have cE : decide (l0.length < 1) = false := decide_eq_false (by omega); clear c3; (first | rw [bU] | (simp only [QB, QD]; rw [bU]) | skip)
   have H' := aa.mk H; clear H; go_wp2; go_meet
   case rel => exact ⟨_, H', ⟨by first | omega | exact Nat.le_refl _⟩, ⟨bB⟩⟩
 case rest =>
  clear HC2; try clear p1
  try clear q1
  try clear hx1
  try clear p2
  try clear c3
  try clear bU
  try clear cE
  try clear c4
  try clear bI
  try clear c5
  try clear dp
  try clear bL
  try clear bC
  try clear bA
  obtain ⟨kq, HA, HJ1, HB⟩ := hcut; cases kq with
  | zero => exact absurd HA.out (by simp [Qr.j0])
  | succ kj1 =>
   have H := HA.out; clear HA; simp only [Qr.j0] at H; by_cases c6 : 0 < (l0.length : Int)
   ·rw [if_pos c6] at H; have hU : decide (0 < (l0.length : Int)) = true := decide_eq_true c6; have mA : decide (0 < l0.length) = true := decide_eq_true (by omega); clear c6; have H' := aa.mk H; clear H; have bp : 0 ≤ (0 : Int) := (by omega); have bo : 0 < (l0.length : Int) := of_decide_eq_true (by assumption); obtain ⟨bt, du, aH⟩ := Kd.QZ HR0.out 0 bp bo; cases du; have ph : (0 < l0.length) = True := eq_true (by omega); (try rw [show ((0 : Int)).toNat = 0 from rfl] at aH)
    (try rw [Addr.add_zero'] at aH)
    replace aH := (HB.out.cell (World.block_lt_of_cell? w _ aH)).trans aH; replace bp := eq_true bp; replace bo := eq_true bo; go_wp2; go_loopg [3, 4] kj1 (fun kq v3 v4 w' => ∃ (cw : Int) (az : Int), v3 = .int .i64 cw ∧ v4 = .int .i64 az ∧ aa (Qr.l0 kq l0 cw az = some r) ∧ aa (kq ≤ kj1) ∧ aa (Below w.heap.size w w'))
    case atStart => exact ⟨(rd l0 0), (1), (by first | rfl | (simp; done) | (simp [*]; done)), (by first | rfl | (simp; done) | (simp [*]; done)), H', ⟨Nat.le_refl _⟩, ⟨bB⟩⟩
    case round =>
     clear H'; try clear p1
     try clear q1
     try clear hx1
     try clear qi1
     try clear p2
     try clear c3
     try clear bU
     try clear cE
     try clear c4
     try clear bI
     try clear c5
     try clear dp
     try clear c6
     try clear hU
     try clear mA
     try clear bL
     try clear aH
     try clear p1
     try clear bC
     try clear bp
     try clear p2
     try clear q1
     try clear bA
     try clear bo
     obtain ⟨cw, az, rfl, rfl, HA, HK2, HB⟩ := hrel; cases gk with
     | zero => exact absurd HA.out (by simp [Qr.l0])
     | succ k2 =>
      have H := HA.out; clear HA; simp only [Qr.l0] at H; by_cases c7 : az < (l0.length : Int)
      ·rw [if_pos c7] at H; have jR : decide (az < (l0.length : Int)) = true := decide_eq_true c7; clear c7; by_cases c8 : 0 ≤ az
       ·rw [if_pos c8] at H; have dU : decide (0 ≤ az) = true := decide_eq_true c8; clear c8; obtain ⟨ji9, jy⟩ : ∃ j_ : Int, (mx cw (rd l0 az)) = j_ := ⟨_, rfl⟩; replace H : (Qr.l0 k2 l0 ji9 (wrap64 (az + 1))) = some r := by first | (rw [jy] at H; exact H) | (simp only [jy] at H ⊢; exact H)
        have q9 : (if cw < (rd l0 az) then (rd l0 az) else cw) = ji9 := jy; have H' := aa.mk H; clear H; have cn : 0 ≤ (az : Int) := of_decide_eq_true (by assumption); have cm : az < (l0.length : Int) := of_decide_eq_true (by assumption); obtain ⟨fB, fq, aG⟩ := Kd.QZ HR0.out az cn cm; obtain rfl : bt = fB := (by injection fq); replace aG := (HB.out.cell (World.block_lt_of_cell? w _ aG)).trans aG; replace cn := eq_true cn; replace cm := eq_true cm; go_wp2; go_roundg k2
        case measure => have := HJ1.out; have := HK2.out; omega
        case rel => exact ⟨(ji9), (wrap64 (az + 1)), (by first | rfl | (simp; done) | (simp only [← jy] <;> (first | rfl | simp)) | (simp [*]; done)), (by first | rfl | (simp; done) | (simp [*]; done)), H', ⟨by have := HJ1.out; have := HK2.out; omega⟩, ⟨bB⟩⟩
       ·rw [if_neg c8] at H; exact absurd H (by simp)
      ·rw [if_neg c7] at H; have jR : decide (az < (l0.length : Int)) = false := decide_eq_false c7; clear c7; obtain rfl := Option.some.inj H; go_wp2; go_ret; exact ⟨by first | rfl | (simp [Qk, Qj] <;> rfl) | (simp [*, Qk, Qj] <;> rfl), bB⟩
   ·rw [if_neg c6] at H; exact absurd H (by simp)
def QS.f (ae : List (List Int)) (af : List (List Int)) : Option (Int) := some (wrap64 ((ae.length : Int) + (af.length : Int)))
set_option maxHeartbeats 8000000 in
set_option maxRecDepth 100000 in
theorem QS.calls (ak : Option Addr) (an : Nat) (ae : List (List Int)) (aj : Option Addr) (al : Nat) (af : List (List Int)) (r : Int) (w : World) (aV : Kd.C (Kd.slice 3 (Kd.int .i64)) w ak ae.length ae) (aX : ae.length ≤ an) (aU : Kd.C (Kd.slice 3 (Kd.int .i64)) w aj af.length af) (aW : af.length ≤ al) (h : QS.f ae af = some r) :
  Calls Try.prog 71 #[.agg #[.slice ak ae.length an, .slice aj af.length al]] w fun e w' => e = .returned (.int .i64 r) ∧ Below w.heap.size w w' := by
 have dD := Try.underlying24; have av := aa.mk aV; have aw := aa.mk aX; clear aV aX; have ay := aa.mk aU; have ax := aa.mk aW; clear aU aW; have HB := aa.mk (Below.refl w.heap.size w); have H : (some (wrap64 ((ae.length : Int) + (af.length : Int)))) = some r := h; clear h; obtain rfl := Option.some.inj H; go_enter Try.func71, Try.ntmps71; go_wp2_with (first | ((with_reducible refine QM (N := 1) rfl ?_); refine QU ?hg (N := 1) ?hd (cs := #[.slice ak ae.length an, .slice aj af.length al]) (t := 24) ?hr ?_; (case hd => rfl); (case hg => rfl); (case hr => first | (go_simp; done) | (go_simp; rfl)); intro ag hg w2 hbox hb; have ab := aa.mk (hbox); have ba := aa.mk ((by rw [hg]; exact (Qe bB) : w.heap.size ≤ ag)); have aN := aa.mk ((by rw [hg]; exact (Qe bB) : w.heap.size ≤ ag)); replace HB := aa.mk (Qc bB hb); clear hb hbox hg; have uu : w2.cell? ⟨ag, 0, none⟩ = some (.slice ak ae.length an) := (Qb ab.out 0).trans rfl; have ur : w2.cell? ⟨ag, 1, none⟩ = some (.slice aj af.length al) := (Qb ab.out 1).trans rfl; have uj := Qa ab.out 0; have ui := Qa ab.out 1))
 go_ret; exact ⟨by first | rfl | (simp [Qk, Qj] <;> rfl) | (simp [*, Qk, Qj] <;> rfl), bB⟩
def QK.l0 : Nat → List Int → List Int → Int → Int → Option (Bool)
 | 0, _, _, _, _ => none
 | k + 1, x0, x1, x12, x13 => if x13 < x12 then (if 0 ≤ x13 then (if x13 < (x0.length : Int) then (if x13 < (x1.length : Int) then (if (rd x0 x13) = (rd x1 x13) then (QK.l0 k x0 x1 x12 (wrap64 (x13 + 1))) else (some false)) else (none)) else (none)) else (none)) else (some true)
def QK.f (k : Nat) (l0 : List Int) (l1 : List Int) : Option (Bool) := if (l0.length : Int) = (l1.length : Int) then (QK.l0 k l0 l1 (l0.length : Int) 0) else (some false)
theorem QK.ZM : ∀ k, (∀ y0 y1 y2 y3, LeO (QK.l0 k y0 y1 y2 y3) (QK.l0 (k + 1) y0 y1 y2 y3))
 | 0 => fun _ _ _ _ r h => by simp [QK.l0] at h
 | k + 1 => by
  have ih0 := QK.ZM k
  ·intro y0 y1 y2 y3; unfold QK.l0; repeat' first | (with_reducible exact ih0 _ _ _ _) | (with_reducible exact LeO.refl _) | (with_reducible exact LeO.none _) | (with_reducible refine LeO.ite ?_ ?_) | (with_reducible refine LeO.bind ?_ (fun _ => ?_)) | exact ih0 _ _ _ _ | exact LeO.none _ | refine LeO.ite ?_ ?_ | refine LeO.bind ?_ (fun _ => ?_)
theorem QK.mono : ∀ a0 a1 k, LeO (QK.f k a0 a1) (QK.f (k + 1) a0 a1) := by
 intro a0 a1 k; have ih0 := QK.ZM k; unfold QK.f; repeat' first | (with_reducible exact ih0 _ _ _ _) | (with_reducible exact LeO.refl _) | (with_reducible exact LeO.none _) | (with_reducible refine LeO.ite ?_ ?_) | (with_reducible refine LeO.bind ?_ (fun _ => ?_)) | exact ih0 _ _ _ _ | exact LeO.none _ | refine LeO.ite ?_ ?_ | refine LeO.bind ?_ (fun _ => ?_)
set_option maxHeartbeats 8000000 in
set_option maxRecDepth 100000 in
theorem QK.calls (k : Nat) (A0 : Option Addr) (c0 : Nat) (l0 : List Int) (A1 : Option Addr) (c1 : Nat) (l1 : List Int) (r : Bool) (w : World) (hr0 : Kd.C (Kd.int .i64) w A0 l0.length l0) (hc0 : l0.length ≤ c0) (hr1 : Kd.C (Kd.int .i64) w A1 l1.length l1) (hc1 : l1.length ≤ c1) (h : QK.f k l0 l1 = some r) :
  Calls Try.prog 122 #[.slice A0 l0.length c0, .slice A1 l1.length c1] w fun e w' => e = .returned (.bool r) ∧ Drawn0 w w' := by
 have HR0 := aa.mk hr0; have HC0 := aa.mk hc0; clear hr0 hc0; have HR1 := aa.mk hr1; have HC1 := aa.mk hc1; clear hr1 hc1; have H : (if (l0.length : Int) = (l1.length : Int) then (QK.l0 k l0 l1 (l0.length : Int) 0) else (some false)) = some r := h; clear h; by_cases c3 : (l0.length : Int) = (l1.length : Int)
 ·rw [if_pos c3] at H; have bU : ((l0.length : Int) == (l1.length : Int)) = true := beq_iff_eq.mpr c3; have cE : ((l0.length : Int) != (l1.length : Int)) = false := bne_eq_false_iff_eq.mpr c3; have iE : (l0.length == l1.length) = true := by first | simpa using c3 | (simp at c3 ⊢; omega)
  clear c3; have H' := aa.mk H; clear H; go_enter Try.func122, Try.ntmps122; go_wp2; repeat (go_quiet (fail); try go_wp2)
  go_loopg [13] k (fun kq v13 w' => ∃ (bF : Int), v13 = .int .i64 bF ∧ aa (QK.l0 kq l0 l1 (l0.length : Int) bF = some r) ∧ aa (kq ≤ k) ∧ Drawn0 w w')
  case atStart => exact ⟨(0), (by first | rfl | (simp; done) | (simp [*]; done)), H', ⟨Nat.le_refl _⟩, by repeat (first | exact Drawn0.refl _ | apply Drawn0.step)⟩
  case round =>
   clear H'; try clear c1
   try clear p2
   try clear c3
   try clear bU
   try clear cE
   try clear iE
   obtain ⟨bF, rfl, HA, HK1, ⟨m1, rfl⟩⟩ := hrel; cases gk with
   | zero => exact absurd HA.out (by simp [QK.l0])
   | succ k1 =>
    have H := HA.out; clear HA; simp only [QK.l0] at H; by_cases c4 : bF < (l0.length : Int)
    ·rw [if_pos c4] at H; have bI : decide (bF < (l0.length : Int)) = true := decide_eq_true c4; clear c4; by_cases c5 : 0 ≤ bF
     ·rw [if_pos c5] at H; have dp : decide (0 ≤ bF) = true := decide_eq_true c5; clear c5; by_cases c6 : bF < (l0.length : Int)
      ·rw [if_pos c6] at H; have hU : decide (bF < (l0.length : Int)) = true := decide_eq_true c6; clear c6; by_cases c7 : bF < (l1.length : Int)
       ·rw [if_pos c7] at H; have jR : decide (bF < (l1.length : Int)) = true := decide_eq_true c7; clear c7; by_cases c8 : (rd l0 bF) = (rd l1 bF)
        ·rw [if_pos c8] at H; have dU : ((rd l0 bF) == (rd l1 bF)) = true := beq_iff_eq.mpr c8; have kz : ((rd l0 bF) != (rd l1 bF)) = false := bne_eq_false_iff_eq.mpr c8; clear c8; have H' := aa.mk H; clear H; have bC : 0 ≤ (bF : Int) := of_decide_eq_true (by assumption); have bA : bF < (l0.length : Int) := of_decide_eq_true (by assumption); obtain ⟨eR, dv, bL⟩ := Kd.QZ HR0.out bF bC bA; cases dv; replace bC := eq_true bC; replace bA := eq_true bA; have bp : 0 ≤ (bF : Int) := of_decide_eq_true (by assumption); have bo : bF < (l1.length : Int) := of_decide_eq_true (by assumption); obtain ⟨bt, du, aH⟩ := Kd.QZ HR1.out bF bp bo; cases du; replace bp := eq_true bp; replace bo := eq_true bo; go_wp2; repeat (go_quiet (fail); try go_wp2)
         go_roundg k1
         case measure => have := HK1.out; omega
         case rel => exact ⟨(wrap64 (bF + 1)), (by first | rfl | (simp; done) | (simp [*]; done)), H', ⟨by have := HK1.out; omega⟩, by repeat (first | exact Drawn0.refl _ | apply Drawn0.step)⟩
        ·rw [if_neg c8] at H; have dU : ((rd l0 bF) == (rd l1 bF)) = false := beq_eq_false_iff_ne.mpr c8; have kz : ((rd l0 bF) != (rd l1 bF)) = true := bne_iff_ne.mpr c8; obtain rfl := Option.some.inj H; have bC : 0 ≤ (bF : Int) := of_decide_eq_true (by assumption); have bA : bF < (l0.length : Int) := of_decide_eq_true (by assumption); obtain ⟨eR, dv, bL⟩ := Kd.QZ HR0.out bF bC bA; cases dv; replace bC := eq_true bC; replace bA := eq_true bA; have bp : 0 ≤ (bF : Int) := of_decide_eq_true (by assumption); have bo : bF < (l1.length : Int) := of_decide_eq_true (by assumption); obtain ⟨bt, du, aH⟩ := Kd.QZ HR1.out bF bp bo; cases du; replace bp := eq_true bp; replace bo := eq_true bo; go_wp2; repeat (go_quiet (fail); try go_wp2)
         go_ret; exact ⟨by first | rfl | (simp; done) | (simp [*]; done), by repeat (first | exact Drawn0.refl _ | apply Drawn0.step)⟩
       ·rw [if_neg c7] at H; exact absurd H (by simp)
      ·rw [if_neg c6] at H; exact absurd H (by simp)
     ·rw [if_neg c5] at H; exact absurd H (by simp)
    ·rw [if_neg c4] at H; have bI : decide (bF < (l0.length : Int)) = false := decide_eq_false c4; clear c4; obtain rfl := Option.some.inj H; go_wp2; repeat (go_quiet (fail); try go_wp2)
     go_ret; exact ⟨by first | rfl | (simp; done) | (simp [*]; done), by repeat (first | exact Drawn0.refl _ | apply Drawn0.step)⟩
 ·rw [if_neg c3] at H; have bU : ((l0.length : Int) == (l1.length : Int)) = false := beq_eq_false_iff_ne.mpr c3; have cE : ((l0.length : Int) != (l1.length : Int)) = true := bne_iff_ne.mpr c3; have iE : (l0.length == l1.length) = false := by first | simpa using c3 | (simp at c3 ⊢; omega)
  obtain rfl := Option.some.inj H; go_enter Try.func122, Try.ntmps122; go_wp2; repeat (go_quiet (fail); try go_wp2)
  go_ret; exact ⟨by first | rfl | (simp; done) | (simp [*]; done), by repeat (first | exact Drawn0.refl _ | apply Drawn0.step)⟩
def Zr.f (l0 : List Int) : Option (Bool) := some (decide ((l0.length : Int) > 100))
set_option maxHeartbeats 8000000 in
set_option maxRecDepth 100000 in
theorem Zr.calls (A0 : Option Addr) (c0 : Nat) (l0 : List Int) (r : Bool) (w : World) (hr0 : Kd.C (Kd.int .i64) w A0 l0.length l0) (hc0 : l0.length ≤ c0) (h : Zr.f l0 = some r) :
  Calls Try.prog 49 #[.slice A0 l0.length c0] w fun e w' => e = .returned (.bool r) ∧ Drawn0 w w' := by
 have HR0 := aa.mk hr0; have HC0 := aa.mk hc0; clear hr0 hc0; have H : (some (decide ((l0.length : Int) > 100))) = some r := h; clear h; obtain rfl := Option.some.inj H; go_enter Try.func49, Try.ntmps49; go_wp2; go_ret; exact ⟨by first | rfl | (simp; done) | (simp [*]; done), by repeat (first | exact Drawn0.refl _ | apply Drawn0.step)⟩
def Zm.l0 : Nat → Int → Int → Option (Int)
 | 0, _, _ => none
 | k + 1, x0, x1 => if x1 = 0 then (some (mx x0 (wrap64 (-x0)))) else (Zm.l0 k x1 (Int.tmod x0 x1))
def Zm.f (k : Nat) (a0 : Int) (a1 : Int) : Option (Int) := Zm.l0 k a0 a1
set_option maxHeartbeats 8000000 in
set_option maxRecDepth 100000 in
theorem Zm.calls (k : Nat) (a0 : Int) (a1 : Int) (r : Int) (w : World) (h : Zm.f k a0 a1 = some r) :
  Calls Try.prog 117 #[.int .i64 a0, .int .i64 a1] w fun e w' => e = .returned (.int .i64 r) ∧ Below w.heap.size w w' := by
 have HB := aa.mk (Below.refl w.heap.size w); have H : (Zm.l0 k a0 a1) = some r := h; clear h; have H' := aa.mk H; clear H; go_enter Try.func117, Try.ntmps117; go_wp2; repeat (go_quiet (fail); try go_wp2)
 go_loopg [0, 1] k (fun kq v0 v1 w' => ∃ (iY : Int) (iX : Int), v0 = .int .i64 iY ∧ v1 = .int .i64 iX ∧ aa (Zm.l0 kq iY iX = some r) ∧ aa (kq ≤ k) ∧ aa (Below w.heap.size w w'))
 case atStart => exact ⟨(a0), (a1), (by first | rfl | (simp; done) | (simp [*]; done)), (by first | rfl | (simp; done) | (simp [*]; done)), H', ⟨Nat.le_refl _⟩, ⟨bB⟩⟩
 case round =>
  clear H'; try clear c1
  try clear p2
  obtain ⟨iY, iX, rfl, rfl, HA, HK1, HB⟩ := hrel; cases gk with
  | zero => exact absurd HA.out (by simp [Zm.l0])
  | succ k1 =>
   have H := HA.out; clear HA; simp only [Zm.l0] at H; by_cases c3 : iX = 0
   ·rw [if_pos c3] at H; have bU : (iX == 0) = true := beq_iff_eq.mpr c3; have cE : (iX != 0) = false := bne_eq_false_iff_eq.mpr c3; clear c3; obtain ⟨ji4, nD⟩ : ∃ j_ : Int, (mx iY (wrap64 (-iY))) = j_ := ⟨_, rfl⟩; replace H : (some ji4) = some r := by first | (rw [nD] at H; exact H) | (simp only [nD] at H ⊢; exact H)
    have vD : (if iY < (wrap64 (-iY)) then (wrap64 (-iY)) else iY) = ji4 := nD; obtain rfl := Option.some.inj H; go_wp2; repeat (go_quiet (fail); try go_wp2)
    go_ret; exact ⟨by first | rfl | (simp [Qk, Qj] <;> rfl) | (simp only [← nD]; first | rfl | (simp [Qk, Qj] <;> rfl)) | (simp [*, Qk, Qj] <;> rfl), bB⟩
   ·rw [if_neg c3] at H; have bU : (iX == 0) = false := beq_eq_false_iff_ne.mpr c3; have cE : (iX != 0) = true := bne_iff_ne.mpr c3; have H' := aa.mk H; clear H; go_wp2; repeat (go_quiet (fail); try go_wp2)
    go_roundg k1
    case measure => have := HK1.out; omega
    case rel => exact ⟨(iX), (Int.tmod iY iX), (by first | rfl | (simp; done) | (simp [*]; done)), (by first | rfl | (simp; done) | (simp [*]; done)), H', ⟨by have := HK1.out; omega⟩, ⟨bB⟩⟩
def QW.l0 : Nat → List Int → Int → Int → Int → Option (Int)
 | 0, _, _, _, _ => none
 | k + 1, x0, x1, x7, x8 => if x8 < x7 then (if 0 ≤ x8 then (if x8 < (x0.length : Int) then (if x1 = (rd x0 x8) then (some x8) else (QW.l0 k x0 x1 x7 (wrap64 (x8 + 1)))) else (none)) else (none)) else (some (-1))
def QW.f (k : Nat) (l0 : List Int) (a1 : Int) : Option (Int) := QW.l0 k l0 a1 (l0.length : Int) 0
set_option maxHeartbeats 8000000 in
set_option maxRecDepth 100000 in
theorem QW.calls (k : Nat) (A0 : Option Addr) (c0 : Nat) (l0 : List Int) (a1 : Int) (r : Int) (w : World) (hr0 : Kd.C (Kd.int .i64) w A0 l0.length l0) (hc0 : l0.length ≤ c0) (h : QW.f k l0 a1 = some r) :
  Calls Try.prog 130 #[.slice A0 l0.length c0, .int .i64 a1] w fun e w' => e = .returned (.int .i64 r) ∧ Drawn0 w w' := by
 have HR0 := aa.mk hr0; have HC0 := aa.mk hc0; clear hr0 hc0; have H : (QW.l0 k l0 a1 (l0.length : Int) 0) = some r := h; clear h; have H' := aa.mk H; clear H; go_enter Try.func130, Try.ntmps130; go_wp2; go_loopg [8] k (fun kq v8 w' => ∃ (aC : Int), v8 = .int .i64 aC ∧ aa (QW.l0 kq l0 a1 (l0.length : Int) aC = some r) ∧ aa (kq ≤ k) ∧ Drawn0 w w')
 case atStart => exact ⟨(0), (by first | rfl | (simp; done) | (simp [*]; done)), H', ⟨Nat.le_refl _⟩, by repeat (first | exact Drawn0.refl _ | apply Drawn0.step)⟩
 case round =>
  clear H'; try clear c1
  try clear p2
  obtain ⟨aC, rfl, HA, HK1, ⟨m1, rfl⟩⟩ := hrel; cases gk with
  | zero => exact absurd HA.out (by simp [QW.l0])
  | succ k1 =>
   have H := HA.out; clear HA; simp only [QW.l0] at H; by_cases c3 : aC < (l0.length : Int)
   ·rw [if_pos c3] at H; have bU : decide (aC < (l0.length : Int)) = true := decide_eq_true c3; clear c3; by_cases c4 : 0 ≤ aC
    ·rw [if_pos c4] at H; have bI : decide (0 ≤ aC) = true := decide_eq_true c4; clear c4; by_cases c5 : aC < (l0.length : Int)
     ·rw [if_pos c5] at H; have dp : decide (aC < (l0.length : Int)) = true := decide_eq_true c5; clear c5; by_cases c6 : a1 = (rd l0 aC)
      ·rw [if_pos c6] at H; have hU : (a1 == (rd l0 aC)) = true := beq_iff_eq.mpr c6; have mA : (a1 != (rd l0 aC)) = false := bne_eq_false_iff_eq.mpr c6; clear c6; obtain rfl := Option.some.inj H; have bC : 0 ≤ (aC : Int) := of_decide_eq_true (by assumption); have bA : aC < (l0.length : Int) := of_decide_eq_true (by assumption); obtain ⟨eR, dv, bL⟩ := Kd.QZ HR0.out aC bC bA; cases dv; replace bC := eq_true bC; replace bA := eq_true bA; go_wp2; go_ret; exact ⟨by first | rfl | (simp; done) | (simp [*]; done), by repeat (first | exact Drawn0.refl _ | apply Drawn0.step)⟩
      ·rw [if_neg c6] at H; have hU : (a1 == (rd l0 aC)) = false := beq_eq_false_iff_ne.mpr c6; have mA : (a1 != (rd l0 aC)) = true := bne_iff_ne.mpr c6; have H' := aa.mk H; clear H; have bC : 0 ≤ (aC : Int) := of_decide_eq_true (by assumption); have bA : aC < (l0.length : Int) := of_decide_eq_true (by assumption); obtain ⟨eR, dv, bL⟩ := Kd.QZ HR0.out aC bC bA; cases dv; replace bC := eq_true bC; replace bA := eq_true bA; go_wp2; go_roundg k1
       case measure => have := HK1.out; omega
       case rel => exact ⟨(wrap64 (aC + 1)), (by first | rfl | (simp; done) | (simp [*]; done)), H', ⟨by have := HK1.out; omega⟩, by repeat (first | exact Drawn0.refl _ | apply Drawn0.step)⟩
     ·rw [if_neg c5] at H; exact absurd H (by simp)
    ·rw [if_neg c4] at H; exact absurd H (by simp)
   ·rw [if_neg c3] at H; have bU : decide (aC < (l0.length : Int)) = false := decide_eq_false c3; clear c3; obtain rfl := Option.some.inj H; go_wp2; go_ret; exact ⟨by first | rfl | (simp; done) | (simp [*]; done), by repeat (first | exact Drawn0.refl _ | apply Drawn0.step)⟩
def ZA.f (k : Nat) (l0 : List Int) (a1 : Int) : Option (Bool) := (QW.f k l0 a1).bind fun t101 => (some (decide (t101 ≥ 0)))
set_option maxHeartbeats 8000000 in
set_option maxRecDepth 100000 in
theorem ZA.calls (k : Nat) (A0 : Option Addr) (c0 : Nat) (l0 : List Int) (a1 : Int) (r : Bool) (w : World) (hr0 : Kd.C (Kd.int .i64) w A0 l0.length l0) (hc0 : l0.length ≤ c0) (h : ZA.f k l0 a1 = some r) :
  Calls Try.prog 116 #[.slice A0 l0.length c0, .int .i64 a1] w fun e w' => e = .returned (.bool r) ∧ Drawn0 w w' := by
 have HR0 := aa.mk hr0; have HC0 := aa.mk hc0; clear hr0 hc0; have H : ((QW.f k l0 a1).bind fun t101 => (some (decide (t101 ≥ 0)))) = some r := h; clear h; replace H := Option.bind_eq_some_iff.mp H; obtain ⟨t101, A30, H⟩ := H; replace H : (some (decide (t101 ≥ 0))) = some r := H; have A3 := aa.mk A30; clear A30; obtain rfl := Option.some.inj H; go_enter Try.func116, Try.ntmps116; go_wp2_with (first | ((with_reducible refine Qf (f := 130) rfl ?_); refine QE (some 7) rfl rfl Try.func130 (by kernel_rfl) rfl #[.slice A0 l0.length c0, .int .i64 a1] rfl hA ?_; (with_reducible refine (QW.calls k _ _ l0 a1 t101 _ ?ai ?ah A3.out).mono ?_); (case ai => exact HR0.out); (case ah => exact HC0.out); rintro e w' ⟨rfl, ⟨nd, rfl⟩⟩; refine ⟨_, rfl, ?_⟩))
 go_ret; exact ⟨by first | rfl | (simp; done) | (simp [*]; done), by repeat (first | exact Drawn0.refl _ | apply Drawn0.step)⟩
def QF.f (a0 : Int) (a1 : Int) (a2 : Int) : Option (Bool) := if a0 ≥ a1 then (some (decide (a0 ≤ a2))) else (some false)
set_option maxHeartbeats 8000000 in
set_option maxRecDepth 100000 in
theorem QF.calls (a0 : Int) (a1 : Int) (a2 : Int) (r : Bool) (w : World) (h : QF.f a0 a1 a2 = some r) :
  Calls Try.prog 99 #[.int .i64 a0, .int .i64 a1, .int .i64 a2] w fun e w' => e = .returned (.bool r) ∧ Drawn0 w w' := by
 have H : (if a0 ≥ a1 then (some (decide (a0 ≤ a2))) else (some false)) = some r := h; clear h; by_cases c4 : a0 ≥ a1
 ·rw [if_pos c4] at H; have bI : decide (a1 ≤ a0) = true := decide_eq_true c4; clear c4; obtain rfl := Option.some.inj H; go_enter Try.func99, Try.ntmps99; go_wp2; go_ret; exact ⟨by first | rfl | (simp; done) | (simp [*]; done), by repeat (first | exact Drawn0.refl _ | apply Drawn0.step)⟩
 ·rw [if_neg c4] at H; have bI : decide (a1 ≤ a0) = false := decide_eq_false c4; clear c4; obtain rfl := Option.some.inj H; go_enter Try.func99, Try.ntmps99; go_wp2; go_ret; exact ⟨by first | rfl | (simp; done) | (simp [*]; done), by repeat (first | exact Drawn0.refl _ | apply Drawn0.step)⟩
def QT.l0 : Nat → List Int → Int → Int → Int → Int → Option (Bool)
 | 0, _, _, _, _, _ => none
 | k + 1, x0, x1, x2, x3, x9 => if x9 < x1 then (if 0 ≤ x9 then (if x9 < (x0.length : Int) then ((QF.f (rd x0 x9) x2 x3).bind fun t102 => (if t102 = true then (QT.l0 k x0 x1 x2 x3 (wrap64 (x9 + 1))) else (some false))) else (none)) else (none)) else (some true)
def QT.f (k : Nat) (l0 : List Int) (a1 : Int) (a2 : Int) (a3 : Int) : Option (Bool) := if (l0.length : Int) = a1 then (QT.l0 k l0 a1 a2 a3 0) else (some false)
set_option maxHeartbeats 8000000 in
set_option maxRecDepth 100000 in
theorem QT.calls (k : Nat) (A0 : Option Addr) (c0 : Nat) (l0 : List Int) (a1 : Int) (a2 : Int) (a3 : Int) (r : Bool) (w : World) (hr0 : Kd.C (Kd.int .i64) w A0 l0.length l0) (hc0 : l0.length ≤ c0) (h : QT.f k l0 a1 a2 a3 = some r) :
  Calls Try.prog 121 #[.slice A0 l0.length c0, .int .i64 a1, .int .i64 a2, .int .i64 a3] w fun e w' => e = .returned (.bool r) ∧ Drawn0 w w' := by
 have HR0 := aa.mk hr0; have HC0 := aa.mk hc0; clear hr0 hc0; have H : (if (l0.length : Int) = a1 then (QT.l0 k l0 a1 a2 a3 0) else (some false)) = some r := h; clear h; by_cases c5 : (l0.length : Int) = a1
 ·rw [if_pos c5] at H; have dp : ((l0.length : Int) == a1) = true := beq_iff_eq.mpr c5; have fN : ((l0.length : Int) != a1) = false := bne_eq_false_iff_eq.mpr c5; clear c5; have H' := aa.mk H; clear H; go_enter Try.func121, Try.ntmps121; go_wp2; go_loopg [9] k (fun kq v9 w' => ∃ (dL : Int), v9 = .int .i64 dL ∧ aa (QT.l0 kq l0 a1 a2 a3 dL = some r) ∧ aa (kq ≤ k) ∧ Drawn0 w w')
  case atStart => exact ⟨(0), (by first | rfl | (simp; done) | (simp [*]; done)), H', ⟨Nat.le_refl _⟩, by repeat (first | exact Drawn0.refl _ | apply Drawn0.step)⟩
  case round =>
   clear H'; try clear c1
   try clear p2
   try clear c5
   try clear dp
   try clear fN
   obtain ⟨dL, rfl, HA, HK1, ⟨m1, rfl⟩⟩ := hrel; cases gk with
   | zero => exact absurd HA.out (by simp [QT.l0])
   | succ k1 =>
    have H := HA.out; clear HA; simp only [QT.l0] at H; by_cases c6 : dL < a1
    ·rw [if_pos c6] at H; have hU : decide (dL < a1) = true := decide_eq_true c6; clear c6; by_cases c7 : 0 ≤ dL
     ·rw [if_pos c7] at H; have jR : decide (0 ≤ dL) = true := decide_eq_true c7; clear c7; by_cases c8 : dL < (l0.length : Int)
      ·rw [if_pos c8] at H; have dU : decide (dL < (l0.length : Int)) = true := decide_eq_true c8; clear c8; replace H := Option.bind_eq_some_iff.mp H; obtain ⟨t102, A90, H⟩ := H; replace H : (if t102 = true then (QT.l0 k1 l0 a1 a2 a3 (wrap64 (dL + 1))) else (some false)) = some r := H; have A9 := aa.mk A90; clear A90; by_cases c10 : t102 = true
       ·subst c10; have H1 : (QT.l0 k1 l0 a1 a2 a3 (wrap64 (dL + 1))) = some r := by rw [if_pos rfl] at H; exact H
        clear H; have H := H1; clear H1; have H' := aa.mk H; clear H; have bC : 0 ≤ (dL : Int) := of_decide_eq_true (by assumption); have bA : dL < (l0.length : Int) := of_decide_eq_true (by assumption); obtain ⟨eR, dv, bL⟩ := Kd.QZ HR0.out dL bC bA; cases dv; replace bC := eq_true bC; replace bA := eq_true bA; go_wp2_with (first | ((with_reducible refine Qf (f := 99) rfl ?_); refine QE (some 25) rfl rfl Try.func99 (by kernel_rfl) rfl #[.int .i64 (rd l0 dL), .int .i64 a2, .int .i64 a3] rfl hA ?_; (with_reducible refine (QF.calls (rd l0 dL) a2 a3 true _ A9.out).mono ?_); rintro e w' ⟨rfl, ⟨nd, rfl⟩⟩; refine ⟨_, rfl, ?_⟩))
        go_roundg k1
        case measure => have := HK1.out; omega
        case rel => exact ⟨(wrap64 (dL + 1)), (by first | rfl | (simp; done) | (simp [*]; done)), H', ⟨by have := HK1.out; omega⟩, by repeat (first | exact Drawn0.refl _ | apply Drawn0.step)⟩
       ·replace c10 := Bool.eq_false_iff.mpr c10; subst c10; have H1 : (some false) = some r := by rw [if_neg (show ¬ (false = true) by decide)] at H; exact H
        clear H; have H := H1; clear H1; obtain rfl := Option.some.inj H; have bC : 0 ≤ (dL : Int) := of_decide_eq_true (by assumption); have bA : dL < (l0.length : Int) := of_decide_eq_true (by assumption); obtain ⟨eR, dv, bL⟩ := Kd.QZ HR0.out dL bC bA; cases dv; replace bC := eq_true bC; replace bA := eq_true bA; go_wp2_with (first | ((with_reducible refine Qf (f := 99) rfl ?_); refine QE (some 25) rfl rfl Try.func99 (by kernel_rfl) rfl #[.int .i64 (rd l0 dL), .int .i64 a2, .int .i64 a3] rfl hA ?_; (with_reducible refine (QF.calls (rd l0 dL) a2 a3 false _ A9.out).mono ?_); rintro e w' ⟨rfl, ⟨nd, rfl⟩⟩; refine ⟨_, rfl, ?_⟩))
        go_ret; exact ⟨by first | rfl | (simp; done) | (simp [*]; done), by repeat (first | exact Drawn0.refl _ | apply Drawn0.step)⟩
      ·rw [if_neg c8] at H; exact absurd H (by simp)
     ·rw [if_neg c7] at H; exact absurd H (by simp)
    ·rw [if_neg c6] at H; have hU : decide (dL < a1) = false := decide_eq_false c6; clear c6; obtain rfl := Option.some.inj H; go_wp2; go_ret; exact ⟨by first | rfl | (simp; done) | (simp [*]; done), by repeat (first | exact Drawn0.refl _ | apply Drawn0.step)⟩
 ·rw [if_neg c5] at H; have dp : ((l0.length : Int) == a1) = false := beq_eq_false_iff_ne.mpr c5; have fN : ((l0.length : Int) != a1) = true := bne_iff_ne.mpr c5; obtain rfl := Option.some.inj H; go_enter Try.func121, Try.ntmps121; go_wp2; go_ret; exact ⟨by first | rfl | (simp; done) | (simp [*]; done), by repeat (first | exact Drawn0.refl _ | apply Drawn0.step)⟩
mutual
def Qd.j0 : Nat → Bool → List (List Int) → List (List Int) → Option (Int)
 | 0, _, _, _ => none
 | k + 1, x27, ar, au => if x27 = true then (some 1) else ((some (([] : List (List Int)) : List (List Int))).bind fun iw => (if iw.length + ar.length < 5864062014805 then ((some (iw ++ ar : List (List Int))).bind fun fP => (if fP.length + au.length < 5864062014805 then (Qd.l0 k (fP ++ au) 0 ar au) else (none))) else (none)))
def Qd.l0 : Nat → List (List Int) → Int → List (List Int) → List (List Int) → Option (Int)
 | 0, _, _, _, _ => none
 | k + 1, x3, x4, ar, au => if x4 < (x3.length : Int) then (if 0 ≤ x4 then (if 0 < (ar.length : Int) then (if ((Qt x3 x4).length : Int) = ((Qt ar 0).length : Int) then (Qd.l1 k x3 x4 0 0 ar au) else (some 1)) else (none)) else (none)) else (some 0)
def Qd.l1 : Nat → List (List Int) → Int → Int → Int → List (List Int) → List (List Int) → Option (Int)
 | 0, _, _, _, _, _, _ => none
 | k + 1, x3, x4, x5, x6, ar, au => if 0 ≤ x4 then (if x4 < (x3.length : Int) then (if x6 < ((Qt x3 x4).length : Int) then (if 0 ≤ x6 then ((QF.f (rd (Qt x3 x4) x6) 0 9).bind fun t120 => (if t120 = true then (Qd.l1 k x3 x4 (wrap64 (x5 + (rd (Qt x3 x4) x6))) (wrap64 (x6 + 1)) ar au) else (some 1))) else (none)) else (if x5 = 0 then (some 1) else (Qd.l0 k x3 (wrap64 (x4 + 1)) ar au))) else (none)) else (none)
end
def Qd.f (k : Nat) (ae : List (List Int)) (af : List (List Int)) : Option (Int) := (QF.f (ae.length : Int) 1 3).bind fun t102 => (if t102 = true then ((QF.f (af.length : Int) 1 3).bind fun t103 => (if t103 = true then (if 0 < (ae.length : Int) then ((QF.f ((Qt ae 0).length : Int) 1 4).bind fun t105 => (Qd.j0 k (!t105) ae af)) else (none)) else (Qd.j0 k true ae af))) else (Qd.j0 k true ae af))
def Qd.T3 : Bool × List (List Nat × List Nat) := (true, [([], []), ([], []), ([1], [1]), ([0, 2], [0, 2]), ([], []), ([4], [4]), ([3, 5, 3], [3, 5]), ([6, 6, 0, 1, 2, 3, 4, 5, 6], [6])])
def Qd.B3 : List Nat := [0, 0, 2, 7, 0, 16, 63, 127]
theorem Qd.tab3 : rtab .any (opsOf Try.f55 3) = Qd.T3 := by kernel_rfl
theorem Qd.bits3 : waitsOk Qd.T3.2 Qd.B3 = true := by kernel_rfl
def Qd.T7 : Bool × List (List Nat × List Nat) := (true, [([], []), ([], []), ([0, 1], [0, 1]), ([2], [2]), ([3], [3]), ([], []), ([5], [5]), ([6], [6]), ([7], [7]), ([8], [8]), ([4, 9], [4, 9])])
def Qd.B7 : List Nat := [0, 0, 3, 7, 15, 0, 32, 96, 224, 480, 1023]
theorem Qd.tab7 : rtab .any (opsOf Try.f55 7) = Qd.T7 := by kernel_rfl
theorem Qd.bits7 : waitsOk Qd.T7.2 Qd.B7 = true := by kernel_rfl
set_option maxHeartbeats 8000000 in
set_option maxRecDepth 100000 in
theorem Qd.calls (k : Nat) (aZ : Nat → Prop) (ak : Option Addr) (an : Nat) (ae : List (List Int)) (aY : Nat → Prop) (aj : Option Addr) (al : Nat) (af : List (List Int)) (r : Int) (w : World) (mI : Kd.V (Kd.slice 3 (Kd.int .i64)) 28 w w.heap.size (fun k_ => aZ k_) (.slice ak ae.length an) ae) (mH : Kd.V (Kd.slice 3 (Kd.int .i64)) 28 w w.heap.size (fun k_ => aY k_) (.slice aj af.length al) af) (h : Qd.f k ae af = some r) :
  Calls Try.prog 55 #[.agg #[.slice ak ae.length an, .slice aj af.length al]] w fun e w' => e = .returned (.int .i64 r) ∧ Below w.heap.size w w' := by
 have dD := Try.underlying24; have cD := aa.mk (show Kd.V (Kd.slice 3 (Kd.int .i64)) 28 w w.heap.size (fun k_ => ((aZ k_ ∨ aY k_) ∨ w.heap.size ≤ k_)) (.slice ak ae.length an) ae from Kd.Yb mI (fun k_ hk => .inl (.inl hk))); have cY := aa.mk (show Kd.V (Kd.slice 3 (Kd.int .i64)) 28 w w.heap.size (fun k_ => ((aZ k_ ∨ aY k_) ∨ w.heap.size ≤ k_)) (.slice aj af.length al) af from Kd.Yb mH (fun k_ hk => .inl (.inr hk))); have HB := aa.mk (Below.refl w.heap.size w); have H : ((QF.f (ae.length : Int) 1 3).bind fun t102 => (if t102 = true then ((QF.f (af.length : Int) 1 3).bind fun t103 => (if t103 = true then (if 0 < (ae.length : Int) then ((QF.f ((Qt ae 0).length : Int) 1 4).bind fun t105 => (Qd.j0 k (!t105) ae af)) else (none)) else (Qd.j0 k true ae af))) else (Qd.j0 k true ae af))) = some r := h; clear h; have HC2 := aa.mk H; clear H; go_enter Try.func55, Try.ntmps55; go_upto_region 1 with (first | ((with_reducible refine QM (N := 1) rfl ?_); (try (refine ZE (by rfl) ?_; dsimp only)); refine QU ?hg (N := 1) ?hd (cs := #[.slice ak ae.length an, .slice aj af.length al]) (t := 24) ?hr ?_; (case hd => rfl); (case hg => rfl); (case hr => first | (go_simp; done) | (go_simp; rfl)); intro ag hg w3 hbox hb; replace cD := aa.mk (Kd.Yv (Kd.Vq cD.out ag (Nat.le_of_eq hg.symm)) hb); replace cY := aa.mk (Kd.Yv (Kd.Vq cY.out ag (Nat.le_of_eq hg.symm)) hb); have ab := aa.mk (hbox); have ba := aa.mk ((by rw [hg]; exact (Qe bB) : w.heap.size ≤ ag)); have aN := aa.mk ((by rw [hg]; exact (Qe bB) : w.heap.size ≤ ag)); replace HB := aa.mk (Qc bB hb); clear hb hbox hg))
 (try simp only [Act.put, zA, zB, zC])
 go_cut [27] (fun v27 wc => ∃ (kq : Nat) (lp : Bool), v27 = .bool lp ∧ aa (Qd.j0 kq lp ae af = some r) ∧ aa (kq ≤ k) ∧ aa (Kd.V (Kd.slice 3 (Kd.int .i64)) 28 wc w.heap.size (fun k_ => ((aZ k_ ∨ aY k_) ∨ w.heap.size ≤ k_) ∧ k_ ≠ ag) (.slice ak ae.length an) ae) ∧ aa (Kd.V (Kd.slice 3 (Kd.int .i64)) 28 wc w.heap.size (fun k_ => ((aZ k_ ∨ aY k_) ∨ w.heap.size ≤ k_) ∧ k_ ≠ ag) (.slice aj af.length al) af) ∧ aa (wc.heap[ag]? = some (.cells #[(.slice ak ae.length an), (.slice aj af.length al)] 24 (0, 0))) ∧ aa (Below w.heap.size w wc))
 case first =>
  have H := HC2.out; clear HC2; replace H := Option.bind_eq_some_iff.mp H; obtain ⟨t102, A40, H⟩ := H; replace H : (if t102 = true then ((QF.f (af.length : Int) 1 3).bind fun t103 => (if t103 = true then (if 0 < (ae.length : Int) then ((QF.f ((Qt ae 0).length : Int) 1 4).bind fun t105 => (Qd.j0 k (!t105) ae af)) else (none)) else (Qd.j0 k true ae af))) else (Qd.j0 k true ae af)) = some r := H; have A4 := aa.mk A40; clear A40; by_cases c5 : t102 = true
  ·subst c5; have H1 : ((QF.f (af.length : Int) 1 3).bind fun t103 => (if t103 = true then (if 0 < (ae.length : Int) then ((QF.f ((Qt ae 0).length : Int) 1 4).bind fun t105 => (Qd.j0 k (!t105) ae af)) else (none)) else (Qd.j0 k true ae af))) = some r := by rw [if_pos rfl] at H; exact H
   clear H; have H := H1; clear H1; replace H := Option.bind_eq_some_iff.mp H; obtain ⟨t103, A60, H⟩ := H; replace H : (if t103 = true then (if 0 < (ae.length : Int) then ((QF.f ((Qt ae 0).length : Int) 1 4).bind fun t105 => (Qd.j0 k (!t105) ae af)) else (none)) else (Qd.j0 k true ae af)) = some r := H; have A6 := aa.mk A60; clear A60; by_cases c7 : t103 = true
   ·subst c7; have H1 : (if 0 < (ae.length : Int) then ((QF.f ((Qt ae 0).length : Int) 1 4).bind fun t105 => (Qd.j0 k (!t105) ae af)) else (none)) = some r := by rw [if_pos rfl] at H; exact H
    clear H; have H := H1; clear H1; by_cases c8 : 0 < (ae.length : Int)
    ·rw [if_pos c8] at H; have dU : decide (0 < (ae.length : Int)) = true := decide_eq_true c8; have kz : decide (0 < ae.length) = true := decide_eq_true (by omega); clear c8; (first | rw [dU] | (simp only [QB, QD]; rw [dU]) | skip)
     replace H := Option.bind_eq_some_iff.mp H; obtain ⟨t105, A90, H⟩ := H; replace H : (Qd.j0 k (!t105) ae af) = some r := H; have A9 := aa.mk A90; clear A90; have H' := aa.mk H; clear H; have dH : w3.cell? ⟨ag, 0, none⟩ = some (.slice ak ae.length an) := (Qb ab.out 0).trans rfl; have dG : w3.cell? ⟨ag, 1, none⟩ = some (.slice aj af.length al) := (Qb ab.out 1).trans rfl; have dF := Qa ab.out 0; have dE := Qa ab.out 1; go_wp2_with (first | ((with_reducible refine Qf (f := 99) rfl ?_); refine QE (some 10) rfl rfl Try.func99 (by kernel_rfl) rfl #[.int .i64 (ae.length : Int), .int .i64 1, .int .i64 3] rfl hA ?_; (with_reducible refine (QF.calls (ae.length : Int) 1 3 true _ A4.out).mono ?_); rintro e w' ⟨rfl, ⟨nd, rfl⟩⟩; refine ⟨_, rfl, ?_⟩) | (go_at_call 99; (with_reducible refine (QF.calls (af.length : Int) 1 3 true _ A6.out).mono ?_); rintro e w' ⟨rfl, ⟨nd, rfl⟩⟩; have eZ : 0 ≤ (0 : Int) := (by omega); have eW : 0 < (ae.length : Int) := of_decide_eq_true (by assumption); obtain ⟨pG, qV, qK, mY, bK, fV, fY⟩ := ZH (Kd.YM cD.out).2.2 0 eZ eW; cases mY; obtain ⟨vH, qo, qu, mO⟩ := Kd.V_get cD.out [] 0 eZ (by first | exact eW | exact of_decide_eq_true (by assumption) | (have e_ := (Kd.YM cD.out).1; omega)); obtain ⟨sL, sH, rfl, jq, jO⟩ := Kd.Zk qu; have ie := mO 0 _ rfl; rw [Nat.add_zero, show ((Kd.slice 3 (Kd.int .i64))).sz = 1 from rfl, Nat.mul_one] at ie; replace ie := Option.some.inj (ie.symm.trans bK); injection ie with hva_ hvn_ hvc_; rw [hva_] at jO; rw [hvc_] at jq; have tL := aa.mk (show Kd.V (Kd.int .i64) 3 _ w.heap.size _ _ (Qt ae 0) from Kd.V_mk jq jO); clear hva_ hvn_ hvc_ jO jq; clear mO qo; have qY : (0 < ae.length) = True := eq_true (by omega); (try rw [show ((0 : Int)).toNat = 0 from rfl] at bK); (try rw [Addr.add_zero'] at bK); have oX := aa.mk fY; have pa := aa.mk fV; clear fY fV; replace eZ := eq_true eZ; replace eW := eq_true eW) | (go_at_call 99; (with_reducible refine (QF.calls ((Qt ae 0).length : Int) 1 4 t105 _ A9.out).mono ?_); rintro e w' ⟨rfl, ⟨nd, rfl⟩⟩))
     go_meet
     case rel => exact ⟨_, (!t105), (by first | rfl | (simp; done) | (simp [*]; done)), H', ⟨by first | omega | exact Nat.le_refl _⟩, ⟨by (with_reducible repeat (first | apply Kd.V_alloc | apply Kd.ZD | apply Kd.Zw)); exact cD.out⟩, ⟨by (with_reducible repeat (first | apply Kd.V_alloc | apply Kd.ZD | apply Kd.Zw)); exact cY.out⟩, ⟨by (with_reducible repeat (first | refine Qv ?_ _ | refine Qx ?_ | refine Qu ?_ _)); exact ab.out⟩, ⟨bB⟩⟩
    ·rw [if_neg c8] at H; exact absurd H (by simp)
   ·replace c7 := Bool.eq_false_iff.mpr c7; subst c7; have H1 : (Qd.j0 k true ae af) = some r := by rw [if_neg (show ¬ (false = true) by decide)] at H; exact H
    clear H; have H := H1; clear H1; have H' := aa.mk H; clear H; have cl : w3.cell? ⟨ag, 0, none⟩ = some (.slice ak ae.length an) := (Qb ab.out 0).trans rfl; have ck : w3.cell? ⟨ag, 1, none⟩ = some (.slice aj af.length al) := (Qb ab.out 1).trans rfl; have cj := Qa ab.out 0; have ch := Qa ab.out 1; go_wp2_with (first | ((with_reducible refine Qf (f := 99) rfl ?_); refine QE (some 10) rfl rfl Try.func99 (by kernel_rfl) rfl #[.int .i64 (ae.length : Int), .int .i64 1, .int .i64 3] rfl hA ?_; (with_reducible refine (QF.calls (ae.length : Int) 1 3 true _ A4.out).mono ?_); rintro e w' ⟨rfl, ⟨nd, rfl⟩⟩; refine ⟨_, rfl, ?_⟩) | (go_at_call 99; (with_reducible refine (QF.calls (af.length : Int) 1 3 false _ A6.out).mono ?_); rintro e w' ⟨rfl, ⟨nd, rfl⟩⟩))
    go_meet
    case rel => exact ⟨_, (true), (by first | rfl | (simp; done) | (simp [*]; done)), H', ⟨by first | omega | exact Nat.le_refl _⟩, ⟨by (with_reducible repeat (first | apply Kd.V_alloc | apply Kd.ZD | apply Kd.Zw)); exact cD.out⟩, ⟨by (with_reducible repeat (first | apply Kd.V_alloc | apply Kd.ZD | apply Kd.Zw)); exact cY.out⟩, ⟨by (with_reducible repeat (first | refine Qv ?_ _ | refine Qx ?_ | refine Qu ?_ _)); exact ab.out⟩, ⟨bB⟩⟩
  ·replace c5 := Bool.eq_false_iff.mpr c5; subst c5; have H1 : (Qd.j0 k true ae af) = some r := by rw [if_neg (show ¬ (false = true) by decide)] at H; exact H
   clear H; have H := H1; clear H1; have H' := aa.mk H; clear H; have ei : w3.cell? ⟨ag, 0, none⟩ = some (.slice ak ae.length an) := (Qb ab.out 0).trans rfl; have eh : w3.cell? ⟨ag, 1, none⟩ = some (.slice aj af.length al) := (Qb ab.out 1).trans rfl; have eg := Qa ab.out 0; have ef := Qa ab.out 1; go_wp2_with (first | ((with_reducible refine Qf (f := 99) rfl ?_); refine QE (some 10) rfl rfl Try.func99 (by kernel_rfl) rfl #[.int .i64 (ae.length : Int), .int .i64 1, .int .i64 3] rfl hA ?_; (with_reducible refine (QF.calls (ae.length : Int) 1 3 false _ A4.out).mono ?_); rintro e w' ⟨rfl, ⟨nd, rfl⟩⟩; refine ⟨_, rfl, ?_⟩))
   go_meet
   case rel => exact ⟨_, (true), (by first | rfl | (simp; done) | (simp [*]; done)), H', ⟨by first | omega | exact Nat.le_refl _⟩, ⟨by (with_reducible repeat (first | apply Kd.V_alloc | apply Kd.ZD | apply Kd.Zw)); exact cD.out⟩, ⟨by (with_reducible repeat (first | apply Kd.V_alloc | apply Kd.ZD | apply Kd.Zw)); exact cY.out⟩, ⟨by (with_reducible repeat (first | refine Qv ?_ _ | refine Qx ?_ | refine Qu ?_ _)); exact ab.out⟩, ⟨bB⟩⟩
 case rest =>
  clear HC2; try clear c1
  try clear p1
  try clear q1
  try clear hx1
  try clear qi1
  try clear p2
  try clear c5
  try clear c7
  try clear c8
  try clear dU
  try clear kz
  try clear c9
  try clear c10
  try clear p10
  try clear q10
  try clear hH
  try clear j7
  try clear dH
  try clear dG
  try clear cl
  try clear ck
  try clear ei
  try clear eh
  try clear dF
  try clear dE
  try clear cj
  try clear ch
  try clear eg
  try clear ef
  try clear bK
  try clear eZ
  try clear eW
  obtain ⟨kq, lp, rfl, HA, HJ1, aA, aE, ab, HB⟩ := hcut; cases kq with
  | zero => exact absurd HA.out (by simp [Qd.j0])
  | succ kj1 =>
   have H := HA.out; clear HA; simp only [Qd.j0] at H; by_cases c13 : lp = true
   ·subst c13; have H1 : (some 1) = some r := by rw [if_pos rfl] at H; exact H
    clear H; have H := H1; clear H1; obtain rfl := Option.some.inj H; go_wp2; go_ret; exact ⟨by first | rfl | (simp [Qk, Qj] <;> rfl) | (simp [*, Qk, Qj] <;> rfl), bB⟩
   ·replace c13 := Bool.eq_false_iff.mpr c13; subst c13; have H1 : ((some (([] : List (List Int)) : List (List Int))).bind fun iw => (if iw.length + ae.length < 5864062014805 then ((some (iw ++ ae : List (List Int))).bind fun fP => (if fP.length + af.length < 5864062014805 then (Qd.l0 kj1 (fP ++ af) 0 ae af) else (none))) else (none))) = some r := by rw [if_neg (show ¬ (false = true) by decide)] at H; exact H
    clear H; have H := H1; clear H1; obtain ⟨iw, ks⟩ : ∃ y_ : List (List Int), y_ = (([] : List (List Int))) := ⟨_, rfl⟩; replace H : (if iw.length + ae.length < 5864062014805 then ((some (iw ++ ae : List (List Int))).bind fun fP => (if fP.length + af.length < 5864062014805 then (Qd.l0 kj1 (fP ++ af) 0 ae af) else (none))) else (none)) = some r := by first | (rw [ks]; with_reducible exact H) | (have H2_ := (Option.bind_some _ _).symm.trans H; rw [ks]; with_reducible exact H2_) | (have H2_ := (Option.bind_some _ _).symm.trans H; with_reducible exact H2_) | with_reducible exact H | (rw [ks]; exact H) | exact H
    have pQ := aa.mk ks; clear ks; by_cases c14 : iw.length + ae.length < 5864062014805
    ·rw [if_pos c14] at H; have rZ := aa.mk c14; clear c14; obtain ⟨fP, kr⟩ : ∃ y_ : List (List Int), y_ = (iw ++ ae) := ⟨_, rfl⟩; replace H : (if fP.length + af.length < 5864062014805 then (Qd.l0 kj1 (fP ++ af) 0 ae af) else (none)) = some r := by first | (rw [kr]; with_reducible exact H) | (have H2_ := (Option.bind_some _ _).symm.trans H; rw [kr]; with_reducible exact H2_) | (have H2_ := (Option.bind_some _ _).symm.trans H; with_reducible exact H2_) | with_reducible exact H | (rw [kr]; exact H) | exact H
     have rX := aa.mk kr; clear kr; by_cases c15 : fP.length + af.length < 5864062014805
     ·rw [if_pos c15] at H; have nb := aa.mk c15; clear c15; obtain ⟨bu, ko⟩ : ∃ y_ : List (List Int), y_ = (fP ++ af) := ⟨_, rfl⟩; replace H : (Qd.l0 kj1 bu 0 ae af) = some r := by first | (rw [ko]; with_reducible exact H) | (have H2_ := (Option.bind_some _ _).symm.trans H; rw [ko]; with_reducible exact H2_) | (have H2_ := (Option.bind_some _ _).symm.trans H; with_reducible exact H2_) | with_reducible exact H | (rw [ko]; exact H) | exact H
      have rW := aa.mk ko; clear ko; have H' := aa.mk H; clear H; try go_wp2
      replace aA := aa.mk (Kd.Zw aA.out); replace aE := aa.mk (Kd.Zw aE.out); replace ab := aa.mk (Qx ab.out); replace HB := aa.mk (QN HB.out); refine Yg (n := 8) (S := fun w' => w'.cell? ⟨ag, 0, none⟩ = some (.slice ak ae.length an) ∧ w'.cell? ⟨ag, 1, none⟩ = some (.slice aj af.length al)) (ds := []) #[false, false, false, false, false, false, false, false] (by kernel_rfl) rfl rfl ⟨(Qb ab.out 0).trans rfl, (Qb ab.out 1).trans rfl⟩ (fun hHeld => ?_); refine ZO Qd.tab3 Qd.bits3 (fun HT_ HW_ => ?_); generalize wc.drew = w16 at aA aE ab HB hHeld ⊢; refine QV (i := 1) (N := some 29) (v := ?_) (a' := ?_) #[false, true, false, false, false, false, false, false] rfl rfl (QL HT_.out (by kernel_rfl)) (fun _ _ _ h => h) (Or.inl ⟨by rfl, ?_⟩) ?_ ?_; rotate_left
      ·intro w'; go_simp; with_reducible rfl
      rotate_left
      ·simp only [Act.put, zA, zB, zC, QB, QD]; rfl
      refine QV (i := 4) (N := some 32) (v := ?_) (a' := ?_) #[false, true, false, false, true, false, false, false] rfl rfl (QL HT_.out (by kernel_rfl)) (fun _ _ _ h => h) (Or.inl ⟨by rfl, ?_⟩) ?_ ?_; rotate_left
      ·intro w'; go_simp; with_reducible rfl
      rotate_left
      ·simp only [Act.put, zA, zB, zC, QB, QD]; rfl
      refine ZG (i := 2) (N := some 30) (v := ?_) (a' := ?_) #[false, true, true, false, true, false, false, false] rfl rfl (Zc HT_.out HW_.out (by kernel_rfl)) (fun _ _ _ h => h) (Or.inl ⟨by rfl, ?_⟩) hHeld ?_ ?_; rotate_left
      ·rintro w' ⟨s0, s1⟩; go_simp; with_reducible rfl
      rotate_left
      ·simp only [Act.put, zA, zB, zC, QB, QD]; rfl
      refine ZG (i := 5) (N := some 33) (v := ?_) (a' := ?_) #[false, true, true, false, true, true, false, false] rfl rfl (Zc HT_.out HW_.out (by kernel_rfl)) (fun _ _ _ h => h) (Or.inl ⟨by rfl, ?_⟩) hHeld ?_ ?_; rotate_left
      ·rintro w' ⟨s0, s1⟩; go_simp; with_reducible rfl
      rotate_left
      ·simp only [Act.put, zA, zB, zC, QB, QD]; rfl
      refine one_ (i := 0) (N := some 28) #[true, true, true, false, true, true, false, false] rfl rfl (ZR HT_.out (by kernel_rfl)) (by decide) (fun K hK => ?_); refine Kd.Um (Kd.slice 3 (Kd.int .i64)) _ 28 ?hg (N' := 28) ?hd (xs := ([] : List (List Int))) (inner := []) (ok := (fun k_ => ((aZ k_ ∨ aY k_) ∨ w.heap.size ≤ k_) ∧ k_ ≠ ag)) (okp := (fun k_ => ((aZ k_ ∨ aY k_) ∨ w.heap.size ≤ k_) ∧ k_ ≠ ag)) ?hr ?hp (fun _ hk => hk) ((show ∀ k_, w16.heap.size ≤ k_ → (fun k_ => ((aZ k_ ∨ aY k_) ∨ w.heap.size ≤ k_) ∧ k_ ≠ ag) k_ from fun k_ hk => ⟨(.inr (Nat.le_trans (Qe bB) hk)), Kd.freshB (g := ag) (o := .cells #[.slice ak ae.length an, .slice aj af.length al] 24 (0, 0)) (by (with_reducible repeat (first | refine Qv ?_ _ | refine Qx ?_ | refine Qu ?_ _)); exact ab.out) k_ hk⟩) _ (Nat.le_refl _)) (Below.refl _ _) (Nat.le_refl _) (by simp) ?_; (case hd => rfl); (case hg => rfl); (case hr => first | (go_simp; done) | (go_simp; rfl)); (case hp => exact (Reps.none _ _)); intro nq w17 e0 hb hg_ hnew_; clear hg_ hnew_; (first | rw [← pQ.out] at e0 | (simp only [Int.reduceToNat] at e0; rw [← pQ.out] at e0))
      replace aA := aa.mk (Kd.YN aA.out (Kd.ZZ e0) hb); replace aE := aa.mk (Kd.YN aE.out (Kd.ZZ e0) hb); have jj := aa.mk (Kd.Ya e0 (Qe bB)); replace ab := aa.mk (Ql ab.out hb); replace HB := aa.mk (Qc bB hb); clear hb e0; refine hK.out _ _ ⟨(Qb ab.out 0).trans rfl, (Qb ab.out 1).trans rfl⟩ (fun hHeld => ?_); clear hK K; refine Z7 (a' := ?_) ?_ ?_; rotate_left
      ·show Act.put _ (some 28) _ = _
       simp only [Act.put, zA, zB, zC, QB, QD]; rfl
      refine one_ (i := 3) (N := some 31) #[true, true, true, true, true, true, false, false] rfl rfl (ZR HT_.out (by kernel_rfl)) (by decide) (fun K hK => ?_); refine Kd.Z1 (Kd.slice 3 (Kd.int .i64)) (w0 := w) w.heap.size (by rfl) (.tmp 28) (.tmp 30) 22 28 (.slice none 0 0) 24 rfl Try.underlying22 info28 rfl (by decide) (by omega) nq iw ae _ _ _ (fun k_ => ((aZ k_ ∨ aY k_) ∨ w.heap.size ≤ k_) ∧ k_ ≠ ag) (fun k_ => ((fun k_ => ((aZ k_ ∨ aY k_) ∨ w.heap.size ≤ k_) ∧ k_ ≠ ag)) k_ ∧ some k_ ≠ (nq : Value).ownBlock) rfl rfl ?aO ?aR (fun _ hk => hk) ?aF ?aB ?aS ?aL ?_; (case aR => exact (by skip; exact Kd.V_F (Kd.Yb (ok' := (fun k_ => ((fun k_ => ((aZ k_ ∨ aY k_) ∨ w.heap.size ≤ k_) ∧ k_ ≠ ag)) k_ ∧ some k_ ≠ (nq : Value).ownBlock)) (aA.out) (fun k_ hk => ⟨⟨hk.1.1, hk.1.2⟩, hk.2⟩))))
      (case aB => exact bB)
      (case aF => exact (fun k_ hk => ⟨(.inr (Nat.le_trans (Qe bB) hk)), Kd.freshB (g := ag) (o := .cells #[.slice ak ae.length an, .slice aj af.length al] 24 (0, 0)) (by (with_reducible repeat (first | refine Qv ?_ _ | refine Qx ?_ | refine Qu ?_ _)); exact ab.out) k_ hk⟩))
      (case aO => exact jj.out)
      (case aS => exact (Qe bB))
      (case aL => have := rZ.out; omega)
      intro pV w19 ho hb hg hat; rw [← rX.out] at ho; replace aA := aa.mk (Kd.Yd (ok := (fun k_ => ((aZ k_ ∨ aY k_) ∨ w.heap.size ≤ k_) ∧ k_ ≠ ag)) aA.out hg hat); replace aE := aa.mk (Kd.Yd (ok := (fun k_ => ((aZ k_ ∨ aY k_) ∨ w.heap.size ≤ k_) ∧ k_ ≠ ag)) aE.out hg hat); replace ab := aa.mk (Z4 (g := ag) (o := .cells #[.slice ak ae.length an, .slice aj af.length al] 24 (0, 0)) (by (with_reducible repeat (first | refine Qv ?_ _ | refine Qx ?_ | refine Qu ?_ _)); exact ab.out) hg (Kd.N_ne jj.out ab.out (by decide))); replace HB := aa.mk (hb); have nf := aa.mk (ho); clear jj; clear ho hb hg hat; refine hK.out _ _ ⟨(Qb ab.out 0).trans rfl, (Qb ab.out 1).trans rfl⟩ (fun hHeld => ?_); clear hK K; refine Z7 (a' := ?_) ?_ ?_; rotate_left
      ·show Act.put _ (some 31) _ = _
       simp only [Act.put, zA, zB, zC, QB, QD]; rfl
      refine one_ (i := 6) (N := some 34) #[true, true, true, true, true, true, true, false] rfl rfl (ZR HT_.out (by kernel_rfl)) (by decide) (fun K hK => ?_); refine Kd.Z1 (Kd.slice 3 (Kd.int .i64)) (w0 := w) w.heap.size (by rfl) (.tmp 31) (.tmp 33) 22 28 (.slice none 0 0) 24 rfl Try.underlying22 info28 rfl (by decide) (by omega) pV fP af _ _ _ (fun k_ => ((aZ k_ ∨ aY k_) ∨ w.heap.size ≤ k_) ∧ k_ ≠ ag) (fun k_ => ((fun k_ => ((aZ k_ ∨ aY k_) ∨ w.heap.size ≤ k_) ∧ k_ ≠ ag)) k_ ∧ some k_ ≠ (pV : Value).ownBlock) rfl rfl ?aO ?aR (fun _ hk => hk) ?aF ?aB ?aS ?aL ?_; (case aR => exact (by skip; exact Kd.V_F (Kd.Yb (ok' := (fun k_ => ((fun k_ => ((aZ k_ ∨ aY k_) ∨ w.heap.size ≤ k_) ∧ k_ ≠ ag)) k_ ∧ some k_ ≠ (pV : Value).ownBlock)) (aE.out) (fun k_ hk => ⟨⟨hk.1.1, hk.1.2⟩, hk.2⟩))))
      (case aB => exact bB)
      (case aF => exact (fun k_ hk => ⟨(.inr (Nat.le_trans (Qe bB) hk)), Kd.freshB (g := ag) (o := .cells #[.slice ak ae.length an, .slice aj af.length al] 24 (0, 0)) (by (with_reducible repeat (first | refine Qv ?_ _ | refine Qx ?_ | refine Qu ?_ _)); exact ab.out) k_ hk⟩))
      (case aO => exact nf.out)
      (case aS => exact (Qe bB))
      (case aL => have := nb.out; omega)
      intro mE w20 ho hb hg hat; rw [← rW.out] at ho; replace aA := aa.mk (Kd.Yd (ok := (fun k_ => ((aZ k_ ∨ aY k_) ∨ w.heap.size ≤ k_) ∧ k_ ≠ ag)) aA.out hg hat); replace aE := aa.mk (Kd.Yd (ok := (fun k_ => ((aZ k_ ∨ aY k_) ∨ w.heap.size ≤ k_) ∧ k_ ≠ ag)) aE.out hg hat); replace ab := aa.mk (Z4 (g := ag) (o := .cells #[.slice ak ae.length an, .slice aj af.length al] 24 (0, 0)) (by (with_reducible repeat (first | refine Qv ?_ _ | refine Qx ?_ | refine Qu ?_ _)); exact ab.out) hg (Kd.N_ne nf.out ab.out (by decide))); replace HB := aa.mk (hb); have bQ := aa.mk (ho); clear nf; clear ho hb hg hat; refine hK.out _ _ ⟨(Qb ab.out 0).trans rfl, (Qb ab.out 1).trans rfl⟩ (fun hHeld => ?_); clear hK K; refine Z7 (a' := ?_) ?_ ?_; rotate_left
      ·show Act.put _ (some 34) _ = _
       simp only [Act.put, zA, zB, zC, QB, QD]; rfl
      refine QV (i := 7) (N := some 3) (v := ?_) (a' := ?_) #[true, true, true, true, true, true, true, true] rfl rfl (QL HT_.out (by kernel_rfl)) (fun _ _ _ h => h) (Or.inl ⟨by rfl, ?_⟩) ?_ ?_; rotate_left
      ·intro w'; go_simp; with_reducible rfl
      rotate_left
      ·simp only [Act.put, zA, zB, zC, QB, QD]; rfl
      refine YC (Z5 HT_.out (by kernel_rfl)) ?_; try go_wp2
      go_loopg [4] kj1 (fun kq v4 w' => ∃ (az : Int), v4 = .int .i64 az ∧ aa (Qd.l0 kq bu az ae af = some r) ∧ aa (kq ≤ kj1) ∧ aa (Kd.N (Kd.slice 3 (Kd.int .i64)) 28 w' w.heap.size (fun k_ => ((aZ k_ ∨ aY k_) ∨ w.heap.size ≤ k_) ∧ k_ ≠ ag) mE bu) ∧ aa (Kd.V (Kd.slice 3 (Kd.int .i64)) 28 w' w.heap.size (fun k_ => ((aZ k_ ∨ aY k_) ∨ w.heap.size ≤ k_) ∧ some k_ ≠ (mE : Value).ownBlock ∧ k_ ≠ ag) (.slice ak ae.length an) ae) ∧ aa (Kd.V (Kd.slice 3 (Kd.int .i64)) 28 w' w.heap.size (fun k_ => ((aZ k_ ∨ aY k_) ∨ w.heap.size ≤ k_) ∧ some k_ ≠ (mE : Value).ownBlock ∧ k_ ≠ ag) (.slice aj af.length al) af) ∧ aa (w'.heap[ag]? = some (.cells #[(.slice ak ae.length an), (.slice aj af.length al)] 24 (0, 0))) ∧ aa (Below w.heap.size w w'))
      case atStart => exact ⟨(0), (by first | rfl | (simp; done) | (simp [*]; done)), H', ⟨Nat.le_refl _⟩, ⟨by (with_reducible repeat (first | apply Kd.N_alloc | apply Kd.ZS | apply Kd.ZW)); exact bQ.out⟩, ⟨by (with_reducible repeat (first | apply Kd.V_alloc | apply Kd.ZD | apply Kd.Zw)); exact Kd.Yb aA.out (fun _ hk => ⟨hk.1.1, ⟨hk.2, hk.1.2⟩⟩)⟩, ⟨by (with_reducible repeat (first | apply Kd.V_alloc | apply Kd.ZD | apply Kd.Zw)); exact Kd.Yb aE.out (fun _ hk => ⟨hk.1.1, ⟨hk.2, hk.1.2⟩⟩)⟩, ⟨by (with_reducible repeat (first | refine Qv ?_ _ | refine Qx ?_ | refine Qu ?_ _)); exact ab.out⟩, ⟨bB⟩⟩
      case round =>
       clear H'; try clear c1
       try clear p1
       try clear q1
       try clear hx1
       try clear qi1
       try clear p2
       try clear c5
       try clear c7
       try clear c8
       try clear dU
       try clear kz
       try clear c9
       try clear c10
       try clear p10
       try clear q10
       try clear hH
       try clear j7
       try clear c13
       try clear c14
       try clear c15
       try clear dH
       try clear dG
       try clear cl
       try clear ck
       try clear ei
       try clear eh
       try clear dF
       try clear dE
       try clear cj
       try clear ch
       try clear eg
       try clear ef
       try clear bK
       try clear p1
       try clear p10
       try clear eZ
       try clear p2
       try clear q1
       try clear q10
       try clear eW
       obtain ⟨az, rfl, HA, HK2, bP, aA, aE, ab, HB⟩ := hrel; cases gk with
       | zero => exact absurd HA.out (by simp [Qd.l0])
       | succ k2 =>
        have H := HA.out; clear HA; simp only [Qd.l0] at H; by_cases c21 : az < (bu.length : Int)
        ·rw [if_pos c21] at H; have iF : decide (az < (bu.length : Int)) = true := decide_eq_true c21; clear c21; by_cases c22 : 0 ≤ az
         ·rw [if_pos c22] at H; have kA : decide (0 ≤ az) = true := decide_eq_true c22; clear c22; by_cases c23 : 0 < (ae.length : Int)
          ·rw [if_pos c23] at H; have pE : decide (0 < (ae.length : Int)) = true := decide_eq_true c23; have rN : decide (0 < ae.length) = true := decide_eq_true (by omega); clear c23; by_cases c24 : ((Qt bu az).length : Int) = ((Qt ae 0).length : Int)
           ·rw [if_pos c24] at H; have pD : (((Qt bu az).length : Int) == ((Qt ae 0).length : Int)) = true := beq_iff_eq.mpr c24; have pC : (((Qt bu az).length : Int) != ((Qt ae 0).length : Int)) = false := bne_eq_false_iff_eq.mpr c24; have pB : ((Qt bu az).length == (Qt ae 0).length) = true := by first | simpa using c24 | (simp at c24 ⊢; omega)
            clear c24; have H' := aa.mk H; clear H; obtain ⟨vr, oS, oP⟩ := Kd.ZX bP.out; subst oP; try go_wp2
            replace bP := aa.mk (Kd.ZW bP.out); replace aA := aa.mk (Kd.Zw aA.out); replace aE := aa.mk (Kd.Zw aE.out); replace ab := aa.mk (Qx ab.out); replace HB := aa.mk (QN HB.out); have fI : 0 ≤ (az : Int) := of_decide_eq_true (by assumption); have fG : az < (bu.length : Int) := of_decide_eq_true (by assumption); obtain ⟨dx, iT, jS, mX, cy, dY, ec⟩ := ZH (Kd.Za bP.out).2.2 az fI fG; cases mX; obtain ⟨rD, kV, kY, iC⟩ := Kd.YI bP.out [] az fI (by first | exact fG | exact of_decide_eq_true (by assumption) | (have e_ := (Kd.Za bP.out).1; omega)); obtain ⟨nx, nu, rfl, eH, eM⟩ := Kd.Zk kY; have dC := iC 0 _ rfl; rw [Nat.add_zero, show ((Kd.slice 3 (Kd.int .i64))).sz = 1 from rfl, Nat.mul_one] at dC; replace dC := Option.some.inj (dC.symm.trans cy); injection dC with hva_ hvn_ hvc_
            rw [hva_] at eM; rw [hvc_] at eH; have jX := aa.mk (show Kd.V (Kd.int .i64) 3 _ w.heap.size _ _ (Qt bu az) from Kd.V_mk eH eM); clear hva_ hvn_ hvc_ eM eH; clear iC kV; have di := aa.mk ec; have mh := aa.mk dY; clear ec dY; replace fI := eq_true fI; replace fG := eq_true fG; have fR : 0 ≤ (0 : Int) := (by omega); have fQ : 0 < (ae.length : Int) := of_decide_eq_true (by assumption); obtain ⟨gY, j1, lb, mW, bX, fU, fX⟩ := ZH (Kd.YM aA.out).2.2 0 fR fQ; cases mW; obtain ⟨rC, kU, kX, iB⟩ := Kd.V_get aA.out [] 0 fR (by first | exact fQ | exact of_decide_eq_true (by assumption) | (have e_ := (Kd.YM aA.out).1; omega)); obtain ⟨nw, nt, rfl, eG, eK⟩ := Kd.Zk kX; have dB := iB 0 _ rfl; rw [Nat.add_zero, show ((Kd.slice 3 (Kd.int .i64))).sz = 1 from rfl, Nat.mul_one] at dB; replace dB := Option.some.inj (dB.symm.trans bX); injection dB with hva_ hvn_ hvc_
            rw [hva_] at eK; rw [hvc_] at eG; have jW := aa.mk (show Kd.V (Kd.int .i64) 3 _ w.heap.size _ _ (Qt ae 0) from Kd.V_mk eG eK); clear hva_ hvn_ hvc_ eK eG; clear iB kU; have qX : (0 < ae.length) = True := eq_true (by omega); (try rw [show ((0 : Int)).toNat = 0 from rfl] at bX)
            (try rw [Addr.add_zero'] at bX)
            have en := aa.mk fX; have o9 := aa.mk fU; clear fX fU; replace fR := eq_true fR; replace fQ := eq_true fQ; refine Yg (n := 11) (S := fun w' => w'.cell? ⟨ag, 0, none⟩ = some (.slice (some gY) ae.length an) ∧ w'.cell? ⟨ag, 1, none⟩ = some (.slice aj af.length al) ∧ w'.cell? (dx.add (az).toNat) = some (.slice iT (Qt bu az).length jS) ∧ w'.cell? gY = some (.slice j1 (Qt ae 0).length lb)) (ds := []) #[false, false, false, false, false, false, false, false, false, false, false] (by kernel_rfl) rfl rfl ⟨(Qb ab.out 0).trans rfl, (Qb ab.out 1).trans rfl, cy, bX⟩ (fun hHeld => ?_); refine ZO Qd.tab7 Qd.bits7 (fun HT_ HW_ => ?_); generalize wr.drew = w26 at bP aA aE ab HB jX jW di en cy bX hHeld ⊢; refine QV (i := 0) (N := some 41) (v := ?_) (a' := ?_) #[true, false, false, false, false, false, false, false, false, false, false] rfl rfl (QL HT_.out (by kernel_rfl)) (fun _ _ _ h => h) (Or.inl ⟨by rfl, ?_⟩) ?_ ?_; rotate_left
            ·intro w'; go_simp; with_reducible rfl
            rotate_left
            ·simp only [Act.put, zA, zB, zC, QB, QD]; rfl
            refine QV (i := 1) (N := some 42) (v := ?_) (a' := ?_) #[true, true, false, false, false, false, false, false, false, false, false] rfl rfl (QL HT_.out (by kernel_rfl)) (fun _ _ _ h => h) (Or.inl ⟨by rfl, ?_⟩) ?_ ?_; rotate_left
            ·intro w'; go_simp; with_reducible rfl
            rotate_left
            ·simp only [Act.put, zA, zB, zC, QB, QD]; rfl
            refine QV (i := 2) (N := some 43) (v := ?_) (a' := ?_) #[true, true, true, false, false, false, false, false, false, false, false] rfl rfl (QL HT_.out (by kernel_rfl)) (fun _ _ _ h => h) (Or.inl ⟨by rfl, ?_⟩) ?_ ?_; rotate_left
            ·intro w'; go_simp; with_reducible rfl
            rotate_left
            ·simp only [Act.put, zA, zB, zC, QB, QD]; rfl
            refine QV (i := 5) (N := some 46) (v := ?_) (a' := ?_) #[true, true, true, false, false, true, false, false, false, false, false] rfl rfl (QL HT_.out (by kernel_rfl)) (fun _ _ _ h => h) (Or.inl ⟨by rfl, ?_⟩) ?_ ?_; rotate_left
            ·intro w'; go_simp; with_reducible rfl
            rotate_left
            ·simp only [Act.put, zA, zB, zC, QB, QD]; rfl
            refine ZG (i := 3) (N := some 44) (v := ?_) (a' := ?_) #[true, true, true, true, false, true, false, false, false, false, false] rfl rfl (Zc HT_.out HW_.out (by kernel_rfl)) (fun _ _ _ h => h) (Or.inl ⟨by rfl, ?_⟩) hHeld ?_ ?_; rotate_left
            ·rintro w' ⟨s0, s1, s2, s3⟩; go_simp; with_reducible rfl
            rotate_left
            ·simp only [Act.put, zA, zB, zC, QB, QD]; rfl
            refine QV (i := 4) (N := some 45) (v := ?_) (a' := ?_) #[true, true, true, true, true, true, false, false, false, false, false] rfl rfl (QL HT_.out (by kernel_rfl)) (fun _ _ _ h => h) (Or.inl ⟨by rfl, ?_⟩) ?_ ?_; rotate_left
            ·intro w'; go_simp; with_reducible rfl
            rotate_left
            ·simp only [Act.put, zA, zB, zC, QB, QD]; rfl
            refine ZG (i := 6) (N := some 47) (v := ?_) (a' := ?_) #[true, true, true, true, true, true, true, false, false, false, false] rfl rfl (Zc HT_.out HW_.out (by kernel_rfl)) (fun _ _ _ h => h) (Or.inl ⟨by rfl, ?_⟩) hHeld ?_ ?_; rotate_left
            ·rintro w' ⟨s0, s1, s2, s3⟩; go_simp; with_reducible rfl
            rotate_left
            ·simp only [Act.put, zA, zB, zC, QB, QD]; rfl
            refine QV (i := 7) (N := some 48) (v := ?_) (a' := ?_) #[true, true, true, true, true, true, true, true, false, false, false] rfl rfl (QL HT_.out (by kernel_rfl)) (fun _ _ _ h => h) (Or.inl ⟨by rfl, ?_⟩) ?_ ?_; rotate_left
            ·intro w'; go_simp; with_reducible rfl
            rotate_left
            ·simp only [Act.put, zA, zB, zC, QB, QD]; rfl
            refine ZG (i := 8) (N := some 49) (v := ?_) (a' := ?_) #[true, true, true, true, true, true, true, true, true, false, false] rfl rfl (Zc HT_.out HW_.out (by kernel_rfl)) (fun _ _ _ h => h) (Or.inl ⟨by rfl, ?_⟩) hHeld ?_ ?_; rotate_left
            ·rintro w' ⟨s0, s1, s2, s3⟩; go_simp; with_reducible rfl
            rotate_left
            ·simp only [Act.put, zA, zB, zC, QB, QD]; rfl
            refine QV (i := 9) (N := some 50) (v := ?_) (a' := ?_) #[true, true, true, true, true, true, true, true, true, true, false] rfl rfl (QL HT_.out (by kernel_rfl)) (fun _ _ _ h => h) (Or.inl ⟨by rfl, ?_⟩) ?_ ?_; rotate_left
            ·intro w'; go_simp; with_reducible rfl
            rotate_left
            ·simp only [Act.put, zA, zB, zC, QB, QD]; rfl
            refine QV (i := 10) (N := some 51) (v := ?_) (a' := ?_) #[true, true, true, true, true, true, true, true, true, true, true] rfl rfl (QL HT_.out (by kernel_rfl)) (fun _ _ _ h => h) (Or.inl ⟨by rfl, ?_⟩) ?_ ?_; rotate_left
            ·intro w'; go_simp; with_reducible rfl
            rotate_left
            ·simp only [Act.put, zA, zB, zC, QB, QD]; rfl
            refine YC (Z5 HT_.out (by kernel_rfl)) ?_; try go_wp2
            go_loopg [5, 6] k2 (fun kq v5 v6 w' => ∃ (ix : Int) (dc : Int), v5 = .int .i64 ix ∧ v6 = .int .i64 dc ∧ aa (Qd.l1 kq bu az ix dc ae af = some r) ∧ aa (kq ≤ k2) ∧ aa (Kd.N (Kd.slice 3 (Kd.int .i64)) 28 w' w.heap.size (fun k_ => ((aZ k_ ∨ aY k_) ∨ w.heap.size ≤ k_) ∧ k_ ≠ ag) (.slice (some dx) bu.length oS) bu) ∧ aa (Kd.V (Kd.slice 3 (Kd.int .i64)) 28 w' w.heap.size (fun k_ => ((aZ k_ ∨ aY k_) ∨ w.heap.size ≤ k_) ∧ some k_ ≠ ((.slice (some dx) bu.length oS) : Value).ownBlock ∧ k_ ≠ ag) (.slice (some gY) ae.length an) ae) ∧ aa (Kd.V (Kd.slice 3 (Kd.int .i64)) 28 w' w.heap.size (fun k_ => ((aZ k_ ∨ aY k_) ∨ w.heap.size ≤ k_) ∧ some k_ ≠ ((.slice (some dx) bu.length oS) : Value).ownBlock ∧ k_ ≠ ag) (.slice aj af.length al) af) ∧ aa (w'.heap[ag]? = some (.cells #[(.slice (some gY) ae.length an), (.slice aj af.length al)] 24 (0, 0))) ∧ aa (Kd.C (Kd.int .i64) w' iT (Qt bu az).length (Qt bu az)) ∧ aa (Kd.C (Kd.int .i64) w' j1 (Qt ae 0).length (Qt ae 0)) ∧ aa (Below w.heap.size w w'))
            case atStart => exact ⟨(0), (0), (by first | rfl | (simp; done) | (simp [*]; done)), (by first | rfl | (simp; done) | (simp [*]; done)), H', ⟨Nat.le_refl _⟩, ⟨by (with_reducible repeat (first | apply Kd.N_alloc | apply Kd.ZS | apply Kd.ZW)); exact bP.out⟩, ⟨by (with_reducible repeat (first | apply Kd.V_alloc | apply Kd.ZD | apply Kd.Zw)); exact aA.out⟩, ⟨by (with_reducible repeat (first | apply Kd.V_alloc | apply Kd.ZD | apply Kd.Zw)); exact aE.out⟩, ⟨by (with_reducible repeat (first | refine Qv ?_ _ | refine Qx ?_ | refine Qu ?_ _)); exact ab.out⟩, ⟨by repeat (first | (with_reducible exact di.out) | (with_reducible refine Kd.C_alloc ?_ _) | (with_reducible refine Kd.Zu ?_ _) | (with_reducible refine Kd.C_drew ?_) | exact di.out)⟩, ⟨by repeat (first | (with_reducible exact en.out) | (with_reducible refine Kd.C_alloc ?_ _) | (with_reducible refine Kd.Zu ?_ _) | (with_reducible refine Kd.C_drew ?_) | exact en.out)⟩, ⟨bB⟩⟩
            case round =>
             clear H'; try clear c1
             try clear p1
             try clear q1
             try clear hx1
             try clear qi1
             try clear c2
             try clear p2
             try clear c5
             try clear c7
             try clear c8
             try clear dU
             try clear kz
             try clear c9
             try clear c10
             try clear p10
             try clear q10
             try clear hH
             try clear j7
             try clear c11
             try clear p11
             try clear q11
             try clear p7
             try clear wy
             try clear c13
             try clear c14
             try clear c15
             try clear c21
             try clear iF
             try clear c22
             try clear kA
             try clear c23
             try clear pE
             try clear rN
             try clear c24
             try clear pD
             try clear pC
             try clear pB
             try clear dH
             try clear dG
             try clear cl
             try clear ck
             try clear ei
             try clear eh
             try clear dF
             try clear dE
             try clear cj
             try clear ch
             try clear eg
             try clear ef
             try clear bK
             try clear cy
             try clear bX
             try clear p1
             try clear p10
             try clear eZ
             try clear fI
             try clear fR
             try clear p2
             try clear q1
             try clear q10
             try clear eW
             try clear fG
             try clear fQ
             obtain ⟨ix, dc, rfl, rfl, HA, HK3, bP, aA, aE, ab, di, en, HB⟩ := hrel; cases gk with
             | zero => exact absurd HA.out (by simp [Qd.l1])
             | succ k3 =>
              have H := HA.out; clear HA; simp only [Qd.l1] at H; by_cases c27 : 0 ≤ az
              ·rw [if_pos c27] at H; have vS : decide (0 ≤ az) = true := decide_eq_true c27; clear c27; by_cases c28 : az < (bu.length : Int)
               ·rw [if_pos c28] at H; have m7 : decide (az < (bu.length : Int)) = true := decide_eq_true c28; clear c28; by_cases c29 : dc < ((Qt bu az).length : Int)
                ·rw [if_pos c29] at H; have m6 : decide (dc < ((Qt bu az).length : Int)) = true := decide_eq_true c29; clear c29; by_cases c30 : 0 ≤ dc
                 ·rw [if_pos c30] at H; have pA : decide (0 ≤ dc) = true := decide_eq_true c30; clear c30; replace H := Option.bind_eq_some_iff.mp H; obtain ⟨t120, sw, H⟩ := H; replace H : (if t120 = true then (Qd.l1 k3 bu az (wrap64 (ix + (rd (Qt bu az) dc))) (wrap64 (dc + 1)) ae af) else (some 1)) = some r := H; have A31 := aa.mk sw; clear sw; by_cases c32 : t120 = true
                  ·subst c32; have H1 : (Qd.l1 k3 bu az (wrap64 (ix + (rd (Qt bu az) dc))) (wrap64 (dc + 1)) ae af) = some r := by rw [if_pos rfl] at H; exact H
                   clear H; have H := H1; clear H1; have H' := aa.mk H; clear H; have dN : 0 ≤ (az : Int) := of_decide_eq_true (by assumption); have dM : az < (bu.length : Int) := of_decide_eq_true (by assumption); obtain ⟨gX, lh, la, jP, ca, cS, cU⟩ := ZH (Kd.Za bP.out).2.2 az dN dM; obtain rfl : dx = gX := (by injection jP); obtain ⟨m3, fL, fM, dT⟩ := Kd.YI bP.out [] az dN (by first | exact dM | exact of_decide_eq_true (by assumption) | (have e_ := (Kd.Za bP.out).1; omega)); obtain ⟨jt, jr, rfl, b6, b7⟩ := Kd.Zk fM; have bM := dT 0 _ rfl; rw [Nat.add_zero, show ((Kd.slice 3 (Kd.int .i64))).sz = 1 from rfl, Nat.mul_one] at bM; replace bM := Option.some.inj (bM.symm.trans ca); injection bM with hva_ hvn_ hvc_
                   rw [hva_] at b7; rw [hvc_] at b6; have jV := aa.mk (show Kd.V (Kd.int .i64) 3 _ w.heap.size _ _ (Qt bu az) from Kd.V_mk b6 b7); clear hva_ hvn_ hvc_ b7 b6; clear dT fL; have jT := aa.mk cU; have jY := aa.mk cS; clear cU cS; replace dN := eq_true dN; replace dM := eq_true dM; have gL : 0 ≤ (az : Int) := of_decide_eq_true (by assumption); have gK : az < (bu.length : Int) := of_decide_eq_true (by assumption); obtain ⟨kF, qT, qI, mV, cR, fT, fW⟩ := ZH (Kd.Za bP.out).2.2 az gL gK; obtain rfl : dx = kF := (by injection mV); obtain ⟨rB, kT, kW, iA⟩ := Kd.YI bP.out [] az gL (by first | exact gK | exact of_decide_eq_true (by assumption) | (have e_ := (Kd.Za bP.out).1; omega)); obtain ⟨nv, nr, rfl, eF, eJ⟩ := Kd.Zk kW; have dA := iA 0 _ rfl; rw [Nat.add_zero, show ((Kd.slice 3 (Kd.int .i64))).sz = 1 from rfl, Nat.mul_one] at dA; replace dA := Option.some.inj (dA.symm.trans cR); injection dA with hva_ hvn_ hvc_
                   rw [hva_] at eJ; rw [hvc_] at eF; have oY := aa.mk (show Kd.V (Kd.int .i64) 3 _ w.heap.size _ _ (Qt bu az) from Kd.V_mk eF eJ); clear hva_ hvn_ hvc_ eJ eF; clear iA kT; have gD := aa.mk fW; have o8 := aa.mk fT; clear fW fT; replace gL := eq_true gL; replace gK := eq_true gK; have ea_ := Option.some.inj (ca.symm.trans cR); injection ea_ with ea_ en_ ec_
                   subst ea_; subst ec_; clear en_; have kO : 0 ≤ (dc : Int) := of_decide_eq_true (by assumption); have kM : dc < ((Qt bu az).length : Int) := of_decide_eq_true (by assumption); obtain ⟨rS, qF, nC⟩ := Kd.QZ (by repeat (first | (with_reducible exact gD.out) | (with_reducible refine Kd.C_alloc ?_ _) | (with_reducible refine Kd.Zu ?_ _) | (with_reducible refine Kd.C_drew ?_) | exact gD.out)) dc kO kM; cases qF; replace kO := eq_true kO; replace kM := eq_true kM; go_wp2_with (first | ((with_reducible refine Qf (f := 99) rfl ?_); refine QE (some 68) rfl rfl Try.func99 (by kernel_rfl) rfl #[.int .i64 (rd (Qt bu az) dc), .int .i64 0, .int .i64 9] rfl hA ?_; (with_reducible refine (QF.calls (rd (Qt bu az) dc) 0 9 true _ A31.out).mono ?_); rintro e w' ⟨rfl, ⟨nd, rfl⟩⟩; refine ⟨_, rfl, ?_⟩; have nA : 0 ≤ (az : Int) := of_decide_eq_true (by assumption); have ny : az < (bu.length : Int) := of_decide_eq_true (by assumption); obtain ⟨rR, vv, uX, uQ, lv, lA, lG⟩ := ZH (Kd.Za bP.out).2.2 az nA ny; obtain rfl : dx = rR := (by injection uQ); obtain ⟨vE, qk, qp, mL⟩ := Kd.YI bP.out [] az nA (by first | exact ny | exact of_decide_eq_true (by assumption) | (have e_ := (Kd.Za bP.out).1; omega)); obtain ⟨sI, sE, rfl, jm, jL⟩ := Kd.Zk qp; have ia := mL 0 _ rfl; rw [Nat.add_zero, show ((Kd.slice 3 (Kd.int .i64))).sz = 1 from rfl, Nat.mul_one] at ia; replace ia := Option.some.inj (ia.symm.trans lv); injection ia with hva_ hvn_ hvc_; rw [hva_] at jL; rw [hvc_] at jm; have tJ := aa.mk (show Kd.V (Kd.int .i64) 3 _ w.heap.size _ _ (Qt bu az) from Kd.V_mk jm jL); clear hva_ hvn_ hvc_ jL jm; clear mL qk; have mb := aa.mk lG; have tM := aa.mk lA; clear lG lA; replace nA := eq_true nA; replace ny := eq_true ny; have ea_ := Option.some.inj (ca.symm.trans lv); injection ea_ with ea_ en_ ec_; subst ea_; subst ec_; clear en_; have kN : 0 ≤ (dc : Int) := of_decide_eq_true (by assumption); have kL : dc < ((Qt bu az).length : Int) := of_decide_eq_true (by assumption); obtain ⟨m8, qE, nB⟩ := Kd.QZ (by repeat (first | (with_reducible exact mb.out) | (with_reducible refine Kd.C_alloc ?_ _) | (with_reducible refine Kd.Zu ?_ _) | (with_reducible refine Kd.C_drew ?_) | exact mb.out)) dc kN kL; cases qE; replace kN := eq_true kN; replace kL := eq_true kL))
                   go_roundg k3
                   case measure => have := HJ1.out; have := HK2.out; have := HK3.out; omega
                   case rel => exact ⟨(wrap64 (ix + (rd (Qt bu az) dc))), (wrap64 (dc + 1)), (by first | rfl | (simp; done) | (simp [*]; done)), (by first | rfl | (simp; done) | (simp [*]; done)), H', ⟨by have := HJ1.out; have := HK2.out; have := HK3.out; omega⟩, ⟨by (with_reducible repeat (first | apply Kd.N_alloc | apply Kd.ZS | apply Kd.ZW)); exact bP.out⟩, ⟨by (with_reducible repeat (first | apply Kd.V_alloc | apply Kd.ZD | apply Kd.Zw)); exact aA.out⟩, ⟨by (with_reducible repeat (first | apply Kd.V_alloc | apply Kd.ZD | apply Kd.Zw)); exact aE.out⟩, ⟨by (with_reducible repeat (first | refine Qv ?_ _ | refine Qx ?_ | refine Qu ?_ _)); exact ab.out⟩, ⟨by repeat (first | (with_reducible exact di.out) | (with_reducible refine Kd.C_alloc ?_ _) | (with_reducible refine Kd.Zu ?_ _) | (with_reducible refine Kd.C_drew ?_) | exact di.out)⟩, ⟨by repeat (first | (with_reducible exact en.out) | (with_reducible refine Kd.C_alloc ?_ _) | (with_reducible refine Kd.Zu ?_ _) | (with_reducible refine Kd.C_drew ?_) | exact en.out)⟩, ⟨bB⟩⟩
                  ·replace c32 := Bool.eq_false_iff.mpr c32; subst c32; have H1 : (some 1) = some r := by rw [if_neg (show ¬ (false = true) by decide)] at H; exact H
                   clear H; have H := H1; clear H1; obtain rfl := Option.some.inj H; have dN : 0 ≤ (az : Int) := of_decide_eq_true (by assumption); have dM : az < (bu.length : Int) := of_decide_eq_true (by assumption); obtain ⟨gX, lh, la, jP, ca, cS, cU⟩ := ZH (Kd.Za bP.out).2.2 az dN dM; obtain rfl : dx = gX := (by injection jP); obtain ⟨m3, fL, fM, dT⟩ := Kd.YI bP.out [] az dN (by first | exact dM | exact of_decide_eq_true (by assumption) | (have e_ := (Kd.Za bP.out).1; omega)); obtain ⟨jt, jr, rfl, b6, b7⟩ := Kd.Zk fM; have bM := dT 0 _ rfl; rw [Nat.add_zero, show ((Kd.slice 3 (Kd.int .i64))).sz = 1 from rfl, Nat.mul_one] at bM; replace bM := Option.some.inj (bM.symm.trans ca); injection bM with hva_ hvn_ hvc_
                   rw [hva_] at b7; rw [hvc_] at b6; have jV := aa.mk (show Kd.V (Kd.int .i64) 3 _ w.heap.size _ _ (Qt bu az) from Kd.V_mk b6 b7); clear hva_ hvn_ hvc_ b7 b6; clear dT fL; have jT := aa.mk cU; have jY := aa.mk cS; clear cU cS; replace dN := eq_true dN; replace dM := eq_true dM; have gL : 0 ≤ (az : Int) := of_decide_eq_true (by assumption); have gK : az < (bu.length : Int) := of_decide_eq_true (by assumption); obtain ⟨kF, qT, qI, mV, cR, fT, fW⟩ := ZH (Kd.Za bP.out).2.2 az gL gK; obtain rfl : dx = kF := (by injection mV); obtain ⟨rB, kT, kW, iA⟩ := Kd.YI bP.out [] az gL (by first | exact gK | exact of_decide_eq_true (by assumption) | (have e_ := (Kd.Za bP.out).1; omega)); obtain ⟨nv, nr, rfl, eF, eJ⟩ := Kd.Zk kW; have dA := iA 0 _ rfl; rw [Nat.add_zero, show ((Kd.slice 3 (Kd.int .i64))).sz = 1 from rfl, Nat.mul_one] at dA; replace dA := Option.some.inj (dA.symm.trans cR); injection dA with hva_ hvn_ hvc_
                   rw [hva_] at eJ; rw [hvc_] at eF; have oY := aa.mk (show Kd.V (Kd.int .i64) 3 _ w.heap.size _ _ (Qt bu az) from Kd.V_mk eF eJ); clear hva_ hvn_ hvc_ eJ eF; clear iA kT; have gD := aa.mk fW; have o8 := aa.mk fT; clear fW fT; replace gL := eq_true gL; replace gK := eq_true gK; have ea_ := Option.some.inj (ca.symm.trans cR); injection ea_ with ea_ en_ ec_
                   subst ea_; subst ec_; clear en_; have kO : 0 ≤ (dc : Int) := of_decide_eq_true (by assumption); have kM : dc < ((Qt bu az).length : Int) := of_decide_eq_true (by assumption); obtain ⟨rS, qF, nC⟩ := Kd.QZ (by repeat (first | (with_reducible exact gD.out) | (with_reducible refine Kd.C_alloc ?_ _) | (with_reducible refine Kd.Zu ?_ _) | (with_reducible refine Kd.C_drew ?_) | exact gD.out)) dc kO kM; cases qF; replace kO := eq_true kO; replace kM := eq_true kM; go_wp2_with (first | ((with_reducible refine Qf (f := 99) rfl ?_); refine QE (some 68) rfl rfl Try.func99 (by kernel_rfl) rfl #[.int .i64 (rd (Qt bu az) dc), .int .i64 0, .int .i64 9] rfl hA ?_; (with_reducible refine (QF.calls (rd (Qt bu az) dc) 0 9 false _ A31.out).mono ?_); rintro e w' ⟨rfl, ⟨nd, rfl⟩⟩; refine ⟨_, rfl, ?_⟩))
                   go_ret; exact ⟨by first | rfl | (simp [Qk, Qj] <;> rfl) | (simp [*, Qk, Qj] <;> rfl), bB⟩
                 ·rw [if_neg c30] at H; exact absurd H (by simp)
                ·rw [if_neg c29] at H; have m6 : decide (dc < ((Qt bu az).length : Int)) = false := decide_eq_false c29; clear c29; by_cases c33 : ix = 0
                 ·rw [if_pos c33] at H; have l4 : (ix == 0) = true := beq_iff_eq.mpr c33; have rJ : (ix != 0) = false := bne_eq_false_iff_eq.mpr c33; clear c33; obtain rfl := Option.some.inj H; have dN : 0 ≤ (az : Int) := of_decide_eq_true (by assumption); have dM : az < (bu.length : Int) := of_decide_eq_true (by assumption); obtain ⟨gX, lh, la, jP, ca, cS, cU⟩ := ZH (Kd.Za bP.out).2.2 az dN dM; obtain rfl : dx = gX := (by injection jP); obtain ⟨m3, fL, fM, dT⟩ := Kd.YI bP.out [] az dN (by first | exact dM | exact of_decide_eq_true (by assumption) | (have e_ := (Kd.Za bP.out).1; omega)); obtain ⟨jt, jr, rfl, b6, b7⟩ := Kd.Zk fM; have bM := dT 0 _ rfl; rw [Nat.add_zero, show ((Kd.slice 3 (Kd.int .i64))).sz = 1 from rfl, Nat.mul_one] at bM; replace bM := Option.some.inj (bM.symm.trans ca); injection bM with hva_ hvn_ hvc_
                  rw [hva_] at b7; rw [hvc_] at b6; have jV := aa.mk (show Kd.V (Kd.int .i64) 3 _ w.heap.size _ _ (Qt bu az) from Kd.V_mk b6 b7); clear hva_ hvn_ hvc_ b7 b6; clear dT fL; have jT := aa.mk cU; have jY := aa.mk cS; clear cU cS; replace dN := eq_true dN; replace dM := eq_true dM; go_wp2; go_ret; exact ⟨by first | rfl | (simp [Qk, Qj] <;> rfl) | (simp [*, Qk, Qj] <;> rfl), bB⟩
                 ·rw [if_neg c33] at H; have l4 : (ix == 0) = false := beq_eq_false_iff_ne.mpr c33; have rJ : (ix != 0) = true := bne_iff_ne.mpr c33; have H' := aa.mk H; clear H; have dN : 0 ≤ (az : Int) := of_decide_eq_true (by assumption); have dM : az < (bu.length : Int) := of_decide_eq_true (by assumption); obtain ⟨gX, lh, la, jP, ca, cS, cU⟩ := ZH (Kd.Za bP.out).2.2 az dN dM; obtain rfl : dx = gX := (by injection jP); obtain ⟨m3, fL, fM, dT⟩ := Kd.YI bP.out [] az dN (by first | exact dM | exact of_decide_eq_true (by assumption) | (have e_ := (Kd.Za bP.out).1; omega)); obtain ⟨jt, jr, rfl, b6, b7⟩ := Kd.Zk fM; have bM := dT 0 _ rfl; rw [Nat.add_zero, show ((Kd.slice 3 (Kd.int .i64))).sz = 1 from rfl, Nat.mul_one] at bM; replace bM := Option.some.inj (bM.symm.trans ca); injection bM with hva_ hvn_ hvc_
                  rw [hva_] at b7; rw [hvc_] at b6; have jV := aa.mk (show Kd.V (Kd.int .i64) 3 _ w.heap.size _ _ (Qt bu az) from Kd.V_mk b6 b7); clear hva_ hvn_ hvc_ b7 b6; clear dT fL; have jT := aa.mk cU; have jY := aa.mk cS; clear cU cS; replace dN := eq_true dN; replace dM := eq_true dM; go_wp2; go_roundg k3
                  case measure => have := HJ1.out; have := HK2.out; have := HK3.out; omega
                  case rel => exact ⟨(wrap64 (az + 1)), (by first | rfl | (simp; done) | (simp [*]; done)), H', ⟨by have := HJ1.out; have := HK2.out; have := HK3.out; omega⟩, ⟨by (with_reducible repeat (first | apply Kd.N_alloc | apply Kd.ZS | apply Kd.ZW)); exact bP.out⟩, ⟨by (with_reducible repeat (first | apply Kd.V_alloc | apply Kd.ZD | apply Kd.Zw)); exact aA.out⟩, ⟨by (with_reducible repeat (first | apply Kd.V_alloc | apply Kd.ZD | apply Kd.Zw)); exact aE.out⟩, ⟨by (with_reducible repeat (first | refine Qv ?_ _ | refine Qx ?_ | refine Qu ?_ _)); exact ab.out⟩, ⟨bB⟩⟩
               ·rw [if_neg c28] at H; exact absurd H (by simp)
              ·rw [if_neg c27] at H; exact absurd H (by simp)
           ·rw [if_neg c24] at H; have pD : (((Qt bu az).length : Int) == ((Qt ae 0).length : Int)) = false := beq_eq_false_iff_ne.mpr c24; have pC : (((Qt bu az).length : Int) != ((Qt ae 0).length : Int)) = true := bne_iff_ne.mpr c24; have pB : ((Qt bu az).length == (Qt ae 0).length) = false := by first | simpa using c24 | (simp at c24 ⊢; omega)
            obtain rfl := Option.some.inj H; obtain ⟨sq, rz, mS⟩ := Kd.ZX bP.out; subst mS; try go_wp2
            replace bP := aa.mk (Kd.ZW bP.out); replace aA := aa.mk (Kd.Zw aA.out); replace aE := aa.mk (Kd.Zw aE.out); replace ab := aa.mk (Qx ab.out); replace HB := aa.mk (QN HB.out); have fI : 0 ≤ (az : Int) := of_decide_eq_true (by assumption); have fG : az < (bu.length : Int) := of_decide_eq_true (by assumption); obtain ⟨dx, iT, jS, mX, cy, dY, ec⟩ := ZH (Kd.Za bP.out).2.2 az fI fG; cases mX; obtain ⟨rD, kV, kY, iC⟩ := Kd.YI bP.out [] az fI (by first | exact fG | exact of_decide_eq_true (by assumption) | (have e_ := (Kd.Za bP.out).1; omega)); obtain ⟨nx, nu, rfl, eH, eM⟩ := Kd.Zk kY; have dC := iC 0 _ rfl; rw [Nat.add_zero, show ((Kd.slice 3 (Kd.int .i64))).sz = 1 from rfl, Nat.mul_one] at dC; replace dC := Option.some.inj (dC.symm.trans cy); injection dC with hva_ hvn_ hvc_
            rw [hva_] at eM; rw [hvc_] at eH; have jX := aa.mk (show Kd.V (Kd.int .i64) 3 _ w.heap.size _ _ (Qt bu az) from Kd.V_mk eH eM); clear hva_ hvn_ hvc_ eM eH; clear iC kV; have di := aa.mk ec; have mh := aa.mk dY; clear ec dY; replace fI := eq_true fI; replace fG := eq_true fG; have fR : 0 ≤ (0 : Int) := (by omega); have fQ : 0 < (ae.length : Int) := of_decide_eq_true (by assumption); obtain ⟨gY, j1, lb, mW, bX, fU, fX⟩ := ZH (Kd.YM aA.out).2.2 0 fR fQ; cases mW; obtain ⟨rC, kU, kX, iB⟩ := Kd.V_get aA.out [] 0 fR (by first | exact fQ | exact of_decide_eq_true (by assumption) | (have e_ := (Kd.YM aA.out).1; omega)); obtain ⟨nw, nt, rfl, eG, eK⟩ := Kd.Zk kX; have dB := iB 0 _ rfl; rw [Nat.add_zero, show ((Kd.slice 3 (Kd.int .i64))).sz = 1 from rfl, Nat.mul_one] at dB; replace dB := Option.some.inj (dB.symm.trans bX); injection dB with hva_ hvn_ hvc_
            rw [hva_] at eK; rw [hvc_] at eG; have jW := aa.mk (show Kd.V (Kd.int .i64) 3 _ w.heap.size _ _ (Qt ae 0) from Kd.V_mk eG eK); clear hva_ hvn_ hvc_ eK eG; clear iB kU; have qX : (0 < ae.length) = True := eq_true (by omega); (try rw [show ((0 : Int)).toNat = 0 from rfl] at bX)
            (try rw [Addr.add_zero'] at bX)
            have en := aa.mk fX; have o9 := aa.mk fU; clear fX fU; replace fR := eq_true fR; replace fQ := eq_true fQ; refine Yg (n := 11) (S := fun w' => w'.cell? ⟨ag, 0, none⟩ = some (.slice (some gY) ae.length an) ∧ w'.cell? ⟨ag, 1, none⟩ = some (.slice aj af.length al) ∧ w'.cell? (dx.add (az).toNat) = some (.slice iT (Qt bu az).length jS) ∧ w'.cell? gY = some (.slice j1 (Qt ae 0).length lb)) (ds := []) #[false, false, false, false, false, false, false, false, false, false, false] (by kernel_rfl) rfl rfl ⟨(Qb ab.out 0).trans rfl, (Qb ab.out 1).trans rfl, cy, bX⟩ (fun hHeld => ?_); refine ZO Qd.tab7 Qd.bits7 (fun HT_ HW_ => ?_); generalize wr.drew = w35 at bP aA aE ab HB jX jW di en cy bX hHeld ⊢; refine QV (i := 0) (N := some 41) (v := ?_) (a' := ?_) #[true, false, false, false, false, false, false, false, false, false, false] rfl rfl (QL HT_.out (by kernel_rfl)) (fun _ _ _ h => h) (Or.inl ⟨by rfl, ?_⟩) ?_ ?_; rotate_left
            ·intro w'; go_simp; with_reducible rfl
            rotate_left
            ·simp only [Act.put, zA, zB, zC, QB, QD]; rfl
            refine QV (i := 1) (N := some 42) (v := ?_) (a' := ?_) #[true, true, false, false, false, false, false, false, false, false, false] rfl rfl (QL HT_.out (by kernel_rfl)) (fun _ _ _ h => h) (Or.inl ⟨by rfl, ?_⟩) ?_ ?_; rotate_left
            ·intro w'; go_simp; with_reducible rfl
            rotate_left
            ·simp only [Act.put, zA, zB, zC, QB, QD]; rfl
            refine QV (i := 2) (N := some 43) (v := ?_) (a' := ?_) #[true, true, true, false, false, false, false, false, false, false, false] rfl rfl (QL HT_.out (by kernel_rfl)) (fun _ _ _ h => h) (Or.inl ⟨by rfl, ?_⟩) ?_ ?_; rotate_left
            ·intro w'; go_simp; with_reducible rfl
            rotate_left
            ·simp only [Act.put, zA, zB, zC, QB, QD]; rfl
            refine QV (i := 5) (N := some 46) (v := ?_) (a' := ?_) #[true, true, true, false, false, true, false, false, false, false, false] rfl rfl (QL HT_.out (by kernel_rfl)) (fun _ _ _ h => h) (Or.inl ⟨by rfl, ?_⟩) ?_ ?_; rotate_left
            ·intro w'; go_simp; with_reducible rfl
            rotate_left
            ·simp only [Act.put, zA, zB, zC, QB, QD]; rfl
            refine ZG (i := 3) (N := some 44) (v := ?_) (a' := ?_) #[true, true, true, true, false, true, false, false, false, false, false] rfl rfl (Zc HT_.out HW_.out (by kernel_rfl)) (fun _ _ _ h => h) (Or.inl ⟨by rfl, ?_⟩) hHeld ?_ ?_; rotate_left
            ·rintro w' ⟨s0, s1, s2, s3⟩; go_simp; with_reducible rfl
            rotate_left
            ·simp only [Act.put, zA, zB, zC, QB, QD]; rfl
            refine QV (i := 4) (N := some 45) (v := ?_) (a' := ?_) #[true, true, true, true, true, true, false, false, false, false, false] rfl rfl (QL HT_.out (by kernel_rfl)) (fun _ _ _ h => h) (Or.inl ⟨by rfl, ?_⟩) ?_ ?_; rotate_left
            ·intro w'; go_simp; with_reducible rfl
            rotate_left
            ·simp only [Act.put, zA, zB, zC, QB, QD]; rfl
            refine ZG (i := 6) (N := some 47) (v := ?_) (a' := ?_) #[true, true, true, true, true, true, true, false, false, false, false] rfl rfl (Zc HT_.out HW_.out (by kernel_rfl)) (fun _ _ _ h => h) (Or.inl ⟨by rfl, ?_⟩) hHeld ?_ ?_; rotate_left
            ·rintro w' ⟨s0, s1, s2, s3⟩; go_simp; with_reducible rfl
            rotate_left
            ·simp only [Act.put, zA, zB, zC, QB, QD]; rfl
            refine QV (i := 7) (N := some 48) (v := ?_) (a' := ?_) #[true, true, true, true, true, true, true, true, false, false, false] rfl rfl (QL HT_.out (by kernel_rfl)) (fun _ _ _ h => h) (Or.inl ⟨by rfl, ?_⟩) ?_ ?_; rotate_left
            ·intro w'; go_simp; with_reducible rfl
            rotate_left
            ·simp only [Act.put, zA, zB, zC, QB, QD]; rfl
            refine ZG (i := 8) (N := some 49) (v := ?_) (a' := ?_) #[true, true, true, true, true, true, true, true, true, false, false] rfl rfl (Zc HT_.out HW_.out (by kernel_rfl)) (fun _ _ _ h => h) (Or.inl ⟨by rfl, ?_⟩) hHeld ?_ ?_; rotate_left
            ·rintro w' ⟨s0, s1, s2, s3⟩; go_simp; with_reducible rfl
            rotate_left
            ·simp only [Act.put, zA, zB, zC, QB, QD]; rfl
            refine QV (i := 9) (N := some 50) (v := ?_) (a' := ?_) #[true, true, true, true, true, true, true, true, true, true, false] rfl rfl (QL HT_.out (by kernel_rfl)) (fun _ _ _ h => h) (Or.inl ⟨by rfl, ?_⟩) ?_ ?_; rotate_left
            ·intro w'; go_simp; with_reducible rfl
            rotate_left
            ·simp only [Act.put, zA, zB, zC, QB, QD]; rfl
            refine QV (i := 10) (N := some 51) (v := ?_) (a' := ?_) #[true, true, true, true, true, true, true, true, true, true, true] rfl rfl (QL HT_.out (by kernel_rfl)) (fun _ _ _ h => h) (Or.inl ⟨by rfl, ?_⟩) ?_ ?_; rotate_left
            ·intro w'; go_simp; with_reducible rfl
            rotate_left
            ·simp only [Act.put, zA, zB, zC, QB, QD]; rfl
            refine YC (Z5 HT_.out (by kernel_rfl)) ?_; try go_wp2
            go_ret; exact ⟨by first | rfl | (simp [Qk, Qj] <;> rfl) | (simp [*, Qk, Qj] <;> rfl), bB⟩
          ·rw [if_neg c23] at H; exact absurd H (by simp)
         ·rw [if_neg c22] at H; exact absurd H (by simp)
        ·rw [if_neg c21] at H; have iF : decide (az < (bu.length : Int)) = false := decide_eq_false c21; clear c21; obtain rfl := Option.some.inj H; obtain ⟨pd, oR, mv⟩ := Kd.ZX bP.out; subst mv; go_wp2; go_ret; exact ⟨by first | rfl | (simp [Qk, Qj] <;> rfl) | (simp [*, Qk, Qj] <;> rfl), bB⟩
     ·rw [if_neg c15] at H; exact absurd H (by simp)
    ·rw [if_neg c14] at H; exact absurd H (by simp)
def Zp.f (k : Nat) (ae : List (List Int)) (af : List (List Int)) (l1 : List Int) : Option (Int) := (Qd.f k ae af).bind fun t102 => (if t102 = 0 then (if 0 < (ae.length : Int) then ((QT.f k l1 ((Qt ae 0).length : Int) (-1000000) 1000000).bind fun t104 => (if t104 = true then (some 0) else (some 1))) else (none)) else (some t102))
set_option maxHeartbeats 8000000 in
set_option maxRecDepth 100000 in
theorem Zp.calls (k : Nat) (ak : Option Addr) (an : Nat) (ae : List (List Int)) (aj : Option Addr) (al : Nat) (af : List (List Int)) (A1 : Option Addr) (c1 : Nat) (l1 : List Int) (r : Int) (w : World) (aV : Kd.C (Kd.slice 3 (Kd.int .i64)) w ak ae.length ae) (aX : ae.length ≤ an) (aU : Kd.C (Kd.slice 3 (Kd.int .i64)) w aj af.length af) (aW : af.length ≤ al) (hr1 : Kd.C (Kd.int .i64) w A1 l1.length l1) (hc1 : l1.length ≤ c1) (h : Zp.f k ae af l1 = some r) :
  Calls Try.prog 100 #[.agg #[.slice ak ae.length an, .slice aj af.length al], .slice A1 l1.length c1] w fun e w' => e = .returned (.int .i64 r) ∧ Below w.heap.size w w' := by
 have dD := Try.underlying24; have av := aa.mk aV; have aw := aa.mk aX; clear aV aX; have ay := aa.mk aU; have ax := aa.mk aW; clear aU aW; have HR1 := aa.mk hr1; have HC1 := aa.mk hc1; clear hr1 hc1; have HB := aa.mk (Below.refl w.heap.size w); have H : ((Qd.f k ae af).bind fun t102 => (if t102 = 0 then (if 0 < (ae.length : Int) then ((QT.f k l1 ((Qt ae 0).length : Int) (-1000000) 1000000).bind fun t104 => (if t104 = true then (some 0) else (some 1))) else (none)) else (some t102))) = some r := h; clear h; replace H := Option.bind_eq_some_iff.mp H; obtain ⟨t102, A30, H⟩ := H; replace H : (if t102 = 0 then (if 0 < (ae.length : Int) then ((QT.f k l1 ((Qt ae 0).length : Int) (-1000000) 1000000).bind fun t104 => (if t104 = true then (some 0) else (some 1))) else (none)) else (some t102)) = some r := H; have A3 := aa.mk A30; clear A30; by_cases c4 : t102 = 0
 ·rw [if_pos c4] at H; have bI : (t102 == 0) = true := beq_iff_eq.mpr c4; have cZ : (t102 != 0) = false := bne_eq_false_iff_eq.mpr c4; clear c4; by_cases c5 : 0 < (ae.length : Int)
  ·rw [if_pos c5] at H; have dp : decide (0 < (ae.length : Int)) = true := decide_eq_true c5; have fN : decide (0 < ae.length) = true := decide_eq_true (by omega); clear c5; replace H := Option.bind_eq_some_iff.mp H; obtain ⟨t104, A60, H⟩ := H; replace H : (if t104 = true then (some 0) else (some 1)) = some r := H; have A6 := aa.mk A60; clear A60; by_cases c7 : t104 = true
   ·subst c7; have H1 : (some 0) = some r := by rw [if_pos rfl] at H; exact H
    clear H; have H := H1; clear H1; obtain rfl := Option.some.inj H; go_enter Try.func100, Try.ntmps100; go_wp2_with (first | ((with_reducible refine QM (N := 2) rfl ?_); refine QU ?hg (N := 2) ?hd (cs := #[.slice ak ae.length an, .slice aj af.length al]) (t := 24) ?hr ?_; (case hd => rfl); (case hg => rfl); (case hr => first | (go_simp; done) | (go_simp; rfl)); intro ag hg w8 hbox hb; have ab := aa.mk (hbox); have ba := aa.mk ((by rw [hg]; exact (Qe bB) : w.heap.size ≤ ag)); have aN := aa.mk ((by rw [hg]; exact (Qe bB) : w.heap.size ≤ ag)); replace HB := aa.mk (Qc bB hb); clear hb hbox hg; have jG : w8.cell? ⟨ag, 0, none⟩ = some (.slice ak ae.length an) := (Qb ab.out 0).trans rfl; have jF : w8.cell? ⟨ag, 1, none⟩ = some (.slice aj af.length al) := (Qb ab.out 1).trans rfl; have jA := Qa ab.out 0; have jz := Qa ab.out 1) | ((with_reducible refine Qf (f := 55) rfl ?_); refine QE (some 7) rfl rfl Try.func55 (by kernel_rfl) rfl #[.agg #[.slice ak ae.length an, .slice aj af.length al]] rfl hA ?_; (with_reducible refine (Qd.calls k (fun k_ => k_ < w.heap.size) _ _ ae (fun k_ => k_ < w.heap.size) _ _ af t102 _ ?ai ?ah A3.out).mono ?_); (case ai => exact Kd.V_mk aw.out (Kd.Z2 (Kd.C_F (Kd.ZQ 3 (Kd.Z3 .i64)) av.out) bB)); (case ah => exact Kd.V_mk ax.out (Kd.Z2 (Kd.C_F (Kd.ZQ 3 (Kd.Z3 .i64)) ay.out) bB)); rintro e w10 ⟨rfl, hb⟩; refine ⟨_, rfl, ?_⟩; replace ab := aa.mk (Ql ab.out hb); replace HB := aa.mk (Qc bB hb); (try clear hb); (try clear hb2); (try clear hk); (try clear hi); have cl : w10.cell? ⟨ag, 0, none⟩ = some (.slice ak ae.length an) := (Qb ab.out 0).trans rfl; have ck : w10.cell? ⟨ag, 1, none⟩ = some (.slice aj af.length al) := (Qb ab.out 1).trans rfl; have cj := Qa ab.out 0; have ch := Qa ab.out 1; have cn : 0 ≤ (0 : Int) := (by omega); have cm : 0 < (ae.length : Int) := of_decide_eq_true (by assumption); obtain ⟨fB, iV, iM, fq, aG, bS, bT⟩ := ZH av.out 0 cn cm; cases fq; have mF : (0 < ae.length) = True := eq_true (by omega); (try rw [show ((0 : Int)).toNat = 0 from rfl] at aG); (try rw [Addr.add_zero'] at aG); replace aG := (HB.out.cell (World.block_lt_of_cell? w _ aG)).trans aG; have gE := aa.mk bT; have gH := aa.mk bS; clear bT bS; replace cn := eq_true cn; replace cm := eq_true cm) | ((with_reducible refine Qf (f := 121) rfl ?_); refine QE (some 17) rfl rfl Try.func121 (by kernel_rfl) rfl #[.slice A1 l1.length c1, .int .i64 ((Qt ae 0).length : Int), .int .i64 (-1000000), .int .i64 1000000] rfl hA ?_; (with_reducible refine (QT.calls k _ _ l1 ((Qt ae 0).length : Int) (-1000000) 1000000 true _ ?ai ?ah A6.out).mono ?_); (case ai => exact (Kd.Qh HR1.out HB.out)); (case ah => exact HC1.out); rintro e w' ⟨rfl, ⟨nd, rfl⟩⟩; refine ⟨_, rfl, ?_⟩))
    go_ret; exact ⟨by first | rfl | (simp [Qk, Qj] <;> rfl) | (simp [*, Qk, Qj] <;> rfl), bB⟩
   ·replace c7 := Bool.eq_false_iff.mpr c7; subst c7; have H1 : (some 1) = some r := by rw [if_neg (show ¬ (false = true) by decide)] at H; exact H
    clear H; have H := H1; clear H1; obtain rfl := Option.some.inj H; go_enter Try.func100, Try.ntmps100; go_wp2_with (first | ((with_reducible refine QM (N := 2) rfl ?_); refine QU ?hg (N := 2) ?hd (cs := #[.slice ak ae.length an, .slice aj af.length al]) (t := 24) ?hr ?_; (case hd => rfl); (case hg => rfl); (case hr => first | (go_simp; done) | (go_simp; rfl)); intro ag hg w12 hbox hb; have ab := aa.mk (hbox); have ba := aa.mk ((by rw [hg]; exact (Qe bB) : w.heap.size ≤ ag)); have aN := aa.mk ((by rw [hg]; exact (Qe bB) : w.heap.size ≤ ag)); replace HB := aa.mk (Qc bB hb); clear hb hbox hg; have dh : w12.cell? ⟨ag, 0, none⟩ = some (.slice ak ae.length an) := (Qb ab.out 0).trans rfl; have dg : w12.cell? ⟨ag, 1, none⟩ = some (.slice aj af.length al) := (Qb ab.out 1).trans rfl; have df := Qa ab.out 0; have de := Qa ab.out 1) | ((with_reducible refine Qf (f := 55) rfl ?_); refine QE (some 7) rfl rfl Try.func55 (by kernel_rfl) rfl #[.agg #[.slice ak ae.length an, .slice aj af.length al]] rfl hA ?_; (with_reducible refine (Qd.calls k (fun k_ => k_ < w.heap.size) _ _ ae (fun k_ => k_ < w.heap.size) _ _ af t102 _ ?ai ?ah A3.out).mono ?_); (case ai => exact Kd.V_mk aw.out (Kd.Z2 (Kd.C_F (Kd.ZQ 3 (Kd.Z3 .i64)) av.out) bB)); (case ah => exact Kd.V_mk ax.out (Kd.Z2 (Kd.C_F (Kd.ZQ 3 (Kd.Z3 .i64)) ay.out) bB)); rintro e w14 ⟨rfl, hb⟩; refine ⟨_, rfl, ?_⟩; replace ab := aa.mk (Ql ab.out hb); replace HB := aa.mk (Qc bB hb); (try clear hb); (try clear hb2); (try clear hk); (try clear hi); have gy : w14.cell? ⟨ag, 0, none⟩ = some (.slice ak ae.length an) := (Qb ab.out 0).trans rfl; have gw : w14.cell? ⟨ag, 1, none⟩ = some (.slice aj af.length al) := (Qb ab.out 1).trans rfl; have gj := Qa ab.out 0; have gi := Qa ab.out 1; have cn : 0 ≤ (0 : Int) := (by omega); have cm : 0 < (ae.length : Int) := of_decide_eq_true (by assumption); obtain ⟨fB, iV, iM, fq, aG, bS, bT⟩ := ZH av.out 0 cn cm; cases fq; have mF : (0 < ae.length) = True := eq_true (by omega); (try rw [show ((0 : Int)).toNat = 0 from rfl] at aG); (try rw [Addr.add_zero'] at aG); replace aG := (HB.out.cell (World.block_lt_of_cell? w _ aG)).trans aG; have gE := aa.mk bT; have gH := aa.mk bS; clear bT bS; replace cn := eq_true cn; replace cm := eq_true cm) | ((with_reducible refine Qf (f := 121) rfl ?_); refine QE (some 17) rfl rfl Try.func121 (by kernel_rfl) rfl #[.slice A1 l1.length c1, .int .i64 ((Qt ae 0).length : Int), .int .i64 (-1000000), .int .i64 1000000] rfl hA ?_; (with_reducible refine (QT.calls k _ _ l1 ((Qt ae 0).length : Int) (-1000000) 1000000 false _ ?ai ?ah A6.out).mono ?_); (case ai => exact (Kd.Qh HR1.out HB.out)); (case ah => exact HC1.out); rintro e w' ⟨rfl, ⟨nd, rfl⟩⟩; refine ⟨_, rfl, ?_⟩))
    go_ret; exact ⟨by first | rfl | (simp [Qk, Qj] <;> rfl) | (simp [*, Qk, Qj] <;> rfl), bB⟩
  ·rw [if_neg c5] at H; exact absurd H (by simp)
 ·rw [if_neg c4] at H; have bI : (t102 == 0) = false := beq_eq_false_iff_ne.mpr c4; have cZ : (t102 != 0) = true := bne_iff_ne.mpr c4; obtain rfl := Option.some.inj H; go_enter Try.func100, Try.ntmps100; go_wp2_with (first | ((with_reducible refine QM (N := 2) rfl ?_); refine QU ?hg (N := 2) ?hd (cs := #[.slice ak ae.length an, .slice aj af.length al]) (t := 24) ?hr ?_; (case hd => rfl); (case hg => rfl); (case hr => first | (go_simp; done) | (go_simp; rfl)); intro ag hg w16 hbox hb; have ab := aa.mk (hbox); have ba := aa.mk ((by rw [hg]; exact (Qe bB) : w.heap.size ≤ ag)); have aN := aa.mk ((by rw [hg]; exact (Qe bB) : w.heap.size ≤ ag)); replace HB := aa.mk (Qc bB hb); clear hb hbox hg; have gv : w16.cell? ⟨ag, 0, none⟩ = some (.slice ak ae.length an) := (Qb ab.out 0).trans rfl; have gu : w16.cell? ⟨ag, 1, none⟩ = some (.slice aj af.length al) := (Qb ab.out 1).trans rfl; have gh := Qa ab.out 0; have gg := Qa ab.out 1) | ((with_reducible refine Qf (f := 55) rfl ?_); refine QE (some 7) rfl rfl Try.func55 (by kernel_rfl) rfl #[.agg #[.slice ak ae.length an, .slice aj af.length al]] rfl hA ?_; (with_reducible refine (Qd.calls k (fun k_ => k_ < w.heap.size) _ _ ae (fun k_ => k_ < w.heap.size) _ _ af t102 _ ?ai ?ah A3.out).mono ?_); (case ai => exact Kd.V_mk aw.out (Kd.Z2 (Kd.C_F (Kd.ZQ 3 (Kd.Z3 .i64)) av.out) bB)); (case ah => exact Kd.V_mk ax.out (Kd.Z2 (Kd.C_F (Kd.ZQ 3 (Kd.Z3 .i64)) ay.out) bB)); rintro e w18 ⟨rfl, hb⟩; refine ⟨_, rfl, ?_⟩; replace ab := aa.mk (Ql ab.out hb); replace HB := aa.mk (Qc bB hb); (try clear hb); (try clear hb2); (try clear hk); (try clear hi)))
  go_ret; exact ⟨by first | rfl | (simp [Qk, Qj] <;> rfl) | (simp [*, Qk, Qj] <;> rfl), bB⟩
mutual
def Qo.l0 : Nat → List Int → List (List Int) → List Int → Int → Option (List Int)
 | 0, _, _, _, _ => none
 | k + 1, x1, x5, x6, x7 => if x7 < (x5.length : Int) then (Qo.l1 k x1 x5 x6 x7 0 0) else (some x6)
def Qo.l1 : Nat → List Int → List (List Int) → List Int → Int → Int → Int → Option (List Int)
 | 0, _, _, _, _, _, _ => none
 | k + 1, x1, x5, x6, x7, x8, x9 => if x9 < (x1.length : Int) then (if 0 ≤ x9 then (if 0 ≤ x7 then (if x7 < (x5.length : Int) then (if x9 < ((Qt x5 x7).length : Int) then (Qo.l1 k x1 x5 x6 x7 (wrap64 (x8 + (wrap64 ((rd x1 x9) * (rd (Qt x5 x7) x9))))) (wrap64 (x9 + 1))) else (none)) else (none)) else (none)) else (none)) else (if x6.length < 17592186044416 then (Qo.l0 k x1 x5 (x6 ++ [x8]) (wrap64 (x7 + 1))) else (none))
end
def Qo.f (k : Nat) (ae : List (List Int)) (af : List (List Int)) (l1 : List Int) : Option (List Int) := (some (([] : List (List Int)) : List (List Int))).bind fun eC => (if eC.length + ae.length < 5864062014805 then ((some (eC ++ ae : List (List Int))).bind fun dz => (if dz.length + af.length < 5864062014805 then (Qo.l0 k l1 (dz ++ af) ([] : List Int) 0) else (none))) else (none))
def Qo.T1 : Bool × List (List Nat × List Nat) := (true, [([], []), ([], []), ([1], [1]), ([0, 2], [0, 2]), ([], []), ([4], [4]), ([3, 5, 3], [3, 5]), ([6, 6, 0, 1, 2, 3, 4, 5, 6], [6])])
def Qo.B1 : List Nat := [0, 0, 2, 7, 0, 16, 63, 127]
theorem Qo.tab1 : rtab .any (opsOf Try.f101 1) = Qo.T1 := by kernel_rfl
theorem Qo.bits1 : waitsOk Qo.T1.2 Qo.B1 = true := by kernel_rfl
def Qo.T10 : Bool × List (List Nat × List Nat) := (true, [([], []), ([], []), ([], []), ([1, 2], [1, 2]), ([3], [3]), ([], []), ([], []), ([5, 6], [5, 6]), ([7], [7]), ([], []), ([8, 9], [8, 9]), ([10], [10]), ([4, 11], [4, 11]), ([0, 12], [0, 12]), ([13, 0, 1, 2, 3, 4, 5, 6, 7, 8, 9, 10, 11, 12, 13], [0, 13])])
def Qo.B10 : List Nat := [0, 0, 0, 6, 14, 0, 0, 96, 224, 0, 992, 2016, 4094, 8191, 16383]
theorem Qo.tab10 : rtab .any (opsOf Try.f101 10) = Qo.T10 := by kernel_rfl
theorem Qo.bits10 : waitsOk Qo.T10.2 Qo.B10 = true := by kernel_rfl
set_option maxHeartbeats 8000000 in
set_option maxRecDepth 100000 in
theorem Qo.calls (k : Nat) (aZ : Nat → Prop) (ak : Option Addr) (an : Nat) (ae : List (List Int)) (aY : Nat → Prop) (aj : Option Addr) (al : Nat) (af : List (List Int)) (A1 : Option Addr) (c1 : Nat) (l1 : List Int) (r : List Int) (w : World) (mI : Kd.V (Kd.slice 3 (Kd.int .i64)) 28 w w.heap.size (fun k_ => aZ k_) (.slice ak ae.length an) ae) (mH : Kd.V (Kd.slice 3 (Kd.int .i64)) 28 w w.heap.size (fun k_ => aY k_) (.slice aj af.length al) af) (hr1 : Kd.C (Kd.int .i64) w A1 l1.length l1) (hc1 : l1.length ≤ c1) (h : Qo.f k ae af l1 = some r) :
  Calls Try.prog 101 #[.agg #[.slice ak ae.length an, .slice aj af.length al], .slice A1 l1.length c1] w fun e w' => ∃ v0_ : Value, e = .returned (v0_) ∧ Kd.R (Kd.int .i64) 3 w' w.heap.size (fun k_ => (w.heap.size ≤ k_)) v0_ r ∧ Below w.heap.size w w' := by
 have dD := Try.underlying24; have cD := aa.mk (show Kd.V (Kd.slice 3 (Kd.int .i64)) 28 w w.heap.size (fun k_ => ((aZ k_ ∨ aY k_) ∨ w.heap.size ≤ k_)) (.slice ak ae.length an) ae from Kd.Yb mI (fun k_ hk => .inl (.inl hk))); have cY := aa.mk (show Kd.V (Kd.slice 3 (Kd.int .i64)) 28 w w.heap.size (fun k_ => ((aZ k_ ∨ aY k_) ∨ w.heap.size ≤ k_)) (.slice aj af.length al) af from Kd.Yb mH (fun k_ hk => .inl (.inr hk))); have HR1 := aa.mk hr1; have HC1 := aa.mk hc1; clear hr1 hc1; have HB := aa.mk (Below.refl w.heap.size w); have H : ((some (([] : List (List Int)) : List (List Int))).bind fun eC => (if eC.length + ae.length < 5864062014805 then ((some (eC ++ ae : List (List Int))).bind fun dz => (if dz.length + af.length < 5864062014805 then (Qo.l0 k l1 (dz ++ af) ([] : List Int) 0) else (none))) else (none))) = some r := h; clear h; obtain ⟨eC, fc⟩ : ∃ y_ : List (List Int), y_ = (([] : List (List Int))) := ⟨_, rfl⟩; replace H : (if eC.length + ae.length < 5864062014805 then ((some (eC ++ ae : List (List Int))).bind fun dz => (if dz.length + af.length < 5864062014805 then (Qo.l0 k l1 (dz ++ af) ([] : List Int) 0) else (none))) else (none)) = some r := by first | (rw [fc]; with_reducible exact H) | (have H2_ := (Option.bind_some _ _).symm.trans H; rw [fc]; with_reducible exact H2_) | (have H2_ := (Option.bind_some _ _).symm.trans H; with_reducible exact H2_) | with_reducible exact H | (rw [fc]; exact H) | exact H
 have kG := aa.mk fc; clear fc; by_cases c3 : eC.length + ae.length < 5864062014805
 ·rw [if_pos c3] at H; have va := aa.mk c3; clear c3; obtain ⟨dz, dn⟩ : ∃ y_ : List (List Int), y_ = (eC ++ ae) := ⟨_, rfl⟩; replace H : (if dz.length + af.length < 5864062014805 then (Qo.l0 k l1 (dz ++ af) ([] : List Int) 0) else (none)) = some r := by first | (rw [dn]; with_reducible exact H) | (have H2_ := (Option.bind_some _ _).symm.trans H; rw [dn]; with_reducible exact H2_) | (have H2_ := (Option.bind_some _ _).symm.trans H; with_reducible exact H2_) | with_reducible exact H | (rw [dn]; exact H) | exact H
  have jh := aa.mk dn; clear dn; by_cases c4 : dz.length + af.length < 5864062014805
  ·rw [if_pos c4] at H; have u9 := aa.mk c4; clear c4; obtain ⟨ct, dm⟩ : ∃ y_ : List (List Int), y_ = (dz ++ af) := ⟨_, rfl⟩; replace H : (Qo.l0 k l1 ct ([] : List Int) 0) = some r := by first | (rw [dm]; with_reducible exact H) | (have H2_ := (Option.bind_some _ _).symm.trans H; rw [dm]; with_reducible exact H2_) | (have H2_ := (Option.bind_some _ _).symm.trans H; with_reducible exact H2_) | with_reducible exact H | (rw [dm]; exact H) | exact H
   have jf := aa.mk dm; clear dm; have H' := aa.mk H; clear H; go_enter Try.func101, Try.ntmps101; try go_wp2_with (first | ((with_reducible refine QM (N := 2) rfl ?_); refine QU ?hg (N := 2) ?hd (cs := #[.slice ak ae.length an, .slice aj af.length al]) (t := 24) ?hr ?_; (case hd => rfl); (case hg => rfl); (case hr => first | (go_simp; done) | (go_simp; rfl)); intro ag hg w5 hbox hb; replace cD := aa.mk (Kd.Yv (Kd.Vq cD.out ag (Nat.le_of_eq hg.symm)) hb); replace cY := aa.mk (Kd.Yv (Kd.Vq cY.out ag (Nat.le_of_eq hg.symm)) hb); have ab := aa.mk (hbox); have ba := aa.mk ((by rw [hg]; exact (Qe bB) : w.heap.size ≤ ag)); have aN := aa.mk ((by rw [hg]; exact (Qe bB) : w.heap.size ≤ ag)); replace HB := aa.mk (Qc bB hb); clear hb hbox hg))
   replace cD := aa.mk (Kd.Zw cD.out); replace cY := aa.mk (Kd.Zw cY.out); replace ab := aa.mk (Qx ab.out); replace HB := aa.mk (QN HB.out); refine Yg (n := 8) (S := fun w' => w'.cell? ⟨ag, 0, none⟩ = some (.slice ak ae.length an) ∧ w'.cell? ⟨ag, 1, none⟩ = some (.slice aj af.length al)) (ds := []) #[false, false, false, false, false, false, false, false] (by kernel_rfl) rfl rfl ⟨(Qb ab.out 0).trans rfl, (Qb ab.out 1).trans rfl⟩ (fun hHeld => ?_); refine ZO Qo.tab1 Qo.bits1 (fun HT_ HW_ => ?_); generalize w5.drew = w6 at cD cY ab HB hHeld ⊢; refine QV (i := 1) (N := some 11) (v := ?_) (a' := ?_) #[false, true, false, false, false, false, false, false] rfl rfl (QL HT_.out (by kernel_rfl)) (fun _ _ _ h => h) (Or.inl ⟨by rfl, ?_⟩) ?_ ?_; rotate_left
   ·intro w'; go_simp; with_reducible rfl
   rotate_left
   ·simp only [Act.put, zA, zB, zC, QB, QD]; rfl
   refine QV (i := 4) (N := some 14) (v := ?_) (a' := ?_) #[false, true, false, false, true, false, false, false] rfl rfl (QL HT_.out (by kernel_rfl)) (fun _ _ _ h => h) (Or.inl ⟨by rfl, ?_⟩) ?_ ?_; rotate_left
   ·intro w'; go_simp; with_reducible rfl
   rotate_left
   ·simp only [Act.put, zA, zB, zC, QB, QD]; rfl
   refine ZG (i := 2) (N := some 12) (v := ?_) (a' := ?_) #[false, true, true, false, true, false, false, false] rfl rfl (Zc HT_.out HW_.out (by kernel_rfl)) (fun _ _ _ h => h) (Or.inl ⟨by rfl, ?_⟩) hHeld ?_ ?_; rotate_left
   ·rintro w' ⟨s0, s1⟩; go_simp; with_reducible rfl
   rotate_left
   ·simp only [Act.put, zA, zB, zC, QB, QD]; rfl
   refine ZG (i := 5) (N := some 15) (v := ?_) (a' := ?_) #[false, true, true, false, true, true, false, false] rfl rfl (Zc HT_.out HW_.out (by kernel_rfl)) (fun _ _ _ h => h) (Or.inl ⟨by rfl, ?_⟩) hHeld ?_ ?_; rotate_left
   ·rintro w' ⟨s0, s1⟩; go_simp; with_reducible rfl
   rotate_left
   ·simp only [Act.put, zA, zB, zC, QB, QD]; rfl
   refine one_ (i := 0) (N := some 10) #[true, true, true, false, true, true, false, false] rfl rfl (ZR HT_.out (by kernel_rfl)) (by decide) (fun K hK => ?_); refine Kd.Um (Kd.slice 3 (Kd.int .i64)) _ 28 ?hg (N' := 10) ?hd (xs := ([] : List (List Int))) (inner := []) (ok := (fun k_ => ((aZ k_ ∨ aY k_) ∨ w.heap.size ≤ k_) ∧ k_ ≠ ag)) (okp := (fun k_ => ((aZ k_ ∨ aY k_) ∨ w.heap.size ≤ k_) ∧ k_ ≠ ag)) ?hr ?hp (fun _ hk => hk) ((show ∀ k_, w6.heap.size ≤ k_ → (fun k_ => ((aZ k_ ∨ aY k_) ∨ w.heap.size ≤ k_) ∧ k_ ≠ ag) k_ from fun k_ hk => ⟨(.inr (Nat.le_trans (Qe bB) hk)), Kd.freshB (g := ag) (o := .cells #[.slice ak ae.length an, .slice aj af.length al] 24 (0, 0)) (by (with_reducible repeat (first | refine Qv ?_ _ | refine Qx ?_ | refine Qu ?_ _)); exact ab.out) k_ hk⟩) _ (Nat.le_refl _)) (Below.refl _ _) (Nat.le_refl _) (by simp) ?_; (case hd => rfl); (case hg => rfl); (case hr => first | (go_simp; done) | (go_simp; rfl)); (case hp => exact (Reps.none _ _)); intro hG w7 ho8 hb hg_ hnew_; clear hg_ hnew_; (first | rw [← kG.out] at ho8 | (simp only [Int.reduceToNat] at ho8; rw [← kG.out] at ho8))
   replace cD := aa.mk (Kd.YN cD.out (Kd.ZZ ho8) hb); replace cY := aa.mk (Kd.YN cY.out (Kd.ZZ ho8) hb); have aM := aa.mk (Kd.Ya ho8 (Qe bB)); replace ab := aa.mk (Ql ab.out hb); replace HB := aa.mk (Qc bB hb); clear hb ho8; refine hK.out _ _ ⟨(Qb ab.out 0).trans rfl, (Qb ab.out 1).trans rfl⟩ (fun hHeld => ?_); clear hK K; refine Z7 (a' := ?_) ?_ ?_; rotate_left
   ·show Act.put _ (some 10) _ = _
    simp only [Act.put, zA, zB, zC, QB, QD]; rfl
   refine one_ (i := 3) (N := some 13) #[true, true, true, true, true, true, false, false] rfl rfl (ZR HT_.out (by kernel_rfl)) (by decide) (fun K hK => ?_); refine Kd.Z1 (Kd.slice 3 (Kd.int .i64)) (w0 := w) w.heap.size (by rfl) (.tmp 10) (.tmp 12) 22 28 (.slice none 0 0) 24 rfl Try.underlying22 info28 rfl (by decide) (by omega) hG eC ae _ _ _ (fun k_ => ((aZ k_ ∨ aY k_) ∨ w.heap.size ≤ k_) ∧ k_ ≠ ag) (fun k_ => ((fun k_ => ((aZ k_ ∨ aY k_) ∨ w.heap.size ≤ k_) ∧ k_ ≠ ag)) k_ ∧ some k_ ≠ (hG : Value).ownBlock) rfl rfl ?aO ?aR (fun _ hk => hk) ?aF ?aB ?aS ?aL ?_; (case aR => exact (by skip; exact Kd.V_F (Kd.Yb (ok' := (fun k_ => ((fun k_ => ((aZ k_ ∨ aY k_) ∨ w.heap.size ≤ k_) ∧ k_ ≠ ag)) k_ ∧ some k_ ≠ (hG : Value).ownBlock)) (cD.out) (fun k_ hk => ⟨⟨hk.1.1, hk.1.2⟩, hk.2⟩))))
   (case aB => exact bB)
   (case aF => exact (fun k_ hk => ⟨(.inr (Nat.le_trans (Qe bB) hk)), Kd.freshB (g := ag) (o := .cells #[.slice ak ae.length an, .slice aj af.length al] 24 (0, 0)) (by (with_reducible repeat (first | refine Qv ?_ _ | refine Qx ?_ | refine Qu ?_ _)); exact ab.out) k_ hk⟩))
   (case aO => exact aM.out)
   (case aS => exact (Qe bB))
   (case aL => have := va.out; omega)
   intro ja w9 ho hb hg hat; rw [← jh.out] at ho; replace cD := aa.mk (Kd.Yd (ok := (fun k_ => ((aZ k_ ∨ aY k_) ∨ w.heap.size ≤ k_) ∧ k_ ≠ ag)) cD.out hg hat); replace cY := aa.mk (Kd.Yd (ok := (fun k_ => ((aZ k_ ∨ aY k_) ∨ w.heap.size ≤ k_) ∧ k_ ≠ ag)) cY.out hg hat); replace ab := aa.mk (Z4 (g := ag) (o := .cells #[.slice ak ae.length an, .slice aj af.length al] 24 (0, 0)) (by (with_reducible repeat (first | refine Qv ?_ _ | refine Qx ?_ | refine Qu ?_ _)); exact ab.out) hg (Kd.N_ne aM.out ab.out (by decide))); replace HB := aa.mk (hb); have bn := aa.mk (ho); clear aM; clear ho hb hg hat; refine hK.out _ _ ⟨(Qb ab.out 0).trans rfl, (Qb ab.out 1).trans rfl⟩ (fun hHeld => ?_); clear hK K; refine Z7 (a' := ?_) ?_ ?_; rotate_left
   ·show Act.put _ (some 13) _ = _
    simp only [Act.put, zA, zB, zC, QB, QD]; rfl
   refine one_ (i := 6) (N := some 16) #[true, true, true, true, true, true, true, false] rfl rfl (ZR HT_.out (by kernel_rfl)) (by decide) (fun K hK => ?_); refine Kd.Z1 (Kd.slice 3 (Kd.int .i64)) (w0 := w) w.heap.size (by rfl) (.tmp 13) (.tmp 15) 22 28 (.slice none 0 0) 24 rfl Try.underlying22 info28 rfl (by decide) (by omega) ja dz af _ _ _ (fun k_ => ((aZ k_ ∨ aY k_) ∨ w.heap.size ≤ k_) ∧ k_ ≠ ag) (fun k_ => ((fun k_ => ((aZ k_ ∨ aY k_) ∨ w.heap.size ≤ k_) ∧ k_ ≠ ag)) k_ ∧ some k_ ≠ (ja : Value).ownBlock) rfl rfl ?aO ?aR (fun _ hk => hk) ?aF ?aB ?aS ?aL ?_; (case aR => exact (by skip; exact Kd.V_F (Kd.Yb (ok' := (fun k_ => ((fun k_ => ((aZ k_ ∨ aY k_) ∨ w.heap.size ≤ k_) ∧ k_ ≠ ag)) k_ ∧ some k_ ≠ (ja : Value).ownBlock)) (cY.out) (fun k_ hk => ⟨⟨hk.1.1, hk.1.2⟩, hk.2⟩))))
   (case aB => exact bB)
   (case aF => exact (fun k_ hk => ⟨(.inr (Nat.le_trans (Qe bB) hk)), Kd.freshB (g := ag) (o := .cells #[.slice ak ae.length an, .slice aj af.length al] 24 (0, 0)) (by (with_reducible repeat (first | refine Qv ?_ _ | refine Qx ?_ | refine Qu ?_ _)); exact ab.out) k_ hk⟩))
   (case aO => exact bn.out)
   (case aS => exact (Qe bB))
   (case aL => have := u9.out; omega)
   intro e6 w10 ho hb hg hat; rw [← jf.out] at ho; replace cD := aa.mk (Kd.Yd (ok := (fun k_ => ((aZ k_ ∨ aY k_) ∨ w.heap.size ≤ k_) ∧ k_ ≠ ag)) cD.out hg hat); replace cY := aa.mk (Kd.Yd (ok := (fun k_ => ((aZ k_ ∨ aY k_) ∨ w.heap.size ≤ k_) ∧ k_ ≠ ag)) cY.out hg hat); replace ab := aa.mk (Z4 (g := ag) (o := .cells #[.slice ak ae.length an, .slice aj af.length al] 24 (0, 0)) (by (with_reducible repeat (first | refine Qv ?_ _ | refine Qx ?_ | refine Qu ?_ _)); exact ab.out) hg (Kd.N_ne bn.out ab.out (by decide))); replace HB := aa.mk (hb); have bl := aa.mk (ho); clear bn; clear ho hb hg hat; refine hK.out _ _ ⟨(Qb ab.out 0).trans rfl, (Qb ab.out 1).trans rfl⟩ (fun hHeld => ?_); clear hK K; refine Z7 (a' := ?_) ?_ ?_; rotate_left
   ·show Act.put _ (some 16) _ = _
    simp only [Act.put, zA, zB, zC, QB, QD]; rfl
   refine QV (i := 7) (N := some 5) (v := ?_) (a' := ?_) #[true, true, true, true, true, true, true, true] rfl rfl (QL HT_.out (by kernel_rfl)) (fun _ _ _ h => h) (Or.inl ⟨by rfl, ?_⟩) ?_ ?_; rotate_left
   ·intro w'; go_simp; with_reducible rfl
   rotate_left
   ·simp only [Act.put, zA, zB, zC, QB, QD]; rfl
   refine YC (Z5 HT_.out (by kernel_rfl)) ?_; try go_wp2
   go_loopg [6, 7] k (fun kq v6 v7 w' => ∃ (eE : List Int) (cu : Int), v7 = .int .i64 cu ∧ aa (Qo.l0 kq l1 ct eE cu = some r) ∧ aa (kq ≤ k) ∧ aa (Kd.N (Kd.slice 3 (Kd.int .i64)) 28 w' w.heap.size (fun k_ => ((aZ k_ ∨ aY k_) ∨ w.heap.size ≤ k_) ∧ some k_ ≠ (v6 : Value).ownBlock ∧ k_ ≠ ag) e6 ct) ∧ aa (Kd.R (Kd.int .i64) 3 w' w.heap.size (fun k_ => (w.heap.size ≤ k_)) v6 eE) ∧ aa (Kd.V (Kd.slice 3 (Kd.int .i64)) 28 w' w.heap.size (fun k_ => ((aZ k_ ∨ aY k_) ∨ w.heap.size ≤ k_) ∧ some k_ ≠ (e6 : Value).ownBlock ∧ some k_ ≠ (v6 : Value).ownBlock ∧ k_ ≠ ag) (.slice ak ae.length an) ae) ∧ aa (Kd.V (Kd.slice 3 (Kd.int .i64)) 28 w' w.heap.size (fun k_ => ((aZ k_ ∨ aY k_) ∨ w.heap.size ≤ k_) ∧ some k_ ≠ (e6 : Value).ownBlock ∧ some k_ ≠ (v6 : Value).ownBlock ∧ k_ ≠ ag) (.slice aj af.length al) af) ∧ aa (w'.heap[ag]? = some (.cells #[(.slice ak ae.length an), (.slice aj af.length al)] 24 (0, 0))) ∧ aa (Below w.heap.size w w'))
   case atStart => exact ⟨(([] : List Int)), (0), (by first | rfl | (simp; done) | (simp [*]; done)), H', ⟨Nat.le_refl _⟩, ⟨by (with_reducible repeat (first | apply Kd.N_alloc | apply Kd.ZS | apply Kd.ZW)); exact Kd.ZT bl.out (fun _ hk => ⟨hk.1, ⟨(by simp [Value.ownBlock]), hk.2⟩⟩)⟩, ⟨by first | exact Kd.Yp _ _ _ _ _ | exact Kd.YU _ _ _ _ _ | exact Kd.V_nil _ _ _ _ _ | exact Kd.Q_nil _ _ _ _ _ | exact Kd.YZ _ _ _ _ _⟩, ⟨by (with_reducible repeat (first | apply Kd.V_alloc | apply Kd.ZD | apply Kd.Zw)); exact Kd.Yb cD.out (fun _ hk => ⟨hk.1.1, ⟨hk.2, ⟨(by simp [Value.ownBlock]), hk.1.2⟩⟩⟩)⟩, ⟨by (with_reducible repeat (first | apply Kd.V_alloc | apply Kd.ZD | apply Kd.Zw)); exact Kd.Yb cY.out (fun _ hk => ⟨hk.1.1, ⟨hk.2, ⟨(by simp [Value.ownBlock]), hk.1.2⟩⟩⟩)⟩, ⟨by (with_reducible repeat (first | refine Qv ?_ _ | refine Qx ?_ | refine Qu ?_ _)); exact ab.out⟩, ⟨bB⟩⟩
   case round =>
    clear H'; try clear c1
    try clear p2
    try clear c3
    try clear c4
    try clear c10
    obtain ⟨eE, cu, rfl, HA, HK1, dW, a9, aA, aE, ab, HB⟩ := hrel; cases gk with
    | zero => exact absurd HA.out (by simp [Qo.l0])
    | succ k1 =>
     have H := HA.out; clear HA; simp only [Qo.l0] at H; by_cases c11 : cu < (ct.length : Int)
     ·rw [if_pos c11] at H; have dV : decide (cu < (ct.length : Int)) = true := decide_eq_true c11; clear c11; have H' := aa.mk H; clear H; obtain ⟨kI, ky, qD⟩ := Kd.ZX dW.out; subst qD; go_wp2; go_loopg [8, 9] k1 (fun kq v8 v9 w' => ∃ (fD : Int) (dK : Int), v8 = .int .i64 fD ∧ v9 = .int .i64 dK ∧ aa (Qo.l1 kq l1 ct eE cu fD dK = some r) ∧ aa (kq ≤ k1) ∧ aa (Kd.N (Kd.slice 3 (Kd.int .i64)) 28 w' w.heap.size (fun k_ => ((aZ k_ ∨ aY k_) ∨ w.heap.size ≤ k_) ∧ some k_ ≠ (u6 : Value).ownBlock ∧ k_ ≠ ag) (.slice kI ct.length ky) ct) ∧ aa (Kd.R (Kd.int .i64) 3 w' w.heap.size (fun k_ => (w.heap.size ≤ k_)) u6 eE) ∧ aa (Kd.V (Kd.slice 3 (Kd.int .i64)) 28 w' w.heap.size (fun k_ => ((aZ k_ ∨ aY k_) ∨ w.heap.size ≤ k_) ∧ some k_ ≠ ((.slice kI ct.length ky) : Value).ownBlock ∧ some k_ ≠ (u6 : Value).ownBlock ∧ k_ ≠ ag) (.slice ak ae.length an) ae) ∧ aa (Kd.V (Kd.slice 3 (Kd.int .i64)) 28 w' w.heap.size (fun k_ => ((aZ k_ ∨ aY k_) ∨ w.heap.size ≤ k_) ∧ some k_ ≠ ((.slice kI ct.length ky) : Value).ownBlock ∧ some k_ ≠ (u6 : Value).ownBlock ∧ k_ ≠ ag) (.slice aj af.length al) af) ∧ aa (w'.heap[ag]? = some (.cells #[(.slice ak ae.length an), (.slice aj af.length al)] 24 (0, 0))) ∧ aa (Below w.heap.size w w'))
      case atStart => exact ⟨(0), (0), (by first | rfl | (simp; done) | (simp [*]; done)), (by first | rfl | (simp; done) | (simp [*]; done)), H', ⟨Nat.le_refl _⟩, ⟨by (with_reducible repeat (first | apply Kd.N_alloc | apply Kd.ZS | apply Kd.ZW)); exact dW.out⟩, ⟨by (with_reducible repeat (first | apply Kd.R_alloc | apply Kd.R_drewN | apply Kd.QX)); exact a9.out⟩, ⟨by (with_reducible repeat (first | apply Kd.V_alloc | apply Kd.ZD | apply Kd.Zw)); exact aA.out⟩, ⟨by (with_reducible repeat (first | apply Kd.V_alloc | apply Kd.ZD | apply Kd.Zw)); exact aE.out⟩, ⟨by (with_reducible repeat (first | refine Qv ?_ _ | refine Qx ?_ | refine Qu ?_ _)); exact ab.out⟩, ⟨bB⟩⟩
      case round =>
       clear H'; try clear c1
       try clear p2
       try clear c3
       try clear c4
       try clear c10
       try clear c11
       try clear dV
       try clear p2
       obtain ⟨fD, dK, rfl, rfl, HA, HK2, dW, a9, aA, aE, ab, HB⟩ := hrel; cases gk with
       | zero => exact absurd HA.out (by simp [Qo.l1])
       | succ k2 =>
        have H := HA.out; clear HA; simp only [Qo.l1] at H; by_cases c13 : dK < (l1.length : Int)
        ·rw [if_pos c13] at H; have iJ : decide (dK < (l1.length : Int)) = true := decide_eq_true c13; clear c13; by_cases c14 : 0 ≤ dK
         ·rw [if_pos c14] at H; have eA : decide (0 ≤ dK) = true := decide_eq_true c14; clear c14; by_cases c15 : 0 ≤ cu
          ·rw [if_pos c15] at H; have iI : decide (0 ≤ cu) = true := decide_eq_true c15; clear c15; by_cases c16 : cu < (ct.length : Int)
           ·rw [if_pos c16] at H; have fu : decide (cu < (ct.length : Int)) = true := decide_eq_true c16; clear c16; by_cases c17 : dK < ((Qt ct cu).length : Int)
            ·rw [if_pos c17] at H; have ej : decide (dK < ((Qt ct cu).length : Int)) = true := decide_eq_true c17; clear c17; have H' := aa.mk H; clear H; try go_wp2
             replace dW := aa.mk (Kd.ZW dW.out); replace a9 := aa.mk (Kd.QX a9.out); replace aA := aa.mk (Kd.Zw aA.out); replace aE := aa.mk (Kd.Zw aE.out); replace ab := aa.mk (Qx ab.out); replace HB := aa.mk (QN HB.out); have e8 : 0 ≤ (dK : Int) := of_decide_eq_true (by assumption); have e7 : dK < (l1.length : Int) := of_decide_eq_true (by assumption); obtain ⟨jc, k7, cA⟩ := Kd.QZ HR1.out dK e8 e7; have lz := cA; cases k7; replace cA := (HB.out.cell (World.block_lt_of_cell? w _ cA)).trans cA; replace e8 := eq_true e8; replace e7 := eq_true e7; have eX : 0 ≤ (cu : Int) := of_decide_eq_true (by assumption); have eU : cu < (ct.length : Int) := of_decide_eq_true (by assumption); obtain ⟨l8, vw, qJ, k6, cI, lB, lH⟩ := ZH (Kd.Za dW.out).2.2 cu eX eU; cases k6; obtain ⟨vF, qm, qq, mM⟩ := Kd.YI dW.out [] cu eX (by first | exact eU | exact of_decide_eq_true (by assumption) | (have e_ := (Kd.Za dW.out).1; omega)); obtain ⟨sJ, sF, rfl, jn, jM⟩ := Kd.Zk qq; have ib := mM 0 _ rfl; rw [Nat.add_zero, show ((Kd.slice 3 (Kd.int .i64))).sz = 1 from rfl, Nat.mul_one] at ib; replace ib := Option.some.inj (ib.symm.trans cI); injection ib with hva_ hvn_ hvc_
             rw [hva_] at jM; rw [hvc_] at jn; have oZ := aa.mk (show Kd.V (Kd.int .i64) 3 _ w.heap.size _ _ (Qt ct cu) from Kd.V_mk jn jM); clear hva_ hvn_ hvc_ jM jn; clear mM qm; have jU := aa.mk lH; have tN := aa.mk lB; clear lH lB; replace eX := eq_true eX; replace eU := eq_true eU; have jv : 0 ≤ (dK : Int) := of_decide_eq_true (by assumption); have ju : dK < ((Qt ct cu).length : Int) := of_decide_eq_true (by assumption); obtain ⟨l7, qG, dd⟩ := Kd.QZ (by repeat (first | (with_reducible exact jU.out) | (with_reducible refine Kd.C_alloc ?_ _) | (with_reducible refine Kd.Zu ?_ _) | (with_reducible refine Kd.C_drew ?_) | exact jU.out)) dK jv ju; cases qG; replace jv := eq_true jv; replace ju := eq_true ju; refine Yg (n := 15) (S := fun w' => w'.cell? (jc.add (dK).toNat) = some (.int .i64 (rd l1 dK)) ∧ w'.cell? (l8.add (cu).toNat) = some (.slice (some l7) (Qt ct cu).length qJ) ∧ w'.cell? (l7.add (dK).toNat) = some (.int .i64 (rd (Qt ct cu) dK))) (ds := []) #[false, false, false, false, false, false, false, false, false, false, false, false, false, false, false] (by kernel_rfl) rfl rfl ⟨((HB.out.cell (World.block_lt_of_cell? w _ lz)).trans lz), cI, dd⟩ (fun hHeld => ?_); refine ZO Qo.tab10 Qo.bits10 (fun HT_ HW_ => ?_); generalize wr.drew = w18 at dW a9 aA aE ab HB oZ jU cA cI dd hHeld ⊢; refine QV (i := 0) (N := some 29) (v := ?_) (a' := ?_) #[true, false, false, false, false, false, false, false, false, false, false, false, false, false, false] rfl rfl (QL HT_.out (by kernel_rfl)) (fun _ _ _ h => h) (Or.inl ⟨by rfl, ?_⟩) ?_ ?_; rotate_left
             ·intro w'; go_simp; with_reducible rfl
             rotate_left
             ·simp only [Act.put, zA, zB, zC, QB, QD]; rfl
             refine QV (i := 1) (N := some 30) (v := ?_) (a' := ?_) #[true, true, false, false, false, false, false, false, false, false, false, false, false, false, false] rfl rfl (QL HT_.out (by kernel_rfl)) (fun _ _ _ h => h) (Or.inl ⟨by rfl, ?_⟩) ?_ ?_; rotate_left
             ·intro w'; go_simp; with_reducible rfl
             rotate_left
             ·simp only [Act.put, zA, zB, zC, QB, QD]; rfl
             refine QV (i := 2) (N := some 31) (v := ?_) (a' := ?_) #[true, true, true, false, false, false, false, false, false, false, false, false, false, false, false] rfl rfl (QL HT_.out (by kernel_rfl)) (fun _ _ _ h => h) (Or.inl ⟨by rfl, ?_⟩) ?_ ?_; rotate_left
             ·intro w'; go_simp; with_reducible rfl
             rotate_left
             ·simp only [Act.put, zA, zB, zC, QB, QD]; rfl
             refine QV (i := 3) (N := some 32) (v := ?_) (a' := ?_) #[true, true, true, true, false, false, false, false, false, false, false, false, false, false, false] rfl rfl (QL HT_.out (by kernel_rfl)) (fun _ _ _ h => h) (Or.inl ⟨by rfl, ?_⟩) ?_ ?_; rotate_left
             ·intro w'; go_simp; with_reducible rfl
             rotate_left
             ·simp only [Act.put, zA, zB, zC, QB, QD]; rfl
             refine QV (i := 5) (N := some 34) (v := ?_) (a' := ?_) #[true, true, true, true, false, true, false, false, false, false, false, false, false, false, false] rfl rfl (QL HT_.out (by kernel_rfl)) (fun _ _ _ h => h) (Or.inl ⟨by rfl, ?_⟩) ?_ ?_; rotate_left
             ·intro w'; go_simp; with_reducible rfl
             rotate_left
             ·simp only [Act.put, zA, zB, zC, QB, QD]; rfl
             refine QV (i := 6) (N := some 35) (v := ?_) (a' := ?_) #[true, true, true, true, false, true, true, false, false, false, false, false, false, false, false] rfl rfl (QL HT_.out (by kernel_rfl)) (fun _ _ _ h => h) (Or.inl ⟨by rfl, ?_⟩) ?_ ?_; rotate_left
             ·intro w'; go_simp; with_reducible rfl
             rotate_left
             ·simp only [Act.put, zA, zB, zC, QB, QD]; rfl
             refine QV (i := 7) (N := some 36) (v := ?_) (a' := ?_) #[true, true, true, true, false, true, true, true, false, false, false, false, false, false, false] rfl rfl (QL HT_.out (by kernel_rfl)) (fun _ _ _ h => h) (Or.inl ⟨by rfl, ?_⟩) ?_ ?_; rotate_left
             ·intro w'; go_simp; with_reducible rfl
             rotate_left
             ·simp only [Act.put, zA, zB, zC, QB, QD]; rfl
             refine QV (i := 9) (N := some 38) (v := ?_) (a' := ?_) #[true, true, true, true, false, true, true, true, false, true, false, false, false, false, false] rfl rfl (QL HT_.out (by kernel_rfl)) (fun _ _ _ h => h) (Or.inl ⟨by rfl, ?_⟩) ?_ ?_; rotate_left
             ·intro w'; go_simp; with_reducible rfl
             rotate_left
             ·simp only [Act.put, zA, zB, zC, QB, QD]; rfl
             refine ZG (i := 4) (N := some 33) (v := ?_) (a' := ?_) #[true, true, true, true, true, true, true, true, false, true, false, false, false, false, false] rfl rfl (Zc HT_.out HW_.out (by kernel_rfl)) (fun _ _ _ h => h) (Or.inl ⟨by rfl, ?_⟩) hHeld ?_ ?_; rotate_left
             ·rintro w' ⟨s0, s1, s2⟩; go_simp; with_reducible rfl
             rotate_left
             ·simp only [Act.put, zA, zB, zC, QB, QD]; rfl
             refine ZG (i := 8) (N := some 37) (v := ?_) (a' := ?_) #[true, true, true, true, true, true, true, true, true, true, false, false, false, false, false] rfl rfl (Zc HT_.out HW_.out (by kernel_rfl)) (fun _ _ _ h => h) (Or.inl ⟨by rfl, ?_⟩) hHeld ?_ ?_; rotate_left
             ·rintro w' ⟨s0, s1, s2⟩; go_simp; with_reducible rfl
             rotate_left
             ·simp only [Act.put, zA, zB, zC, QB, QD]; rfl
             refine QV (i := 10) (N := some 39) (v := ?_) (a' := ?_) #[true, true, true, true, true, true, true, true, true, true, true, false, false, false, false] rfl rfl (QL HT_.out (by kernel_rfl)) (fun _ _ _ h => h) (Or.inl ⟨by rfl, ?_⟩) ?_ ?_; rotate_left
             ·intro w'; go_simp; with_reducible rfl
             rotate_left
             ·simp only [Act.put, zA, zB, zC, QB, QD]; rfl
             refine ZG (i := 11) (N := some 40) (v := ?_) (a' := ?_) #[true, true, true, true, true, true, true, true, true, true, true, true, false, false, false] rfl rfl (Zc HT_.out HW_.out (by kernel_rfl)) (fun _ _ _ h => h) (Or.inl ⟨by rfl, ?_⟩) hHeld ?_ ?_; rotate_left
             ·rintro w' ⟨s0, s1, s2⟩; go_simp; with_reducible rfl
             rotate_left
             ·simp only [Act.put, zA, zB, zC, QB, QD]; rfl
             refine QV (i := 12) (N := some 41) (v := ?_) (a' := ?_) #[true, true, true, true, true, true, true, true, true, true, true, true, true, false, false] rfl rfl (QL HT_.out (by kernel_rfl)) (fun _ _ _ h => h) (Or.inl ⟨by rfl, ?_⟩) ?_ ?_; rotate_left
             ·intro w'; go_simp; with_reducible rfl
             rotate_left
             ·simp only [Act.put, zA, zB, zC, QB, QD]; rfl
             refine QV (i := 13) (N := some 42) (v := ?_) (a' := ?_) #[true, true, true, true, true, true, true, true, true, true, true, true, true, true, false] rfl rfl (QL HT_.out (by kernel_rfl)) (fun _ _ _ h => h) (Or.inl ⟨by rfl, ?_⟩) ?_ ?_; rotate_left
             ·intro w'; go_simp; with_reducible rfl
             rotate_left
             ·simp only [Act.put, zA, zB, zC, QB, QD]; rfl
             refine QV (i := 14) (N := some 8) (v := ?_) (a' := ?_) #[true, true, true, true, true, true, true, true, true, true, true, true, true, true, true] rfl rfl (QL HT_.out (by kernel_rfl)) (fun _ _ _ h => h) (Or.inl ⟨by rfl, ?_⟩) ?_ ?_; rotate_left
             ·intro w'; go_simp; with_reducible rfl
             rotate_left
             ·simp only [Act.put, zA, zB, zC, QB, QD]; rfl
             refine YC (Z5 HT_.out (by kernel_rfl)) ?_; try go_wp2
             go_roundg k2
             case measure => have := HK1.out; have := HK2.out; omega
             case rel => exact ⟨(wrap64 (fD + (wrap64 ((rd l1 dK) * (rd (Qt ct cu) dK))))), (wrap64 (dK + 1)), (by first | rfl | (simp; done) | (simp [*]; done)), (by first | rfl | (simp; done) | (simp [*]; done)), H', ⟨by have := HK1.out; have := HK2.out; omega⟩, ⟨by (with_reducible repeat (first | apply Kd.N_alloc | apply Kd.ZS | apply Kd.ZW)); exact dW.out⟩, ⟨by (with_reducible repeat (first | apply Kd.R_alloc | apply Kd.R_drewN | apply Kd.QX)); exact a9.out⟩, ⟨by (with_reducible repeat (first | apply Kd.V_alloc | apply Kd.ZD | apply Kd.Zw)); exact aA.out⟩, ⟨by (with_reducible repeat (first | apply Kd.V_alloc | apply Kd.ZD | apply Kd.Zw)); exact aE.out⟩, ⟨by (with_reducible repeat (first | refine Qv ?_ _ | refine Qx ?_ | refine Qu ?_ _)); exact ab.out⟩, ⟨bB⟩⟩
            ·rw [if_neg c17] at H; exact absurd H (by simp)
           ·rw [if_neg c16] at H; exact absurd H (by simp)
          ·rw [if_neg c15] at H; exact absurd H (by simp)
         ·rw [if_neg c14] at H; exact absurd H (by simp)
        ·rw [if_neg c13] at H; have iJ : decide (dK < (l1.length : Int)) = false := decide_eq_false c13; clear c13; by_cases c19 : eE.length < 17592186044416
         ·rw [if_pos c19] at H; have rY := aa.mk c19; clear c19; obtain ⟨iW, dk⟩ : ∃ y_ : List Int, y_ = (eE ++ [fD]) := ⟨_, rfl⟩; replace H : (Qo.l0 k2 l1 ct iW (wrap64 (cu + 1))) = some r := by first | (rw [dk]; with_reducible exact H) | (have H2_ := (Option.bind_some _ _).symm.trans H; rw [dk]; with_reducible exact H2_) | (have H2_ := (Option.bind_some _ _).symm.trans H; with_reducible exact H2_) | with_reducible exact H | (rw [dk]; exact H) | exact H
          have je := aa.mk dk; clear dk; have H' := aa.mk H; clear H; go_wp2_with (first | ((with_reducible refine ZF (b := .append) (xs := #[.tmp 43, .tmp 45]) rfl ?_); at_builtin; refine Kd.YO (Kd.int .i64) (w0 := w) w.heap.size rfl (.tmp 43) (.tmp 45) 28 3 (.int .i64 0) 8 rfl Try.underlying28 info3 rfl (by decide) (by omega) u6 eE fD [.int .i64 fD] (fun k_ => (w.heap.size ≤ k_)) (fun _ => False) rfl rfl ?aP (fun _ hk => hk.elim) ?aF ?aO ?aB ?aS ?aL ?_; (case aP => exact rfl); (case aB => exact bB); (case aF => exact (fun k_ hk => (Nat.le_trans (Qe bB) hk))); (case aO => exact a9.out); (case aS => exact (Qe bB)); (case aL => have := rY.out; omega); intro kJ w20 ho hb hg hat; rw [← je.out] at ho; replace dW := aa.mk (Kd.N_afterv (ok := (fun k_ => ((aZ k_ ∨ aY k_) ∨ w.heap.size ≤ k_) ∧ k_ ≠ ag)) (by (with_reducible repeat (first | apply Kd.N_alloc | apply Kd.ZS | apply Kd.ZW)); exact Kd.ZT dW.out (fun _ hk => ⟨⟨hk.1, hk.2.2⟩, hk.2.1⟩)) hg hat); replace aA := aa.mk (Kd.Yd (ok := (fun k_ => ((aZ k_ ∨ aY k_) ∨ w.heap.size ≤ k_) ∧ some k_ ≠ (.slice kI ct.length ky : Value).ownBlock ∧ k_ ≠ ag)) (by (with_reducible repeat (first | apply Kd.V_alloc | apply Kd.ZD | apply Kd.Zw)); exact Kd.Yb aA.out (fun _ hk => ⟨⟨hk.1, ⟨hk.2.1, hk.2.2.2⟩⟩, hk.2.2.1⟩)) hg hat); replace aE := aa.mk (Kd.Yd (ok := (fun k_ => ((aZ k_ ∨ aY k_) ∨ w.heap.size ≤ k_) ∧ some k_ ≠ (.slice kI ct.length ky : Value).ownBlock ∧ k_ ≠ ag)) (by (with_reducible repeat (first | apply Kd.V_alloc | apply Kd.ZD | apply Kd.Zw)); exact Kd.Yb aE.out (fun _ hk => ⟨⟨hk.1, ⟨hk.2.1, hk.2.2.2⟩⟩, hk.2.2.1⟩)) hg hat); replace ab := aa.mk (Z4 (g := ag) (o := .cells #[.slice ak ae.length an, .slice aj af.length al] 24 (0, 0)) (by (with_reducible repeat (first | refine Qv ?_ _ | refine Qx ?_ | refine Qu ?_ _)); exact ab.out) hg (Kd.R_ne a9.out ab.out (by decide))); replace HB := aa.mk (hb); have eT := aa.mk (ho); clear a9; clear ho hb hg hat))
          go_roundg k2
          case measure => have := HK1.out; have := HK2.out; omega
          case rel => exact ⟨(iW), (wrap64 (cu + 1)), (by first | rfl | (simp; done) | (simp [*]; done)), H', ⟨by have := HK1.out; have := HK2.out; omega⟩, ⟨by (with_reducible repeat (first | apply Kd.N_alloc | apply Kd.ZS | apply Kd.ZW)); exact Kd.ZT dW.out (fun _ hk => ⟨hk.1.1, ⟨hk.2, hk.1.2⟩⟩)⟩, ⟨by (with_reducible repeat (first | apply Kd.R_alloc | apply Kd.R_drewN | apply Kd.QX)); exact eT.out⟩, ⟨by (with_reducible repeat (first | apply Kd.V_alloc | apply Kd.ZD | apply Kd.Zw)); exact Kd.Yb aA.out (fun _ hk => ⟨hk.1.1, ⟨hk.1.2.1, ⟨hk.2, hk.1.2.2⟩⟩⟩)⟩, ⟨by (with_reducible repeat (first | apply Kd.V_alloc | apply Kd.ZD | apply Kd.Zw)); exact Kd.Yb aE.out (fun _ hk => ⟨hk.1.1, ⟨hk.1.2.1, ⟨hk.2, hk.1.2.2⟩⟩⟩)⟩, ⟨by (with_reducible repeat (first | refine Qv ?_ _ | refine Qx ?_ | refine Qu ?_ _)); exact ab.out⟩, ⟨bB⟩⟩
         ·rw [if_neg c19] at H; exact absurd H (by simp)
     ·rw [if_neg c11] at H; have dV : decide (cu < (ct.length : Int)) = false := decide_eq_false c11; clear c11; obtain rfl := Option.some.inj H; obtain ⟨hZ, hP, qA⟩ := Kd.ZX dW.out; subst qA; go_wp2; go_ret; exact ⟨_, by first | rfl | (simp [Qk, Qj] <;> rfl) | (simp [*, Qk, Qj] <;> rfl), by (with_reducible repeat (first | apply Kd.R_alloc | apply Kd.R_drewN | apply Kd.QX)); exact a9.out, bB⟩
  ·rw [if_neg c4] at H; exact absurd H (by simp)
 ·rw [if_neg c3] at H; exact absurd H (by simp)
def Qm.l0 : Nat → List Int → Bool → Int → List (List Int) → List (List Int) → Option (Int)
 | 0, _, _, _, _, _ => none
 | k + 1, x6, x7, x8, ar, au => if x8 < (x6.length : Int) then (if x8 < (ar.length : Int) then (if 0 ≤ x8 then (if (rd x6 x8) < 0 then (some 7) else (if x8 ≥ (ar.length : Int) then (if (rd x6 x8) > 0 then (some 7) else (if x7 = true then (Qm.l0 k x6 true (wrap64 (x8 + 1)) ar au) else (Qm.l0 k x6 ((rd x6 x8) != 0) (wrap64 (x8 + 1)) ar au))) else (if x7 = true then (Qm.l0 k x6 true (wrap64 (x8 + 1)) ar au) else (Qm.l0 k x6 ((rd x6 x8) != 0) (wrap64 (x8 + 1)) ar au)))) else (none)) else (if x8 ≥ (ar.length : Int) then (if 0 ≤ x8 then (if (rd x6 x8) > 0 then (some 7) else (if x7 = true then (Qm.l0 k x6 true (wrap64 (x8 + 1)) ar au) else (Qm.l0 k x6 ((rd x6 x8) != 0) (wrap64 (x8 + 1)) ar au))) else (none)) else (if x7 = true then (Qm.l0 k x6 true (wrap64 (x8 + 1)) ar au) else (if 0 ≤ x8 then (Qm.l0 k x6 ((rd x6 x8) != 0) (wrap64 (x8 + 1)) ar au) else (none))))) else (if x7 = true then (some 0) else (some 7))
def Qm.f (k : Nat) (ae : List (List Int)) (af : List (List Int)) (l1 : List Int) : Option (Int) := (Zp.f k ae af l1).bind fun t102 => (if t102 = 0 then ((Qo.f k ae af l1).bind fun t103 => (Qm.l0 k t103 false 0 ae af)) else (some t102))
set_option maxHeartbeats 8000000 in
set_option maxRecDepth 100000 in
theorem Qm.calls (k : Nat) (ak : Option Addr) (an : Nat) (ae : List (List Int)) (aj : Option Addr) (al : Nat) (af : List (List Int)) (A1 : Option Addr) (c1 : Nat) (l1 : List Int) (r : Int) (w : World) (aV : Kd.C (Kd.slice 3 (Kd.int .i64)) w ak ae.length ae) (aX : ae.length ≤ an) (aU : Kd.C (Kd.slice 3 (Kd.int .i64)) w aj af.length af) (aW : af.length ≤ al) (hr1 : Kd.C (Kd.int .i64) w A1 l1.length l1) (hc1 : l1.length ≤ c1) (h : Qm.f k ae af l1 = some r) :
  Calls Try.prog 59 #[.agg #[.slice ak ae.length an, .slice aj af.length al], .slice A1 l1.length c1] w fun e w' => e = .returned (.int .i64 r) ∧ Below w.heap.size w w' := by
 have dD := Try.underlying24; have av := aa.mk aV; have aw := aa.mk aX; clear aV aX; have ay := aa.mk aU; have ax := aa.mk aW; clear aU aW; have HR1 := aa.mk hr1; have HC1 := aa.mk hc1; clear hr1 hc1; have HB := aa.mk (Below.refl w.heap.size w); have H : ((Zp.f k ae af l1).bind fun t102 => (if t102 = 0 then ((Qo.f k ae af l1).bind fun t103 => (Qm.l0 k t103 false 0 ae af)) else (some t102))) = some r := h; clear h; replace H := Option.bind_eq_some_iff.mp H; obtain ⟨t102, A30, H⟩ := H; replace H : (if t102 = 0 then ((Qo.f k ae af l1).bind fun t103 => (Qm.l0 k t103 false 0 ae af)) else (some t102)) = some r := H; have A3 := aa.mk A30; clear A30; by_cases c4 : t102 = 0
 ·rw [if_pos c4] at H; have bI : (t102 == 0) = true := beq_iff_eq.mpr c4; have cZ : (t102 != 0) = false := bne_eq_false_iff_eq.mpr c4; clear c4; replace H := Option.bind_eq_some_iff.mp H; obtain ⟨t103, A50, H⟩ := H; replace H : (Qm.l0 k t103 false 0 ae af) = some r := H; have A5 := aa.mk A50; clear A50; have H' := aa.mk H; clear H; go_enter Try.func59, Try.ntmps59; go_wp2_with (first | ((with_reducible refine QM (N := 2) rfl ?_); (try (refine ZE (by rfl) ?_; dsimp only)); refine QU ?hg (N := 2) ?hd (cs := #[.slice ak ae.length an, .slice aj af.length al]) (t := 24) ?hr ?_; (case hd => rfl); (case hg => rfl); (case hr => first | (go_simp; done) | (go_simp; rfl)); intro ag hg w6 hbox hb; have ab := aa.mk (hbox); have ba := aa.mk ((by rw [hg]; exact (Qe bB) : w.heap.size ≤ ag)); have aN := aa.mk ((by rw [hg]; exact (Qe bB) : w.heap.size ≤ ag)); replace HB := aa.mk (Qc bB hb); clear hb hbox hg; have dS : w6.cell? ⟨ag, 0, none⟩ = some (.slice ak ae.length an) := (Qb ab.out 0).trans rfl; have dR : w6.cell? ⟨ag, 1, none⟩ = some (.slice aj af.length al) := (Qb ab.out 1).trans rfl; have dQ := Qa ab.out 0; have dP := Qa ab.out 1) | ((with_reducible refine Qf (f := 100) rfl ?_); refine QE (some 11) rfl rfl Try.func100 (by kernel_rfl) rfl #[.agg #[.slice ak ae.length an, .slice aj af.length al], .slice A1 l1.length c1] rfl hA ?_; (with_reducible refine (Zp.calls k _ _ ae _ _ af _ _ l1 t102 _ ?ai ?ah ?aq ?ao ?aK ?aJ A3.out).mono ?_); (case ai => exact (Kd.Qh av.out HB.out)); (case ah => exact aw.out); (case aq => exact (Kd.Qh ay.out HB.out)); (case ao => exact ax.out); (case aK => exact (Kd.Qh HR1.out HB.out)); (case aJ => exact HC1.out); rintro e w8 ⟨rfl, hb⟩; refine ⟨_, rfl, ?_⟩; replace ab := aa.mk (Ql ab.out hb); replace HB := aa.mk (Qc bB hb); (try clear hb); (try clear hb2); (try clear hk); (try clear hi); have jG : w8.cell? ⟨ag, 0, none⟩ = some (.slice ak ae.length an) := (Qb ab.out 0).trans rfl; have jF : w8.cell? ⟨ag, 1, none⟩ = some (.slice aj af.length al) := (Qb ab.out 1).trans rfl; have jA := Qa ab.out 0; have jz := Qa ab.out 1) | ((with_reducible refine Qf (f := 101) rfl ?_); refine QE (some 17) rfl rfl Try.func101 (by kernel_rfl) rfl #[.agg #[.slice ak ae.length an, .slice aj af.length al], .slice A1 l1.length c1] rfl hA ?_; (with_reducible refine (Qo.calls k (fun k_ => k_ < w.heap.size) _ _ ae (fun k_ => k_ < w.heap.size) _ _ af _ _ l1 t103 _ ?ai ?ah ?aq ?ao A5.out).mono ?_); (case ai => exact Kd.V_mk aw.out (Kd.Z2 (Kd.C_F (Kd.ZQ 3 (Kd.Z3 .i64)) av.out) bB)); (case ah => exact Kd.V_mk ax.out (Kd.Z2 (Kd.C_F (Kd.ZQ 3 (Kd.Z3 .i64)) ay.out) bB)); (case aq => exact (Kd.Qh HR1.out HB.out)); (case ao => exact HC1.out); rintro e w10 ⟨et, rfl, ho0, hb⟩; refine ⟨_, rfl, ?_⟩; have bm := aa.mk (Kd.Zb (Kd.Zl (ok' := fun k_ => True) ho0 (fun _ hk_ => trivial)) (Qe bB)); replace ab := aa.mk (Ql ab.out hb); replace HB := aa.mk (Qc bB hb); (try clear hb); (try clear hb2); (try clear hk); (try clear hi); (try clear ho0)))
  go_loopg [7, 8] k (fun kq v7 v8 w' => ∃ (cu : Bool) (aC : Int), v7 = .bool cu ∧ v8 = .int .i64 aC ∧ aa (Qm.l0 kq t103 cu aC ae af = some r) ∧ aa (kq ≤ k) ∧ aa (Kd.R (Kd.int .i64) 3 w' w.heap.size (fun _ => True) et t103) ∧ aa (w'.heap[ag]? = some (.cells #[(.slice ak ae.length an), (.slice aj af.length al)] 24 (0, 0))) ∧ aa (Below w.heap.size w w'))
  case atStart => exact ⟨(false), (0), (by first | rfl | (simp; done) | (simp [*]; done)), (by first | rfl | (simp; done) | (simp [*]; done)), H', ⟨Nat.le_refl _⟩, ⟨by (with_reducible repeat (first | apply Kd.R_alloc | apply Kd.R_drewN | apply Kd.QX)); exact bm.out⟩, ⟨by (with_reducible repeat (first | refine Qv ?_ _ | refine Qx ?_ | refine Qu ?_ _)); exact ab.out⟩, ⟨bB⟩⟩
  case round =>
   clear H'; try clear c1
   try clear p2
   try clear c4
   try clear bI
   try clear cZ
   try clear c5
   try clear c10
   try clear dS
   try clear dR
   try clear jG
   try clear jF
   try clear dQ
   try clear dP
   try clear jA
   try clear jz
   obtain ⟨cu, aC, rfl, rfl, HA, HK1, a9, ab, HB⟩ := hrel; cases gk with
   | zero => exact absurd HA.out (by simp [Qm.l0])
   | succ k1 =>
    have H := HA.out; clear HA; simp only [Qm.l0] at H; by_cases c11 : aC < (t103.length : Int)
    ·rw [if_pos c11] at H; have dV : decide (aC < (t103.length : Int)) = true := decide_eq_true c11; clear c11; by_cases c12 : aC < (ae.length : Int)
     ·rw [if_pos c12] at H; have eB : decide (aC < (ae.length : Int)) = true := decide_eq_true c12; clear c12; by_cases c13 : 0 ≤ aC
      ·rw [if_pos c13] at H; have iJ : decide (0 ≤ aC) = true := decide_eq_true c13; clear c13; by_cases c14 : (rd t103 aC) < 0
       ·rw [if_pos c14] at H; have eA : decide ((rd t103 aC) < 0) = true := decide_eq_true c14; clear c14; obtain rfl := Option.some.inj H; obtain ⟨pe, oU, qC⟩ := Kd.Q9 a9.out; subst qC; have jK : wr.cell? ⟨ag, 0, none⟩ = some (.slice ak ae.length an) := (Qb ab.out 0).trans rfl; have jJ : wr.cell? ⟨ag, 1, none⟩ = some (.slice aj af.length al) := (Qb ab.out 1).trans rfl; have jE := Qa ab.out 0; have jD := Qa ab.out 1; have bz : 0 ≤ (aC : Int) := of_decide_eq_true (by assumption); have bw : aC < (t103.length : Int) := of_decide_eq_true (by assumption); obtain ⟨da, dr, aQ⟩ := Kd.QZ (Kd.QH a9.out).2.2 aC bz bw; cases dr; replace bz := eq_true bz; replace bw := eq_true bw; go_wp2; go_ret; exact ⟨by first | rfl | (simp [Qk, Qj] <;> rfl) | (simp [*, Qk, Qj] <;> rfl), bB⟩
       ·rw [if_neg c14] at H; have eA : decide ((rd t103 aC) < 0) = false := decide_eq_false c14; clear c14; by_cases c17 : aC ≥ (ae.length : Int)
        ·rw [if_pos c17] at H; have ej : decide ((ae.length : Int) ≤ aC) = true := decide_eq_true c17; clear c17; by_cases c18 : (rd t103 aC) > 0
         ·rw [if_pos c18] at H; have iH : decide (0 < (rd t103 aC)) = true := decide_eq_true c18; clear c18; obtain rfl := Option.some.inj H; obtain ⟨qS, oT, qB⟩ := Kd.Q9 a9.out; subst qB; have oM : wr.cell? ⟨ag, 0, none⟩ = some (.slice ak ae.length an) := (Qb ab.out 0).trans rfl; have oL : wr.cell? ⟨ag, 1, none⟩ = some (.slice aj af.length al) := (Qb ab.out 1).trans rfl; have n8 := Qa ab.out 0; have n7 := Qa ab.out 1; have bz : 0 ≤ (aC : Int) := of_decide_eq_true (by assumption); have bw : aC < (t103.length : Int) := of_decide_eq_true (by assumption); obtain ⟨da, dr, aQ⟩ := Kd.QZ (Kd.QH a9.out).2.2 aC bz bw; cases dr; replace bz := eq_true bz; replace bw := eq_true bw; have fJ : 0 ≤ (aC : Int) := of_decide_eq_true (by assumption); have fH : aC < (t103.length : Int) := of_decide_eq_true (by assumption); obtain ⟨jd, k9, eI⟩ := Kd.QZ (Kd.QH a9.out).2.2 aC fJ fH; obtain rfl : da = jd := (by injection k9); replace fJ := eq_true fJ; replace fH := eq_true fH; go_wp2; go_ret; exact ⟨by first | rfl | (simp [Qk, Qj] <;> rfl) | (simp [*, Qk, Qj] <;> rfl), bB⟩
         ·rw [if_neg c18] at H; have iH : decide (0 < (rd t103 aC)) = false := decide_eq_false c18; clear c18; by_cases c21 : cu = true
          ·subst c21; have H1 : (Qm.l0 k1 t103 true (wrap64 (aC + 1)) ae af) = some r := by rw [if_pos rfl] at H; exact H
           clear H; have H := H1; clear H1; have H' := aa.mk H; clear H; obtain ⟨gU, gQ, mU⟩ := Kd.Q9 a9.out; subst mU; have oK : wr.cell? ⟨ag, 0, none⟩ = some (.slice ak ae.length an) := (Qb ab.out 0).trans rfl; have oJ : wr.cell? ⟨ag, 1, none⟩ = some (.slice aj af.length al) := (Qb ab.out 1).trans rfl; have n5 := Qa ab.out 0; have n4 := Qa ab.out 1; have bz : 0 ≤ (aC : Int) := of_decide_eq_true (by assumption); have bw : aC < (t103.length : Int) := of_decide_eq_true (by assumption); obtain ⟨da, dr, aQ⟩ := Kd.QZ (Kd.QH a9.out).2.2 aC bz bw; cases dr; replace bz := eq_true bz; replace bw := eq_true bw; have fJ : 0 ≤ (aC : Int) := of_decide_eq_true (by assumption); have fH : aC < (t103.length : Int) := of_decide_eq_true (by assumption); obtain ⟨jd, k9, eI⟩ := Kd.QZ (Kd.QH a9.out).2.2 aC fJ fH; obtain rfl : da = jd := (by injection k9); replace fJ := eq_true fJ; replace fH := eq_true fH; go_wp2; go_roundg k1
           case measure => have := HK1.out; omega
           case rel => exact ⟨(true), (wrap64 (aC + 1)), (by first | rfl | (simp; done) | (simp [*]; done)), (by first | rfl | (simp; done) | (simp [*]; done)), H', ⟨by have := HK1.out; omega⟩, ⟨by (with_reducible repeat (first | apply Kd.R_alloc | apply Kd.R_drewN | apply Kd.QX)); exact a9.out⟩, ⟨by (with_reducible repeat (first | refine Qv ?_ _ | refine Qx ?_ | refine Qu ?_ _)); exact ab.out⟩, ⟨bB⟩⟩
          ·replace c21 := Bool.eq_false_iff.mpr c21; subst c21; have H1 : (Qm.l0 k1 t103 ((rd t103 aC) != 0) (wrap64 (aC + 1)) ae af) = some r := by rw [if_neg (show ¬ (false = true) by decide)] at H; exact H
           clear H; have H := H1; clear H1; have H' := aa.mk H; clear H; obtain ⟨gT, gB, kx⟩ := Kd.Q9 a9.out; subst kx; have tG : wr.cell? ⟨ag, 0, none⟩ = some (.slice ak ae.length an) := (Qb ab.out 0).trans rfl; have tF : wr.cell? ⟨ag, 1, none⟩ = some (.slice aj af.length al) := (Qb ab.out 1).trans rfl; have tf := Qa ab.out 0; have te := Qa ab.out 1; have bz : 0 ≤ (aC : Int) := of_decide_eq_true (by assumption); have bw : aC < (t103.length : Int) := of_decide_eq_true (by assumption); obtain ⟨da, dr, aQ⟩ := Kd.QZ (Kd.QH a9.out).2.2 aC bz bw; cases dr; replace bz := eq_true bz; replace bw := eq_true bw; have fJ : 0 ≤ (aC : Int) := of_decide_eq_true (by assumption); have fH : aC < (t103.length : Int) := of_decide_eq_true (by assumption); obtain ⟨jd, k9, eI⟩ := Kd.QZ (Kd.QH a9.out).2.2 aC fJ fH; obtain rfl : da = jd := (by injection k9); replace fJ := eq_true fJ; replace fH := eq_true fH; have p3 : 0 ≤ (aC : Int) := of_decide_eq_true (by assumption); have pY : aC < (t103.length : Int) := of_decide_eq_true (by assumption); obtain ⟨rT, uR, sN⟩ := Kd.QZ (Kd.QH a9.out).2.2 aC p3 pY; obtain rfl : da = rT := (by injection uR); replace p3 := eq_true p3; replace pY := eq_true pY; go_wp2; go_roundg k1
           case measure => have := HK1.out; omega
           case rel => exact ⟨(((rd t103 aC) != 0)), (wrap64 (aC + 1)), (by first | rfl | (simp; done) | (simp [*]; done)), (by first | rfl | (simp; done) | (simp [*]; done)), H', ⟨by have := HK1.out; omega⟩, ⟨by (with_reducible repeat (first | apply Kd.R_alloc | apply Kd.R_drewN | apply Kd.QX)); exact a9.out⟩, ⟨by (with_reducible repeat (first | refine Qv ?_ _ | refine Qx ?_ | refine Qu ?_ _)); exact ab.out⟩, ⟨bB⟩⟩
        ·rw [if_neg c17] at H; have ej : decide ((ae.length : Int) ≤ aC) = false := decide_eq_false c17; clear c17; by_cases c26 : cu = true
         ·subst c26; have H1 : (Qm.l0 k1 t103 true (wrap64 (aC + 1)) ae af) = some r := by rw [if_pos rfl] at H; exact H
          clear H; have H := H1; clear H1; have H' := aa.mk H; clear H; obtain ⟨xg, wQ, uJ⟩ := Kd.Q9 a9.out; subst uJ; have oG : wr.cell? ⟨ag, 0, none⟩ = some (.slice ak ae.length an) := (Qb ab.out 0).trans rfl; have oF : wr.cell? ⟨ag, 1, none⟩ = some (.slice aj af.length al) := (Qb ab.out 1).trans rfl; have nZ := Qa ab.out 0; have nY := Qa ab.out 1; have bz : 0 ≤ (aC : Int) := of_decide_eq_true (by assumption); have bw : aC < (t103.length : Int) := of_decide_eq_true (by assumption); obtain ⟨da, dr, aQ⟩ := Kd.QZ (Kd.QH a9.out).2.2 aC bz bw; cases dr; replace bz := eq_true bz; replace bw := eq_true bw; go_wp2; go_roundg k1
          case measure => have := HK1.out; omega
          case rel => exact ⟨(true), (wrap64 (aC + 1)), (by first | rfl | (simp; done) | (simp [*]; done)), (by first | rfl | (simp; done) | (simp [*]; done)), H', ⟨by have := HK1.out; omega⟩, ⟨by (with_reducible repeat (first | apply Kd.R_alloc | apply Kd.R_drewN | apply Kd.QX)); exact a9.out⟩, ⟨by (with_reducible repeat (first | refine Qv ?_ _ | refine Qx ?_ | refine Qu ?_ _)); exact ab.out⟩, ⟨bB⟩⟩
         ·replace c26 := Bool.eq_false_iff.mpr c26; subst c26; have H1 : (Qm.l0 k1 t103 ((rd t103 aC) != 0) (wrap64 (aC + 1)) ae af) = some r := by rw [if_neg (show ¬ (false = true) by decide)] at H; exact H
          clear H; have H := H1; clear H1; have H' := aa.mk H; clear H; obtain ⟨lg, jQ, qz⟩ := Kd.Q9 a9.out; subst qz; have tE : wr.cell? ⟨ag, 0, none⟩ = some (.slice ak ae.length an) := (Qb ab.out 0).trans rfl; have tD : wr.cell? ⟨ag, 1, none⟩ = some (.slice aj af.length al) := (Qb ab.out 1).trans rfl; have td := Qa ab.out 0; have tc := Qa ab.out 1; have bz : 0 ≤ (aC : Int) := of_decide_eq_true (by assumption); have bw : aC < (t103.length : Int) := of_decide_eq_true (by assumption); obtain ⟨da, dr, aQ⟩ := Kd.QZ (Kd.QH a9.out).2.2 aC bz bw; cases dr; replace bz := eq_true bz; replace bw := eq_true bw; have eY : 0 ≤ (aC : Int) := of_decide_eq_true (by assumption); have eV : aC < (t103.length : Int) := of_decide_eq_true (by assumption); obtain ⟨l9, k8, fw⟩ := Kd.QZ (Kd.QH a9.out).2.2 aC eY eV; obtain rfl : da = l9 := (by injection k8); replace eY := eq_true eY; replace eV := eq_true eV; go_wp2; go_roundg k1
          case measure => have := HK1.out; omega
          case rel => exact ⟨(((rd t103 aC) != 0)), (wrap64 (aC + 1)), (by first | rfl | (simp; done) | (simp [*]; done)), (by first | rfl | (simp; done) | (simp [*]; done)), H', ⟨by have := HK1.out; omega⟩, ⟨by (with_reducible repeat (first | apply Kd.R_alloc | apply Kd.R_drewN | apply Kd.QX)); exact a9.out⟩, ⟨by (with_reducible repeat (first | refine Qv ?_ _ | refine Qx ?_ | refine Qu ?_ _)); exact ab.out⟩, ⟨bB⟩⟩
      ·rw [if_neg c13] at H; exact absurd H (by simp)
     ·rw [if_neg c12] at H; have eB : decide (aC < (ae.length : Int)) = false := decide_eq_false c12; clear c12; by_cases c31 : aC ≥ (ae.length : Int)
      ·rw [if_pos c31] at H; have m5 : decide ((ae.length : Int) ≤ aC) = true := decide_eq_true c31; clear c31; by_cases c32 : 0 ≤ aC
       ·rw [if_pos c32] at H; have rK : decide (0 ≤ aC) = true := decide_eq_true c32; clear c32; by_cases c33 : (rd t103 aC) > 0
        ·rw [if_pos c33] at H; have l4 : decide (0 < (rd t103 aC)) = true := decide_eq_true c33; clear c33; obtain rfl := Option.some.inj H; obtain ⟨sq, rz, mS⟩ := Kd.Q9 a9.out; subst mS; have oA : wr.cell? ⟨ag, 0, none⟩ = some (.slice ak ae.length an) := (Qb ab.out 0).trans rfl; have oy : wr.cell? ⟨ag, 1, none⟩ = some (.slice aj af.length al) := (Qb ab.out 1).trans rfl; have nT := Qa ab.out 0; have nS := Qa ab.out 1; have cO : 0 ≤ (aC : Int) := of_decide_eq_true (by assumption); have cN : aC < (t103.length : Int) := of_decide_eq_true (by assumption); obtain ⟨gZ, gO, bc⟩ := Kd.QZ (Kd.QH a9.out).2.2 aC cO cN; cases gO; replace cO := eq_true cO; replace cN := eq_true cN; go_wp2; go_ret; exact ⟨by first | rfl | (simp [Qk, Qj] <;> rfl) | (simp [*, Qk, Qj] <;> rfl), bB⟩
        ·rw [if_neg c33] at H; have l4 : decide (0 < (rd t103 aC)) = false := decide_eq_false c33; clear c33; by_cases c36 : cu = true
         ·subst c36; have H1 : (Qm.l0 k1 t103 true (wrap64 (aC + 1)) ae af) = some r := by rw [if_pos rfl] at H; exact H
          clear H; have H := H1; clear H1; have H' := aa.mk H; clear H; obtain ⟨so, ry, qx⟩ := Kd.Q9 a9.out; subst qx; have ov : wr.cell? ⟨ag, 0, none⟩ = some (.slice ak ae.length an) := (Qb ab.out 0).trans rfl; have ou : wr.cell? ⟨ag, 1, none⟩ = some (.slice aj af.length al) := (Qb ab.out 1).trans rfl; have nP := Qa ab.out 0; have nO := Qa ab.out 1; have cO : 0 ≤ (aC : Int) := of_decide_eq_true (by assumption); have cN : aC < (t103.length : Int) := of_decide_eq_true (by assumption); obtain ⟨gZ, gO, bc⟩ := Kd.QZ (Kd.QH a9.out).2.2 aC cO cN; cases gO; replace cO := eq_true cO; replace cN := eq_true cN; go_wp2; go_roundg k1
          case measure => have := HK1.out; omega
          case rel => exact ⟨(true), (wrap64 (aC + 1)), (by first | rfl | (simp; done) | (simp [*]; done)), (by first | rfl | (simp; done) | (simp [*]; done)), H', ⟨by have := HK1.out; omega⟩, ⟨by (with_reducible repeat (first | apply Kd.R_alloc | apply Kd.R_drewN | apply Kd.QX)); exact a9.out⟩, ⟨by (with_reducible repeat (first | refine Qv ?_ _ | refine Qx ?_ | refine Qu ?_ _)); exact ab.out⟩, ⟨bB⟩⟩
         ·replace c36 := Bool.eq_false_iff.mpr c36; subst c36; have H1 : (Qm.l0 k1 t103 ((rd t103 aC) != 0) (wrap64 (aC + 1)) ae af) = some r := by rw [if_neg (show ¬ (false = true) by decide)] at H; exact H
          clear H; have H := H1; clear H1; have H' := aa.mk H; clear H; obtain ⟨xf, wO, uG⟩ := Kd.Q9 a9.out; subst uG; have lT : wr.cell? ⟨ag, 0, none⟩ = some (.slice ak ae.length an) := (Qb ab.out 0).trans rfl; have lS : wr.cell? ⟨ag, 1, none⟩ = some (.slice aj af.length al) := (Qb ab.out 1).trans rfl; have lL := Qa ab.out 0; have lK := Qa ab.out 1; have cO : 0 ≤ (aC : Int) := of_decide_eq_true (by assumption); have cN : aC < (t103.length : Int) := of_decide_eq_true (by assumption); obtain ⟨gZ, gO, bc⟩ := Kd.QZ (Kd.QH a9.out).2.2 aC cO cN; cases gO; replace cO := eq_true cO; replace cN := eq_true cN; have e8 : 0 ≤ (aC : Int) := of_decide_eq_true (by assumption); have e7 : aC < (t103.length : Int) := of_decide_eq_true (by assumption); obtain ⟨jc, k7, cA⟩ := Kd.QZ (Kd.QH a9.out).2.2 aC e8 e7; obtain rfl : gZ = jc := (by injection k7); replace e8 := eq_true e8; replace e7 := eq_true e7; go_wp2; go_roundg k1
          case measure => have := HK1.out; omega
          case rel => exact ⟨(((rd t103 aC) != 0)), (wrap64 (aC + 1)), (by first | rfl | (simp; done) | (simp [*]; done)), (by first | rfl | (simp; done) | (simp [*]; done)), H', ⟨by have := HK1.out; omega⟩, ⟨by (with_reducible repeat (first | apply Kd.R_alloc | apply Kd.R_drewN | apply Kd.QX)); exact a9.out⟩, ⟨by (with_reducible repeat (first | refine Qv ?_ _ | refine Qx ?_ | refine Qu ?_ _)); exact ab.out⟩, ⟨bB⟩⟩
       ·rw [if_neg c32] at H; exact absurd H (by simp)
      ·rw [if_neg c31] at H; have m5 : decide ((ae.length : Int) ≤ aC) = false := decide_eq_false c31; clear c31; by_cases c41 : cu = true
       ·subst c41; have H1 : (Qm.l0 k1 t103 true (wrap64 (aC + 1)) ae af) = some r := by rw [if_pos rfl] at H; exact H
        clear H; have H := H1; clear H1; have H' := aa.mk H; clear H; obtain ⟨xe, wN, uF⟩ := Kd.Q9 a9.out; subst uF; have oh : wr.cell? ⟨ag, 0, none⟩ = some (.slice ak ae.length an) := (Qb ab.out 0).trans rfl; have og : wr.cell? ⟨ag, 1, none⟩ = some (.slice aj af.length al) := (Qb ab.out 1).trans rfl; have nJ := Qa ab.out 0; have nI := Qa ab.out 1; go_wp2; go_roundg k1
        case measure => have := HK1.out; omega
        case rel => exact ⟨(true), (wrap64 (aC + 1)), (by first | rfl | (simp; done) | (simp [*]; done)), (by first | rfl | (simp; done) | (simp [*]; done)), H', ⟨by have := HK1.out; omega⟩, ⟨by (with_reducible repeat (first | apply Kd.R_alloc | apply Kd.R_drewN | apply Kd.QX)); exact a9.out⟩, ⟨by (with_reducible repeat (first | refine Qv ?_ _ | refine Qx ?_ | refine Qu ?_ _)); exact ab.out⟩, ⟨bB⟩⟩
       ·replace c41 := Bool.eq_false_iff.mpr c41; subst c41; have H1 : (if 0 ≤ aC then (Qm.l0 k1 t103 ((rd t103 aC) != 0) (wrap64 (aC + 1)) ae af) else (none)) = some r := by rw [if_neg (show ¬ (false = true) by decide)] at H; exact H
        clear H; have H := H1; clear H1; by_cases c44 : 0 ≤ aC
        ·rw [if_pos c44] at H; have vO : decide (0 ≤ aC) = true := decide_eq_true c44; clear c44; have H' := aa.mk H; clear H; obtain ⟨sk, ru, mR⟩ := Kd.Q9 a9.out; subst mR; have tr : wr.cell? ⟨ag, 0, none⟩ = some (.slice ak ae.length an) := (Qb ab.out 0).trans rfl; have tq : wr.cell? ⟨ag, 1, none⟩ = some (.slice aj af.length al) := (Qb ab.out 1).trans rfl; have sV := Qa ab.out 0; have sU := Qa ab.out 1; have eX : 0 ≤ (aC : Int) := of_decide_eq_true (by assumption); have eU : aC < (t103.length : Int) := of_decide_eq_true (by assumption); obtain ⟨l8, k6, cI⟩ := Kd.QZ (Kd.QH a9.out).2.2 aC eX eU; cases k6; replace eX := eq_true eX; replace eU := eq_true eU; go_wp2; go_roundg k1
         case measure => have := HK1.out; omega
         case rel => exact ⟨(((rd t103 aC) != 0)), (wrap64 (aC + 1)), (by first | rfl | (simp; done) | (simp [*]; done)), (by first | rfl | (simp; done) | (simp [*]; done)), H', ⟨by have := HK1.out; omega⟩, ⟨by (with_reducible repeat (first | apply Kd.R_alloc | apply Kd.R_drewN | apply Kd.QX)); exact a9.out⟩, ⟨by (with_reducible repeat (first | refine Qv ?_ _ | refine Qx ?_ | refine Qu ?_ _)); exact ab.out⟩, ⟨bB⟩⟩
        ·rw [if_neg c44] at H; exact absurd H (by simp)
    ·rw [if_neg c11] at H; have dV : decide (aC < (t103.length : Int)) = false := decide_eq_false c11; clear c11; by_cases c47 : cu = true
     ·subst c47; have H1 : (some 0) = some r := by rw [if_pos rfl] at H; exact H
      clear H; have H := H1; clear H1; obtain rfl := Option.some.inj H; obtain ⟨xc, wL, uD⟩ := Kd.Q9 a9.out; subst uD; go_wp2; go_ret; exact ⟨by first | rfl | (simp [Qk, Qj] <;> rfl) | (simp [*, Qk, Qj] <;> rfl), bB⟩
     ·replace c47 := Bool.eq_false_iff.mpr c47; subst c47; have H1 : (some 7) = some r := by rw [if_neg (show ¬ (false = true) by decide)] at H; exact H
      clear H; have H := H1; clear H1; obtain rfl := Option.some.inj H; obtain ⟨xb, wK, uC⟩ := Kd.Q9 a9.out; subst uC; go_wp2; go_ret; exact ⟨by first | rfl | (simp [Qk, Qj] <;> rfl) | (simp [*, Qk, Qj] <;> rfl), bB⟩
 ·rw [if_neg c4] at H; have bI : (t102 == 0) = false := beq_eq_false_iff_ne.mpr c4; have cZ : (t102 != 0) = true := bne_iff_ne.mpr c4; obtain rfl := Option.some.inj H; go_enter Try.func59, Try.ntmps59; go_wp2_with (first | ((with_reducible refine QM (N := 2) rfl ?_); (try (refine ZE (by rfl) ?_; dsimp only)); refine QU ?hg (N := 2) ?hd (cs := #[.slice ak ae.length an, .slice aj af.length al]) (t := 24) ?hr ?_; (case hd => rfl); (case hg => rfl); (case hr => first | (go_simp; done) | (go_simp; rfl)); intro ag hg w50 hbox hb; have ab := aa.mk (hbox); have ba := aa.mk ((by rw [hg]; exact (Qe bB) : w.heap.size ≤ ag)); have aN := aa.mk ((by rw [hg]; exact (Qe bB) : w.heap.size ≤ ag)); replace HB := aa.mk (Qc bB hb); clear hb hbox hg; have tj : w50.cell? ⟨ag, 0, none⟩ = some (.slice ak ae.length an) := (Qb ab.out 0).trans rfl; have ti : w50.cell? ⟨ag, 1, none⟩ = some (.slice aj af.length al) := (Qb ab.out 1).trans rfl; have sP := Qa ab.out 0; have sO := Qa ab.out 1) | ((with_reducible refine Qf (f := 100) rfl ?_); refine QE (some 11) rfl rfl Try.func100 (by kernel_rfl) rfl #[.agg #[.slice ak ae.length an, .slice aj af.length al], .slice A1 l1.length c1] rfl hA ?_; (with_reducible refine (Zp.calls k _ _ ae _ _ af _ _ l1 t102 _ ?ai ?ah ?aq ?ao ?aK ?aJ A3.out).mono ?_); (case ai => exact (Kd.Qh av.out HB.out)); (case ah => exact aw.out); (case aq => exact (Kd.Qh ay.out HB.out)); (case ao => exact ax.out); (case aK => exact (Kd.Qh HR1.out HB.out)); (case aJ => exact HC1.out); rintro e w52 ⟨rfl, hb⟩; refine ⟨_, rfl, ?_⟩; replace ab := aa.mk (Ql ab.out hb); replace HB := aa.mk (Qc bB hb); (try clear hb); (try clear hb2); (try clear hk); (try clear hi)))
  go_ret; exact ⟨by first | rfl | (simp [Qk, Qj] <;> rfl) | (simp [*, Qk, Qj] <;> rfl), bB⟩
end Go.Proofs.Ytdneelgnmnpanaa.P
end
section
namespace Go.Proofs.Ytdneelgnmnpanaa.P
open Go.RowKit Go.Proofs.YtdneelgnmnpanaaW.PrintWords Go.Proofs.YtdneelgnmnpanaaW.PrintLast Go.Proofs.YtdneelgnmnpanaaW.PrintMore
def Full.kd : Kd (List Int) where
  sz := 1
  E := []
  K := fun w xs cs => ∃ A n, cs = [.slice A n xs.length] ∧ n ≤ xs.length ∧ Kd.C (Kd.int .i64) w A xs.length xs
  M := fun _ _ _ _ _ => False
  K_len := by
    rintro w x cs ⟨A, c, rfl, _⟩; rfl
  K_one := by
    rintro w x cs ⟨A, c, rfl, _⟩ u hu; rw [List.mem_singleton.1 hu]; rfl
  K_below := by
    rintro w w1 x cs hb ⟨A, c, rfl, hl, hr⟩; exact ⟨A, c, rfl, hl, Kd.Qh hr hb⟩
  K_of_M := fun h => h.elim
  M_mono := fun _ h => h
  M_bound := fun h => h
  M_move := fun _ h => h
  M_lower := fun _ h => h
theorem Full.at_ {w : World} {A : Option Addr} {n : Nat} {xs : List (List Int)} (h : Kd.C Full.kd w A n xs) (i : Int) (h0 : 0 ≤ i) (h1 : i < n) : ∃ ad A0 c0, A = some ad ∧ w.cell? (ad.add i.toNat) = some (.slice A0 c0 (Qt xs i).length) ∧ c0 ≤ (Qt xs i).length ∧ Kd.C (Kd.int .i64) w A0 (Qt xs i).length (Qt xs i) := by
  obtain ⟨ad, c, e, _, hK, hc0⟩ := Kd.C_get h ([] : List Int) i h0 h1; obtain ⟨A0, c0, rfl, hl, hr⟩ := hK; have hc : ∀ j u, [Value.slice A0 c0 (Qt xs i).length][j]? = some u → w.cell? (ad.add (i.toNat * 1 + j)) = some u := hc0; exact ⟨ad, A0, c0, e, by have hq := hc 0 _ rfl; rwa [Nat.mul_one, Nat.add_zero] at hq, hl, hr⟩
section
variable {P : Program} {ops : Array Oper} {Q : Exit → Act → World → Prop}
theorem Vu {rest : List Oper} {oi : Oper} {a : Act} {w : World} (N : Option Tmp) (hd : oi.dst = N) (hg : oi.guard = none) (k : Tmp) {f : FuncId} (cap : Array Value) {fn : Func} {xs : Array Operand} {ts : Array TypeId} (hop : oi.op = .call { callee := .value (.tmp k), args := xs, argTypes := ts })
    (hf : P.funcs[f]? = some fn) (hname : (fn.name == "runtime.NumGoroutine") = false) (hb : fn.body.isSome = true) (hk : a.eval (.tmp k) = .func (.func f) #[] cap) (args : Array Value) (hargs : xs.map a.eval ++ cap = args)
    (h : Calls P f args w fun e w' => ∃ v, e = .returned v ∧ wpList P ops Q rest (a.put N v) w') : wpList P ops Q (oi :: rest) a w := by
  refine wpList_plain hg fun K hK => ?_
  have he := UV hf hname hb args w; have hrun : (execOp a.eval oi).run P w = .ok (.enter f args) w := by
    unfold execOp; simp [hop, resolve, Deferred.ofValue, invoke, hk, hargs, he]
  unfold Oper.wp; rw [hrun, Oper.upon_enter]; refine h.mono fun e w'' hh => ?_
  obtain ⟨v, rfl, hk⟩ := hh; subst hd; exact hK _ _ hk
end
def bad (lo hi n : Int) : Bool := !decide (lo ≤ n ∧ n ≤ hi)
theorem within (n lo hi : Int) : Q6.f n lo hi = some (decide (lo ≤ n ∧ n ≤ hi)) := by
  unfold Q6.f; by_cases h : n ≥ lo
  · simp [h]
  · simp [h]
set_option maxHeartbeats 1000000 in
set_option maxRecDepth 100000 in
theorem all1_calls (t lo hi : Int) (g g2 : Nat) (w : World) (hbx : w.cell? ⟨g, 0, none⟩ = some (.int .i64 lo)) (hby : w.cell? ⟨g2, 0, none⟩ = some (.int .i64 hi)) :
    Calls Try.prog 115 #[.int .i64 t, .pointer (some ⟨g, 0, none⟩), .pointer (some ⟨g2, 0, none⟩)] w fun e w' => e = .returned (.bool (bad lo hi t)) ∧ Below w.heap.size w w' := by
  have A1 := aa.mk (within t lo hi); have hbad : (!decide (lo ≤ t ∧ t ≤ hi)) = bad lo hi t := rfl; generalize bad lo hi t = b at *; generalize decide (lo ≤ t ∧ t ≤ hi) = c at *; subst hbad; have HB := aa.mk (Below.refl w.heap.size w); go_enter Try.func115, Try.ntmps115; go_wp2_with (first
    | ((with_reducible refine Qf (f := 75) rfl ?_); refine QE (some 8) rfl rfl Try.func75 (by kernel_rfl) rfl #[.int .i64 t, .int .i64 lo, .int .i64 hi] rfl (by (try simp only [List.map_toArray, List.map_cons, List.map_nil]); first | done | rfl) ?_; (with_reducible refine (Q6.calls t lo hi c _ A1.out).mono ?_); rintro e w' ⟨rfl, ⟨nd, rfl⟩⟩; refine ⟨_, rfl, ?_⟩))
  go_ret; exact ⟨rfl, by repeat (first | (with_reducible first | exact HB.out | apply QR | apply QA | apply QN) | exact HB.out)⟩
set_option maxHeartbeats 2000000 in
set_option maxRecDepth 100000 in
theorem index_calls (A0 : Option Addr) (c0 : Nat) (l0 : List Int) (lo hi : Int) (g g2 : Nat) (w : World) (hr0 : Kd.C (Kd.int .i64) w A0 l0.length l0) (hc0 : l0.length ≤ c0) (hl : l0.length ≤ 1000) (hbx : w.cell? ⟨g, 0, none⟩ = some (.int .i64 lo)) (hby : w.cell? ⟨g2, 0, none⟩ = some (.int .i64 hi)) :
    Calls Try.prog 119 #[.slice A0 l0.length c0, .func (.func 115) #[] #[.pointer (some ⟨g, 0, none⟩), .pointer (some ⟨g2, 0, none⟩)]] w fun e w' => ∃ r : Int, e = .returned (.int .i64 r) ∧ decide (0 ≤ r) = l0.any (bad lo hi) ∧ Below w.heap.size w w' := by
  have HR0 := aa.mk hr0; have HC0 := aa.mk hc0; have HBX := aa.mk hbx; have HBY := aa.mk hby; have HL := aa.mk hl; clear hr0 hc0 hbx hby; have HB := aa.mk (Below.refl w.heap.size w); go_enter Try.func119, Try.ntmps119; go_wp2_with fail
  go_loopw [8] (fun i w' => ∃ n : Nat, n ≤ l0.length ∧ i = .int .i64 n ∧ aa (l0.any (bad lo hi) = (l0.drop n).any (bad lo hi)) ∧ aa (Below w.heap.size w w')) (fun i _ => l0.length - (intOf i).toNat)
  case atStart => exact ⟨0, by omega, rfl, ⟨rfl⟩, by first | exact HB | exact ⟨HB.out.drew⟩⟩
  case round =>
    clear HB; obtain ⟨n, hn, rfl, HA, HB⟩ := hrel; by_cases hlt : n < l0.length
    · have p1 : 0 ≤ (n : Int) := by omega
      have q1 : (n : Int) < (l0.length : Int) := by omega
      obtain ⟨ad1, e1, hx0⟩ := Kd.QZ HR0.out (n : Int) p1 q1; cases e1; replace hx0 := (HB.out.cell (World.block_lt_of_cell? w _ hx0)).trans hx0; have hbx := (HB.out.cell (World.block_lt_of_cell? w _ HBX.out)).trans HBX.out; have hby := (HB.out.cell (World.block_lt_of_cell? w _ HBY.out)).trans HBY.out; generalize hxx : rd l0 (n : Int) = x at *; simp only [Int.toNat_natCast] at hx0; have hxe : l0[n] = x := by rw [← hxx]; simp [rd, hlt]
      have ha := HA.out; rw [List.drop_eq_getElem_cons hlt, List.any_cons, hxe] at ha; have HA2 := aa.mk ha; clear HA ha hxe hxx; have HY := aa.mk (all1_calls x lo hi g g2 _ hbx hby); generalize bad lo hi x = b at *; cases b with
      | true =>
        go_wp2_with (first
          | ((with_reducible refine QM (N := 16) rfl ?_); refine Vu (some 16) rfl rfl 11 #[.pointer (some ⟨g, 0, none⟩), .pointer (some ⟨g2, 0, none⟩)] rfl Try.func115 (by kernel_rfl) rfl rfl #[.int .i64 x, .pointer (some ⟨g, 0, none⟩), .pointer (some ⟨g2, 0, none⟩)] (by (try simp only [List.map_toArray, List.map_cons, List.map_nil]); first | done | rfl) ?_; (with_reducible refine HY.out.mono ?_); rintro e w9 ⟨rfl, hb⟩; refine ⟨_, rfl, ?_⟩; replace HB := aa.mk (Qc (by repeat (first | (with_reducible first | exact HB.out | apply QR | apply QA | apply QN) | exact HB.out)) hb); (try clear hb)))
        go_ret; exact ⟨(n : Int), rfl, by rw [HA2.out, Bool.true_or]; simp, HB.out⟩
      | false =>
        go_wp2_with (first
          | ((with_reducible refine QM (N := 16) rfl ?_); refine Vu (some 16) rfl rfl 11 #[.pointer (some ⟨g, 0, none⟩), .pointer (some ⟨g2, 0, none⟩)] rfl Try.func115 (by kernel_rfl) rfl rfl #[.int .i64 x, .pointer (some ⟨g, 0, none⟩), .pointer (some ⟨g2, 0, none⟩)] (by (try simp only [List.map_toArray, List.map_cons, List.map_nil]); first | done | rfl) ?_; (with_reducible refine HY.out.mono ?_); rintro e w9 ⟨rfl, hb⟩; refine ⟨_, rfl, ?_⟩; replace HB := aa.mk (Qc (by repeat (first | (with_reducible first | exact HB.out | apply QR | apply QA | apply QN) | exact HB.out)) hb); (try clear hb)))
        go_roundw
        case rel => exact ⟨n + 1, by omega, by go_num, ⟨by rw [HA2.out, Bool.false_or]⟩, ⟨by first | exact HB.out.drew | exact HB.out⟩⟩
        case measure => simp [intOf]; omega
    · have hq : n = l0.length := by omega
      subst hq; go_wp2_with fail
      go_ret; exact ⟨-1, rfl, by rw [HA.out, List.drop_length]; rfl, HB.out⟩
set_option maxHeartbeats 1000000 in
set_option maxRecDepth 100000 in
theorem any_calls (A0 : Option Addr) (c0 : Nat) (l0 : List Int) (lo hi : Int) (g g2 : Nat) (w : World) (hr0 : Kd.C (Kd.int .i64) w A0 l0.length l0) (hc0 : l0.length ≤ c0) (hl : l0.length ≤ 1000) (hbx : w.cell? ⟨g, 0, none⟩ = some (.int .i64 lo)) (hby : w.cell? ⟨g2, 0, none⟩ = some (.int .i64 hi)) :
    Calls Try.prog 114 #[.slice A0 l0.length c0, .func (.func 115) #[] #[.pointer (some ⟨g, 0, none⟩), .pointer (some ⟨g2, 0, none⟩)]] w fun e w' => e = .returned (.bool (l0.any (bad lo hi))) ∧ Below w.heap.size w w' := by
  have HY := aa.mk (index_calls A0 c0 l0 lo hi g g2 w hr0 hc0 hl hbx hby); clear hr0 hc0 hl hbx hby; have HB := aa.mk (Below.refl w.heap.size w); generalize l0.any (bad lo hi) = b at *; go_enter Try.func114, Try.ntmps114; go_wp2_with (first
    | ((with_reducible refine Qf (f := 119) rfl ?_); refine QE (some 7) rfl rfl Try.func119 (by kernel_rfl) rfl #[.slice A0 l0.length c0, .func (.func 115) #[] #[.pointer (some ⟨g, 0, none⟩), .pointer (some ⟨g2, 0, none⟩)]] rfl (by (try simp only [List.map_toArray, List.map_cons, List.map_nil]); first | done | rfl) ?_; (with_reducible refine HY.out.mono ?_); rintro e w9 ⟨r, rfl, hb0, hb⟩; refine ⟨_, rfl, ?_⟩))
  subst hb0; go_ret; exact ⟨rfl, hb⟩
def Zd.f (l : List Int) (count lo hi : Int) : Option Bool := if l.length ≤ 1000 then some (decide ((l.length : Int) = count) && !l.any (bad lo hi)) else none
set_option maxHeartbeats 2000000 in
set_option maxRecDepth 100000 in
theorem Zd.calls (A0 : Option Addr) (c0 : Nat) (l0 : List Int) (a1 a2 a3 : Int) (r : Bool) (w : World) (hr0 : Kd.C (Kd.int .i64) w A0 l0.length l0) (hc0 : l0.length ≤ c0) (h : Zd.f l0 a1 a2 a3 = some r) :
    Calls Try.prog 77 #[.slice A0 l0.length c0, .int .i64 a1, .int .i64 a2, .int .i64 a3] w fun e w' => e = .returned (.bool r) ∧ Below w.heap.size w w' := by
  obtain ⟨hl, hr⟩ : l0.length ≤ 1000 ∧ (decide ((l0.length : Int) = a1) && !l0.any (bad a2 a3)) = r := by
    unfold Zd.f at h; split at h
    · rename_i h1
      exact ⟨h1, Option.some.inj h⟩
    · cases h
  have HR0 := aa.mk hr0; have HC0 := aa.mk hc0; have HL := aa.mk hl; clear hr0 hc0 h hl; have HB := aa.mk (Below.refl w.heap.size w); by_cases c : (l0.length : Int) = a1
  · subst c; simp only [decide_true, Bool.true_and] at hr; go_enter Try.func77, Try.ntmps77; go_wp2_with (first
      | ((with_reducible refine QM (N := 6) rfl ?_); refine QU ?hg (N := 6) ?hd (cs := #[.int .i64 a2]) (t := 3) ?hr ?_; (case hd => rfl); (case hg => rfl); (case hr => first | (go_simp; done) | (go_simp; rfl)); intro g hg w1 hbox hbe; have BK1 := aa.mk hbox; replace HB := aa.mk (Qc HB.out hbe); clear hg hbox hbe)
      | ((with_reducible refine QM (N := 7) rfl ?_); refine QU ?hg (N := 7) ?hd (cs := #[.int .i64 a3]) (t := 3) ?hr ?_; (case hd => rfl); (case hg => rfl); (case hr => first | (go_simp; done) | (go_simp; rfl)); intro g2 hg w2 hbox hbe; have BK2 := aa.mk hbox; have n1_ := aa.mk (Ql BK1.out hbe); have n0_ := aa.mk (Qc HB.out hbe); clear HB BK1; have HB := n0_; have BK1 := n1_; clear n0_ n1_; clear hg hbox hbe)
      | ((with_reducible refine Qf (f := 114) rfl ?_); (try (refine ZE (by rfl) ?_)); refine QE (some 16) rfl rfl Try.func114 (by kernel_rfl) rfl #[.slice A0 l0.length c0, .func (.func 115) #[] #[.pointer (some ⟨g, 0, none⟩), .pointer (some ⟨g2, 0, none⟩)]] rfl (by (try simp only [List.map_toArray, List.map_cons, List.map_nil]); first | done | rfl) ?_; (with_reducible refine (any_calls A0 c0 l0 a2 a3 g g2 _ (Kd.Qh HR0.out HB.out) HC0.out HL.out (by have := BK1.out; simp [World.cell?, this]) (by have := BK2.out; simp [World.cell?, this])).mono ?_); rintro e w9 ⟨rfl, hb⟩; refine ⟨_, rfl, ?_⟩; replace HB := aa.mk (Qc HB.out hb); (try clear hb)))
    go_ret; exact ⟨rfl, HB.out⟩
  · simp only [c, decide_false, Bool.false_and] at hr; have c2 : ((l0.length : Int) == a1) = false := beq_eq_false_iff_ne.mpr c; clear c; subst hr; go_enter Try.func77, Try.ntmps77; go_wp2_with (first
      | ((with_reducible refine QM (N := 6) rfl ?_); refine QU ?hg (N := 6) ?hd (cs := #[.int .i64 a2]) (t := 3) ?hr ?_; (case hd => rfl); (case hg => rfl); (case hr => first | (go_simp; done) | (go_simp; rfl)); intro g hg w1 hbox hbe; replace HB := aa.mk (Qc HB.out hbe); clear hg hbox hbe)
      | ((with_reducible refine QM (N := 7) rfl ?_); refine QU ?hg (N := 7) ?hd (cs := #[.int .i64 a3]) (t := 3) ?hr ?_; (case hd => rfl); (case hg => rfl); (case hr => first | (go_simp; done) | (go_simp; rfl)); intro g2 hg w2 hbox hbe; replace HB := aa.mk (Qc HB.out hbe); clear hg hbox hbe))
    go_ret; exact ⟨rfl, HB.out⟩
theorem Two.build {P : Program} {ops : Array Oper} {rest : List Oper} {o : Oper} {a : Act} {W : World} {Q : Exit → Act → World → Prop} (hgd : o.guard = none) {N : Tmp} (_hd : o.dst = some N) {v0 v1 : Value}
    (hrun : (execOp a.eval o).run P W = .ok (.value (.slice (some ⟨W.heap.size, 0, none⟩) 2 2)) (W.alloc (.cells #[v0, v1] 22)))
    (h : ∀ g, g = W.heap.size → ∀ w1, w1.heap[g]? = some (.cells #[v0, v1] 22 (0, 0)) → Below W.heap.size W w1 → wpList P ops Q rest (a.put o.dst (.slice (some ⟨g, 0, none⟩) 2 2)) w1) : wpList P ops Q (o :: rest) a W :=
  Kd.Vv hgd hrun (h _ rfl _ (Yu W _) (QR (Below.refl _ _) _))
def Q5.f (l0 l1 : List (List Int)) : Option (List (List Int)) := if l0.length + l1.length ≤ 1000 then some (l0 ++ l1) else none
set_option maxHeartbeats 1000000 in
set_option maxRecDepth 100000 in
theorem grow_calls (n : Nat) (hn : n ≤ 1000) (w : World) :
    Calls Try.prog 113 #[.slice none 0 0, .int .i64 n] w fun e w' => ∃ v, e = .returned v ∧ Kd.N (Kd.slice 3 (Kd.int .i64)) 28 w' w.heap.size (fun k => w.heap.size ≤ k) v [] ∧ Below w.heap.size w w' := by
  have p9 := Try.underlying22; have hu3 := Try.underlying3; by_cases h0 : n = 0
  · subst h0; go_enter Try.func113, Try.ntmps113; go_wp2_with fail
    go_ret; exact ⟨_, rfl, Kd.YU _ _ _ _ _, Below.refl _ _⟩
  · have hp : 0 < n := by omega
    obtain ⟨i28, uh, tU, wA, uw⟩ : ∃ i, Try.prog.info? 28 = some i ∧ i.zero = some (.slice none 0 0) ∧ i.size = 1 ∧ i.bytes = 24 := by
      have h := info28; cases hq : Try.prog.info? 28 with
      | none => rw [hq] at h; cases h
      | some i =>
        rw [hq] at h; simp only [Option.map_some, Option.some.injEq, Prod.mk.injEq] at h; exact ⟨i, rfl, h.1, h.2.1, h.2.2⟩
    have c1 : decide ((n : Int) < 0) = false := decide_eq_false (by omega); have c2 : decide (0 < (n : Int)) = true := decide_eq_true (by omega); have happ : ∀ W : World, (Builtin.append_ #[22, 3] 22 #[.slice none 0 0, .int .i64 (n : Int)]).run Try.prog W = .ok (.slice (some ⟨W.heap.size, 0, none⟩) n (grownCap W n 0 28)) (W.drew.alloc (.cells (Builtin.zeroCells (Value.slice none 0 0).cells n ++ Builtin.zeroCells (Value.slice none 0 0).cells (grownCap W n 0 28 - n)) 28)) :=
      fun W => Lib.run_append_nil_zeros W 22 3 22 28 i28 _ .i64 .i64 p9 hu3 uh tU n hp (by omega) (by omega) (by rw [uw]; omega)
    go_enter Try.func113, Try.ntmps113; go_wp2_with (at_builtin; refine Lib.wpList_append_run _ rfl _ _ _ _ rfl _ _ rfl rfl _ _ (happ _) ?_)
    go_ret; refine ⟨_, rfl, Kd.R_N ⟨fun k hk => ?_, [], ⟨rfl, .inr ⟨w.heap.size, grownCap w n 0 28, _, rfl, Nat.le_refl _, heap_alloc_new w _, Nat.zero_le _, grownCap_le_maxLen w n 0 28 (by simp [maxLen]; omega), ?_, rfl⟩⟩, Reps.none _ _⟩, (((Below.refl _ _).alloc (Nat.le_refl _) _).drew)⟩
    · simp [Value.ownBlock] at hk; omega
    · have := grownCap_ge w n 0 28; simp [Builtin.zeroCells, Kd.slice]; omega
set_option maxHeartbeats 2000000 in
set_option maxRecDepth 100000 in
theorem Q5.calls (P0_ : Nat → Prop) (A0 : Option Addr) (c0 : Nat) (l0 : List (List Int)) (P1_ : Nat → Prop) (A1 : Option Addr) (c1 : Nat) (l1 : List (List Int)) (r : List (List Int)) (w : World) (g : Nat) (hg : w.heap[g]? = some (.cells #[.slice A0 l0.length c0, .slice A1 l1.length c1] 22 (0, 0)))
    (hs0 : Kd.V (Kd.slice 3 (Kd.int .i64)) 28 w w.heap.size (fun k_ => P0_ k_) (.slice A0 l0.length c0) l0) (hs1 : Kd.V (Kd.slice 3 (Kd.int .i64)) 28 w w.heap.size (fun k_ => P1_ k_) (.slice A1 l1.length c1) l1) (h : Q5.f l0 l1 = some r) :
    Calls Try.prog 76 #[.slice (some ⟨g, 0, none⟩) 2 2] w fun e w' => ∃ v0_ : Value, e = .returned (v0_) ∧ Kd.N (Kd.slice 3 (Kd.int .i64)) 28 w' w.heap.size (fun k_ => ((P0_ k_ ∨ P1_ k_) ∨ w.heap.size ≤ k_)) v0_ r ∧ Below w.heap.size w w' := by
  unfold Q5.f at h; by_cases hl : l0.length + l1.length ≤ 1000
  case neg => rw [if_neg hl] at h; cases h
  rw [if_pos hl] at h; obtain rfl := Option.some.inj h; clear h; have p9 := Try.underlying22; have hu3 := Try.underlying3; have wz := Try.underlying91; have HB := aa.mk (Below.refl w.heap.size w); have HV0 := aa.mk hs0; have HV1 := aa.mk hs1; have HG := aa.mk hg; have HL := aa.mk hl; clear hs0 hs1 hg hl; go_enter Try.func76, Try.ntmps76; go_wp2_with fail
  go_loopw [3, 11] (fun s i w' => ∃ n : Nat, n ≤ 2 ∧ i = .int .i64 n ∧ (s = .int .i64 (if n = 0 then 0 else if n = 1 then (l0.length : Int) else ((l0.length + l1.length : Nat) : Int))) ∧ aa (Below w.heap.size w w')) (fun _ i _ => 2 - (intOf i).toNat)
  case atStart => exact ⟨0, by omega, rfl, rfl, by first | exact HB | exact ⟨HB.out.drew⟩⟩
  case round =>
    clear HB; obtain ⟨n, hn, rfl, rfl, HB⟩ := hrel; have hg := Ql HG.out HB.out; have hx0 : wr.cell? ⟨g, 0, none⟩ = some (.slice A0 l0.length c0) := (Qb hg 0).trans rfl; have hx1 : wr.cell? ⟨g, 1, none⟩ = some (.slice A1 l1.length c1) := (Qb hg 1).trans rfl; have hl := HL.out; clear hg; obtain rfl | rfl | rfl : n = 0 ∨ n = 1 ∨ n = 2 := by omega
    · have k1 : decide ((l0.length : Int) < 0) = false := decide_eq_false (by omega); go_wp2_with fail
      go_roundw
      case rel => exact ⟨1, by omega, by go_num, by simp, HB⟩
      case measure => simp [intOf]
    · have k2 : decide ((l0.length : Int) + (l1.length : Int) < 0) = false := decide_eq_false (by omega); go_wp2_with fail
      go_roundw
      case rel => exact ⟨2, by omega, by go_num, by simp, HB⟩
      case measure => simp [intOf]
    · have HW := aa.mk (grow_calls (l0.length + l1.length) hl); clear hx0 hx1; go_wp2_with (first
        | ((with_reducible refine Qf (f := 113) rfl ?_); refine QE (some 24) rfl rfl Try.func113 (by kernel_rfl) rfl #[.slice none 0 0, .int .i64 ((l0.length + l1.length : Nat) : Int)] rfl (by (try simp only [List.map_toArray, List.map_cons, List.map_nil]); first | done | rfl) ?_; (with_reducible refine (HW.out _).mono ?_); rintro e w9 ⟨v9, rfl, ho0, hb⟩; refine ⟨_, rfl, ?_⟩; have n0_ := aa.mk (Kd.Ya ho0 (Qe HB.out)); have n1_ := aa.mk (Kd.ZT (ok' := fun k_ => ((P0_ k_ ∨ P1_ k_) ∨ w.heap.size ≤ k_)) n0_.out (fun k_ hk_ => .inr (Nat.le_trans (Qe HB.out) hk_))); have n2_ := aa.mk (Qc HB.out hb); clear HB n0_; have HO := n1_; have HB := n2_; clear n1_ n2_; clear hb ho0; obtain ⟨Ao, co, eo⟩ := Kd.ZX HO.out; subst eo))
      have HO2 := aa.mk (show Kd.N (Kd.slice 3 (Kd.int .i64)) 28 _ w.heap.size (fun k_ => ((P0_ k_ ∨ P1_ k_) ∨ w.heap.size ≤ k_)) (.slice Ao ([] : List (List Int)).length co) (if 0 = 0 then [] else if 0 = 1 then l0 else l0 ++ l1) from HO.out); clear HO HW; go_loopw [6, 27] (fun v i w' => ∃ n : Nat, n ≤ 2 ∧ i = .int .i64 n ∧ aa (Kd.N (Kd.slice 3 (Kd.int .i64)) 28 w' w.heap.size (fun k_ => ((P0_ k_ ∨ P1_ k_) ∨ w.heap.size ≤ k_)) v (if n = 0 then [] else if n = 1 then l0 else l0 ++ l1)) ∧ aa (Below w.heap.size w w')) (fun _ i _ => 2 - (intOf i).toNat)
      case atStart => exact ⟨0, by omega, rfl, HO2, by first | exact HB | exact ⟨HB.out.drew⟩⟩
      case round =>
        clear HB HO2; obtain ⟨n, hn, rfl, HO, HB⟩ := hrel; have hg := Ql HG.out HB.out; have hx0 : wr.cell? ⟨g, 0, none⟩ = some (.slice A0 l0.length c0) := (Qb hg 0).trans rfl; have hx1 : wr.cell? ⟨g, 1, none⟩ = some (.slice A1 l1.length c1) := (Qb hg 1).trans rfl; have hl := HL.out; clear hg; obtain rfl | rfl | rfl : n = 0 ∨ n = 1 ∨ n = 2 := by omega
        · replace HO := aa.mk (show Kd.N (Kd.slice 3 (Kd.int .i64)) 28 wr w.heap.size (fun k_ => ((P0_ k_ ∨ P1_ k_) ∨ w.heap.size ≤ k_)) u6 [] from HO.out); go_wp2_with (first | ((with_reducible refine ZF (b := .append) (xs := #[.tmp 31, .tmp 32]) rfl ?_); at_builtin; refine Kd.Va (Kd.slice 3 (Kd.int .i64)) (w0 := w) w.heap.size rfl (.tmp 31) (.tmp 32) 22 28 (.slice none 0 0) 24 rfl Try.underlying22 info28 rfl (by decide) (by omega) u6 [] l0 _ _ _ (fun k_ => ((P0_ k_ ∨ P1_ k_) ∨ w.heap.size ≤ k_)) (fun k_ => P0_ k_ ∧ some k_ ≠ (u6 : Value).ownBlock) rfl rfl HO.out (Kd.V_F (Kd.YN HV0.out (Kd.ZZ HO.out) HB.out)) (fun k_ hk_ => ⟨.inl (.inl hk_.1), hk_.2⟩) (fun k_ hk_ => .inr (Nat.le_trans (Qe HB.out) hk_)) HB.out (Qe HB.out) (by have := HL.out; simp; omega) ?_; intro v15 w15 ho hb hg hat; replace HB := aa.mk hb; replace HO := aa.mk ho; clear ho hb hg hat))
          go_roundw
          case rel => exact ⟨1, by omega, by go_num, HO, HB⟩
          case measure => simp [intOf]
        · replace HO := aa.mk (show Kd.N (Kd.slice 3 (Kd.int .i64)) 28 wr w.heap.size (fun k_ => ((P0_ k_ ∨ P1_ k_) ∨ w.heap.size ≤ k_)) u6 l0 from HO.out); go_wp2_with (first | ((with_reducible refine ZF (b := .append) (xs := #[.tmp 31, .tmp 32]) rfl ?_); at_builtin; refine Kd.Va (Kd.slice 3 (Kd.int .i64)) (w0 := w) w.heap.size rfl (.tmp 31) (.tmp 32) 22 28 (.slice none 0 0) 24 rfl Try.underlying22 info28 rfl (by decide) (by omega) u6 l0 l1 _ _ _ (fun k_ => ((P0_ k_ ∨ P1_ k_) ∨ w.heap.size ≤ k_)) (fun k_ => P1_ k_ ∧ some k_ ≠ (u6 : Value).ownBlock) rfl rfl HO.out (Kd.V_F (Kd.YN HV1.out (Kd.ZZ HO.out) HB.out)) (fun k_ hk_ => ⟨.inl (.inr hk_.1), hk_.2⟩) (fun k_ hk_ => .inr (Nat.le_trans (Qe HB.out) hk_)) HB.out (Qe HB.out) (by have := HL.out; simp; omega) ?_; intro v15 w15 ho hb hg hat; replace HB := aa.mk hb; replace HO := aa.mk ho; clear ho hb hg hat))
          go_roundw
          case rel => exact ⟨2, by omega, by go_num, HO, HB⟩
          case measure => simp [intOf]
        · have n1_ := aa.mk (show Kd.N (Kd.slice 3 (Kd.int .i64)) 28 wr w.heap.size (fun k_ => ((P0_ k_ ∨ P1_ k_) ∨ w.heap.size ≤ k_)) u6 (l0 ++ l1) from HO.out); go_wp2_with fail
          go_ret; exact ⟨_, rfl, n1_.out, HB.out⟩
def arr (m : List Int) : Array Value := ⟨m.map (Value.int .i64)⟩
theorem ZB (m : List Int) : (arr m).size = m.length := by simp [arr]
theorem VT (m : List Int) (i : Nat) (h : i < m.length) : (arr m)[i]? = some (.int .i64 (m.getD i 0)) := by simp [arr, h]
theorem U5 (m : List Int) (i : Nat) (v : Int) : (arr m).setIfInBounds i (.int .i64 v) = arr (m.set i v) := by
  apply Array.ext'; simp [arr, List.map_set]
theorem YD (m : List Int) : (arr m).all (·.oneCell') = true := by
  simp [arr, Value.oneCell']
theorem Yj {w : World} {g : Nat} {m : List Int} {t : TypeId} (h : w.heap[g]? = some (.cells (arr m) t (0, 0))) (i : Nat) (hi : i < m.length) : w.cell? ⟨g, i, none⟩ = some (.int .i64 (m.getD i 0)) := by
  rw [cell_of_row w g i (arr m) t (0, 0) h]; exact VT m i hi
theorem Vi {w : World} {g : Nat} {m : List Int} {t : TypeId} (h : w.heap[g]? = some (.cells (arr m) t (0, 0))) (i : Nat) : w.frozen? ⟨g, i, none⟩ = false := frozen_of_row w g i _ _ h
theorem Vx {w : World} {g : Nat} {m : List Int} {t : TypeId} (h : w.heap[g]? = some (.cells (arr m) t (0, 0))) (i : Nat) (v : Int) : (w.setCell ⟨g, i, none⟩ (.int .i64 v)).heap[g]? = some (.cells (arr (m.set i v)) t (0, 0)) := by
  rw [heap_setCell_same _ g i (arr m) t _ h, U5]
def row (m : List Int) (o : Nat) : List Int := (m.drop o).take 6
theorem size76 : (Try.prog.info? 76).map (·.size) = some 6 := by kernel_rfl
set_option maxHeartbeats 1000000 in
set_option maxRecDepth 100000 in
theorem nz_calls (m : List Int) (i g : Nat) (w : World) (hm : m.length = 6) (hi : i < 6) (hbx : w.cell? ⟨g, 0, none⟩ = some (.int .i64 (i : Int))) :
    Calls Try.prog 127 #[.agg (arr m), .pointer (some ⟨g, 0, none⟩)] w fun e w' => e = .returned (.bool (m.getD i 0 != 0)) ∧ Below w.heap.size w w' := by
  have kt := Try.underlying76; have HB := aa.mk (Below.refl w.heap.size w); have HM := aa.mk hm; obtain ⟨v, hv⟩ : ∃ v, v = m.getD i 0 := ⟨_, rfl⟩; rw [← hv]; have HV := aa.mk hv; clear hm hv; go_enter Try.func127, Try.ntmps127; go_wp2_with (first
      | ((with_reducible refine QM (N := 2) rfl ?_); refine QU ?hg (N := 2) ?hd (cs := arr m) (t := 76) ?hr ?_; (case hd => rfl); (case hg => rfl); (case hr => first | (go_simp; done) | (go_simp; rfl)); intro g2 hg2 w1 hbox hbe; have hc1 := Yj hbox i (by rw [HM.out]; exact hi); rw [← HV.out] at hc1; have hb1 := (hbe.cell (World.block_lt_of_cell? w _ hbx)).trans hbx; replace HB := aa.mk (Qc HB.out hbe); clear hbox hbe hg2))
  go_ret; exact ⟨rfl, HB.out⟩
def fst (i : Nat) : List (List Int) → Int
  | [] => -1
  | r :: l => if r.getD i 0 ≠ 0 then 0 else if fst i l < 0 then -1 else fst i l + 1
theorem rowD (rows : List (List Int)) (q : Nat) (hq : q < rows.length) : rows.getD q [] = rows[q] := by
  rw [List.getD_eq_getElem?_getD, List.getElem?_eq_getElem hq, Option.getD_some]
theorem zero_of {r s : List Int} {i : Nat} (e : r = s) (h : false = (s.getD i 0 != 0)) : r.getD i 0 = 0 := by
  subst e; have := h.symm; simpa [-List.getD_eq_getElem?_getD] using this
def Rd (w : World) (A : Option Addr) (rows : List (List Int)) : Prop := rows ≠ [] → ∃ b o, A = some ⟨b, o, none⟩ ∧ ∀ k r, rows[k]? = some r → r.length = 6 ∧ w.rangeAt b (o + k * 6) (r.map (Value.int .i64))
theorem YW {w w' : World} {b o : Nat} {cs : List Value} (h : w.rangeAt b o cs) (hb : Below w.heap.size w w') : w'.rangeAt b o cs := fun j v hj => (hb.cell (World.block_lt_of_cell? w _ (h j v hj))).trans (h j v hj)
theorem fst_drop (i : Nat) (rows : List (List Int)) (n : Nat) (hn : n < rows.length) (h : ∀ k, k < n → (rows.getD k []).getD i 0 = 0) : fst i rows = if rows[n].getD i 0 ≠ 0 then (n : Int) else if fst i (rows.drop (n + 1)) < 0 then -1 else fst i (rows.drop (n + 1)) + n + 1 := by
  induction n generalizing rows with
  | zero =>
    cases rows with
    | nil => simp at hn
    | cons r l => rw [fst]; simp
  | succ n ih =>
    cases rows with
    | nil => simp at hn
    | cons r l =>
      have h0 := h 0 (by omega); simp only [List.getD_cons_zero] at h0; have hn' : n < l.length := by simpa using hn
      have e := ih l hn' (fun k hk => by have := h (k + 1) (by omega); simpa using this); rw [fst, if_neg (fun hh => hh h0), e]; simp only [List.getElem_cons_succ, List.drop_succ_cons]; split
      · rw [if_neg (by omega)]; omega
      · split
        · rfl
        · rw [if_neg (by omega)]; omega
theorem fst_none (i : Nat) : ∀ (rows : List (List Int)), (∀ r ∈ rows, r.getD i 0 = 0) → fst i rows = -1
  | [], _ => rfl
  | r :: l, h => by
    rw [fst, if_neg (fun hh => hh (h r (List.mem_cons_self ..))), fst_none i l (fun x hx => h x (List.mem_cons_of_mem _ hx))]; rfl
set_option maxHeartbeats 2000000 in
set_option maxRecDepth 100000 in
theorem V9 (A : Option Addr) (c : Nat) (rows : List (List Int)) (i g : Nat) (w : World) (hA : Rd w A rows) (hl : rows.length ≤ 1000) (hc : rows.length ≤ c) (hi : i < 6) (hbx : w.cell? ⟨g, 0, none⟩ = some (.int .i64 (i : Int))) :
    Calls Try.prog 126 #[.slice A rows.length c, .func (.func 127) #[] #[.pointer (some ⟨g, 0, none⟩)]] w fun e w' => e = .returned (.int .i64 (fst i rows)) ∧ Below w.heap.size w w' := by
  have kt := Try.underlying76; have mG := Try.underlying65; have ku := size76; have HR := aa.mk hA; have HBX := aa.mk hbx; have HL := aa.mk hl; have HC := aa.mk hc; clear hA hbx hc; have HB := aa.mk (Below.refl w.heap.size w); go_enter Try.func126, Try.ntmps126; go_wp2_with fail
  go_loopw [8] (fun i_ w' => ∃ n : Nat, n ≤ rows.length ∧ i_ = .int .i64 n ∧ aa (∀ q, q < n → (rows.getD q []).getD i 0 = 0) ∧ aa (Below w.heap.size w w')) (fun i_ _ => rows.length - (intOf i_).toNat)
  case atStart => exact ⟨0, by omega, rfl, ⟨fun q hq => absurd hq (by omega)⟩, by first | exact HB | exact ⟨HB.out.drew⟩⟩
  case round =>
    clear HB; obtain ⟨n, hn, rfl, HA, HB⟩ := hrel; by_cases hlt : n < rows.length
    · have p1 : 0 ≤ (n : Int) := by omega
      have q1 : (n : Int) < (rows.length : Int) := by omega
      obtain ⟨b, o, rfl, hr⟩ := HR.out (by intro e; rw [e] at hlt; simp at hlt); obtain ⟨hr6, hrange⟩ := hr n rows[n] (List.getElem?_eq_getElem hlt); have hbx := (HB.out.cell (World.block_lt_of_cell? w _ HBX.out)).trans HBX.out; have HRG := aa.mk (YW hrange HB.out); have HY := aa.mk (nz_calls rows[n] i g _ hr6 hi hbx); have HI := aa.mk (show (Try.prog.info? 76).map (·.size) = some (rows[n].map (Value.int .i64)).length by rw [List.length_map, hr6]; exact ku); clear hrange hr; obtain ⟨bb, hbb⟩ : ∃ bb, bb = (rows[n].getD i 0 != 0) := ⟨_, rfl⟩; rw [← hbb] at HY; have HBB := aa.mk hbb; have HF := aa.mk (fst_drop i rows n hlt HA.out); clear hbb hr6 hbx; cases bb with
      | true =>
        go_wp2_with (first
          | (refine wpList_load_mid rfl 76 _ rfl b (o + n * 6) rfl _ _ HRG.out Try.underlying76 rfl HI.out ?_)
          | ((with_reducible refine QM (N := 16) rfl ?_); refine Vu (some 16) rfl rfl 11 #[.pointer (some ⟨g, 0, none⟩)] rfl Try.func127 (by kernel_rfl) rfl rfl #[.agg (arr rows[n]), .pointer (some ⟨g, 0, none⟩)] (by (try simp only [List.map_toArray, List.map_cons, List.map_nil]); first | done | rfl) ?_; (with_reducible refine HY.out.mono ?_); rintro e w9 ⟨rfl, hb⟩; refine ⟨_, rfl, ?_⟩; replace HB := aa.mk (Qc (by repeat (first | (with_reducible first | exact HB.out | apply QR | apply QA | apply QN) | exact HB.out)) hb); (try clear hb)))
        go_ret; refine ⟨?_, HB.out⟩; have h1 := HBB.out; rw [HF.out, if_pos (by intro e; rw [e] at h1; simp at h1)]; rfl
      | false =>
        go_wp2_with (first
          | (refine wpList_load_mid rfl 76 _ rfl b (o + n * 6) rfl _ _ HRG.out Try.underlying76 rfl HI.out ?_)
          | ((with_reducible refine QM (N := 16) rfl ?_); refine Vu (some 16) rfl rfl 11 #[.pointer (some ⟨g, 0, none⟩)] rfl Try.func127 (by kernel_rfl) rfl rfl #[.agg (arr rows[n]), .pointer (some ⟨g, 0, none⟩)] (by (try simp only [List.map_toArray, List.map_cons, List.map_nil]); first | done | rfl) ?_; (with_reducible refine HY.out.mono ?_); rintro e w9 ⟨rfl, hb⟩; refine ⟨_, rfl, ?_⟩; replace HB := aa.mk (Qc (by repeat (first | (with_reducible first | exact HB.out | apply QR | apply QA | apply QN) | exact HB.out)) hb); (try clear hb)))
        go_roundw
        case rel =>
          refine ⟨n + 1, by omega, by go_num, ⟨fun q hq => ?_⟩, HB⟩; by_cases hqn : q < n
          · exact HA.out q hqn
          · obtain rfl : q = n := by omega
            exact zero_of (rowD rows q hlt) HBB.out
        case measure => simp [intOf]; omega
    · go_wp2_with fail
      go_ret; refine ⟨?_, HB.out⟩; rw [fst_none i rows (fun r hr => by
        obtain ⟨q, hq, e⟩ := List.mem_iff_getElem.1 hr; have h3 := HA.out q (by omega); have h4 : rows.getD q [] = r := (rowD rows q hq).trans e; exact h4 ▸ h3)]
      rfl
def Six (M : List (List Int)) : Prop := ∀ r ∈ M, r.length = 6
theorem YY : ∀ {M : List (List Int)}, Six M → M.flatten.length = M.length * 6
  | [], _ => rfl
  | r :: M, h => by
    rw [List.flatten_cons, List.length_append, h r (List.mem_cons_self ..), YY (fun x hx => h x (List.mem_cons_of_mem _ hx)), List.length_cons]; omega
theorem Ud : ∀ {M : List (List Int)}, Six M → ∀ (k i : Nat) (hk : k < M.length), i < 6 → M.flatten[k * 6 + i]? = M[k][i]?
  | [], _, k, i, hk, _ => by simp at hk
  | r :: M, h, 0, i, hk, hi => by
    have h6 := h r (List.mem_cons_self ..); rw [List.flatten_cons, List.getElem?_append_left (by omega)]; simp
  | r :: M, h, k + 1, i, hk, hi => by
    have h6 := h r (List.mem_cons_self ..); rw [List.flatten_cons, List.getElem?_append_right (by omega), h6, show (k + 1) * 6 + i - 6 = k * 6 + i by omega, Ud (fun x hx => h x (List.mem_cons_of_mem _ hx)) k i (by simpa using hk) hi]; simp
theorem flat_set : ∀ {M : List (List Int)}, Six M → ∀ (k i : Nat) (v : Int) (hk : k < M.length), i < 6 → M.flatten.set (k * 6 + i) v = (M.set k (M[k].set i v)).flatten
  | [], _, k, i, v, hk, _ => by simp at hk
  | r :: M, h, 0, i, v, hk, hi => by
    have h6 := h r (List.mem_cons_self ..); rw [List.flatten_cons, List.set_append_left _ _ (by omega)]; simp
  | r :: M, h, k + 1, i, v, hk, hi => by
    have h6 := h r (List.mem_cons_self ..); rw [List.flatten_cons, List.set_append_right _ _ (by omega), h6, show (k + 1) * 6 + i - 6 = k * 6 + i by omega, flat_set (fun x hx => h x (List.mem_cons_of_mem _ hx)) k i v (by simpa using hk) hi]; simp
theorem Six.set {M : List (List Int)} (h : Six M) (k : Nat) {r : List Int} (hr : r.length = 6) : Six (M.set k r) := by
  intro x hx; rcases List.mem_or_eq_of_mem_set hx with h1 | rfl
  · exact h x h1
  · exact hr
theorem Six.at {M : List (List Int)} (h : Six M) {k : Nat} (hk : k < M.length) : M[k].length = 6 := h _ (List.getElem_mem hk)
def Bl (w : World) (g : Nat) (M : List (List Int)) (c : Nat) : Prop := Six M ∧ ∃ rest : List Value, w.heap[g]? = some (.cells ⟨M.flatten.map (Value.int .i64) ++ rest⟩ 76 (0, 0)) ∧ M.length * 6 + rest.length = c * 6
section
variable {w w1 : World} {g c : Nat} {M : List (List Int)}
theorem Bl.move (h : Bl w g M c) (e : w1.heap[g]? = w.heap[g]?) : Bl w1 g M c := by
  obtain ⟨h6, rest, hh, hl⟩ := h; exact ⟨h6, rest, e.trans hh, hl⟩
theorem Bl.lt (h : Bl w g M c) : g < w.heap.size := by
  obtain ⟨h6, rest, hh, hl⟩ := h; exact Vh hh
theorem Bl.below (h : Bl w g M c) (hb : Below w.heap.size w w1) : Bl w1 g M c := h.move (hb.block g h.lt)
theorem Bl.alloc (h : Bl w g M c) (o : Obj) : Bl (w.alloc o) g M c := h.move (Below.heap_alloc w o g h.lt)
theorem Bl.drew (h : Bl w g M c) : Bl w.drew g M c := h
theorem Bl.cell (h : Bl w g M c) {k i : Nat} (hk : k < M.length) (hi : i < 6) : w.cell? ⟨g, k * 6 + i, none⟩ = some (.int .i64 (M[k].getD i 0)) := by
  obtain ⟨h6, rest, hh, hl⟩ := h; rw [Qb hh]; have hf := YY h6; have h66 := h6.at hk; have hg := Ud h6 k i hk hi; rw [List.getElem?_eq_getElem (show i < M[k].length by omega)] at hg; simp only [List.getElem?_toArray]; rw [List.getElem?_append_left (by rw [List.length_map, hf]; omega), List.getElem?_map, hg, List.getD_eq_getElem?_getD, List.getElem?_eq_getElem (show i < M[k].length by omega)]; rfl
theorem Bl.frozen (h : Bl w g M c) (i : Nat) : w.frozen? ⟨g, i, none⟩ = false := by
  obtain ⟨h6, rest, hh, hl⟩ := h; exact Qa hh i
theorem Bl.store (h : Bl w g M c) {k i : Nat} (hk : k < M.length) (hi : i < 6) (v : Int) : Bl (w.setCell ⟨g, k * 6 + i, none⟩ (.int .i64 v)) g (M.set k (M[k].set i v)) c := by
  obtain ⟨h6, rest, hh, hl⟩ := h; refine ⟨h6.set k (by rw [List.length_set]; exact h6.at hk), rest, ?_, by simpa using hl⟩; have hf := YY h6; rw [heap_setCell_same _ g _ _ 76 _ hh, ← flat_set h6 k i v hk hi]; congr 2; apply Array.ext'; simp only [Array.toList_setIfInBounds]; rw [List.set_append_left _ _ (by rw [List.length_map, hf]; omega), List.map_set]
theorem Bl.range (h : Bl w g M c) {k : Nat} (hk : k < M.length) : w.rangeAt g (k * 6) (M[k].map (Value.int .i64)) := by
  intro j v hj; have h6 := h.1.at hk; have hj6 : j < 6 := by
    have := (List.getElem?_eq_some_iff.1 hj).1; simp at this; omega
  rw [h.cell hk hj6, ← hj, List.getElem?_map, List.getElem?_eq_getElem (show j < M[k].length by omega), List.getD_eq_getElem?_getD, List.getElem?_eq_getElem (show j < M[k].length by omega)]; rfl
theorem Bl.there (h : Bl w g M c) {k : Nat} (hk : k < M.length) : w.there g (k * 6) 6 := fun j hj => ⟨by rw [h.cell hk hj]; rfl, h.frozen _⟩
theorem Bl.puts : ∀ (r : List Int) (i : Nat) {w : World} {M : List (List Int)} (h : Bl w g M c) {k : Nat} (hk : k < M.length), i + r.length ≤ 6 → ∃ s : List Int, s.length = 6 ∧ s.take i = M[k].take i ∧ (s.drop i).take r.length = r ∧ s.drop (i + r.length) = M[k].drop (i + r.length) ∧ Bl (w.setCells g (k * 6 + i) (r.map (Value.int .i64))) g (M.set k s) c
  | [], i, w, M, h, k, hk, _ => ⟨M[k], h.1.at hk, rfl, by simp, rfl, by
      have : M.set k M[k] = M := List.set_getElem_self hk; rw [this]; exact h⟩
  | v :: r, i, w, M, h, k, hk, hl => by
    have hi : i < 6 := by simp at hl; omega
    have h6 := h.1.at hk; have hs := h.store hk hi v; have hk' : k < (M.set k (M[k].set i v)).length := by simpa using hk
    obtain ⟨s, s1, s2, s3, s4, s5⟩ := Bl.puts r (i + 1) hs hk' (by simp at hl; omega); have e1 : (M.set k (M[k].set i v))[k] = M[k].set i v := by simp
    rw [e1] at s2 s4; refine ⟨s, s1, ?_, ?_, ?_, ?_⟩
    · have := congrArg (List.take i) s2; rw [List.take_take, List.take_take, Nat.min_eq_left (by omega)] at this; rw [this]; rw [List.take_set_of_le (by omega)]
    · have hv : s[i]? = some v := by
        have := congrArg (·[i]?) s2; simp only [List.getElem?_take] at this; rw [if_pos (by omega), if_pos (by omega)] at this; rw [this]; simp [show i < M[k].length by omega]
      have hd : s.drop i = v :: s.drop (i + 1) := by
        rw [List.drop_eq_getElem_cons (by omega)]; congr 1; rw [List.getElem?_eq_getElem (by omega)] at hv; exact Option.some.inj hv
      rw [hd, List.length_cons, List.take_succ_cons, s3]
    · rw [List.length_cons, show i + (r.length + 1) = i + 1 + r.length by omega, s4, List.drop_set_of_lt (by omega)]
    · rw [List.map_cons, World.setCells]; rw [List.set_set] at s5; exact s5
theorem Bl.stores (h : Bl w g M c) {k : Nat} (hk : k < M.length) {r : List Int} (hr : r.length = 6) : Bl (w.setCells g (k * 6) (r.map (Value.int .i64))) g (M.set k r) c := by
  obtain ⟨s, s1, s2, s3, s4, s5⟩ := Bl.puts r 0 h hk (by omega); simp only [List.drop_zero, Nat.add_zero] at s3 s5; have : s = r := by rw [← s3, List.take_of_length_le (by omega)]
  rw [this] at s5; exact s5
end
def L6 (x : S76) : List Int := [x.f0, x.f1, x.f2, x.f3, x.f4, x.f5]
def mk6 (m : List Int) : S76 := ⟨m.getD 0 0, m.getD 1 0, m.getD 2 0, m.getD 3 0, m.getD 4 0, m.getD 5 0⟩
theorem L6_mk6 {m : List Int} (h : m.length = 6) : L6 (mk6 m) = m := by
  match m, h with
  | [a, b, c, d, e, f], _ => rfl
theorem six_L6 (xs : List S76) : Six (xs.map L6) := by
  intro r hr; obtain ⟨x, _, rfl⟩ := List.mem_map.1 hr; rfl
theorem map_L6 : ∀ {M : List (List Int)}, Six M → (M.map mk6).map L6 = M
  | [], _ => rfl
  | r :: M, h => by rw [List.map_cons, List.map_cons, L6_mk6 (h r (List.mem_cons_self ..)), map_L6 (fun x hx => h x (List.mem_cons_of_mem _ hx))]
theorem Rd.of_C {w : World} {A : Option Addr} {n : Nat} {xs : List S76} (h : Kd.C k76 w A n xs) (hA : ∀ ad, A = some ad → ad.spot = none) : Rd w A (xs.map L6) := by
  intro hne; have hn : 0 < n := by
    have := h.1; cases xs with
    | nil => simp at hne
    | cons x r => simp at this; omega
  obtain ⟨ad, e, hc⟩ := h.2.2 hn; obtain ⟨b, o, sp⟩ := ad; have := hA _ e; cases this; refine ⟨b, o, e, fun k r hk => ?_⟩; rw [List.getElem?_map] at hk; obtain ⟨x, hx, rfl⟩ := Option.map_eq_some_iff.1 hk; obtain ⟨cs, _, hK, hcell⟩ := hc k x hx; obtain rfl := V8 hK; refine ⟨rfl, fun j v hj => ?_⟩; have h1 := hcell j v hj; rw [Addr.add_mid] at h1; rw [Nat.add_assoc]; exact h1
theorem reps76 {W : World} {base : Nat} {ok : Nat → Prop} : ∀ {xs : List S76} {inner : List Value}, Reps (k76.M W base ok) 6 xs inner → inner = (xs.map L6).flatten.map (Value.int .i64)
  | [], inner, h => List.eq_nil_of_length_eq_zero (by simpa using h.1)
  | x :: r, inner, h => by
    have hl := h.1; have h2 := k76_openM (h.2 0 x rfl); simp only [Nat.zero_mul, List.drop_zero] at h2; have h3 := reps76 (xs := r) (inner := inner.drop 6) ⟨by simp at hl ⊢; omega, fun j p hj => by
      have := h.2 (j + 1) p (by simpa using hj); rw [List.drop_drop, show 6 + j * 6 = (j + 1) * 6 by omega]; exact this⟩
    rw [← List.take_append_drop 6 inner, h2, h3]; rfl
theorem Bl.of_R {w : World} {base : Nat} {ok : Nat → Prop} {v : Value} {xs : List S76} (h : Kd.R k76 76 w base ok v xs) : (v = .slice none 0 0 ∧ xs = []) ∨ ∃ g c, v = .slice (some ⟨g, 0, none⟩) xs.length c ∧ base ≤ g ∧ ok g ∧ Bl w g (xs.map L6) c ∧ xs.length ≤ c ∧ c ≤ maxLen := by
  obtain ⟨h0, inner, ⟨hl, ho⟩, hr⟩ := h; rcases ho with ⟨rfl, hn⟩ | ⟨g, cap, cur, rfl, hg, hh, hc, hm, hs, ht⟩
  · exact .inl ⟨rfl, List.eq_nil_of_length_eq_zero hn⟩
  · refine .inr ⟨g, cap, rfl, hg, h0 g rfl, ⟨six_L6 xs, cur.toList.drop (xs.length * 6), ?_, ?_⟩, hc, hm⟩
    · have hin : inner = (xs.map L6).flatten.map (Value.int .i64) := reps76 hr; rw [hh, ← hin, ← ht, show k76.sz = 6 from rfl, List.take_append_drop]
    · have : cur.toList.length = cap * 6 := by rw [Array.length_toList]; exact hs
      simp [this]; omega
theorem Bl.R {w : World} {g c base n : Nat} {ok : Nat → Prop} {M : List (List Int)} (h : Bl w g M c) (hb : base ≤ g) (hok : ok g) (hn : n ≤ M.length) (hc : c ≤ maxLen) : Kd.R k76 76 w base ok (.slice (some ⟨g, 0, none⟩) n c) ((M.take n).map mk6) := by
  obtain ⟨h6, rest, hh, hl⟩ := h; have h6t : Six (M.take n) := fun r hr => h6 r (List.mem_of_mem_take hr)
  have hlen : ((M.take n).map mk6).length = n := by simp; omega
  have hfl : (M.take n).flatten.length = n * 6 := by rw [YY h6t]; simp; omega
  refine ⟨fun k hk => ?_, (M.take n).flatten.map (Value.int .i64), ⟨?_, .inr ⟨g, c, _, ?_, hb, hh, ?_, hc, ?_, ?_⟩⟩, ?_, ?_⟩
  · simp [Value.ownBlock] at hk; subst hk; exact hok
  · rw [List.length_map, hfl, hlen]; rfl
  · rw [hlen]
  · rw [hlen]; omega
  · show (M.flatten.map (Value.int .i64) ++ rest).length = c * 6
    rw [List.length_append, List.length_map, YY h6]; exact hl
  · rw [hlen, show k76.sz = 6 from rfl]; have : M.flatten = (M.take n).flatten ++ (M.drop n).flatten := by rw [← List.flatten_append, List.take_append_drop]
    show List.take (n * 6) (M.flatten.map (Value.int .i64) ++ rest) = _
    rw [this, List.map_append, List.append_assoc, List.take_append_of_le_length (by rw [List.length_map, hfl]; omega), List.take_of_length_le (by rw [List.length_map, hfl]; omega)]
  · rw [List.length_map, hfl, hlen]; rfl
  · intro j p hj; rw [List.getElem?_map] at hj; obtain ⟨r, hr, rfl⟩ := Option.map_eq_some_iff.1 hj; obtain ⟨hjl, hje⟩ := List.getElem?_eq_some_iff.1 hr; have hr6 : r.length = 6 := h6t r (hje ▸ List.getElem_mem hjl); have he : (((M.take n).flatten.map (Value.int .i64)).drop (j * 6)).take 6 = (L6 (mk6 r)).map (Value.int .i64) := by
      rw [L6_mk6 hr6]; apply List.ext_getElem?; intro i; rw [List.getElem?_take]; split
      · rename_i hi
        rw [List.getElem?_drop, List.getElem?_map, List.getElem?_map, Ud h6t j i hjl hi, hje]
      · rw [List.getElem?_eq_none (by simp; omega)]
    show k76.M _ _ _ _ _
    rw [show k76.sz = 6 from rfl, he]; exact VQ _ _ _ _
end Go.Proofs.Ytdneelgnmnpanaa.P
end
