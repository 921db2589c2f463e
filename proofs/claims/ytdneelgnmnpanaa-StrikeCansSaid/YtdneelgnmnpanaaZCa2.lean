/- What the claim's last text wants, part 2: functions of the translation as Lean functions with their contracts, and plain theorems; no conditions beyond those that each theorem names. -/
import Derived.Test.YtdneelgnmnpanaaZCa1
import Derived.Test.YtdneelgnmnpanaaProg
import Derived.Below
import Derived.Deep.Draws
import Derived.Deep.AppendLies
import Derived.Maps.AppendAt
import Derived.OwnWalk
import Derived.Laws.BytesArg
import Derived.Laws.MakeOwn
import Derived.Laws.OwnMore
import Derived.Deep.OwnRows
import Derived.Tactics
import Derived.Lib.ConvBytes
import Derived.Laws.Slices
import Derived.WalkKit
import Derived.KernelRfl
import Derived.RowKit3
import Derived.Deep.LoopGhost
import Derived.Deep.QuietTactic
import Derived.BigQuiet
import Derived.WideLaws
import Derived.Deep.DeepCutAuto
import Derived.Deep.CutBlock
import Derived.Deep.RegionHeld3
import Derived.Laws.Rows
import Derived.Lib.AppendStr
import Derived.ArgAppend
import Derived.Laws.IdiomCopy
import Derived.OrdersHeld
import Derived.Laws.BitsLemmas
import Derived.RowKit
set_option linter.unusedVariables false
set_option linter.unusedSimpArgs false
section
namespace Go.Proofs.Ytdneelgnmnpanaa.P
open Go.RowKit Go.Proofs.YtdneelgnmnpanaaW.PrintWords Go.Proofs.YtdneelgnmnpanaaW.PrintLast Go.Proofs.YtdneelgnmnpanaaW.PrintMore
attribute [local go_sem] max2_int min2_int max_two min_two max_three min_three max_four min_four
def errW : Option Int → Value
  | none => .nilIface
  | some c => .iface 0 (.int .i64 c)
theorem Qk : errW none = .nilIface := rfl
theorem Qj (c : Int) : errW (some c) = .iface 0 (.int .i64 c) := rfl
theorem info3 : (Try.prog.info? 3).map (fun i => (i.zero, i.size, i.bytes)) = some (some (.int .i64 0), 1, 8) := by kernel_rfl
theorem info28 : (Try.prog.info? 28).map (fun i => (i.zero, i.size, i.bytes)) = some (some (.slice none 0 0), 1, 24) := by kernel_rfl
theorem info76 : (Try.prog.info? 76).map (fun i => (i.zero, i.size, i.bytes)) = some (some (.agg #[(.int .i64 0), (.int .i64 0), (.int .i64 0), (.int .i64 0), (.int .i64 0), (.int .i64 0)]), 6, 48) := by kernel_rfl
def Qu (xs : List (List Int)) (i : Int) : (List Int) := xs.getD i.toNat ([] : List Int)
theorem ZJ {w : World} {A : Option Addr} {n : Nat} {xs : List (List Int)} (h : Kd.C (Kd.slice 3 (Kd.int .i64)) w A n xs) (i : Int) (h0 : 0 ≤ i) (h1 : i < n) : ∃ ad A0 c0, A = some ad ∧ w.cell? (ad.add i.toNat) = some (.slice A0 (Qu xs i).length c0) ∧ (Qu xs i).length ≤ c0 ∧ (Kd.int .i64).C w A0 (Qu xs i).length (Qu xs i) := by
  obtain ⟨ad, c, e, _, hK, hc0⟩ := Kd.C_get h ([] : List Int) i h0 h1; have hc : ∀ j u, c[j]? = some u → w.cell? (ad.add (i.toNat * 1 + j)) = some u := hc0; obtain ⟨A0, c0, rfl, l0, g0⟩ := hK; exact ⟨ad, A0, c0, e, by have hq := hc 0 _ rfl; rwa [Nat.mul_one, Nat.add_zero] at hq, l0, g0⟩
structure S76 where
  f0 : Int
  f1 : Int
  f2 : Int
  f3 : Int
  f4 : Int
  f5 : Int
def z76 : S76 := ⟨(0 : Int), (0 : Int), (0 : Int), (0 : Int), (0 : Int), (0 : Int)⟩
def k76 : Kd S76 := Kd.iso (Kd.pair (Kd.int .i64) (Kd.pair (Kd.int .i64) (Kd.pair (Kd.int .i64) (Kd.pair (Kd.int .i64) (Kd.pair (Kd.int .i64) (Kd.int .i64)))))) (fun x : S76 => (x.f0, x.f1, x.f2, x.f3, x.f4, x.f5))
theorem UM {w : World} {x : S76} {cs : List Value} (h : k76.K w x cs) : cs = [.int .i64 x.f0, .int .i64 x.f1, .int .i64 x.f2, .int .i64 x.f3, .int .i64 x.f4, .int .i64 x.f5] := by
  obtain ⟨_, _, rfl, rfl, ⟨_, _, rfl, rfl, ⟨_, _, rfl, rfl, ⟨_, _, rfl, rfl, ⟨_, _, rfl, rfl, rfl⟩⟩⟩⟩⟩ := h; exact rfl
theorem k76_openM {w : World} {base : Nat} {ok : Nat → Prop} {x : S76} {cs : List Value} (h : k76.M w base ok x cs) : cs = [.int .i64 x.f0, .int .i64 x.f1, .int .i64 x.f2, .int .i64 x.f3, .int .i64 x.f4, .int .i64 x.f5] := by
  obtain ⟨_, _, rfl, rfl, ⟨_, _, rfl, rfl, ⟨_, _, rfl, rfl, ⟨_, _, rfl, rfl, ⟨_, _, rfl, rfl, rfl⟩⟩⟩⟩⟩ := h; exact rfl
theorem Ur (w : World) (base : Nat) (ok : Nat → Prop) (x : S76)  : k76.M w base ok x [.int .i64 x.f0, .int .i64 x.f1, .int .i64 x.f2, .int .i64 x.f3, .int .i64 x.f4, .int .i64 x.f5] := ⟨[.int .i64 x.f0], [.int .i64 x.f1, .int .i64 x.f2, .int .i64 x.f3, .int .i64 x.f4, .int .i64 x.f5], rfl, rfl, ⟨[.int .i64 x.f1], [.int .i64 x.f2, .int .i64 x.f3, .int .i64 x.f4, .int .i64 x.f5], rfl, rfl, ⟨[.int .i64 x.f2], [.int .i64 x.f3, .int .i64 x.f4, .int .i64 x.f5], rfl, rfl, ⟨[.int .i64 x.f3], [.int .i64 x.f4, .int .i64 x.f5], rfl, rfl, ⟨[.int .i64 x.f4], [.int .i64 x.f5], rfl, rfl, rfl⟩⟩⟩⟩⟩
mutual
def QF.j0 : Nat → Bool → List (List Int) → List (List Int) → Option (Bool)
 | 0, _, _, _ => none
 | k + 1, x14, av, aw => if x14 = true then (some true) else (QF.l0 k 0 av aw)
def QF.l0 : Nat → Int → List (List Int) → List (List Int) → Option (Bool)
 | 0, _, _, _ => none
 | k + 1, x3, av, aw => if x3 < (av.length : Int) then (if 0 ≤ x3 then (if ((Qu av x3).length : Int) > 50 then (some true) else (QF.l0 k (wrap64 (x3 + 1)) av aw)) else (none)) else (QF.l1 k 0 av aw)
def QF.l1 : Nat → Int → List (List Int) → List (List Int) → Option (Bool)
 | 0, _, _, _ => none
 | k + 1, x4, av, aw => if x4 < (aw.length : Int) then (if 0 ≤ x4 then (if ((Qu aw x4).length : Int) > 50 then (some true) else (QF.l1 k (wrap64 (x4 + 1)) av aw)) else (none)) else (some false)
end
def QF.f (k : Nat) (ae : List (List Int)) (af : List (List Int)) : Option (Bool) := if (ae.length : Int) > 50 then (QF.j0 k true ae af) else (QF.j0 k (decide ((af.length : Int) > 50)) ae af)
set_option maxHeartbeats 8000000 in
set_option maxRecDepth 100000 in
theorem QF.calls (k : Nat) (ak : Option Addr) (an : Nat) (ae : List (List Int)) (aj : Option Addr) (al : Nat) (af : List (List Int)) (r : Bool) (w : World) (aM : Kd.C (Kd.slice 3 (Kd.int .i64)) w ak ae.length ae) (aQ : ae.length ≤ an) (aK : Kd.C (Kd.slice 3 (Kd.int .i64)) w aj af.length af) (aN : af.length ≤ al) (h : QF.f k ae af = some r) :
  Calls Try.prog 36 #[.agg #[.slice ak ae.length an, .slice aj af.length al]] w fun e w' => e = .returned (.bool r) ∧ Below w.heap.size w w' := by
 have ej := Try.underlying24; have ay := aa.mk aM; have aA := aa.mk aQ; clear aM aQ; have az := aa.mk aK; have aC := aa.mk aN; clear aK aN; have HB := aa.mk (Below.refl w.heap.size w); have H : (if (ae.length : Int) > 50 then (QF.j0 k true ae af) else (QF.j0 k (decide ((af.length : Int) > 50)) ae af)) = some r := h; clear h; have HC2 := aa.mk H; clear H; go_enter Try.func36, Try.ntmps36; go_upto_region 1 with (first | ((with_reducible refine QN (N := 1) rfl ?_); (try (refine Yb (by rfl) ?_; dsimp only)); refine Q3 ?hg (N := 1) ?hd (cs := #[.slice ak ae.length an, .slice aj af.length al]) (t := 24) ?hr ?_; (case hd => rfl); (case hg => rfl); (case hr => first | (go_simp; done) | (go_simp; rfl)); intro ag hg w3 hbox hb; have ab := aa.mk (hbox); have bh := aa.mk ((by rw [hg]; exact (Qb bB) : w.heap.size ≤ ag)); have aT := aa.mk ((by rw [hg]; exact (Qb bB) : w.heap.size ≤ ag)); replace HB := aa.mk (Qa bB hb); clear hb hbox hg))
 (try simp only [Act.put, zA, zB, zC])
 go_cut [14] (fun v14 wc => ∃ (kq : Nat) (nP : Bool), v14 = .bool nP ∧ aa (QF.j0 kq nP ae af = some r) ∧ aa (kq ≤ k) ∧ aa (wc.heap[ag]? = some (.cells #[(.slice ak ae.length an), (.slice aj af.length al)] 24 (0, 0))) ∧ aa (Below w.heap.size w wc))
 case first =>
  have H := HC2.out; clear HC2; by_cases c4 : (ae.length : Int) > 50
  ·rw [if_pos c4] at H; have bI : decide (50 < (ae.length : Int)) = true := decide_eq_true c4; have eh : decide (50 < ae.length) = true := decide_eq_true (by omega); clear c4; (first | rw [bI] | (simp only [QC, QD]; rw [bI]) | skip)
   have H' := aa.mk H; clear H; have eu : w3.cell? ⟨ag, 0, none⟩ = some (.slice ak ae.length an) := (Qd ab.out 0).trans rfl; have et : w3.cell? ⟨ag, 1, none⟩ = some (.slice aj af.length al) := (Qd ab.out 1).trans rfl; have en := Qc ab.out 0; have ek := Qc ab.out 1; go_wp2; go_meet
   case rel => exact ⟨_, (true), (by first | rfl | (simp; done) | (simp [*]; done)), H', ⟨by first | omega | exact Nat.le_refl _⟩, ⟨by (with_reducible repeat (first | refine Qx ?_ _ | refine QA ?_ | refine Qw ?_ _)); exact ab.out⟩, ⟨bB⟩⟩
  ·rw [if_neg c4] at H; have bI : decide (50 < (ae.length : Int)) = false := decide_eq_false c4; have eh : decide (50 < ae.length) = false := decide_eq_false (by omega); clear c4; (first | rw [bI] | (simp only [QC, QD]; rw [bI]) | skip)
   have H' := aa.mk H; clear H; have dE : w3.cell? ⟨ag, 0, none⟩ = some (.slice ak ae.length an) := (Qd ab.out 0).trans rfl; have dD : w3.cell? ⟨ag, 1, none⟩ = some (.slice aj af.length al) := (Qd ab.out 1).trans rfl; have dC := Qc ab.out 0; have dB := Qc ab.out 1; go_wp2; go_meet
   case rel => exact ⟨_, (decide ((af.length : Int) > 50)), (by first | rfl | (simp; done) | (simp [*]; done)), H', ⟨by first | omega | exact Nat.le_refl _⟩, ⟨by (with_reducible repeat (first | refine Qx ?_ _ | refine QA ?_ | refine Qw ?_ _)); exact ab.out⟩, ⟨bB⟩⟩
 case rest =>
  clear HC2; try clear p2
  try clear c3
  try clear c4
  try clear bI
  try clear eh
  try clear eu
  try clear et
  try clear dE
  try clear dD
  try clear en
  try clear ek
  try clear dC
  try clear dB
  obtain ⟨kq, nP, rfl, HA, HJ1, ab, HB⟩ := hcut; cases kq with
  | zero => exact absurd HA.out (by simp [QF.j0])
  | succ kj1 =>
   have H := HA.out; clear HA; simp only [QF.j0] at H; by_cases c7 : nP = true
   ·subst c7; have H1 : (some true) = some r := by rw [if_pos rfl] at H; exact H
    clear H; have H := H1; clear H1; obtain rfl := Option.some.inj H; go_wp2; go_ret; exact ⟨by first | rfl | (simp [Qk, Qj] <;> rfl) | (simp [*, Qk, Qj] <;> rfl), bB⟩
   ·replace c7 := Bool.eq_false_iff.mpr c7; subst c7; have H1 : (QF.l0 kj1 0 ae af) = some r := by rw [if_neg (show ¬ (false = true) by decide)] at H; exact H
    clear H; have H := H1; clear H1; have H' := aa.mk H; clear H; go_wp2; go_loopg [3] kj1 (fun kq v3 w' => ∃ (cl : Int), v3 = .int .i64 cl ∧ aa (QF.l0 kq cl ae af = some r) ∧ aa (kq ≤ kj1) ∧ aa (w'.heap[ag]? = some (.cells #[(.slice ak ae.length an), (.slice aj af.length al)] 24 (0, 0))) ∧ aa (Below w.heap.size w w'))
    case atStart => exact ⟨(0), (by first | rfl | (simp; done) | (simp [*]; done)), H', ⟨Nat.le_refl _⟩, ⟨by (with_reducible repeat (first | refine Qx ?_ _ | refine QA ?_ | refine Qw ?_ _)); exact ab.out⟩, ⟨bB⟩⟩
    case round =>
     clear H'; try clear p2
     try clear c3
     try clear c4
     try clear bI
     try clear eh
     try clear c7
     try clear eu
     try clear et
     try clear dE
     try clear dD
     try clear en
     try clear ek
     try clear dC
     try clear dB
     try clear p2
     obtain ⟨cl, rfl, HA, HK2, ab, HB⟩ := hrel; cases gk with
     | zero => exact absurd HA.out (by simp [QF.l0])
     | succ k2 =>
      have H := HA.out; clear HA; simp only [QF.l0] at H; by_cases c8 : cl < (ae.length : Int)
      ·rw [if_pos c8] at H; have dF : decide (cl < (ae.length : Int)) = true := decide_eq_true c8; clear c8; by_cases c9 : 0 ≤ cl
       ·rw [if_pos c9] at H; have fv : decide (0 ≤ cl) = true := decide_eq_true c9; clear c9; by_cases c10 : ((Qu ae cl).length : Int) > 50
        ·rw [if_pos c10] at H; have fq : decide (50 < ((Qu ae cl).length : Int)) = true := decide_eq_true c10; have jE : decide (50 < (Qu ae cl).length) = true := decide_eq_true (by omega); clear c10; obtain rfl := Option.some.inj H; have cQ : wr.cell? ⟨ag, 0, none⟩ = some (.slice ak ae.length an) := (Qd ab.out 0).trans rfl; have cP : wr.cell? ⟨ag, 1, none⟩ = some (.slice aj af.length al) := (Qd ab.out 1).trans rfl; have cO := Qc ab.out 0; have cN := Qc ab.out 1; have bH : 0 ≤ (cl : Int) := of_decide_eq_true (by assumption); have bG : cl < (ae.length : Int) := of_decide_eq_true (by assumption); obtain ⟨bM, eM, eK, ev, aI, cu, cw⟩ := ZJ ay.out cl bH bG; cases ev; replace aI := (HB.out.cell (World.block_lt_of_cell? w _ aI)).trans aI; have dv := aa.mk cw; have ee := aa.mk cu; clear cw cu; replace bH := eq_true bH; replace bG := eq_true bG; go_wp2; go_ret; exact ⟨by first | rfl | (simp [Qk, Qj] <;> rfl) | (simp [*, Qk, Qj] <;> rfl), bB⟩
        ·rw [if_neg c10] at H; have fq : decide (50 < ((Qu ae cl).length : Int)) = false := decide_eq_false c10; have jE : decide (50 < (Qu ae cl).length) = false := decide_eq_false (by omega); clear c10; have H' := aa.mk H; clear H; have dY : wr.cell? ⟨ag, 0, none⟩ = some (.slice ak ae.length an) := (Qd ab.out 0).trans rfl; have dX : wr.cell? ⟨ag, 1, none⟩ = some (.slice aj af.length al) := (Qd ab.out 1).trans rfl; have dW := Qc ab.out 0; have dV := Qc ab.out 1; have bH : 0 ≤ (cl : Int) := of_decide_eq_true (by assumption); have bG : cl < (ae.length : Int) := of_decide_eq_true (by assumption); obtain ⟨bM, eM, eK, ev, aI, cu, cw⟩ := ZJ ay.out cl bH bG; cases ev; replace aI := (HB.out.cell (World.block_lt_of_cell? w _ aI)).trans aI; have dv := aa.mk cw; have ee := aa.mk cu; clear cw cu; replace bH := eq_true bH; replace bG := eq_true bG; go_wp2; go_roundg k2
         case measure => have := HJ1.out; have := HK2.out; omega
         case rel => exact ⟨(wrap64 (cl + 1)), (by first | rfl | (simp; done) | (simp [*]; done)), H', ⟨by have := HJ1.out; have := HK2.out; omega⟩, ⟨by (with_reducible repeat (first | refine Qx ?_ _ | refine QA ?_ | refine Qw ?_ _)); exact ab.out⟩, ⟨bB⟩⟩
       ·rw [if_neg c9] at H; exact absurd H (by simp)
      ·rw [if_neg c8] at H; have dF : decide (cl < (ae.length : Int)) = false := decide_eq_false c8; clear c8; have H' := aa.mk H; clear H; have e9 : wr.cell? ⟨ag, 0, none⟩ = some (.slice ak ae.length an) := (Qd ab.out 0).trans rfl; have e8 : wr.cell? ⟨ag, 1, none⟩ = some (.slice aj af.length al) := (Qd ab.out 1).trans rfl; have e5 := Qc ab.out 0; have eZ := Qc ab.out 1; go_wp2; go_loopg [4] k2 (fun kq v4 w' => ∃ (fN : Int), v4 = .int .i64 fN ∧ aa (QF.l1 kq fN ae af = some r) ∧ aa (kq ≤ k2) ∧ aa (w'.heap[ag]? = some (.cells #[(.slice ak ae.length an), (.slice aj af.length al)] 24 (0, 0))) ∧ aa (Below w.heap.size w w'))
       case atStart => exact ⟨(0), (by first | rfl | (simp; done) | (simp [*]; done)), H', ⟨Nat.le_refl _⟩, ⟨by (with_reducible repeat (first | refine Qx ?_ _ | refine QA ?_ | refine Qw ?_ _)); exact ab.out⟩, ⟨bB⟩⟩
       case round =>
        clear H'; try clear c1
        try clear p1
        try clear q1
        try clear hx1
        try clear p2
        try clear c3
        try clear c4
        try clear bI
        try clear eh
        try clear p6
        try clear c7
        try clear c8
        try clear dF
        try clear c9
        try clear fv
        try clear c10
        try clear fq
        try clear jE
        try clear p10
        try clear q10
        try clear ir
        try clear cQ
        try clear cP
        try clear dY
        try clear dX
        try clear e9
        try clear e8
        try clear eu
        try clear et
        try clear dE
        try clear dD
        try clear cO
        try clear cN
        try clear dW
        try clear dV
        try clear e5
        try clear eZ
        try clear en
        try clear ek
        try clear dC
        try clear dB
        try clear aI
        try clear bH
        try clear p2
        try clear bG
        obtain ⟨fN, rfl, HA, HK3, ab, HB⟩ := hrel; cases gk with
        | zero => exact absurd HA.out (by simp [QF.l1])
        | succ k3 =>
         have H := HA.out; clear HA; simp only [QF.l1] at H; by_cases c14 : fN < (af.length : Int)
         ·rw [if_pos c14] at H; have gr : decide (fN < (af.length : Int)) = true := decide_eq_true c14; clear c14; by_cases c15 : 0 ≤ fN
          ·rw [if_pos c15] at H; have fP : decide (0 ≤ fN) = true := decide_eq_true c15; clear c15; by_cases c16 : ((Qu af fN).length : Int) > 50
           ·rw [if_pos c16] at H; have gX : decide (50 < ((Qu af fN).length : Int)) = true := decide_eq_true c16; have wi : decide (50 < (Qu af fN).length) = true := decide_eq_true (by omega); clear c16; obtain rfl := Option.some.inj H; have kj : wr.cell? ⟨ag, 0, none⟩ = some (.slice ak ae.length an) := (Qd ab.out 0).trans rfl; have ki : wr.cell? ⟨ag, 1, none⟩ = some (.slice aj af.length al) := (Qd ab.out 1).trans rfl; have j9 := Qc ab.out 0; have j8 := Qc ab.out 1; have eg : 0 ≤ (fN : Int) := of_decide_eq_true (by assumption); have ef : fN < (af.length : Int) := of_decide_eq_true (by assumption); obtain ⟨jI, nN, nH, jw, bg, dQ, dU⟩ := ZJ az.out fN eg ef; cases jw; replace bg := (HB.out.cell (World.block_lt_of_cell? w _ bg)).trans bg; have lZ := aa.mk dU; have mb := aa.mk dQ; clear dU dQ; replace eg := eq_true eg; replace ef := eq_true ef; go_wp2; go_ret; exact ⟨by first | rfl | (simp [Qk, Qj] <;> rfl) | (simp [*, Qk, Qj] <;> rfl), bB⟩
           ·rw [if_neg c16] at H; have gX : decide (50 < ((Qu af fN).length : Int)) = false := decide_eq_false c16; have wi : decide (50 < (Qu af fN).length) = false := decide_eq_false (by omega); clear c16; have H' := aa.mk H; clear H; have hU : wr.cell? ⟨ag, 0, none⟩ = some (.slice ak ae.length an) := (Qd ab.out 0).trans rfl; have hP : wr.cell? ⟨ag, 1, none⟩ = some (.slice aj af.length al) := (Qd ab.out 1).trans rfl; have hH := Qc ab.out 0; have hG := Qc ab.out 1; have eg : 0 ≤ (fN : Int) := of_decide_eq_true (by assumption); have ef : fN < (af.length : Int) := of_decide_eq_true (by assumption); obtain ⟨jI, nN, nH, jw, bg, dQ, dU⟩ := ZJ az.out fN eg ef; cases jw; replace bg := (HB.out.cell (World.block_lt_of_cell? w _ bg)).trans bg; have lZ := aa.mk dU; have mb := aa.mk dQ; clear dU dQ; replace eg := eq_true eg; replace ef := eq_true ef; go_wp2; go_roundg k3
            case measure => have := HJ1.out; have := HK2.out; have := HK3.out; omega
            case rel => exact ⟨(wrap64 (fN + 1)), (by first | rfl | (simp; done) | (simp [*]; done)), H', ⟨by have := HJ1.out; have := HK2.out; have := HK3.out; omega⟩, ⟨by (with_reducible repeat (first | refine Qx ?_ _ | refine QA ?_ | refine Qw ?_ _)); exact ab.out⟩, ⟨bB⟩⟩
          ·rw [if_neg c15] at H; exact absurd H (by simp)
         ·rw [if_neg c14] at H; have gr : decide (fN < (af.length : Int)) = false := decide_eq_false c14; clear c14; obtain rfl := Option.some.inj H; have og : wr.cell? ⟨ag, 0, none⟩ = some (.slice ak ae.length an) := (Qd ab.out 0).trans rfl; have oe : wr.cell? ⟨ag, 1, none⟩ = some (.slice aj af.length al) := (Qd ab.out 1).trans rfl; have od := Qc ab.out 0; have oa := Qc ab.out 1; go_wp2; go_ret; exact ⟨by first | rfl | (simp [Qk, Qj] <;> rfl) | (simp [*, Qk, Qj] <;> rfl), bB⟩
def Qv.l0 : Nat → List Int → List Int → Int → Option (Bool)
 | 0, _, _, _ => none
 | k + 1, x0, x1, x5 => if x5 < (x0.length : Int) then (if 0 ≤ x5 then (if x5 < (x1.length : Int) then (if (rd x0 x5) = (rd x1 x5) then (Qv.l0 k x0 x1 (wrap64 (x5 + 1))) else (some false)) else (none)) else (none)) else (some true)
def Qv.f (k : Nat) (l0 : List Int) (l1 : List Int) : Option (Bool) := if (l0.length : Int) = (l1.length : Int) then (Qv.l0 k l0 l1 0) else (some false)
theorem Qv.ZS : ∀ k, (∀ y0 y1 y2, LeO (Qv.l0 k y0 y1 y2) (Qv.l0 (k + 1) y0 y1 y2))
 | 0 => fun _ _ _ r h => by simp [Qv.l0] at h
 | k + 1 => by
  have ih0 := Qv.ZS k
  ·intro y0 y1 y2; unfold Qv.l0; repeat' first | (with_reducible exact ih0 _ _ _) | (with_reducible exact LeO.refl _) | (with_reducible exact LeO.none _) | (with_reducible refine LeO.ite ?_ ?_) | (with_reducible refine LeO.bind ?_ (fun _ => ?_)) | exact ih0 _ _ _ | exact LeO.none _ | refine LeO.ite ?_ ?_ | refine LeO.bind ?_ (fun _ => ?_)
theorem Qv.mono : ∀ a0 a1 k, LeO (Qv.f k a0 a1) (Qv.f (k + 1) a0 a1) := by
 intro a0 a1 k; have ih0 := Qv.ZS k; unfold Qv.f; repeat' first | (with_reducible exact ih0 _ _ _) | (with_reducible exact LeO.refl _) | (with_reducible exact LeO.none _) | (with_reducible refine LeO.ite ?_ ?_) | (with_reducible refine LeO.bind ?_ (fun _ => ?_)) | exact ih0 _ _ _ | exact LeO.none _ | refine LeO.ite ?_ ?_ | refine LeO.bind ?_ (fun _ => ?_)
set_option maxHeartbeats 8000000 in
set_option maxRecDepth 100000 in
theorem Qv.calls (k : Nat) (A0 : Option Addr) (c0 : Nat) (l0 : List Int) (A1 : Option Addr) (c1 : Nat) (l1 : List Int) (r : Bool) (w : World) (hr0 : Kd.C (Kd.int .i64) w A0 l0.length l0) (hc0 : l0.length ≤ c0) (hr1 : Kd.C (Kd.int .i64) w A1 l1.length l1) (hc1 : l1.length ≤ c1) (h : Qv.f k l0 l1 = some r) :
  Calls Try.prog 45 #[.slice A0 l0.length c0, .slice A1 l1.length c1] w fun e w' => e = .returned (.bool r) ∧ Drawn0 w w' := by
 have HR0 := aa.mk hr0; have HC0 := aa.mk hc0; clear hr0 hc0; have HR1 := aa.mk hr1; have HC1 := aa.mk hc1; clear hr1 hc1; have H : (if (l0.length : Int) = (l1.length : Int) then (Qv.l0 k l0 l1 0) else (some false)) = some r := h; clear h; by_cases c3 : (l0.length : Int) = (l1.length : Int)
 ·rw [if_pos c3] at H; have bL : ((l0.length : Int) == (l1.length : Int)) = true := beq_iff_eq.mpr c3; have cA : ((l0.length : Int) != (l1.length : Int)) = false := bne_eq_false_iff_eq.mpr c3; have jy : (l0.length == l1.length) = true := by first | simpa using c3 | (simp at c3 ⊢; omega)
  clear c3; have H' := aa.mk H; clear H; go_enter Try.func45, Try.ntmps45; go_wp2; repeat (go_quiet (fail); try go_wp2)
  go_loopg [5] k (fun kq v5 w' => ∃ (ao : Int), v5 = .int .i64 ao ∧ aa (Qv.l0 kq l0 l1 ao = some r) ∧ aa (kq ≤ k) ∧ Drawn0 w w')
  case atStart => exact ⟨(0), (by first | rfl | (simp; done) | (simp [*]; done)), H', ⟨Nat.le_refl _⟩, by repeat (first | exact Drawn0.refl _ | apply Drawn0.step)⟩
  case round =>
   clear H'; try clear c1
   try clear p2
   try clear c3
   try clear bL
   try clear cA
   try clear jy
   obtain ⟨ao, rfl, HA, HK1, ⟨m1, rfl⟩⟩ := hrel; cases gk with
   | zero => exact absurd HA.out (by simp [Qv.l0])
   | succ k1 =>
    have H := HA.out; clear HA; simp only [Qv.l0] at H; by_cases c4 : ao < (l0.length : Int)
    ·rw [if_pos c4] at H; have bI : decide (ao < (l0.length : Int)) = true := decide_eq_true c4; clear c4; by_cases c5 : 0 ≤ ao
     ·rw [if_pos c5] at H; have dh : decide (0 ≤ ao) = true := decide_eq_true c5; clear c5; by_cases c6 : ao < (l1.length : Int)
      ·rw [if_pos c6] at H; have gC : decide (ao < (l1.length : Int)) = true := decide_eq_true c6; clear c6; by_cases c7 : (rd l0 ao) = (rd l1 ao)
       ·rw [if_pos c7] at H; have iy : ((rd l0 ao) == (rd l1 ao)) = true := beq_iff_eq.mpr c7; have p4 : ((rd l0 ao) != (rd l1 ao)) = false := bne_eq_false_iff_eq.mpr c7; clear c7; have H' := aa.mk H; clear H; have br : 0 ≤ (ao : Int) := of_decide_eq_true (by assumption); have bq : ao < (l0.length : Int) := of_decide_eq_true (by assumption); obtain ⟨cg, di, aU⟩ := Kd.Zi HR0.out ao br bq; cases di; replace br := eq_true br; replace bq := eq_true bq; have bH : 0 ≤ (ao : Int) := of_decide_eq_true (by assumption); have bG : ao < (l1.length : Int) := of_decide_eq_true (by assumption); obtain ⟨bM, ev, aI⟩ := Kd.Zi HR1.out ao bH bG; cases ev; replace bH := eq_true bH; replace bG := eq_true bG; go_wp2; repeat (go_quiet (fail); try go_wp2)
        go_roundg k1
        case measure => have := HK1.out; omega
        case rel => exact ⟨(wrap64 (ao + 1)), (by first | rfl | (simp; done) | (simp [*]; done)), H', ⟨by have := HK1.out; omega⟩, by repeat (first | exact Drawn0.refl _ | apply Drawn0.step)⟩
       ·rw [if_neg c7] at H; have iy : ((rd l0 ao) == (rd l1 ao)) = false := beq_eq_false_iff_ne.mpr c7; have p4 : ((rd l0 ao) != (rd l1 ao)) = true := bne_iff_ne.mpr c7; obtain rfl := Option.some.inj H; have br : 0 ≤ (ao : Int) := of_decide_eq_true (by assumption); have bq : ao < (l0.length : Int) := of_decide_eq_true (by assumption); obtain ⟨cg, di, aU⟩ := Kd.Zi HR0.out ao br bq; cases di; replace br := eq_true br; replace bq := eq_true bq; have bH : 0 ≤ (ao : Int) := of_decide_eq_true (by assumption); have bG : ao < (l1.length : Int) := of_decide_eq_true (by assumption); obtain ⟨bM, ev, aI⟩ := Kd.Zi HR1.out ao bH bG; cases ev; replace bH := eq_true bH; replace bG := eq_true bG; go_wp2; repeat (go_quiet (fail); try go_wp2)
        go_ret; exact ⟨by first | rfl | (simp; done) | (simp [*]; done), by repeat (first | exact Drawn0.refl _ | apply Drawn0.step)⟩
      ·rw [if_neg c6] at H; exact absurd H (by simp)
     ·rw [if_neg c5] at H; exact absurd H (by simp)
    ·rw [if_neg c4] at H; have bI : decide (ao < (l0.length : Int)) = false := decide_eq_false c4; clear c4; obtain rfl := Option.some.inj H; go_wp2; repeat (go_quiet (fail); try go_wp2)
     go_ret; exact ⟨by first | rfl | (simp; done) | (simp [*]; done), by repeat (first | exact Drawn0.refl _ | apply Drawn0.step)⟩
 ·rw [if_neg c3] at H; have bL : ((l0.length : Int) == (l1.length : Int)) = false := beq_eq_false_iff_ne.mpr c3; have cA : ((l0.length : Int) != (l1.length : Int)) = true := bne_iff_ne.mpr c3; have jy : (l0.length == l1.length) = false := by first | simpa using c3 | (simp at c3 ⊢; omega)
  obtain rfl := Option.some.inj H; go_enter Try.func45, Try.ntmps45; go_wp2; repeat (go_quiet (fail); try go_wp2)
  go_ret; exact ⟨by first | rfl | (simp; done) | (simp [*]; done), by repeat (first | exact Drawn0.refl _ | apply Drawn0.step)⟩
mutual
def Qn.j0 : Nat → List Int → Option (Int)
 | 0, _ => none
 | k + 1, x0 => if 0 < (x0.length : Int) then (Qn.l0 k x0 (rd x0 0) 1) else (none)
def Qn.l0 : Nat → List Int → Int → Int → Option (Int)
 | 0, _, _, _ => none
 | k + 1, x0, x3, x4 => if x4 < (x0.length : Int) then (if 0 ≤ x4 then (Qn.l0 k x0 (mn x3 (rd x0 x4)) (wrap64 (x4 + 1))) else (none)) else (some x3)
end
def Qn.f (k : Nat) (l0 : List Int) : Option (Int) := if (l0.length : Int) < 1 then (if 0 ≤ (-1) then (if (-1) < (l0.length : Int) then (Qn.j0 k l0) else (none)) else (none)) else (Qn.j0 k l0)
theorem Qn.ZS : ∀ k, (∀ y0, LeO (Qn.j0 k y0) (Qn.j0 (k + 1) y0)) ∧ (∀ y0 y1 y2, LeO (Qn.l0 k y0 y1 y2) (Qn.l0 (k + 1) y0 y1 y2))
 | 0 => ⟨fun _ r h => by simp [Qn.j0] at h, fun _ _ _ r h => by simp [Qn.l0] at h⟩
 | k + 1 => by
  obtain ⟨ih0, ih1⟩ := Qn.ZS k; refine ⟨?_, ?_⟩ <;> intros <;> (first | unfold Qn.j0 | unfold Qn.l0) <;> repeat' first | (with_reducible exact ih0 _) | (with_reducible exact ih1 _ _ _) | (with_reducible exact LeO.refl _) | (with_reducible exact LeO.none _) | (with_reducible refine LeO.ite ?_ ?_) | (with_reducible refine LeO.bind ?_ (fun _ => ?_)) | exact ih0 _ | exact ih1 _ _ _ | exact LeO.none _ | refine LeO.ite ?_ ?_ | refine LeO.bind ?_ (fun _ => ?_)
theorem Qn.mono : ∀ a0 k, LeO (Qn.f k a0) (Qn.f (k + 1) a0) := by
 intro a0 k; obtain ⟨ih0, ih1⟩ := Qn.ZS k; unfold Qn.f; repeat' first | (with_reducible exact ih0 _) | (with_reducible exact ih1 _ _ _) | (with_reducible exact LeO.refl _) | (with_reducible exact LeO.none _) | (with_reducible refine LeO.ite ?_ ?_) | (with_reducible refine LeO.bind ?_ (fun _ => ?_)) | exact ih0 _ | exact ih1 _ _ _ | exact LeO.none _ | refine LeO.ite ?_ ?_ | refine LeO.bind ?_ (fun _ => ?_)
set_option maxHeartbeats 8000000 in
set_option maxRecDepth 100000 in
theorem Qn.calls (k : Nat) (A0 : Option Addr) (c0 : Nat) (l0 : List Int) (r : Int) (w : World) (hr0 : Kd.C (Kd.int .i64) w A0 l0.length l0) (hc0 : l0.length ≤ c0) (h : Qn.f k l0 = some r) :
  Calls Try.prog 84 #[.slice A0 l0.length c0] w fun e w' => e = .returned (.int .i64 r) ∧ Below w.heap.size w w' := by
 have HR0 := aa.mk hr0; have HC0 := aa.mk hc0; clear hr0 hc0; have HB := aa.mk (Below.refl w.heap.size w); have H : (if (l0.length : Int) < 1 then (if 0 ≤ (-1) then (if (-1) < (l0.length : Int) then (Qn.j0 k l0) else (none)) else (none)) else (Qn.j0 k l0)) = some r := h; clear h; have HC2 := aa.mk H; clear H; go_enter Try.func84, Try.ntmps84; go_upto_if 7 with (fail)
 go_cut [] (fun wc => ∃ (kq : Nat), aa (Qn.j0 kq l0 = some r) ∧ aa (kq ≤ k) ∧ aa (Below w.heap.size w wc))
 case first =>
  have H := HC2.out; clear HC2; by_cases c3 : (l0.length : Int) < 1
  ·rw [if_pos c3] at H; have bL : decide ((l0.length : Int) < 1) = true := decide_eq_true c3; have cA : decide (l0.length < 1) = true := decide_eq_true (by omega); clear c3; (first | rw [bL] | (simp only [QC, QD]; rw [bL]) | skip)
   by_cases c4 : 0 ≤ (-1)
   ·rw [if_pos c4] at H; have bI : decide (0 ≤ (-1)) = true := decide_eq_true c4; clear c4; by_cases c5 : (-1) < (l0.length : Int)
    ·rw [if_pos c5] at H; have dh : decide ((-1) < (l0.length : Int)) = true := decide_eq_true c5; clear c5; have H' := aa.mk H; clear H; exact absurd (show (0 : Int) ≤ -1 from of_decide_eq_true (by assumption)) (by decide)
    ·rw [if_neg c5] at H; exact absurd H (by simp)
   ·rw [if_neg c4] at H; exact absurd H (by simp)
  ·rw [if_neg c3] at H; have bL : decide ((l0.length : Int) < 1) = false := decide_eq_false c3; have cA : decide (l0.length < 1) = false := decide_eq_false (by omega); clear c3; (first | rw [bL] | (simp only [QC, QD]; rw [bL]) | skip)
   have H' := aa.mk H; clear H; go_wp2; go_meet
   case rel => exact ⟨_, H', ⟨by first | omega | exact Nat.le_refl _⟩, ⟨bB⟩⟩
 case rest =>
  clear HC2; try clear p1
  try clear q1
  try clear hx1
  try clear p2
  try clear c3
  try clear bL
  try clear cA
  try clear c4
  try clear bI
  try clear c5
  try clear dh
  try clear aU
  try clear br
  try clear bq
  obtain ⟨kq, HA, HJ1, HB⟩ := hcut; cases kq with
  | zero => exact absurd HA.out (by simp [Qn.j0])
  | succ kj1 =>
   have H := HA.out; clear HA; simp only [Qn.j0] at H; by_cases c6 : 0 < (l0.length : Int)
   ·rw [if_pos c6] at H; have gC : decide (0 < (l0.length : Int)) = true := decide_eq_true c6; have mP : decide (0 < l0.length) = true := decide_eq_true (by omega); clear c6; have H' := aa.mk H; clear H; have bH : 0 ≤ (0 : Int) := (by omega); have bG : 0 < (l0.length : Int) := of_decide_eq_true (by assumption); obtain ⟨bM, ev, aI⟩ := Kd.Zi HR0.out 0 bH bG; cases ev; have rV : (0 < l0.length) = True := eq_true (by omega); (try rw [show ((0 : Int)).toNat = 0 from rfl] at aI)
    (try rw [Addr.add_zero'] at aI)
    replace aI := (HB.out.cell (World.block_lt_of_cell? w _ aI)).trans aI; replace bH := eq_true bH; replace bG := eq_true bG; go_wp2; go_loopg [3, 4] kj1 (fun kq v3 v4 w' => ∃ (cl : Int) (aD : Int), v3 = .int .i64 cl ∧ v4 = .int .i64 aD ∧ aa (Qn.l0 kq l0 cl aD = some r) ∧ aa (kq ≤ kj1) ∧ aa (Below w.heap.size w w'))
    case atStart => exact ⟨(rd l0 0), (1), (by first | rfl | (simp; done) | (simp [*]; done)), (by first | rfl | (simp; done) | (simp [*]; done)), H', ⟨Nat.le_refl _⟩, ⟨bB⟩⟩
    case round =>
     clear H'; try clear p1
     try clear q1
     try clear hx1
     try clear qi1
     try clear p2
     try clear c3
     try clear bL
     try clear cA
     try clear c4
     try clear bI
     try clear c5
     try clear dh
     try clear c6
     try clear gC
     try clear mP
     try clear aU
     try clear aI
     try clear p1
     try clear br
     try clear bH
     try clear p2
     try clear q1
     try clear bq
     try clear bG
     obtain ⟨cl, aD, rfl, rfl, HA, HK2, HB⟩ := hrel; cases gk with
     | zero => exact absurd HA.out (by simp [Qn.l0])
     | succ k2 =>
      have H := HA.out; clear HA; simp only [Qn.l0] at H; by_cases c7 : aD < (l0.length : Int)
      ·rw [if_pos c7] at H; have iy : decide (aD < (l0.length : Int)) = true := decide_eq_true c7; clear c7; by_cases c8 : 0 ≤ aD
       ·rw [if_pos c8] at H; have dF : decide (0 ≤ aD) = true := decide_eq_true c8; clear c8; obtain ⟨ji9, lL⟩ : ∃ j_ : Int, (mn cl (rd l0 aD)) = j_ := ⟨_, rfl⟩; replace H : (Qn.l0 k2 l0 ji9 (wrap64 (aD + 1))) = some r := by first | (rw [lL] at H; exact H) | (simp only [lL] at H ⊢; exact H)
        have vf : (if (rd l0 aD) < cl then (rd l0 aD) else cl) = ji9 := lL; have H' := aa.mk H; clear H; have eg : 0 ≤ (aD : Int) := of_decide_eq_true (by assumption); have ef : aD < (l0.length : Int) := of_decide_eq_true (by assumption); obtain ⟨jI, jw, bg⟩ := Kd.Zi HR0.out aD eg ef; obtain rfl : bM = jI := (by injection jw); replace bg := (HB.out.cell (World.block_lt_of_cell? w _ bg)).trans bg; replace eg := eq_true eg; replace ef := eq_true ef; go_wp2; go_roundg k2
        case measure => have := HJ1.out; have := HK2.out; omega
        case rel => exact ⟨(ji9), (wrap64 (aD + 1)), (by first | rfl | (simp; done) | (simp only [← lL] <;> (first | rfl | simp)) | (simp [*]; done)), (by first | rfl | (simp; done) | (simp [*]; done)), H', ⟨by have := HJ1.out; have := HK2.out; omega⟩, ⟨bB⟩⟩
       ·rw [if_neg c8] at H; exact absurd H (by simp)
      ·rw [if_neg c7] at H; have iy : decide (aD < (l0.length : Int)) = false := decide_eq_false c7; clear c7; obtain rfl := Option.some.inj H; go_wp2; go_ret; exact ⟨by first | rfl | (simp [Qk, Qj] <;> rfl) | (simp [*, Qk, Qj] <;> rfl), bB⟩
   ·rw [if_neg c6] at H; exact absurd H (by simp)
def Zk.f (a0 : Int) (a1 : Int) (a2 : Int) : Option (Bool) := if a0 ≥ a1 then (some (decide (a0 ≤ a2))) else (some false)
set_option maxHeartbeats 8000000 in
set_option maxRecDepth 100000 in
theorem Zk.calls (a0 : Int) (a1 : Int) (a2 : Int) (r : Bool) (w : World) (h : Zk.f a0 a1 a2 = some r) :
  Calls Try.prog 75 #[.int .i64 a0, .int .i64 a1, .int .i64 a2] w fun e w' => e = .returned (.bool r) ∧ Drawn0 w w' := by
 have H : (if a0 ≥ a1 then (some (decide (a0 ≤ a2))) else (some false)) = some r := h; clear h; by_cases c4 : a0 ≥ a1
 ·rw [if_pos c4] at H; have bI : decide (a1 ≤ a0) = true := decide_eq_true c4; clear c4; obtain rfl := Option.some.inj H; go_enter Try.func75, Try.ntmps75; go_wp2; go_ret; exact ⟨by first | rfl | (simp; done) | (simp [*]; done), by repeat (first | exact Drawn0.refl _ | apply Drawn0.step)⟩
 ·rw [if_neg c4] at H; have bI : decide (a1 ≤ a0) = false := decide_eq_false c4; clear c4; obtain rfl := Option.some.inj H; go_enter Try.func75, Try.ntmps75; go_wp2; go_ret; exact ⟨by first | rfl | (simp; done) | (simp [*]; done), by repeat (first | exact Drawn0.refl _ | apply Drawn0.step)⟩
mutual
def Qy.j0 : Nat → List Int → Option (Int)
 | 0, _ => none
 | k + 1, x0 => if 0 < (x0.length : Int) then (Qy.l0 k x0 (rd x0 0) 1) else (none)
def Qy.l0 : Nat → List Int → Int → Int → Option (Int)
 | 0, _, _, _ => none
 | k + 1, x0, x3, x4 => if x4 < (x0.length : Int) then (if 0 ≤ x4 then (Qy.l0 k x0 (mx x3 (rd x0 x4)) (wrap64 (x4 + 1))) else (none)) else (some x3)
end
def Qy.f (k : Nat) (l0 : List Int) : Option (Int) := if (l0.length : Int) < 1 then (if 0 ≤ (-1) then (if (-1) < (l0.length : Int) then (Qy.j0 k l0) else (none)) else (none)) else (Qy.j0 k l0)
theorem Qy.ZS : ∀ k, (∀ y0, LeO (Qy.j0 k y0) (Qy.j0 (k + 1) y0)) ∧ (∀ y0 y1 y2, LeO (Qy.l0 k y0 y1 y2) (Qy.l0 (k + 1) y0 y1 y2))
 | 0 => ⟨fun _ r h => by simp [Qy.j0] at h, fun _ _ _ r h => by simp [Qy.l0] at h⟩
 | k + 1 => by
  obtain ⟨ih0, ih1⟩ := Qy.ZS k; refine ⟨?_, ?_⟩ <;> intros <;> (first | unfold Qy.j0 | unfold Qy.l0) <;> repeat' first | (with_reducible exact ih0 _) | (with_reducible exact ih1 _ _ _) | (with_reducible exact LeO.refl _) | (with_reducible exact LeO.none _) | (with_reducible refine LeO.ite ?_ ?_) | (with_reducible refine LeO.bind ?_ (fun _ => ?_)) | exact ih0 _ | exact ih1 _ _ _ | exact LeO.none _ | refine LeO.ite ?_ ?_ | refine LeO.bind ?_ (fun _ => ?_)
theorem Qy.mono : ∀ a0 k, LeO (Qy.f k a0) (Qy.f (k + 1) a0) := by
 intro a0 k; obtain ⟨ih0, ih1⟩ := Qy.ZS k; unfold Qy.f; repeat' first | (with_reducible exact ih0 _) | (with_reducible exact ih1 _ _ _) | (with_reducible exact LeO.refl _) | (with_reducible exact LeO.none _) | (with_reducible refine LeO.ite ?_ ?_) | (with_reducible refine LeO.bind ?_ (fun _ => ?_)) | exact ih0 _ | exact ih1 _ _ _ | exact LeO.none _ | refine LeO.ite ?_ ?_ | refine LeO.bind ?_ (fun _ => ?_)
set_option maxHeartbeats 8000000 in
set_option maxRecDepth 100000 in
theorem Qy.calls (k : Nat) (A0 : Option Addr) (c0 : Nat) (l0 : List Int) (r : Int) (w : World) (hr0 : Kd.C (Kd.int .i64) w A0 l0.length l0) (hc0 : l0.length ≤ c0) (h : Qy.f k l0 = some r) :
  Calls Try.prog 78 #[.slice A0 l0.length c0] w fun e w' => e = .returned (.int .i64 r) ∧ Below w.heap.size w w' := by
 have HR0 := aa.mk hr0; have HC0 := aa.mk hc0; clear hr0 hc0; have HB := aa.mk (Below.refl w.heap.size w); have H : (if (l0.length : Int) < 1 then (if 0 ≤ (-1) then (if (-1) < (l0.length : Int) then (Qy.j0 k l0) else (none)) else (none)) else (Qy.j0 k l0)) = some r := h; clear h; have HC2 := aa.mk H; clear H; go_enter Try.func78, Try.ntmps78; go_upto_if 7 with (fail)
 go_cut [] (fun wc => ∃ (kq : Nat), aa (Qy.j0 kq l0 = some r) ∧ aa (kq ≤ k) ∧ aa (Below w.heap.size w wc))
 case first =>
  have H := HC2.out; clear HC2; by_cases c3 : (l0.length : Int) < 1
  ·rw [if_pos c3] at H; have bL : decide ((l0.length : Int) < 1) = true := decide_eq_true c3; have cA : decide (l0.length < 1) = true := decide_eq_true (by omega); clear c3; (first | rw [bL] | (simp only [QC, QD]; rw [bL]) | skip)
   by_cases c4 : 0 ≤ (-1)
   ·rw [if_pos c4] at H; have bI : decide (0 ≤ (-1)) = true := decide_eq_true c4; clear c4; by_cases c5 : (-1) < (l0.length : Int)
    ·rw [if_pos c5] at H; have dh : decide ((-1) < (l0.length : Int)) = true := decide_eq_true c5; clear c5; have H' := aa.mk H; clear H; exact absurd (show (0 : Int) ≤ -1 from of_decide_eq_true (by assumption)) (by decide)
    ·rw [if_neg c5] at H; exact absurd H (by simp)
   ·rw [if_neg c4] at H; exact absurd H (by simp)
  ·rw [if_neg c3] at H; have bL : decide ((l0.length : Int) < 1) = false := decide_eq_false c3; have cA : decide (l0.length < 1) = false := decide_eq_false (by omega); clear c3; (first | rw [bL] | (simp only [QC, QD]; rw [bL]) | skip)
   have H' := aa.mk H; clear H; go_wp2; go_meet
   case rel => exact ⟨_, H', ⟨by first | omega | exact Nat.le_refl _⟩, ⟨bB⟩⟩
 case rest =>
  clear HC2; try clear p1
  try clear q1
  try clear hx1
  try clear p2
  try clear c3
  try clear bL
  try clear cA
  try clear c4
  try clear bI
  try clear c5
  try clear dh
  try clear aU
  try clear br
  try clear bq
  obtain ⟨kq, HA, HJ1, HB⟩ := hcut; cases kq with
  | zero => exact absurd HA.out (by simp [Qy.j0])
  | succ kj1 =>
   have H := HA.out; clear HA; simp only [Qy.j0] at H; by_cases c6 : 0 < (l0.length : Int)
   ·rw [if_pos c6] at H; have gC : decide (0 < (l0.length : Int)) = true := decide_eq_true c6; have mP : decide (0 < l0.length) = true := decide_eq_true (by omega); clear c6; have H' := aa.mk H; clear H; have bH : 0 ≤ (0 : Int) := (by omega); have bG : 0 < (l0.length : Int) := of_decide_eq_true (by assumption); obtain ⟨bM, ev, aI⟩ := Kd.Zi HR0.out 0 bH bG; cases ev; have rV : (0 < l0.length) = True := eq_true (by omega); (try rw [show ((0 : Int)).toNat = 0 from rfl] at aI)
    (try rw [Addr.add_zero'] at aI)
    replace aI := (HB.out.cell (World.block_lt_of_cell? w _ aI)).trans aI; replace bH := eq_true bH; replace bG := eq_true bG; go_wp2; go_loopg [3, 4] kj1 (fun kq v3 v4 w' => ∃ (cl : Int) (aD : Int), v3 = .int .i64 cl ∧ v4 = .int .i64 aD ∧ aa (Qy.l0 kq l0 cl aD = some r) ∧ aa (kq ≤ kj1) ∧ aa (Below w.heap.size w w'))
    case atStart => exact ⟨(rd l0 0), (1), (by first | rfl | (simp; done) | (simp [*]; done)), (by first | rfl | (simp; done) | (simp [*]; done)), H', ⟨Nat.le_refl _⟩, ⟨bB⟩⟩
    case round =>
     clear H'; try clear p1
     try clear q1
     try clear hx1
     try clear qi1
     try clear p2
     try clear c3
     try clear bL
     try clear cA
     try clear c4
     try clear bI
     try clear c5
     try clear dh
     try clear c6
     try clear gC
     try clear mP
     try clear aU
     try clear aI
     try clear p1
     try clear br
     try clear bH
     try clear p2
     try clear q1
     try clear bq
     try clear bG
     obtain ⟨cl, aD, rfl, rfl, HA, HK2, HB⟩ := hrel; cases gk with
     | zero => exact absurd HA.out (by simp [Qy.l0])
     | succ k2 =>
      have H := HA.out; clear HA; simp only [Qy.l0] at H; by_cases c7 : aD < (l0.length : Int)
      ·rw [if_pos c7] at H; have iy : decide (aD < (l0.length : Int)) = true := decide_eq_true c7; clear c7; by_cases c8 : 0 ≤ aD
       ·rw [if_pos c8] at H; have dF : decide (0 ≤ aD) = true := decide_eq_true c8; clear c8; obtain ⟨ji9, lL⟩ : ∃ j_ : Int, (mx cl (rd l0 aD)) = j_ := ⟨_, rfl⟩; replace H : (Qy.l0 k2 l0 ji9 (wrap64 (aD + 1))) = some r := by first | (rw [lL] at H; exact H) | (simp only [lL] at H ⊢; exact H)
        have vf : (if cl < (rd l0 aD) then (rd l0 aD) else cl) = ji9 := lL; have H' := aa.mk H; clear H; have eg : 0 ≤ (aD : Int) := of_decide_eq_true (by assumption); have ef : aD < (l0.length : Int) := of_decide_eq_true (by assumption); obtain ⟨jI, jw, bg⟩ := Kd.Zi HR0.out aD eg ef; obtain rfl : bM = jI := (by injection jw); replace bg := (HB.out.cell (World.block_lt_of_cell? w _ bg)).trans bg; replace eg := eq_true eg; replace ef := eq_true ef; go_wp2; go_roundg k2
        case measure => have := HJ1.out; have := HK2.out; omega
        case rel => exact ⟨(ji9), (wrap64 (aD + 1)), (by first | rfl | (simp; done) | (simp only [← lL] <;> (first | rfl | simp)) | (simp [*]; done)), (by first | rfl | (simp; done) | (simp [*]; done)), H', ⟨by have := HJ1.out; have := HK2.out; omega⟩, ⟨bB⟩⟩
       ·rw [if_neg c8] at H; exact absurd H (by simp)
      ·rw [if_neg c7] at H; have iy : decide (aD < (l0.length : Int)) = false := decide_eq_false c7; clear c7; obtain rfl := Option.some.inj H; go_wp2; go_ret; exact ⟨by first | rfl | (simp [Qk, Qj] <;> rfl) | (simp [*, Qk, Qj] <;> rfl), bB⟩
   ·rw [if_neg c6] at H; exact absurd H (by simp)
def Q5.f (ae : List (List Int)) (af : List (List Int)) : Option (Int) := some (wrap64 ((ae.length : Int) + (af.length : Int)))
set_option maxHeartbeats 8000000 in
set_option maxRecDepth 100000 in
theorem Q5.calls (ak : Option Addr) (an : Nat) (ae : List (List Int)) (aj : Option Addr) (al : Nat) (af : List (List Int)) (r : Int) (w : World) (aM : Kd.C (Kd.slice 3 (Kd.int .i64)) w ak ae.length ae) (aQ : ae.length ≤ an) (aK : Kd.C (Kd.slice 3 (Kd.int .i64)) w aj af.length af) (aN : af.length ≤ al) (h : Q5.f ae af = some r) :
  Calls Try.prog 71 #[.agg #[.slice ak ae.length an, .slice aj af.length al]] w fun e w' => e = .returned (.int .i64 r) ∧ Below w.heap.size w w' := by
 have ej := Try.underlying24; have ay := aa.mk aM; have aA := aa.mk aQ; clear aM aQ; have az := aa.mk aK; have aC := aa.mk aN; clear aK aN; have HB := aa.mk (Below.refl w.heap.size w); have H : (some (wrap64 ((ae.length : Int) + (af.length : Int)))) = some r := h; clear h; obtain rfl := Option.some.inj H; go_enter Try.func71, Try.ntmps71; go_wp2_with (first | ((with_reducible refine QN (N := 1) rfl ?_); refine Q3 ?hg (N := 1) ?hd (cs := #[.slice ak ae.length an, .slice aj af.length al]) (t := 24) ?hr ?_; (case hd => rfl); (case hg => rfl); (case hr => first | (go_simp; done) | (go_simp; rfl)); intro ag hg w2 hbox hb; have ab := aa.mk (hbox); have bh := aa.mk ((by rw [hg]; exact (Qb bB) : w.heap.size ≤ ag)); have aT := aa.mk ((by rw [hg]; exact (Qb bB) : w.heap.size ≤ ag)); replace HB := aa.mk (Qa bB hb); clear hb hbox hg; have zj : w2.cell? ⟨ag, 0, none⟩ = some (.slice ak ae.length an) := (Qd ab.out 0).trans rfl; have zi : w2.cell? ⟨ag, 1, none⟩ = some (.slice aj af.length al) := (Qd ab.out 1).trans rfl; have zc := Qc ab.out 0; have zb := Qc ab.out 1))
 go_ret; exact ⟨by first | rfl | (simp [Qk, Qj] <;> rfl) | (simp [*, Qk, Qj] <;> rfl), bB⟩
def QT.l0 : Nat → List Int → List Int → Int → Int → Option (Bool)
 | 0, _, _, _, _ => none
 | k + 1, x0, x1, x12, x13 => if x13 < x12 then (if 0 ≤ x13 then (if x13 < (x0.length : Int) then (if x13 < (x1.length : Int) then (if (rd x0 x13) = (rd x1 x13) then (QT.l0 k x0 x1 x12 (wrap64 (x13 + 1))) else (some false)) else (none)) else (none)) else (none)) else (some true)
def QT.f (k : Nat) (l0 : List Int) (l1 : List Int) : Option (Bool) := if (l0.length : Int) = (l1.length : Int) then (QT.l0 k l0 l1 (l0.length : Int) 0) else (some false)
theorem QT.ZS : ∀ k, (∀ y0 y1 y2 y3, LeO (QT.l0 k y0 y1 y2 y3) (QT.l0 (k + 1) y0 y1 y2 y3))
 | 0 => fun _ _ _ _ r h => by simp [QT.l0] at h
 | k + 1 => by
  have ih0 := QT.ZS k
  ·intro y0 y1 y2 y3; unfold QT.l0; repeat' first | (with_reducible exact ih0 _ _ _ _) | (with_reducible exact LeO.refl _) | (with_reducible exact LeO.none _) | (with_reducible refine LeO.ite ?_ ?_) | (with_reducible refine LeO.bind ?_ (fun _ => ?_)) | exact ih0 _ _ _ _ | exact LeO.none _ | refine LeO.ite ?_ ?_ | refine LeO.bind ?_ (fun _ => ?_)
theorem QT.mono : ∀ a0 a1 k, LeO (QT.f k a0 a1) (QT.f (k + 1) a0 a1) := by
 intro a0 a1 k; have ih0 := QT.ZS k; unfold QT.f; repeat' first | (with_reducible exact ih0 _ _ _ _) | (with_reducible exact LeO.refl _) | (with_reducible exact LeO.none _) | (with_reducible refine LeO.ite ?_ ?_) | (with_reducible refine LeO.bind ?_ (fun _ => ?_)) | exact ih0 _ _ _ _ | exact LeO.none _ | refine LeO.ite ?_ ?_ | refine LeO.bind ?_ (fun _ => ?_)
set_option maxHeartbeats 8000000 in
set_option maxRecDepth 100000 in
theorem QT.calls (k : Nat) (A0 : Option Addr) (c0 : Nat) (l0 : List Int) (A1 : Option Addr) (c1 : Nat) (l1 : List Int) (r : Bool) (w : World) (hr0 : Kd.C (Kd.int .i64) w A0 l0.length l0) (hc0 : l0.length ≤ c0) (hr1 : Kd.C (Kd.int .i64) w A1 l1.length l1) (hc1 : l1.length ≤ c1) (h : QT.f k l0 l1 = some r) :
  Calls Try.prog 122 #[.slice A0 l0.length c0, .slice A1 l1.length c1] w fun e w' => e = .returned (.bool r) ∧ Drawn0 w w' := by
 have HR0 := aa.mk hr0; have HC0 := aa.mk hc0; clear hr0 hc0; have HR1 := aa.mk hr1; have HC1 := aa.mk hc1; clear hr1 hc1; have H : (if (l0.length : Int) = (l1.length : Int) then (QT.l0 k l0 l1 (l0.length : Int) 0) else (some false)) = some r := h; clear h; by_cases c3 : (l0.length : Int) = (l1.length : Int)
 ·rw [if_pos c3] at H; have bL : ((l0.length : Int) == (l1.length : Int)) = true := beq_iff_eq.mpr c3; have cA : ((l0.length : Int) != (l1.length : Int)) = false := bne_eq_false_iff_eq.mpr c3; have jy : (l0.length == l1.length) = true := by first | simpa using c3 | (simp at c3 ⊢; omega)
  clear c3; have H' := aa.mk H; clear H; go_enter Try.func122, Try.ntmps122; go_wp2; repeat (go_quiet (fail); try go_wp2)
  go_loopg [13] k (fun kq v13 w' => ∃ (bW : Int), v13 = .int .i64 bW ∧ aa (QT.l0 kq l0 l1 (l0.length : Int) bW = some r) ∧ aa (kq ≤ k) ∧ Drawn0 w w')
  case atStart => exact ⟨(0), (by first | rfl | (simp; done) | (simp [*]; done)), H', ⟨Nat.le_refl _⟩, by repeat (first | exact Drawn0.refl _ | apply Drawn0.step)⟩
  case round =>
   clear H'; try clear c1
   try clear p2
   try clear c3
   try clear bL
   try clear cA
   try clear jy
   obtain ⟨bW, rfl, HA, HK1, ⟨m1, rfl⟩⟩ := hrel; cases gk with
   | zero => exact absurd HA.out (by simp [QT.l0])
   | succ k1 =>
    have H := HA.out; clear HA; simp only [QT.l0] at H; by_cases c4 : bW < (l0.length : Int)
    ·rw [if_pos c4] at H; have bI : decide (bW < (l0.length : Int)) = true := decide_eq_true c4; clear c4; by_cases c5 : 0 ≤ bW
     ·rw [if_pos c5] at H; have dh : decide (0 ≤ bW) = true := decide_eq_true c5; clear c5; by_cases c6 : bW < (l0.length : Int)
      ·rw [if_pos c6] at H; have gC : decide (bW < (l0.length : Int)) = true := decide_eq_true c6; clear c6; by_cases c7 : bW < (l1.length : Int)
       ·rw [if_pos c7] at H; have iy : decide (bW < (l1.length : Int)) = true := decide_eq_true c7; clear c7; by_cases c8 : (rd l0 bW) = (rd l1 bW)
        ·rw [if_pos c8] at H; have dF : ((rd l0 bW) == (rd l1 bW)) = true := beq_iff_eq.mpr c8; have jx : ((rd l0 bW) != (rd l1 bW)) = false := bne_eq_false_iff_eq.mpr c8; clear c8; have H' := aa.mk H; clear H; have br : 0 ≤ (bW : Int) := of_decide_eq_true (by assumption); have bq : bW < (l0.length : Int) := of_decide_eq_true (by assumption); obtain ⟨cg, di, aU⟩ := Kd.Zi HR0.out bW br bq; cases di; replace br := eq_true br; replace bq := eq_true bq; have bH : 0 ≤ (bW : Int) := of_decide_eq_true (by assumption); have bG : bW < (l1.length : Int) := of_decide_eq_true (by assumption); obtain ⟨bM, ev, aI⟩ := Kd.Zi HR1.out bW bH bG; cases ev; replace bH := eq_true bH; replace bG := eq_true bG; go_wp2; repeat (go_quiet (fail); try go_wp2)
         go_roundg k1
         case measure => have := HK1.out; omega
         case rel => exact ⟨(wrap64 (bW + 1)), (by first | rfl | (simp; done) | (simp [*]; done)), H', ⟨by have := HK1.out; omega⟩, by repeat (first | exact Drawn0.refl _ | apply Drawn0.step)⟩
        ·rw [if_neg c8] at H; have dF : ((rd l0 bW) == (rd l1 bW)) = false := beq_eq_false_iff_ne.mpr c8; have jx : ((rd l0 bW) != (rd l1 bW)) = true := bne_iff_ne.mpr c8; obtain rfl := Option.some.inj H; have br : 0 ≤ (bW : Int) := of_decide_eq_true (by assumption); have bq : bW < (l0.length : Int) := of_decide_eq_true (by assumption); obtain ⟨cg, di, aU⟩ := Kd.Zi HR0.out bW br bq; cases di; replace br := eq_true br; replace bq := eq_true bq; have bH : 0 ≤ (bW : Int) := of_decide_eq_true (by assumption); have bG : bW < (l1.length : Int) := of_decide_eq_true (by assumption); obtain ⟨bM, ev, aI⟩ := Kd.Zi HR1.out bW bH bG; cases ev; replace bH := eq_true bH; replace bG := eq_true bG; go_wp2; repeat (go_quiet (fail); try go_wp2)
         go_ret; exact ⟨by first | rfl | (simp; done) | (simp [*]; done), by repeat (first | exact Drawn0.refl _ | apply Drawn0.step)⟩
       ·rw [if_neg c7] at H; exact absurd H (by simp)
      ·rw [if_neg c6] at H; exact absurd H (by simp)
     ·rw [if_neg c5] at H; exact absurd H (by simp)
    ·rw [if_neg c4] at H; have bI : decide (bW < (l0.length : Int)) = false := decide_eq_false c4; clear c4; obtain rfl := Option.some.inj H; go_wp2; repeat (go_quiet (fail); try go_wp2)
     go_ret; exact ⟨by first | rfl | (simp; done) | (simp [*]; done), by repeat (first | exact Drawn0.refl _ | apply Drawn0.step)⟩
 ·rw [if_neg c3] at H; have bL : ((l0.length : Int) == (l1.length : Int)) = false := beq_eq_false_iff_ne.mpr c3; have cA : ((l0.length : Int) != (l1.length : Int)) = true := bne_iff_ne.mpr c3; have jy : (l0.length == l1.length) = false := by first | simpa using c3 | (simp at c3 ⊢; omega)
  obtain rfl := Option.some.inj H; go_enter Try.func122, Try.ntmps122; go_wp2; repeat (go_quiet (fail); try go_wp2)
  go_ret; exact ⟨by first | rfl | (simp; done) | (simp [*]; done), by repeat (first | exact Drawn0.refl _ | apply Drawn0.step)⟩
def Zu.l0 : Nat → Int → Int → Option (Int)
 | 0, _, _ => none
 | k + 1, x0, x1 => if x1 = 0 then (some (mx x0 (wrap64 (-x0)))) else (Zu.l0 k x1 (Int.tmod x0 x1))
def Zu.f (k : Nat) (a0 : Int) (a1 : Int) : Option (Int) := Zu.l0 k a0 a1
set_option maxHeartbeats 8000000 in
set_option maxRecDepth 100000 in
theorem Zu.calls (k : Nat) (a0 : Int) (a1 : Int) (r : Int) (w : World) (h : Zu.f k a0 a1 = some r) :
  Calls Try.prog 117 #[.int .i64 a0, .int .i64 a1] w fun e w' => e = .returned (.int .i64 r) ∧ Below w.heap.size w w' := by
 have HB := aa.mk (Below.refl w.heap.size w); have H : (Zu.l0 k a0 a1) = some r := h; clear h; have H' := aa.mk H; clear H; go_enter Try.func117, Try.ntmps117; go_wp2; repeat (go_quiet (fail); try go_wp2)
 go_loopg [0, 1] k (fun kq v0 v1 w' => ∃ (ld : Int) (lb : Int), v0 = .int .i64 ld ∧ v1 = .int .i64 lb ∧ aa (Zu.l0 kq ld lb = some r) ∧ aa (kq ≤ k) ∧ aa (Below w.heap.size w w'))
 case atStart => exact ⟨(a0), (a1), (by first | rfl | (simp; done) | (simp [*]; done)), (by first | rfl | (simp; done) | (simp [*]; done)), H', ⟨Nat.le_refl _⟩, ⟨bB⟩⟩
 case round =>
  clear H'; try clear c1
  try clear p2
  obtain ⟨ld, lb, rfl, rfl, HA, HK1, HB⟩ := hrel; cases gk with
  | zero => exact absurd HA.out (by simp [Zu.l0])
  | succ k1 =>
   have H := HA.out; clear HA; simp only [Zu.l0] at H; by_cases c3 : lb = 0
   ·rw [if_pos c3] at H; have bL : (lb == 0) = true := beq_iff_eq.mpr c3; have cA : (lb != 0) = false := bne_eq_false_iff_eq.mpr c3; clear c3; obtain ⟨ji4, ib⟩ : ∃ j_ : Int, (mx ld (wrap64 (-ld))) = j_ := ⟨_, rfl⟩; replace H : (some ji4) = some r := by first | (rw [ib] at H; exact H) | (simp only [ib] at H ⊢; exact H)
    have sc : (if ld < (wrap64 (-ld)) then (wrap64 (-ld)) else ld) = ji4 := ib; obtain rfl := Option.some.inj H; go_wp2; repeat (go_quiet (fail); try go_wp2)
    go_ret; exact ⟨by first | rfl | (simp [Qk, Qj] <;> rfl) | (simp only [← ib]; first | rfl | (simp [Qk, Qj] <;> rfl)) | (simp [*, Qk, Qj] <;> rfl), bB⟩
   ·rw [if_neg c3] at H; have bL : (lb == 0) = false := beq_eq_false_iff_ne.mpr c3; have cA : (lb != 0) = true := bne_iff_ne.mpr c3; have H' := aa.mk H; clear H; go_wp2; repeat (go_quiet (fail); try go_wp2)
    go_roundg k1
    case measure => have := HK1.out; omega
    case rel => exact ⟨(lb), (Int.tmod ld lb), (by first | rfl | (simp; done) | (simp [*]; done)), (by first | rfl | (simp; done) | (simp [*]; done)), H', ⟨by have := HK1.out; omega⟩, ⟨bB⟩⟩
def Ze.l0 : Nat → List Int → Int → Int → Int → Option (Int)
 | 0, _, _, _, _ => none
 | k + 1, x0, x1, x7, x8 => if x8 < x7 then (if 0 ≤ x8 then (if x8 < (x0.length : Int) then (if x1 = (rd x0 x8) then (some x8) else (Ze.l0 k x0 x1 x7 (wrap64 (x8 + 1)))) else (none)) else (none)) else (some (-1))
def Ze.f (k : Nat) (l0 : List Int) (a1 : Int) : Option (Int) := Ze.l0 k l0 a1 (l0.length : Int) 0
set_option maxHeartbeats 8000000 in
set_option maxRecDepth 100000 in
theorem Ze.calls (k : Nat) (A0 : Option Addr) (c0 : Nat) (l0 : List Int) (a1 : Int) (r : Int) (w : World) (hr0 : Kd.C (Kd.int .i64) w A0 l0.length l0) (hc0 : l0.length ≤ c0) (h : Ze.f k l0 a1 = some r) :
  Calls Try.prog 130 #[.slice A0 l0.length c0, .int .i64 a1] w fun e w' => e = .returned (.int .i64 r) ∧ Drawn0 w w' := by
 have HR0 := aa.mk hr0; have HC0 := aa.mk hc0; clear hr0 hc0; have H : (Ze.l0 k l0 a1 (l0.length : Int) 0) = some r := h; clear h; have H' := aa.mk H; clear H; go_enter Try.func130, Try.ntmps130; go_wp2; go_loopg [8] k (fun kq v8 w' => ∃ (fu : Int), v8 = .int .i64 fu ∧ aa (Ze.l0 kq l0 a1 (l0.length : Int) fu = some r) ∧ aa (kq ≤ k) ∧ Drawn0 w w')
 case atStart => exact ⟨(0), (by first | rfl | (simp; done) | (simp [*]; done)), H', ⟨Nat.le_refl _⟩, by repeat (first | exact Drawn0.refl _ | apply Drawn0.step)⟩
 case round =>
  clear H'; try clear c1
  try clear p2
  obtain ⟨fu, rfl, HA, HK1, ⟨m1, rfl⟩⟩ := hrel; cases gk with
  | zero => exact absurd HA.out (by simp [Ze.l0])
  | succ k1 =>
   have H := HA.out; clear HA; simp only [Ze.l0] at H; by_cases c3 : fu < (l0.length : Int)
   ·rw [if_pos c3] at H; have bL : decide (fu < (l0.length : Int)) = true := decide_eq_true c3; clear c3; by_cases c4 : 0 ≤ fu
    ·rw [if_pos c4] at H; have bI : decide (0 ≤ fu) = true := decide_eq_true c4; clear c4; by_cases c5 : fu < (l0.length : Int)
     ·rw [if_pos c5] at H; have dh : decide (fu < (l0.length : Int)) = true := decide_eq_true c5; clear c5; by_cases c6 : a1 = (rd l0 fu)
      ·rw [if_pos c6] at H; have gC : (a1 == (rd l0 fu)) = true := beq_iff_eq.mpr c6; have mP : (a1 != (rd l0 fu)) = false := bne_eq_false_iff_eq.mpr c6; clear c6; obtain rfl := Option.some.inj H; have br : 0 ≤ (fu : Int) := of_decide_eq_true (by assumption); have bq : fu < (l0.length : Int) := of_decide_eq_true (by assumption); obtain ⟨cg, di, aU⟩ := Kd.Zi HR0.out fu br bq; cases di; replace br := eq_true br; replace bq := eq_true bq; go_wp2; go_ret; exact ⟨by first | rfl | (simp; done) | (simp [*]; done), by repeat (first | exact Drawn0.refl _ | apply Drawn0.step)⟩
      ·rw [if_neg c6] at H; have gC : (a1 == (rd l0 fu)) = false := beq_eq_false_iff_ne.mpr c6; have mP : (a1 != (rd l0 fu)) = true := bne_iff_ne.mpr c6; have H' := aa.mk H; clear H; have br : 0 ≤ (fu : Int) := of_decide_eq_true (by assumption); have bq : fu < (l0.length : Int) := of_decide_eq_true (by assumption); obtain ⟨cg, di, aU⟩ := Kd.Zi HR0.out fu br bq; cases di; replace br := eq_true br; replace bq := eq_true bq; go_wp2; go_roundg k1
       case measure => have := HK1.out; omega
       case rel => exact ⟨(wrap64 (fu + 1)), (by first | rfl | (simp; done) | (simp [*]; done)), H', ⟨by have := HK1.out; omega⟩, by repeat (first | exact Drawn0.refl _ | apply Drawn0.step)⟩
     ·rw [if_neg c5] at H; exact absurd H (by simp)
    ·rw [if_neg c4] at H; exact absurd H (by simp)
   ·rw [if_neg c3] at H; have bL : decide (fu < (l0.length : Int)) = false := decide_eq_false c3; clear c3; obtain rfl := Option.some.inj H; go_wp2; go_ret; exact ⟨by first | rfl | (simp; done) | (simp [*]; done), by repeat (first | exact Drawn0.refl _ | apply Drawn0.step)⟩
def ZT.f (k : Nat) (l0 : List Int) (a1 : Int) : Option (Bool) := (Ze.f k l0 a1).bind fun t101 => (some (decide (t101 ≥ 0)))
set_option maxHeartbeats 8000000 in
set_option maxRecDepth 100000 in
theorem ZT.calls (k : Nat) (A0 : Option Addr) (c0 : Nat) (l0 : List Int) (a1 : Int) (r : Bool) (w : World) (hr0 : Kd.C (Kd.int .i64) w A0 l0.length l0) (hc0 : l0.length ≤ c0) (h : ZT.f k l0 a1 = some r) :
  Calls Try.prog 116 #[.slice A0 l0.length c0, .int .i64 a1] w fun e w' => e = .returned (.bool r) ∧ Drawn0 w w' := by
 have HR0 := aa.mk hr0; have HC0 := aa.mk hc0; clear hr0 hc0; have H : ((Ze.f k l0 a1).bind fun t101 => (some (decide (t101 ≥ 0)))) = some r := h; clear h; replace H := Option.bind_eq_some_iff.mp H; obtain ⟨t101, A30, H⟩ := H; replace H : (some (decide (t101 ≥ 0))) = some r := H; have A3 := aa.mk A30; clear A30; obtain rfl := Option.some.inj H; go_enter Try.func116, Try.ntmps116; go_wp2_with (first | ((with_reducible refine Qh (f := 130) rfl ?_); refine QG (some 7) rfl rfl Try.func130 (by kernel_rfl) rfl #[.slice A0 l0.length c0, .int .i64 a1] rfl hA ?_; (with_reducible refine (Ze.calls k _ _ l0 a1 t101 _ ?ah ?ai A3.out).mono ?_); (case ah => exact HR0.out); (case ai => exact HC0.out); rintro e w' ⟨rfl, ⟨nd, rfl⟩⟩; refine ⟨_, rfl, ?_⟩))
 go_ret; exact ⟨by first | rfl | (simp; done) | (simp [*]; done), by repeat (first | exact Drawn0.refl _ | apply Drawn0.step)⟩
def QP.f (a0 : Int) (a1 : Int) (a2 : Int) : Option (Bool) := if a0 ≥ a1 then (some (decide (a0 ≤ a2))) else (some false)
set_option maxHeartbeats 8000000 in
set_option maxRecDepth 100000 in
theorem QP.calls (a0 : Int) (a1 : Int) (a2 : Int) (r : Bool) (w : World) (h : QP.f a0 a1 a2 = some r) :
  Calls Try.prog 99 #[.int .i64 a0, .int .i64 a1, .int .i64 a2] w fun e w' => e = .returned (.bool r) ∧ Drawn0 w w' := by
 have H : (if a0 ≥ a1 then (some (decide (a0 ≤ a2))) else (some false)) = some r := h; clear h; by_cases c4 : a0 ≥ a1
 ·rw [if_pos c4] at H; have bI : decide (a1 ≤ a0) = true := decide_eq_true c4; clear c4; obtain rfl := Option.some.inj H; go_enter Try.func99, Try.ntmps99; go_wp2; go_ret; exact ⟨by first | rfl | (simp; done) | (simp [*]; done), by repeat (first | exact Drawn0.refl _ | apply Drawn0.step)⟩
 ·rw [if_neg c4] at H; have bI : decide (a1 ≤ a0) = false := decide_eq_false c4; clear c4; obtain rfl := Option.some.inj H; go_enter Try.func99, Try.ntmps99; go_wp2; go_ret; exact ⟨by first | rfl | (simp; done) | (simp [*]; done), by repeat (first | exact Drawn0.refl _ | apply Drawn0.step)⟩
def Q7.l0 : Nat → List Int → Int → Int → Int → Int → Option (Bool)
 | 0, _, _, _, _, _ => none
 | k + 1, x0, x1, x2, x3, x9 => if x9 < x1 then (if 0 ≤ x9 then (if x9 < (x0.length : Int) then ((QP.f (rd x0 x9) x2 x3).bind fun t102 => (if t102 = true then (Q7.l0 k x0 x1 x2 x3 (wrap64 (x9 + 1))) else (some false))) else (none)) else (none)) else (some true)
def Q7.f (k : Nat) (l0 : List Int) (a1 : Int) (a2 : Int) (a3 : Int) : Option (Bool) := if (l0.length : Int) = a1 then (Q7.l0 k l0 a1 a2 a3 0) else (some false)
set_option maxHeartbeats 8000000 in
set_option maxRecDepth 100000 in
theorem Q7.calls (k : Nat) (A0 : Option Addr) (c0 : Nat) (l0 : List Int) (a1 : Int) (a2 : Int) (a3 : Int) (r : Bool) (w : World) (hr0 : Kd.C (Kd.int .i64) w A0 l0.length l0) (hc0 : l0.length ≤ c0) (h : Q7.f k l0 a1 a2 a3 = some r) :
  Calls Try.prog 121 #[.slice A0 l0.length c0, .int .i64 a1, .int .i64 a2, .int .i64 a3] w fun e w' => e = .returned (.bool r) ∧ Drawn0 w w' := by
 have HR0 := aa.mk hr0; have HC0 := aa.mk hc0; clear hr0 hc0; have H : (if (l0.length : Int) = a1 then (Q7.l0 k l0 a1 a2 a3 0) else (some false)) = some r := h; clear h; by_cases c5 : (l0.length : Int) = a1
 ·rw [if_pos c5] at H; have dh : ((l0.length : Int) == a1) = true := beq_iff_eq.mpr c5; have iz : ((l0.length : Int) != a1) = false := bne_eq_false_iff_eq.mpr c5; clear c5; have H' := aa.mk H; clear H; go_enter Try.func121, Try.ntmps121; go_wp2; go_loopg [9] k (fun kq v9 w' => ∃ (fb : Int), v9 = .int .i64 fb ∧ aa (Q7.l0 kq l0 a1 a2 a3 fb = some r) ∧ aa (kq ≤ k) ∧ Drawn0 w w')
  case atStart => exact ⟨(0), (by first | rfl | (simp; done) | (simp [*]; done)), H', ⟨Nat.le_refl _⟩, by repeat (first | exact Drawn0.refl _ | apply Drawn0.step)⟩
  case round =>
   clear H'; try clear c1
   try clear p2
   try clear c5
   try clear dh
   try clear iz
   obtain ⟨fb, rfl, HA, HK1, ⟨m1, rfl⟩⟩ := hrel; cases gk with
   | zero => exact absurd HA.out (by simp [Q7.l0])
   | succ k1 =>
    have H := HA.out; clear HA; simp only [Q7.l0] at H; by_cases c6 : fb < a1
    ·rw [if_pos c6] at H; have gC : decide (fb < a1) = true := decide_eq_true c6; clear c6; by_cases c7 : 0 ≤ fb
     ·rw [if_pos c7] at H; have iy : decide (0 ≤ fb) = true := decide_eq_true c7; clear c7; by_cases c8 : fb < (l0.length : Int)
      ·rw [if_pos c8] at H; have dF : decide (fb < (l0.length : Int)) = true := decide_eq_true c8; clear c8; replace H := Option.bind_eq_some_iff.mp H; obtain ⟨t102, A90, H⟩ := H; replace H : (if t102 = true then (Q7.l0 k1 l0 a1 a2 a3 (wrap64 (fb + 1))) else (some false)) = some r := H; have A9 := aa.mk A90; clear A90; by_cases c10 : t102 = true
       ·subst c10; have H1 : (Q7.l0 k1 l0 a1 a2 a3 (wrap64 (fb + 1))) = some r := by rw [if_pos rfl] at H; exact H
        clear H; have H := H1; clear H1; have H' := aa.mk H; clear H; have br : 0 ≤ (fb : Int) := of_decide_eq_true (by assumption); have bq : fb < (l0.length : Int) := of_decide_eq_true (by assumption); obtain ⟨cg, di, aU⟩ := Kd.Zi HR0.out fb br bq; cases di; replace br := eq_true br; replace bq := eq_true bq; go_wp2_with (first | ((with_reducible refine Qh (f := 99) rfl ?_); refine QG (some 25) rfl rfl Try.func99 (by kernel_rfl) rfl #[.int .i64 (rd l0 fb), .int .i64 a2, .int .i64 a3] rfl hA ?_; (with_reducible refine (QP.calls (rd l0 fb) a2 a3 true _ A9.out).mono ?_); rintro e w' ⟨rfl, ⟨nd, rfl⟩⟩; refine ⟨_, rfl, ?_⟩))
        go_roundg k1
        case measure => have := HK1.out; omega
        case rel => exact ⟨(wrap64 (fb + 1)), (by first | rfl | (simp; done) | (simp [*]; done)), H', ⟨by have := HK1.out; omega⟩, by repeat (first | exact Drawn0.refl _ | apply Drawn0.step)⟩
       ·replace c10 := Bool.eq_false_iff.mpr c10; subst c10; have H1 : (some false) = some r := by rw [if_neg (show ¬ (false = true) by decide)] at H; exact H
        clear H; have H := H1; clear H1; obtain rfl := Option.some.inj H; have br : 0 ≤ (fb : Int) := of_decide_eq_true (by assumption); have bq : fb < (l0.length : Int) := of_decide_eq_true (by assumption); obtain ⟨cg, di, aU⟩ := Kd.Zi HR0.out fb br bq; cases di; replace br := eq_true br; replace bq := eq_true bq; go_wp2_with (first | ((with_reducible refine Qh (f := 99) rfl ?_); refine QG (some 25) rfl rfl Try.func99 (by kernel_rfl) rfl #[.int .i64 (rd l0 fb), .int .i64 a2, .int .i64 a3] rfl hA ?_; (with_reducible refine (QP.calls (rd l0 fb) a2 a3 false _ A9.out).mono ?_); rintro e w' ⟨rfl, ⟨nd, rfl⟩⟩; refine ⟨_, rfl, ?_⟩))
        go_ret; exact ⟨by first | rfl | (simp; done) | (simp [*]; done), by repeat (first | exact Drawn0.refl _ | apply Drawn0.step)⟩
      ·rw [if_neg c8] at H; exact absurd H (by simp)
     ·rw [if_neg c7] at H; exact absurd H (by simp)
    ·rw [if_neg c6] at H; have gC : decide (fb < a1) = false := decide_eq_false c6; clear c6; obtain rfl := Option.some.inj H; go_wp2; go_ret; exact ⟨by first | rfl | (simp; done) | (simp [*]; done), by repeat (first | exact Drawn0.refl _ | apply Drawn0.step)⟩
 ·rw [if_neg c5] at H; have dh : ((l0.length : Int) == a1) = false := beq_eq_false_iff_ne.mpr c5; have iz : ((l0.length : Int) != a1) = true := bne_iff_ne.mpr c5; obtain rfl := Option.some.inj H; go_enter Try.func121, Try.ntmps121; go_wp2; go_ret; exact ⟨by first | rfl | (simp; done) | (simp [*]; done), by repeat (first | exact Drawn0.refl _ | apply Drawn0.step)⟩
mutual
def Qe.j0 : Nat → Bool → List (List Int) → List (List Int) → Option (Int)
 | 0, _, _, _ => none
 | k + 1, x27, av, aw => if x27 = true then (some 1) else ((some (([] : List (List Int)) : List (List Int))).bind fun gE => (if gE.length + av.length < 5864062014805 then ((some (gE ++ av : List (List Int))).bind fun ft => (if ft.length + aw.length < 5864062014805 then (Qe.l0 k (ft ++ aw) 0 av aw) else (none))) else (none)))
def Qe.l0 : Nat → List (List Int) → Int → List (List Int) → List (List Int) → Option (Int)
 | 0, _, _, _, _ => none
 | k + 1, x3, x4, av, aw => if x4 < (x3.length : Int) then (if 0 ≤ x4 then (if 0 < (av.length : Int) then (if ((Qu x3 x4).length : Int) = ((Qu av 0).length : Int) then (Qe.l1 k x3 x4 0 0 av aw) else (some 1)) else (none)) else (none)) else (some 0)
def Qe.l1 : Nat → List (List Int) → Int → Int → Int → List (List Int) → List (List Int) → Option (Int)
 | 0, _, _, _, _, _, _ => none
 | k + 1, x3, x4, x5, x6, av, aw => if 0 ≤ x4 then (if x4 < (x3.length : Int) then (if x6 < ((Qu x3 x4).length : Int) then (if 0 ≤ x6 then ((QP.f (rd (Qu x3 x4) x6) 0 9).bind fun t120 => (if t120 = true then (Qe.l1 k x3 x4 (wrap64 (x5 + (rd (Qu x3 x4) x6))) (wrap64 (x6 + 1)) av aw) else (some 1))) else (none)) else (if x5 = 0 then (some 1) else (Qe.l0 k x3 (wrap64 (x4 + 1)) av aw))) else (none)) else (none)
end
def Qe.f (k : Nat) (ae : List (List Int)) (af : List (List Int)) : Option (Int) := (QP.f (ae.length : Int) 1 3).bind fun t102 => (if t102 = true then ((QP.f (af.length : Int) 1 3).bind fun t103 => (if t103 = true then (if 0 < (ae.length : Int) then ((QP.f ((Qu ae 0).length : Int) 1 4).bind fun t105 => (Qe.j0 k (!t105) ae af)) else (none)) else (Qe.j0 k true ae af))) else (Qe.j0 k true ae af))
def Qe.T3 : Bool × List (List Nat × List Nat) := (true, [([], []), ([], []), ([1], [1]), ([0, 2], [0, 2]), ([], []), ([4], [4]), ([3, 5, 3], [3, 5]), ([6, 6, 0, 1, 2, 3, 4, 5, 6], [6])])
def Qe.B3 : List Nat := [0, 0, 2, 7, 0, 16, 63, 127]
theorem Qe.tab3 : rtab .any (opsOf Try.f55 3) = Qe.T3 := by kernel_rfl
theorem Qe.bits3 : waitsOk Qe.T3.2 Qe.B3 = true := by kernel_rfl
def Qe.T7 : Bool × List (List Nat × List Nat) := (true, [([], []), ([], []), ([0, 1], [0, 1]), ([2], [2]), ([3], [3]), ([], []), ([5], [5]), ([6], [6]), ([7], [7]), ([8], [8]), ([4, 9], [4, 9])])
def Qe.B7 : List Nat := [0, 0, 3, 7, 15, 0, 32, 96, 224, 480, 1023]
theorem Qe.tab7 : rtab .any (opsOf Try.f55 7) = Qe.T7 := by kernel_rfl
theorem Qe.bits7 : waitsOk Qe.T7.2 Qe.B7 = true := by kernel_rfl
set_option maxHeartbeats 8000000 in
set_option maxRecDepth 100000 in
theorem Qe.calls (k : Nat) (cS : Nat → Prop) (ak : Option Addr) (an : Nat) (ae : List (List Int)) (cR : Nat → Prop) (aj : Option Addr) (al : Nat) (af : List (List Int)) (r : Int) (w : World) (vd : Kd.V (Kd.slice 3 (Kd.int .i64)) 28 w w.heap.size (fun k_ => cS k_) (.slice ak ae.length an) ae) (vc : Kd.V (Kd.slice 3 (Kd.int .i64)) 28 w w.heap.size (fun k_ => cR k_) (.slice aj af.length al) af) (h : Qe.f k ae af = some r) :
  Calls Try.prog 55 #[.agg #[.slice ak ae.length an, .slice aj af.length al]] w fun e w' => e = .returned (.int .i64 r) ∧ Below w.heap.size w w' := by
 have ej := Try.underlying24; have jL := aa.mk (show Kd.V (Kd.slice 3 (Kd.int .i64)) 28 w w.heap.size (fun k_ => ((cS k_ ∨ cR k_) ∨ w.heap.size ≤ k_)) (.slice ak ae.length an) ae from Kd.Yc vd (fun k_ hk => .inl (.inl hk))); have m2 := aa.mk (show Kd.V (Kd.slice 3 (Kd.int .i64)) 28 w w.heap.size (fun k_ => ((cS k_ ∨ cR k_) ∨ w.heap.size ≤ k_)) (.slice aj af.length al) af from Kd.Yc vc (fun k_ hk => .inl (.inr hk))); have HB := aa.mk (Below.refl w.heap.size w); have H : ((QP.f (ae.length : Int) 1 3).bind fun t102 => (if t102 = true then ((QP.f (af.length : Int) 1 3).bind fun t103 => (if t103 = true then (if 0 < (ae.length : Int) then ((QP.f ((Qu ae 0).length : Int) 1 4).bind fun t105 => (Qe.j0 k (!t105) ae af)) else (none)) else (Qe.j0 k true ae af))) else (Qe.j0 k true ae af))) = some r := h; clear h; have HC2 := aa.mk H; clear H; go_enter Try.func55, Try.ntmps55; go_upto_region 1 with (first | ((with_reducible refine QN (N := 1) rfl ?_); (try (refine Yb (by rfl) ?_; dsimp only)); refine Q3 ?hg (N := 1) ?hd (cs := #[.slice ak ae.length an, .slice aj af.length al]) (t := 24) ?hr ?_; (case hd => rfl); (case hg => rfl); (case hr => first | (go_simp; done) | (go_simp; rfl)); intro ag hg w3 hbox hb; replace jL := aa.mk (Kd.Yf (Kd.V_elderB jL.out ag (Nat.le_of_eq hg.symm)) hb); replace m2 := aa.mk (Kd.Yf (Kd.V_elderB m2.out ag (Nat.le_of_eq hg.symm)) hb); have ab := aa.mk (hbox); have bh := aa.mk ((by rw [hg]; exact (Qb bB) : w.heap.size ≤ ag)); have aT := aa.mk ((by rw [hg]; exact (Qb bB) : w.heap.size ≤ ag)); replace HB := aa.mk (Qa bB hb); clear hb hbox hg))
 (try simp only [Act.put, zA, zB, zC])
 go_cut [27] (fun v27 wc => ∃ (kq : Nat) (nO : Bool), v27 = .bool nO ∧ aa (Qe.j0 kq nO ae af = some r) ∧ aa (kq ≤ k) ∧ aa (Kd.V (Kd.slice 3 (Kd.int .i64)) 28 wc w.heap.size (fun k_ => ((cS k_ ∨ cR k_) ∨ w.heap.size ≤ k_) ∧ k_ ≠ ag) (.slice ak ae.length an) ae) ∧ aa (Kd.V (Kd.slice 3 (Kd.int .i64)) 28 wc w.heap.size (fun k_ => ((cS k_ ∨ cR k_) ∨ w.heap.size ≤ k_) ∧ k_ ≠ ag) (.slice aj af.length al) af) ∧ aa (wc.heap[ag]? = some (.cells #[(.slice ak ae.length an), (.slice aj af.length al)] 24 (0, 0))) ∧ aa (Below w.heap.size w wc))
 case first =>
  have H := HC2.out; clear HC2; replace H := Option.bind_eq_some_iff.mp H; obtain ⟨t102, A40, H⟩ := H; replace H : (if t102 = true then ((QP.f (af.length : Int) 1 3).bind fun t103 => (if t103 = true then (if 0 < (ae.length : Int) then ((QP.f ((Qu ae 0).length : Int) 1 4).bind fun t105 => (Qe.j0 k (!t105) ae af)) else (none)) else (Qe.j0 k true ae af))) else (Qe.j0 k true ae af)) = some r := H; have A4 := aa.mk A40; clear A40; by_cases c5 : t102 = true
  ·subst c5; have H1 : ((QP.f (af.length : Int) 1 3).bind fun t103 => (if t103 = true then (if 0 < (ae.length : Int) then ((QP.f ((Qu ae 0).length : Int) 1 4).bind fun t105 => (Qe.j0 k (!t105) ae af)) else (none)) else (Qe.j0 k true ae af))) = some r := by rw [if_pos rfl] at H; exact H
   clear H; have H := H1; clear H1; replace H := Option.bind_eq_some_iff.mp H; obtain ⟨t103, A60, H⟩ := H; replace H : (if t103 = true then (if 0 < (ae.length : Int) then ((QP.f ((Qu ae 0).length : Int) 1 4).bind fun t105 => (Qe.j0 k (!t105) ae af)) else (none)) else (Qe.j0 k true ae af)) = some r := H; have A6 := aa.mk A60; clear A60; by_cases c7 : t103 = true
   ·subst c7; have H1 : (if 0 < (ae.length : Int) then ((QP.f ((Qu ae 0).length : Int) 1 4).bind fun t105 => (Qe.j0 k (!t105) ae af)) else (none)) = some r := by rw [if_pos rfl] at H; exact H
    clear H; have H := H1; clear H1; by_cases c8 : 0 < (ae.length : Int)
    ·rw [if_pos c8] at H; have dF : decide (0 < (ae.length : Int)) = true := decide_eq_true c8; have jx : decide (0 < ae.length) = true := decide_eq_true (by omega); clear c8; (first | rw [dF] | (simp only [QC, QD]; rw [dF]) | skip)
     replace H := Option.bind_eq_some_iff.mp H; obtain ⟨t105, A90, H⟩ := H; replace H : (Qe.j0 k (!t105) ae af) = some r := H; have A9 := aa.mk A90; clear A90; have H' := aa.mk H; clear H; have du : w3.cell? ⟨ag, 0, none⟩ = some (.slice ak ae.length an) := (Qd ab.out 0).trans rfl; have dr : w3.cell? ⟨ag, 1, none⟩ = some (.slice aj af.length al) := (Qd ab.out 1).trans rfl; have dq := Qc ab.out 0; have dp := Qc ab.out 1; go_wp2_with (first | ((with_reducible refine Qh (f := 99) rfl ?_); refine QG (some 10) rfl rfl Try.func99 (by kernel_rfl) rfl #[.int .i64 (ae.length : Int), .int .i64 1, .int .i64 3] rfl hA ?_; (with_reducible refine (QP.calls (ae.length : Int) 1 3 true _ A4.out).mono ?_); rintro e w' ⟨rfl, ⟨nd, rfl⟩⟩; refine ⟨_, rfl, ?_⟩) | (go_at_call 99; (with_reducible refine (QP.calls (af.length : Int) 1 3 true _ A6.out).mono ?_); rintro e w' ⟨rfl, ⟨nd, rfl⟩⟩; have gz : 0 ≤ (0 : Int) := (by omega); have gw : 0 < (ae.length : Int) := of_decide_eq_true (by assumption); obtain ⟨sG, uO, uu, pX, cb, iJ, iM⟩ := ZJ (Kd.Yi jL.out).2.2 0 gz gw; cases pX; obtain ⟨Az, tE, tL, pE⟩ := Kd.V_get jL.out [] 0 gz (by first | exact gw | exact of_decide_eq_true (by assumption) | (have e_ := (Kd.Yi jL.out).1; omega)); obtain ⟨xx, xr, rfl, lz, lT⟩ := Kd.Zt tL; have jW := pE 0 _ rfl; rw [Nat.add_zero, show ((Kd.slice 3 (Kd.int .i64))).sz = 1 from rfl, Nat.mul_one] at jW; replace jW := Option.some.inj (jW.symm.trans cb); injection jW with hva_ hvn_ hvc_; rw [hva_] at lT; rw [hvc_] at lz; have yo := aa.mk (show Kd.V (Kd.int .i64) 3 _ w.heap.size _ _ (Qu ae 0) from Kd.V_mk lz lT); clear hva_ hvn_ hvc_ lT lz; clear pE tE; have uV : (0 < ae.length) = True := eq_true (by omega); (try rw [show ((0 : Int)).toNat = 0 from rfl] at cb); (try rw [Addr.add_zero'] at cb); have rE := aa.mk iM; have rL := aa.mk iJ; clear iM iJ; replace gz := eq_true gz; replace gw := eq_true gw) | (go_at_call 99; (with_reducible refine (QP.calls ((Qu ae 0).length : Int) 1 4 t105 _ A9.out).mono ?_); rintro e w' ⟨rfl, ⟨nd, rfl⟩⟩))
     go_meet
     case rel => exact ⟨_, (!t105), (by first | rfl | (simp; done) | (simp [*]; done)), H', ⟨by first | omega | exact Nat.le_refl _⟩, ⟨by (with_reducible repeat (first | apply Kd.V_alloc | apply Kd.ZN | apply Kd.ZK)); exact jL.out⟩, ⟨by (with_reducible repeat (first | apply Kd.V_alloc | apply Kd.ZN | apply Kd.ZK)); exact m2.out⟩, ⟨by (with_reducible repeat (first | refine Qx ?_ _ | refine QA ?_ | refine Qw ?_ _)); exact ab.out⟩, ⟨bB⟩⟩
    ·rw [if_neg c8] at H; exact absurd H (by simp)
   ·replace c7 := Bool.eq_false_iff.mpr c7; subst c7; have H1 : (Qe.j0 k true ae af) = some r := by rw [if_neg (show ¬ (false = true) by decide)] at H; exact H
    clear H; have H := H1; clear H1; have H' := aa.mk H; clear H; have cQ : w3.cell? ⟨ag, 0, none⟩ = some (.slice ak ae.length an) := (Qd ab.out 0).trans rfl; have cP : w3.cell? ⟨ag, 1, none⟩ = some (.slice aj af.length al) := (Qd ab.out 1).trans rfl; have cO := Qc ab.out 0; have cN := Qc ab.out 1; go_wp2_with (first | ((with_reducible refine Qh (f := 99) rfl ?_); refine QG (some 10) rfl rfl Try.func99 (by kernel_rfl) rfl #[.int .i64 (ae.length : Int), .int .i64 1, .int .i64 3] rfl hA ?_; (with_reducible refine (QP.calls (ae.length : Int) 1 3 true _ A4.out).mono ?_); rintro e w' ⟨rfl, ⟨nd, rfl⟩⟩; refine ⟨_, rfl, ?_⟩) | (go_at_call 99; (with_reducible refine (QP.calls (af.length : Int) 1 3 false _ A6.out).mono ?_); rintro e w' ⟨rfl, ⟨nd, rfl⟩⟩))
    go_meet
    case rel => exact ⟨_, (true), (by first | rfl | (simp; done) | (simp [*]; done)), H', ⟨by first | omega | exact Nat.le_refl _⟩, ⟨by (with_reducible repeat (first | apply Kd.V_alloc | apply Kd.ZN | apply Kd.ZK)); exact jL.out⟩, ⟨by (with_reducible repeat (first | apply Kd.V_alloc | apply Kd.ZN | apply Kd.ZK)); exact m2.out⟩, ⟨by (with_reducible repeat (first | refine Qx ?_ _ | refine QA ?_ | refine Qw ?_ _)); exact ab.out⟩, ⟨bB⟩⟩
  ·replace c5 := Bool.eq_false_iff.mpr c5; subst c5; have H1 : (Qe.j0 k true ae af) = some r := by rw [if_neg (show ¬ (false = true) by decide)] at H; exact H
   clear H; have H := H1; clear H1; have H' := aa.mk H; clear H; have dY : w3.cell? ⟨ag, 0, none⟩ = some (.slice ak ae.length an) := (Qd ab.out 0).trans rfl; have dX : w3.cell? ⟨ag, 1, none⟩ = some (.slice aj af.length al) := (Qd ab.out 1).trans rfl; have dW := Qc ab.out 0; have dV := Qc ab.out 1; go_wp2_with (first | ((with_reducible refine Qh (f := 99) rfl ?_); refine QG (some 10) rfl rfl Try.func99 (by kernel_rfl) rfl #[.int .i64 (ae.length : Int), .int .i64 1, .int .i64 3] rfl hA ?_; (with_reducible refine (QP.calls (ae.length : Int) 1 3 false _ A4.out).mono ?_); rintro e w' ⟨rfl, ⟨nd, rfl⟩⟩; refine ⟨_, rfl, ?_⟩))
   go_meet
   case rel => exact ⟨_, (true), (by first | rfl | (simp; done) | (simp [*]; done)), H', ⟨by first | omega | exact Nat.le_refl _⟩, ⟨by (with_reducible repeat (first | apply Kd.V_alloc | apply Kd.ZN | apply Kd.ZK)); exact jL.out⟩, ⟨by (with_reducible repeat (first | apply Kd.V_alloc | apply Kd.ZN | apply Kd.ZK)); exact m2.out⟩, ⟨by (with_reducible repeat (first | refine Qx ?_ _ | refine QA ?_ | refine Qw ?_ _)); exact ab.out⟩, ⟨bB⟩⟩
 case rest =>
  clear HC2; try clear c1
  try clear p1
  try clear q1
  try clear hx1
  try clear qi1
  try clear p2
  try clear c5
  try clear c7
  try clear c8
  try clear dF
  try clear jx
  try clear c9
  try clear c10
  try clear p10
  try clear q10
  try clear ir
  try clear mo
  try clear du
  try clear dr
  try clear cQ
  try clear cP
  try clear dY
  try clear dX
  try clear dq
  try clear dp
  try clear cO
  try clear cN
  try clear dW
  try clear dV
  try clear cb
  try clear gz
  try clear gw
  obtain ⟨kq, nO, rfl, HA, HJ1, aV, bl, ab, HB⟩ := hcut; cases kq with
  | zero => exact absurd HA.out (by simp [Qe.j0])
  | succ kj1 =>
   have H := HA.out; clear HA; simp only [Qe.j0] at H; by_cases c13 : nO = true
   ·subst c13; have H1 : (some 1) = some r := by rw [if_pos rfl] at H; exact H
    clear H; have H := H1; clear H1; obtain rfl := Option.some.inj H; go_wp2; go_ret; exact ⟨by first | rfl | (simp [Qk, Qj] <;> rfl) | (simp [*, Qk, Qj] <;> rfl), bB⟩
   ·replace c13 := Bool.eq_false_iff.mpr c13; subst c13; have H1 : ((some (([] : List (List Int)) : List (List Int))).bind fun gE => (if gE.length + ae.length < 5864062014805 then ((some (gE ++ ae : List (List Int))).bind fun ft => (if ft.length + af.length < 5864062014805 then (Qe.l0 kj1 (ft ++ af) 0 ae af) else (none))) else (none))) = some r := by rw [if_neg (show ¬ (false = true) by decide)] at H; exact H
    clear H; have H := H1; clear H1; obtain ⟨gE, gP⟩ : ∃ y_ : List (List Int), y_ = (([] : List (List Int))) := ⟨_, rfl⟩; replace H : (if gE.length + ae.length < 5864062014805 then ((some (gE ++ ae : List (List Int))).bind fun ft => (if ft.length + af.length < 5864062014805 then (Qe.l0 kj1 (ft ++ af) 0 ae af) else (none))) else (none)) = some r := by first | (rw [gP]; with_reducible exact H) | (have H2_ := (Option.bind_some _ _).symm.trans H; rw [gP]; with_reducible exact H2_) | (have H2_ := (Option.bind_some _ _).symm.trans H; with_reducible exact H2_) | with_reducible exact H | (rw [gP]; exact H) | exact H
    have oC := aa.mk gP; clear gP; by_cases c14 : gE.length + ae.length < 5864062014805
    ·rw [if_pos c14] at H; have oD := aa.mk c14; clear c14; obtain ⟨ft, eC⟩ : ∃ y_ : List (List Int), y_ = (gE ++ ae) := ⟨_, rfl⟩; replace H : (if ft.length + af.length < 5864062014805 then (Qe.l0 kj1 (ft ++ af) 0 ae af) else (none)) = some r := by first | (rw [eC]; with_reducible exact H) | (have H2_ := (Option.bind_some _ _).symm.trans H; rw [eC]; with_reducible exact H2_) | (have H2_ := (Option.bind_some _ _).symm.trans H; with_reducible exact H2_) | with_reducible exact H | (rw [eC]; exact H) | exact H
     have mW := aa.mk eC; clear eC; by_cases c15 : ft.length + af.length < 5864062014805
     ·rw [if_pos c15] at H; have qh := aa.mk c15; clear c15; obtain ⟨bQ, mD⟩ : ∃ y_ : List (List Int), y_ = (ft ++ af) := ⟨_, rfl⟩; replace H : (Qe.l0 kj1 bQ 0 ae af) = some r := by first | (rw [mD]; with_reducible exact H) | (have H2_ := (Option.bind_some _ _).symm.trans H; rw [mD]; with_reducible exact H2_) | (have H2_ := (Option.bind_some _ _).symm.trans H; with_reducible exact H2_) | with_reducible exact H | (rw [mD]; exact H) | exact H
      have wv := aa.mk mD; clear mD; have H' := aa.mk H; clear H; try go_wp2
      replace aV := aa.mk (Kd.ZK aV.out); replace bl := aa.mk (Kd.ZK bl.out); replace ab := aa.mk (QA ab.out); replace HB := aa.mk (QR HB.out); refine Yw (n := 8) (S := fun w' => w'.cell? ⟨ag, 0, none⟩ = some (.slice ak ae.length an) ∧ w'.cell? ⟨ag, 1, none⟩ = some (.slice aj af.length al)) (ds := []) #[false, false, false, false, false, false, false, false] (by kernel_rfl) rfl rfl ⟨(Qd ab.out 0).trans rfl, (Qd ab.out 1).trans rfl⟩ (fun hHeld => ?_); refine ZZ Qe.tab3 Qe.bits3 (fun HT_ HW_ => ?_); generalize wc.drew = w16 at aV bl ab HB hHeld ⊢; refine QX (i := 1) (N := some 29) (v := ?_) (a' := ?_) #[false, true, false, false, false, false, false, false] rfl rfl (QL HT_.out (by kernel_rfl)) (fun _ _ _ h => h) (Or.inl ⟨by rfl, ?_⟩) ?_ ?_; rotate_left
      ·intro w'; go_simp; with_reducible rfl
      rotate_left
      ·simp only [Act.put, zA, zB, zC, QC, QD]; rfl
      refine QX (i := 4) (N := some 32) (v := ?_) (a' := ?_) #[false, true, false, false, true, false, false, false] rfl rfl (QL HT_.out (by kernel_rfl)) (fun _ _ _ h => h) (Or.inl ⟨by rfl, ?_⟩) ?_ ?_; rotate_left
      ·intro w'; go_simp; with_reducible rfl
      rotate_left
      ·simp only [Act.put, zA, zB, zC, QC, QD]; rfl
      refine ZY (i := 2) (N := some 30) (v := ?_) (a' := ?_) #[false, true, true, false, true, false, false, false] rfl rfl (Zq HT_.out HW_.out (by kernel_rfl)) (fun _ _ _ h => h) (Or.inl ⟨by rfl, ?_⟩) hHeld ?_ ?_; rotate_left
      ·rintro w' ⟨s0, s1⟩; go_simp; with_reducible rfl
      rotate_left
      ·simp only [Act.put, zA, zB, zC, QC, QD]; rfl
      refine ZY (i := 5) (N := some 33) (v := ?_) (a' := ?_) #[false, true, true, false, true, true, false, false] rfl rfl (Zq HT_.out HW_.out (by kernel_rfl)) (fun _ _ _ h => h) (Or.inl ⟨by rfl, ?_⟩) hHeld ?_ ?_; rotate_left
      ·rintro w' ⟨s0, s1⟩; go_simp; with_reducible rfl
      rotate_left
      ·simp only [Act.put, zA, zB, zC, QC, QD]; rfl
      refine one_ (i := 0) (N := some 28) #[true, true, true, false, true, true, false, false] rfl rfl (ZW HT_.out (by kernel_rfl)) (by decide) (fun K hK => ?_); refine Kd.VL (Kd.slice 3 (Kd.int .i64)) _ 28 ?hg (N' := 28) ?hd (xs := ([] : List (List Int))) (inner := []) (ok := (fun k_ => ((cS k_ ∨ cR k_) ∨ w.heap.size ≤ k_) ∧ k_ ≠ ag)) (okp := (fun k_ => ((cS k_ ∨ cR k_) ∨ w.heap.size ≤ k_) ∧ k_ ≠ ag)) ?hr ?hp (fun _ hk => hk) ((show ∀ k_, w16.heap.size ≤ k_ → (fun k_ => ((cS k_ ∨ cR k_) ∨ w.heap.size ≤ k_) ∧ k_ ≠ ag) k_ from fun k_ hk => ⟨(.inr (Nat.le_trans (Qb bB) hk)), Kd.freshB (g := ag) (o := .cells #[.slice ak ae.length an, .slice aj af.length al] 24 (0, 0)) (by (with_reducible repeat (first | refine Qx ?_ _ | refine QA ?_ | refine Qw ?_ _)); exact ab.out) k_ hk⟩) _ (Nat.le_refl _)) (Below.refl _ _) (Nat.le_refl _) (by simp) ?_; (case hd => rfl); (case hg => rfl); (case hr => first | (go_simp; done) | (go_simp; rfl)); (case hp => exact (Reps.none _ _)); intro mh w17 gA hb hg_ hnew_; clear hg_ hnew_; (first | rw [← oC.out] at gA | (simp only [Int.reduceToNat] at gA; rw [← oC.out] at gA))
      replace aV := aa.mk (Kd.Z1 aV.out (Kd.Z3 gA) hb); replace bl := aa.mk (Kd.Z1 bl.out (Kd.Z3 gA) hb); have bk := aa.mk (Kd.Ya gA (Qb bB)); replace ab := aa.mk (Qp ab.out hb); replace HB := aa.mk (Qa bB hb); clear hb gA; refine hK.out _ _ ⟨(Qd ab.out 0).trans rfl, (Qd ab.out 1).trans rfl⟩ (fun hHeld => ?_); clear hK K; refine Yk (a' := ?_) ?_ ?_; rotate_left
      ·show Act.put _ (some 28) _ = _
       simp only [Act.put, zA, zB, zC, QC, QD]; rfl
      refine one_ (i := 3) (N := some 31) #[true, true, true, true, true, true, false, false] rfl rfl (ZW HT_.out (by kernel_rfl)) (by decide) (fun K hK => ?_); refine Kd.Z4 (Kd.slice 3 (Kd.int .i64)) (w0 := w) w.heap.size (by rfl) (.tmp 28) (.tmp 30) 22 28 (.slice none 0 0) 24 rfl Try.underlying22 info28 rfl (by decide) (by omega) mh gE ae _ _ _ (fun k_ => ((cS k_ ∨ cR k_) ∨ w.heap.size ≤ k_) ∧ k_ ≠ ag) (fun k_ => ((fun k_ => ((cS k_ ∨ cR k_) ∨ w.heap.size ≤ k_) ∧ k_ ≠ ag)) k_ ∧ some k_ ≠ (mh : Value).ownBlock) rfl rfl ?aO ?aR (fun _ hk => hk) ?aF ?aB ?aS ?aL ?_; (case aR => exact (by skip; exact Kd.V_F (Kd.Yc (ok' := (fun k_ => ((fun k_ => ((cS k_ ∨ cR k_) ∨ w.heap.size ≤ k_) ∧ k_ ≠ ag)) k_ ∧ some k_ ≠ (mh : Value).ownBlock)) (aV.out) (fun k_ hk => ⟨⟨hk.1.1, hk.1.2⟩, hk.2⟩))))
      (case aB => exact bB)
      (case aF => exact (fun k_ hk => ⟨(.inr (Nat.le_trans (Qb bB) hk)), Kd.freshB (g := ag) (o := .cells #[.slice ak ae.length an, .slice aj af.length al] 24 (0, 0)) (by (with_reducible repeat (first | refine Qx ?_ _ | refine QA ?_ | refine Qw ?_ _)); exact ab.out) k_ hk⟩))
      (case aO => exact bk.out)
      (case aS => exact (Qb bB))
      (case aL => have := oD.out; omega)
      intro mg w19 ho hb hg hat; rw [← mW.out] at ho; replace aV := aa.mk (Kd.ZH (ok := (fun k_ => ((cS k_ ∨ cR k_) ∨ w.heap.size ≤ k_) ∧ k_ ≠ ag)) aV.out hg hat); replace bl := aa.mk (Kd.ZH (ok := (fun k_ => ((cS k_ ∨ cR k_) ∨ w.heap.size ≤ k_) ∧ k_ ≠ ag)) bl.out hg hat); replace ab := aa.mk (Yq (g := ag) (o := .cells #[.slice ak ae.length an, .slice aj af.length al] 24 (0, 0)) (by (with_reducible repeat (first | refine Qx ?_ _ | refine QA ?_ | refine Qw ?_ _)); exact ab.out) hg (Kd.N_ne bk.out ab.out (by decide))); replace HB := aa.mk (hb); have bz := aa.mk (ho); clear bk; clear ho hb hg hat; refine hK.out _ _ ⟨(Qd ab.out 0).trans rfl, (Qd ab.out 1).trans rfl⟩ (fun hHeld => ?_); clear hK K; refine Yk (a' := ?_) ?_ ?_; rotate_left
      ·show Act.put _ (some 31) _ = _
       simp only [Act.put, zA, zB, zC, QC, QD]; rfl
      refine one_ (i := 6) (N := some 34) #[true, true, true, true, true, true, true, false] rfl rfl (ZW HT_.out (by kernel_rfl)) (by decide) (fun K hK => ?_); refine Kd.Z4 (Kd.slice 3 (Kd.int .i64)) (w0 := w) w.heap.size (by rfl) (.tmp 31) (.tmp 33) 22 28 (.slice none 0 0) 24 rfl Try.underlying22 info28 rfl (by decide) (by omega) mg ft af _ _ _ (fun k_ => ((cS k_ ∨ cR k_) ∨ w.heap.size ≤ k_) ∧ k_ ≠ ag) (fun k_ => ((fun k_ => ((cS k_ ∨ cR k_) ∨ w.heap.size ≤ k_) ∧ k_ ≠ ag)) k_ ∧ some k_ ≠ (mg : Value).ownBlock) rfl rfl ?aO ?aR (fun _ hk => hk) ?aF ?aB ?aS ?aL ?_; (case aR => exact (by skip; exact Kd.V_F (Kd.Yc (ok' := (fun k_ => ((fun k_ => ((cS k_ ∨ cR k_) ∨ w.heap.size ≤ k_) ∧ k_ ≠ ag)) k_ ∧ some k_ ≠ (mg : Value).ownBlock)) (bl.out) (fun k_ hk => ⟨⟨hk.1.1, hk.1.2⟩, hk.2⟩))))
      (case aB => exact bB)
      (case aF => exact (fun k_ hk => ⟨(.inr (Nat.le_trans (Qb bB) hk)), Kd.freshB (g := ag) (o := .cells #[.slice ak ae.length an, .slice aj af.length al] 24 (0, 0)) (by (with_reducible repeat (first | refine Qx ?_ _ | refine QA ?_ | refine Qw ?_ _)); exact ab.out) k_ hk⟩))
      (case aO => exact bz.out)
      (case aS => exact (Qb bB))
      (case aL => have := qh.out; omega)
      intro mf w20 ho hb hg hat; rw [← wv.out] at ho; replace aV := aa.mk (Kd.ZH (ok := (fun k_ => ((cS k_ ∨ cR k_) ∨ w.heap.size ≤ k_) ∧ k_ ≠ ag)) aV.out hg hat); replace bl := aa.mk (Kd.ZH (ok := (fun k_ => ((cS k_ ∨ cR k_) ∨ w.heap.size ≤ k_) ∧ k_ ≠ ag)) bl.out hg hat); replace ab := aa.mk (Yq (g := ag) (o := .cells #[.slice ak ae.length an, .slice aj af.length al] 24 (0, 0)) (by (with_reducible repeat (first | refine Qx ?_ _ | refine QA ?_ | refine Qw ?_ _)); exact ab.out) hg (Kd.N_ne bz.out ab.out (by decide))); replace HB := aa.mk (hb); have bf := aa.mk (ho); clear bz; clear ho hb hg hat; refine hK.out _ _ ⟨(Qd ab.out 0).trans rfl, (Qd ab.out 1).trans rfl⟩ (fun hHeld => ?_); clear hK K; refine Yk (a' := ?_) ?_ ?_; rotate_left
      ·show Act.put _ (some 34) _ = _
       simp only [Act.put, zA, zB, zC, QC, QD]; rfl
      refine QX (i := 7) (N := some 3) (v := ?_) (a' := ?_) #[true, true, true, true, true, true, true, true] rfl rfl (QL HT_.out (by kernel_rfl)) (fun _ _ _ h => h) (Or.inl ⟨by rfl, ?_⟩) ?_ ?_; rotate_left
      ·intro w'; go_simp; with_reducible rfl
      rotate_left
      ·simp only [Act.put, zA, zB, zC, QC, QD]; rfl
      refine YN (Yo HT_.out (by kernel_rfl)) ?_; try go_wp2
      go_loopg [4] kj1 (fun kq v4 w' => ∃ (aD : Int), v4 = .int .i64 aD ∧ aa (Qe.l0 kq bQ aD ae af = some r) ∧ aa (kq ≤ kj1) ∧ aa (Kd.N (Kd.slice 3 (Kd.int .i64)) 28 w' w.heap.size (fun k_ => ((cS k_ ∨ cR k_) ∨ w.heap.size ≤ k_) ∧ k_ ≠ ag) mf bQ) ∧ aa (Kd.V (Kd.slice 3 (Kd.int .i64)) 28 w' w.heap.size (fun k_ => ((cS k_ ∨ cR k_) ∨ w.heap.size ≤ k_) ∧ some k_ ≠ (mf : Value).ownBlock ∧ k_ ≠ ag) (.slice ak ae.length an) ae) ∧ aa (Kd.V (Kd.slice 3 (Kd.int .i64)) 28 w' w.heap.size (fun k_ => ((cS k_ ∨ cR k_) ∨ w.heap.size ≤ k_) ∧ some k_ ≠ (mf : Value).ownBlock ∧ k_ ≠ ag) (.slice aj af.length al) af) ∧ aa (w'.heap[ag]? = some (.cells #[(.slice ak ae.length an), (.slice aj af.length al)] 24 (0, 0))) ∧ aa (Below w.heap.size w w'))
      case atStart => exact ⟨(0), (by first | rfl | (simp; done) | (simp [*]; done)), H', ⟨Nat.le_refl _⟩, ⟨by (with_reducible repeat (first | apply Kd.N_alloc | apply Kd.Z5 | apply Kd.Yj)); exact bf.out⟩, ⟨by (with_reducible repeat (first | apply Kd.V_alloc | apply Kd.ZN | apply Kd.ZK)); exact Kd.Yc aV.out (fun _ hk => ⟨hk.1.1, ⟨hk.2, hk.1.2⟩⟩)⟩, ⟨by (with_reducible repeat (first | apply Kd.V_alloc | apply Kd.ZN | apply Kd.ZK)); exact Kd.Yc bl.out (fun _ hk => ⟨hk.1.1, ⟨hk.2, hk.1.2⟩⟩)⟩, ⟨by (with_reducible repeat (first | refine Qx ?_ _ | refine QA ?_ | refine Qw ?_ _)); exact ab.out⟩, ⟨bB⟩⟩
      case round =>
       clear H'; try clear c1
       try clear p1
       try clear q1
       try clear hx1
       try clear qi1
       try clear p2
       try clear c5
       try clear c7
       try clear c8
       try clear dF
       try clear jx
       try clear c9
       try clear c10
       try clear p10
       try clear q10
       try clear ir
       try clear mo
       try clear c13
       try clear c14
       try clear c15
       try clear du
       try clear dr
       try clear cQ
       try clear cP
       try clear dY
       try clear dX
       try clear dq
       try clear dp
       try clear cO
       try clear cN
       try clear dW
       try clear dV
       try clear cb
       try clear p1
       try clear p10
       try clear gz
       try clear p2
       try clear q1
       try clear q10
       try clear gw
       obtain ⟨aD, rfl, HA, HK2, bj, aV, bl, ab, HB⟩ := hrel; cases gk with
       | zero => exact absurd HA.out (by simp [Qe.l0])
       | succ k2 =>
        have H := HA.out; clear HA; simp only [Qe.l0] at H; by_cases c21 : aD < (bQ.length : Int)
        ·rw [if_pos c21] at H; have jD : decide (aD < (bQ.length : Int)) = true := decide_eq_true c21; clear c21; by_cases c22 : 0 ≤ aD
         ·rw [if_pos c22] at H; have fE : decide (0 ≤ aD) = true := decide_eq_true c22; clear c22; by_cases c23 : 0 < (ae.length : Int)
          ·rw [if_pos c23] at H; have kR : decide (0 < (ae.length : Int)) = true := decide_eq_true c23; have lg : decide (0 < ae.length) = true := decide_eq_true (by omega); clear c23; by_cases c24 : ((Qu bQ aD).length : Int) = ((Qu ae 0).length : Int)
           ·rw [if_pos c24] at H; have jC : (((Qu bQ aD).length : Int) == ((Qu ae 0).length : Int)) = true := beq_iff_eq.mpr c24; have kQ : (((Qu bQ aD).length : Int) != ((Qu ae 0).length : Int)) = false := bne_eq_false_iff_eq.mpr c24; have kP : ((Qu bQ aD).length == (Qu ae 0).length) = true := by first | simpa using c24 | (simp at c24 ⊢; omega)
            clear c24; have H' := aa.mk H; clear H; obtain ⟨Af, rA, rm⟩ := Kd.ZQ bj.out; subst rm; try go_wp2
            replace bj := aa.mk (Kd.Yj bj.out); replace aV := aa.mk (Kd.ZK aV.out); replace bl := aa.mk (Kd.ZK bl.out); replace ab := aa.mk (QA ab.out); replace HB := aa.mk (QR HB.out); have iq : 0 ≤ (aD : Int) := of_decide_eq_true (by assumption); have im : aD < (bQ.length : Int) := of_decide_eq_true (by assumption); obtain ⟨eQ, k7, lX, pS, da, fy, fB⟩ := ZJ (Kd.Za bj.out).2.2 aD iq im; cases pS; obtain ⟨vT, np, nt, kI⟩ := Kd.Y2 bj.out [] aD iq (by first | exact im | exact of_decide_eq_true (by assumption) | (have e_ := (Kd.Za bj.out).1; omega)); obtain ⟨qG, qD, rfl, fW, gi⟩ := Kd.Zt nt; have eW := kI 0 _ rfl; rw [Nat.add_zero, show ((Kd.slice 3 (Kd.int .i64))).sz = 1 from rfl, Nat.mul_one] at eW; replace eW := Option.some.inj (eW.symm.trans da); injection eW with hva_ hvn_ hvc_
            rw [hva_] at gi; rw [hvc_] at fW; have l7 := aa.mk (show Kd.V (Kd.int .i64) 3 _ w.heap.size _ _ (Qu bQ aD) from Kd.V_mk fW gi); clear hva_ hvn_ hvc_ gi fW; clear kI np; have ew := aa.mk fB; have oN := aa.mk fy; clear fB fy; replace iq := eq_true iq; replace im := eq_true im; have dK : 0 ≤ (0 : Int) := (by omega); have dJ : 0 < (ae.length : Int) := of_decide_eq_true (by assumption); obtain ⟨fI, mc, nD, jv, b8, iI, iL⟩ := ZJ (Kd.Yi aV.out).2.2 0 dK dJ; cases jv; obtain ⟨vS, nn, nr, kH⟩ := Kd.V_get aV.out [] 0 dK (by first | exact dJ | exact of_decide_eq_true (by assumption) | (have e_ := (Kd.Yi aV.out).1; omega)); obtain ⟨qF, qC, rfl, fV, gh⟩ := Kd.Zt nr; have eV := kH 0 _ rfl; rw [Nat.add_zero, show ((Kd.slice 3 (Kd.int .i64))).sz = 1 from rfl, Nat.mul_one] at eV; replace eV := Option.some.inj (eV.symm.trans b8); injection eV with hva_ hvn_ hvc_
            rw [hva_] at gh; rw [hvc_] at fV; have l6 := aa.mk (show Kd.V (Kd.int .i64) 3 _ w.heap.size _ _ (Qu ae 0) from Kd.V_mk fV gh); clear hva_ hvn_ hvc_ gh fV; clear kH nn; have uT : (0 < ae.length) = True := eq_true (by omega); (try rw [show ((0 : Int)).toNat = 0 from rfl] at b8)
            (try rw [Addr.add_zero'] at b8)
            have fJ := aa.mk iL; have rK := aa.mk iI; clear iL iI; replace dK := eq_true dK; replace dJ := eq_true dJ; refine Yw (n := 11) (S := fun w' => w'.cell? ⟨ag, 0, none⟩ = some (.slice (some fI) ae.length an) ∧ w'.cell? ⟨ag, 1, none⟩ = some (.slice aj af.length al) ∧ w'.cell? (eQ.add (aD).toNat) = some (.slice k7 (Qu bQ aD).length lX) ∧ w'.cell? fI = some (.slice mc (Qu ae 0).length nD)) (ds := []) #[false, false, false, false, false, false, false, false, false, false, false] (by kernel_rfl) rfl rfl ⟨(Qd ab.out 0).trans rfl, (Qd ab.out 1).trans rfl, da, b8⟩ (fun hHeld => ?_); refine ZZ Qe.tab7 Qe.bits7 (fun HT_ HW_ => ?_); generalize wr.drew = w26 at bj aV bl ab HB l7 l6 ew fJ da b8 hHeld ⊢; refine QX (i := 0) (N := some 41) (v := ?_) (a' := ?_) #[true, false, false, false, false, false, false, false, false, false, false] rfl rfl (QL HT_.out (by kernel_rfl)) (fun _ _ _ h => h) (Or.inl ⟨by rfl, ?_⟩) ?_ ?_; rotate_left
            ·intro w'; go_simp; with_reducible rfl
            rotate_left
            ·simp only [Act.put, zA, zB, zC, QC, QD]; rfl
            refine QX (i := 1) (N := some 42) (v := ?_) (a' := ?_) #[true, true, false, false, false, false, false, false, false, false, false] rfl rfl (QL HT_.out (by kernel_rfl)) (fun _ _ _ h => h) (Or.inl ⟨by rfl, ?_⟩) ?_ ?_; rotate_left
            ·intro w'; go_simp; with_reducible rfl
            rotate_left
            ·simp only [Act.put, zA, zB, zC, QC, QD]; rfl
            refine QX (i := 2) (N := some 43) (v := ?_) (a' := ?_) #[true, true, true, false, false, false, false, false, false, false, false] rfl rfl (QL HT_.out (by kernel_rfl)) (fun _ _ _ h => h) (Or.inl ⟨by rfl, ?_⟩) ?_ ?_; rotate_left
            ·intro w'; go_simp; with_reducible rfl
            rotate_left
            ·simp only [Act.put, zA, zB, zC, QC, QD]; rfl
            refine QX (i := 5) (N := some 46) (v := ?_) (a' := ?_) #[true, true, true, false, false, true, false, false, false, false, false] rfl rfl (QL HT_.out (by kernel_rfl)) (fun _ _ _ h => h) (Or.inl ⟨by rfl, ?_⟩) ?_ ?_; rotate_left
            ·intro w'; go_simp; with_reducible rfl
            rotate_left
            ·simp only [Act.put, zA, zB, zC, QC, QD]; rfl
            refine ZY (i := 3) (N := some 44) (v := ?_) (a' := ?_) #[true, true, true, true, false, true, false, false, false, false, false] rfl rfl (Zq HT_.out HW_.out (by kernel_rfl)) (fun _ _ _ h => h) (Or.inl ⟨by rfl, ?_⟩) hHeld ?_ ?_; rotate_left
            ·rintro w' ⟨s0, s1, s2, s3⟩; go_simp; with_reducible rfl
            rotate_left
            ·simp only [Act.put, zA, zB, zC, QC, QD]; rfl
            refine QX (i := 4) (N := some 45) (v := ?_) (a' := ?_) #[true, true, true, true, true, true, false, false, false, false, false] rfl rfl (QL HT_.out (by kernel_rfl)) (fun _ _ _ h => h) (Or.inl ⟨by rfl, ?_⟩) ?_ ?_; rotate_left
            ·intro w'; go_simp; with_reducible rfl
            rotate_left
            ·simp only [Act.put, zA, zB, zC, QC, QD]; rfl
            refine ZY (i := 6) (N := some 47) (v := ?_) (a' := ?_) #[true, true, true, true, true, true, true, false, false, false, false] rfl rfl (Zq HT_.out HW_.out (by kernel_rfl)) (fun _ _ _ h => h) (Or.inl ⟨by rfl, ?_⟩) hHeld ?_ ?_; rotate_left
            ·rintro w' ⟨s0, s1, s2, s3⟩; go_simp; with_reducible rfl
            rotate_left
            ·simp only [Act.put, zA, zB, zC, QC, QD]; rfl
            refine QX (i := 7) (N := some 48) (v := ?_) (a' := ?_) #[true, true, true, true, true, true, true, true, false, false, false] rfl rfl (QL HT_.out (by kernel_rfl)) (fun _ _ _ h => h) (Or.inl ⟨by rfl, ?_⟩) ?_ ?_; rotate_left
            ·intro w'; go_simp; with_reducible rfl
            rotate_left
            ·simp only [Act.put, zA, zB, zC, QC, QD]; rfl
            refine ZY (i := 8) (N := some 49) (v := ?_) (a' := ?_) #[true, true, true, true, true, true, true, true, true, false, false] rfl rfl (Zq HT_.out HW_.out (by kernel_rfl)) (fun _ _ _ h => h) (Or.inl ⟨by rfl, ?_⟩) hHeld ?_ ?_; rotate_left
            ·rintro w' ⟨s0, s1, s2, s3⟩; go_simp; with_reducible rfl
            rotate_left
            ·simp only [Act.put, zA, zB, zC, QC, QD]; rfl
            refine QX (i := 9) (N := some 50) (v := ?_) (a' := ?_) #[true, true, true, true, true, true, true, true, true, true, false] rfl rfl (QL HT_.out (by kernel_rfl)) (fun _ _ _ h => h) (Or.inl ⟨by rfl, ?_⟩) ?_ ?_; rotate_left
            ·intro w'; go_simp; with_reducible rfl
            rotate_left
            ·simp only [Act.put, zA, zB, zC, QC, QD]; rfl
            refine QX (i := 10) (N := some 51) (v := ?_) (a' := ?_) #[true, true, true, true, true, true, true, true, true, true, true] rfl rfl (QL HT_.out (by kernel_rfl)) (fun _ _ _ h => h) (Or.inl ⟨by rfl, ?_⟩) ?_ ?_; rotate_left
            ·intro w'; go_simp; with_reducible rfl
            rotate_left
            ·simp only [Act.put, zA, zB, zC, QC, QD]; rfl
            refine YN (Yo HT_.out (by kernel_rfl)) ?_; try go_wp2
            go_loopg [5, 6] k2 (fun kq v5 v6 w' => ∃ (kv : Int) (cI : Int), v5 = .int .i64 kv ∧ v6 = .int .i64 cI ∧ aa (Qe.l1 kq bQ aD kv cI ae af = some r) ∧ aa (kq ≤ k2) ∧ aa (Kd.N (Kd.slice 3 (Kd.int .i64)) 28 w' w.heap.size (fun k_ => ((cS k_ ∨ cR k_) ∨ w.heap.size ≤ k_) ∧ k_ ≠ ag) (.slice (some eQ) bQ.length rA) bQ) ∧ aa (Kd.V (Kd.slice 3 (Kd.int .i64)) 28 w' w.heap.size (fun k_ => ((cS k_ ∨ cR k_) ∨ w.heap.size ≤ k_) ∧ some k_ ≠ ((.slice (some eQ) bQ.length rA) : Value).ownBlock ∧ k_ ≠ ag) (.slice (some fI) ae.length an) ae) ∧ aa (Kd.V (Kd.slice 3 (Kd.int .i64)) 28 w' w.heap.size (fun k_ => ((cS k_ ∨ cR k_) ∨ w.heap.size ≤ k_) ∧ some k_ ≠ ((.slice (some eQ) bQ.length rA) : Value).ownBlock ∧ k_ ≠ ag) (.slice aj af.length al) af) ∧ aa (w'.heap[ag]? = some (.cells #[(.slice (some fI) ae.length an), (.slice aj af.length al)] 24 (0, 0))) ∧ aa (Kd.C (Kd.int .i64) w' k7 (Qu bQ aD).length (Qu bQ aD)) ∧ aa (Kd.C (Kd.int .i64) w' mc (Qu ae 0).length (Qu ae 0)) ∧ aa (Below w.heap.size w w'))
            case atStart => exact ⟨(0), (0), (by first | rfl | (simp; done) | (simp [*]; done)), (by first | rfl | (simp; done) | (simp [*]; done)), H', ⟨Nat.le_refl _⟩, ⟨by (with_reducible repeat (first | apply Kd.N_alloc | apply Kd.Z5 | apply Kd.Yj)); exact bj.out⟩, ⟨by (with_reducible repeat (first | apply Kd.V_alloc | apply Kd.ZN | apply Kd.ZK)); exact aV.out⟩, ⟨by (with_reducible repeat (first | apply Kd.V_alloc | apply Kd.ZN | apply Kd.ZK)); exact bl.out⟩, ⟨by (with_reducible repeat (first | refine Qx ?_ _ | refine QA ?_ | refine Qw ?_ _)); exact ab.out⟩, ⟨by repeat (first | (with_reducible exact ew.out) | (with_reducible refine Kd.C_alloc ?_ _) | (with_reducible refine Kd.ZF ?_ _) | (with_reducible refine Kd.C_drew ?_) | exact ew.out)⟩, ⟨by repeat (first | (with_reducible exact fJ.out) | (with_reducible refine Kd.C_alloc ?_ _) | (with_reducible refine Kd.ZF ?_ _) | (with_reducible refine Kd.C_drew ?_) | exact fJ.out)⟩, ⟨bB⟩⟩
            case round =>
             clear H'; try clear c1
             try clear p1
             try clear q1
             try clear hx1
             try clear qi1
             try clear c2
             try clear p2
             try clear c5
             try clear c7
             try clear c8
             try clear dF
             try clear jx
             try clear c9
             try clear c10
             try clear p10
             try clear q10
             try clear ir
             try clear mo
             try clear c11
             try clear p11
             try clear q11
             try clear te
             try clear Bj
             try clear c13
             try clear c14
             try clear c15
             try clear c21
             try clear jD
             try clear c22
             try clear fE
             try clear c23
             try clear kR
             try clear lg
             try clear c24
             try clear jC
             try clear kQ
             try clear kP
             try clear du
             try clear dr
             try clear cQ
             try clear cP
             try clear dY
             try clear dX
             try clear dq
             try clear dp
             try clear cO
             try clear cN
             try clear dW
             try clear dV
             try clear cb
             try clear da
             try clear b8
             try clear p1
             try clear p10
             try clear gz
             try clear iq
             try clear dK
             try clear p2
             try clear q1
             try clear q10
             try clear gw
             try clear im
             try clear dJ
             obtain ⟨kv, cI, rfl, rfl, HA, HK3, bj, aV, bl, ab, ew, fJ, HB⟩ := hrel; cases gk with
             | zero => exact absurd HA.out (by simp [Qe.l1])
             | succ k3 =>
              have H := HA.out; clear HA; simp only [Qe.l1] at H; by_cases c27 : 0 ≤ aD
              ·rw [if_pos c27] at H; have AN : decide (0 ≤ aD) = true := decide_eq_true c27; clear c27; by_cases c28 : aD < (bQ.length : Int)
               ·rw [if_pos c28] at H; have qb : decide (aD < (bQ.length : Int)) = true := decide_eq_true c28; clear c28; by_cases c29 : cI < ((Qu bQ aD).length : Int)
                ·rw [if_pos c29] at H; have mQ : decide (cI < ((Qu bQ aD).length : Int)) = true := decide_eq_true c29; clear c29; by_cases c30 : 0 ≤ cI
                 ·rw [if_pos c30] at H; have sy : decide (0 ≤ cI) = true := decide_eq_true c30; clear c30; replace H := Option.bind_eq_some_iff.mp H; obtain ⟨t120, xf, H⟩ := H; replace H : (if t120 = true then (Qe.l1 k3 bQ aD (wrap64 (kv + (rd (Qu bQ aD) cI))) (wrap64 (cI + 1)) ae af) else (some 1)) = some r := H; have A31 := aa.mk xf; clear xf; by_cases c32 : t120 = true
                  ·subst c32; have H1 : (Qe.l1 k3 bQ aD (wrap64 (kv + (rd (Qu bQ aD) cI))) (wrap64 (cI + 1)) ae af) = some r := by rw [if_pos rfl] at H; exact H
                   clear H; have H := H1; clear H1; have H' := aa.mk H; clear H; have fh : 0 ≤ (aD : Int) := of_decide_eq_true (by assumption); have fg : aD < (bQ.length : Int) := of_decide_eq_true (by assumption); obtain ⟨jG, nL, nC, lW, cL, dN, dR⟩ := ZJ (Kd.Za bj.out).2.2 aD fh fg; obtain rfl : eQ = jG := (by injection lW); obtain ⟨p3, iv, iw, fm⟩ := Kd.Y2 bj.out [] aD fh (by first | exact fg | exact of_decide_eq_true (by assumption) | (have e_ := (Kd.Za bj.out).1; omega)); obtain ⟨lD, lC, rfl, cE, cF⟩ := Kd.Zt iw; have cd := fm 0 _ rfl; rw [Nat.add_zero, show ((Kd.slice 3 (Kd.int .i64))).sz = 1 from rfl, Nat.mul_one] at cd; replace cd := Option.some.inj (cd.symm.trans cL); injection cd with hva_ hvn_ hvc_
                   rw [hva_] at cF; rw [hvc_] at cE; have l5 := aa.mk (show Kd.V (Kd.int .i64) 3 _ w.heap.size _ _ (Qu bQ aD) from Kd.V_mk cE cF); clear hva_ hvn_ hvc_ cF cE; clear fm iv; have lY := aa.mk dR; have l8 := aa.mk dN; clear dR dN; replace fh := eq_true fh; replace fg := eq_true fg; have jm : 0 ≤ (aD : Int) := of_decide_eq_true (by assumption); have ji : aD < (bQ.length : Int) := of_decide_eq_true (by assumption); obtain ⟨mT, uN, ur, pR, dM, iH, iK⟩ := ZJ (Kd.Za bj.out).2.2 aD jm ji; obtain rfl : eQ = mT := (by injection pR); obtain ⟨vR, nm, nq, kG⟩ := Kd.Y2 bj.out [] aD jm (by first | exact ji | exact of_decide_eq_true (by assumption) | (have e_ := (Kd.Za bj.out).1; omega)); obtain ⟨qE, qB, rfl, fU, gg⟩ := Kd.Zt nq; have eU := kG 0 _ rfl; rw [Nat.add_zero, show ((Kd.slice 3 (Kd.int .i64))).sz = 1 from rfl, Nat.mul_one] at eU; replace eU := Option.some.inj (eU.symm.trans dM); injection eU with hva_ hvn_ hvc_
                   rw [hva_] at gg; rw [hvc_] at fU; have rF := aa.mk (show Kd.V (Kd.int .i64) 3 _ w.heap.size _ _ (Qu bQ aD) from Kd.V_mk fU gg); clear hva_ hvn_ hvc_ gg fU; clear kG nm; have jb := aa.mk iK; have rJ := aa.mk iH; clear iK iH; replace jm := eq_true jm; replace ji := eq_true ji; have ea_ := Option.some.inj (cL.symm.trans dM); injection ea_ with ea_ en_ ec_
                   subst ea_; subst ec_; clear en_; have ng : 0 ≤ (cI : Int) := of_decide_eq_true (by assumption); have m9 : cI < ((Qu bQ aD).length : Int) := of_decide_eq_true (by assumption); obtain ⟨wm, ui, qL⟩ := Kd.Zi (by repeat (first | (with_reducible exact jb.out) | (with_reducible refine Kd.C_alloc ?_ _) | (with_reducible refine Kd.ZF ?_ _) | (with_reducible refine Kd.C_drew ?_) | exact jb.out)) cI ng m9; cases ui; replace ng := eq_true ng; replace m9 := eq_true m9; go_wp2_with (first | ((with_reducible refine Qh (f := 99) rfl ?_); refine QG (some 68) rfl rfl Try.func99 (by kernel_rfl) rfl #[.int .i64 (rd (Qu bQ aD) cI), .int .i64 0, .int .i64 9] rfl hA ?_; (with_reducible refine (QP.calls (rd (Qu bQ aD) cI) 0 9 true _ A31.out).mono ?_); rintro e w' ⟨rfl, ⟨nd, rfl⟩⟩; refine ⟨_, rfl, ?_⟩; have qI : 0 ≤ (aD : Int) := of_decide_eq_true (by assumption); have qH : aD < (bQ.length : Int) := of_decide_eq_true (by assumption); obtain ⟨wk, Ai, zT, zL, nS, nX, n5⟩ := ZJ (Kd.Za bj.out).2.2 aD qI qH; obtain rfl : eQ = wk := (by injection zL); obtain ⟨Ax, tC, tJ, pC⟩ := Kd.Y2 bj.out [] aD qI (by first | exact qH | exact of_decide_eq_true (by assumption) | (have e_ := (Kd.Za bj.out).1; omega)); obtain ⟨xv, xp, rfl, lx, lR⟩ := Kd.Zt tJ; have jV := pC 0 _ rfl; rw [Nat.add_zero, show ((Kd.slice 3 (Kd.int .i64))).sz = 1 from rfl, Nat.mul_one] at jV; replace jV := Option.some.inj (jV.symm.trans nS); injection jV with hva_ hvn_ hvc_; rw [hva_] at lR; rw [hvc_] at lx; have ym := aa.mk (show Kd.V (Kd.int .i64) 3 _ w.heap.size _ _ (Qu bQ aD) from Kd.V_mk lx lR); clear hva_ hvn_ hvc_ lR lx; clear pC tC; have oE := aa.mk n5; have yp := aa.mk nX; clear n5 nX; replace qI := eq_true qI; replace qH := eq_true qH; have ea_ := Option.some.inj (cL.symm.trans nS); injection ea_ with ea_ en_ ec_; subst ea_; subst ec_; clear en_; have nf : 0 ≤ (cI : Int) := of_decide_eq_true (by assumption); have m8 : cI < ((Qu bQ aD).length : Int) := of_decide_eq_true (by assumption); obtain ⟨qe, uh, qK⟩ := Kd.Zi (by repeat (first | (with_reducible exact oE.out) | (with_reducible refine Kd.C_alloc ?_ _) | (with_reducible refine Kd.ZF ?_ _) | (with_reducible refine Kd.C_drew ?_) | exact oE.out)) cI nf m8; cases uh; replace nf := eq_true nf; replace m8 := eq_true m8))
                   go_roundg k3
                   case measure => have := HJ1.out; have := HK2.out; have := HK3.out; omega
                   case rel => exact ⟨(wrap64 (kv + (rd (Qu bQ aD) cI))), (wrap64 (cI + 1)), (by first | rfl | (simp; done) | (simp [*]; done)), (by first | rfl | (simp; done) | (simp [*]; done)), H', ⟨by have := HJ1.out; have := HK2.out; have := HK3.out; omega⟩, ⟨by (with_reducible repeat (first | apply Kd.N_alloc | apply Kd.Z5 | apply Kd.Yj)); exact bj.out⟩, ⟨by (with_reducible repeat (first | apply Kd.V_alloc | apply Kd.ZN | apply Kd.ZK)); exact aV.out⟩, ⟨by (with_reducible repeat (first | apply Kd.V_alloc | apply Kd.ZN | apply Kd.ZK)); exact bl.out⟩, ⟨by (with_reducible repeat (first | refine Qx ?_ _ | refine QA ?_ | refine Qw ?_ _)); exact ab.out⟩, ⟨by repeat (first | (with_reducible exact ew.out) | (with_reducible refine Kd.C_alloc ?_ _) | (with_reducible refine Kd.ZF ?_ _) | (with_reducible refine Kd.C_drew ?_) | exact ew.out)⟩, ⟨by repeat (first | (with_reducible exact fJ.out) | (with_reducible refine Kd.C_alloc ?_ _) | (with_reducible refine Kd.ZF ?_ _) | (with_reducible refine Kd.C_drew ?_) | exact fJ.out)⟩, ⟨bB⟩⟩
                  ·replace c32 := Bool.eq_false_iff.mpr c32; subst c32; have H1 : (some 1) = some r := by rw [if_neg (show ¬ (false = true) by decide)] at H; exact H
                   clear H; have H := H1; clear H1; obtain rfl := Option.some.inj H; have fh : 0 ≤ (aD : Int) := of_decide_eq_true (by assumption); have fg : aD < (bQ.length : Int) := of_decide_eq_true (by assumption); obtain ⟨jG, nL, nC, lW, cL, dN, dR⟩ := ZJ (Kd.Za bj.out).2.2 aD fh fg; obtain rfl : eQ = jG := (by injection lW); obtain ⟨p3, iv, iw, fm⟩ := Kd.Y2 bj.out [] aD fh (by first | exact fg | exact of_decide_eq_true (by assumption) | (have e_ := (Kd.Za bj.out).1; omega)); obtain ⟨lD, lC, rfl, cE, cF⟩ := Kd.Zt iw; have cd := fm 0 _ rfl; rw [Nat.add_zero, show ((Kd.slice 3 (Kd.int .i64))).sz = 1 from rfl, Nat.mul_one] at cd; replace cd := Option.some.inj (cd.symm.trans cL); injection cd with hva_ hvn_ hvc_
                   rw [hva_] at cF; rw [hvc_] at cE; have l5 := aa.mk (show Kd.V (Kd.int .i64) 3 _ w.heap.size _ _ (Qu bQ aD) from Kd.V_mk cE cF); clear hva_ hvn_ hvc_ cF cE; clear fm iv; have lY := aa.mk dR; have l8 := aa.mk dN; clear dR dN; replace fh := eq_true fh; replace fg := eq_true fg; have jm : 0 ≤ (aD : Int) := of_decide_eq_true (by assumption); have ji : aD < (bQ.length : Int) := of_decide_eq_true (by assumption); obtain ⟨mT, uN, ur, pR, dM, iH, iK⟩ := ZJ (Kd.Za bj.out).2.2 aD jm ji; obtain rfl : eQ = mT := (by injection pR); obtain ⟨vR, nm, nq, kG⟩ := Kd.Y2 bj.out [] aD jm (by first | exact ji | exact of_decide_eq_true (by assumption) | (have e_ := (Kd.Za bj.out).1; omega)); obtain ⟨qE, qB, rfl, fU, gg⟩ := Kd.Zt nq; have eU := kG 0 _ rfl; rw [Nat.add_zero, show ((Kd.slice 3 (Kd.int .i64))).sz = 1 from rfl, Nat.mul_one] at eU; replace eU := Option.some.inj (eU.symm.trans dM); injection eU with hva_ hvn_ hvc_
                   rw [hva_] at gg; rw [hvc_] at fU; have rF := aa.mk (show Kd.V (Kd.int .i64) 3 _ w.heap.size _ _ (Qu bQ aD) from Kd.V_mk fU gg); clear hva_ hvn_ hvc_ gg fU; clear kG nm; have jb := aa.mk iK; have rJ := aa.mk iH; clear iK iH; replace jm := eq_true jm; replace ji := eq_true ji; have ea_ := Option.some.inj (cL.symm.trans dM); injection ea_ with ea_ en_ ec_
                   subst ea_; subst ec_; clear en_; have ng : 0 ≤ (cI : Int) := of_decide_eq_true (by assumption); have m9 : cI < ((Qu bQ aD).length : Int) := of_decide_eq_true (by assumption); obtain ⟨wm, ui, qL⟩ := Kd.Zi (by repeat (first | (with_reducible exact jb.out) | (with_reducible refine Kd.C_alloc ?_ _) | (with_reducible refine Kd.ZF ?_ _) | (with_reducible refine Kd.C_drew ?_) | exact jb.out)) cI ng m9; cases ui; replace ng := eq_true ng; replace m9 := eq_true m9; go_wp2_with (first | ((with_reducible refine Qh (f := 99) rfl ?_); refine QG (some 68) rfl rfl Try.func99 (by kernel_rfl) rfl #[.int .i64 (rd (Qu bQ aD) cI), .int .i64 0, .int .i64 9] rfl hA ?_; (with_reducible refine (QP.calls (rd (Qu bQ aD) cI) 0 9 false _ A31.out).mono ?_); rintro e w' ⟨rfl, ⟨nd, rfl⟩⟩; refine ⟨_, rfl, ?_⟩))
                   go_ret; exact ⟨by first | rfl | (simp [Qk, Qj] <;> rfl) | (simp [*, Qk, Qj] <;> rfl), bB⟩
                 ·rw [if_neg c30] at H; exact absurd H (by simp)
                ·rw [if_neg c29] at H; have mQ : decide (cI < ((Qu bQ aD).length : Int)) = false := decide_eq_false c29; clear c29; by_cases c33 : kv = 0
                 ·rw [if_pos c33] at H; have sx : (kv == 0) = true := beq_iff_eq.mpr c33; have wa : (kv != 0) = false := bne_eq_false_iff_eq.mpr c33; clear c33; obtain rfl := Option.some.inj H; have fh : 0 ≤ (aD : Int) := of_decide_eq_true (by assumption); have fg : aD < (bQ.length : Int) := of_decide_eq_true (by assumption); obtain ⟨jG, nL, nC, lW, cL, dN, dR⟩ := ZJ (Kd.Za bj.out).2.2 aD fh fg; obtain rfl : eQ = jG := (by injection lW); obtain ⟨p3, iv, iw, fm⟩ := Kd.Y2 bj.out [] aD fh (by first | exact fg | exact of_decide_eq_true (by assumption) | (have e_ := (Kd.Za bj.out).1; omega)); obtain ⟨lD, lC, rfl, cE, cF⟩ := Kd.Zt iw; have cd := fm 0 _ rfl; rw [Nat.add_zero, show ((Kd.slice 3 (Kd.int .i64))).sz = 1 from rfl, Nat.mul_one] at cd; replace cd := Option.some.inj (cd.symm.trans cL); injection cd with hva_ hvn_ hvc_
                  rw [hva_] at cF; rw [hvc_] at cE; have l5 := aa.mk (show Kd.V (Kd.int .i64) 3 _ w.heap.size _ _ (Qu bQ aD) from Kd.V_mk cE cF); clear hva_ hvn_ hvc_ cF cE; clear fm iv; have lY := aa.mk dR; have l8 := aa.mk dN; clear dR dN; replace fh := eq_true fh; replace fg := eq_true fg; go_wp2; go_ret; exact ⟨by first | rfl | (simp [Qk, Qj] <;> rfl) | (simp [*, Qk, Qj] <;> rfl), bB⟩
                 ·rw [if_neg c33] at H; have sx : (kv == 0) = false := beq_eq_false_iff_ne.mpr c33; have wa : (kv != 0) = true := bne_iff_ne.mpr c33; have H' := aa.mk H; clear H; have fh : 0 ≤ (aD : Int) := of_decide_eq_true (by assumption); have fg : aD < (bQ.length : Int) := of_decide_eq_true (by assumption); obtain ⟨jG, nL, nC, lW, cL, dN, dR⟩ := ZJ (Kd.Za bj.out).2.2 aD fh fg; obtain rfl : eQ = jG := (by injection lW); obtain ⟨p3, iv, iw, fm⟩ := Kd.Y2 bj.out [] aD fh (by first | exact fg | exact of_decide_eq_true (by assumption) | (have e_ := (Kd.Za bj.out).1; omega)); obtain ⟨lD, lC, rfl, cE, cF⟩ := Kd.Zt iw; have cd := fm 0 _ rfl; rw [Nat.add_zero, show ((Kd.slice 3 (Kd.int .i64))).sz = 1 from rfl, Nat.mul_one] at cd; replace cd := Option.some.inj (cd.symm.trans cL); injection cd with hva_ hvn_ hvc_
                  rw [hva_] at cF; rw [hvc_] at cE; have l5 := aa.mk (show Kd.V (Kd.int .i64) 3 _ w.heap.size _ _ (Qu bQ aD) from Kd.V_mk cE cF); clear hva_ hvn_ hvc_ cF cE; clear fm iv; have lY := aa.mk dR; have l8 := aa.mk dN; clear dR dN; replace fh := eq_true fh; replace fg := eq_true fg; go_wp2; go_roundg k3
                  case measure => have := HJ1.out; have := HK2.out; have := HK3.out; omega
                  case rel => exact ⟨(wrap64 (aD + 1)), (by first | rfl | (simp; done) | (simp [*]; done)), H', ⟨by have := HJ1.out; have := HK2.out; have := HK3.out; omega⟩, ⟨by (with_reducible repeat (first | apply Kd.N_alloc | apply Kd.Z5 | apply Kd.Yj)); exact bj.out⟩, ⟨by (with_reducible repeat (first | apply Kd.V_alloc | apply Kd.ZN | apply Kd.ZK)); exact aV.out⟩, ⟨by (with_reducible repeat (first | apply Kd.V_alloc | apply Kd.ZN | apply Kd.ZK)); exact bl.out⟩, ⟨by (with_reducible repeat (first | refine Qx ?_ _ | refine QA ?_ | refine Qw ?_ _)); exact ab.out⟩, ⟨bB⟩⟩
               ·rw [if_neg c28] at H; exact absurd H (by simp)
              ·rw [if_neg c27] at H; exact absurd H (by simp)
           ·rw [if_neg c24] at H; have jC : (((Qu bQ aD).length : Int) == ((Qu ae 0).length : Int)) = false := beq_eq_false_iff_ne.mpr c24; have kQ : (((Qu bQ aD).length : Int) != ((Qu ae 0).length : Int)) = true := bne_iff_ne.mpr c24; have kP : ((Qu bQ aD).length == (Qu ae 0).length) = false := by first | simpa using c24 | (simp at c24 ⊢; omega)
            obtain rfl := Option.some.inj H; obtain ⟨wW, vO, tX⟩ := Kd.ZQ bj.out; subst tX; try go_wp2
            replace bj := aa.mk (Kd.Yj bj.out); replace aV := aa.mk (Kd.ZK aV.out); replace bl := aa.mk (Kd.ZK bl.out); replace ab := aa.mk (QA ab.out); replace HB := aa.mk (QR HB.out); have iq : 0 ≤ (aD : Int) := of_decide_eq_true (by assumption); have im : aD < (bQ.length : Int) := of_decide_eq_true (by assumption); obtain ⟨eQ, k7, lX, pS, da, fy, fB⟩ := ZJ (Kd.Za bj.out).2.2 aD iq im; cases pS; obtain ⟨vT, np, nt, kI⟩ := Kd.Y2 bj.out [] aD iq (by first | exact im | exact of_decide_eq_true (by assumption) | (have e_ := (Kd.Za bj.out).1; omega)); obtain ⟨qG, qD, rfl, fW, gi⟩ := Kd.Zt nt; have eW := kI 0 _ rfl; rw [Nat.add_zero, show ((Kd.slice 3 (Kd.int .i64))).sz = 1 from rfl, Nat.mul_one] at eW; replace eW := Option.some.inj (eW.symm.trans da); injection eW with hva_ hvn_ hvc_
            rw [hva_] at gi; rw [hvc_] at fW; have l7 := aa.mk (show Kd.V (Kd.int .i64) 3 _ w.heap.size _ _ (Qu bQ aD) from Kd.V_mk fW gi); clear hva_ hvn_ hvc_ gi fW; clear kI np; have ew := aa.mk fB; have oN := aa.mk fy; clear fB fy; replace iq := eq_true iq; replace im := eq_true im; have dK : 0 ≤ (0 : Int) := (by omega); have dJ : 0 < (ae.length : Int) := of_decide_eq_true (by assumption); obtain ⟨fI, mc, nD, jv, b8, iI, iL⟩ := ZJ (Kd.Yi aV.out).2.2 0 dK dJ; cases jv; obtain ⟨vS, nn, nr, kH⟩ := Kd.V_get aV.out [] 0 dK (by first | exact dJ | exact of_decide_eq_true (by assumption) | (have e_ := (Kd.Yi aV.out).1; omega)); obtain ⟨qF, qC, rfl, fV, gh⟩ := Kd.Zt nr; have eV := kH 0 _ rfl; rw [Nat.add_zero, show ((Kd.slice 3 (Kd.int .i64))).sz = 1 from rfl, Nat.mul_one] at eV; replace eV := Option.some.inj (eV.symm.trans b8); injection eV with hva_ hvn_ hvc_
            rw [hva_] at gh; rw [hvc_] at fV; have l6 := aa.mk (show Kd.V (Kd.int .i64) 3 _ w.heap.size _ _ (Qu ae 0) from Kd.V_mk fV gh); clear hva_ hvn_ hvc_ gh fV; clear kH nn; have uT : (0 < ae.length) = True := eq_true (by omega); (try rw [show ((0 : Int)).toNat = 0 from rfl] at b8)
            (try rw [Addr.add_zero'] at b8)
            have fJ := aa.mk iL; have rK := aa.mk iI; clear iL iI; replace dK := eq_true dK; replace dJ := eq_true dJ; refine Yw (n := 11) (S := fun w' => w'.cell? ⟨ag, 0, none⟩ = some (.slice (some fI) ae.length an) ∧ w'.cell? ⟨ag, 1, none⟩ = some (.slice aj af.length al) ∧ w'.cell? (eQ.add (aD).toNat) = some (.slice k7 (Qu bQ aD).length lX) ∧ w'.cell? fI = some (.slice mc (Qu ae 0).length nD)) (ds := []) #[false, false, false, false, false, false, false, false, false, false, false] (by kernel_rfl) rfl rfl ⟨(Qd ab.out 0).trans rfl, (Qd ab.out 1).trans rfl, da, b8⟩ (fun hHeld => ?_); refine ZZ Qe.tab7 Qe.bits7 (fun HT_ HW_ => ?_); generalize wr.drew = w35 at bj aV bl ab HB l7 l6 ew fJ da b8 hHeld ⊢; refine QX (i := 0) (N := some 41) (v := ?_) (a' := ?_) #[true, false, false, false, false, false, false, false, false, false, false] rfl rfl (QL HT_.out (by kernel_rfl)) (fun _ _ _ h => h) (Or.inl ⟨by rfl, ?_⟩) ?_ ?_; rotate_left
            ·intro w'; go_simp; with_reducible rfl
            rotate_left
            ·simp only [Act.put, zA, zB, zC, QC, QD]; rfl
            refine QX (i := 1) (N := some 42) (v := ?_) (a' := ?_) #[true, true, false, false, false, false, false, false, false, false, false] rfl rfl (QL HT_.out (by kernel_rfl)) (fun _ _ _ h => h) (Or.inl ⟨by rfl, ?_⟩) ?_ ?_; rotate_left
            ·intro w'; go_simp; with_reducible rfl
            rotate_left
            ·simp only [Act.put, zA, zB, zC, QC, QD]; rfl
            refine QX (i := 2) (N := some 43) (v := ?_) (a' := ?_) #[true, true, true, false, false, false, false, false, false, false, false] rfl rfl (QL HT_.out (by kernel_rfl)) (fun _ _ _ h => h) (Or.inl ⟨by rfl, ?_⟩) ?_ ?_; rotate_left
            ·intro w'; go_simp; with_reducible rfl
            rotate_left
            ·simp only [Act.put, zA, zB, zC, QC, QD]; rfl
            refine QX (i := 5) (N := some 46) (v := ?_) (a' := ?_) #[true, true, true, false, false, true, false, false, false, false, false] rfl rfl (QL HT_.out (by kernel_rfl)) (fun _ _ _ h => h) (Or.inl ⟨by rfl, ?_⟩) ?_ ?_; rotate_left
            ·intro w'; go_simp; with_reducible rfl
            rotate_left
            ·simp only [Act.put, zA, zB, zC, QC, QD]; rfl
            refine ZY (i := 3) (N := some 44) (v := ?_) (a' := ?_) #[true, true, true, true, false, true, false, false, false, false, false] rfl rfl (Zq HT_.out HW_.out (by kernel_rfl)) (fun _ _ _ h => h) (Or.inl ⟨by rfl, ?_⟩) hHeld ?_ ?_; rotate_left
            ·rintro w' ⟨s0, s1, s2, s3⟩; go_simp; with_reducible rfl
            rotate_left
            ·simp only [Act.put, zA, zB, zC, QC, QD]; rfl
            refine QX (i := 4) (N := some 45) (v := ?_) (a' := ?_) #[true, true, true, true, true, true, false, false, false, false, false] rfl rfl (QL HT_.out (by kernel_rfl)) (fun _ _ _ h => h) (Or.inl ⟨by rfl, ?_⟩) ?_ ?_; rotate_left
            ·intro w'; go_simp; with_reducible rfl
            rotate_left
            ·simp only [Act.put, zA, zB, zC, QC, QD]; rfl
            refine ZY (i := 6) (N := some 47) (v := ?_) (a' := ?_) #[true, true, true, true, true, true, true, false, false, false, false] rfl rfl (Zq HT_.out HW_.out (by kernel_rfl)) (fun _ _ _ h => h) (Or.inl ⟨by rfl, ?_⟩) hHeld ?_ ?_; rotate_left
            ·rintro w' ⟨s0, s1, s2, s3⟩; go_simp; with_reducible rfl
            rotate_left
            ·simp only [Act.put, zA, zB, zC, QC, QD]; rfl
            refine QX (i := 7) (N := some 48) (v := ?_) (a' := ?_) #[true, true, true, true, true, true, true, true, false, false, false] rfl rfl (QL HT_.out (by kernel_rfl)) (fun _ _ _ h => h) (Or.inl ⟨by rfl, ?_⟩) ?_ ?_; rotate_left
            ·intro w'; go_simp; with_reducible rfl
            rotate_left
            ·simp only [Act.put, zA, zB, zC, QC, QD]; rfl
            refine ZY (i := 8) (N := some 49) (v := ?_) (a' := ?_) #[true, true, true, true, true, true, true, true, true, false, false] rfl rfl (Zq HT_.out HW_.out (by kernel_rfl)) (fun _ _ _ h => h) (Or.inl ⟨by rfl, ?_⟩) hHeld ?_ ?_; rotate_left
            ·rintro w' ⟨s0, s1, s2, s3⟩; go_simp; with_reducible rfl
            rotate_left
            ·simp only [Act.put, zA, zB, zC, QC, QD]; rfl
            refine QX (i := 9) (N := some 50) (v := ?_) (a' := ?_) #[true, true, true, true, true, true, true, true, true, true, false] rfl rfl (QL HT_.out (by kernel_rfl)) (fun _ _ _ h => h) (Or.inl ⟨by rfl, ?_⟩) ?_ ?_; rotate_left
            ·intro w'; go_simp; with_reducible rfl
            rotate_left
            ·simp only [Act.put, zA, zB, zC, QC, QD]; rfl
            refine QX (i := 10) (N := some 51) (v := ?_) (a' := ?_) #[true, true, true, true, true, true, true, true, true, true, true] rfl rfl (QL HT_.out (by kernel_rfl)) (fun _ _ _ h => h) (Or.inl ⟨by rfl, ?_⟩) ?_ ?_; rotate_left
            ·intro w'; go_simp; with_reducible rfl
            rotate_left
            ·simp only [Act.put, zA, zB, zC, QC, QD]; rfl
            refine YN (Yo HT_.out (by kernel_rfl)) ?_; try go_wp2
            go_ret; exact ⟨by first | rfl | (simp [Qk, Qj] <;> rfl) | (simp [*, Qk, Qj] <;> rfl), bB⟩
          ·rw [if_neg c23] at H; exact absurd H (by simp)
         ·rw [if_neg c22] at H; exact absurd H (by simp)
        ·rw [if_neg c21] at H; have jD : decide (aD < (bQ.length : Int)) = false := decide_eq_false c21; clear c21; obtain rfl := Option.some.inj H; obtain ⟨nK, nB, mM⟩ := Kd.ZQ bj.out; subst mM; go_wp2; go_ret; exact ⟨by first | rfl | (simp [Qk, Qj] <;> rfl) | (simp [*, Qk, Qj] <;> rfl), bB⟩
     ·rw [if_neg c15] at H; exact absurd H (by simp)
    ·rw [if_neg c14] at H; exact absurd H (by simp)
def ZG.f (k : Nat) (ae : List (List Int)) (af : List (List Int)) (l1 : List Int) : Option (Int) := (Qe.f k ae af).bind fun t102 => (if t102 = 0 then ((Q7.f k l1 (wrap64 ((ae.length : Int) + (af.length : Int))) (-1000000) 1000000).bind fun t103 => (if t103 = true then (some 0) else (some 1))) else (some t102))
set_option maxHeartbeats 8000000 in
set_option maxRecDepth 100000 in
theorem ZG.calls (k : Nat) (ak : Option Addr) (an : Nat) (ae : List (List Int)) (aj : Option Addr) (al : Nat) (af : List (List Int)) (A1 : Option Addr) (c1 : Nat) (l1 : List Int) (r : Int) (w : World) (aM : Kd.C (Kd.slice 3 (Kd.int .i64)) w ak ae.length ae) (aQ : ae.length ≤ an) (aK : Kd.C (Kd.slice 3 (Kd.int .i64)) w aj af.length af) (aN : af.length ≤ al) (hr1 : Kd.C (Kd.int .i64) w A1 l1.length l1) (hc1 : l1.length ≤ c1) (h : ZG.f k ae af l1 = some r) :
  Calls Try.prog 93 #[.agg #[.slice ak ae.length an, .slice aj af.length al], .slice A1 l1.length c1] w fun e w' => e = .returned (.int .i64 r) ∧ Below w.heap.size w w' := by
 have ej := Try.underlying24; have ay := aa.mk aM; have aA := aa.mk aQ; clear aM aQ; have az := aa.mk aK; have aC := aa.mk aN; clear aK aN; have HR1 := aa.mk hr1; have HC1 := aa.mk hc1; clear hr1 hc1; have HB := aa.mk (Below.refl w.heap.size w); have H : ((Qe.f k ae af).bind fun t102 => (if t102 = 0 then ((Q7.f k l1 (wrap64 ((ae.length : Int) + (af.length : Int))) (-1000000) 1000000).bind fun t103 => (if t103 = true then (some 0) else (some 1))) else (some t102))) = some r := h; clear h; replace H := Option.bind_eq_some_iff.mp H; obtain ⟨t102, A30, H⟩ := H; replace H : (if t102 = 0 then ((Q7.f k l1 (wrap64 ((ae.length : Int) + (af.length : Int))) (-1000000) 1000000).bind fun t103 => (if t103 = true then (some 0) else (some 1))) else (some t102)) = some r := H; have A3 := aa.mk A30; clear A30; by_cases c4 : t102 = 0
 ·rw [if_pos c4] at H; have bI : (t102 == 0) = true := beq_iff_eq.mpr c4; have eh : (t102 != 0) = false := bne_eq_false_iff_eq.mpr c4; clear c4; replace H := Option.bind_eq_some_iff.mp H; obtain ⟨t103, A50, H⟩ := H; replace H : (if t103 = true then (some 0) else (some 1)) = some r := H; have A5 := aa.mk A50; clear A50; by_cases c6 : t103 = true
  ·subst c6; have H1 : (some 0) = some r := by rw [if_pos rfl] at H; exact H
   clear H; have H := H1; clear H1; obtain rfl := Option.some.inj H; go_enter Try.func93, Try.ntmps93; go_wp2_with (first | ((with_reducible refine QN (N := 2) rfl ?_); refine Q3 ?hg (N := 2) ?hd (cs := #[.slice ak ae.length an, .slice aj af.length al]) (t := 24) ?hr ?_; (case hd => rfl); (case hg => rfl); (case hr => first | (go_simp; done) | (go_simp; rfl)); intro ag hg w7 hbox hb; have ab := aa.mk (hbox); have bh := aa.mk ((by rw [hg]; exact (Qb bB) : w.heap.size ≤ ag)); have aT := aa.mk ((by rw [hg]; exact (Qb bB) : w.heap.size ≤ ag)); replace HB := aa.mk (Qa bB hb); clear hb hbox hg; have kD : w7.cell? ⟨ag, 0, none⟩ = some (.slice ak ae.length an) := (Qd ab.out 0).trans rfl; have kC : w7.cell? ⟨ag, 1, none⟩ = some (.slice aj af.length al) := (Qd ab.out 1).trans rfl; have kB := Qc ab.out 0; have kA := Qc ab.out 1) | ((with_reducible refine Qh (f := 55) rfl ?_); refine QG (some 7) rfl rfl Try.func55 (by kernel_rfl) rfl #[.agg #[.slice ak ae.length an, .slice aj af.length al]] rfl hA ?_; (with_reducible refine (Qe.calls k (fun k_ => k_ < w.heap.size) _ _ ae (fun k_ => k_ < w.heap.size) _ _ af t102 _ ?ah ?ai A3.out).mono ?_); (case ah => exact Kd.V_mk aA.out (Kd.Yg (Kd.C_F (Kd.ZP 3 (Kd.Yd .i64)) ay.out) bB)); (case ai => exact Kd.V_mk aC.out (Kd.Yg (Kd.C_F (Kd.ZP 3 (Kd.Yd .i64)) az.out) bB)); rintro e w9 ⟨rfl, hb⟩; refine ⟨_, rfl, ?_⟩; replace ab := aa.mk (Qp ab.out hb); replace HB := aa.mk (Qa bB hb); (try clear hb); (try clear hb2); (try clear hk); (try clear hi); have du : w9.cell? ⟨ag, 0, none⟩ = some (.slice ak ae.length an) := (Qd ab.out 0).trans rfl; have dr : w9.cell? ⟨ag, 1, none⟩ = some (.slice aj af.length al) := (Qd ab.out 1).trans rfl; have dq := Qc ab.out 0; have dp := Qc ab.out 1) | ((with_reducible refine Qh (f := 121) rfl ?_); refine QG (some 19) rfl rfl Try.func121 (by kernel_rfl) rfl #[.slice A1 l1.length c1, .int .i64 (wrap64 ((ae.length : Int) + (af.length : Int))), .int .i64 (-1000000), .int .i64 1000000] rfl hA ?_; (with_reducible refine (Q7.calls k _ _ l1 (wrap64 ((ae.length : Int) + (af.length : Int))) (-1000000) 1000000 true _ ?ah ?ai A5.out).mono ?_); (case ah => exact (Kd.Qq HR1.out HB.out)); (case ai => exact HC1.out); rintro e w' ⟨rfl, ⟨nd, rfl⟩⟩; refine ⟨_, rfl, ?_⟩))
   go_ret; exact ⟨by first | rfl | (simp [Qk, Qj] <;> rfl) | (simp [*, Qk, Qj] <;> rfl), bB⟩
  ·replace c6 := Bool.eq_false_iff.mpr c6; subst c6; have H1 : (some 1) = some r := by rw [if_neg (show ¬ (false = true) by decide)] at H; exact H
   clear H; have H := H1; clear H1; obtain rfl := Option.some.inj H; go_enter Try.func93, Try.ntmps93; go_wp2_with (first | ((with_reducible refine QN (N := 2) rfl ?_); refine Q3 ?hg (N := 2) ?hd (cs := #[.slice ak ae.length an, .slice aj af.length al]) (t := 24) ?hr ?_; (case hd => rfl); (case hg => rfl); (case hr => first | (go_simp; done) | (go_simp; rfl)); intro ag hg w11 hbox hb; have ab := aa.mk (hbox); have bh := aa.mk ((by rw [hg]; exact (Qb bB) : w.heap.size ≤ ag)); have aT := aa.mk ((by rw [hg]; exact (Qb bB) : w.heap.size ≤ ag)); replace HB := aa.mk (Qa bB hb); clear hb hbox hg; have dY : w11.cell? ⟨ag, 0, none⟩ = some (.slice ak ae.length an) := (Qd ab.out 0).trans rfl; have dX : w11.cell? ⟨ag, 1, none⟩ = some (.slice aj af.length al) := (Qd ab.out 1).trans rfl; have dW := Qc ab.out 0; have dV := Qc ab.out 1) | ((with_reducible refine Qh (f := 55) rfl ?_); refine QG (some 7) rfl rfl Try.func55 (by kernel_rfl) rfl #[.agg #[.slice ak ae.length an, .slice aj af.length al]] rfl hA ?_; (with_reducible refine (Qe.calls k (fun k_ => k_ < w.heap.size) _ _ ae (fun k_ => k_ < w.heap.size) _ _ af t102 _ ?ah ?ai A3.out).mono ?_); (case ah => exact Kd.V_mk aA.out (Kd.Yg (Kd.C_F (Kd.ZP 3 (Kd.Yd .i64)) ay.out) bB)); (case ai => exact Kd.V_mk aC.out (Kd.Yg (Kd.C_F (Kd.ZP 3 (Kd.Yd .i64)) az.out) bB)); rintro e w13 ⟨rfl, hb⟩; refine ⟨_, rfl, ?_⟩; replace ab := aa.mk (Qp ab.out hb); replace HB := aa.mk (Qa bB hb); (try clear hb); (try clear hb2); (try clear hk); (try clear hi); have dg : w13.cell? ⟨ag, 0, none⟩ = some (.slice ak ae.length an) := (Qd ab.out 0).trans rfl; have df : w13.cell? ⟨ag, 1, none⟩ = some (.slice aj af.length al) := (Qd ab.out 1).trans rfl; have de := Qc ab.out 0; have dd := Qc ab.out 1) | ((with_reducible refine Qh (f := 121) rfl ?_); refine QG (some 19) rfl rfl Try.func121 (by kernel_rfl) rfl #[.slice A1 l1.length c1, .int .i64 (wrap64 ((ae.length : Int) + (af.length : Int))), .int .i64 (-1000000), .int .i64 1000000] rfl hA ?_; (with_reducible refine (Q7.calls k _ _ l1 (wrap64 ((ae.length : Int) + (af.length : Int))) (-1000000) 1000000 false _ ?ah ?ai A5.out).mono ?_); (case ah => exact (Kd.Qq HR1.out HB.out)); (case ai => exact HC1.out); rintro e w' ⟨rfl, ⟨nd, rfl⟩⟩; refine ⟨_, rfl, ?_⟩))
   go_ret; exact ⟨by first | rfl | (simp [Qk, Qj] <;> rfl) | (simp [*, Qk, Qj] <;> rfl), bB⟩
 ·rw [if_neg c4] at H; have bI : (t102 == 0) = false := beq_eq_false_iff_ne.mpr c4; have eh : (t102 != 0) = true := bne_iff_ne.mpr c4; obtain rfl := Option.some.inj H; go_enter Try.func93, Try.ntmps93; go_wp2_with (first | ((with_reducible refine QN (N := 2) rfl ?_); refine Q3 ?hg (N := 2) ?hd (cs := #[.slice ak ae.length an, .slice aj af.length al]) (t := 24) ?hr ?_; (case hd => rfl); (case hg => rfl); (case hr => first | (go_simp; done) | (go_simp; rfl)); intro ag hg w15 hbox hb; have ab := aa.mk (hbox); have bh := aa.mk ((by rw [hg]; exact (Qb bB) : w.heap.size ≤ ag)); have aT := aa.mk ((by rw [hg]; exact (Qb bB) : w.heap.size ≤ ag)); replace HB := aa.mk (Qa bB hb); clear hb hbox hg; have e7 : w15.cell? ⟨ag, 0, none⟩ = some (.slice ak ae.length an) := (Qd ab.out 0).trans rfl; have e6 : w15.cell? ⟨ag, 1, none⟩ = some (.slice aj af.length al) := (Qd ab.out 1).trans rfl; have eY := Qc ab.out 0; have eX := Qc ab.out 1) | ((with_reducible refine Qh (f := 55) rfl ?_); refine QG (some 7) rfl rfl Try.func55 (by kernel_rfl) rfl #[.agg #[.slice ak ae.length an, .slice aj af.length al]] rfl hA ?_; (with_reducible refine (Qe.calls k (fun k_ => k_ < w.heap.size) _ _ ae (fun k_ => k_ < w.heap.size) _ _ af t102 _ ?ah ?ai A3.out).mono ?_); (case ah => exact Kd.V_mk aA.out (Kd.Yg (Kd.C_F (Kd.ZP 3 (Kd.Yd .i64)) ay.out) bB)); (case ai => exact Kd.V_mk aC.out (Kd.Yg (Kd.C_F (Kd.ZP 3 (Kd.Yd .i64)) az.out) bB)); rintro e w17 ⟨rfl, hb⟩; refine ⟨_, rfl, ?_⟩; replace ab := aa.mk (Qp ab.out hb); replace HB := aa.mk (Qa bB hb); (try clear hb); (try clear hb2); (try clear hk); (try clear hi)))
  go_ret; exact ⟨by first | rfl | (simp [Qk, Qj] <;> rfl) | (simp [*, Qk, Qj] <;> rfl), bB⟩
mutual
def Qg.l0 : Nat → List (List Int) → List Int → Int → Int → Int → Option (Int)
 | 0, _, _, _, _, _ => none
 | k + 1, x0, x1, x5, x6, x7 => if x7 < (x1.length : Int) then ((some (([] : List Int) : List Int)).bind fun dz => (if 0 ≤ x7 then (if x7 ≤ (x1.length : Int) then (if dz.length + (x1.take (x7 : Int).toNat).length < 17592186044416 then ((some (dz ++ (x1.take (x7 : Int).toNat) : List Int)).bind fun cW => (if 0 ≤ (wrap64 (x7 + 1)) then (if (wrap64 (x7 + 1)) ≤ (x1.length : Int) then (if cW.length + (x1.drop ((wrap64 (x7 + 1)) : Int).toNat).length < 17592186044416 then (if 0 < (x0.length : Int) then (if 0 ≤ (rd x1 x7) then (if (rd x1 x7) < ((Qu x0 0).length : Int) then (if 1 ≤ (x0.length : Int) then ((Qg.f k (x0.drop 1) (cW ++ (x1.drop ((wrap64 (x7 + 1)) : Int).toNat))).bind fun t119 => (Qg.l0 k x0 x1 (wrap64 (x5 + (wrap64 ((wrap64 (x6 * (rd (Qu x0 0) (rd x1 x7)))) * t119)))) (wrap64 (-x6)) (wrap64 (x7 + 1)))) else (none)) else (none)) else (none)) else (none)) else (none)) else (none)) else (none))) else (none)) else (none)) else (none))) else (some x5)
def Qg.f : Nat → List (List Int) → List Int → Option (Int)
 | 0, _, _ => none
 | k + 1, l0, l1 => if (l1.length : Int) = 0 then (some 1) else (Qg.l0 k l0 l1 0 1 0)
end
def Qg.T7 : Bool × List (List Nat × List Nat) := (true, [([], []), ([], []), ([], []), ([1, 2], [1, 2]), ([0, 3], [0, 3]), ([], []), ([], []), ([6], [6]), ([5, 7], [5, 7]), ([4, 8, 4], [4, 8]), ([9, 9, 0, 1, 2, 3, 4, 5, 6, 7, 8, 9], [9])])
def Qg.B7 : List Nat := [0, 0, 0, 6, 15, 0, 0, 64, 224, 511, 1023]
theorem Qg.tab7 : rtab .any (opsOf Try.f124 7) = Qg.T7 := by kernel_rfl
theorem Qg.bits7 : waitsOk Qg.T7.2 Qg.B7 = true := by kernel_rfl
def Qg.T8 : Bool × List (List Nat × List Nat) := (true, [([], []), ([], []), ([], []), ([2], [2]), ([3], [3]), ([], []), ([], []), ([5, 6], [5, 6]), ([7], [7]), ([4, 8], [4, 8]), ([9], [9]), ([1, 10], [1, 10]), ([], []), ([12], [12]), ([], []), ([13, 14], [13, 14]), ([11, 15], [11, 15]), ([0, 16], [0, 16]), ([17, 15, 0, 1, 2, 3, 4, 5, 6, 7, 8, 9, 10, 11, 12, 13, 14, 15, 16, 17], [0, 17])])
def Qg.B8 : List Nat := [0, 0, 0, 4, 12, 0, 0, 96, 224, 508, 1020, 2046, 0, 4096, 0, 28672, 65534, 131071, 262143]
theorem Qg.tab8 : rtab .any (opsOf Try.f124 8) = Qg.T8 := by kernel_rfl
theorem Qg.bits8 : waitsOk Qg.T8.2 Qg.B8 = true := by kernel_rfl
set_option maxHeartbeats 8000000 in
set_option maxRecDepth 100000 in
theorem Qg.calls (k : Nat) : ∀ (A0 : Option Addr) (c0 : Nat) (l0 : List (List Int)) (A1 : Option Addr) (c1 : Nat) (l1 : List Int) (r : Int) (w : World) (hr0 : Kd.C (Kd.slice 3 (Kd.int .i64)) w A0 l0.length l0) (hc0 : l0.length ≤ c0) (hr1 : Kd.C (Kd.int .i64) w A1 l1.length l1) (hc1 : l1.length ≤ c1) (h : Qg.f k l0 l1 = some r),
  Calls Try.prog 124 #[.slice A0 l0.length c0, .slice A1 l1.length c1] w fun e w' => e = .returned (.int .i64 r) ∧ Below w.heap.size w w' := by
 induction k using Nat.strongRecOn with
 | _ k ih =>
 intro A0 c0 l0 A1 c1 l1 r w hr0 hc0 hr1 hc1 h; cases k with
 | zero => exact absurd h (by simp [Qg.f])
 | succ k =>
 simp only [Qg.f] at h; have HR0 := aa.mk hr0; have HC0 := aa.mk hc0; clear hr0 hc0; have HR1 := aa.mk hr1; have HC1 := aa.mk hc1; clear hr1 hc1; have HB := aa.mk (Below.refl w.heap.size w); have H : (if (l1.length : Int) = 0 then (some 1) else (Qg.l0 k l0 l1 0 1 0)) = some r := h; clear h; by_cases c3 : (l1.length : Int) = 0
 ·rw [if_pos c3] at H; have bL : ((l1.length : Int) == 0) = true := beq_iff_eq.mpr c3; have cA : ((l1.length : Int) != 0) = false := bne_eq_false_iff_eq.mpr c3; clear c3; obtain rfl := Option.some.inj H; go_enter Try.func124, Try.ntmps124; go_wp2; go_ret; exact ⟨by first | rfl | (simp [Qk, Qj] <;> rfl) | (simp [*, Qk, Qj] <;> rfl), bB⟩
 ·rw [if_neg c3] at H; have bL : ((l1.length : Int) == 0) = false := beq_eq_false_iff_ne.mpr c3; have cA : ((l1.length : Int) != 0) = true := bne_iff_ne.mpr c3; have jy : ¬ (l1 = []) := fun h_ => c3 (by rw [h_]; rfl)
  have H' := aa.mk H; clear H; go_enter Try.func124, Try.ntmps124; go_wp2; go_loopg [5, 6, 7] k (fun kq v5 v6 v7 w' => ∃ (ao : Int) (au : Int) (aH : Int), v5 = .int .i64 ao ∧ v6 = .int .i64 au ∧ v7 = .int .i64 aH ∧ aa (Qg.l0 kq l0 l1 ao au aH = some r) ∧ aa (kq ≤ k) ∧ aa (Below w.heap.size w w'))
  case atStart => exact ⟨(0), (1), (0), (by first | rfl | (simp; done) | (simp [*]; done)), (by first | rfl | (simp; done) | (simp [*]; done)), (by first | rfl | (simp; done) | (simp [*]; done)), H', ⟨Nat.le_refl _⟩, ⟨bB⟩⟩
  case round =>
   clear H'; try clear c1
   try clear p2
   try clear c3
   try clear bL
   try clear cA
   try clear jy
   obtain ⟨ao, au, aH, rfl, rfl, rfl, HA, HK1, HB⟩ := hrel; cases gk with
   | zero => exact absurd HA.out (by simp [Qg.l0])
   | succ k1 =>
    have H := HA.out; clear HA; simp only [Qg.l0] at H; by_cases c4 : aH < (l1.length : Int)
    ·rw [if_pos c4] at H; have bI : decide (aH < (l1.length : Int)) = true := decide_eq_true c4; clear c4; obtain ⟨dz, cC⟩ : ∃ y_ : List Int, y_ = (([] : List Int)) := ⟨_, rfl⟩; replace H : (if 0 ≤ aH then (if aH ≤ (l1.length : Int) then (if dz.length + (l1.take (aH : Int).toNat).length < 17592186044416 then ((some (dz ++ (l1.take (aH : Int).toNat) : List Int)).bind fun cW => (if 0 ≤ (wrap64 (aH + 1)) then (if (wrap64 (aH + 1)) ≤ (l1.length : Int) then (if cW.length + (l1.drop ((wrap64 (aH + 1)) : Int).toNat).length < 17592186044416 then (if 0 < (l0.length : Int) then (if 0 ≤ (rd l1 aH) then (if (rd l1 aH) < ((Qu l0 0).length : Int) then (if 1 ≤ (l0.length : Int) then ((Qg.f k1 (l0.drop 1) (cW ++ (l1.drop ((wrap64 (aH + 1)) : Int).toNat))).bind fun t119 => (Qg.l0 k1 l0 l1 (wrap64 (ao + (wrap64 ((wrap64 (au * (rd (Qu l0 0) (rd l1 aH)))) * t119)))) (wrap64 (-au)) (wrap64 (aH + 1)))) else (none)) else (none)) else (none)) else (none)) else (none)) else (none)) else (none))) else (none)) else (none)) else (none)) = some r := by first | (rw [cC]; with_reducible exact H) | (have H2_ := (Option.bind_some _ _).symm.trans H; rw [cC]; with_reducible exact H2_) | (have H2_ := (Option.bind_some _ _).symm.trans H; with_reducible exact H2_) | with_reducible exact H | (rw [cC]; exact H) | exact H
     have eG := aa.mk cC; clear cC; by_cases c5 : 0 ≤ aH
     ·rw [if_pos c5] at H; have dh := eq_true c5; have iz : decide (0 ≤ aH) = true := decide_eq_true c5; clear c5; by_cases c6 : aH ≤ (l1.length : Int)
      ·rw [if_pos c6] at H; have gC := eq_true c6; have mP : decide (aH ≤ (l1.length : Int)) = true := decide_eq_true c6; clear c6; by_cases c7 : dz.length + (l1.take (aH : Int).toNat).length < 17592186044416
       ·rw [if_pos c7] at H; have uw := aa.mk c7; clear c7; obtain ⟨cW, cX⟩ : ∃ y_ : List Int, y_ = (dz ++ (l1.take (aH : Int).toNat)) := ⟨_, rfl⟩; replace H : (if 0 ≤ (wrap64 (aH + 1)) then (if (wrap64 (aH + 1)) ≤ (l1.length : Int) then (if cW.length + (l1.drop ((wrap64 (aH + 1)) : Int).toNat).length < 17592186044416 then (if 0 < (l0.length : Int) then (if 0 ≤ (rd l1 aH) then (if (rd l1 aH) < ((Qu l0 0).length : Int) then (if 1 ≤ (l0.length : Int) then ((Qg.f k1 (l0.drop 1) (cW ++ (l1.drop ((wrap64 (aH + 1)) : Int).toNat))).bind fun t119 => (Qg.l0 k1 l0 l1 (wrap64 (ao + (wrap64 ((wrap64 (au * (rd (Qu l0 0) (rd l1 aH)))) * t119)))) (wrap64 (-au)) (wrap64 (aH + 1)))) else (none)) else (none)) else (none)) else (none)) else (none)) else (none)) else (none)) = some r := by first | (rw [cX]; with_reducible exact H) | (have H2_ := (Option.bind_some _ _).symm.trans H; rw [cX]; with_reducible exact H2_) | (have H2_ := (Option.bind_some _ _).symm.trans H; with_reducible exact H2_) | with_reducible exact H | (rw [cX]; exact H) | exact H
        have gZ := aa.mk cX; clear cX; obtain ⟨ji8, qM⟩ : ∃ j_ : Int, (wrap64 (aH + 1)) = j_ := ⟨_, rfl⟩; replace H : (if 0 ≤ (ji8) then (if (ji8) ≤ (l1.length : Int) then (if cW.length + (l1.drop ((ji8) : Int).toNat).length < 17592186044416 then (if 0 < (l0.length : Int) then (if 0 ≤ (rd l1 aH) then (if (rd l1 aH) < ((Qu l0 0).length : Int) then (if 1 ≤ (l0.length : Int) then ((Qg.f k1 (l0.drop 1) (cW ++ (l1.drop ((ji8) : Int).toNat))).bind fun t119 => (Qg.l0 k1 l0 l1 (wrap64 (ao + (wrap64 ((wrap64 (au * (rd (Qu l0 0) (rd l1 aH)))) * t119)))) (wrap64 (-au)) ji8)) else (none)) else (none)) else (none)) else (none)) else (none)) else (none)) else (none)) = some r := by first | (rw [qM] at H; exact H) | (simp only [qM] at H ⊢; exact H)
        have At : (IntKind.i64.wrap (aH + 1)) = ji8 := (QC _).trans qM; by_cases c9 : 0 ≤ (ji8)
        ·rw [if_pos c9] at H; have fv := eq_true c9; have zS : decide (0 ≤ (ji8)) = true := decide_eq_true c9; clear c9; by_cases c10 : (ji8) ≤ (l1.length : Int)
         ·rw [if_pos c10] at H; have fq := eq_true c10; have jE : decide ((ji8) ≤ (l1.length : Int)) = true := decide_eq_true c10; clear c10; by_cases c11 : cW.length + (l1.drop ((ji8) : Int).toNat).length < 17592186044416
          ·rw [if_pos c11] at H; have wB := aa.mk c11; clear c11; obtain ⟨ft, eC⟩ : ∃ y_ : List Int, y_ = (cW ++ (l1.drop ((ji8) : Int).toNat)) := ⟨_, rfl⟩; replace H : (if 0 < (l0.length : Int) then (if 0 ≤ (rd l1 aH) then (if (rd l1 aH) < ((Qu l0 0).length : Int) then (if 1 ≤ (l0.length : Int) then ((Qg.f k1 (l0.drop 1) ft).bind fun t119 => (Qg.l0 k1 l0 l1 (wrap64 (ao + (wrap64 ((wrap64 (au * (rd (Qu l0 0) (rd l1 aH)))) * t119)))) (wrap64 (-au)) ji8)) else (none)) else (none)) else (none)) else (none)) = some r := by first | (rw [eC]; with_reducible exact H) | (have H2_ := (Option.bind_some _ _).symm.trans H; rw [eC]; with_reducible exact H2_) | (have H2_ := (Option.bind_some _ _).symm.trans H; with_reducible exact H2_) | with_reducible exact H | (rw [eC]; exact H) | exact H
           have mW := aa.mk eC; clear eC; by_cases c12 : 0 < (l0.length : Int)
           ·rw [if_pos c12] at H; have eP : decide (0 < (l0.length : Int)) = true := decide_eq_true c12; have lh : decide (0 < l0.length) = true := decide_eq_true (by omega); clear c12; by_cases c13 : 0 ≤ (rd l1 aH)
            ·rw [if_pos c13] at H; have iX : decide (0 ≤ (rd l1 aH)) = true := decide_eq_true c13; clear c13; by_cases c14 : (rd l1 aH) < ((Qu l0 0).length : Int)
             ·rw [if_pos c14] at H; have gr : decide ((rd l1 aH) < ((Qu l0 0).length : Int)) = true := decide_eq_true c14; clear c14; by_cases c15 : 1 ≤ (l0.length : Int)
              ·rw [if_pos c15] at H; have fP := eq_true c15; have sC : decide (1 ≤ (l0.length : Int)) = true := decide_eq_true c15; clear c15; obtain ⟨kt, gL⟩ : ∃ y_ : List (List Int), y_ = (l0.drop 1) := ⟨_, rfl⟩; replace H : ((Qg.f k1 kt ft).bind fun t119 => (Qg.l0 k1 l0 l1 (wrap64 (ao + (wrap64 ((wrap64 (au * (rd (Qu l0 0) (rd l1 aH)))) * t119)))) (wrap64 (-au)) ji8)) = some r := by first | (rw [gL]; with_reducible exact H) | (have H2_ := (Option.bind_some _ _).symm.trans H; rw [gL]; with_reducible exact H2_) | (have H2_ := (Option.bind_some _ _).symm.trans H; with_reducible exact H2_) | with_reducible exact H | (rw [gL]; exact H) | exact H
               have oA := aa.mk gL; clear gL; replace H := Option.bind_eq_some_iff.mp H; obtain ⟨t119, m3, H⟩ := H; replace H : (Qg.l0 k1 l0 l1 (wrap64 (ao + (wrap64 ((wrap64 (au * (rd (Qu l0 0) (rd l1 aH)))) * t119)))) (wrap64 (-au)) ji8) = some r := H; have A16 := aa.mk m3; clear m3; have H' := aa.mk H; clear H; try go_wp2
               replace HB := aa.mk (QR HB.out); obtain ⟨Bs, sk, _, r8, _⟩ := info_parts info3; obtain ⟨zl, vE, vA⟩ := U8 (P := Try.prog) (Value.int .i64) 0 28 3 .i64 Try.underlying28 sk r8 A1 c1 l1 aH (of_decide_eq_true (by assumption)) (of_decide_eq_true (by assumption)) HC1.out; have oG := aa.mk (Kd.Vd (h1 := fun _ => rfl) (vE _ (Kd.VB HR1.out))); have AT := aa.mk vA; clear vE vA sk r8; obtain ⟨Br, sj, _, r7, _⟩ := info_parts info3; obtain ⟨A19, zk, vD, vz⟩ := U9 (P := Try.prog) (Value.int .i64) 0 28 3 .i64 Try.underlying28 sj r7 A1 c1 l1 (ji8) (of_decide_eq_true (by assumption)) (of_decide_eq_true (by assumption)) HC1.out; have qi := aa.mk (Kd.Vd (h1 := fun _ => rfl) (vD _ (Kd.VB HR1.out))); have AS := aa.mk vz; clear vD vz sj r7; refine Yw (n := 11) (S := fun w' => True) (ds := []) #[false, false, false, false, false, false, false, false, false, false, false] (by kernel_rfl) rfl rfl trivial (fun hHeld => ?_); refine ZZ Qg.tab7 Qg.bits7 (fun HT_ HW_ => ?_); generalize wr.drew = w17 at HB oG qi hHeld ⊢; refine QX (i := 1) (N := some 19) (v := ?_) (a' := ?_) #[false, true, false, false, false, false, false, false, false, false, false] rfl rfl (QL HT_.out (by kernel_rfl)) (fun _ _ _ h => h) (Or.inl ⟨by rfl, ?_⟩) ?_ ?_; rotate_left
               ·intro w'; go_simp; with_reducible rfl
               rotate_left
               ·simp only [Act.put, zA, zB, zC, QC, QD]; rfl
               refine QX (i := 2) (N := some 20) (v := ?_) (a' := ?_) #[false, true, true, false, false, false, false, false, false, false, false] rfl rfl (QL HT_.out (by kernel_rfl)) (fun _ _ _ h => h) (Or.inl ⟨by rfl, ?_⟩) ?_ ?_; rotate_left
               ·intro w'; go_simp; with_reducible rfl
               rotate_left
               ·simp only [Act.put, zA, zB, zC, QC, QD]; rfl
               refine QX (i := 3) (N := some 21) (v := ?_) (a' := ?_) #[false, true, true, true, false, false, false, false, false, false, false] rfl rfl (QL HT_.out (by kernel_rfl)) (fun _ _ _ h => h) (Or.inl ⟨by rfl, ?_⟩) ?_ ?_; rotate_left
               ·intro w'; go_simp; with_reducible rfl
               rotate_left
               ·simp only [Act.put, zA, zB, zC, QC, QD]; rfl
               refine QX (i := 5) (N := some 23) (v := ?_) (a' := ?_) #[false, true, true, true, false, true, false, false, false, false, false] rfl rfl (QL HT_.out (by kernel_rfl)) (fun _ _ _ h => h) (Or.inl ⟨by rfl, ?_⟩) ?_ ?_; rotate_left
               ·intro w'; go_simp; with_reducible rfl
               rotate_left
               ·simp only [Act.put, zA, zB, zC, QC, QD]; rfl
               refine QX (i := 6) (N := some 24) (v := ?_) (a' := ?_) #[false, true, true, true, false, true, true, false, false, false, false] rfl rfl (QL HT_.out (by kernel_rfl)) (fun _ _ _ h => h) (Or.inl ⟨by rfl, ?_⟩) ?_ ?_; rotate_left
               ·intro w'; go_simp; with_reducible rfl
               rotate_left
               ·simp only [Act.put, zA, zB, zC, QC, QD]; rfl
               refine QX (i := 7) (N := some 25) (v := ?_) (a' := ?_) #[false, true, true, true, false, true, true, true, false, false, false] rfl rfl (QL HT_.out (by kernel_rfl)) (fun _ _ _ h => h) (Or.inl ⟨by rfl, ?_⟩) ?_ ?_; rotate_left
               ·intro w'; go_simp; with_reducible rfl
               rotate_left
               ·simp only [Act.put, zA, zB, zC, QC, QD]; rfl
               refine QX (i := 8) (N := some 26) (v := ?_) (a' := ?_) #[false, true, true, true, false, true, true, true, true, false, false] rfl rfl (QL HT_.out (by kernel_rfl)) (fun _ _ _ h => h) (Or.inl ⟨by rfl, ?_⟩) ?_ ?_; rotate_left
               ·intro w'; go_simp; with_reducible rfl
               rotate_left
               ·simp only [Act.put, zA, zB, zC, QC, QD]; rfl
               refine one_ (i := 0) (N := some 18) #[true, true, true, true, false, true, true, true, true, false, false] rfl rfl (ZW HT_.out (by kernel_rfl)) (by decide) (fun K hK => ?_); refine Kd.VJ (Kd.int .i64) _ 3 ?hg (N := 18) ?hd (xs := ([] : List Int)) (inner := []) (ok := fun _ => True) (okp := fun _ => True) ?hr ?hp (fun _ hk => hk) trivial (Below.refl _ _) (Nat.le_refl _) (by simp) ?_; (case hd => rfl); (case hg => rfl); (case hr => first | (go_simp; done) | (go_simp; rfl)); (case hp => exact (Reps.none _ _)); intro il w20 pj hb hg_ hnew_; clear hg_ hnew_; (first | rw [← eG.out] at pj | (simp only [Int.reduceToNat] at pj; rw [← eG.out] at pj))
               have a8 := aa.mk (Kd.Zh pj (Qb bB)); replace HB := aa.mk (Qa bB hb); clear hb pj; refine hK.out _ _ trivial (fun hHeld => ?_); clear hK K; refine Yk (a' := ?_) ?_ ?_; rotate_left
               ·show Act.put _ (some 18) _ = _
                simp only [Act.put, zA, zB, zC, QC, QD]; rfl
               refine one_ (i := 4) (N := some 22) #[true, true, true, true, true, true, true, true, true, false, false] rfl rfl (ZW HT_.out (by kernel_rfl)) (by decide) (fun K hK => ?_); refine Kd.YC (Kd.int .i64) (w0 := w) w.heap.size (by rfl) (.tmp 18) (.tmp 21) 28 3 (.int .i64 0) 8 rfl Try.underlying28 info3 rfl (by decide) (by omega) il dz (l1.take (aH : Int).toNat) _ _ _ (fun _ => True) (fun _ => False) rfl rfl ?aO ?aR (fun _ _ h => h) (fun _ h => h.elim) ?aF ?aB ?aS ?aL ?_; (case aR => first | (have e_ := show (l1.take (aH : Int).toNat).length = aH.toNat from (by rw [List.length_take]; have h_ : (aH : Int) ≤ (l1.length : Int) := of_decide_eq_true (by assumption); omega); have h_ := Kd.Qq oG.out HB.out; rw [e_] at h_; exact h_) | (exact (Kd.Qq oG.out HB.out)) | (exact (Kd.Qq oG.out HB.out)))
               (case aB => exact bB)
               (case aF => exact (fun _ _ => trivial))
               (case aO => exact a8.out)
               (case aS => exact (Qb bB))
               (case aL => have := uw.out; have hlx_ := (show (l1.take (aH : Int).toNat).length = aH.toNat from (by rw [List.length_take]; have h_ : (aH : Int) ≤ (l1.length : Int) := of_decide_eq_true (by assumption); omega)); omega)
               intro ik w22 ho hb hg hat; rw [← gZ.out] at ho; replace HB := aa.mk (hb); have bY := aa.mk (ho); clear a8; clear ho hb hg hat; refine hK.out _ _ trivial (fun hHeld => ?_); clear hK K; refine Yk (a' := ?_) ?_ ?_; rotate_left
               ·show Act.put _ (some 22) _ = _
                simp only [Act.put, zA, zB, zC, QC, QD]; rfl
               refine one_ (i := 9) (N := some 27) #[true, true, true, true, true, true, true, true, true, true, false] rfl rfl (ZW HT_.out (by kernel_rfl)) (by decide) (fun K hK => ?_); refine Kd.YC (Kd.int .i64) (w0 := w) w.heap.size (by rfl) (.tmp 22) (.tmp 26) 28 3 (.int .i64 0) 8 rfl Try.underlying28 info3 rfl (by decide) (by omega) ik cW (l1.drop ((ji8) : Int).toNat) _ _ _ (fun _ => True) (fun _ => False) rfl rfl ?aO ?aR (fun _ _ h => h) (fun _ h => h.elim) ?aF ?aB ?aS ?aL ?_; (case aR => first | (rw [← show (l1.drop ((ji8) : Int).toNat).length = (l1.length - (ji8).toNat) from List.length_drop]; exact (Kd.Qq qi.out HB.out)) | (exact (Kd.Qq qi.out HB.out)))
               (case aB => exact bB)
               (case aF => exact (fun _ _ => trivial))
               (case aO => exact bY.out)
               (case aS => exact (Qb bB))
               (case aL => have := wB.out; have hlx_ := (show (l1.drop ((ji8) : Int).toNat).length = (l1.length - (ji8).toNat) from List.length_drop); omega)
               intro mg w23 ho hb hg hat; rw [← mW.out] at ho; replace HB := aa.mk (hb); have bz := aa.mk (ho); clear bY; clear ho hb hg hat; refine hK.out _ _ trivial (fun hHeld => ?_); clear hK K; refine Yk (a' := ?_) ?_ ?_; rotate_left
               ·show Act.put _ (some 27) _ = _
                simp only [Act.put, zA, zB, zC, QC, QD]; rfl
               refine QX (i := 10) (N := some 8) (v := ?_) (a' := ?_) #[true, true, true, true, true, true, true, true, true, true, true] rfl rfl (QL HT_.out (by kernel_rfl)) (fun _ _ _ h => h) (Or.inl ⟨by rfl, ?_⟩) ?_ ?_; rotate_left
               ·intro w'; go_simp; with_reducible rfl
               rotate_left
               ·simp only [Act.put, zA, zB, zC, QC, QD]; rfl
               refine YN (Yo HT_.out (by kernel_rfl)) ?_; try go_wp2
               replace bz := aa.mk (Kd.QO bz.out); replace HB := aa.mk (QR HB.out); have eJ : 0 ≤ (0 : Int) := (by omega); have eI : 0 < (l0.length : Int) := of_decide_eq_true (by assumption); obtain ⟨fS, qy, nE, kL, bt, fz, fC⟩ := ZJ HR0.out 0 eJ eI; have gf := bt; (try rw [show ((0 : Int)).toNat = 0 from rfl] at gf)
               (try rw [show 0 * 1 = 0 from rfl] at gf)
               (try rw [Addr.add_zero'] at gf)
               cases kL; have An : (0 < l0.length) = True := eq_true (by omega); (try rw [show ((0 : Int)).toNat = 0 from rfl] at bt)
               (try rw [Addr.add_zero'] at bt)
               replace bt := (HB.out.cell (World.block_lt_of_cell? w _ bt)).trans bt; have kp := aa.mk fC; have oO := aa.mk fz; clear fC fz; replace eJ := eq_true eJ; replace eI := eq_true eI; have jn : 0 ≤ (aH : Int) := of_decide_eq_true (by assumption); have jj : aH < (l1.length : Int) := of_decide_eq_true (by assumption); obtain ⟨mU, pT, cj⟩ := Kd.Zi HR1.out aH jn jj; have fZ := cj; cases pT; replace cj := (HB.out.cell (World.block_lt_of_cell? w _ cj)).trans cj; replace jn := eq_true jn; replace jj := eq_true jj; have nh : 0 ≤ ((rd l1 aH) : Int) := of_decide_eq_true (by assumption); have na : (rd l1 aH) < ((Qu l0 0).length : Int) := of_decide_eq_true (by assumption); obtain ⟨qf, uj, eT⟩ := Kd.Zi kp.out (rd l1 aH) nh na; have jU := eT; cases uj; replace eT := (HB.out.cell (World.block_lt_of_cell? w _ eT)).trans eT; replace nh := eq_true nh; replace na := eq_true na; have q25 : (1 : Int) ≤ ((l0.length : Int) : Int) := of_decide_eq_true (by assumption); obtain ⟨Bo, sf, _, rZ, _⟩ := info_parts info28; have lI : l0.length ≤ c0 := HC0.out; have vw : Kd.C (Kd.slice 3 (Kd.int .i64)) _ (some fS) l0.length l0 := HR0.out; have tx := UV (P := Try.prog) 22 28 .i64 Try.underlying22 sf 1 rZ (some fS) l0.length c0 1 (by omega) q25; have pg := Kd.C_drop (m := (1 : Int).toNat) (c := c0) vw (by omega) lI; obtain ⟨A25, rk⟩ : ∃ A1, A1 = (if c0 = (1 : Int).toNat then (some fS) else ((some fS) : Option Addr).map (·.add ((1 : Int).toNat * 1))) := ⟨_, rfl⟩; obtain ⟨c25, tH⟩ : ∃ c1, c1 = c0 - (1 : Int).toNat := ⟨_, rfl⟩; have qJ : kt.length = l0.length - (1 : Int).toNat := (by rw [oA.out, List.length_drop] <;> omega); rw [show (l0).drop (1 : Int).toNat = kt from oA.out.symm] at pg; replace pg : Kd.C (Kd.slice 3 (Kd.int .i64)) _ A25 kt.length kt := (by rw [rk]; exact pg); rw [← qJ, ← rk, ← tH] at tx; have sO := aa.mk pg; have wP := aa.mk (show kt.length ≤ c25 from by rw [qJ, tH]; exact Nat.sub_le_sub_right lI _); clear pg vw lI sf rZ tH; have BR := aa.mk qJ; have BW := aa.mk rk; clear qJ rk; replace q25 := eq_true q25; obtain ⟨o0, oX, nw⟩ := Kd.Zg bz.out; (first | subst nw | (injection nw with f1_ f2_ f3_; have f4_ := f1_.symm; have f5_ := f3_.symm; clear f1_ f2_ f3_; subst f4_; subst f5_))
               refine Yw (n := 19) (S := fun w' => w'.cell? fS = some (.slice (some qf) (Qu l0 0).length nE) ∧ w'.cell? (mU.add (aH).toNat) = some (.int .i64 (rd l1 aH)) ∧ w'.cell? (qf.add ((rd l1 aH)).toNat) = some (.int .i64 (rd (Qu l0 0) (rd l1 aH)))) (ds := []) #[false, false, false, false, false, false, false, false, false, false, false, false, false, false, false, false, false, false, false] (by kernel_rfl) rfl rfl ⟨((HB.out.cell (World.block_lt_of_cell? w _ gf)).trans gf), ((HB.out.cell (World.block_lt_of_cell? w _ fZ)).trans fZ), ((HB.out.cell (World.block_lt_of_cell? w _ jU)).trans jU)⟩ (fun hHeld => ?_); refine ZZ Qg.tab8 Qg.bits8 (fun HT_ HW_ => ?_); generalize w23.drew = w24 at bz HB kp sO bt cj eT hHeld ⊢; refine QX (i := 0) (N := some 28) (v := ?_) (a' := ?_) #[true, false, false, false, false, false, false, false, false, false, false, false, false, false, false, false, false, false, false] rfl rfl (QL HT_.out (by kernel_rfl)) (fun _ _ _ h => h) (Or.inl ⟨by rfl, ?_⟩) ?_ ?_; rotate_left
               ·intro w'; go_simp; with_reducible rfl
               rotate_left
               ·simp only [Act.put, zA, zB, zC, QC, QD]; rfl
               refine QX (i := 1) (N := some 29) (v := ?_) (a' := ?_) #[true, true, false, false, false, false, false, false, false, false, false, false, false, false, false, false, false, false, false] rfl rfl (QL HT_.out (by kernel_rfl)) (fun _ _ _ h => h) (Or.inl ⟨by rfl, ?_⟩) ?_ ?_; rotate_left
               ·intro w'; go_simp; with_reducible rfl
               rotate_left
               ·simp only [Act.put, zA, zB, zC, QC, QD]; rfl
               refine QX (i := 2) (N := some 30) (v := ?_) (a' := ?_) #[true, true, true, false, false, false, false, false, false, false, false, false, false, false, false, false, false, false, false] rfl rfl (QL HT_.out (by kernel_rfl)) (fun _ _ _ h => h) (Or.inl ⟨by rfl, ?_⟩) ?_ ?_; rotate_left
               ·intro w'; go_simp; with_reducible rfl
               rotate_left
               ·simp only [Act.put, zA, zB, zC, QC, QD]; rfl
               refine QX (i := 3) (N := some 31) (v := ?_) (a' := ?_) #[true, true, true, true, false, false, false, false, false, false, false, false, false, false, false, false, false, false, false] rfl rfl (QL HT_.out (by kernel_rfl)) (fun _ _ _ h => h) (Or.inl ⟨by rfl, ?_⟩) ?_ ?_; rotate_left
               ·intro w'; go_simp; with_reducible rfl
               rotate_left
               ·simp only [Act.put, zA, zB, zC, QC, QD]; rfl
               refine QX (i := 5) (N := some 33) (v := ?_) (a' := ?_) #[true, true, true, true, false, true, false, false, false, false, false, false, false, false, false, false, false, false, false] rfl rfl (QL HT_.out (by kernel_rfl)) (fun _ _ _ h => h) (Or.inl ⟨by rfl, ?_⟩) ?_ ?_; rotate_left
               ·intro w'; go_simp; with_reducible rfl
               rotate_left
               ·simp only [Act.put, zA, zB, zC, QC, QD]; rfl
               refine QX (i := 6) (N := some 34) (v := ?_) (a' := ?_) #[true, true, true, true, false, true, true, false, false, false, false, false, false, false, false, false, false, false, false] rfl rfl (QL HT_.out (by kernel_rfl)) (fun _ _ _ h => h) (Or.inl ⟨by rfl, ?_⟩) ?_ ?_; rotate_left
               ·intro w'; go_simp; with_reducible rfl
               rotate_left
               ·simp only [Act.put, zA, zB, zC, QC, QD]; rfl
               refine QX (i := 7) (N := some 35) (v := ?_) (a' := ?_) #[true, true, true, true, false, true, true, true, false, false, false, false, false, false, false, false, false, false, false] rfl rfl (QL HT_.out (by kernel_rfl)) (fun _ _ _ h => h) (Or.inl ⟨by rfl, ?_⟩) ?_ ?_; rotate_left
               ·intro w'; go_simp; with_reducible rfl
               rotate_left
               ·simp only [Act.put, zA, zB, zC, QC, QD]; rfl
               refine QX (i := 12) (N := some 40) (v := ?_) (a' := ?_) #[true, true, true, true, false, true, true, true, false, false, false, false, true, false, false, false, false, false, false] rfl rfl (QL HT_.out (by kernel_rfl)) (fun _ _ _ h => h) (Or.inl ⟨by rfl, ?_⟩) ?_ ?_; rotate_left
               ·intro w'; go_simp; with_reducible rfl
               rotate_left
               ·simp only [Act.put, zA, zB, zC, QC, QD]; rfl
               refine QX (i := 13) (N := some 41) (v := ?_) (a' := ?_) #[true, true, true, true, false, true, true, true, false, false, false, false, true, true, false, false, false, false, false] rfl rfl (QL HT_.out (by kernel_rfl)) (fun _ _ _ h => h) (Or.inl ⟨by rfl, ?_⟩) ?_ ?_; rotate_left
               ·intro w'; go_simp; with_reducible rfl
               rotate_left
               ·simp only [Act.put, zA, zB, zC, QC, QD]; rfl
               refine QX (i := 14) (N := some 42) (v := ?_) (a' := ?_) #[true, true, true, true, false, true, true, true, false, false, false, false, true, true, true, false, false, false, false] rfl rfl (QL HT_.out (by kernel_rfl)) (fun _ _ _ h => h) (Or.inl ⟨by rfl, ?_⟩) ?_ ?_; rotate_left
               ·intro w'; go_simp; with_reducible rfl
               rotate_left
               ·simp only [Act.put, zA, zB, zC, QC, QD]; rfl
               refine ZY (i := 4) (N := some 32) (v := ?_) (a' := ?_) #[true, true, true, true, true, true, true, true, false, false, false, false, true, true, true, false, false, false, false] rfl rfl (Zq HT_.out HW_.out (by kernel_rfl)) (fun _ _ _ h => h) (Or.inl ⟨by rfl, ?_⟩) hHeld ?_ ?_; rotate_left
               ·rintro w' ⟨s0, s1, s2⟩; go_simp; with_reducible rfl
               rotate_left
               ·simp only [Act.put, zA, zB, zC, QC, QD]; rfl
               refine ZY (i := 8) (N := some 36) (v := ?_) (a' := ?_) #[true, true, true, true, true, true, true, true, true, false, false, false, true, true, true, false, false, false, false] rfl rfl (Zq HT_.out HW_.out (by kernel_rfl)) (fun _ _ _ h => h) (Or.inl ⟨by rfl, ?_⟩) hHeld ?_ ?_; rotate_left
               ·rintro w' ⟨s0, s1, s2⟩; go_simp; with_reducible rfl
               rotate_left
               ·simp only [Act.put, zA, zB, zC, QC, QD]; rfl
               refine QX (i := 9) (N := some 37) (v := ?_) (a' := ?_) #[true, true, true, true, true, true, true, true, true, true, false, false, true, true, true, false, false, false, false] rfl rfl (QL HT_.out (by kernel_rfl)) (fun _ _ _ h => h) (Or.inl ⟨by rfl, ?_⟩) ?_ ?_; rotate_left
               ·intro w'; go_simp; with_reducible rfl
               rotate_left
               ·simp only [Act.put, zA, zB, zC, QC, QD]; rfl
               refine ZY (i := 10) (N := some 38) (v := ?_) (a' := ?_) #[true, true, true, true, true, true, true, true, true, true, true, false, true, true, true, false, false, false, false] rfl rfl (Zq HT_.out HW_.out (by kernel_rfl)) (fun _ _ _ h => h) (Or.inl ⟨by rfl, ?_⟩) hHeld ?_ ?_; rotate_left
               ·rintro w' ⟨s0, s1, s2⟩; go_simp; with_reducible rfl
               rotate_left
               ·simp only [Act.put, zA, zB, zC, QC, QD]; rfl
               refine QX (i := 11) (N := some 39) (v := ?_) (a' := ?_) #[true, true, true, true, true, true, true, true, true, true, true, true, true, true, true, false, false, false, false] rfl rfl (QL HT_.out (by kernel_rfl)) (fun _ _ _ h => h) (Or.inl ⟨by rfl, ?_⟩) ?_ ?_; rotate_left
               ·intro w'; go_simp; with_reducible rfl
               rotate_left
               ·simp only [Act.put, zA, zB, zC, QC, QD]; rfl
               refine one_ (i := 15) (N := some 43) #[true, true, true, true, true, true, true, true, true, true, true, true, true, true, true, true, false, false, false] rfl rfl (ZW HT_.out (by kernel_rfl)) (by decide) (fun K hK => ?_); refine Vj Try.func124 (by kernel_rfl) rfl #[.slice A25 kt.length c25, .slice o0 ft.length oX] (by rfl) rfl rfl hA ?_; with_reducible refine (ih k1 (by have := HK1.out; omega) _ _ kt _ _ ft t119 _ ?ah ?ai ?aq ?ar A16.out).mono ?_
               (case ah => exact (Kd.Qq sO.out HB.out))
               (case ai => exact wP.out)
               (case aq => exact (Kd.QE bz.out).2.2)
               (case ar => exact (Kd.QE bz.out).2.1)
               rintro e w27 ⟨rfl, hb⟩; refine ⟨_, rfl, ?_⟩; replace bz := aa.mk (Kd.QV bz.out hb); replace HB := aa.mk (Qa bB hb); (try clear hb)
               (try clear hb2)
               (try clear hk)
               (try clear hi)
               refine hK.out _ _ ⟨((HB.out.cell (World.block_lt_of_cell? w _ gf)).trans gf), ((HB.out.cell (World.block_lt_of_cell? w _ fZ)).trans fZ), ((HB.out.cell (World.block_lt_of_cell? w _ jU)).trans jU)⟩ (fun hHeld => ?_); clear hK K; refine Yk (a' := ?_) ?_ ?_; rotate_left
               ·show Act.put _ (some 43) _ = _
                simp only [Act.put, zA, zB, zC, QC, QD]; rfl
               refine QX (i := 16) (N := some 44) (v := ?_) (a' := ?_) #[true, true, true, true, true, true, true, true, true, true, true, true, true, true, true, true, true, false, false] rfl rfl (QL HT_.out (by kernel_rfl)) (fun _ _ _ h => h) (Or.inl ⟨by rfl, ?_⟩) ?_ ?_; rotate_left
               ·intro w'; go_simp; with_reducible rfl
               rotate_left
               ·simp only [Act.put, zA, zB, zC, QC, QD]; rfl
               refine QX (i := 17) (N := some 45) (v := ?_) (a' := ?_) #[true, true, true, true, true, true, true, true, true, true, true, true, true, true, true, true, true, true, false] rfl rfl (QL HT_.out (by kernel_rfl)) (fun _ _ _ h => h) (Or.inl ⟨by rfl, ?_⟩) ?_ ?_; rotate_left
               ·intro w'; go_simp; with_reducible rfl
               rotate_left
               ·simp only [Act.put, zA, zB, zC, QC, QD]; rfl
               refine QX (i := 18) (N := some 5) (v := ?_) (a' := ?_) #[true, true, true, true, true, true, true, true, true, true, true, true, true, true, true, true, true, true, true] rfl rfl (QL HT_.out (by kernel_rfl)) (fun _ _ _ h => h) (Or.inl ⟨by rfl, ?_⟩) ?_ ?_; rotate_left
               ·intro w'; go_simp; with_reducible rfl
               rotate_left
               ·simp only [Act.put, zA, zB, zC, QC, QD]; rfl
               refine YN (Yo HT_.out (by kernel_rfl)) ?_; try go_wp2
               go_roundg k1
               case measure => have := HK1.out; omega
               case rel => exact ⟨(wrap64 (ao + (wrap64 ((wrap64 (au * (rd (Qu l0 0) (rd l1 aH)))) * t119)))), (wrap64 (-au)), (ji8), (by first | rfl | (simp; done) | (simp [*]; done)), (by first | rfl | (simp; done) | (simp [*]; done)), (by first | rfl | (simp; done) | (simp only [← qM] <;> (first | rfl | simp)) | (simp [*]; done)), H', ⟨by have := HK1.out; omega⟩, ⟨bB⟩⟩
              ·rw [if_neg c15] at H; exact absurd H (by simp)
             ·rw [if_neg c14] at H; exact absurd H (by simp)
            ·rw [if_neg c13] at H; exact absurd H (by simp)
           ·rw [if_neg c12] at H; exact absurd H (by simp)
          ·rw [if_neg c11] at H; exact absurd H (by simp)
         ·rw [if_neg c10] at H; exact absurd H (by simp)
        ·rw [if_neg c9] at H; exact absurd H (by simp)
       ·rw [if_neg c7] at H; exact absurd H (by simp)
      ·rw [if_neg c6] at H; exact absurd H (by simp)
     ·rw [if_neg c5] at H; exact absurd H (by simp)
    ·rw [if_neg c4] at H; have bI : decide (aH < (l1.length : Int)) = false := decide_eq_false c4; clear c4; obtain rfl := Option.some.inj H; go_wp2; go_ret; exact ⟨by first | rfl | (simp [Qk, Qj] <;> rfl) | (simp [*, Qk, Qj] <;> rfl), bB⟩
def Qr.l0 : Nat → Int → List Int → Int → Option (List Int)
 | 0, _, _, _ => none
 | k + 1, x0, x3, x4 => if 0 ≤ (IntKind.u64.wrap (x4)) then (if (shr .i64 x0 (IntKind.u64.wrap (x4))) > 0 then (if (Go.bits .and .i64 (shr .i64 x0 (IntKind.u64.wrap (x4))) 1) = 1 then (if x3.length < 17592186044416 then (Qr.l0 k x0 (x3 ++ [x4]) (wrap64 (x4 + 1))) else (none)) else (Qr.l0 k x0 x3 (wrap64 (x4 + 1)))) else (some x3)) else (none)
def Qr.f (k : Nat) (a0 : Int) : Option (List Int) := Qr.l0 k a0 ([] : List Int) 0
theorem Qr.ZS : ∀ k, (∀ y0 y1 y2, LeO (Qr.l0 k y0 y1 y2) (Qr.l0 (k + 1) y0 y1 y2))
 | 0 => fun _ _ _ r h => by simp [Qr.l0] at h
 | k + 1 => by
  have ih0 := Qr.ZS k
  ·intro y0 y1 y2; unfold Qr.l0; repeat' first | (with_reducible exact ih0 _ _ _) | (with_reducible exact LeO.refl _) | (with_reducible exact LeO.none _) | (with_reducible refine LeO.ite ?_ ?_) | (with_reducible refine LeO.bind ?_ (fun _ => ?_)) | exact ih0 _ _ _ | exact LeO.none _ | refine LeO.ite ?_ ?_ | refine LeO.bind ?_ (fun _ => ?_)
theorem Qr.mono : ∀ a0 k, LeO (Qr.f k a0) (Qr.f (k + 1) a0) := by
 intro a0 k; have ih0 := Qr.ZS k; unfold Qr.f; repeat' first | (with_reducible exact ih0 _ _ _) | (with_reducible exact LeO.refl _) | (with_reducible exact LeO.none _) | (with_reducible refine LeO.ite ?_ ?_) | (with_reducible refine LeO.bind ?_ (fun _ => ?_)) | exact ih0 _ _ _ | exact LeO.none _ | refine LeO.ite ?_ ?_ | refine LeO.bind ?_ (fun _ => ?_)
set_option maxHeartbeats 8000000 in
set_option maxRecDepth 100000 in
theorem Qr.calls (k : Nat) (a0 : Int) (r : List Int) (w : World) (h : Qr.f k a0 = some r) :
  Calls Try.prog 103 #[.int .i64 a0] w fun e w' => ∃ v0_ : Value, e = .returned (v0_) ∧ Kd.R (Kd.int .i64) 3 w' w.heap.size (fun _ => True) v0_ r ∧ Below w.heap.size w w' := by
 have HB := aa.mk (Below.refl w.heap.size w); have H : (Qr.l0 k a0 ([] : List Int) 0) = some r := h; clear h; have H' := aa.mk H; clear H; go_enter Try.func103, Try.ntmps103; go_wp2; go_loopg [3, 4] k (fun kq v3 v4 w' => ∃ (cy : List Int) (bc : Int), v4 = .int .i64 bc ∧ aa (Qr.l0 kq a0 cy bc = some r) ∧ aa (kq ≤ k) ∧ aa (Kd.R (Kd.int .i64) 3 w' w.heap.size (fun _ => True) v3 cy) ∧ aa (Below w.heap.size w w'))
 case atStart => exact ⟨(([] : List Int)), (0), (by first | rfl | (simp; done) | (simp [*]; done)), H', ⟨Nat.le_refl _⟩, ⟨by first | exact Kd.Yr _ _ _ _ _ | exact Kd.Yv _ _ _ _ _ | exact Kd.V_nil _ _ _ _ _ | exact Kd.Q_nil _ _ _ _ _ | exact Kd.Yy _ _ _ _ _⟩, ⟨bB⟩⟩
 case round =>
  clear H'; try clear c1
  obtain ⟨cy, bc, rfl, HA, HK1, bj, HB⟩ := hrel; cases gk with
  | zero => exact absurd HA.out (by simp [Qr.l0])
  | succ k1 =>
   have H := HA.out; clear HA; simp only [Qr.l0] at H; obtain ⟨ji2, tp⟩ : ∃ j_ : Int, (IntKind.u64.wrap (bc)) = j_ := ⟨_, rfl⟩; replace H : (if 0 ≤ (ji2) then (if (shr .i64 a0 (ji2)) > 0 then (if (Go.bits .and .i64 (shr .i64 a0 (ji2)) 1) = 1 then (if cy.length < 17592186044416 then (Qr.l0 k1 a0 (cy ++ [bc]) (wrap64 (bc + 1))) else (none)) else (Qr.l0 k1 a0 cy (wrap64 (bc + 1)))) else (some cy)) else (none)) = some r := by first | (rw [tp] at H; exact H) | (simp only [tp] at H ⊢; exact H)
   by_cases c3 : 0 ≤ (ji2)
   ·rw [if_pos c3] at H; have bL := eq_true c3; have cA : decide (0 ≤ (ji2)) = true := decide_eq_true c3; clear c3; obtain ⟨ji4, ib⟩ : ∃ j_ : Int, (shr .i64 a0 (ji2)) = j_ := ⟨_, rfl⟩; replace H : (if (ji4) > 0 then (if (Go.bits .and .i64 (ji4) 1) = 1 then (if cy.length < 17592186044416 then (Qr.l0 k1 a0 (cy ++ [bc]) (wrap64 (bc + 1))) else (none)) else (Qr.l0 k1 a0 cy (wrap64 (bc + 1)))) else (some cy)) = some r := by first | (rw [ib] at H; exact H) | (simp only [ib] at H ⊢; exact H)
    have sc : (a0 / 2 ^ min (ji2).toNat 64) = ji4 := ib; have Au : (ji2) ≤ 64 → (a0 / 2 ^ (ji2).toNat) = ji4 := VX ib; by_cases c5 : (ji4) > 0
    ·rw [if_pos c5] at H; have dh : decide (0 < (ji4)) = true := decide_eq_true c5; clear c5; have gC := eq_true (of_decide_eq_true (by assumption) : 0 ≤ (ji2)); by_cases c8 : (Go.bits .and .i64 (ji4) 1) = 1
     ·rw [if_pos c8] at H; have dF : ((Go.bits .and .i64 (ji4) 1) == 1) = true := beq_iff_eq.mpr c8; have jx : ((Go.bits .and .i64 (ji4) 1) != 1) = false := bne_eq_false_iff_eq.mpr c8; clear c8; by_cases c9 : cy.length < 17592186044416
      ·rw [if_pos c9] at H; have uv := aa.mk c9; clear c9; obtain ⟨dz, cC⟩ : ∃ y_ : List Int, y_ = (cy ++ [bc]) := ⟨_, rfl⟩; replace H : (Qr.l0 k1 a0 dz (wrap64 (bc + 1))) = some r := by first | (rw [cC]; with_reducible exact H) | (have H2_ := (Option.bind_some _ _).symm.trans H; rw [cC]; with_reducible exact H2_) | (have H2_ := (Option.bind_some _ _).symm.trans H; with_reducible exact H2_) | with_reducible exact H | (rw [cC]; exact H) | exact H
       have eG := aa.mk cC; clear cC; have H' := aa.mk H; clear H; go_wp2_with (first | ((with_reducible refine Zs (b := .append) (xs := #[.tmp 18, .tmp 20]) rfl ?_); at_builtin; refine Kd.Ys (Kd.int .i64) (w0 := w) w.heap.size rfl (.tmp 18) (.tmp 20) 28 3 (.int .i64 0) 8 rfl Try.underlying28 info3 rfl (by decide) (by omega) u3 cy bc [.int .i64 bc] (fun _ => True) (fun _ => False) rfl rfl ?aP (fun _ hk => hk.elim) ?aF ?aO ?aB ?aS ?aL ?_; (case aP => exact rfl); (case aB => exact bB); (case aF => exact (fun _ _ => trivial)); (case aO => exact bj.out); (case aS => exact (Qb bB)); (case aL => have := uv.out; omega); intro il w10 ho hb hg hat; rw [← eG.out] at ho; replace HB := aa.mk (hb); have a8 := aa.mk (ho); clear bj; clear ho hb hg hat))
       go_roundg k1
       case measure => have := HK1.out; omega
       case rel => exact ⟨(dz), (wrap64 (bc + 1)), (by first | rfl | (simp; done) | (simp [*]; done)), H', ⟨by have := HK1.out; omega⟩, ⟨by (with_reducible repeat (first | apply Kd.R_alloc | apply Kd.R_drewN | apply Kd.QO)); exact a8.out⟩, ⟨bB⟩⟩
      ·rw [if_neg c9] at H; exact absurd H (by simp)
     ·rw [if_neg c8] at H; have dF : ((Go.bits .and .i64 (ji4) 1) == 1) = false := beq_eq_false_iff_ne.mpr c8; have jx : ((Go.bits .and .i64 (ji4) 1) != 1) = true := bne_iff_ne.mpr c8; have H' := aa.mk H; clear H; go_wp2; go_roundg k1
      case measure => have := HK1.out; omega
      case rel => exact ⟨(cy), (wrap64 (bc + 1)), (by first | rfl | (simp; done) | (simp [*]; done)), H', ⟨by have := HK1.out; omega⟩, ⟨by (with_reducible repeat (first | apply Kd.R_alloc | apply Kd.R_drewN | apply Kd.QO)); exact bj.out⟩, ⟨bB⟩⟩
    ·rw [if_neg c5] at H; have dh : decide (0 < (ji4)) = false := decide_eq_false c5; clear c5; obtain rfl := Option.some.inj H; go_wp2; go_ret; exact ⟨_, by first | rfl | (simp [Qk, Qj] <;> rfl) | (simp only [← tp, ← ib]; first | rfl | (simp [Qk, Qj] <;> rfl)) | (simp [*, Qk, Qj] <;> rfl), by (with_reducible repeat (first | apply Kd.R_alloc | apply Kd.R_drewN | apply Kd.QO)); exact bj.out, bB⟩
   ·rw [if_neg c3] at H; exact absurd H (by simp)
def Qz.l0 : Nat → Int → Int → List Int → Int → Option (List Int)
 | 0, _, _, _, _ => none
 | k + 1, x0, x1, x5, x6 => if 0 ≤ (IntKind.u64.wrap (x0)) then (if x6 < (shl .i64 1 (IntKind.u64.wrap (x0))) then ((Qr.f k x6).bind fun t101 => (if (t101.length : Int) = x1 then (if x5.length < 17592186044416 then (Qz.l0 k x0 x1 (x5 ++ [x6]) (wrap64 (x6 + 1))) else (none)) else (Qz.l0 k x0 x1 x5 (wrap64 (x6 + 1))))) else (some x5)) else (none)
def Qz.f (k : Nat) (a0 : Int) (a1 : Int) : Option (List Int) := Qz.l0 k a0 a1 ([] : List Int) 0
theorem Qz.ZS : ∀ k, (∀ y0 y1 y2 y3, LeO (Qz.l0 k y0 y1 y2 y3) (Qz.l0 (k + 1) y0 y1 y2 y3))
 | 0 => fun _ _ _ _ r h => by simp [Qz.l0] at h
 | k + 1 => by
  have ih0 := Qz.ZS k
  ·intro y0 y1 y2 y3; unfold Qz.l0; repeat' first | (with_reducible exact ih0 _ _ _ _) | (with_reducible exact Qr.mono _ _) | (with_reducible exact LeO.refl _) | (with_reducible exact LeO.none _) | (with_reducible refine LeO.ite ?_ ?_) | (with_reducible refine LeO.bind ?_ (fun _ => ?_)) | exact ih0 _ _ _ _ | exact Qr.mono _ _ | exact LeO.none _ | refine LeO.ite ?_ ?_ | refine LeO.bind ?_ (fun _ => ?_)
theorem Qz.mono : ∀ a0 a1 k, LeO (Qz.f k a0 a1) (Qz.f (k + 1) a0 a1) := by
 intro a0 a1 k; have ih0 := Qz.ZS k; unfold Qz.f; repeat' first | (with_reducible exact ih0 _ _ _ _) | (with_reducible exact Qr.mono _ _) | (with_reducible exact LeO.refl _) | (with_reducible exact LeO.none _) | (with_reducible refine LeO.ite ?_ ?_) | (with_reducible refine LeO.bind ?_ (fun _ => ?_)) | exact ih0 _ _ _ _ | exact Qr.mono _ _ | exact LeO.none _ | refine LeO.ite ?_ ?_ | refine LeO.bind ?_ (fun _ => ?_)
set_option maxHeartbeats 8000000 in
set_option maxRecDepth 100000 in
theorem Qz.calls (k : Nat) (a0 : Int) (a1 : Int) (r : List Int) (w : World) (h : Qz.f k a0 a1 = some r) :
  Calls Try.prog 123 #[.int .i64 a0, .int .i64 a1] w fun e w' => ∃ v0_ : Value, e = .returned (v0_) ∧ Kd.R (Kd.int .i64) 3 w' w.heap.size (fun _ => True) v0_ r ∧ Below w.heap.size w w' := by
 have HB := aa.mk (Below.refl w.heap.size w); have H : (Qz.l0 k a0 a1 ([] : List Int) 0) = some r := h; clear h; have H' := aa.mk H; clear H; go_enter Try.func123, Try.ntmps123; go_wp2; go_loopg [5, 6] k (fun kq v5 v6 w' => ∃ (ao : List Int) (au : Int), v6 = .int .i64 au ∧ aa (Qz.l0 kq a0 a1 ao au = some r) ∧ aa (kq ≤ k) ∧ aa (Kd.R (Kd.int .i64) 3 w' w.heap.size (fun _ => True) v5 ao) ∧ aa (Below w.heap.size w w'))
 case atStart => exact ⟨(([] : List Int)), (0), (by first | rfl | (simp; done) | (simp [*]; done)), H', ⟨Nat.le_refl _⟩, ⟨by first | exact Kd.Yr _ _ _ _ _ | exact Kd.Yv _ _ _ _ _ | exact Kd.V_nil _ _ _ _ _ | exact Kd.Q_nil _ _ _ _ _ | exact Kd.Yy _ _ _ _ _⟩, ⟨bB⟩⟩
 case round =>
  clear H'; try clear c1
  try clear p2
  obtain ⟨ao, au, rfl, HA, HK1, aE, HB⟩ := hrel; cases gk with
  | zero => exact absurd HA.out (by simp [Qz.l0])
  | succ k1 =>
   have H := HA.out; clear HA; simp only [Qz.l0] at H; obtain ⟨ji3, gR⟩ : ∃ j_ : Int, (IntKind.u64.wrap (a0)) = j_ := ⟨_, rfl⟩; replace H : (if 0 ≤ (ji3) then (if au < (shl .i64 1 (ji3)) then ((Qr.f k1 au).bind fun t101 => (if (t101.length : Int) = a1 then (if ao.length < 17592186044416 then (Qz.l0 k1 a0 a1 (ao ++ [au]) (wrap64 (au + 1))) else (none)) else (Qz.l0 k1 a0 a1 ao (wrap64 (au + 1))))) else (some ao)) else (none)) = some r := by first | (rw [gR] at H; exact H) | (simp only [gR] at H ⊢; exact H)
   by_cases c4 : 0 ≤ (ji3)
   ·rw [if_pos c4] at H; have bI := eq_true c4; have eh : decide (0 ≤ (ji3)) = true := decide_eq_true c4; clear c4; obtain ⟨ji5, ju⟩ : ∃ j_ : Int, (shl .i64 1 (ji3)) = j_ := ⟨_, rfl⟩; replace H : (if au < (ji5) then ((Qr.f k1 au).bind fun t101 => (if (t101.length : Int) = a1 then (if ao.length < 17592186044416 then (Qz.l0 k1 a0 a1 (ao ++ [au]) (wrap64 (au + 1))) else (none)) else (Qz.l0 k1 a0 a1 ao (wrap64 (au + 1))))) else (some ao)) = some r := by first | (rw [ju] at H; exact H) | (simp only [ju] at H ⊢; exact H)
    have mK : (IntKind.i64.wrap (1 * 2 ^ min (ji3).toNat 64)) = ji5 := ju; have mJ : (ji3) ≤ 64 → (IntKind.i64.wrap (1 * 2 ^ (ji3).toNat)) = ji5 := VY ju; have vm : (IntKind.i64.wrap (2 ^ min (ji3).toNat 64)) = ji5 := by have h_ := mK; rw [Int.one_mul] at h_; exact h_
    have vk : (ji3) ≤ 64 → (IntKind.i64.wrap (2 ^ (ji3).toNat)) = ji5 := fun hle_ => by have h_ := mJ hle_; rw [Int.one_mul] at h_; exact h_
    have vh : (wrap64 (1 * 2 ^ min (ji3).toNat 64)) = ji5 := (QC _).symm.trans mK; have vi : (ji3) ≤ 64 → (wrap64 (1 * 2 ^ (ji3).toNat)) = ji5 := fun h_ => (QC _).symm.trans (mJ h_)
    by_cases c6 : au < (ji5)
    ·rw [if_pos c6] at H; have gC : decide (au < (ji5)) = true := decide_eq_true c6; clear c6; replace H := Option.bind_eq_some_iff.mp H; obtain ⟨t101, A70, H⟩ := H; replace H : (if (t101.length : Int) = a1 then (if ao.length < 17592186044416 then (Qz.l0 k1 a0 a1 (ao ++ [au]) (wrap64 (au + 1))) else (none)) else (Qz.l0 k1 a0 a1 ao (wrap64 (au + 1)))) = some r := H; have A7 := aa.mk A70; clear A70; by_cases c8 : (t101.length : Int) = a1
     ·rw [if_pos c8] at H; have dF : ((t101.length : Int) == a1) = true := beq_iff_eq.mpr c8; have jx : ((t101.length : Int) != a1) = false := bne_eq_false_iff_eq.mpr c8; clear c8; by_cases c9 : ao.length < 17592186044416
      ·rw [if_pos c9] at H; have uv := aa.mk c9; clear c9; obtain ⟨ku, cK⟩ : ∃ y_ : List Int, y_ = (ao ++ [au]) := ⟨_, rfl⟩; replace H : (Qz.l0 k1 a0 a1 ku (wrap64 (au + 1))) = some r := by first | (rw [cK]; with_reducible exact H) | (have H2_ := (Option.bind_some _ _).symm.trans H; rw [cK]; with_reducible exact H2_) | (have H2_ := (Option.bind_some _ _).symm.trans H; with_reducible exact H2_) | with_reducible exact H | (rw [cK]; exact H) | exact H
       have iZ := aa.mk cK; clear cK; have H' := aa.mk H; clear H; go_wp2_with (first | ((with_reducible refine Qh (f := 103) rfl ?_); refine QG (some 15) rfl rfl Try.func103 (by kernel_rfl) rfl #[.int .i64 au] rfl hA ?_; (with_reducible refine (Qr.calls k1 au t101 _ A7.out).mono ?_); rintro e w10 ⟨il, rfl, ho0, hb⟩; refine ⟨_, rfl, ?_⟩; have a8 := aa.mk (Kd.Zh (Kd.Zm ho0 (Kd.R_lt aE.out)) (Qb bB)); replace aE := aa.mk (Kd.Zd aE.out (Kd.QQ ho0) hb); replace HB := aa.mk (Qa bB hb); (try clear hb); (try clear hb2); (try clear hk); (try clear hi); (try clear ho0); obtain ⟨Ah, zQ, zI⟩ := Kd.Zg a8.out; subst zI) | ((with_reducible refine Zs (b := .append) (xs := #[.tmp 19, .tmp 21]) rfl ?_); at_builtin; refine Kd.Ys (Kd.int .i64) (w0 := w) w.heap.size rfl (.tmp 19) (.tmp 21) 28 3 (.int .i64 0) 8 rfl Try.underlying28 info3 rfl (by decide) (by omega) u5 ao au [.int .i64 au] (fun k_ => some k_ ≠ (.slice Ah t101.length zQ : Value).ownBlock) (fun _ => False) rfl rfl ?aP (fun _ hk => hk.elim) ?aF ?aO ?aB ?aS ?aL ?_; (case aP => exact rfl); (case aB => exact bB); (case aF => exact (fun k_ hk => Kd.fresh' (Kd.R_lt a8.out) k_ hk)); (case aO => exact (by (with_reducible repeat (first | apply Kd.R_alloc | apply Kd.R_drewN | apply Kd.QO)); exact Kd.Zc aE.out (fun _ hk => hk.2))); (case aS => exact (Qb bB)); (case aL => have := uv.out; omega); intro jP w12 ho hb hg hat; rw [← iZ.out] at ho; replace a8 := aa.mk (Kd.YA (ok := (fun _ => True)) a8.out hg hat); replace HB := aa.mk (hb); have bu := aa.mk (ho); clear aE; clear ho hb hg hat))
       go_roundg k1
       case measure => have := HK1.out; omega
       case rel => exact ⟨(ku), (wrap64 (au + 1)), (by first | rfl | (simp; done) | (simp [*]; done)), H', ⟨by have := HK1.out; omega⟩, ⟨by (with_reducible repeat (first | apply Kd.R_alloc | apply Kd.R_drewN | apply Kd.QO)); exact Kd.Zc bu.out (fun _ hk => trivial)⟩, ⟨bB⟩⟩
      ·rw [if_neg c9] at H; exact absurd H (by simp)
     ·rw [if_neg c8] at H; have dF : ((t101.length : Int) == a1) = false := beq_eq_false_iff_ne.mpr c8; have jx : ((t101.length : Int) != a1) = true := bne_iff_ne.mpr c8; have H' := aa.mk H; clear H; go_wp2_with (first | ((with_reducible refine Qh (f := 103) rfl ?_); refine QG (some 15) rfl rfl Try.func103 (by kernel_rfl) rfl #[.int .i64 au] rfl hA ?_; (with_reducible refine (Qr.calls k1 au t101 _ A7.out).mono ?_); rintro e w13 ⟨il, rfl, ho0, hb⟩; refine ⟨_, rfl, ?_⟩; have a8 := aa.mk (Kd.Zh (Kd.Zm ho0 (Kd.R_lt aE.out)) (Qb bB)); replace aE := aa.mk (Kd.Zd aE.out (Kd.QQ ho0) hb); replace HB := aa.mk (Qa bB hb); (try clear hb); (try clear hb2); (try clear hk); (try clear hi); (try clear ho0); obtain ⟨iA, fa, pQ⟩ := Kd.Zg a8.out; subst pQ))
      go_roundg k1
      case measure => have := HK1.out; omega
      case rel => exact ⟨(ao), (wrap64 (au + 1)), (by first | rfl | (simp; done) | (simp [*]; done)), H', ⟨by have := HK1.out; omega⟩, ⟨by (with_reducible repeat (first | apply Kd.R_alloc | apply Kd.R_drewN | apply Kd.QO)); exact Kd.Zc aE.out (fun _ hk => trivial)⟩, ⟨bB⟩⟩
    ·rw [if_neg c6] at H; have gC : decide (au < (ji5)) = false := decide_eq_false c6; clear c6; obtain rfl := Option.some.inj H; go_wp2; go_ret; exact ⟨_, by first | rfl | (simp [Qk, Qj] <;> rfl) | (simp only [← gR, ← ju]; first | rfl | (simp [Qk, Qj] <;> rfl)) | (simp [*, Qk, Qj] <;> rfl), by (with_reducible repeat (first | apply Kd.R_alloc | apply Kd.R_drewN | apply Kd.QO)); exact aE.out, bB⟩
   ·rw [if_neg c4] at H; exact absurd H (by simp)
def QY.l0 : Nat → List (List Int) → List Int → List (List Int) → Int → Option ((List (List Int)))
 | 0, _, _, _, _ => none
 | k + 1, x0, x1, x5, x6 => if x6 < (x1.length : Int) then (if 0 ≤ x6 then (if 0 ≤ (rd x1 x6) then (if (rd x1 x6) < (x0.length : Int) then (if x5.length < 5864062014805 then (QY.l0 k x0 x1 (x5 ++ [Qu x0 (rd x1 x6)]) (wrap64 (x6 + 1))) else (none)) else (none)) else (none)) else (none)) else (some x5)
def QY.f (k : Nat) (l0 : List (List Int)) (l1 : List Int) : Option ((List (List Int))) := QY.l0 k l0 l1 ([] : List (List Int)) 0
set_option maxHeartbeats 8000000 in
set_option maxRecDepth 100000 in
theorem QY.calls (k : Nat) (P0_ : Nat → Prop) (A0 : Option Addr) (c0 : Nat) (l0 : List (List Int)) (A1 : Option Addr) (c1 : Nat) (l1 : List Int) (r : List (List Int)) (w : World) (hs0 : Kd.V (Kd.slice 3 (Kd.int .i64)) 28 w w.heap.size (fun k_ => P0_ k_) (.slice A0 l0.length c0) l0) (hr1 : Kd.C (Kd.int .i64) w A1 l1.length l1) (hc1 : l1.length ≤ c1) (h : QY.f k l0 l1 = some r) :
  Calls Try.prog 102 #[.slice A0 l0.length c0, .slice A1 l1.length c1] w fun e w' => ∃ v0_ : Value, e = .returned (v0_) ∧ Kd.N (Kd.slice 3 (Kd.int .i64)) 28 w' w.heap.size (fun k_ => (P0_ k_ ∨ w.heap.size ≤ k_)) v0_ r ∧ Below w.heap.size w w' := by
 have HO0 := aa.mk (show Kd.V (Kd.slice 3 (Kd.int .i64)) 28 w w.heap.size (fun k_ => (P0_ k_ ∨ w.heap.size ≤ k_)) (.slice A0 l0.length c0) l0 from Kd.Yc hs0 (fun k_ hk => .inl hk)); have HR1 := aa.mk hr1; have HC1 := aa.mk hc1; clear hr1 hc1; have HB := aa.mk (Below.refl w.heap.size w); have H : (QY.l0 k l0 l1 ([] : List (List Int)) 0) = some r := h; clear h; have H' := aa.mk H; clear H; go_enter Try.func102, Try.ntmps102; go_wp2; go_loopg [5, 6] k (fun kq v5 v6 w' => ∃ (ao : List (List Int)) (au : Int), v6 = .int .i64 au ∧ aa (QY.l0 kq l0 l1 ao au = some r) ∧ aa (kq ≤ k) ∧ aa (Kd.V (Kd.slice 3 (Kd.int .i64)) 28 w' w.heap.size (fun k_ => (P0_ k_ ∨ w.heap.size ≤ k_) ∧ some k_ ≠ (v5 : Value).ownBlock) (.slice A0 l0.length c0) l0) ∧ aa (Kd.N (Kd.slice 3 (Kd.int .i64)) 28 w' w.heap.size (fun k_ => (P0_ k_ ∨ w.heap.size ≤ k_)) v5 ao) ∧ aa (Below w.heap.size w w'))
 case atStart => exact ⟨(([] : List (List Int))), (0), (by first | rfl | (simp; done) | (simp [*]; done)), H', ⟨Nat.le_refl _⟩, ⟨by (with_reducible repeat (first | apply Kd.V_alloc | apply Kd.ZN | apply Kd.ZK)); exact Kd.Yc HO0.out (fun _ hk => ⟨hk, (by simp [Value.ownBlock])⟩)⟩, ⟨by first | exact Kd.Yy _ _ _ _ _ | exact Kd.Yv _ _ _ _ _ | exact Kd.V_nil _ _ _ _ _ | exact Kd.Q_nil _ _ _ _ _ | exact Kd.Yr _ _ _ _ _⟩, ⟨bB⟩⟩
 case round =>
  clear H'; try clear c1
  try clear p2
  obtain ⟨ao, au, rfl, HA, HK1, bV, aE, HB⟩ := hrel; cases gk with
  | zero => exact absurd HA.out (by simp [QY.l0])
  | succ k1 =>
   have H := HA.out; clear HA; simp only [QY.l0] at H; by_cases c3 : au < (l1.length : Int)
   ·rw [if_pos c3] at H; have bL : decide (au < (l1.length : Int)) = true := decide_eq_true c3; clear c3; by_cases c4 : 0 ≤ au
    ·rw [if_pos c4] at H; have bI : decide (0 ≤ au) = true := decide_eq_true c4; clear c4; by_cases c5 : 0 ≤ (rd l1 au)
     ·rw [if_pos c5] at H; have dh : decide (0 ≤ (rd l1 au)) = true := decide_eq_true c5; clear c5; by_cases c6 : (rd l1 au) < (l0.length : Int)
      ·rw [if_pos c6] at H; have gC : decide ((rd l1 au) < (l0.length : Int)) = true := decide_eq_true c6; clear c6; by_cases c7 : ao.length < 5864062014805
       ·rw [if_pos c7] at H; have uw := aa.mk c7; clear c7; obtain ⟨dH, eE⟩ : ∃ y_ : List (List Int), y_ = (ao ++ [Qu l0 (rd l1 au)]) := ⟨_, rfl⟩; replace H : (QY.l0 k1 l0 l1 dH (wrap64 (au + 1))) = some r := by first | (rw [eE]; with_reducible exact H) | (have H2_ := (Option.bind_some _ _).symm.trans H; rw [eE]; with_reducible exact H2_) | (have H2_ := (Option.bind_some _ _).symm.trans H; with_reducible exact H2_) | with_reducible exact H | (rw [eE]; exact H) | exact H
        have ja := aa.mk eE; clear eE; have H' := aa.mk H; clear H; have br : 0 ≤ (au : Int) := of_decide_eq_true (by assumption); have bq : au < (l1.length : Int) := of_decide_eq_true (by assumption); obtain ⟨cg, di, aU⟩ := Kd.Zi HR1.out au br bq; cases di; replace aU := (HB.out.cell (World.block_lt_of_cell? w _ aU)).trans aU; replace br := eq_true br; replace bq := eq_true bq; have bH : 0 ≤ ((rd l1 au) : Int) := of_decide_eq_true (by assumption); have bG : (rd l1 au) < (l0.length : Int) := of_decide_eq_true (by assumption); obtain ⟨bM, eM, eK, ev, aI, cu, cw⟩ := ZJ (Kd.Yi bV.out).2.2 (rd l1 au) bH bG; cases ev; obtain ⟨AA, tF, tM, pF⟩ := Kd.V_get bV.out [] (rd l1 au) bH (by first | exact bG | exact of_decide_eq_true (by assumption) | (have e_ := (Kd.Yi bV.out).1; omega)); obtain ⟨xy, xt, rfl, lA, lU⟩ := Kd.Zt tM; have jX := pF 0 _ rfl; rw [Nat.add_zero, show ((Kd.slice 3 (Kd.int .i64))).sz = 1 from rfl, Nat.mul_one] at jX; replace jX := Option.some.inj (jX.symm.trans aI); injection jX with hva_ hvn_ hvc_
        rw [hva_] at lU; rw [hvc_] at lA; have ks := aa.mk (show Kd.V (Kd.int .i64) 3 _ w.heap.size _ _ (Qu l0 (rd l1 au)) from Kd.V_mk lA lU); clear hva_ hvn_ hvc_ lU lA; clear pF tF; have dv := aa.mk cw; have ee := aa.mk cu; clear cw cu; replace bH := eq_true bH; replace bG := eq_true bG; go_wp2_with (first | ((with_reducible refine Zs (b := .append) (xs := #[.tmp 13, .tmp 21]) rfl ?_); at_builtin; refine Kd.N_append (Kd.slice 3 (Kd.int .i64)) (w0 := w) w.heap.size rfl (.tmp 13) (.tmp 21) 22 28 (.slice none 0 0) 24 rfl Try.underlying22 info28 rfl (by decide) (by omega) u5 ao (Qu l0 (rd l1 au)) [.slice eM (Qu l0 (rd l1 au)).length eK] (fun k_ => (P0_ k_ ∨ w.heap.size ≤ k_)) (fun k_ => ((fun k_ => (P0_ k_ ∨ w.heap.size ≤ k_))) k_ ∧ some k_ ≠ (u5 : Value).ownBlock) rfl rfl ?aP (fun _ hk => hk) ?aF ?aO ?aB ?aS ?aL ?_; (case aP => exact (Kd.YD (Kd.Yi (Kd.Yc (ok' := (fun k_ => ((fun k_ => (P0_ k_ ∨ w.heap.size ≤ k_))) k_ ∧ some k_ ≠ (u5 : Value).ownBlock)) (ks.out) (fun k_ hk => ⟨hk.1, hk.2⟩))).2.1 (Kd.V_F (Kd.Yc (ok' := (fun k_ => ((fun k_ => (P0_ k_ ∨ w.heap.size ≤ k_))) k_ ∧ some k_ ≠ (u5 : Value).ownBlock)) (ks.out) (fun k_ hk => ⟨hk.1, hk.2⟩))))); (case aB => exact bB); (case aF => exact (fun k_ hk => (.inr (Nat.le_trans (Qb bB) hk)))); (case aO => exact aE.out); (case aS => exact (Qb bB)); (case aL => have := uw.out; omega); intro fc w8 ho hb hg hat; rw [← ja.out] at ho; replace bV := aa.mk (Kd.ZH (ok := (fun k_ => (P0_ k_ ∨ w.heap.size ≤ k_))) bV.out hg hat); replace ks := aa.mk (Kd.ZH (ok := (fun k_ => (P0_ k_ ∨ w.heap.size ≤ k_))) ks.out hg hat); replace HB := aa.mk (hb); have bw := aa.mk (ho); clear aE; clear ho hb hg hat))
        go_roundg k1
        case measure => have := HK1.out; omega
        case rel => exact ⟨(dH), (wrap64 (au + 1)), (by first | rfl | (simp; done) | (simp [*]; done)), H', ⟨by have := HK1.out; omega⟩, ⟨by (with_reducible repeat (first | apply Kd.V_alloc | apply Kd.ZN | apply Kd.ZK)); exact bV.out⟩, ⟨by (with_reducible repeat (first | apply Kd.N_alloc | apply Kd.Z5 | apply Kd.Yj)); exact bw.out⟩, ⟨bB⟩⟩
       ·rw [if_neg c7] at H; exact absurd H (by simp)
      ·rw [if_neg c6] at H; exact absurd H (by simp)
     ·rw [if_neg c5] at H; exact absurd H (by simp)
    ·rw [if_neg c4] at H; exact absurd H (by simp)
   ·rw [if_neg c3] at H; have bL : decide (au < (l1.length : Int)) = false := decide_eq_false c3; clear c3; obtain rfl := Option.some.inj H; go_wp2; go_ret; exact ⟨_, by first | rfl | (simp [Qk, Qj] <;> rfl) | (simp [*, Qk, Qj] <;> rfl), by (with_reducible repeat (first | apply Kd.N_alloc | apply Kd.Z5 | apply Kd.Yj)); exact aE.out, bB⟩
def Q4.l0 : Nat → List (List Int) → List Int → Int → Option (List Int)
 | 0, _, _, _ => none
 | k + 1, x0, x3, x4 => if 0 < (x0.length : Int) then (if x4 < ((Qu x0 0).length : Int) then (if x3.length < 17592186044416 then (Q4.l0 k x0 (x3 ++ [x4]) (wrap64 (x4 + 1))) else (none)) else (some x3)) else (none)
def Q4.f (k : Nat) (l0 : List (List Int)) : Option (List Int) := Q4.l0 k l0 ([] : List Int) 0
set_option maxHeartbeats 8000000 in
set_option maxRecDepth 100000 in
theorem Q4.calls (k : Nat) (A0 : Option Addr) (c0 : Nat) (l0 : List (List Int)) (r : List Int) (w : World) (hr0 : Kd.C (Kd.slice 3 (Kd.int .i64)) w A0 l0.length l0) (hc0 : l0.length ≤ c0) (h : Q4.f k l0 = some r) :
  Calls Try.prog 98 #[.slice A0 l0.length c0] w fun e w' => ∃ v0_ : Value, e = .returned (v0_) ∧ Kd.R (Kd.int .i64) 3 w' w.heap.size (fun _ => True) v0_ r ∧ Below w.heap.size w w' := by
 have HR0 := aa.mk hr0; have HC0 := aa.mk hc0; clear hr0 hc0; have HB := aa.mk (Below.refl w.heap.size w); have H : (Q4.l0 k l0 ([] : List Int) 0) = some r := h; clear h; have H' := aa.mk H; clear H; go_enter Try.func98, Try.ntmps98; go_wp2; go_loopg [3, 4] k (fun kq v3 v4 w' => ∃ (cy : List Int) (bc : Int), v4 = .int .i64 bc ∧ aa (Q4.l0 kq l0 cy bc = some r) ∧ aa (kq ≤ k) ∧ aa (Kd.R (Kd.int .i64) 3 w' w.heap.size (fun _ => True) v3 cy) ∧ aa (Below w.heap.size w w'))
 case atStart => exact ⟨(([] : List Int)), (0), (by first | rfl | (simp; done) | (simp [*]; done)), H', ⟨Nat.le_refl _⟩, ⟨by first | exact Kd.Yr _ _ _ _ _ | exact Kd.Yv _ _ _ _ _ | exact Kd.V_nil _ _ _ _ _ | exact Kd.Q_nil _ _ _ _ _ | exact Kd.Yy _ _ _ _ _⟩, ⟨bB⟩⟩
 case round =>
  clear H'; obtain ⟨cy, bc, rfl, HA, HK1, bj, HB⟩ := hrel; cases gk with
  | zero => exact absurd HA.out (by simp [Q4.l0])
  | succ k1 =>
   have H := HA.out; clear HA; simp only [Q4.l0] at H; by_cases c2 : 0 < (l0.length : Int)
   ·rw [if_pos c2] at H; have qa : decide (0 < (l0.length : Int)) = true := decide_eq_true c2; have uq : decide (0 < l0.length) = true := decide_eq_true (by omega); clear c2; by_cases c3 : bc < ((Qu l0 0).length : Int)
    ·rw [if_pos c3] at H; have bL : decide (bc < ((Qu l0 0).length : Int)) = true := decide_eq_true c3; clear c3; by_cases c4 : cy.length < 17592186044416
     ·rw [if_pos c4] at H; have zY := aa.mk c4; clear c4; obtain ⟨fT, eF⟩ : ∃ y_ : List Int, y_ = (cy ++ [bc]) := ⟨_, rfl⟩; replace H : (Q4.l0 k1 l0 fT (wrap64 (bc + 1))) = some r := by first | (rw [eF]; with_reducible exact H) | (have H2_ := (Option.bind_some _ _).symm.trans H; rw [eF]; with_reducible exact H2_) | (have H2_ := (Option.bind_some _ _).symm.trans H; with_reducible exact H2_) | with_reducible exact H | (rw [eF]; exact H) | exact H
      have kV := aa.mk eF; clear eF; have H' := aa.mk H; clear H; have br : 0 ≤ (0 : Int) := (by omega); have bq : 0 < (l0.length : Int) := of_decide_eq_true (by assumption); obtain ⟨cg, jA, jz, di, aU, cv, cx⟩ := ZJ HR0.out 0 br bq; cases di; have rW : (0 < l0.length) = True := eq_true (by omega); (try rw [show ((0 : Int)).toNat = 0 from rfl] at aU)
      (try rw [Addr.add_zero'] at aU)
      replace aU := (HB.out.cell (World.block_lt_of_cell? w _ aU)).trans aU; have cH := aa.mk cx; have dx := aa.mk cv; clear cx cv; replace br := eq_true br; replace bq := eq_true bq; go_wp2_with (first | ((with_reducible refine Zs (b := .append) (xs := #[.tmp 13, .tmp 15]) rfl ?_); at_builtin; refine Kd.Ys (Kd.int .i64) (w0 := w) w.heap.size rfl (.tmp 13) (.tmp 15) 28 3 (.int .i64 0) 8 rfl Try.underlying28 info3 rfl (by decide) (by omega) u3 cy bc [.int .i64 bc] (fun _ => True) (fun _ => False) rfl rfl ?aP (fun _ hk => hk.elim) ?aF ?aO ?aB ?aS ?aL ?_; (case aP => exact rfl); (case aB => exact bB); (case aF => exact (fun _ _ => trivial)); (case aO => exact bj.out); (case aS => exact (Qb bB)); (case aL => have := zY.out; omega); intro gG w5 ho hb hg hat; rw [← kV.out] at ho; replace HB := aa.mk (hb); have ba := aa.mk (ho); clear bj; clear ho hb hg hat))
      go_roundg k1
      case measure => have := HK1.out; omega
      case rel => exact ⟨(fT), (wrap64 (bc + 1)), (by first | rfl | (simp; done) | (simp [*]; done)), H', ⟨by have := HK1.out; omega⟩, ⟨by (with_reducible repeat (first | apply Kd.R_alloc | apply Kd.R_drewN | apply Kd.QO)); exact ba.out⟩, ⟨bB⟩⟩
     ·rw [if_neg c4] at H; exact absurd H (by simp)
    ·rw [if_neg c3] at H; have bL : decide (bc < ((Qu l0 0).length : Int)) = false := decide_eq_false c3; clear c3; obtain rfl := Option.some.inj H; have br : 0 ≤ (0 : Int) := (by omega); have bq : 0 < (l0.length : Int) := of_decide_eq_true (by assumption); obtain ⟨cg, jA, jz, di, aU, cv, cx⟩ := ZJ HR0.out 0 br bq; cases di; have rW : (0 < l0.length) = True := eq_true (by omega); (try rw [show ((0 : Int)).toNat = 0 from rfl] at aU)
     (try rw [Addr.add_zero'] at aU)
     replace aU := (HB.out.cell (World.block_lt_of_cell? w _ aU)).trans aU; have cH := aa.mk cx; have dx := aa.mk cv; clear cx cv; replace br := eq_true br; replace bq := eq_true bq; go_wp2; go_ret; exact ⟨_, by first | rfl | (simp [Qk, Qj] <;> rfl) | (simp [*, Qk, Qj] <;> rfl), by (with_reducible repeat (first | apply Kd.R_alloc | apply Kd.R_drewN | apply Kd.QO)); exact bj.out, bB⟩
   ·rw [if_neg c2] at H; exact absurd H (by simp)
mutual
def Qo.l0 : Nat → List (List Int) → List Int → Int → Option (Int)
 | 0, _, _, _ => none
 | k + 1, x0, x1, x5 => if x5 > 0 then ((Qz.f k (x0.length : Int) x5).bind fun t101 => ((Qz.f k (x1.length : Int) x5).bind fun t104 => (Qo.l1 k x0 x1 x5 t101 t104 0))) else (some 0)
def Qo.l1 : Nat → List (List Int) → List Int → Int → List Int → List Int → Int → Option (Int)
 | 0, _, _, _, _, _, _ => none
 | k + 1, x0, x1, x5, x6, x7, x8 => if x8 < (x6.length : Int) then (Qo.l2 k x0 x1 x5 x6 x7 x8 0) else (Qo.l0 k x0 x1 (wrap64 (x5 - 1)))
def Qo.l2 : Nat → List (List Int) → List Int → Int → List Int → List Int → Int → Int → Option (Int)
 | 0, _, _, _, _, _, _, _ => none
 | k + 1, x0, x1, x5, x6, x7, x8, x9 => if x9 < (x7.length : Int) then (if 0 ≤ x9 then ((Qr.f k (rd x7 x9)).bind fun t108 => (Qo.l3 k x0 x1 x5 x6 x7 x8 x9 ([] : List Int) t108 (t108.length : Int) 0)) else (none)) else (Qo.l1 k x0 x1 x5 x6 x7 (wrap64 (x8 + 1)))
def Qo.l3 : Nat → List (List Int) → List Int → Int → List Int → List Int → Int → Int → List Int → List Int → Int → Int → Option (Int)
 | 0, _, _, _, _, _, _, _, _, _, _, _ => none
 | k + 1, x0, x1, x5, x6, x7, x8, x9, x10, x46, x47, x48 => if x48 < x47 then (if 0 ≤ x48 then (if x48 < (x46.length : Int) then (if 0 ≤ (rd x46 x48) then (if (rd x46 x48) < (x1.length : Int) then (if x10.length < 17592186044416 then (Qo.l3 k x0 x1 x5 x6 x7 x8 x9 (x10 ++ [rd x1 (rd x46 x48)]) x46 x47 (wrap64 (x48 + 1))) else (none)) else (none)) else (none)) else (none)) else (none)) else (if 0 ≤ x8 then (if x8 < (x6.length : Int) then ((Qr.f k (rd x6 x8)).bind fun t117 => ((QY.f k x0 t117).bind fun t120 => ((Qg.f k t120 x10).bind fun t123 => (if t123 = 0 then (Qo.l2 k x0 x1 x5 x6 x7 x8 (wrap64 (x9 + 1))) else (some x5))))) else (none)) else (none))
end
def Qo.f (k : Nat) (l0 : List (List Int)) (l1 : List Int) : Option (Int) := Qo.l0 k l0 l1 (mn (l0.length : Int) (l1.length : Int))
set_option maxHeartbeats 8000000 in
set_option maxRecDepth 100000 in
theorem Qo.calls (k : Nat) (A0 : Option Addr) (c0 : Nat) (l0 : List (List Int)) (A1 : Option Addr) (c1 : Nat) (l1 : List Int) (r : Int) (w : World) (hr0 : Kd.C (Kd.slice 3 (Kd.int .i64)) w A0 l0.length l0) (hc0 : l0.length ≤ c0) (hr1 : Kd.C (Kd.int .i64) w A1 l1.length l1) (hc1 : l1.length ≤ c1) (h : Qo.f k l0 l1 = some r) :
  Calls Try.prog 97 #[.slice A0 l0.length c0, .slice A1 l1.length c1] w fun e w' => e = .returned (.int .i64 r) ∧ Below w.heap.size w w' := by
 have HR0 := aa.mk hr0; have HC0 := aa.mk hc0; clear hr0 hc0; have HR1 := aa.mk hr1; have HC1 := aa.mk hc1; clear hr1 hc1; have HB := aa.mk (Below.refl w.heap.size w); have H : (Qo.l0 k l0 l1 (mn (l0.length : Int) (l1.length : Int))) = some r := h; clear h; obtain ⟨ji3, gR⟩ : ∃ j_ : Int, (mn (l0.length : Int) (l1.length : Int)) = j_ := ⟨_, rfl⟩; replace H : (Qo.l0 k l0 l1 ji3) = some r := by first | (rw [gR] at H; exact H) | (simp only [gR] at H ⊢; exact H)
 (try (have Aw : 0 ≤ ji3 := by (rw [← gR]; unfold mn; (repeat' split) <;> omega)))
 (try (have Av : 0 ≤ ji3 := by omega))
 have vn : (if (l1.length : Int) < (l0.length : Int) then (l1.length : Int) else (l0.length : Int)) = ji3 := gR; have H' := aa.mk H; clear H; go_enter Try.func97, Try.ntmps97; go_wp2; all_goals (
 go_loopg [5] k (fun kq v5 w' => ∃ (ao : Int), v5 = .int .i64 ao ∧ aa (Qo.l0 kq l0 l1 ao = some r) ∧ aa (kq ≤ k) ∧ aa (Below w.heap.size w w'))
 case atStart => exact ⟨(ji3), (by first | rfl | (simp; done) | (congr 1; rw [← gR]; unfold mn; split <;> omega) | (simp [*]; done)), H', ⟨Nat.le_refl _⟩, ⟨bB⟩⟩
 case round =>
  clear H'; try clear c1
  try clear p2
  obtain ⟨ao, rfl, HA, HK1, HB⟩ := hrel; cases gk with
  | zero => exact absurd HA.out (by simp [Qo.l0])
  | succ k1 =>
   have H := HA.out; clear HA; simp only [Qo.l0] at H; by_cases c4 : ao > 0
   ·rw [if_pos c4] at H; have bI : decide (0 < ao) = true := decide_eq_true c4; clear c4; replace H := Option.bind_eq_some_iff.mp H; obtain ⟨t101, A50, H⟩ := H; replace H : ((Qz.f k1 (l1.length : Int) ao).bind fun t104 => (Qo.l1 k1 l0 l1 ao t101 t104 0)) = some r := H; have A5 := aa.mk A50; clear A50; replace H := Option.bind_eq_some_iff.mp H; obtain ⟨t104, A60, H⟩ := H; replace H : (Qo.l1 k1 l0 l1 ao t101 t104 0) = some r := H; have A6 := aa.mk A60; clear A60; have H' := aa.mk H; clear H; go_wp2_with (first | ((with_reducible refine Qh (f := 123) rfl ?_); refine QG (some 25) rfl rfl Try.func123 (by kernel_rfl) rfl #[.int .i64 (l0.length : Int), .int .i64 ao] rfl hA ?_; (with_reducible refine (Qz.calls k1 (l0.length : Int) ao t101 _ A5.out).mono ?_); rintro e w7 ⟨il, rfl, ho0, hb⟩; refine ⟨_, rfl, ?_⟩; have a8 := aa.mk (Kd.Zh ho0 (Qb bB)); replace HB := aa.mk (Qa bB hb); (try clear hb); (try clear hb2); (try clear hk); (try clear hi); (try clear ho0)) | ((with_reducible refine Qh (f := 123) rfl ?_); refine QG (some 29) rfl rfl Try.func123 (by kernel_rfl) rfl #[.int .i64 (l1.length : Int), .int .i64 ao] rfl hA ?_; (with_reducible refine (Qz.calls k1 (l1.length : Int) ao t104 _ A6.out).mono ?_); rintro e w8 ⟨jP, rfl, ho0, hb⟩; refine ⟨_, rfl, ?_⟩; have bu := aa.mk (Kd.Zh (Kd.Zm ho0 (Kd.R_lt a8.out)) (Qb bB)); replace a8 := aa.mk (Kd.Zd a8.out (Kd.QQ ho0) hb); replace HB := aa.mk (Qa bB hb); (try clear hb); (try clear hb2); (try clear hk); (try clear hi); (try clear ho0)))
    go_loopg [8] k1 (fun kq v8 w' => ∃ (aY : Int), v8 = .int .i64 aY ∧ aa (Qo.l1 kq l0 l1 ao t101 t104 aY = some r) ∧ aa (kq ≤ k1) ∧ aa (Kd.R (Kd.int .i64) 3 w' w.heap.size (fun k_ => some k_ ≠ (jP : Value).ownBlock) il t101) ∧ aa (Kd.R (Kd.int .i64) 3 w' w.heap.size (fun k_ => some k_ ≠ (il : Value).ownBlock) jP t104) ∧ aa (Below w.heap.size w w'))
    case atStart => exact ⟨(0), (by first | rfl | (simp; done) | (simp [*]; done)), H', ⟨Nat.le_refl _⟩, ⟨by (with_reducible repeat (first | apply Kd.R_alloc | apply Kd.R_drewN | apply Kd.QO)); exact Kd.Zc a8.out (fun _ hk => hk.2)⟩, ⟨by (with_reducible repeat (first | apply Kd.R_alloc | apply Kd.R_drewN | apply Kd.QO)); exact Kd.Zc bu.out (fun _ hk => hk.2)⟩, ⟨bB⟩⟩
    case round =>
     clear H'; try clear c1
     try clear p2
     try clear c4
     try clear bI
     try clear p2
     obtain ⟨aY, rfl, HA, HK2, bA, ax, HB⟩ := hrel; cases gk with
     | zero => exact absurd HA.out (by simp [Qo.l1])
     | succ k2 =>
      have H := HA.out; clear HA; simp only [Qo.l1] at H; by_cases c9 : aY < (t101.length : Int)
      ·rw [if_pos c9] at H; have fv : decide (aY < (t101.length : Int)) = true := decide_eq_true c9; clear c9; have H' := aa.mk H; clear H; obtain ⟨k6, gB, ud⟩ := Kd.Zg bA.out; subst ud; go_wp2; go_loopg [9] k2 (fun kq v9 w' => ∃ (fL : Int), v9 = .int .i64 fL ∧ aa (Qo.l2 kq l0 l1 ao t101 t104 aY fL = some r) ∧ aa (kq ≤ k2) ∧ aa (Kd.R (Kd.int .i64) 3 w' w.heap.size (fun k_ => some k_ ≠ (jP : Value).ownBlock) (.slice k6 t101.length gB) t101) ∧ aa (Kd.R (Kd.int .i64) 3 w' w.heap.size (fun k_ => some k_ ≠ ((.slice k6 t101.length gB) : Value).ownBlock) jP t104) ∧ aa (Below w.heap.size w w'))
       case atStart => exact ⟨(0), (by first | rfl | (simp; done) | (simp [*]; done)), H', ⟨Nat.le_refl _⟩, ⟨by (with_reducible repeat (first | apply Kd.R_alloc | apply Kd.R_drewN | apply Kd.QO)); exact bA.out⟩, ⟨by (with_reducible repeat (first | apply Kd.R_alloc | apply Kd.R_drewN | apply Kd.QO)); exact ax.out⟩, ⟨bB⟩⟩
       case round =>
        clear H'; try clear c1
        try clear p2
        try clear c4
        try clear bI
        try clear c9
        try clear fv
        try clear p2
        obtain ⟨fL, rfl, HA, HK3, bA, ax, HB⟩ := hrel; cases gk with
        | zero => exact absurd HA.out (by simp [Qo.l2])
        | succ k3 =>
         have H := HA.out; clear HA; simp only [Qo.l2] at H; by_cases c11 : fL < (t104.length : Int)
         ·rw [if_pos c11] at H; have fp : decide (fL < (t104.length : Int)) = true := decide_eq_true c11; clear c11; by_cases c12 : 0 ≤ fL
          ·rw [if_pos c12] at H; have eP : decide (0 ≤ fL) = true := decide_eq_true c12; clear c12; replace H := Option.bind_eq_some_iff.mp H; obtain ⟨t108, qx, H⟩ := H; replace H : (Qo.l3 k3 l0 l1 ao t101 t104 aY fL ([] : List Int) t108 (t108.length : Int) 0) = some r := H; have A13 := aa.mk qx; clear qx; have H' := aa.mk H; clear H; obtain ⟨iA, fa, pQ⟩ := Kd.Zg ax.out; subst pQ; have jq : 0 ≤ (fL : Int) := of_decide_eq_true (by assumption); have jl : fL < (t104.length : Int) := of_decide_eq_true (by assumption); obtain ⟨gu, pW, fx⟩ := Kd.Zi (Kd.QE ax.out).2.2 fL jq jl; cases pW; replace jq := eq_true jq; replace jl := eq_true jl; go_wp2_with (first | ((with_reducible refine Qh (f := 103) rfl ?_); refine QG (some 46) rfl rfl Try.func103 (by kernel_rfl) rfl #[.int .i64 (rd t104 fL)] rfl hA ?_; (with_reducible refine (Qr.calls k3 (rd t104 fL) t108 _ A13.out).mono ?_); rintro e w15 ⟨jO, rfl, ho0, hb⟩; refine ⟨_, rfl, ?_⟩; have ca := aa.mk (Kd.Zh (Kd.Zm (Kd.Zm ho0 (Kd.R_lt bA.out)) (Kd.R_lt ax.out)) (Qb bB)); replace bA := aa.mk (Kd.Zd bA.out (Kd.QQ ho0) hb); replace ax := aa.mk (Kd.Zd ax.out (Kd.QQ ho0) hb); replace HB := aa.mk (Qa bB hb); (try clear hb); (try clear hb2); (try clear hk); (try clear hi); (try clear ho0); obtain ⟨jf, gW, mN⟩ := Kd.Zg ca.out; subst mN))
           go_loopg [10, 48] k3 (fun kq v10 v48 w' => ∃ (gm : List Int) (cJ : Int), v48 = .int .i64 cJ ∧ aa (Qo.l3 kq l0 l1 ao t101 t104 aY fL gm t108 (t108.length : Int) cJ = some r) ∧ aa (kq ≤ k3) ∧ aa (Kd.R (Kd.int .i64) 3 w' w.heap.size (fun k_ => some k_ ≠ ((.slice (some gu) t104.length fa) : Value).ownBlock ∧ some k_ ≠ (v10 : Value).ownBlock ∧ some k_ ≠ ((.slice jf t108.length gW) : Value).ownBlock) (.slice k6 t101.length gB) t101) ∧ aa (Kd.R (Kd.int .i64) 3 w' w.heap.size (fun k_ => some k_ ≠ ((.slice k6 t101.length gB) : Value).ownBlock ∧ some k_ ≠ (v10 : Value).ownBlock ∧ some k_ ≠ ((.slice jf t108.length gW) : Value).ownBlock) (.slice (some gu) t104.length fa) t104) ∧ aa (Kd.R (Kd.int .i64) 3 w' w.heap.size (fun k_ => some k_ ≠ ((.slice k6 t101.length gB) : Value).ownBlock ∧ some k_ ≠ ((.slice (some gu) t104.length fa) : Value).ownBlock ∧ some k_ ≠ ((.slice jf t108.length gW) : Value).ownBlock) v10 gm) ∧ aa (Kd.R (Kd.int .i64) 3 w' w.heap.size (fun k_ => some k_ ≠ ((.slice k6 t101.length gB) : Value).ownBlock ∧ some k_ ≠ ((.slice (some gu) t104.length fa) : Value).ownBlock ∧ some k_ ≠ (v10 : Value).ownBlock) (.slice jf t108.length gW) t108) ∧ aa (Below w.heap.size w w'))
           case atStart => exact ⟨(([] : List Int)), (0), (by first | rfl | (simp; done) | (simp [*]; done)), H', ⟨Nat.le_refl _⟩, ⟨by (with_reducible repeat (first | apply Kd.R_alloc | apply Kd.R_drewN | apply Kd.QO)); exact Kd.Zc bA.out (fun _ hk => ⟨hk.1, ⟨(by simp [Value.ownBlock]), hk.2⟩⟩)⟩, ⟨by (with_reducible repeat (first | apply Kd.R_alloc | apply Kd.R_drewN | apply Kd.QO)); exact Kd.Zc ax.out (fun _ hk => ⟨hk.1, ⟨(by simp [Value.ownBlock]), hk.2⟩⟩)⟩, ⟨by first | exact Kd.Yr _ _ _ _ _ | exact Kd.Yv _ _ _ _ _ | exact Kd.V_nil _ _ _ _ _ | exact Kd.Q_nil _ _ _ _ _ | exact Kd.Yy _ _ _ _ _⟩, ⟨by (with_reducible repeat (first | apply Kd.R_alloc | apply Kd.R_drewN | apply Kd.QO)); exact Kd.Zc ca.out (fun _ hk => ⟨hk.1.2, ⟨hk.2, (by simp [Value.ownBlock])⟩⟩)⟩, ⟨bB⟩⟩
           case round =>
            clear H'; try clear c1
            try clear p1
            try clear q1
            try clear hx1
            try clear p2
            try clear c4
            try clear bI
            try clear c9
            try clear fv
            try clear c10
            try clear p10
            try clear q10
            try clear ir
            try clear c11
            try clear fp
            try clear c12
            try clear eP
            try clear fx
            try clear jq
            try clear p2
            try clear jl
            obtain ⟨gm, cJ, rfl, HA, HK4, bA, ax, bR, cY, HB⟩ := hrel; cases gk with
            | zero => exact absurd HA.out (by simp [Qo.l3])
            | succ k4 =>
             have H := HA.out; clear HA; simp only [Qo.l3] at H; by_cases c17 : cJ < (t108.length : Int)
             ·rw [if_pos c17] at H; have gp : decide (cJ < (t108.length : Int)) = true := decide_eq_true c17; clear c17; by_cases c18 : 0 ≤ cJ
              ·rw [if_pos c18] at H; have iW : decide (0 ≤ cJ) = true := decide_eq_true c18; clear c18; by_cases c19 : cJ < (t108.length : Int)
               ·rw [if_pos c19] at H; have eO : decide (cJ < (t108.length : Int)) = true := decide_eq_true c19; clear c19; by_cases c20 : 0 ≤ (rd t108 cJ)
                ·rw [if_pos c20] at H; have kS : decide (0 ≤ (rd t108 cJ)) = true := decide_eq_true c20; clear c20; by_cases c21 : (rd t108 cJ) < (l1.length : Int)
                 ·rw [if_pos c21] at H; have jD : decide ((rd t108 cJ) < (l1.length : Int)) = true := decide_eq_true c21; clear c21; by_cases c22 : gm.length < 17592186044416
                  ·rw [if_pos c22] at H; have wz := aa.mk c22; clear c22; obtain ⟨eA, eB⟩ : ∃ y_ : List Int, y_ = (gm ++ [rd l1 (rd t108 cJ)]) := ⟨_, rfl⟩; replace H : (Qo.l3 k4 l0 l1 ao t101 t104 aY fL eA t108 (t108.length : Int) (wrap64 (cJ + 1))) = some r := by first | (rw [eB]; with_reducible exact H) | (have H2_ := (Option.bind_some _ _).symm.trans H; rw [eB]; with_reducible exact H2_) | (have H2_ := (Option.bind_some _ _).symm.trans H; with_reducible exact H2_) | with_reducible exact H | (rw [eB]; exact H) | exact H
                   have ln := aa.mk eB; clear eB; have H' := aa.mk H; clear H; have jo : 0 ≤ (cJ : Int) := of_decide_eq_true (by assumption); have jk : cJ < (t108.length : Int) := of_decide_eq_true (by assumption); obtain ⟨ll, pU, fY⟩ := Kd.Zi (Kd.QE cY.out).2.2 cJ jo jk; cases pU; replace jo := eq_true jo; replace jk := eq_true jk; have eJ : 0 ≤ ((rd t108 cJ) : Int) := of_decide_eq_true (by assumption); have eI : (rd t108 cJ) < (l1.length : Int) := of_decide_eq_true (by assumption); obtain ⟨fS, kL, bt⟩ := Kd.Zi HR1.out (rd t108 cJ) eJ eI; cases kL; replace bt := (HB.out.cell (World.block_lt_of_cell? w _ bt)).trans bt; replace eJ := eq_true eJ; replace eI := eq_true eI; go_wp2_with (first | ((with_reducible refine Zs (b := .append) (xs := #[.tmp 52, .tmp 57]) rfl ?_); at_builtin; refine Kd.Ys (Kd.int .i64) (w0 := w) w.heap.size rfl (.tmp 52) (.tmp 57) 28 3 (.int .i64 0) 8 rfl Try.underlying28 info3 rfl (by decide) (by omega) u10 gm (rd l1 (rd t108 cJ)) [.int .i64 (rd l1 (rd t108 cJ))] (fun k_ => some k_ ≠ (.slice k6 t101.length gB : Value).ownBlock ∧ some k_ ≠ (.slice (some gu) t104.length fa : Value).ownBlock ∧ some k_ ≠ (.slice (some ll) t108.length gW : Value).ownBlock) (fun _ => False) rfl rfl ?aP (fun _ hk => hk.elim) ?aF ?aO ?aB ?aS ?aL ?_; (case aP => exact rfl); (case aB => exact bB); (case aF => exact (fun k_ hk => ⟨Kd.fresh' (Kd.R_lt bA.out) k_ hk, Kd.fresh' (Kd.R_lt ax.out) k_ hk, Kd.fresh' (Kd.R_lt cY.out) k_ hk⟩)); (case aO => exact bR.out); (case aS => exact (Qb bB)); (case aL => have := wz.out; omega); intro me w23 ho hb hg hat; rw [← ln.out] at ho; replace bA := aa.mk (Kd.YA (ok := (fun k_ => some k_ ≠ (.slice (some gu) t104.length fa : Value).ownBlock ∧ some k_ ≠ (.slice (some ll) t108.length gW : Value).ownBlock)) (by (with_reducible repeat (first | apply Kd.R_alloc | apply Kd.R_drewN | apply Kd.QO)); exact Kd.Zc bA.out (fun _ hk => ⟨⟨hk.1, hk.2.2⟩, hk.2.1⟩)) hg hat); replace ax := aa.mk (Kd.YA (ok := (fun k_ => some k_ ≠ (.slice k6 t101.length gB : Value).ownBlock ∧ some k_ ≠ (.slice (some ll) t108.length gW : Value).ownBlock)) (by (with_reducible repeat (first | apply Kd.R_alloc | apply Kd.R_drewN | apply Kd.QO)); exact Kd.Zc ax.out (fun _ hk => ⟨⟨hk.1, hk.2.2⟩, hk.2.1⟩)) hg hat); replace cY := aa.mk (Kd.YA (ok := (fun k_ => some k_ ≠ (.slice k6 t101.length gB : Value).ownBlock ∧ some k_ ≠ (.slice (some gu) t104.length fa : Value).ownBlock)) (by (with_reducible repeat (first | apply Kd.R_alloc | apply Kd.R_drewN | apply Kd.QO)); exact Kd.Zc cY.out (fun _ hk => ⟨⟨hk.1, hk.2.1⟩, hk.2.2⟩)) hg hat); replace HB := aa.mk (hb); have g9 := aa.mk (ho); clear bR; clear ho hb hg hat))
                   go_roundg k4
                   case measure => have := HK1.out; have := HK2.out; have := HK3.out; have := HK4.out; omega
                   case rel => exact ⟨(eA), (wrap64 (cJ + 1)), (by first | rfl | (simp; done) | (simp [*]; done)), H', ⟨by have := HK1.out; have := HK2.out; have := HK3.out; have := HK4.out; omega⟩, ⟨by (with_reducible repeat (first | apply Kd.R_alloc | apply Kd.R_drewN | apply Kd.QO)); exact Kd.Zc bA.out (fun _ hk => ⟨hk.1.1, ⟨hk.2, hk.1.2⟩⟩)⟩, ⟨by (with_reducible repeat (first | apply Kd.R_alloc | apply Kd.R_drewN | apply Kd.QO)); exact Kd.Zc ax.out (fun _ hk => ⟨hk.1.1, ⟨hk.2, hk.1.2⟩⟩)⟩, ⟨by (with_reducible repeat (first | apply Kd.R_alloc | apply Kd.R_drewN | apply Kd.QO)); exact g9.out⟩, ⟨by (with_reducible repeat (first | apply Kd.R_alloc | apply Kd.R_drewN | apply Kd.QO)); exact Kd.Zc cY.out (fun _ hk => ⟨hk.1.1, ⟨hk.1.2, hk.2⟩⟩)⟩, ⟨bB⟩⟩
                  ·rw [if_neg c22] at H; exact absurd H (by simp)
                 ·rw [if_neg c21] at H; exact absurd H (by simp)
                ·rw [if_neg c20] at H; exact absurd H (by simp)
               ·rw [if_neg c19] at H; exact absurd H (by simp)
              ·rw [if_neg c18] at H; exact absurd H (by simp)
             ·rw [if_neg c17] at H; have gp : decide (cJ < (t108.length : Int)) = false := decide_eq_false c17; clear c17; by_cases c24 : 0 ≤ aY
              ·rw [if_pos c24] at H; have jC : decide (0 ≤ aY) = true := decide_eq_true c24; clear c24; by_cases c25 : aY < (t101.length : Int)
               ·rw [if_pos c25] at H; have sA : decide (aY < (t101.length : Int)) = true := decide_eq_true c25; clear c25; replace H := Option.bind_eq_some_iff.mp H; obtain ⟨t117, xh, H⟩ := H; replace H : ((QY.f k4 l0 t117).bind fun t120 => ((Qg.f k4 t120 gm).bind fun t123 => (if t123 = 0 then (Qo.l2 k4 l0 l1 ao t101 t104 aY (wrap64 (fL + 1))) else (some ao)))) = some r := H; have A26 := aa.mk xh; clear xh; replace H := Option.bind_eq_some_iff.mp H; obtain ⟨t120, qp, H⟩ := H; replace H : ((Qg.f k4 t120 gm).bind fun t123 => (if t123 = 0 then (Qo.l2 k4 l0 l1 ao t101 t104 aY (wrap64 (fL + 1))) else (some ao))) = some r := H; have A27 := aa.mk qp; clear qp; replace H := Option.bind_eq_some_iff.mp H; obtain ⟨t123, xg, H⟩ := H; replace H : (if t123 = 0 then (Qo.l2 k4 l0 l1 ao t101 t104 aY (wrap64 (fL + 1))) else (some ao)) = some r := H; have A28 := aa.mk xg; clear xg; by_cases c29 : t123 = 0
                ·rw [if_pos c29] at H; have mQ : (t123 == 0) = true := beq_iff_eq.mpr c29; have we : (t123 != 0) = false := bne_eq_false_iff_eq.mpr c29; clear c29; have H' := aa.mk H; clear H; have dK : 0 ≤ (aY : Int) := of_decide_eq_true (by assumption); have dJ : aY < (t101.length : Int) := of_decide_eq_true (by assumption); obtain ⟨fI, jv, b8⟩ := Kd.Zi (Kd.QE bA.out).2.2 aY dK dJ; cases jv; replace dK := eq_true dK; replace dJ := eq_true dJ; go_wp2_with (first | ((with_reducible refine Qh (f := 103) rfl ?_); refine QG (some 65) rfl rfl Try.func103 (by kernel_rfl) rfl #[.int .i64 (rd t101 aY)] rfl hA ?_; (with_reducible refine (Qr.calls k4 (rd t101 aY) t117 _ A26.out).mono ?_); rintro e w30 ⟨yB, rfl, ho0, hb⟩; refine ⟨_, rfl, ?_⟩; have ed := aa.mk (Kd.Zh (Kd.Zm (Kd.Zm (Kd.Zm (Kd.Zm ho0 (Kd.R_lt bA.out)) (Kd.R_lt ax.out)) (Kd.R_lt bR.out)) (Kd.R_lt cY.out)) (Qb bB)); replace bA := aa.mk (Kd.Zd bA.out (Kd.QQ ho0) hb); replace ax := aa.mk (Kd.Zd ax.out (Kd.QQ ho0) hb); replace bR := aa.mk (Kd.Zd bR.out (Kd.QQ ho0) hb); replace cY := aa.mk (Kd.Zd cY.out (Kd.QQ ho0) hb); replace HB := aa.mk (Qa bB hb); (try clear hb); (try clear hb2); (try clear hk); (try clear hi); (try clear ho0); obtain ⟨jT, jQ, pM⟩ := Kd.Zg ed.out; subst pM) | ((with_reducible refine Qh (f := 102) rfl ?_); refine QG (some 66) rfl rfl Try.func102 (by kernel_rfl) rfl #[.slice A0 l0.length c0, .slice jT t117.length jQ] rfl hA ?_; (with_reducible refine (QY.calls k4 (fun k_ => k_ < w.heap.size) _ _ l0 _ _ t117 t120 _ ?ah ?ai ?aq A27.out).mono ?_); (case ah => exact Kd.V_mk HC0.out (Kd.Yg (Kd.C_F (Kd.ZP 3 (Kd.Yd .i64)) HR0.out) bB)); (case ai => exact (Kd.QE ed.out).2.2); (case aq => exact (Kd.QE ed.out).2.1); rintro e w32 ⟨yz, rfl, ho0, hb⟩; refine ⟨_, rfl, ?_⟩; have g8 := aa.mk (Kd.Ya (Kd.ZX (ok' := fun k_ => some k_ ≠ (.slice (some fI) t101.length gB : Value).ownBlock ∧ some k_ ≠ (.slice (some gu) t104.length fa : Value).ownBlock ∧ some k_ ≠ (u10 : Value).ownBlock ∧ some k_ ≠ (.slice jf t108.length gW : Value).ownBlock ∧ some k_ ≠ (.slice jT t117.length jQ : Value).ownBlock) ho0 (fun k_ hk_ => ⟨Or.elim hk_ (fun hs_ => fun e_ => Nat.not_le.2 hs_ (Kd.QQ bA.out k_ e_.symm)) (fun hn_ => (Kd.fresh' (Kd.R_lt bA.out) k_ hn_)), Or.elim hk_ (fun hs_ => fun e_ => Nat.not_le.2 hs_ (Kd.QQ ax.out k_ e_.symm)) (fun hn_ => (Kd.fresh' (Kd.R_lt ax.out) k_ hn_)), Or.elim hk_ (fun hs_ => fun e_ => Nat.not_le.2 hs_ (Kd.QQ bR.out k_ e_.symm)) (fun hn_ => (Kd.fresh' (Kd.R_lt bR.out) k_ hn_)), Or.elim hk_ (fun hs_ => fun e_ => Nat.not_le.2 hs_ (Kd.QQ cY.out k_ e_.symm)) (fun hn_ => (Kd.fresh' (Kd.R_lt cY.out) k_ hn_)), Or.elim hk_ (fun hs_ => fun e_ => Nat.not_le.2 hs_ (Kd.QQ ed.out k_ e_.symm)) (fun hn_ => (Kd.fresh' (Kd.R_lt ed.out) k_ hn_))⟩)) (Qb bB)); replace bA := aa.mk (Kd.QV bA.out hb); replace ax := aa.mk (Kd.QV ax.out hb); replace bR := aa.mk (Kd.QV bR.out hb); replace cY := aa.mk (Kd.QV cY.out hb); replace ed := aa.mk (Kd.QV ed.out hb); replace HB := aa.mk (Qa bB hb); (try clear hb); (try clear hb2); (try clear hk); (try clear hi); (try clear ho0); obtain ⟨rS, ry, tY⟩ := Kd.ZQ g8.out; subst tY; obtain ⟨wW, vO, tX⟩ := Kd.Zg bR.out; subst tX) | ((with_reducible refine Qh (f := 124) rfl ?_); refine QG (some 68) rfl rfl Try.func124 (by kernel_rfl) rfl #[.slice rS t120.length ry, .slice wW gm.length vO] rfl hA ?_; (with_reducible refine (Qg.calls k4 _ _ t120 _ _ gm t123 _ ?ah ?ai ?aq ?ar A28.out).mono ?_); (case ah => exact (Kd.Za g8.out).2.2); (case ai => exact (Kd.Za g8.out).2.1); (case aq => exact (Kd.QE bR.out).2.2); (case ar => exact (Kd.QE bR.out).2.1); rintro e w35 ⟨rfl, hb⟩; refine ⟨_, rfl, ?_⟩; replace bA := aa.mk (Kd.QV bA.out hb); replace ax := aa.mk (Kd.QV ax.out hb); replace bR := aa.mk (Kd.QV bR.out hb); replace cY := aa.mk (Kd.QV cY.out hb); replace ed := aa.mk (Kd.QV ed.out hb); replace g8 := aa.mk (Kd.ZO g8.out hb); replace HB := aa.mk (Qa bB hb); (try clear hb); (try clear hb2); (try clear hk); (try clear hi)))
                 go_roundg k4
                 case measure => have := HK1.out; have := HK2.out; have := HK3.out; have := HK4.out; omega
                 case rel => exact ⟨(wrap64 (fL + 1)), (by first | rfl | (simp; done) | (simp [*]; done)), H', ⟨by have := HK1.out; have := HK2.out; have := HK3.out; have := HK4.out; omega⟩, ⟨by (with_reducible repeat (first | apply Kd.R_alloc | apply Kd.R_drewN | apply Kd.QO)); exact Kd.Zc bA.out (fun _ hk => hk.1.1)⟩, ⟨by (with_reducible repeat (first | apply Kd.R_alloc | apply Kd.R_drewN | apply Kd.QO)); exact Kd.Zc ax.out (fun _ hk => hk.1.1)⟩, ⟨bB⟩⟩
                ·rw [if_neg c29] at H; have mQ : (t123 == 0) = false := beq_eq_false_iff_ne.mpr c29; have we : (t123 != 0) = true := bne_iff_ne.mpr c29; obtain rfl := Option.some.inj H; have dK : 0 ≤ (aY : Int) := of_decide_eq_true (by assumption); have dJ : aY < (t101.length : Int) := of_decide_eq_true (by assumption); obtain ⟨fI, jv, b8⟩ := Kd.Zi (Kd.QE bA.out).2.2 aY dK dJ; cases jv; replace dK := eq_true dK; replace dJ := eq_true dJ; go_wp2_with (first | ((with_reducible refine Qh (f := 103) rfl ?_); refine QG (some 65) rfl rfl Try.func103 (by kernel_rfl) rfl #[.int .i64 (rd t101 aY)] rfl hA ?_; (with_reducible refine (Qr.calls k4 (rd t101 aY) t117 _ A26.out).mono ?_); rintro e w36 ⟨yB, rfl, ho0, hb⟩; refine ⟨_, rfl, ?_⟩; have ed := aa.mk (Kd.Zh (Kd.Zm (Kd.Zm (Kd.Zm (Kd.Zm ho0 (Kd.R_lt bA.out)) (Kd.R_lt ax.out)) (Kd.R_lt bR.out)) (Kd.R_lt cY.out)) (Qb bB)); replace bA := aa.mk (Kd.Zd bA.out (Kd.QQ ho0) hb); replace ax := aa.mk (Kd.Zd ax.out (Kd.QQ ho0) hb); replace bR := aa.mk (Kd.Zd bR.out (Kd.QQ ho0) hb); replace cY := aa.mk (Kd.Zd cY.out (Kd.QQ ho0) hb); replace HB := aa.mk (Qa bB hb); (try clear hb); (try clear hb2); (try clear hk); (try clear hi); (try clear ho0); obtain ⟨rR, rv, tV⟩ := Kd.Zg ed.out; subst tV) | ((with_reducible refine Qh (f := 102) rfl ?_); refine QG (some 66) rfl rfl Try.func102 (by kernel_rfl) rfl #[.slice A0 l0.length c0, .slice rR t117.length rv] rfl hA ?_; (with_reducible refine (QY.calls k4 (fun k_ => k_ < w.heap.size) _ _ l0 _ _ t117 t120 _ ?ah ?ai ?aq A27.out).mono ?_); (case ah => exact Kd.V_mk HC0.out (Kd.Yg (Kd.C_F (Kd.ZP 3 (Kd.Yd .i64)) HR0.out) bB)); (case ai => exact (Kd.QE ed.out).2.2); (case aq => exact (Kd.QE ed.out).2.1); rintro e w38 ⟨yz, rfl, ho0, hb⟩; refine ⟨_, rfl, ?_⟩; have g8 := aa.mk (Kd.Ya (Kd.ZX (ok' := fun k_ => some k_ ≠ (.slice (some fI) t101.length gB : Value).ownBlock ∧ some k_ ≠ (.slice (some gu) t104.length fa : Value).ownBlock ∧ some k_ ≠ (u10 : Value).ownBlock ∧ some k_ ≠ (.slice jf t108.length gW : Value).ownBlock ∧ some k_ ≠ (.slice rR t117.length rv : Value).ownBlock) ho0 (fun k_ hk_ => ⟨Or.elim hk_ (fun hs_ => fun e_ => Nat.not_le.2 hs_ (Kd.QQ bA.out k_ e_.symm)) (fun hn_ => (Kd.fresh' (Kd.R_lt bA.out) k_ hn_)), Or.elim hk_ (fun hs_ => fun e_ => Nat.not_le.2 hs_ (Kd.QQ ax.out k_ e_.symm)) (fun hn_ => (Kd.fresh' (Kd.R_lt ax.out) k_ hn_)), Or.elim hk_ (fun hs_ => fun e_ => Nat.not_le.2 hs_ (Kd.QQ bR.out k_ e_.symm)) (fun hn_ => (Kd.fresh' (Kd.R_lt bR.out) k_ hn_)), Or.elim hk_ (fun hs_ => fun e_ => Nat.not_le.2 hs_ (Kd.QQ cY.out k_ e_.symm)) (fun hn_ => (Kd.fresh' (Kd.R_lt cY.out) k_ hn_)), Or.elim hk_ (fun hs_ => fun e_ => Nat.not_le.2 hs_ (Kd.QQ ed.out k_ e_.symm)) (fun hn_ => (Kd.fresh' (Kd.R_lt ed.out) k_ hn_))⟩)) (Qb bB)); replace bA := aa.mk (Kd.QV bA.out hb); replace ax := aa.mk (Kd.QV ax.out hb); replace bR := aa.mk (Kd.QV bR.out hb); replace cY := aa.mk (Kd.QV cY.out hb); replace ed := aa.mk (Kd.QV ed.out hb); replace HB := aa.mk (Qa bB hb); (try clear hb); (try clear hb2); (try clear hk); (try clear hi); (try clear ho0); obtain ⟨rQ, ru, tU⟩ := Kd.ZQ g8.out; subst tU; obtain ⟨rP, rr, oU⟩ := Kd.Zg bR.out; subst oU) | ((with_reducible refine Qh (f := 124) rfl ?_); refine QG (some 68) rfl rfl Try.func124 (by kernel_rfl) rfl #[.slice rQ t120.length ru, .slice rP gm.length rr] rfl hA ?_; (with_reducible refine (Qg.calls k4 _ _ t120 _ _ gm t123 _ ?ah ?ai ?aq ?ar A28.out).mono ?_); (case ah => exact (Kd.Za g8.out).2.2); (case ai => exact (Kd.Za g8.out).2.1); (case aq => exact (Kd.QE bR.out).2.2); (case ar => exact (Kd.QE bR.out).2.1); rintro e w41 ⟨rfl, hb⟩; refine ⟨_, rfl, ?_⟩; replace bA := aa.mk (Kd.QV bA.out hb); replace ax := aa.mk (Kd.QV ax.out hb); replace bR := aa.mk (Kd.QV bR.out hb); replace cY := aa.mk (Kd.QV cY.out hb); replace ed := aa.mk (Kd.QV ed.out hb); replace g8 := aa.mk (Kd.ZO g8.out hb); replace HB := aa.mk (Qa bB hb); (try clear hb); (try clear hb2); (try clear hk); (try clear hi)))
                 go_ret; exact ⟨by first | rfl | (simp [Qk, Qj] <;> rfl) | (simp only [← gR]; first | rfl | (simp [Qk, Qj] <;> rfl)) | (simp [*, Qk, Qj] <;> rfl), bB⟩
               ·rw [if_neg c25] at H; exact absurd H (by simp)
              ·rw [if_neg c24] at H; exact absurd H (by simp)
          ·rw [if_neg c12] at H; exact absurd H (by simp)
         ·rw [if_neg c11] at H; have fp : decide (fL < (t104.length : Int)) = false := decide_eq_false c11; clear c11; have H' := aa.mk H; clear H; obtain ⟨Ca, BF, zy⟩ := Kd.Zg ax.out; subst zy; go_wp2; go_roundg k3
          case measure => have := HK1.out; have := HK2.out; have := HK3.out; omega
          case rel => exact ⟨(wrap64 (aY + 1)), (by first | rfl | (simp; done) | (simp [*]; done)), H', ⟨by have := HK1.out; have := HK2.out; have := HK3.out; omega⟩, ⟨by (with_reducible repeat (first | apply Kd.R_alloc | apply Kd.R_drewN | apply Kd.QO)); exact bA.out⟩, ⟨by (with_reducible repeat (first | apply Kd.R_alloc | apply Kd.R_drewN | apply Kd.QO)); exact ax.out⟩, ⟨bB⟩⟩
      ·rw [if_neg c9] at H; have fv : decide (aY < (t101.length : Int)) = false := decide_eq_false c9; clear c9; have H' := aa.mk H; clear H; obtain ⟨Ae, zO, tS⟩ := Kd.Zg bA.out; subst tS; go_wp2; go_roundg k2
       case measure => have := HK1.out; have := HK2.out; omega
       case rel => exact ⟨(wrap64 (ao - 1)), (by first | rfl | (simp; done) | (simp [*]; done)), H', ⟨by have := HK1.out; have := HK2.out; omega⟩, ⟨bB⟩⟩
   ·rw [if_neg c4] at H; have bI : decide (0 < ao) = false := decide_eq_false c4; clear c4; obtain rfl := Option.some.inj H; go_wp2; go_ret; exact ⟨by first | rfl | (simp [Qk, Qj] <;> rfl) | (simp only [← gR]; first | rfl | (simp [Qk, Qj] <;> rfl)) | (simp [*, Qk, Qj] <;> rfl), bB⟩
 )
end Go.Proofs.Ytdneelgnmnpanaa.P
end
