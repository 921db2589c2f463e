/- What the claim's last text wants, part 2: functions of the translation as Lean functions with their contracts, and plain theorems; no conditions beyond those that each theorem names. -/
import Derived.Test.YtdneelgnmnpanaaZJo1
import Derived.Test.YtdneelgnmnpanaaProg
import Derived.Below
import Derived.Deep.Draws
import Derived.Deep.AppendLies
import Derived.Maps.AppendAt
import Derived.OwnWalk
import Derived.Laws.BytesArg
import Derived.Laws.MakeOwn
import Derived.Laws.OwnMore
import Derived.Deep.OwnRows
import Derived.Tactics
import Derived.Lib.ConvBytes
import Derived.Laws.Slices
import Derived.WalkKit
import Derived.KernelRfl
import Derived.RowKit3
import Derived.Deep.LoopGhost
import Derived.Deep.QuietTactic
import Derived.BigQuiet
import Derived.WideLaws
import Derived.Deep.DeepCutAuto
import Derived.Deep.CutBlock
import Derived.Deep.RegionHeld3
import Derived.Laws.Rows
import Derived.Lib.AppendStr
import Derived.ArgAppend
import Derived.Laws.IdiomCopy
import Derived.OrdersHeld
import Derived.Laws.BitsLemmas
import Derived.RowKit
set_option linter.unusedVariables false
set_option linter.unusedSimpArgs false
section
namespace Go.Proofs.Ytdneelgnmnpanaa.P
open Go.RowKit Go.Proofs.YtdneelgnmnpanaaW.PrintWords Go.Proofs.YtdneelgnmnpanaaW.PrintLast Go.Proofs.YtdneelgnmnpanaaW.PrintMore
attribute [local go_sem] max2_int min2_int max_two min_two max_three min_three max_four min_four
def errW : Option Int → Value
  | none => .nilIface
  | some c => .iface 0 (.int .i64 c)
theorem Qo : errW none = .nilIface := rfl
theorem Qn (c : Int) : errW (some c) = .iface 0 (.int .i64 c) := rfl
theorem info3 : (Try.prog.info? 3).map (fun i => (i.zero, i.size, i.bytes)) = some (some (.int .i64 0), 1, 8) := by kernel_rfl
theorem info28 : (Try.prog.info? 28).map (fun i => (i.zero, i.size, i.bytes)) = some (some (.slice none 0 0), 1, 24) := by kernel_rfl
theorem info76 : (Try.prog.info? 76).map (fun i => (i.zero, i.size, i.bytes)) = some (some (.agg #[(.int .i64 0), (.int .i64 0), (.int .i64 0), (.int .i64 0), (.int .i64 0), (.int .i64 0)]), 6, 48) := by kernel_rfl
def Qt (xs : List (List Int)) (i : Int) : (List Int) := xs.getD i.toNat ([] : List Int)
theorem ZH {w : World} {A : Option Addr} {n : Nat} {xs : List (List Int)} (h : Kd.C (Kd.slice 3 (Kd.int .i64)) w A n xs) (i : Int) (h0 : 0 ≤ i) (h1 : i < n) : ∃ ad A0 c0, A = some ad ∧ w.cell? (ad.add i.toNat) = some (.slice A0 (Qt xs i).length c0) ∧ (Qt xs i).length ≤ c0 ∧ (Kd.int .i64).C w A0 (Qt xs i).length (Qt xs i) := by
  obtain ⟨ad, c, e, _, hK, hc0⟩ := Kd.C_get h ([] : List Int) i h0 h1; have hc : ∀ j u, c[j]? = some u → w.cell? (ad.add (i.toNat * 1 + j)) = some u := hc0; obtain ⟨A0, c0, rfl, l0, g0⟩ := hK; exact ⟨ad, A0, c0, e, by have hq := hc 0 _ rfl; rwa [Nat.mul_one, Nat.add_zero] at hq, l0, g0⟩
structure S76 where
  f0 : Int
  f1 : Int
  f2 : Int
  f3 : Int
  f4 : Int
  f5 : Int
def z76 : S76 := ⟨(0 : Int), (0 : Int), (0 : Int), (0 : Int), (0 : Int), (0 : Int)⟩
def k76 : Kd S76 := Kd.iso (Kd.pair (Kd.int .i64) (Kd.pair (Kd.int .i64) (Kd.pair (Kd.int .i64) (Kd.pair (Kd.int .i64) (Kd.pair (Kd.int .i64) (Kd.int .i64)))))) (fun x : S76 => (x.f0, x.f1, x.f2, x.f3, x.f4, x.f5))
theorem Ur {w : World} {x : S76} {cs : List Value} (h : k76.K w x cs) : cs = [.int .i64 x.f0, .int .i64 x.f1, .int .i64 x.f2, .int .i64 x.f3, .int .i64 x.f4, .int .i64 x.f5] := by
  obtain ⟨_, _, rfl, rfl, ⟨_, _, rfl, rfl, ⟨_, _, rfl, rfl, ⟨_, _, rfl, rfl, ⟨_, _, rfl, rfl, rfl⟩⟩⟩⟩⟩ := h; exact rfl
theorem k76_openM {w : World} {base : Nat} {ok : Nat → Prop} {x : S76} {cs : List Value} (h : k76.M w base ok x cs) : cs = [.int .i64 x.f0, .int .i64 x.f1, .int .i64 x.f2, .int .i64 x.f3, .int .i64 x.f4, .int .i64 x.f5] := by
  obtain ⟨_, _, rfl, rfl, ⟨_, _, rfl, rfl, ⟨_, _, rfl, rfl, ⟨_, _, rfl, rfl, ⟨_, _, rfl, rfl, rfl⟩⟩⟩⟩⟩ := h; exact rfl
theorem V7 (w : World) (base : Nat) (ok : Nat → Prop) (x : S76)  : k76.M w base ok x [.int .i64 x.f0, .int .i64 x.f1, .int .i64 x.f2, .int .i64 x.f3, .int .i64 x.f4, .int .i64 x.f5] := ⟨[.int .i64 x.f0], [.int .i64 x.f1, .int .i64 x.f2, .int .i64 x.f3, .int .i64 x.f4, .int .i64 x.f5], rfl, rfl, ⟨[.int .i64 x.f1], [.int .i64 x.f2, .int .i64 x.f3, .int .i64 x.f4, .int .i64 x.f5], rfl, rfl, ⟨[.int .i64 x.f2], [.int .i64 x.f3, .int .i64 x.f4, .int .i64 x.f5], rfl, rfl, ⟨[.int .i64 x.f3], [.int .i64 x.f4, .int .i64 x.f5], rfl, rfl, ⟨[.int .i64 x.f4], [.int .i64 x.f5], rfl, rfl, rfl⟩⟩⟩⟩⟩
mutual
def Qy.j0 : Nat → Bool → List (List Int) → List (List Int) → Option (Bool)
 | 0, _, _, _ => none
 | k + 1, x14, aE, aG => if x14 = true then (some true) else (Qy.l0 k 0 aE aG)
def Qy.l0 : Nat → Int → List (List Int) → List (List Int) → Option (Bool)
 | 0, _, _, _ => none
 | k + 1, x3, aE, aG => if x3 < (aE.length : Int) then (if 0 ≤ x3 then (if ((Qt aE x3).length : Int) > 50 then (some true) else (Qy.l0 k (wrap64 (x3 + 1)) aE aG)) else (none)) else (Qy.l1 k 0 aE aG)
def Qy.l1 : Nat → Int → List (List Int) → List (List Int) → Option (Bool)
 | 0, _, _, _ => none
 | k + 1, x4, aE, aG => if x4 < (aG.length : Int) then (if 0 ≤ x4 then (if ((Qt aG x4).length : Int) > 50 then (some true) else (Qy.l1 k (wrap64 (x4 + 1)) aE aG)) else (none)) else (some false)
end
def Qy.f (k : Nat) (ae : List (List Int)) (ag : List (List Int)) : Option (Bool) := if (ae.length : Int) > 50 then (Qy.j0 k true ae ag) else (Qy.j0 k (decide ((ag.length : Int) > 50)) ae ag)
set_option maxHeartbeats 8000000 in
set_option maxRecDepth 100000 in
theorem Qy.calls (k : Nat) (aq : Option Addr) (an : Nat) (ae : List (List Int)) (ak : Option Addr) (ao : Nat) (ag : List (List Int)) (r : Bool) (w : World) (bp : Kd.C (Kd.slice 3 (Kd.int .i64)) w aq ae.length ae) (br : ae.length ≤ an) (bo : Kd.C (Kd.slice 3 (Kd.int .i64)) w ak ag.length ag) (bq : ag.length ≤ ao) (h : Qy.f k ae ag = some r) :
  Calls Try.prog 36 #[.agg #[.slice aq ae.length an, .slice ak ag.length ao]] w fun e w' => e = .returned (.bool r) ∧ Below w.heap.size w w' := by
 have fa := Try.underlying24; have aI := aa.mk bp; have aQ := aa.mk br; clear bp br; have aW := aa.mk bo; have aT := aa.mk bq; clear bo bq; have HB := aa.mk (Below.refl w.heap.size w); have H : (if (ae.length : Int) > 50 then (Qy.j0 k true ae ag) else (Qy.j0 k (decide ((ag.length : Int) > 50)) ae ag)) = some r := h; clear h; have HC2 := aa.mk H; clear H; go_enter Try.func36, Try.ntmps36; go_upto_region 1 with (first | ((with_reducible refine QD (N := 1) rfl ?_); (try (refine Q8 (by rfl) ?_; dsimp only)); refine QJ ?hg (N := 1) ?hd (cs := #[.slice aq ae.length an, .slice ak ag.length ao]) (t := 24) ?hr ?_; (case hd => rfl); (case hg => rfl); (case hr => first | (go_simp; done) | (go_simp; rfl)); intro af hg w3 hbox hb; have ab := aa.mk (hbox); have bA := aa.mk ((by rw [hg]; exact (Qe bB) : w.heap.size ≤ af)); have bk := aa.mk ((by rw [hg]; exact (Qe bB) : w.heap.size ≤ af)); replace HB := aa.mk (Qd bB hb); clear hb hbox hg))
 (try simp only [Act.put, zA, zB, zC])
 go_cut [14] (fun v14 wc => ∃ (kq : Nat) (nF : Bool), v14 = .bool nF ∧ aa (Qy.j0 kq nF ae ag = some r) ∧ aa (kq ≤ k) ∧ aa (wc.heap[af]? = some (.cells #[(.slice aq ae.length an), (.slice ak ag.length ao)] 24 (0, 0))) ∧ aa (Below w.heap.size w wc))
 case first =>
  have H := HC2.out; clear HC2; by_cases c4 : (ae.length : Int) > 50
  ·rw [if_pos c4] at H; have cn : decide (50 < (ae.length : Int)) = true := decide_eq_true c4; have eC : decide (50 < ae.length) = true := decide_eq_true (by omega); clear c4; (first | rw [cn] | (simp only [Qw, Qx]; rw [cn]) | skip)
   have H' := aa.mk H; clear H; have gW : w3.cell? ⟨af, 0, none⟩ = some (.slice aq ae.length an) := (Qa ab.out 0).trans rfl; have gV : w3.cell? ⟨af, 1, none⟩ = some (.slice ak ag.length ao) := (Qa ab.out 1).trans rfl; have gS := Qb ab.out 0; have gR := Qb ab.out 1; go_wp2; go_meet
   case rel => exact ⟨_, (true), (by first | rfl | (simp; done) | (simp [*]; done)), H', ⟨by first | omega | exact Nat.le_refl _⟩, ⟨by (with_reducible repeat (first | refine Qg ?_ _ | refine Qh ?_ | refine Qf ?_ _)); exact ab.out⟩, ⟨bB⟩⟩
  ·rw [if_neg c4] at H; have cn : decide (50 < (ae.length : Int)) = false := decide_eq_false c4; have eC : decide (50 < ae.length) = false := decide_eq_false (by omega); clear c4; (first | rw [cn] | (simp only [Qw, Qx]; rw [cn]) | skip)
   have H' := aa.mk H; clear H; have gU : w3.cell? ⟨af, 0, none⟩ = some (.slice aq ae.length an) := (Qa ab.out 0).trans rfl; have gT : w3.cell? ⟨af, 1, none⟩ = some (.slice ak ag.length ao) := (Qa ab.out 1).trans rfl; have gQ := Qb ab.out 0; have gP := Qb ab.out 1; go_wp2; go_meet
   case rel => exact ⟨_, (decide ((ag.length : Int) > 50)), (by first | rfl | (simp; done) | (simp [*]; done)), H', ⟨by first | omega | exact Nat.le_refl _⟩, ⟨by (with_reducible repeat (first | refine Qg ?_ _ | refine Qh ?_ | refine Qf ?_ _)); exact ab.out⟩, ⟨bB⟩⟩
 case rest =>
  clear HC2; try clear p2
  try clear c3
  try clear c4
  try clear cn
  try clear eC
  try clear gW
  try clear gV
  try clear gU
  try clear gT
  try clear gS
  try clear gR
  try clear gQ
  try clear gP
  obtain ⟨kq, nF, rfl, HA, HJ1, ab, HB⟩ := hcut; cases kq with
  | zero => exact absurd HA.out (by simp [Qy.j0])
  | succ kj1 =>
   have H := HA.out; clear HA; simp only [Qy.j0] at H; by_cases c7 : nF = true
   ·subst c7; have H1 : (some true) = some r := by rw [if_pos rfl] at H; exact H
    clear H; have H := H1; clear H1; obtain rfl := Option.some.inj H; go_wp2; go_ret; exact ⟨by first | rfl | (simp [Qo, Qn] <;> rfl) | (simp [*, Qo, Qn] <;> rfl), bB⟩
   ·replace c7 := Bool.eq_false_iff.mpr c7; subst c7; have H1 : (Qy.l0 kj1 0 ae ag) = some r := by rw [if_neg (show ¬ (false = true) by decide)] at H; exact H
    clear H; have H := H1; clear H1; have H' := aa.mk H; clear H; go_wp2; go_loopg [3] kj1 (fun kq v3 w' => ∃ (dG : Int), v3 = .int .i64 dG ∧ aa (Qy.l0 kq dG ae ag = some r) ∧ aa (kq ≤ kj1) ∧ aa (w'.heap[af]? = some (.cells #[(.slice aq ae.length an), (.slice ak ag.length ao)] 24 (0, 0))) ∧ aa (Below w.heap.size w w'))
    case atStart => exact ⟨(0), (by first | rfl | (simp; done) | (simp [*]; done)), H', ⟨Nat.le_refl _⟩, ⟨by (with_reducible repeat (first | refine Qg ?_ _ | refine Qh ?_ | refine Qf ?_ _)); exact ab.out⟩, ⟨bB⟩⟩
    case round =>
     clear H'; try clear p2
     try clear c3
     try clear c4
     try clear cn
     try clear eC
     try clear c7
     try clear gW
     try clear gV
     try clear gU
     try clear gT
     try clear gS
     try clear gR
     try clear gQ
     try clear gP
     try clear p2
     obtain ⟨dG, rfl, HA, HK2, ab, HB⟩ := hrel; cases gk with
     | zero => exact absurd HA.out (by simp [Qy.l0])
     | succ k2 =>
      have H := HA.out; clear HA; simp only [Qy.l0] at H; by_cases c8 : dG < (ae.length : Int)
      ·rw [if_pos c8] at H; have eQ : decide (dG < (ae.length : Int)) = true := decide_eq_true c8; clear c8; by_cases c9 : 0 ≤ dG
       ·rw [if_pos c9] at H; have ft : decide (0 ≤ dG) = true := decide_eq_true c9; clear c9; by_cases c10 : ((Qt ae dG).length : Int) > 50
        ·rw [if_pos c10] at H; have gC : decide (50 < ((Qt ae dG).length : Int)) = true := decide_eq_true c10; have kL : decide (50 < (Qt ae dG).length) = true := decide_eq_true (by omega); clear c10; obtain rfl := Option.some.inj H; have dN : wr.cell? ⟨af, 0, none⟩ = some (.slice aq ae.length an) := (Qa ab.out 0).trans rfl; have dM : wr.cell? ⟨af, 1, none⟩ = some (.slice ak ag.length ao) := (Qa ab.out 1).trans rfl; have dL := Qb ab.out 0; have dK := Qb ab.out 1; have bS : 0 ≤ (dG : Int) := of_decide_eq_true (by assumption); have bR : dG < (ae.length : Int) := of_decide_eq_true (by assumption); obtain ⟨bX, eW, eV, eB, bh, cA, cB⟩ := ZH aI.out dG bS bR; cases eB; replace bh := (HB.out.cell (World.block_lt_of_cell? w _ bh)).trans bh; have cL := aa.mk cB; have cR := aa.mk cA; clear cB cA; replace bS := eq_true bS; replace bR := eq_true bR; go_wp2; go_ret; exact ⟨by first | rfl | (simp [Qo, Qn] <;> rfl) | (simp [*, Qo, Qn] <;> rfl), bB⟩
        ·rw [if_neg c10] at H; have gC : decide (50 < ((Qt ae dG).length : Int)) = false := decide_eq_false c10; have kL : decide (50 < (Qt ae dG).length) = false := decide_eq_false (by omega); clear c10; have H' := aa.mk H; clear H; have fN : wr.cell? ⟨af, 0, none⟩ = some (.slice aq ae.length an) := (Qa ab.out 0).trans rfl; have fM : wr.cell? ⟨af, 1, none⟩ = some (.slice ak ag.length ao) := (Qa ab.out 1).trans rfl; have fH := Qb ab.out 0; have fG := Qb ab.out 1; have bS : 0 ≤ (dG : Int) := of_decide_eq_true (by assumption); have bR : dG < (ae.length : Int) := of_decide_eq_true (by assumption); obtain ⟨bX, eW, eV, eB, bh, cA, cB⟩ := ZH aI.out dG bS bR; cases eB; replace bh := (HB.out.cell (World.block_lt_of_cell? w _ bh)).trans bh; have cL := aa.mk cB; have cR := aa.mk cA; clear cB cA; replace bS := eq_true bS; replace bR := eq_true bR; go_wp2; go_roundg k2
         case measure => have := HJ1.out; have := HK2.out; omega
         case rel => exact ⟨(wrap64 (dG + 1)), (by first | rfl | (simp; done) | (simp [*]; done)), H', ⟨by have := HJ1.out; have := HK2.out; omega⟩, ⟨by (with_reducible repeat (first | refine Qg ?_ _ | refine Qh ?_ | refine Qf ?_ _)); exact ab.out⟩, ⟨bB⟩⟩
       ·rw [if_neg c9] at H; exact absurd H (by simp)
      ·rw [if_neg c8] at H; have eQ : decide (dG < (ae.length : Int)) = false := decide_eq_false c8; clear c8; have H' := aa.mk H; clear H; have dZ : wr.cell? ⟨af, 0, none⟩ = some (.slice aq ae.length an) := (Qa ab.out 0).trans rfl; have dY : wr.cell? ⟨af, 1, none⟩ = some (.slice ak ag.length ao) := (Qa ab.out 1).trans rfl; have dX := Qb ab.out 0; have dW := Qb ab.out 1; go_wp2; go_loopg [4] k2 (fun kq v4 w' => ∃ (fX : Int), v4 = .int .i64 fX ∧ aa (Qy.l1 kq fX ae ag = some r) ∧ aa (kq ≤ k2) ∧ aa (w'.heap[af]? = some (.cells #[(.slice aq ae.length an), (.slice ak ag.length ao)] 24 (0, 0))) ∧ aa (Below w.heap.size w w'))
       case atStart => exact ⟨(0), (by first | rfl | (simp; done) | (simp [*]; done)), H', ⟨Nat.le_refl _⟩, ⟨by (with_reducible repeat (first | refine Qg ?_ _ | refine Qh ?_ | refine Qf ?_ _)); exact ab.out⟩, ⟨bB⟩⟩
       case round =>
        clear H'; try clear c1
        try clear p1
        try clear q1
        try clear hx1
        try clear p2
        try clear c3
        try clear c4
        try clear cn
        try clear eC
        try clear p6
        try clear c7
        try clear c8
        try clear eQ
        try clear c9
        try clear ft
        try clear c10
        try clear gC
        try clear kL
        try clear p10
        try clear q10
        try clear iO
        try clear dN
        try clear dM
        try clear fN
        try clear fM
        try clear dZ
        try clear dY
        try clear gW
        try clear gV
        try clear gU
        try clear gT
        try clear dL
        try clear dK
        try clear fH
        try clear fG
        try clear dX
        try clear dW
        try clear gS
        try clear gR
        try clear gQ
        try clear gP
        try clear bh
        try clear bS
        try clear p2
        try clear bR
        obtain ⟨fX, rfl, HA, HK3, ab, HB⟩ := hrel; cases gk with
        | zero => exact absurd HA.out (by simp [Qy.l1])
        | succ k3 =>
         have H := HA.out; clear HA; simp only [Qy.l1] at H; by_cases c14 : fX < (ag.length : Int)
         ·rw [if_pos c14] at H; have ij : decide (fX < (ag.length : Int)) = true := decide_eq_true c14; clear c14; by_cases c15 : 0 ≤ fX
          ·rw [if_pos c15] at H; have ln : decide (0 ≤ fX) = true := decide_eq_true c15; clear c15; by_cases c16 : ((Qt ag fX).length : Int) > 50
           ·rw [if_pos c16] at H; have ig : decide (50 < ((Qt ag fX).length : Int)) = true := decide_eq_true c16; have xC : decide (50 < (Qt ag fX).length) = true := decide_eq_true (by omega); clear c16; obtain rfl := Option.some.inj H; have kj : wr.cell? ⟨af, 0, none⟩ = some (.slice aq ae.length an) := (Qa ab.out 0).trans rfl; have ki : wr.cell? ⟨af, 1, none⟩ = some (.slice ak ag.length ao) := (Qa ab.out 1).trans rfl; have ka := Qb ab.out 0; have j9 := Qb ab.out 1; have eH : 0 ≤ (fX : Int) := of_decide_eq_true (by assumption); have eG : fX < (ag.length : Int) := of_decide_eq_true (by assumption); obtain ⟨jH, nA, nu, jx, bx, et, ey⟩ := ZH aW.out fX eH eG; cases jx; replace bx := (HB.out.cell (World.block_lt_of_cell? w _ bx)).trans bx; have l6 := aa.mk ey; have me := aa.mk et; clear ey et; replace eH := eq_true eH; replace eG := eq_true eG; go_wp2; go_ret; exact ⟨by first | rfl | (simp [Qo, Qn] <;> rfl) | (simp [*, Qo, Qn] <;> rfl), bB⟩
           ·rw [if_neg c16] at H; have ig : decide (50 < ((Qt ag fX).length : Int)) = false := decide_eq_false c16; have xC : decide (50 < (Qt ag fX).length) = false := decide_eq_false (by omega); clear c16; have H' := aa.mk H; clear H; have oC : wr.cell? ⟨af, 0, none⟩ = some (.slice aq ae.length an) := (Qa ab.out 0).trans rfl; have oB : wr.cell? ⟨af, 1, none⟩ = some (.slice ak ag.length ao) := (Qa ab.out 1).trans rfl; have oa := Qb ab.out 0; have n9 := Qb ab.out 1; have eH : 0 ≤ (fX : Int) := of_decide_eq_true (by assumption); have eG : fX < (ag.length : Int) := of_decide_eq_true (by assumption); obtain ⟨jH, nA, nu, jx, bx, et, ey⟩ := ZH aW.out fX eH eG; cases jx; replace bx := (HB.out.cell (World.block_lt_of_cell? w _ bx)).trans bx; have l6 := aa.mk ey; have me := aa.mk et; clear ey et; replace eH := eq_true eH; replace eG := eq_true eG; go_wp2; go_roundg k3
            case measure => have := HJ1.out; have := HK2.out; have := HK3.out; omega
            case rel => exact ⟨(wrap64 (fX + 1)), (by first | rfl | (simp; done) | (simp [*]; done)), H', ⟨by have := HJ1.out; have := HK2.out; have := HK3.out; omega⟩, ⟨by (with_reducible repeat (first | refine Qg ?_ _ | refine Qh ?_ | refine Qf ?_ _)); exact ab.out⟩, ⟨bB⟩⟩
          ·rw [if_neg c15] at H; exact absurd H (by simp)
         ·rw [if_neg c14] at H; have ij : decide (fX < (ag.length : Int)) = false := decide_eq_false c14; clear c14; obtain rfl := Option.some.inj H; have gu : wr.cell? ⟨af, 0, none⟩ = some (.slice aq ae.length an) := (Qa ab.out 0).trans rfl; have gr : wr.cell? ⟨af, 1, none⟩ = some (.slice ak ag.length ao) := (Qa ab.out 1).trans rfl; have gp := Qb ab.out 0; have gm := Qb ab.out 1; go_wp2; go_ret; exact ⟨by first | rfl | (simp [Qo, Qn] <;> rfl) | (simp [*, Qo, Qn] <;> rfl), bB⟩
def Qs.l0 : Nat → List Int → List Int → Int → Option (Bool)
 | 0, _, _, _ => none
 | k + 1, x0, x1, x5 => if x5 < (x0.length : Int) then (if 0 ≤ x5 then (if x5 < (x1.length : Int) then (if (rd x0 x5) = (rd x1 x5) then (Qs.l0 k x0 x1 (wrap64 (x5 + 1))) else (some false)) else (none)) else (none)) else (some true)
def Qs.f (k : Nat) (l0 : List Int) (l1 : List Int) : Option (Bool) := if (l0.length : Int) = (l1.length : Int) then (Qs.l0 k l0 l1 0) else (some false)
theorem Qs.Z8 : ∀ k, (∀ y0 y1 y2, LeO (Qs.l0 k y0 y1 y2) (Qs.l0 (k + 1) y0 y1 y2))
 | 0 => fun _ _ _ r h => by simp [Qs.l0] at h
 | k + 1 => by
  have ih0 := Qs.Z8 k
  ·intro y0 y1 y2; unfold Qs.l0; repeat' first | (with_reducible exact ih0 _ _ _) | (with_reducible exact LeO.refl _) | (with_reducible exact LeO.none _) | (with_reducible refine LeO.ite ?_ ?_) | (with_reducible refine LeO.bind ?_ (fun _ => ?_)) | exact ih0 _ _ _ | exact LeO.none _ | refine LeO.ite ?_ ?_ | refine LeO.bind ?_ (fun _ => ?_)
theorem Qs.mono : ∀ a0 a1 k, LeO (Qs.f k a0 a1) (Qs.f (k + 1) a0 a1) := by
 intro a0 a1 k; have ih0 := Qs.Z8 k; unfold Qs.f; repeat' first | (with_reducible exact ih0 _ _ _) | (with_reducible exact LeO.refl _) | (with_reducible exact LeO.none _) | (with_reducible refine LeO.ite ?_ ?_) | (with_reducible refine LeO.bind ?_ (fun _ => ?_)) | exact ih0 _ _ _ | exact LeO.none _ | refine LeO.ite ?_ ?_ | refine LeO.bind ?_ (fun _ => ?_)
set_option maxHeartbeats 8000000 in
set_option maxRecDepth 100000 in
theorem Qs.calls (k : Nat) (A0 : Option Addr) (c0 : Nat) (l0 : List Int) (A1 : Option Addr) (c1 : Nat) (l1 : List Int) (r : Bool) (w : World) (hr0 : Kd.C (Kd.int .i64) w A0 l0.length l0) (hc0 : l0.length ≤ c0) (hr1 : Kd.C (Kd.int .i64) w A1 l1.length l1) (hc1 : l1.length ≤ c1) (h : Qs.f k l0 l1 = some r) :
  Calls Try.prog 45 #[.slice A0 l0.length c0, .slice A1 l1.length c1] w fun e w' => e = .returned (.bool r) ∧ Drawn0 w w' := by
 have HR0 := aa.mk hr0; have HC0 := aa.mk hc0; clear hr0 hc0; have HR1 := aa.mk hr1; have HC1 := aa.mk hc1; clear hr1 hc1; have H : (if (l0.length : Int) = (l1.length : Int) then (Qs.l0 k l0 l1 0) else (some false)) = some r := h; clear h; by_cases c3 : (l0.length : Int) = (l1.length : Int)
 ·rw [if_pos c3] at H; have cK : ((l0.length : Int) == (l1.length : Int)) = true := beq_iff_eq.mpr c3; have dD : ((l0.length : Int) != (l1.length : Int)) = false := bne_eq_false_iff_eq.mpr c3; have jg : (l0.length == l1.length) = true := by first | simpa using c3 | (simp at c3 ⊢; omega)
  clear c3; have H' := aa.mk H; clear H; go_enter Try.func45, Try.ntmps45; go_wp2; repeat (go_quiet (fail); try go_wp2)
  go_loopg [5] k (fun kq v5 w' => ∃ (aN : Int), v5 = .int .i64 aN ∧ aa (Qs.l0 kq l0 l1 aN = some r) ∧ aa (kq ≤ k) ∧ Drawn0 w w')
  case atStart => exact ⟨(0), (by first | rfl | (simp; done) | (simp [*]; done)), H', ⟨Nat.le_refl _⟩, by repeat (first | exact Drawn0.refl _ | apply Drawn0.step)⟩
  case round =>
   clear H'; try clear c1
   try clear p2
   try clear c3
   try clear cK
   try clear dD
   try clear jg
   obtain ⟨aN, rfl, HA, HK1, ⟨m1, rfl⟩⟩ := hrel; cases gk with
   | zero => exact absurd HA.out (by simp [Qs.l0])
   | succ k1 =>
    have H := HA.out; clear HA; simp only [Qs.l0] at H; by_cases c4 : aN < (l0.length : Int)
    ·rw [if_pos c4] at H; have cn : decide (aN < (l0.length : Int)) = true := decide_eq_true c4; clear c4; by_cases c5 : 0 ≤ aN
     ·rw [if_pos c5] at H; have fl : decide (0 ≤ aN) = true := decide_eq_true c5; clear c5; by_cases c6 : aN < (l1.length : Int)
      ·rw [if_pos c6] at H; have gZ : decide (aN < (l1.length : Int)) = true := decide_eq_true c6; clear c6; by_cases c7 : (rd l0 aN) = (rd l1 aN)
       ·rw [if_pos c7] at H; have jU : ((rd l0 aN) == (rd l1 aN)) = true := beq_iff_eq.mpr c7; have np : ((rd l0 aN) != (rd l1 aN)) = false := bne_eq_false_iff_eq.mpr c7; clear c7; have H' := aa.mk H; clear H; have bZ : 0 ≤ (aN : Int) := of_decide_eq_true (by assumption); have bY : aN < (l0.length : Int) := of_decide_eq_true (by assumption); obtain ⟨gf, eK, b8⟩ := Kd.Zi HR0.out aN bZ bY; cases eK; replace bZ := eq_true bZ; replace bY := eq_true bY; have bS : 0 ≤ (aN : Int) := of_decide_eq_true (by assumption); have bR : aN < (l1.length : Int) := of_decide_eq_true (by assumption); obtain ⟨bX, eB, bh⟩ := Kd.Zi HR1.out aN bS bR; cases eB; replace bS := eq_true bS; replace bR := eq_true bR; go_wp2; repeat (go_quiet (fail); try go_wp2)
        go_roundg k1
        case measure => have := HK1.out; omega
        case rel => exact ⟨(wrap64 (aN + 1)), (by first | rfl | (simp; done) | (simp [*]; done)), H', ⟨by have := HK1.out; omega⟩, by repeat (first | exact Drawn0.refl _ | apply Drawn0.step)⟩
       ·rw [if_neg c7] at H; have jU : ((rd l0 aN) == (rd l1 aN)) = false := beq_eq_false_iff_ne.mpr c7; have np : ((rd l0 aN) != (rd l1 aN)) = true := bne_iff_ne.mpr c7; obtain rfl := Option.some.inj H; have bZ : 0 ≤ (aN : Int) := of_decide_eq_true (by assumption); have bY : aN < (l0.length : Int) := of_decide_eq_true (by assumption); obtain ⟨gf, eK, b8⟩ := Kd.Zi HR0.out aN bZ bY; cases eK; replace bZ := eq_true bZ; replace bY := eq_true bY; have bS : 0 ≤ (aN : Int) := of_decide_eq_true (by assumption); have bR : aN < (l1.length : Int) := of_decide_eq_true (by assumption); obtain ⟨bX, eB, bh⟩ := Kd.Zi HR1.out aN bS bR; cases eB; replace bS := eq_true bS; replace bR := eq_true bR; go_wp2; repeat (go_quiet (fail); try go_wp2)
        go_ret; exact ⟨by first | rfl | (simp; done) | (simp [*]; done), by repeat (first | exact Drawn0.refl _ | apply Drawn0.step)⟩
      ·rw [if_neg c6] at H; exact absurd H (by simp)
     ·rw [if_neg c5] at H; exact absurd H (by simp)
    ·rw [if_neg c4] at H; have cn : decide (aN < (l0.length : Int)) = false := decide_eq_false c4; clear c4; obtain rfl := Option.some.inj H; go_wp2; repeat (go_quiet (fail); try go_wp2)
     go_ret; exact ⟨by first | rfl | (simp; done) | (simp [*]; done), by repeat (first | exact Drawn0.refl _ | apply Drawn0.step)⟩
 ·rw [if_neg c3] at H; have cK : ((l0.length : Int) == (l1.length : Int)) = false := beq_eq_false_iff_ne.mpr c3; have dD : ((l0.length : Int) != (l1.length : Int)) = true := bne_iff_ne.mpr c3; have jg : (l0.length == l1.length) = false := by first | simpa using c3 | (simp at c3 ⊢; omega)
  obtain rfl := Option.some.inj H; go_enter Try.func45, Try.ntmps45; go_wp2; repeat (go_quiet (fail); try go_wp2)
  go_ret; exact ⟨by first | rfl | (simp; done) | (simp [*]; done), by repeat (first | exact Drawn0.refl _ | apply Drawn0.step)⟩
mutual
def Qr.j0 : Nat → List Int → Option (Int)
 | 0, _ => none
 | k + 1, x0 => if 0 < (x0.length : Int) then (Qr.l0 k x0 (rd x0 0) 1) else (none)
def Qr.l0 : Nat → List Int → Int → Int → Option (Int)
 | 0, _, _, _ => none
 | k + 1, x0, x3, x4 => if x4 < (x0.length : Int) then (if 0 ≤ x4 then (Qr.l0 k x0 (mn x3 (rd x0 x4)) (wrap64 (x4 + 1))) else (none)) else (some x3)
end
def Qr.f (k : Nat) (l0 : List Int) : Option (Int) := if (l0.length : Int) < 1 then (if 0 ≤ (-1) then (if (-1) < (l0.length : Int) then (Qr.j0 k l0) else (none)) else (none)) else (Qr.j0 k l0)
theorem Qr.Z8 : ∀ k, (∀ y0, LeO (Qr.j0 k y0) (Qr.j0 (k + 1) y0)) ∧ (∀ y0 y1 y2, LeO (Qr.l0 k y0 y1 y2) (Qr.l0 (k + 1) y0 y1 y2))
 | 0 => ⟨fun _ r h => by simp [Qr.j0] at h, fun _ _ _ r h => by simp [Qr.l0] at h⟩
 | k + 1 => by
  obtain ⟨ih0, ih1⟩ := Qr.Z8 k; refine ⟨?_, ?_⟩ <;> intros <;> (first | unfold Qr.j0 | unfold Qr.l0) <;> repeat' first | (with_reducible exact ih0 _) | (with_reducible exact ih1 _ _ _) | (with_reducible exact LeO.refl _) | (with_reducible exact LeO.none _) | (with_reducible refine LeO.ite ?_ ?_) | (with_reducible refine LeO.bind ?_ (fun _ => ?_)) | exact ih0 _ | exact ih1 _ _ _ | exact LeO.none _ | refine LeO.ite ?_ ?_ | refine LeO.bind ?_ (fun _ => ?_)
theorem Qr.mono : ∀ a0 k, LeO (Qr.f k a0) (Qr.f (k + 1) a0) := by
 intro a0 k; obtain ⟨ih0, ih1⟩ := Qr.Z8 k; unfold Qr.f; repeat' first | (with_reducible exact ih0 _) | (with_reducible exact ih1 _ _ _) | (with_reducible exact LeO.refl _) | (with_reducible exact LeO.none _) | (with_reducible refine LeO.ite ?_ ?_) | (with_reducible refine LeO.bind ?_ (fun _ => ?_)) | exact ih0 _ | exact ih1 _ _ _ | exact LeO.none _ | refine LeO.ite ?_ ?_ | refine LeO.bind ?_ (fun _ => ?_)
set_option maxHeartbeats 8000000 in
set_option maxRecDepth 100000 in
theorem Qr.calls (k : Nat) (A0 : Option Addr) (c0 : Nat) (l0 : List Int) (r : Int) (w : World) (hr0 : Kd.C (Kd.int .i64) w A0 l0.length l0) (hc0 : l0.length ≤ c0) (h : Qr.f k l0 = some r) :
  Calls Try.prog 84 #[.slice A0 l0.length c0] w fun e w' => e = .returned (.int .i64 r) ∧ Below w.heap.size w w' := by
 have HR0 := aa.mk hr0; have HC0 := aa.mk hc0; clear hr0 hc0; have HB := aa.mk (Below.refl w.heap.size w); have H : (if (l0.length : Int) < 1 then (if 0 ≤ (-1) then (if (-1) < (l0.length : Int) then (Qr.j0 k l0) else (none)) else (none)) else (Qr.j0 k l0)) = some r := h; clear h; have HC2 := aa.mk H; clear H; go_enter Try.func84, Try.ntmps84; go_upto_if 7 with (fail)
 go_cut [] (fun wc => ∃ (kq : Nat), aa (Qr.j0 kq l0 = some r) ∧ aa (kq ≤ k) ∧ aa (Below w.heap.size w wc))
 case first =>
  have H := HC2.out; clear HC2; by_cases c3 : (l0.length : Int) < 1
  ·rw [if_pos c3] at H; have cK : decide ((l0.length : Int) < 1) = true := decide_eq_true c3; have dD : decide (l0.length < 1) = true := decide_eq_true (by omega); clear c3; (first | rw [cK] | (simp only [Qw, Qx]; rw [cK]) | skip)
   by_cases c4 : 0 ≤ (-1)
   ·rw [if_pos c4] at H; have cn : decide (0 ≤ (-1)) = true := decide_eq_true c4; clear c4; by_cases c5 : (-1) < (l0.length : Int)
    ·rw [if_pos c5] at H; have fl : decide ((-1) < (l0.length : Int)) = true := decide_eq_true c5; clear c5; have H' := aa.mk H; clear H; exact absurd (show (0 : Int) ≤ -1 from of_decide_eq_true (by assumption)) (by decide)
    ·rw [if_neg c5] at H; exact absurd H (by simp)
   ·rw [if_neg c4] at H; exact absurd H (by simp)
  ·rw [if_neg c3] at H; have cK : decide ((l0.length : Int) < 1) = false := decide_eq_false c3; have dD : decide (l0.length < 1) = false := decide_eq_false (by omega); clear c3; (first | rw [cK] | (simp only [Qw, Qx]; rw [cK]) | skip)
   have H' := aa.mk H; clear H; go_wp2; go_meet
   case rel => exact ⟨_, H', ⟨by first | omega | exact Nat.le_refl _⟩, ⟨bB⟩⟩
 case rest =>
  clear HC2; try clear p1
  try clear q1
  try clear hx1
  try clear p2
  try clear c3
  try clear cK
  try clear dD
  try clear c4
  try clear cn
  try clear c5
  try clear fl
  try clear b8
  try clear bZ
  try clear bY
  obtain ⟨kq, HA, HJ1, HB⟩ := hcut; cases kq with
  | zero => exact absurd HA.out (by simp [Qr.j0])
  | succ kj1 =>
   have H := HA.out; clear HA; simp only [Qr.j0] at H; by_cases c6 : 0 < (l0.length : Int)
   ·rw [if_pos c6] at H; have gZ : decide (0 < (l0.length : Int)) = true := decide_eq_true c6; have jV : decide (0 < l0.length) = true := decide_eq_true (by omega); clear c6; have H' := aa.mk H; clear H; have bS : 0 ≤ (0 : Int) := (by omega); have bR : 0 < (l0.length : Int) := of_decide_eq_true (by assumption); obtain ⟨bX, eB, bh⟩ := Kd.Zi HR0.out 0 bS bR; cases eB; have rS : (0 < l0.length) = True := eq_true (by omega); (try rw [show ((0 : Int)).toNat = 0 from rfl] at bh)
    (try rw [Addr.add_zero'] at bh)
    replace bh := (HB.out.cell (World.block_lt_of_cell? w _ bh)).trans bh; replace bS := eq_true bS; replace bR := eq_true bR; go_wp2; go_loopg [3, 4] kj1 (fun kq v3 v4 w' => ∃ (dG : Int) (aX : Int), v3 = .int .i64 dG ∧ v4 = .int .i64 aX ∧ aa (Qr.l0 kq l0 dG aX = some r) ∧ aa (kq ≤ kj1) ∧ aa (Below w.heap.size w w'))
    case atStart => exact ⟨(rd l0 0), (1), (by first | rfl | (simp; done) | (simp [*]; done)), (by first | rfl | (simp; done) | (simp [*]; done)), H', ⟨Nat.le_refl _⟩, ⟨bB⟩⟩
    case round =>
     clear H'; try clear p1
     try clear q1
     try clear hx1
     try clear qi1
     try clear p2
     try clear c3
     try clear cK
     try clear dD
     try clear c4
     try clear cn
     try clear c5
     try clear fl
     try clear c6
     try clear gZ
     try clear jV
     try clear b8
     try clear bh
     try clear p1
     try clear bZ
     try clear bS
     try clear p2
     try clear q1
     try clear bY
     try clear bR
     obtain ⟨dG, aX, rfl, rfl, HA, HK2, HB⟩ := hrel; cases gk with
     | zero => exact absurd HA.out (by simp [Qr.l0])
     | succ k2 =>
      have H := HA.out; clear HA; simp only [Qr.l0] at H; by_cases c7 : aX < (l0.length : Int)
      ·rw [if_pos c7] at H; have jU : decide (aX < (l0.length : Int)) = true := decide_eq_true c7; clear c7; by_cases c8 : 0 ≤ aX
       ·rw [if_pos c8] at H; have eQ : decide (0 ≤ aX) = true := decide_eq_true c8; clear c8; obtain ⟨ji9, lL⟩ : ∃ j_ : Int, (mn dG (rd l0 aX)) = j_ := ⟨_, rfl⟩; replace H : (Qr.l0 k2 l0 ji9 (wrap64 (aX + 1))) = some r := by first | (rw [lL] at H; exact H) | (simp only [lL] at H ⊢; exact H)
        have ve : (if (rd l0 aX) < dG then (rd l0 aX) else dG) = ji9 := lL; have H' := aa.mk H; clear H; have eH : 0 ≤ (aX : Int) := of_decide_eq_true (by assumption); have eG : aX < (l0.length : Int) := of_decide_eq_true (by assumption); obtain ⟨jH, jx, bx⟩ := Kd.Zi HR0.out aX eH eG; obtain rfl : bX = jH := (by injection jx); replace bx := (HB.out.cell (World.block_lt_of_cell? w _ bx)).trans bx; replace eH := eq_true eH; replace eG := eq_true eG; go_wp2; go_roundg k2
        case measure => have := HJ1.out; have := HK2.out; omega
        case rel => exact ⟨(ji9), (wrap64 (aX + 1)), (by first | rfl | (simp; done) | (simp only [← lL] <;> (first | rfl | simp)) | (simp [*]; done)), (by first | rfl | (simp; done) | (simp [*]; done)), H', ⟨by have := HJ1.out; have := HK2.out; omega⟩, ⟨bB⟩⟩
       ·rw [if_neg c8] at H; exact absurd H (by simp)
      ·rw [if_neg c7] at H; have jU : decide (aX < (l0.length : Int)) = false := decide_eq_false c7; clear c7; obtain rfl := Option.some.inj H; go_wp2; go_ret; exact ⟨by first | rfl | (simp [Qo, Qn] <;> rfl) | (simp [*, Qo, Qn] <;> rfl), bB⟩
   ·rw [if_neg c6] at H; exact absurd H (by simp)
def Zc.f (a0 : Int) (a1 : Int) (a2 : Int) : Option (Bool) := if a0 ≥ a1 then (some (decide (a0 ≤ a2))) else (some false)
set_option maxHeartbeats 8000000 in
set_option maxRecDepth 100000 in
theorem Zc.calls (a0 : Int) (a1 : Int) (a2 : Int) (r : Bool) (w : World) (h : Zc.f a0 a1 a2 = some r) :
  Calls Try.prog 75 #[.int .i64 a0, .int .i64 a1, .int .i64 a2] w fun e w' => e = .returned (.bool r) ∧ Drawn0 w w' := by
 have H : (if a0 ≥ a1 then (some (decide (a0 ≤ a2))) else (some false)) = some r := h; clear h; by_cases c4 : a0 ≥ a1
 ·rw [if_pos c4] at H; have cn : decide (a1 ≤ a0) = true := decide_eq_true c4; clear c4; obtain rfl := Option.some.inj H; go_enter Try.func75, Try.ntmps75; go_wp2; go_ret; exact ⟨by first | rfl | (simp; done) | (simp [*]; done), by repeat (first | exact Drawn0.refl _ | apply Drawn0.step)⟩
 ·rw [if_neg c4] at H; have cn : decide (a1 ≤ a0) = false := decide_eq_false c4; clear c4; obtain rfl := Option.some.inj H; go_enter Try.func75, Try.ntmps75; go_wp2; go_ret; exact ⟨by first | rfl | (simp; done) | (simp [*]; done), by repeat (first | exact Drawn0.refl _ | apply Drawn0.step)⟩
mutual
def Qv.j0 : Nat → List Int → Option (Int)
 | 0, _ => none
 | k + 1, x0 => if 0 < (x0.length : Int) then (Qv.l0 k x0 (rd x0 0) 1) else (none)
def Qv.l0 : Nat → List Int → Int → Int → Option (Int)
 | 0, _, _, _ => none
 | k + 1, x0, x3, x4 => if x4 < (x0.length : Int) then (if 0 ≤ x4 then (Qv.l0 k x0 (mx x3 (rd x0 x4)) (wrap64 (x4 + 1))) else (none)) else (some x3)
end
def Qv.f (k : Nat) (l0 : List Int) : Option (Int) := if (l0.length : Int) < 1 then (if 0 ≤ (-1) then (if (-1) < (l0.length : Int) then (Qv.j0 k l0) else (none)) else (none)) else (Qv.j0 k l0)
theorem Qv.Z8 : ∀ k, (∀ y0, LeO (Qv.j0 k y0) (Qv.j0 (k + 1) y0)) ∧ (∀ y0 y1 y2, LeO (Qv.l0 k y0 y1 y2) (Qv.l0 (k + 1) y0 y1 y2))
 | 0 => ⟨fun _ r h => by simp [Qv.j0] at h, fun _ _ _ r h => by simp [Qv.l0] at h⟩
 | k + 1 => by
  obtain ⟨ih0, ih1⟩ := Qv.Z8 k; refine ⟨?_, ?_⟩ <;> intros <;> (first | unfold Qv.j0 | unfold Qv.l0) <;> repeat' first | (with_reducible exact ih0 _) | (with_reducible exact ih1 _ _ _) | (with_reducible exact LeO.refl _) | (with_reducible exact LeO.none _) | (with_reducible refine LeO.ite ?_ ?_) | (with_reducible refine LeO.bind ?_ (fun _ => ?_)) | exact ih0 _ | exact ih1 _ _ _ | exact LeO.none _ | refine LeO.ite ?_ ?_ | refine LeO.bind ?_ (fun _ => ?_)
theorem Qv.mono : ∀ a0 k, LeO (Qv.f k a0) (Qv.f (k + 1) a0) := by
 intro a0 k; obtain ⟨ih0, ih1⟩ := Qv.Z8 k; unfold Qv.f; repeat' first | (with_reducible exact ih0 _) | (with_reducible exact ih1 _ _ _) | (with_reducible exact LeO.refl _) | (with_reducible exact LeO.none _) | (with_reducible refine LeO.ite ?_ ?_) | (with_reducible refine LeO.bind ?_ (fun _ => ?_)) | exact ih0 _ | exact ih1 _ _ _ | exact LeO.none _ | refine LeO.ite ?_ ?_ | refine LeO.bind ?_ (fun _ => ?_)
set_option maxHeartbeats 8000000 in
set_option maxRecDepth 100000 in
theorem Qv.calls (k : Nat) (A0 : Option Addr) (c0 : Nat) (l0 : List Int) (r : Int) (w : World) (hr0 : Kd.C (Kd.int .i64) w A0 l0.length l0) (hc0 : l0.length ≤ c0) (h : Qv.f k l0 = some r) :
  Calls Try.prog 78 #[.slice A0 l0.length c0] w fun e w' => e = .returned (.int .i64 r) ∧ Below w.heap.size w w' := by
 have HR0 := aa.mk hr0; have HC0 := aa.mk hc0; clear hr0 hc0; have HB := aa.mk (Below.refl w.heap.size w); have H : (if (l0.length : Int) < 1 then (if 0 ≤ (-1) then (if (-1) < (l0.length : Int) then (Qv.j0 k l0) else (none)) else (none)) else (Qv.j0 k l0)) = some r := h; clear h; have HC2 := aa.mk H; clear H; go_enter Try.func78, Try.ntmps78; go_upto_if 7 with (fail)
 go_cut [] (fun wc => ∃ (kq : Nat), aa (Qv.j0 kq l0 = some r) ∧ aa (kq ≤ k) ∧ aa (Below w.heap.size w wc))
 case first =>
  have H := HC2.out; clear HC2; by_cases c3 : (l0.length : Int) < 1
  ·rw [if_pos c3] at H; have cK : decide ((l0.length : Int) < 1) = true := decide_eq_true c3; have dD : decide (l0.length < 1) = true := decide_eq_true (by omega); clear c3; (first | rw [cK] | (simp only [Qw, Qx]; rw [cK]) | skip)
   by_cases c4 : 0 ≤ (-1)
   ·rw [if_pos c4] at H; have cn : decide (0 ≤ (-1)) = true := decide_eq_true c4; clear c4; by_cases c5 : (-1) < (l0.length : Int)
    ·rw [if_pos c5] at H; have fl : decide ((-1) < (l0.length : Int)) = true := decide_eq_true c5; clear c5; have H' := aa.mk H; clear H; exact absurd (show (0 : Int) ≤ -1 from of_decide_eq_true (by assumption)) (by decide)
    ·rw [if_neg c5] at H; exact absurd H (by simp)
   ·rw [if_neg c4] at H; exact absurd H (by simp)
  ·rw [if_neg c3] at H; have cK : decide ((l0.length : Int) < 1) = false := decide_eq_false c3; have dD : decide (l0.length < 1) = false := decide_eq_false (by omega); clear c3; (first | rw [cK] | (simp only [Qw, Qx]; rw [cK]) | skip)
   have H' := aa.mk H; clear H; go_wp2; go_meet
   case rel => exact ⟨_, H', ⟨by first | omega | exact Nat.le_refl _⟩, ⟨bB⟩⟩
 case rest =>
  clear HC2; try clear p1
  try clear q1
  try clear hx1
  try clear p2
  try clear c3
  try clear cK
  try clear dD
  try clear c4
  try clear cn
  try clear c5
  try clear fl
  try clear b8
  try clear bZ
  try clear bY
  obtain ⟨kq, HA, HJ1, HB⟩ := hcut; cases kq with
  | zero => exact absurd HA.out (by simp [Qv.j0])
  | succ kj1 =>
   have H := HA.out; clear HA; simp only [Qv.j0] at H; by_cases c6 : 0 < (l0.length : Int)
   ·rw [if_pos c6] at H; have gZ : decide (0 < (l0.length : Int)) = true := decide_eq_true c6; have jV : decide (0 < l0.length) = true := decide_eq_true (by omega); clear c6; have H' := aa.mk H; clear H; have bS : 0 ≤ (0 : Int) := (by omega); have bR : 0 < (l0.length : Int) := of_decide_eq_true (by assumption); obtain ⟨bX, eB, bh⟩ := Kd.Zi HR0.out 0 bS bR; cases eB; have rS : (0 < l0.length) = True := eq_true (by omega); (try rw [show ((0 : Int)).toNat = 0 from rfl] at bh)
    (try rw [Addr.add_zero'] at bh)
    replace bh := (HB.out.cell (World.block_lt_of_cell? w _ bh)).trans bh; replace bS := eq_true bS; replace bR := eq_true bR; go_wp2; go_loopg [3, 4] kj1 (fun kq v3 v4 w' => ∃ (dG : Int) (aX : Int), v3 = .int .i64 dG ∧ v4 = .int .i64 aX ∧ aa (Qv.l0 kq l0 dG aX = some r) ∧ aa (kq ≤ kj1) ∧ aa (Below w.heap.size w w'))
    case atStart => exact ⟨(rd l0 0), (1), (by first | rfl | (simp; done) | (simp [*]; done)), (by first | rfl | (simp; done) | (simp [*]; done)), H', ⟨Nat.le_refl _⟩, ⟨bB⟩⟩
    case round =>
     clear H'; try clear p1
     try clear q1
     try clear hx1
     try clear qi1
     try clear p2
     try clear c3
     try clear cK
     try clear dD
     try clear c4
     try clear cn
     try clear c5
     try clear fl
     try clear c6
     try clear gZ
     try clear jV
     try clear b8
     try clear bh
     try clear p1
     try clear bZ
     try clear bS
     try clear p2
     try clear q1
     try clear bY
     try clear bR
     obtain ⟨dG, aX, rfl, rfl, HA, HK2, HB⟩ := hrel; cases gk with
     | zero => exact absurd HA.out (by simp [Qv.l0])
     | succ k2 =>
      have H := HA.out; clear HA; simp only [Qv.l0] at H; by_cases c7 : aX < (l0.length : Int)
      ·rw [if_pos c7] at H; have jU : decide (aX < (l0.length : Int)) = true := decide_eq_true c7; clear c7; by_cases c8 : 0 ≤ aX
       ·rw [if_pos c8] at H; have eQ : decide (0 ≤ aX) = true := decide_eq_true c8; clear c8; obtain ⟨ji9, lL⟩ : ∃ j_ : Int, (mx dG (rd l0 aX)) = j_ := ⟨_, rfl⟩; replace H : (Qv.l0 k2 l0 ji9 (wrap64 (aX + 1))) = some r := by first | (rw [lL] at H; exact H) | (simp only [lL] at H ⊢; exact H)
        have ve : (if dG < (rd l0 aX) then (rd l0 aX) else dG) = ji9 := lL; have H' := aa.mk H; clear H; have eH : 0 ≤ (aX : Int) := of_decide_eq_true (by assumption); have eG : aX < (l0.length : Int) := of_decide_eq_true (by assumption); obtain ⟨jH, jx, bx⟩ := Kd.Zi HR0.out aX eH eG; obtain rfl : bX = jH := (by injection jx); replace bx := (HB.out.cell (World.block_lt_of_cell? w _ bx)).trans bx; replace eH := eq_true eH; replace eG := eq_true eG; go_wp2; go_roundg k2
        case measure => have := HJ1.out; have := HK2.out; omega
        case rel => exact ⟨(ji9), (wrap64 (aX + 1)), (by first | rfl | (simp; done) | (simp only [← lL] <;> (first | rfl | simp)) | (simp [*]; done)), (by first | rfl | (simp; done) | (simp [*]; done)), H', ⟨by have := HJ1.out; have := HK2.out; omega⟩, ⟨bB⟩⟩
       ·rw [if_neg c8] at H; exact absurd H (by simp)
      ·rw [if_neg c7] at H; have jU : decide (aX < (l0.length : Int)) = false := decide_eq_false c7; clear c7; obtain rfl := Option.some.inj H; go_wp2; go_ret; exact ⟨by first | rfl | (simp [Qo, Qn] <;> rfl) | (simp [*, Qo, Qn] <;> rfl), bB⟩
   ·rw [if_neg c6] at H; exact absurd H (by simp)
def QV.f (ae : List (List Int)) (ag : List (List Int)) : Option (Int) := some (wrap64 ((ae.length : Int) + (ag.length : Int)))
set_option maxHeartbeats 8000000 in
set_option maxRecDepth 100000 in
theorem QV.calls (aq : Option Addr) (an : Nat) (ae : List (List Int)) (ak : Option Addr) (ao : Nat) (ag : List (List Int)) (r : Int) (w : World) (bp : Kd.C (Kd.slice 3 (Kd.int .i64)) w aq ae.length ae) (br : ae.length ≤ an) (bo : Kd.C (Kd.slice 3 (Kd.int .i64)) w ak ag.length ag) (bq : ag.length ≤ ao) (h : QV.f ae ag = some r) :
  Calls Try.prog 71 #[.agg #[.slice aq ae.length an, .slice ak ag.length ao]] w fun e w' => e = .returned (.int .i64 r) ∧ Below w.heap.size w w' := by
 have fa := Try.underlying24; have aI := aa.mk bp; have aQ := aa.mk br; clear bp br; have aW := aa.mk bo; have aT := aa.mk bq; clear bo bq; have HB := aa.mk (Below.refl w.heap.size w); have H : (some (wrap64 ((ae.length : Int) + (ag.length : Int)))) = some r := h; clear h; obtain rfl := Option.some.inj H; go_enter Try.func71, Try.ntmps71; go_wp2_with (first | ((with_reducible refine QD (N := 1) rfl ?_); refine QJ ?hg (N := 1) ?hd (cs := #[.slice aq ae.length an, .slice ak ag.length ao]) (t := 24) ?hr ?_; (case hd => rfl); (case hg => rfl); (case hr => first | (go_simp; done) | (go_simp; rfl)); intro af hg w2 hbox hb; have ab := aa.mk (hbox); have bA := aa.mk ((by rw [hg]; exact (Qe bB) : w.heap.size ≤ af)); have bk := aa.mk ((by rw [hg]; exact (Qe bB) : w.heap.size ≤ af)); replace HB := aa.mk (Qd bB hb); clear hb hbox hg; have CT : w2.cell? ⟨af, 0, none⟩ = some (.slice aq ae.length an) := (Qa ab.out 0).trans rfl; have CS : w2.cell? ⟨af, 1, none⟩ = some (.slice ak ag.length ao) := (Qa ab.out 1).trans rfl; have CN := Qb ab.out 0; have CM := Qb ab.out 1))
 go_ret; exact ⟨by first | rfl | (simp [Qo, Qn] <;> rfl) | (simp [*, Qo, Qn] <;> rfl), bB⟩
def QM.l0 : Nat → List Int → List Int → Int → Int → Option (Bool)
 | 0, _, _, _, _ => none
 | k + 1, x0, x1, x12, x13 => if x13 < x12 then (if 0 ≤ x13 then (if x13 < (x0.length : Int) then (if x13 < (x1.length : Int) then (if (rd x0 x13) = (rd x1 x13) then (QM.l0 k x0 x1 x12 (wrap64 (x13 + 1))) else (some false)) else (none)) else (none)) else (none)) else (some true)
def QM.f (k : Nat) (l0 : List Int) (l1 : List Int) : Option (Bool) := if (l0.length : Int) = (l1.length : Int) then (QM.l0 k l0 l1 (l0.length : Int) 0) else (some false)
theorem QM.Z8 : ∀ k, (∀ y0 y1 y2 y3, LeO (QM.l0 k y0 y1 y2 y3) (QM.l0 (k + 1) y0 y1 y2 y3))
 | 0 => fun _ _ _ _ r h => by simp [QM.l0] at h
 | k + 1 => by
  have ih0 := QM.Z8 k
  ·intro y0 y1 y2 y3; unfold QM.l0; repeat' first | (with_reducible exact ih0 _ _ _ _) | (with_reducible exact LeO.refl _) | (with_reducible exact LeO.none _) | (with_reducible refine LeO.ite ?_ ?_) | (with_reducible refine LeO.bind ?_ (fun _ => ?_)) | exact ih0 _ _ _ _ | exact LeO.none _ | refine LeO.ite ?_ ?_ | refine LeO.bind ?_ (fun _ => ?_)
theorem QM.mono : ∀ a0 a1 k, LeO (QM.f k a0 a1) (QM.f (k + 1) a0 a1) := by
 intro a0 a1 k; have ih0 := QM.Z8 k; unfold QM.f; repeat' first | (with_reducible exact ih0 _ _ _ _) | (with_reducible exact LeO.refl _) | (with_reducible exact LeO.none _) | (with_reducible refine LeO.ite ?_ ?_) | (with_reducible refine LeO.bind ?_ (fun _ => ?_)) | exact ih0 _ _ _ _ | exact LeO.none _ | refine LeO.ite ?_ ?_ | refine LeO.bind ?_ (fun _ => ?_)
set_option maxHeartbeats 8000000 in
set_option maxRecDepth 100000 in
theorem QM.calls (k : Nat) (A0 : Option Addr) (c0 : Nat) (l0 : List Int) (A1 : Option Addr) (c1 : Nat) (l1 : List Int) (r : Bool) (w : World) (hr0 : Kd.C (Kd.int .i64) w A0 l0.length l0) (hc0 : l0.length ≤ c0) (hr1 : Kd.C (Kd.int .i64) w A1 l1.length l1) (hc1 : l1.length ≤ c1) (h : QM.f k l0 l1 = some r) :
  Calls Try.prog 122 #[.slice A0 l0.length c0, .slice A1 l1.length c1] w fun e w' => e = .returned (.bool r) ∧ Drawn0 w w' := by
 have HR0 := aa.mk hr0; have HC0 := aa.mk hc0; clear hr0 hc0; have HR1 := aa.mk hr1; have HC1 := aa.mk hc1; clear hr1 hc1; have H : (if (l0.length : Int) = (l1.length : Int) then (QM.l0 k l0 l1 (l0.length : Int) 0) else (some false)) = some r := h; clear h; by_cases c3 : (l0.length : Int) = (l1.length : Int)
 ·rw [if_pos c3] at H; have cK : ((l0.length : Int) == (l1.length : Int)) = true := beq_iff_eq.mpr c3; have dD : ((l0.length : Int) != (l1.length : Int)) = false := bne_eq_false_iff_eq.mpr c3; have jg : (l0.length == l1.length) = true := by first | simpa using c3 | (simp at c3 ⊢; omega)
  clear c3; have H' := aa.mk H; clear H; go_enter Try.func122, Try.ntmps122; go_wp2; repeat (go_quiet (fail); try go_wp2)
  go_loopg [13] k (fun kq v13 w' => ∃ (cu : Int), v13 = .int .i64 cu ∧ aa (QM.l0 kq l0 l1 (l0.length : Int) cu = some r) ∧ aa (kq ≤ k) ∧ Drawn0 w w')
  case atStart => exact ⟨(0), (by first | rfl | (simp; done) | (simp [*]; done)), H', ⟨Nat.le_refl _⟩, by repeat (first | exact Drawn0.refl _ | apply Drawn0.step)⟩
  case round =>
   clear H'; try clear c1
   try clear p2
   try clear c3
   try clear cK
   try clear dD
   try clear jg
   obtain ⟨cu, rfl, HA, HK1, ⟨m1, rfl⟩⟩ := hrel; cases gk with
   | zero => exact absurd HA.out (by simp [QM.l0])
   | succ k1 =>
    have H := HA.out; clear HA; simp only [QM.l0] at H; by_cases c4 : cu < (l0.length : Int)
    ·rw [if_pos c4] at H; have cn : decide (cu < (l0.length : Int)) = true := decide_eq_true c4; clear c4; by_cases c5 : 0 ≤ cu
     ·rw [if_pos c5] at H; have fl : decide (0 ≤ cu) = true := decide_eq_true c5; clear c5; by_cases c6 : cu < (l0.length : Int)
      ·rw [if_pos c6] at H; have gZ : decide (cu < (l0.length : Int)) = true := decide_eq_true c6; clear c6; by_cases c7 : cu < (l1.length : Int)
       ·rw [if_pos c7] at H; have jU : decide (cu < (l1.length : Int)) = true := decide_eq_true c7; clear c7; by_cases c8 : (rd l0 cu) = (rd l1 cu)
        ·rw [if_pos c8] at H; have eQ : ((rd l0 cu) == (rd l1 cu)) = true := beq_iff_eq.mpr c8; have jT : ((rd l0 cu) != (rd l1 cu)) = false := bne_eq_false_iff_eq.mpr c8; clear c8; have H' := aa.mk H; clear H; have bZ : 0 ≤ (cu : Int) := of_decide_eq_true (by assumption); have bY : cu < (l0.length : Int) := of_decide_eq_true (by assumption); obtain ⟨gf, eK, b8⟩ := Kd.Zi HR0.out cu bZ bY; cases eK; replace bZ := eq_true bZ; replace bY := eq_true bY; have bS : 0 ≤ (cu : Int) := of_decide_eq_true (by assumption); have bR : cu < (l1.length : Int) := of_decide_eq_true (by assumption); obtain ⟨bX, eB, bh⟩ := Kd.Zi HR1.out cu bS bR; cases eB; replace bS := eq_true bS; replace bR := eq_true bR; go_wp2; repeat (go_quiet (fail); try go_wp2)
         go_roundg k1
         case measure => have := HK1.out; omega
         case rel => exact ⟨(wrap64 (cu + 1)), (by first | rfl | (simp; done) | (simp [*]; done)), H', ⟨by have := HK1.out; omega⟩, by repeat (first | exact Drawn0.refl _ | apply Drawn0.step)⟩
        ·rw [if_neg c8] at H; have eQ : ((rd l0 cu) == (rd l1 cu)) = false := beq_eq_false_iff_ne.mpr c8; have jT : ((rd l0 cu) != (rd l1 cu)) = true := bne_iff_ne.mpr c8; obtain rfl := Option.some.inj H; have bZ : 0 ≤ (cu : Int) := of_decide_eq_true (by assumption); have bY : cu < (l0.length : Int) := of_decide_eq_true (by assumption); obtain ⟨gf, eK, b8⟩ := Kd.Zi HR0.out cu bZ bY; cases eK; replace bZ := eq_true bZ; replace bY := eq_true bY; have bS : 0 ≤ (cu : Int) := of_decide_eq_true (by assumption); have bR : cu < (l1.length : Int) := of_decide_eq_true (by assumption); obtain ⟨bX, eB, bh⟩ := Kd.Zi HR1.out cu bS bR; cases eB; replace bS := eq_true bS; replace bR := eq_true bR; go_wp2; repeat (go_quiet (fail); try go_wp2)
         go_ret; exact ⟨by first | rfl | (simp; done) | (simp [*]; done), by repeat (first | exact Drawn0.refl _ | apply Drawn0.step)⟩
       ·rw [if_neg c7] at H; exact absurd H (by simp)
      ·rw [if_neg c6] at H; exact absurd H (by simp)
     ·rw [if_neg c5] at H; exact absurd H (by simp)
    ·rw [if_neg c4] at H; have cn : decide (cu < (l0.length : Int)) = false := decide_eq_false c4; clear c4; obtain rfl := Option.some.inj H; go_wp2; repeat (go_quiet (fail); try go_wp2)
     go_ret; exact ⟨by first | rfl | (simp; done) | (simp [*]; done), by repeat (first | exact Drawn0.refl _ | apply Drawn0.step)⟩
 ·rw [if_neg c3] at H; have cK : ((l0.length : Int) == (l1.length : Int)) = false := beq_eq_false_iff_ne.mpr c3; have dD : ((l0.length : Int) != (l1.length : Int)) = true := bne_iff_ne.mpr c3; have jg : (l0.length == l1.length) = false := by first | simpa using c3 | (simp at c3 ⊢; omega)
  obtain rfl := Option.some.inj H; go_enter Try.func122, Try.ntmps122; go_wp2; repeat (go_quiet (fail); try go_wp2)
  go_ret; exact ⟨by first | rfl | (simp; done) | (simp [*]; done), by repeat (first | exact Drawn0.refl _ | apply Drawn0.step)⟩
def Zr.l0 : Nat → Int → Int → Option (Int)
 | 0, _, _ => none
 | k + 1, x0, x1 => if x1 = 0 then (some (mx x0 (wrap64 (-x0)))) else (Zr.l0 k x1 (Int.tmod x0 x1))
def Zr.f (k : Nat) (a0 : Int) (a1 : Int) : Option (Int) := Zr.l0 k a0 a1
set_option maxHeartbeats 8000000 in
set_option maxRecDepth 100000 in
theorem Zr.calls (k : Nat) (a0 : Int) (a1 : Int) (r : Int) (w : World) (h : Zr.f k a0 a1 = some r) :
  Calls Try.prog 117 #[.int .i64 a0, .int .i64 a1] w fun e w' => e = .returned (.int .i64 r) ∧ Below w.heap.size w w' := by
 have HB := aa.mk (Below.refl w.heap.size w); have H : (Zr.l0 k a0 a1) = some r := h; clear h; have H' := aa.mk H; clear H; go_enter Try.func117, Try.ntmps117; go_wp2; repeat (go_quiet (fail); try go_wp2)
 go_loopg [0, 1] k (fun kq v0 v1 w' => ∃ (k8 : Int) (k7 : Int), v0 = .int .i64 k8 ∧ v1 = .int .i64 k7 ∧ aa (Zr.l0 kq k8 k7 = some r) ∧ aa (kq ≤ k) ∧ aa (Below w.heap.size w w'))
 case atStart => exact ⟨(a0), (a1), (by first | rfl | (simp; done) | (simp [*]; done)), (by first | rfl | (simp; done) | (simp [*]; done)), H', ⟨Nat.le_refl _⟩, ⟨bB⟩⟩
 case round =>
  clear H'; try clear c1
  try clear p2
  obtain ⟨k8, k7, rfl, rfl, HA, HK1, HB⟩ := hrel; cases gk with
  | zero => exact absurd HA.out (by simp [Zr.l0])
  | succ k1 =>
   have H := HA.out; clear HA; simp only [Zr.l0] at H; by_cases c3 : k7 = 0
   ·rw [if_pos c3] at H; have cK : (k7 == 0) = true := beq_iff_eq.mpr c3; have dD : (k7 != 0) = false := bne_eq_false_iff_eq.mpr c3; clear c3; obtain ⟨ji4, qv⟩ : ∃ j_ : Int, (mx k8 (wrap64 (-k8))) = j_ := ⟨_, rfl⟩; replace H : (some ji4) = some r := by first | (rw [qv] at H; exact H) | (simp only [qv] at H ⊢; exact H)
    have EJ : (if k8 < (wrap64 (-k8)) then (wrap64 (-k8)) else k8) = ji4 := qv; obtain rfl := Option.some.inj H; go_wp2; repeat (go_quiet (fail); try go_wp2)
    go_ret; exact ⟨by first | rfl | (simp [Qo, Qn] <;> rfl) | (simp only [← qv]; first | rfl | (simp [Qo, Qn] <;> rfl)) | (simp [*, Qo, Qn] <;> rfl), bB⟩
   ·rw [if_neg c3] at H; have cK : (k7 == 0) = false := beq_eq_false_iff_ne.mpr c3; have dD : (k7 != 0) = true := bne_iff_ne.mpr c3; have H' := aa.mk H; clear H; go_wp2; repeat (go_quiet (fail); try go_wp2)
    go_roundg k1
    case measure => have := HK1.out; omega
    case rel => exact ⟨(k7), (Int.tmod k8 k7), (by first | rfl | (simp; done) | (simp [*]; done)), (by first | rfl | (simp; done) | (simp [*]; done)), H', ⟨by have := HK1.out; omega⟩, ⟨bB⟩⟩
def Q5.l0 : Nat → List Int → Int → Int → Int → Option (Int)
 | 0, _, _, _, _ => none
 | k + 1, x0, x1, x7, x8 => if x8 < x7 then (if 0 ≤ x8 then (if x8 < (x0.length : Int) then (if x1 = (rd x0 x8) then (some x8) else (Q5.l0 k x0 x1 x7 (wrap64 (x8 + 1)))) else (none)) else (none)) else (some (-1))
def Q5.f (k : Nat) (l0 : List Int) (a1 : Int) : Option (Int) := Q5.l0 k l0 a1 (l0.length : Int) 0
set_option maxHeartbeats 8000000 in
set_option maxRecDepth 100000 in
theorem Q5.calls (k : Nat) (A0 : Option Addr) (c0 : Nat) (l0 : List Int) (a1 : Int) (r : Int) (w : World) (hr0 : Kd.C (Kd.int .i64) w A0 l0.length l0) (hc0 : l0.length ≤ c0) (h : Q5.f k l0 a1 = some r) :
  Calls Try.prog 130 #[.slice A0 l0.length c0, .int .i64 a1] w fun e w' => e = .returned (.int .i64 r) ∧ Drawn0 w w' := by
 have HR0 := aa.mk hr0; have HC0 := aa.mk hc0; clear hr0 hc0; have H : (Q5.l0 k l0 a1 (l0.length : Int) 0) = some r := h; clear h; have H' := aa.mk H; clear H; go_enter Try.func130, Try.ntmps130; go_wp2; go_loopg [8] k (fun kq v8 w' => ∃ (dc : Int), v8 = .int .i64 dc ∧ aa (Q5.l0 kq l0 a1 (l0.length : Int) dc = some r) ∧ aa (kq ≤ k) ∧ Drawn0 w w')
 case atStart => exact ⟨(0), (by first | rfl | (simp; done) | (simp [*]; done)), H', ⟨Nat.le_refl _⟩, by repeat (first | exact Drawn0.refl _ | apply Drawn0.step)⟩
 case round =>
  clear H'; try clear c1
  try clear p2
  obtain ⟨dc, rfl, HA, HK1, ⟨m1, rfl⟩⟩ := hrel; cases gk with
  | zero => exact absurd HA.out (by simp [Q5.l0])
  | succ k1 =>
   have H := HA.out; clear HA; simp only [Q5.l0] at H; by_cases c3 : dc < (l0.length : Int)
   ·rw [if_pos c3] at H; have cK : decide (dc < (l0.length : Int)) = true := decide_eq_true c3; clear c3; by_cases c4 : 0 ≤ dc
    ·rw [if_pos c4] at H; have cn : decide (0 ≤ dc) = true := decide_eq_true c4; clear c4; by_cases c5 : dc < (l0.length : Int)
     ·rw [if_pos c5] at H; have fl : decide (dc < (l0.length : Int)) = true := decide_eq_true c5; clear c5; by_cases c6 : a1 = (rd l0 dc)
      ·rw [if_pos c6] at H; have gZ : (a1 == (rd l0 dc)) = true := beq_iff_eq.mpr c6; have jV : (a1 != (rd l0 dc)) = false := bne_eq_false_iff_eq.mpr c6; clear c6; obtain rfl := Option.some.inj H; have bZ : 0 ≤ (dc : Int) := of_decide_eq_true (by assumption); have bY : dc < (l0.length : Int) := of_decide_eq_true (by assumption); obtain ⟨gf, eK, b8⟩ := Kd.Zi HR0.out dc bZ bY; cases eK; replace bZ := eq_true bZ; replace bY := eq_true bY; go_wp2; go_ret; exact ⟨by first | rfl | (simp; done) | (simp [*]; done), by repeat (first | exact Drawn0.refl _ | apply Drawn0.step)⟩
      ·rw [if_neg c6] at H; have gZ : (a1 == (rd l0 dc)) = false := beq_eq_false_iff_ne.mpr c6; have jV : (a1 != (rd l0 dc)) = true := bne_iff_ne.mpr c6; have H' := aa.mk H; clear H; have bZ : 0 ≤ (dc : Int) := of_decide_eq_true (by assumption); have bY : dc < (l0.length : Int) := of_decide_eq_true (by assumption); obtain ⟨gf, eK, b8⟩ := Kd.Zi HR0.out dc bZ bY; cases eK; replace bZ := eq_true bZ; replace bY := eq_true bY; go_wp2; go_roundg k1
       case measure => have := HK1.out; omega
       case rel => exact ⟨(wrap64 (dc + 1)), (by first | rfl | (simp; done) | (simp [*]; done)), H', ⟨by have := HK1.out; omega⟩, by repeat (first | exact Drawn0.refl _ | apply Drawn0.step)⟩
     ·rw [if_neg c5] at H; exact absurd H (by simp)
    ·rw [if_neg c4] at H; exact absurd H (by simp)
   ·rw [if_neg c3] at H; have cK : decide (dc < (l0.length : Int)) = false := decide_eq_false c3; clear c3; obtain rfl := Option.some.inj H; go_wp2; go_ret; exact ⟨by first | rfl | (simp; done) | (simp [*]; done), by repeat (first | exact Drawn0.refl _ | apply Drawn0.step)⟩
def ZU.f (k : Nat) (l0 : List Int) (a1 : Int) : Option (Bool) := (Q5.f k l0 a1).bind fun t101 => (some (decide (t101 ≥ 0)))
set_option maxHeartbeats 8000000 in
set_option maxRecDepth 100000 in
theorem ZU.calls (k : Nat) (A0 : Option Addr) (c0 : Nat) (l0 : List Int) (a1 : Int) (r : Bool) (w : World) (hr0 : Kd.C (Kd.int .i64) w A0 l0.length l0) (hc0 : l0.length ≤ c0) (h : ZU.f k l0 a1 = some r) :
  Calls Try.prog 116 #[.slice A0 l0.length c0, .int .i64 a1] w fun e w' => e = .returned (.bool r) ∧ Drawn0 w w' := by
 have HR0 := aa.mk hr0; have HC0 := aa.mk hc0; clear hr0 hc0; have H : ((Q5.f k l0 a1).bind fun t101 => (some (decide (t101 ≥ 0)))) = some r := h; clear h; replace H := Option.bind_eq_some_iff.mp H; obtain ⟨t101, A30, H⟩ := H; replace H : (some (decide (t101 ≥ 0))) = some r := H; have A3 := aa.mk A30; clear A30; obtain rfl := Option.some.inj H; go_enter Try.func116, Try.ntmps116; go_wp2_with (first | ((with_reducible refine Qk (f := 130) rfl ?_); refine QE (some 7) rfl rfl Try.func130 (by kernel_rfl) rfl #[.slice A0 l0.length c0, .int .i64 a1] rfl hA ?_; (with_reducible refine (Q5.calls k _ _ l0 a1 t101 _ ?aj ?ai A3.out).mono ?_); (case aj => exact HR0.out); (case ai => exact HC0.out); rintro e w' ⟨rfl, ⟨nd, rfl⟩⟩; refine ⟨_, rfl, ?_⟩))
 go_ret; exact ⟨by first | rfl | (simp; done) | (simp [*]; done), by repeat (first | exact Drawn0.refl _ | apply Drawn0.step)⟩
def QO.f (a0 : Int) (a1 : Int) (a2 : Int) : Option (Bool) := if a0 ≥ a1 then (some (decide (a0 ≤ a2))) else (some false)
set_option maxHeartbeats 8000000 in
set_option maxRecDepth 100000 in
theorem QO.calls (a0 : Int) (a1 : Int) (a2 : Int) (r : Bool) (w : World) (h : QO.f a0 a1 a2 = some r) :
  Calls Try.prog 99 #[.int .i64 a0, .int .i64 a1, .int .i64 a2] w fun e w' => e = .returned (.bool r) ∧ Drawn0 w w' := by
 have H : (if a0 ≥ a1 then (some (decide (a0 ≤ a2))) else (some false)) = some r := h; clear h; by_cases c4 : a0 ≥ a1
 ·rw [if_pos c4] at H; have cn : decide (a1 ≤ a0) = true := decide_eq_true c4; clear c4; obtain rfl := Option.some.inj H; go_enter Try.func99, Try.ntmps99; go_wp2; go_ret; exact ⟨by first | rfl | (simp; done) | (simp [*]; done), by repeat (first | exact Drawn0.refl _ | apply Drawn0.step)⟩
 ·rw [if_neg c4] at H; have cn : decide (a1 ≤ a0) = false := decide_eq_false c4; clear c4; obtain rfl := Option.some.inj H; go_enter Try.func99, Try.ntmps99; go_wp2; go_ret; exact ⟨by first | rfl | (simp; done) | (simp [*]; done), by repeat (first | exact Drawn0.refl _ | apply Drawn0.step)⟩
mutual
def Qi.j0 : Nat → Bool → List (List Int) → List (List Int) → Option (Int)
 | 0, _, _, _ => none
 | k + 1, x27, aE, aG => if x27 = true then (some 1) else ((some (([] : List (List Int)) : List (List Int))).bind fun kp => (if kp.length + aE.length < 5864062014805 then ((some (kp ++ aE : List (List Int))).bind fun iH => (if iH.length + aG.length < 5864062014805 then (Qi.l0 k (iH ++ aG) 0 aE aG) else (none))) else (none)))
def Qi.l0 : Nat → List (List Int) → Int → List (List Int) → List (List Int) → Option (Int)
 | 0, _, _, _, _ => none
 | k + 1, x3, x4, aE, aG => if x4 < (x3.length : Int) then (if 0 ≤ x4 then (if 0 < (aE.length : Int) then (if ((Qt x3 x4).length : Int) = ((Qt aE 0).length : Int) then (Qi.l1 k x3 x4 0 0 aE aG) else (some 1)) else (none)) else (none)) else (some 0)
def Qi.l1 : Nat → List (List Int) → Int → Int → Int → List (List Int) → List (List Int) → Option (Int)
 | 0, _, _, _, _, _, _ => none
 | k + 1, x3, x4, x5, x6, aE, aG => if 0 ≤ x4 then (if x4 < (x3.length : Int) then (if x6 < ((Qt x3 x4).length : Int) then (if 0 ≤ x6 then ((QO.f (rd (Qt x3 x4) x6) 0 9).bind fun t120 => (if t120 = true then (Qi.l1 k x3 x4 (wrap64 (x5 + (rd (Qt x3 x4) x6))) (wrap64 (x6 + 1)) aE aG) else (some 1))) else (none)) else (if x5 = 0 then (some 1) else (Qi.l0 k x3 (wrap64 (x4 + 1)) aE aG))) else (none)) else (none)
end
def Qi.f (k : Nat) (ae : List (List Int)) (ag : List (List Int)) : Option (Int) := (QO.f (ae.length : Int) 1 3).bind fun t102 => (if t102 = true then ((QO.f (ag.length : Int) 1 3).bind fun t103 => (if t103 = true then (if 0 < (ae.length : Int) then ((QO.f ((Qt ae 0).length : Int) 1 4).bind fun t105 => (Qi.j0 k (!t105) ae ag)) else (none)) else (Qi.j0 k true ae ag))) else (Qi.j0 k true ae ag))
def Qi.T3 : Bool × List (List Nat × List Nat) := (true, [([], []), ([], []), ([1], [1]), ([0, 2], [0, 2]), ([], []), ([4], [4]), ([3, 5, 3], [3, 5]), ([6, 6, 0, 1, 2, 3, 4, 5, 6], [6])])
def Qi.B3 : List Nat := [0, 0, 2, 7, 0, 16, 63, 127]
theorem Qi.tab3 : rtab .any (opsOf Try.f55 3) = Qi.T3 := by kernel_rfl
theorem Qi.bits3 : waitsOk Qi.T3.2 Qi.B3 = true := by kernel_rfl
def Qi.T7 : Bool × List (List Nat × List Nat) := (true, [([], []), ([], []), ([0, 1], [0, 1]), ([2], [2]), ([3], [3]), ([], []), ([5], [5]), ([6], [6]), ([7], [7]), ([8], [8]), ([4, 9], [4, 9])])
def Qi.B7 : List Nat := [0, 0, 3, 7, 15, 0, 32, 96, 224, 480, 1023]
theorem Qi.tab7 : rtab .any (opsOf Try.f55 7) = Qi.T7 := by kernel_rfl
theorem Qi.bits7 : waitsOk Qi.T7.2 Qi.B7 = true := by kernel_rfl
set_option maxHeartbeats 8000000 in
set_option maxRecDepth 100000 in
theorem Qi.calls (k : Nat) (dC : Nat → Prop) (aq : Option Addr) (an : Nat) (ae : List (List Int)) (dB : Nat → Prop) (ak : Option Addr) (ao : Nat) (ag : List (List Int)) (r : Int) (w : World) (uw : Kd.V (Kd.slice 3 (Kd.int .i64)) 28 w w.heap.size (fun k_ => dC k_) (.slice aq ae.length an) ae) (uv : Kd.V (Kd.slice 3 (Kd.int .i64)) 28 w w.heap.size (fun k_ => dB k_) (.slice ak ag.length ao) ag) (h : Qi.f k ae ag = some r) :
  Calls Try.prog 55 #[.agg #[.slice aq ae.length an, .slice ak ag.length ao]] w fun e w' => e = .returned (.int .i64 r) ∧ Below w.heap.size w w' := by
 have fa := Try.underlying24; have jM := aa.mk (show Kd.V (Kd.slice 3 (Kd.int .i64)) 28 w w.heap.size (fun k_ => ((dC k_ ∨ dB k_) ∨ w.heap.size ≤ k_)) (.slice aq ae.length an) ae from Kd.VQ uw (fun k_ hk => .inl (.inl hk))); have mV := aa.mk (show Kd.V (Kd.slice 3 (Kd.int .i64)) 28 w w.heap.size (fun k_ => ((dC k_ ∨ dB k_) ∨ w.heap.size ≤ k_)) (.slice ak ag.length ao) ag from Kd.VQ uv (fun k_ hk => .inl (.inr hk))); have HB := aa.mk (Below.refl w.heap.size w); have H : ((QO.f (ae.length : Int) 1 3).bind fun t102 => (if t102 = true then ((QO.f (ag.length : Int) 1 3).bind fun t103 => (if t103 = true then (if 0 < (ae.length : Int) then ((QO.f ((Qt ae 0).length : Int) 1 4).bind fun t105 => (Qi.j0 k (!t105) ae ag)) else (none)) else (Qi.j0 k true ae ag))) else (Qi.j0 k true ae ag))) = some r := h; clear h; have HC2 := aa.mk H; clear H; go_enter Try.func55, Try.ntmps55; go_upto_region 1 with (first | ((with_reducible refine QD (N := 1) rfl ?_); (try (refine Q8 (by rfl) ?_; dsimp only)); refine QJ ?hg (N := 1) ?hd (cs := #[.slice aq ae.length an, .slice ak ag.length ao]) (t := 24) ?hr ?_; (case hd => rfl); (case hg => rfl); (case hr => first | (go_simp; done) | (go_simp; rfl)); intro af hg w3 hbox hb; replace jM := aa.mk (Kd.Y5 (Kd.V_elderB jM.out af (Nat.le_of_eq hg.symm)) hb); replace mV := aa.mk (Kd.Y5 (Kd.V_elderB mV.out af (Nat.le_of_eq hg.symm)) hb); have ab := aa.mk (hbox); have bA := aa.mk ((by rw [hg]; exact (Qe bB) : w.heap.size ≤ af)); have bk := aa.mk ((by rw [hg]; exact (Qe bB) : w.heap.size ≤ af)); replace HB := aa.mk (Qd bB hb); clear hb hbox hg))
 (try simp only [Act.put, zA, zB, zC])
 go_cut [27] (fun v27 wc => ∃ (kq : Nat) (nD : Bool), v27 = .bool nD ∧ aa (Qi.j0 kq nD ae ag = some r) ∧ aa (kq ≤ k) ∧ aa (Kd.V (Kd.slice 3 (Kd.int .i64)) 28 wc w.heap.size (fun k_ => ((dC k_ ∨ dB k_) ∨ w.heap.size ≤ k_) ∧ k_ ≠ af) (.slice aq ae.length an) ae) ∧ aa (Kd.V (Kd.slice 3 (Kd.int .i64)) 28 wc w.heap.size (fun k_ => ((dC k_ ∨ dB k_) ∨ w.heap.size ≤ k_) ∧ k_ ≠ af) (.slice ak ag.length ao) ag) ∧ aa (wc.heap[af]? = some (.cells #[(.slice aq ae.length an), (.slice ak ag.length ao)] 24 (0, 0))) ∧ aa (Below w.heap.size w wc))
 case first =>
  have H := HC2.out; clear HC2; replace H := Option.bind_eq_some_iff.mp H; obtain ⟨t102, A40, H⟩ := H; replace H : (if t102 = true then ((QO.f (ag.length : Int) 1 3).bind fun t103 => (if t103 = true then (if 0 < (ae.length : Int) then ((QO.f ((Qt ae 0).length : Int) 1 4).bind fun t105 => (Qi.j0 k (!t105) ae ag)) else (none)) else (Qi.j0 k true ae ag))) else (Qi.j0 k true ae ag)) = some r := H; have A4 := aa.mk A40; clear A40; by_cases c5 : t102 = true
  ·subst c5; have H1 : ((QO.f (ag.length : Int) 1 3).bind fun t103 => (if t103 = true then (if 0 < (ae.length : Int) then ((QO.f ((Qt ae 0).length : Int) 1 4).bind fun t105 => (Qi.j0 k (!t105) ae ag)) else (none)) else (Qi.j0 k true ae ag))) = some r := by rw [if_pos rfl] at H; exact H
   clear H; have H := H1; clear H1; replace H := Option.bind_eq_some_iff.mp H; obtain ⟨t103, A60, H⟩ := H; replace H : (if t103 = true then (if 0 < (ae.length : Int) then ((QO.f ((Qt ae 0).length : Int) 1 4).bind fun t105 => (Qi.j0 k (!t105) ae ag)) else (none)) else (Qi.j0 k true ae ag)) = some r := H; have A6 := aa.mk A60; clear A60; by_cases c7 : t103 = true
   ·subst c7; have H1 : (if 0 < (ae.length : Int) then ((QO.f ((Qt ae 0).length : Int) 1 4).bind fun t105 => (Qi.j0 k (!t105) ae ag)) else (none)) = some r := by rw [if_pos rfl] at H; exact H
    clear H; have H := H1; clear H1; by_cases c8 : 0 < (ae.length : Int)
    ·rw [if_pos c8] at H; have eQ : decide (0 < (ae.length : Int)) = true := decide_eq_true c8; have jT : decide (0 < ae.length) = true := decide_eq_true (by omega); clear c8; (first | rw [eQ] | (simp only [Qw, Qx]; rw [eQ]) | skip)
     replace H := Option.bind_eq_some_iff.mp H; obtain ⟨t105, A90, H⟩ := H; replace H : (Qi.j0 k (!t105) ae ag) = some r := H; have A9 := aa.mk A90; clear A90; have H' := aa.mk H; clear H; have fP : w3.cell? ⟨af, 0, none⟩ = some (.slice aq ae.length an) := (Qa ab.out 0).trans rfl; have fO : w3.cell? ⟨af, 1, none⟩ = some (.slice ak ag.length ao) := (Qa ab.out 1).trans rfl; have fJ := Qb ab.out 0; have fI := Qb ab.out 1; go_wp2_with (first | ((with_reducible refine Qk (f := 99) rfl ?_); refine QE (some 10) rfl rfl Try.func99 (by kernel_rfl) rfl #[.int .i64 (ae.length : Int), .int .i64 1, .int .i64 3] rfl hA ?_; (with_reducible refine (QO.calls (ae.length : Int) 1 3 true _ A4.out).mono ?_); rintro e w' ⟨rfl, ⟨nd, rfl⟩⟩; refine ⟨_, rfl, ?_⟩) | (go_at_call 99; (with_reducible refine (QO.calls (ag.length : Int) 1 3 true _ A6.out).mono ?_); rintro e w' ⟨rfl, ⟨nd, rfl⟩⟩; have fq : 0 ≤ (0 : Int) := (by omega); have fp : 0 < (ae.length : Int) := of_decide_eq_true (by assumption); obtain ⟨pK, p4, pI, nn, b0, fA, fD⟩ := ZH (Kd.YX jM.out).2.2 0 fq fp; cases nn; obtain ⟨EM, tm, tq, pg⟩ := Kd.V_get jM.out [] 0 fq (by first | exact fp | exact of_decide_eq_true (by assumption) | (have e_ := (Kd.YX jM.out).1; omega)); obtain ⟨yB, yy, rfl, lC, lS⟩ := Kd.Zu tq; have jZ := pg 0 _ rfl; rw [Nat.add_zero, show ((Kd.slice 3 (Kd.int .i64))).sz = 1 from rfl, Nat.mul_one] at jZ; replace jZ := Option.some.inj (jZ.symm.trans b0); injection jZ with hva_ hvn_ hvc_; rw [hva_] at lS; rw [hvc_] at lC; have AZ := aa.mk (show Kd.V (Kd.int .i64) 3 _ w.heap.size _ _ (Qt ae 0) from Kd.V_mk lC lS); clear hva_ hvn_ hvc_ lS lC; clear pg tm; have ui : (0 < ae.length) = True := eq_true (by omega); (try rw [show ((0 : Int)).toNat = 0 from rfl] at b0); (try rw [Addr.add_zero'] at b0); have l5 := aa.mk fD; have oM := aa.mk fA; clear fD fA; replace fq := eq_true fq; replace fp := eq_true fp) | (go_at_call 99; (with_reducible refine (QO.calls ((Qt ae 0).length : Int) 1 4 t105 _ A9.out).mono ?_); rintro e w' ⟨rfl, ⟨nd, rfl⟩⟩))
     go_meet
     case rel => exact ⟨_, (!t105), (by first | rfl | (simp; done) | (simp [*]; done)), H', ⟨by first | omega | exact Nat.le_refl _⟩, ⟨by (with_reducible repeat (first | apply Kd.V_alloc | apply Kd.Yn | apply Kd.Yl)); exact jM.out⟩, ⟨by (with_reducible repeat (first | apply Kd.V_alloc | apply Kd.Yn | apply Kd.Yl)); exact mV.out⟩, ⟨by (with_reducible repeat (first | refine Qg ?_ _ | refine Qh ?_ | refine Qf ?_ _)); exact ab.out⟩, ⟨bB⟩⟩
    ·rw [if_neg c8] at H; exact absurd H (by simp)
   ·replace c7 := Bool.eq_false_iff.mpr c7; subst c7; have H1 : (Qi.j0 k true ae ag) = some r := by rw [if_neg (show ¬ (false = true) by decide)] at H; exact H
    clear H; have H := H1; clear H1; have H' := aa.mk H; clear H; have dN : w3.cell? ⟨af, 0, none⟩ = some (.slice aq ae.length an) := (Qa ab.out 0).trans rfl; have dM : w3.cell? ⟨af, 1, none⟩ = some (.slice ak ag.length ao) := (Qa ab.out 1).trans rfl; have dL := Qb ab.out 0; have dK := Qb ab.out 1; go_wp2_with (first | ((with_reducible refine Qk (f := 99) rfl ?_); refine QE (some 10) rfl rfl Try.func99 (by kernel_rfl) rfl #[.int .i64 (ae.length : Int), .int .i64 1, .int .i64 3] rfl hA ?_; (with_reducible refine (QO.calls (ae.length : Int) 1 3 true _ A4.out).mono ?_); rintro e w' ⟨rfl, ⟨nd, rfl⟩⟩; refine ⟨_, rfl, ?_⟩) | (go_at_call 99; (with_reducible refine (QO.calls (ag.length : Int) 1 3 false _ A6.out).mono ?_); rintro e w' ⟨rfl, ⟨nd, rfl⟩⟩))
    go_meet
    case rel => exact ⟨_, (true), (by first | rfl | (simp; done) | (simp [*]; done)), H', ⟨by first | omega | exact Nat.le_refl _⟩, ⟨by (with_reducible repeat (first | apply Kd.V_alloc | apply Kd.Yn | apply Kd.Yl)); exact jM.out⟩, ⟨by (with_reducible repeat (first | apply Kd.V_alloc | apply Kd.Yn | apply Kd.Yl)); exact mV.out⟩, ⟨by (with_reducible repeat (first | refine Qg ?_ _ | refine Qh ?_ | refine Qf ?_ _)); exact ab.out⟩, ⟨bB⟩⟩
  ·replace c5 := Bool.eq_false_iff.mpr c5; subst c5; have H1 : (Qi.j0 k true ae ag) = some r := by rw [if_neg (show ¬ (false = true) by decide)] at H; exact H
   clear H; have H := H1; clear H1; have H' := aa.mk H; clear H; have fN : w3.cell? ⟨af, 0, none⟩ = some (.slice aq ae.length an) := (Qa ab.out 0).trans rfl; have fM : w3.cell? ⟨af, 1, none⟩ = some (.slice ak ag.length ao) := (Qa ab.out 1).trans rfl; have fH := Qb ab.out 0; have fG := Qb ab.out 1; go_wp2_with (first | ((with_reducible refine Qk (f := 99) rfl ?_); refine QE (some 10) rfl rfl Try.func99 (by kernel_rfl) rfl #[.int .i64 (ae.length : Int), .int .i64 1, .int .i64 3] rfl hA ?_; (with_reducible refine (QO.calls (ae.length : Int) 1 3 false _ A4.out).mono ?_); rintro e w' ⟨rfl, ⟨nd, rfl⟩⟩; refine ⟨_, rfl, ?_⟩))
   go_meet
   case rel => exact ⟨_, (true), (by first | rfl | (simp; done) | (simp [*]; done)), H', ⟨by first | omega | exact Nat.le_refl _⟩, ⟨by (with_reducible repeat (first | apply Kd.V_alloc | apply Kd.Yn | apply Kd.Yl)); exact jM.out⟩, ⟨by (with_reducible repeat (first | apply Kd.V_alloc | apply Kd.Yn | apply Kd.Yl)); exact mV.out⟩, ⟨by (with_reducible repeat (first | refine Qg ?_ _ | refine Qh ?_ | refine Qf ?_ _)); exact ab.out⟩, ⟨bB⟩⟩
 case rest =>
  clear HC2; try clear c1
  try clear p1
  try clear q1
  try clear hx1
  try clear qi1
  try clear p2
  try clear c5
  try clear c7
  try clear c8
  try clear eQ
  try clear jT
  try clear c9
  try clear c10
  try clear p10
  try clear q10
  try clear iO
  try clear lf
  try clear fP
  try clear fO
  try clear dN
  try clear dM
  try clear fN
  try clear fM
  try clear fJ
  try clear fI
  try clear dL
  try clear dK
  try clear fH
  try clear fG
  try clear b0
  try clear fq
  try clear fp
  obtain ⟨kq, nD, rfl, HA, HJ1, bl, bz, ab, HB⟩ := hcut; cases kq with
  | zero => exact absurd HA.out (by simp [Qi.j0])
  | succ kj1 =>
   have H := HA.out; clear HA; simp only [Qi.j0] at H; by_cases c13 : nD = true
   ·subst c13; have H1 : (some 1) = some r := by rw [if_pos rfl] at H; exact H
    clear H; have H := H1; clear H1; obtain rfl := Option.some.inj H; go_wp2; go_ret; exact ⟨by first | rfl | (simp [Qo, Qn] <;> rfl) | (simp [*, Qo, Qn] <;> rfl), bB⟩
   ·replace c13 := Bool.eq_false_iff.mpr c13; subst c13; have H1 : ((some (([] : List (List Int)) : List (List Int))).bind fun kp => (if kp.length + ae.length < 5864062014805 then ((some (kp ++ ae : List (List Int))).bind fun iH => (if iH.length + ag.length < 5864062014805 then (Qi.l0 kj1 (iH ++ ag) 0 ae ag) else (none))) else (none))) = some r := by rw [if_neg (show ¬ (false = true) by decide)] at H; exact H
    clear H; have H := H1; clear H1; obtain ⟨kp, mG⟩ : ∃ y_ : List (List Int), y_ = (([] : List (List Int))) := ⟨_, rfl⟩; replace H : (if kp.length + ae.length < 5864062014805 then ((some (kp ++ ae : List (List Int))).bind fun iH => (if iH.length + ag.length < 5864062014805 then (Qi.l0 kj1 (iH ++ ag) 0 ae ag) else (none))) else (none)) = some r := by first | (rw [mG]; with_reducible exact H) | (have H2_ := (Option.bind_some _ _).symm.trans H; rw [mG]; with_reducible exact H2_) | (have H2_ := (Option.bind_some _ _).symm.trans H; with_reducible exact H2_) | with_reducible exact H | (rw [mG]; exact H) | exact H
    have sL := aa.mk mG; clear mG; by_cases c14 : kp.length + ae.length < 5864062014805
    ·rw [if_pos c14] at H; have xM := aa.mk c14; clear c14; obtain ⟨iH, mF⟩ : ∃ y_ : List (List Int), y_ = (kp ++ ae) := ⟨_, rfl⟩; replace H : (if iH.length + ag.length < 5864062014805 then (Qi.l0 kj1 (iH ++ ag) 0 ae ag) else (none)) = some r := by first | (rw [mF]; with_reducible exact H) | (have H2_ := (Option.bind_some _ _).symm.trans H; rw [mF]; with_reducible exact H2_) | (have H2_ := (Option.bind_some _ _).symm.trans H; with_reducible exact H2_) | with_reducible exact H | (rw [mF]; exact H) | exact H
     have xL := aa.mk mF; clear mF; by_cases c15 : iH.length + ag.length < 5864062014805
     ·rw [if_pos c15] at H; have pQ := aa.mk c15; clear c15; obtain ⟨cj, mD⟩ : ∃ y_ : List (List Int), y_ = (iH ++ ag) := ⟨_, rfl⟩; replace H : (Qi.l0 kj1 cj 0 ae ag) = some r := by first | (rw [mD]; with_reducible exact H) | (have H2_ := (Option.bind_some _ _).symm.trans H; rw [mD]; with_reducible exact H2_) | (have H2_ := (Option.bind_some _ _).symm.trans H; with_reducible exact H2_) | with_reducible exact H | (rw [mD]; exact H) | exact H
      have xK := aa.mk mD; clear mD; have H' := aa.mk H; clear H; try go_wp2
      replace bl := aa.mk (Kd.Yl bl.out); replace bz := aa.mk (Kd.Yl bz.out); replace ab := aa.mk (Qh ab.out); replace HB := aa.mk (QL HB.out); refine Ym (n := 8) (S := fun w' => w'.cell? ⟨af, 0, none⟩ = some (.slice aq ae.length an) ∧ w'.cell? ⟨af, 1, none⟩ = some (.slice ak ag.length ao)) (ds := []) #[false, false, false, false, false, false, false, false] (by kernel_rfl) rfl rfl ⟨(Qa ab.out 0).trans rfl, (Qa ab.out 1).trans rfl⟩ (fun hHeld => ?_); refine ZT Qi.tab3 Qi.bits3 (fun HT_ HW_ => ?_); generalize wc.drew = w16 at bl bz ab HB hHeld ⊢; refine QS (i := 1) (N := some 29) (v := ?_) (a' := ?_) #[false, true, false, false, false, false, false, false] rfl rfl (QI HT_.out (by kernel_rfl)) (fun _ _ _ h => h) (Or.inl ⟨by rfl, ?_⟩) ?_ ?_; rotate_left
      ·intro w'; go_simp; with_reducible rfl
      rotate_left
      ·simp only [Act.put, zA, zB, zC, Qw, Qx]; rfl
      refine QS (i := 4) (N := some 32) (v := ?_) (a' := ?_) #[false, true, false, false, true, false, false, false] rfl rfl (QI HT_.out (by kernel_rfl)) (fun _ _ _ h => h) (Or.inl ⟨by rfl, ?_⟩) ?_ ?_; rotate_left
      ·intro w'; go_simp; with_reducible rfl
      rotate_left
      ·simp only [Act.put, zA, zB, zC, Qw, Qx]; rfl
      refine Zy (i := 2) (N := some 30) (v := ?_) (a' := ?_) #[false, true, true, false, true, false, false, false] rfl rfl (Q4 HT_.out HW_.out (by kernel_rfl)) (fun _ _ _ h => h) (Or.inl ⟨by rfl, ?_⟩) hHeld ?_ ?_; rotate_left
      ·rintro w' ⟨s0, s1⟩; go_simp; with_reducible rfl
      rotate_left
      ·simp only [Act.put, zA, zB, zC, Qw, Qx]; rfl
      refine Zy (i := 5) (N := some 33) (v := ?_) (a' := ?_) #[false, true, true, false, true, true, false, false] rfl rfl (Q4 HT_.out HW_.out (by kernel_rfl)) (fun _ _ _ h => h) (Or.inl ⟨by rfl, ?_⟩) hHeld ?_ ?_; rotate_left
      ·rintro w' ⟨s0, s1⟩; go_simp; with_reducible rfl
      rotate_left
      ·simp only [Act.put, zA, zB, zC, Qw, Qx]; rfl
      refine one_ (i := 0) (N := some 28) #[true, true, true, false, true, true, false, false] rfl rfl (ZL HT_.out (by kernel_rfl)) (by decide) (fun K hK => ?_); refine Kd.N_lit_step (Kd.slice 3 (Kd.int .i64)) _ 28 ?hg (N' := 28) ?hd (xs := ([] : List (List Int))) (inner := []) (ok := (fun k_ => ((dC k_ ∨ dB k_) ∨ w.heap.size ≤ k_) ∧ k_ ≠ af)) (okp := (fun k_ => ((dC k_ ∨ dB k_) ∨ w.heap.size ≤ k_) ∧ k_ ≠ af)) ?hr ?hp (fun _ hk => hk) ((show ∀ k_, w16.heap.size ≤ k_ → (fun k_ => ((dC k_ ∨ dB k_) ∨ w.heap.size ≤ k_) ∧ k_ ≠ af) k_ from fun k_ hk => ⟨(.inr (Nat.le_trans (Qe bB) hk)), Kd.freshB (g := af) (o := .cells #[.slice aq ae.length an, .slice ak ag.length ao] 24 (0, 0)) (by (with_reducible repeat (first | refine Qg ?_ _ | refine Qh ?_ | refine Qf ?_ _)); exact ab.out) k_ hk⟩) _ (Nat.le_refl _)) (Below.refl _ _) (Nat.le_refl _) (by simp) ?_; (case hd => rfl); (case hg => rfl); (case hr => first | (go_simp; done) | (go_simp; rfl)); (case hp => exact (Reps.none _ _)); intro ku w17 gH hb hg_ hnew_; clear hg_ hnew_; (first | rw [← sL.out] at gH | (simp only [Int.reduceToNat] at gH; rw [← sL.out] at gH))
      replace bl := aa.mk (Kd.VI bl.out (Kd.ZO gH) hb); replace bz := aa.mk (Kd.VI bz.out (Kd.ZO gH) hb); have bg := aa.mk (Kd.ZY gH (Qe bB)); replace ab := aa.mk (Qc ab.out hb); replace HB := aa.mk (Qd bB hb); clear hb gH; refine hK.out _ _ ⟨(Qa ab.out 0).trans rfl, (Qa ab.out 1).trans rfl⟩ (fun hHeld => ?_); clear hK K; refine Ye (a' := ?_) ?_ ?_; rotate_left
      ·show Act.put _ (some 28) _ = _
       simp only [Act.put, zA, zB, zC, Qw, Qx]; rfl
      refine one_ (i := 3) (N := some 31) #[true, true, true, true, true, true, false, false] rfl rfl (ZL HT_.out (by kernel_rfl)) (by decide) (fun K hK => ?_); refine Kd.Z3 (Kd.slice 3 (Kd.int .i64)) (w0 := w) w.heap.size (by rfl) (.tmp 28) (.tmp 30) 22 28 (.slice none 0 0) 24 rfl Try.underlying22 info28 rfl (by decide) (by omega) ku kp ae _ _ _ (fun k_ => ((dC k_ ∨ dB k_) ∨ w.heap.size ≤ k_) ∧ k_ ≠ af) (fun k_ => ((fun k_ => ((dC k_ ∨ dB k_) ∨ w.heap.size ≤ k_) ∧ k_ ≠ af)) k_ ∧ some k_ ≠ (ku : Value).ownBlock) rfl rfl ?aO ?aR (fun _ hk => hk) ?aF ?aB ?aS ?aL ?_; (case aR => exact (by skip; exact Kd.V_F (Kd.VQ (ok' := (fun k_ => ((fun k_ => ((dC k_ ∨ dB k_) ∨ w.heap.size ≤ k_) ∧ k_ ≠ af)) k_ ∧ some k_ ≠ (ku : Value).ownBlock)) (bl.out) (fun k_ hk => ⟨⟨hk.1.1, hk.1.2⟩, hk.2⟩))))
      (case aB => exact bB)
      (case aF => exact (fun k_ hk => ⟨(.inr (Nat.le_trans (Qe bB) hk)), Kd.freshB (g := af) (o := .cells #[.slice aq ae.length an, .slice ak ag.length ao] 24 (0, 0)) (by (with_reducible repeat (first | refine Qg ?_ _ | refine Qh ?_ | refine Qf ?_ _)); exact ab.out) k_ hk⟩))
      (case aO => exact bg.out)
      (case aS => exact (Qe bB))
      (case aL => have := xM.out; omega)
      intro lb w19 ho hb hg hat; rw [← xL.out] at ho; replace bl := aa.mk (Kd.VJ (ok := (fun k_ => ((dC k_ ∨ dB k_) ∨ w.heap.size ≤ k_) ∧ k_ ≠ af)) bl.out hg hat); replace bz := aa.mk (Kd.VJ (ok := (fun k_ => ((dC k_ ∨ dB k_) ∨ w.heap.size ≤ k_) ∧ k_ ≠ af)) bz.out hg hat); replace ab := aa.mk (ZN (g := af) (o := .cells #[.slice aq ae.length an, .slice ak ag.length ao] 24 (0, 0)) (by (with_reducible repeat (first | refine Qg ?_ _ | refine Qh ?_ | refine Qf ?_ _)); exact ab.out) hg (Kd.N_ne bg.out ab.out (by decide))); replace HB := aa.mk (hb); have bw := aa.mk (ho); clear bg; clear ho hb hg hat; refine hK.out _ _ ⟨(Qa ab.out 0).trans rfl, (Qa ab.out 1).trans rfl⟩ (fun hHeld => ?_); clear hK K; refine Ye (a' := ?_) ?_ ?_; rotate_left
      ·show Act.put _ (some 31) _ = _
       simp only [Act.put, zA, zB, zC, Qw, Qx]; rfl
      refine one_ (i := 6) (N := some 34) #[true, true, true, true, true, true, true, false] rfl rfl (ZL HT_.out (by kernel_rfl)) (by decide) (fun K hK => ?_); refine Kd.Z3 (Kd.slice 3 (Kd.int .i64)) (w0 := w) w.heap.size (by rfl) (.tmp 31) (.tmp 33) 22 28 (.slice none 0 0) 24 rfl Try.underlying22 info28 rfl (by decide) (by omega) lb iH ag _ _ _ (fun k_ => ((dC k_ ∨ dB k_) ∨ w.heap.size ≤ k_) ∧ k_ ≠ af) (fun k_ => ((fun k_ => ((dC k_ ∨ dB k_) ∨ w.heap.size ≤ k_) ∧ k_ ≠ af)) k_ ∧ some k_ ≠ (lb : Value).ownBlock) rfl rfl ?aO ?aR (fun _ hk => hk) ?aF ?aB ?aS ?aL ?_; (case aR => exact (by skip; exact Kd.V_F (Kd.VQ (ok' := (fun k_ => ((fun k_ => ((dC k_ ∨ dB k_) ∨ w.heap.size ≤ k_) ∧ k_ ≠ af)) k_ ∧ some k_ ≠ (lb : Value).ownBlock)) (bz.out) (fun k_ hk => ⟨⟨hk.1.1, hk.1.2⟩, hk.2⟩))))
      (case aB => exact bB)
      (case aF => exact (fun k_ hk => ⟨(.inr (Nat.le_trans (Qe bB) hk)), Kd.freshB (g := af) (o := .cells #[.slice aq ae.length an, .slice ak ag.length ao] 24 (0, 0)) (by (with_reducible repeat (first | refine Qg ?_ _ | refine Qh ?_ | refine Qf ?_ _)); exact ab.out) k_ hk⟩))
      (case aO => exact bw.out)
      (case aS => exact (Qe bB))
      (case aL => have := pQ.out; omega)
      intro la w20 ho hb hg hat; rw [← xK.out] at ho; replace bl := aa.mk (Kd.VJ (ok := (fun k_ => ((dC k_ ∨ dB k_) ∨ w.heap.size ≤ k_) ∧ k_ ≠ af)) bl.out hg hat); replace bz := aa.mk (Kd.VJ (ok := (fun k_ => ((dC k_ ∨ dB k_) ∨ w.heap.size ≤ k_) ∧ k_ ≠ af)) bz.out hg hat); replace ab := aa.mk (ZN (g := af) (o := .cells #[.slice aq ae.length an, .slice ak ag.length ao] 24 (0, 0)) (by (with_reducible repeat (first | refine Qg ?_ _ | refine Qh ?_ | refine Qf ?_ _)); exact ab.out) hg (Kd.N_ne bw.out ab.out (by decide))); replace HB := aa.mk (hb); have bI := aa.mk (ho); clear bw; clear ho hb hg hat; refine hK.out _ _ ⟨(Qa ab.out 0).trans rfl, (Qa ab.out 1).trans rfl⟩ (fun hHeld => ?_); clear hK K; refine Ye (a' := ?_) ?_ ?_; rotate_left
      ·show Act.put _ (some 34) _ = _
       simp only [Act.put, zA, zB, zC, Qw, Qx]; rfl
      refine QS (i := 7) (N := some 3) (v := ?_) (a' := ?_) #[true, true, true, true, true, true, true, true] rfl rfl (QI HT_.out (by kernel_rfl)) (fun _ _ _ h => h) (Or.inl ⟨by rfl, ?_⟩) ?_ ?_; rotate_left
      ·intro w'; go_simp; with_reducible rfl
      rotate_left
      ·simp only [Act.put, zA, zB, zC, Qw, Qx]; rfl
      refine YA (Yf HT_.out (by kernel_rfl)) ?_; try go_wp2
      go_loopg [4] kj1 (fun kq v4 w' => ∃ (aX : Int), v4 = .int .i64 aX ∧ aa (Qi.l0 kq cj aX ae ag = some r) ∧ aa (kq ≤ kj1) ∧ aa (Kd.N (Kd.slice 3 (Kd.int .i64)) 28 w' w.heap.size (fun k_ => ((dC k_ ∨ dB k_) ∨ w.heap.size ≤ k_) ∧ k_ ≠ af) la cj) ∧ aa (Kd.V (Kd.slice 3 (Kd.int .i64)) 28 w' w.heap.size (fun k_ => ((dC k_ ∨ dB k_) ∨ w.heap.size ≤ k_) ∧ some k_ ≠ (la : Value).ownBlock ∧ k_ ≠ af) (.slice aq ae.length an) ae) ∧ aa (Kd.V (Kd.slice 3 (Kd.int .i64)) 28 w' w.heap.size (fun k_ => ((dC k_ ∨ dB k_) ∨ w.heap.size ≤ k_) ∧ some k_ ≠ (la : Value).ownBlock ∧ k_ ≠ af) (.slice ak ag.length ao) ag) ∧ aa (w'.heap[af]? = some (.cells #[(.slice aq ae.length an), (.slice ak ag.length ao)] 24 (0, 0))) ∧ aa (Below w.heap.size w w'))
      case atStart => exact ⟨(0), (by first | rfl | (simp; done) | (simp [*]; done)), H', ⟨Nat.le_refl _⟩, ⟨by (with_reducible repeat (first | apply Kd.N_alloc | apply Kd.Ze | apply Kd.Zn)); exact bI.out⟩, ⟨by (with_reducible repeat (first | apply Kd.V_alloc | apply Kd.Yn | apply Kd.Yl)); exact Kd.VQ bl.out (fun _ hk => ⟨hk.1.1, ⟨hk.2, hk.1.2⟩⟩)⟩, ⟨by (with_reducible repeat (first | apply Kd.V_alloc | apply Kd.Yn | apply Kd.Yl)); exact Kd.VQ bz.out (fun _ hk => ⟨hk.1.1, ⟨hk.2, hk.1.2⟩⟩)⟩, ⟨by (with_reducible repeat (first | refine Qg ?_ _ | refine Qh ?_ | refine Qf ?_ _)); exact ab.out⟩, ⟨bB⟩⟩
      case round =>
       clear H'; try clear c1
       try clear p1
       try clear q1
       try clear hx1
       try clear qi1
       try clear p2
       try clear c5
       try clear c7
       try clear c8
       try clear eQ
       try clear jT
       try clear c9
       try clear c10
       try clear p10
       try clear q10
       try clear iO
       try clear lf
       try clear c13
       try clear c14
       try clear c15
       try clear fP
       try clear fO
       try clear dN
       try clear dM
       try clear fN
       try clear fM
       try clear fJ
       try clear fI
       try clear dL
       try clear dK
       try clear fH
       try clear fG
       try clear b0
       try clear p1
       try clear p10
       try clear fq
       try clear p2
       try clear q1
       try clear q10
       try clear fp
       obtain ⟨aX, rfl, HA, HK2, bT, bl, bz, ab, HB⟩ := hrel; cases gk with
       | zero => exact absurd HA.out (by simp [Qi.l0])
       | succ k2 =>
        have H := HA.out; clear HA; simp only [Qi.l0] at H; by_cases c21 : aX < (cj.length : Int)
        ·rw [if_pos c21] at H; have kK : decide (aX < (cj.length : Int)) = true := decide_eq_true c21; clear c21; by_cases c22 : 0 ≤ aX
         ·rw [if_pos c22] at H; have eD : decide (0 ≤ aX) = true := decide_eq_true c22; clear c22; by_cases c23 : 0 < (ae.length : Int)
          ·rw [if_pos c23] at H; have sw : decide (0 < (ae.length : Int)) = true := decide_eq_true c23; have xB : decide (0 < ae.length) = true := decide_eq_true (by omega); clear c23; by_cases c24 : ((Qt cj aX).length : Int) = ((Qt ae 0).length : Int)
           ·rw [if_pos c24] at H; have sv : (((Qt cj aX).length : Int) == ((Qt ae 0).length : Int)) = true := beq_iff_eq.mpr c24; have su : (((Qt cj aX).length : Int) != ((Qt ae 0).length : Int)) = false := bne_eq_false_iff_eq.mpr c24; have ss : ((Qt cj aX).length == (Qt ae 0).length) = true := by first | simpa using c24 | (simp at c24 ⊢; omega)
            clear c24; have H' := aa.mk H; clear H; obtain ⟨DI, rG, rB⟩ := Kd.ZS bT.out; subst rB; try go_wp2
            replace bT := aa.mk (Kd.Zn bT.out); replace bl := aa.mk (Kd.Yl bl.out); replace bz := aa.mk (Kd.Yl bz.out); replace ab := aa.mk (Qh ab.out); replace HB := aa.mk (QL HB.out); have iu : 0 ≤ (aX : Int) := of_decide_eq_true (by assumption); have ir : aX < (cj.length : Int) := of_decide_eq_true (by assumption); obtain ⟨eY, kZ, lY, py, dI, fy, fB⟩ := ZH (Kd.QN bT.out).2.2 aX iu ir; cases py; obtain ⟨xi, nc, nh, kE⟩ := Kd.YY bT.out [] aX iu (by first | exact ir | exact of_decide_eq_true (by assumption) | (have e_ := (Kd.QN bT.out).1; omega)); obtain ⟨qf, qc, rfl, gi, gy⟩ := Kd.Zu nh; have e9 := kE 0 _ rfl; rw [Nat.add_zero, show ((Kd.slice 3 (Kd.int .i64))).sz = 1 from rfl, Nat.mul_one] at e9; replace e9 := Option.some.inj (e9.symm.trans dI); injection e9 with hva_ hvn_ hvc_
            rw [hva_] at gy; rw [hvc_] at gi; have l9 := aa.mk (show Kd.V (Kd.int .i64) 3 _ w.heap.size _ _ (Qt cj aX) from Kd.V_mk gi gy); clear hva_ hvn_ hvc_ gy gi; clear kE nc; have eO := aa.mk fB; have oL := aa.mk fy; clear fB fy; replace iu := eq_true iu; replace ir := eq_true ir; have iL : 0 ≤ (0 : Int) := (by omega); have iJ : 0 < (ae.length : Int) := of_decide_eq_true (by assumption); obtain ⟨jG, mh, nr, px, da, iR, iT⟩ := ZH (Kd.YX bl.out).2.2 0 iL iJ; cases px; obtain ⟨xh, nb, ng, kD⟩ := Kd.V_get bl.out [] 0 iL (by first | exact iJ | exact of_decide_eq_true (by assumption) | (have e_ := (Kd.YX bl.out).1; omega)); obtain ⟨qe, qb, rfl, gh, gw⟩ := Kd.Zu ng; have e8 := kD 0 _ rfl; rw [Nat.add_zero, show ((Kd.slice 3 (Kd.int .i64))).sz = 1 from rfl, Nat.mul_one] at e8; replace e8 := Option.some.inj (e8.symm.trans da); injection e8 with hva_ hvn_ hvc_
            rw [hva_] at gw; rw [hvc_] at gh; have l8 := aa.mk (show Kd.V (Kd.int .i64) 3 _ w.heap.size _ _ (Qt ae 0) from Kd.V_mk gh gw); clear hva_ hvn_ hvc_ gw gh; clear kD nb; have uh : (0 < ae.length) = True := eq_true (by omega); (try rw [show ((0 : Int)).toNat = 0 from rfl] at da)
            (try rw [Addr.add_zero'] at da)
            have fT := aa.mk iT; have rM := aa.mk iR; clear iT iR; replace iL := eq_true iL; replace iJ := eq_true iJ; refine Ym (n := 11) (S := fun w' => w'.cell? ⟨af, 0, none⟩ = some (.slice (some jG) ae.length an) ∧ w'.cell? ⟨af, 1, none⟩ = some (.slice ak ag.length ao) ∧ w'.cell? (eY.add (aX).toNat) = some (.slice kZ (Qt cj aX).length lY) ∧ w'.cell? jG = some (.slice mh (Qt ae 0).length nr)) (ds := []) #[false, false, false, false, false, false, false, false, false, false, false] (by kernel_rfl) rfl rfl ⟨(Qa ab.out 0).trans rfl, (Qa ab.out 1).trans rfl, dI, da⟩ (fun hHeld => ?_); refine ZT Qi.tab7 Qi.bits7 (fun HT_ HW_ => ?_); generalize wr.drew = w26 at bT bl bz ab HB l9 l8 eO fT dI da hHeld ⊢; refine QS (i := 0) (N := some 41) (v := ?_) (a' := ?_) #[true, false, false, false, false, false, false, false, false, false, false] rfl rfl (QI HT_.out (by kernel_rfl)) (fun _ _ _ h => h) (Or.inl ⟨by rfl, ?_⟩) ?_ ?_; rotate_left
            ·intro w'; go_simp; with_reducible rfl
            rotate_left
            ·simp only [Act.put, zA, zB, zC, Qw, Qx]; rfl
            refine QS (i := 1) (N := some 42) (v := ?_) (a' := ?_) #[true, true, false, false, false, false, false, false, false, false, false] rfl rfl (QI HT_.out (by kernel_rfl)) (fun _ _ _ h => h) (Or.inl ⟨by rfl, ?_⟩) ?_ ?_; rotate_left
            ·intro w'; go_simp; with_reducible rfl
            rotate_left
            ·simp only [Act.put, zA, zB, zC, Qw, Qx]; rfl
            refine QS (i := 2) (N := some 43) (v := ?_) (a' := ?_) #[true, true, true, false, false, false, false, false, false, false, false] rfl rfl (QI HT_.out (by kernel_rfl)) (fun _ _ _ h => h) (Or.inl ⟨by rfl, ?_⟩) ?_ ?_; rotate_left
            ·intro w'; go_simp; with_reducible rfl
            rotate_left
            ·simp only [Act.put, zA, zB, zC, Qw, Qx]; rfl
            refine QS (i := 5) (N := some 46) (v := ?_) (a' := ?_) #[true, true, true, false, false, true, false, false, false, false, false] rfl rfl (QI HT_.out (by kernel_rfl)) (fun _ _ _ h => h) (Or.inl ⟨by rfl, ?_⟩) ?_ ?_; rotate_left
            ·intro w'; go_simp; with_reducible rfl
            rotate_left
            ·simp only [Act.put, zA, zB, zC, Qw, Qx]; rfl
            refine Zy (i := 3) (N := some 44) (v := ?_) (a' := ?_) #[true, true, true, true, false, true, false, false, false, false, false] rfl rfl (Q4 HT_.out HW_.out (by kernel_rfl)) (fun _ _ _ h => h) (Or.inl ⟨by rfl, ?_⟩) hHeld ?_ ?_; rotate_left
            ·rintro w' ⟨s0, s1, s2, s3⟩; go_simp; with_reducible rfl
            rotate_left
            ·simp only [Act.put, zA, zB, zC, Qw, Qx]; rfl
            refine QS (i := 4) (N := some 45) (v := ?_) (a' := ?_) #[true, true, true, true, true, true, false, false, false, false, false] rfl rfl (QI HT_.out (by kernel_rfl)) (fun _ _ _ h => h) (Or.inl ⟨by rfl, ?_⟩) ?_ ?_; rotate_left
            ·intro w'; go_simp; with_reducible rfl
            rotate_left
            ·simp only [Act.put, zA, zB, zC, Qw, Qx]; rfl
            refine Zy (i := 6) (N := some 47) (v := ?_) (a' := ?_) #[true, true, true, true, true, true, true, false, false, false, false] rfl rfl (Q4 HT_.out HW_.out (by kernel_rfl)) (fun _ _ _ h => h) (Or.inl ⟨by rfl, ?_⟩) hHeld ?_ ?_; rotate_left
            ·rintro w' ⟨s0, s1, s2, s3⟩; go_simp; with_reducible rfl
            rotate_left
            ·simp only [Act.put, zA, zB, zC, Qw, Qx]; rfl
            refine QS (i := 7) (N := some 48) (v := ?_) (a' := ?_) #[true, true, true, true, true, true, true, true, false, false, false] rfl rfl (QI HT_.out (by kernel_rfl)) (fun _ _ _ h => h) (Or.inl ⟨by rfl, ?_⟩) ?_ ?_; rotate_left
            ·intro w'; go_simp; with_reducible rfl
            rotate_left
            ·simp only [Act.put, zA, zB, zC, Qw, Qx]; rfl
            refine Zy (i := 8) (N := some 49) (v := ?_) (a' := ?_) #[true, true, true, true, true, true, true, true, true, false, false] rfl rfl (Q4 HT_.out HW_.out (by kernel_rfl)) (fun _ _ _ h => h) (Or.inl ⟨by rfl, ?_⟩) hHeld ?_ ?_; rotate_left
            ·rintro w' ⟨s0, s1, s2, s3⟩; go_simp; with_reducible rfl
            rotate_left
            ·simp only [Act.put, zA, zB, zC, Qw, Qx]; rfl
            refine QS (i := 9) (N := some 50) (v := ?_) (a' := ?_) #[true, true, true, true, true, true, true, true, true, true, false] rfl rfl (QI HT_.out (by kernel_rfl)) (fun _ _ _ h => h) (Or.inl ⟨by rfl, ?_⟩) ?_ ?_; rotate_left
            ·intro w'; go_simp; with_reducible rfl
            rotate_left
            ·simp only [Act.put, zA, zB, zC, Qw, Qx]; rfl
            refine QS (i := 10) (N := some 51) (v := ?_) (a' := ?_) #[true, true, true, true, true, true, true, true, true, true, true] rfl rfl (QI HT_.out (by kernel_rfl)) (fun _ _ _ h => h) (Or.inl ⟨by rfl, ?_⟩) ?_ ?_; rotate_left
            ·intro w'; go_simp; with_reducible rfl
            rotate_left
            ·simp only [Act.put, zA, zB, zC, Qw, Qx]; rfl
            refine YA (Yf HT_.out (by kernel_rfl)) ?_; try go_wp2
            go_loopg [5, 6] k2 (fun kq v5 v6 w' => ∃ (kr : Int) (eJ : Int), v5 = .int .i64 kr ∧ v6 = .int .i64 eJ ∧ aa (Qi.l1 kq cj aX kr eJ ae ag = some r) ∧ aa (kq ≤ k2) ∧ aa (Kd.N (Kd.slice 3 (Kd.int .i64)) 28 w' w.heap.size (fun k_ => ((dC k_ ∨ dB k_) ∨ w.heap.size ≤ k_) ∧ k_ ≠ af) (.slice (some eY) cj.length rG) cj) ∧ aa (Kd.V (Kd.slice 3 (Kd.int .i64)) 28 w' w.heap.size (fun k_ => ((dC k_ ∨ dB k_) ∨ w.heap.size ≤ k_) ∧ some k_ ≠ ((.slice (some eY) cj.length rG) : Value).ownBlock ∧ k_ ≠ af) (.slice (some jG) ae.length an) ae) ∧ aa (Kd.V (Kd.slice 3 (Kd.int .i64)) 28 w' w.heap.size (fun k_ => ((dC k_ ∨ dB k_) ∨ w.heap.size ≤ k_) ∧ some k_ ≠ ((.slice (some eY) cj.length rG) : Value).ownBlock ∧ k_ ≠ af) (.slice ak ag.length ao) ag) ∧ aa (w'.heap[af]? = some (.cells #[(.slice (some jG) ae.length an), (.slice ak ag.length ao)] 24 (0, 0))) ∧ aa (Kd.C (Kd.int .i64) w' kZ (Qt cj aX).length (Qt cj aX)) ∧ aa (Kd.C (Kd.int .i64) w' mh (Qt ae 0).length (Qt ae 0)) ∧ aa (Below w.heap.size w w'))
            case atStart => exact ⟨(0), (0), (by first | rfl | (simp; done) | (simp [*]; done)), (by first | rfl | (simp; done) | (simp [*]; done)), H', ⟨Nat.le_refl _⟩, ⟨by (with_reducible repeat (first | apply Kd.N_alloc | apply Kd.Ze | apply Kd.Zn)); exact bT.out⟩, ⟨by (with_reducible repeat (first | apply Kd.V_alloc | apply Kd.Yn | apply Kd.Yl)); exact bl.out⟩, ⟨by (with_reducible repeat (first | apply Kd.V_alloc | apply Kd.Yn | apply Kd.Yl)); exact bz.out⟩, ⟨by (with_reducible repeat (first | refine Qg ?_ _ | refine Qh ?_ | refine Qf ?_ _)); exact ab.out⟩, ⟨by repeat (first | (with_reducible exact eO.out) | (with_reducible refine Kd.C_alloc ?_ _) | (with_reducible refine Kd.ZA ?_ _) | (with_reducible refine Kd.C_drew ?_) | exact eO.out)⟩, ⟨by repeat (first | (with_reducible exact fT.out) | (with_reducible refine Kd.C_alloc ?_ _) | (with_reducible refine Kd.ZA ?_ _) | (with_reducible refine Kd.C_drew ?_) | exact fT.out)⟩, ⟨bB⟩⟩
            case round =>
             clear H'; try clear c1
             try clear p1
             try clear q1
             try clear hx1
             try clear qi1
             try clear c2
             try clear p2
             try clear c5
             try clear c7
             try clear c8
             try clear eQ
             try clear jT
             try clear c9
             try clear c10
             try clear p10
             try clear q10
             try clear iO
             try clear lf
             try clear c11
             try clear p11
             try clear q11
             try clear sY
             try clear Ft
             try clear c13
             try clear c14
             try clear c15
             try clear c21
             try clear kK
             try clear c22
             try clear eD
             try clear c23
             try clear sw
             try clear xB
             try clear c24
             try clear sv
             try clear su
             try clear ss
             try clear fP
             try clear fO
             try clear dN
             try clear dM
             try clear fN
             try clear fM
             try clear fJ
             try clear fI
             try clear dL
             try clear dK
             try clear fH
             try clear fG
             try clear b0
             try clear dI
             try clear da
             try clear p1
             try clear p10
             try clear fq
             try clear iu
             try clear iL
             try clear p2
             try clear q1
             try clear q10
             try clear fp
             try clear ir
             try clear iJ
             obtain ⟨kr, eJ, rfl, rfl, HA, HK3, bT, bl, bz, ab, eO, fT, HB⟩ := hrel; cases gk with
             | zero => exact absurd HA.out (by simp [Qi.l1])
             | succ k3 =>
              have H := HA.out; clear HA; simp only [Qi.l1] at H; by_cases c27 : 0 ≤ aX
              ·rw [if_pos c27] at H; have EX : decide (0 ≤ aX) = true := decide_eq_true c27; clear c27; by_cases c28 : aX < (cj.length : Int)
               ·rw [if_pos c28] at H; have pG : decide (aX < (cj.length : Int)) = true := decide_eq_true c28; clear c28; by_cases c29 : eJ < ((Qt cj aX).length : Int)
                ·rw [if_pos c29] at H; have pF : decide (eJ < ((Qt cj aX).length : Int)) = true := decide_eq_true c29; clear c29; by_cases c30 : 0 ≤ eJ
                 ·rw [if_pos c30] at H; have sr : decide (0 ≤ eJ) = true := decide_eq_true c30; clear c30; replace H := Option.bind_eq_some_iff.mp H; obtain ⟨t120, yo, H⟩ := H; replace H : (if t120 = true then (Qi.l1 k3 cj aX (wrap64 (kr + (rd (Qt cj aX) eJ))) (wrap64 (eJ + 1)) ae ag) else (some 1)) = some r := H; have A31 := aa.mk yo; clear yo; by_cases c32 : t120 = true
                  ·subst c32; have H1 : (Qi.l1 k3 cj aX (wrap64 (kr + (rd (Qt cj aX) eJ))) (wrap64 (eJ + 1)) ae ag) = some r := by rw [if_pos rfl] at H; exact H
                   clear H; have H := H1; clear H1; have H' := aa.mk H; clear H; have fj : 0 ≤ (aX : Int) := of_decide_eq_true (by assumption); have fi : aX < (cj.length : Int) := of_decide_eq_true (by assumption); obtain ⟨jF, nx, nq, lU, dx, ej, eu⟩ := ZH (Kd.QN bT.out).2.2 aX fj fi; obtain rfl : eY = jF := (by injection lU); obtain ⟨pB, iA, iB, fk⟩ := Kd.YY bT.out [] aX fj (by first | exact fi | exact of_decide_eq_true (by assumption) | (have e_ := (Kd.QN bT.out).1; omega)); obtain ⟨lE, lD, rfl, di, dj⟩ := Kd.Zu iB; have cJ := fk 0 _ rfl; rw [Nat.add_zero, show ((Kd.slice 3 (Kd.int .i64))).sz = 1 from rfl, Nat.mul_one] at cJ; replace cJ := Option.some.inj (cJ.symm.trans dx); injection cJ with hva_ hvn_ hvc_
                   rw [hva_] at dj; rw [hvc_] at di; have l7 := aa.mk (show Kd.V (Kd.int .i64) 3 _ w.heap.size _ _ (Qt cj aX) from Kd.V_mk di dj); clear hva_ hvn_ hvc_ dj di; clear fk iA; have lZ := aa.mk eu; have ma := aa.mk ej; clear eu ej; replace fj := eq_true fj; replace fi := eq_true fi; have jv : 0 ≤ (aX : Int) := of_decide_eq_true (by assumption); have ju : aX < (cj.length : Int) := of_decide_eq_true (by assumption); obtain ⟨mS, tT, tI, pw, ei, iQ, iS⟩ := ZH (Kd.QN bT.out).2.2 aX jv ju; obtain rfl : eY = mS := (by injection pw); obtain ⟨xg, na, nf, kC⟩ := Kd.YY bT.out [] aX jv (by first | exact ju | exact of_decide_eq_true (by assumption) | (have e_ := (Kd.QN bT.out).1; omega)); obtain ⟨qd, qa, rfl, gg, gv⟩ := Kd.Zu nf; have e7 := kC 0 _ rfl; rw [Nat.add_zero, show ((Kd.slice 3 (Kd.int .i64))).sz = 1 from rfl, Nat.mul_one] at e7; replace e7 := Option.some.inj (e7.symm.trans ei); injection e7 with hva_ hvn_ hvc_
                   rw [hva_] at gv; rw [hvc_] at gg; have rI := aa.mk (show Kd.V (Kd.int .i64) 3 _ w.heap.size _ _ (Qt cj aX) from Kd.V_mk gg gv); clear hva_ hvn_ hvc_ gv gg; clear kC na; have jk := aa.mk iS; have rL := aa.mk iQ; clear iS iQ; replace jv := eq_true jv; replace ju := eq_true ju; have ea_ := Option.some.inj (dx.symm.trans ei); injection ea_ with ea_ en_ ec_
                   subst ea_; subst ec_; clear en_; have m5 : 0 ≤ (eJ : Int) := of_decide_eq_true (by assumption); have m2 : eJ < ((Qt cj aX).length : Int) := of_decide_eq_true (by assumption); obtain ⟨xF, tD, qj⟩ := Kd.Zi (by repeat (first | (with_reducible exact jk.out) | (with_reducible refine Kd.C_alloc ?_ _) | (with_reducible refine Kd.ZA ?_ _) | (with_reducible refine Kd.C_drew ?_) | exact jk.out)) eJ m5 m2; cases tD; replace m5 := eq_true m5; replace m2 := eq_true m2; go_wp2_with (first | ((with_reducible refine Qk (f := 99) rfl ?_); refine QE (some 68) rfl rfl Try.func99 (by kernel_rfl) rfl #[.int .i64 (rd (Qt cj aX) eJ), .int .i64 0, .int .i64 9] rfl hA ?_; (with_reducible refine (QO.calls (rd (Qt cj aX) eJ) 0 9 true _ A31.out).mono ?_); rintro e w' ⟨rfl, ⟨nd, rfl⟩⟩; refine ⟨_, rfl, ?_⟩; have qh : 0 ≤ (aX : Int) := of_decide_eq_true (by assumption); have qg : aX < (cj.length : Int) := of_decide_eq_true (by assumption); obtain ⟨xE, DL, Dr, Dj, nJ, nM, nQ⟩ := ZH (Kd.QN bT.out).2.2 aX qh qg; obtain rfl : eY = xE := (by injection Dj); obtain ⟨EK, tj, tn, pd⟩ := Kd.YY bT.out [] aX qh (by first | exact qg | exact of_decide_eq_true (by assumption) | (have e_ := (Kd.QN bT.out).1; omega)); obtain ⟨yz, yw, rfl, lA, lQ⟩ := Kd.Zu tn; have jX := pd 0 _ rfl; rw [Nat.add_zero, show ((Kd.slice 3 (Kd.int .i64))).sz = 1 from rfl, Nat.mul_one] at jX; replace jX := Option.some.inj (jX.symm.trans nJ); injection jX with hva_ hvn_ hvc_; rw [hva_] at lQ; rw [hvc_] at lA; have AX := aa.mk (show Kd.V (Kd.int .i64) 3 _ w.heap.size _ _ (Qt cj aX) from Kd.V_mk lA lQ); clear hva_ hvn_ hvc_ lQ lA; clear pd tj; have oH := aa.mk nQ; have Ba := aa.mk nM; clear nQ nM; replace qh := eq_true qh; replace qg := eq_true qg; have ea_ := Option.some.inj (dx.symm.trans nJ); injection ea_ with ea_ en_ ec_; subst ea_; subst ec_; clear en_; have m3 : 0 ≤ (eJ : Int) := of_decide_eq_true (by assumption); have mZ : eJ < ((Qt cj aX).length : Int) := of_decide_eq_true (by assumption); obtain ⟨pJ, tC, qi⟩ := Kd.Zi (by repeat (first | (with_reducible exact oH.out) | (with_reducible refine Kd.C_alloc ?_ _) | (with_reducible refine Kd.ZA ?_ _) | (with_reducible refine Kd.C_drew ?_) | exact oH.out)) eJ m3 mZ; cases tC; replace m3 := eq_true m3; replace mZ := eq_true mZ))
                   go_roundg k3
                   case measure => have := HJ1.out; have := HK2.out; have := HK3.out; omega
                   case rel => exact ⟨(wrap64 (kr + (rd (Qt cj aX) eJ))), (wrap64 (eJ + 1)), (by first | rfl | (simp; done) | (simp [*]; done)), (by first | rfl | (simp; done) | (simp [*]; done)), H', ⟨by have := HJ1.out; have := HK2.out; have := HK3.out; omega⟩, ⟨by (with_reducible repeat (first | apply Kd.N_alloc | apply Kd.Ze | apply Kd.Zn)); exact bT.out⟩, ⟨by (with_reducible repeat (first | apply Kd.V_alloc | apply Kd.Yn | apply Kd.Yl)); exact bl.out⟩, ⟨by (with_reducible repeat (first | apply Kd.V_alloc | apply Kd.Yn | apply Kd.Yl)); exact bz.out⟩, ⟨by (with_reducible repeat (first | refine Qg ?_ _ | refine Qh ?_ | refine Qf ?_ _)); exact ab.out⟩, ⟨by repeat (first | (with_reducible exact eO.out) | (with_reducible refine Kd.C_alloc ?_ _) | (with_reducible refine Kd.ZA ?_ _) | (with_reducible refine Kd.C_drew ?_) | exact eO.out)⟩, ⟨by repeat (first | (with_reducible exact fT.out) | (with_reducible refine Kd.C_alloc ?_ _) | (with_reducible refine Kd.ZA ?_ _) | (with_reducible refine Kd.C_drew ?_) | exact fT.out)⟩, ⟨bB⟩⟩
                  ·replace c32 := Bool.eq_false_iff.mpr c32; subst c32; have H1 : (some 1) = some r := by rw [if_neg (show ¬ (false = true) by decide)] at H; exact H
                   clear H; have H := H1; clear H1; obtain rfl := Option.some.inj H; have fj : 0 ≤ (aX : Int) := of_decide_eq_true (by assumption); have fi : aX < (cj.length : Int) := of_decide_eq_true (by assumption); obtain ⟨jF, nx, nq, lU, dx, ej, eu⟩ := ZH (Kd.QN bT.out).2.2 aX fj fi; obtain rfl : eY = jF := (by injection lU); obtain ⟨pB, iA, iB, fk⟩ := Kd.YY bT.out [] aX fj (by first | exact fi | exact of_decide_eq_true (by assumption) | (have e_ := (Kd.QN bT.out).1; omega)); obtain ⟨lE, lD, rfl, di, dj⟩ := Kd.Zu iB; have cJ := fk 0 _ rfl; rw [Nat.add_zero, show ((Kd.slice 3 (Kd.int .i64))).sz = 1 from rfl, Nat.mul_one] at cJ; replace cJ := Option.some.inj (cJ.symm.trans dx); injection cJ with hva_ hvn_ hvc_
                   rw [hva_] at dj; rw [hvc_] at di; have l7 := aa.mk (show Kd.V (Kd.int .i64) 3 _ w.heap.size _ _ (Qt cj aX) from Kd.V_mk di dj); clear hva_ hvn_ hvc_ dj di; clear fk iA; have lZ := aa.mk eu; have ma := aa.mk ej; clear eu ej; replace fj := eq_true fj; replace fi := eq_true fi; have jv : 0 ≤ (aX : Int) := of_decide_eq_true (by assumption); have ju : aX < (cj.length : Int) := of_decide_eq_true (by assumption); obtain ⟨mS, tT, tI, pw, ei, iQ, iS⟩ := ZH (Kd.QN bT.out).2.2 aX jv ju; obtain rfl : eY = mS := (by injection pw); obtain ⟨xg, na, nf, kC⟩ := Kd.YY bT.out [] aX jv (by first | exact ju | exact of_decide_eq_true (by assumption) | (have e_ := (Kd.QN bT.out).1; omega)); obtain ⟨qd, qa, rfl, gg, gv⟩ := Kd.Zu nf; have e7 := kC 0 _ rfl; rw [Nat.add_zero, show ((Kd.slice 3 (Kd.int .i64))).sz = 1 from rfl, Nat.mul_one] at e7; replace e7 := Option.some.inj (e7.symm.trans ei); injection e7 with hva_ hvn_ hvc_
                   rw [hva_] at gv; rw [hvc_] at gg; have rI := aa.mk (show Kd.V (Kd.int .i64) 3 _ w.heap.size _ _ (Qt cj aX) from Kd.V_mk gg gv); clear hva_ hvn_ hvc_ gv gg; clear kC na; have jk := aa.mk iS; have rL := aa.mk iQ; clear iS iQ; replace jv := eq_true jv; replace ju := eq_true ju; have ea_ := Option.some.inj (dx.symm.trans ei); injection ea_ with ea_ en_ ec_
                   subst ea_; subst ec_; clear en_; have m5 : 0 ≤ (eJ : Int) := of_decide_eq_true (by assumption); have m2 : eJ < ((Qt cj aX).length : Int) := of_decide_eq_true (by assumption); obtain ⟨xF, tD, qj⟩ := Kd.Zi (by repeat (first | (with_reducible exact jk.out) | (with_reducible refine Kd.C_alloc ?_ _) | (with_reducible refine Kd.ZA ?_ _) | (with_reducible refine Kd.C_drew ?_) | exact jk.out)) eJ m5 m2; cases tD; replace m5 := eq_true m5; replace m2 := eq_true m2; go_wp2_with (first | ((with_reducible refine Qk (f := 99) rfl ?_); refine QE (some 68) rfl rfl Try.func99 (by kernel_rfl) rfl #[.int .i64 (rd (Qt cj aX) eJ), .int .i64 0, .int .i64 9] rfl hA ?_; (with_reducible refine (QO.calls (rd (Qt cj aX) eJ) 0 9 false _ A31.out).mono ?_); rintro e w' ⟨rfl, ⟨nd, rfl⟩⟩; refine ⟨_, rfl, ?_⟩))
                   go_ret; exact ⟨by first | rfl | (simp [Qo, Qn] <;> rfl) | (simp [*, Qo, Qn] <;> rfl), bB⟩
                 ·rw [if_neg c30] at H; exact absurd H (by simp)
                ·rw [if_neg c29] at H; have pF : decide (eJ < ((Qt cj aX).length : Int)) = false := decide_eq_false c29; clear c29; by_cases c33 : kr = 0
                 ·rw [if_pos c33] at H; have sq : (kr == 0) = true := beq_iff_eq.mpr c33; have xx : (kr != 0) = false := bne_eq_false_iff_eq.mpr c33; clear c33; obtain rfl := Option.some.inj H; have fj : 0 ≤ (aX : Int) := of_decide_eq_true (by assumption); have fi : aX < (cj.length : Int) := of_decide_eq_true (by assumption); obtain ⟨jF, nx, nq, lU, dx, ej, eu⟩ := ZH (Kd.QN bT.out).2.2 aX fj fi; obtain rfl : eY = jF := (by injection lU); obtain ⟨pB, iA, iB, fk⟩ := Kd.YY bT.out [] aX fj (by first | exact fi | exact of_decide_eq_true (by assumption) | (have e_ := (Kd.QN bT.out).1; omega)); obtain ⟨lE, lD, rfl, di, dj⟩ := Kd.Zu iB; have cJ := fk 0 _ rfl; rw [Nat.add_zero, show ((Kd.slice 3 (Kd.int .i64))).sz = 1 from rfl, Nat.mul_one] at cJ; replace cJ := Option.some.inj (cJ.symm.trans dx); injection cJ with hva_ hvn_ hvc_
                  rw [hva_] at dj; rw [hvc_] at di; have l7 := aa.mk (show Kd.V (Kd.int .i64) 3 _ w.heap.size _ _ (Qt cj aX) from Kd.V_mk di dj); clear hva_ hvn_ hvc_ dj di; clear fk iA; have lZ := aa.mk eu; have ma := aa.mk ej; clear eu ej; replace fj := eq_true fj; replace fi := eq_true fi; go_wp2; go_ret; exact ⟨by first | rfl | (simp [Qo, Qn] <;> rfl) | (simp [*, Qo, Qn] <;> rfl), bB⟩
                 ·rw [if_neg c33] at H; have sq : (kr == 0) = false := beq_eq_false_iff_ne.mpr c33; have xx : (kr != 0) = true := bne_iff_ne.mpr c33; have H' := aa.mk H; clear H; have fj : 0 ≤ (aX : Int) := of_decide_eq_true (by assumption); have fi : aX < (cj.length : Int) := of_decide_eq_true (by assumption); obtain ⟨jF, nx, nq, lU, dx, ej, eu⟩ := ZH (Kd.QN bT.out).2.2 aX fj fi; obtain rfl : eY = jF := (by injection lU); obtain ⟨pB, iA, iB, fk⟩ := Kd.YY bT.out [] aX fj (by first | exact fi | exact of_decide_eq_true (by assumption) | (have e_ := (Kd.QN bT.out).1; omega)); obtain ⟨lE, lD, rfl, di, dj⟩ := Kd.Zu iB; have cJ := fk 0 _ rfl; rw [Nat.add_zero, show ((Kd.slice 3 (Kd.int .i64))).sz = 1 from rfl, Nat.mul_one] at cJ; replace cJ := Option.some.inj (cJ.symm.trans dx); injection cJ with hva_ hvn_ hvc_
                  rw [hva_] at dj; rw [hvc_] at di; have l7 := aa.mk (show Kd.V (Kd.int .i64) 3 _ w.heap.size _ _ (Qt cj aX) from Kd.V_mk di dj); clear hva_ hvn_ hvc_ dj di; clear fk iA; have lZ := aa.mk eu; have ma := aa.mk ej; clear eu ej; replace fj := eq_true fj; replace fi := eq_true fi; go_wp2; go_roundg k3
                  case measure => have := HJ1.out; have := HK2.out; have := HK3.out; omega
                  case rel => exact ⟨(wrap64 (aX + 1)), (by first | rfl | (simp; done) | (simp [*]; done)), H', ⟨by have := HJ1.out; have := HK2.out; have := HK3.out; omega⟩, ⟨by (with_reducible repeat (first | apply Kd.N_alloc | apply Kd.Ze | apply Kd.Zn)); exact bT.out⟩, ⟨by (with_reducible repeat (first | apply Kd.V_alloc | apply Kd.Yn | apply Kd.Yl)); exact bl.out⟩, ⟨by (with_reducible repeat (first | apply Kd.V_alloc | apply Kd.Yn | apply Kd.Yl)); exact bz.out⟩, ⟨by (with_reducible repeat (first | refine Qg ?_ _ | refine Qh ?_ | refine Qf ?_ _)); exact ab.out⟩, ⟨bB⟩⟩
               ·rw [if_neg c28] at H; exact absurd H (by simp)
              ·rw [if_neg c27] at H; exact absurd H (by simp)
           ·rw [if_neg c24] at H; have sv : (((Qt cj aX).length : Int) == ((Qt ae 0).length : Int)) = false := beq_eq_false_iff_ne.mpr c24; have su : (((Qt cj aX).length : Int) != ((Qt ae 0).length : Int)) = true := bne_iff_ne.mpr c24; have ss : ((Qt cj aX).length == (Qt ae 0).length) = false := by first | simpa using c24 | (simp at c24 ⊢; omega)
            obtain rfl := Option.some.inj H; obtain ⟨DG, Dm, tw⟩ := Kd.ZS bT.out; subst tw; try go_wp2
            replace bT := aa.mk (Kd.Zn bT.out); replace bl := aa.mk (Kd.Yl bl.out); replace bz := aa.mk (Kd.Yl bz.out); replace ab := aa.mk (Qh ab.out); replace HB := aa.mk (QL HB.out); have iu : 0 ≤ (aX : Int) := of_decide_eq_true (by assumption); have ir : aX < (cj.length : Int) := of_decide_eq_true (by assumption); obtain ⟨eY, kZ, lY, py, dI, fy, fB⟩ := ZH (Kd.QN bT.out).2.2 aX iu ir; cases py; obtain ⟨xi, nc, nh, kE⟩ := Kd.YY bT.out [] aX iu (by first | exact ir | exact of_decide_eq_true (by assumption) | (have e_ := (Kd.QN bT.out).1; omega)); obtain ⟨qf, qc, rfl, gi, gy⟩ := Kd.Zu nh; have e9 := kE 0 _ rfl; rw [Nat.add_zero, show ((Kd.slice 3 (Kd.int .i64))).sz = 1 from rfl, Nat.mul_one] at e9; replace e9 := Option.some.inj (e9.symm.trans dI); injection e9 with hva_ hvn_ hvc_
            rw [hva_] at gy; rw [hvc_] at gi; have l9 := aa.mk (show Kd.V (Kd.int .i64) 3 _ w.heap.size _ _ (Qt cj aX) from Kd.V_mk gi gy); clear hva_ hvn_ hvc_ gy gi; clear kE nc; have eO := aa.mk fB; have oL := aa.mk fy; clear fB fy; replace iu := eq_true iu; replace ir := eq_true ir; have iL : 0 ≤ (0 : Int) := (by omega); have iJ : 0 < (ae.length : Int) := of_decide_eq_true (by assumption); obtain ⟨jG, mh, nr, px, da, iR, iT⟩ := ZH (Kd.YX bl.out).2.2 0 iL iJ; cases px; obtain ⟨xh, nb, ng, kD⟩ := Kd.V_get bl.out [] 0 iL (by first | exact iJ | exact of_decide_eq_true (by assumption) | (have e_ := (Kd.YX bl.out).1; omega)); obtain ⟨qe, qb, rfl, gh, gw⟩ := Kd.Zu ng; have e8 := kD 0 _ rfl; rw [Nat.add_zero, show ((Kd.slice 3 (Kd.int .i64))).sz = 1 from rfl, Nat.mul_one] at e8; replace e8 := Option.some.inj (e8.symm.trans da); injection e8 with hva_ hvn_ hvc_
            rw [hva_] at gw; rw [hvc_] at gh; have l8 := aa.mk (show Kd.V (Kd.int .i64) 3 _ w.heap.size _ _ (Qt ae 0) from Kd.V_mk gh gw); clear hva_ hvn_ hvc_ gw gh; clear kD nb; have uh : (0 < ae.length) = True := eq_true (by omega); (try rw [show ((0 : Int)).toNat = 0 from rfl] at da)
            (try rw [Addr.add_zero'] at da)
            have fT := aa.mk iT; have rM := aa.mk iR; clear iT iR; replace iL := eq_true iL; replace iJ := eq_true iJ; refine Ym (n := 11) (S := fun w' => w'.cell? ⟨af, 0, none⟩ = some (.slice (some jG) ae.length an) ∧ w'.cell? ⟨af, 1, none⟩ = some (.slice ak ag.length ao) ∧ w'.cell? (eY.add (aX).toNat) = some (.slice kZ (Qt cj aX).length lY) ∧ w'.cell? jG = some (.slice mh (Qt ae 0).length nr)) (ds := []) #[false, false, false, false, false, false, false, false, false, false, false] (by kernel_rfl) rfl rfl ⟨(Qa ab.out 0).trans rfl, (Qa ab.out 1).trans rfl, dI, da⟩ (fun hHeld => ?_); refine ZT Qi.tab7 Qi.bits7 (fun HT_ HW_ => ?_); generalize wr.drew = w35 at bT bl bz ab HB l9 l8 eO fT dI da hHeld ⊢; refine QS (i := 0) (N := some 41) (v := ?_) (a' := ?_) #[true, false, false, false, false, false, false, false, false, false, false] rfl rfl (QI HT_.out (by kernel_rfl)) (fun _ _ _ h => h) (Or.inl ⟨by rfl, ?_⟩) ?_ ?_; rotate_left
            ·intro w'; go_simp; with_reducible rfl
            rotate_left
            ·simp only [Act.put, zA, zB, zC, Qw, Qx]; rfl
            refine QS (i := 1) (N := some 42) (v := ?_) (a' := ?_) #[true, true, false, false, false, false, false, false, false, false, false] rfl rfl (QI HT_.out (by kernel_rfl)) (fun _ _ _ h => h) (Or.inl ⟨by rfl, ?_⟩) ?_ ?_; rotate_left
            ·intro w'; go_simp; with_reducible rfl
            rotate_left
            ·simp only [Act.put, zA, zB, zC, Qw, Qx]; rfl
            refine QS (i := 2) (N := some 43) (v := ?_) (a' := ?_) #[true, true, true, false, false, false, false, false, false, false, false] rfl rfl (QI HT_.out (by kernel_rfl)) (fun _ _ _ h => h) (Or.inl ⟨by rfl, ?_⟩) ?_ ?_; rotate_left
            ·intro w'; go_simp; with_reducible rfl
            rotate_left
            ·simp only [Act.put, zA, zB, zC, Qw, Qx]; rfl
            refine QS (i := 5) (N := some 46) (v := ?_) (a' := ?_) #[true, true, true, false, false, true, false, false, false, false, false] rfl rfl (QI HT_.out (by kernel_rfl)) (fun _ _ _ h => h) (Or.inl ⟨by rfl, ?_⟩) ?_ ?_; rotate_left
            ·intro w'; go_simp; with_reducible rfl
            rotate_left
            ·simp only [Act.put, zA, zB, zC, Qw, Qx]; rfl
            refine Zy (i := 3) (N := some 44) (v := ?_) (a' := ?_) #[true, true, true, true, false, true, false, false, false, false, false] rfl rfl (Q4 HT_.out HW_.out (by kernel_rfl)) (fun _ _ _ h => h) (Or.inl ⟨by rfl, ?_⟩) hHeld ?_ ?_; rotate_left
            ·rintro w' ⟨s0, s1, s2, s3⟩; go_simp; with_reducible rfl
            rotate_left
            ·simp only [Act.put, zA, zB, zC, Qw, Qx]; rfl
            refine QS (i := 4) (N := some 45) (v := ?_) (a' := ?_) #[true, true, true, true, true, true, false, false, false, false, false] rfl rfl (QI HT_.out (by kernel_rfl)) (fun _ _ _ h => h) (Or.inl ⟨by rfl, ?_⟩) ?_ ?_; rotate_left
            ·intro w'; go_simp; with_reducible rfl
            rotate_left
            ·simp only [Act.put, zA, zB, zC, Qw, Qx]; rfl
            refine Zy (i := 6) (N := some 47) (v := ?_) (a' := ?_) #[true, true, true, true, true, true, true, false, false, false, false] rfl rfl (Q4 HT_.out HW_.out (by kernel_rfl)) (fun _ _ _ h => h) (Or.inl ⟨by rfl, ?_⟩) hHeld ?_ ?_; rotate_left
            ·rintro w' ⟨s0, s1, s2, s3⟩; go_simp; with_reducible rfl
            rotate_left
            ·simp only [Act.put, zA, zB, zC, Qw, Qx]; rfl
            refine QS (i := 7) (N := some 48) (v := ?_) (a' := ?_) #[true, true, true, true, true, true, true, true, false, false, false] rfl rfl (QI HT_.out (by kernel_rfl)) (fun _ _ _ h => h) (Or.inl ⟨by rfl, ?_⟩) ?_ ?_; rotate_left
            ·intro w'; go_simp; with_reducible rfl
            rotate_left
            ·simp only [Act.put, zA, zB, zC, Qw, Qx]; rfl
            refine Zy (i := 8) (N := some 49) (v := ?_) (a' := ?_) #[true, true, true, true, true, true, true, true, true, false, false] rfl rfl (Q4 HT_.out HW_.out (by kernel_rfl)) (fun _ _ _ h => h) (Or.inl ⟨by rfl, ?_⟩) hHeld ?_ ?_; rotate_left
            ·rintro w' ⟨s0, s1, s2, s3⟩; go_simp; with_reducible rfl
            rotate_left
            ·simp only [Act.put, zA, zB, zC, Qw, Qx]; rfl
            refine QS (i := 9) (N := some 50) (v := ?_) (a' := ?_) #[true, true, true, true, true, true, true, true, true, true, false] rfl rfl (QI HT_.out (by kernel_rfl)) (fun _ _ _ h => h) (Or.inl ⟨by rfl, ?_⟩) ?_ ?_; rotate_left
            ·intro w'; go_simp; with_reducible rfl
            rotate_left
            ·simp only [Act.put, zA, zB, zC, Qw, Qx]; rfl
            refine QS (i := 10) (N := some 51) (v := ?_) (a' := ?_) #[true, true, true, true, true, true, true, true, true, true, true] rfl rfl (QI HT_.out (by kernel_rfl)) (fun _ _ _ h => h) (Or.inl ⟨by rfl, ?_⟩) ?_ ?_; rotate_left
            ·intro w'; go_simp; with_reducible rfl
            rotate_left
            ·simp only [Act.put, zA, zB, zC, Qw, Qx]; rfl
            refine YA (Yf HT_.out (by kernel_rfl)) ?_; try go_wp2
            go_ret; exact ⟨by first | rfl | (simp [Qo, Qn] <;> rfl) | (simp [*, Qo, Qn] <;> rfl), bB⟩
          ·rw [if_neg c23] at H; exact absurd H (by simp)
         ·rw [if_neg c22] at H; exact absurd H (by simp)
        ·rw [if_neg c21] at H; have kK : decide (aX < (cj.length : Int)) = false := decide_eq_false c21; clear c21; obtain rfl := Option.some.inj H; obtain ⟨rP, rF, oT⟩ := Kd.ZS bT.out; subst oT; go_wp2; go_ret; exact ⟨by first | rfl | (simp [Qo, Qn] <;> rfl) | (simp [*, Qo, Qn] <;> rfl), bB⟩
     ·rw [if_neg c15] at H; exact absurd H (by simp)
    ·rw [if_neg c14] at H; exact absurd H (by simp)
def QC.l0 : Nat → List (List Int) → List (List Int) → Int → Option ((List (List Int)))
 | 0, _, _, _ => none
 | k + 1, x0, x3, x4 => if x4 < (x0.length : Int) then ((some (([] : List Int) : List Int)).bind fun eE => (if 0 ≤ x4 then (if eE.length + (Qt x0 x4).length < 17592186044416 then (if x3.length < 5864062014805 then (QC.l0 k x0 (x3 ++ [(eE ++ (Qt x0 x4))]) (wrap64 (x4 + 1))) else (none)) else (none)) else (none))) else (some x3)
def QC.f (k : Nat) (l0 : List (List Int)) : Option ((List (List Int))) := QC.l0 k l0 ([] : List (List Int)) 0
set_option maxHeartbeats 8000000 in
set_option maxRecDepth 100000 in
theorem QC.calls (k : Nat) (A0 : Option Addr) (c0 : Nat) (l0 : List (List Int)) (r : List (List Int)) (w : World) (hr0 : Kd.C (Kd.slice 3 (Kd.int .i64)) w A0 l0.length l0) (hc0 : l0.length ≤ c0) (h : QC.f k l0 = some r) :
  Calls Try.prog 110 #[.slice A0 l0.length c0] w fun e w' => ∃ v0_ : Value, e = .returned (v0_) ∧ Kd.S (Kd.slice 3 (Kd.int .i64)) 28 w' w.heap.size (fun _ => True) v0_ r ∧ Below w.heap.size w w' := by
 have HR0 := aa.mk hr0; have HC0 := aa.mk hc0; clear hr0 hc0; have HB := aa.mk (Below.refl w.heap.size w); have H : (QC.l0 k l0 ([] : List (List Int)) 0) = some r := h; clear h; have H' := aa.mk H; clear H; go_enter Try.func110, Try.ntmps110; go_wp2; go_loopg [3, 4] k (fun kq v3 v4 w' => ∃ (eF : List (List Int)) (ck : Int), v4 = .int .i64 ck ∧ aa (QC.l0 kq l0 eF ck = some r) ∧ aa (kq ≤ k) ∧ aa (Kd.S (Kd.slice 3 (Kd.int .i64)) 28 w' w.heap.size (fun _ => True) v3 eF) ∧ aa (Below w.heap.size w w'))
 case atStart => exact ⟨(([] : List (List Int))), (0), (by first | rfl | (simp; done) | (simp [*]; done)), H', ⟨Nat.le_refl _⟩, ⟨by first | exact Kd.Yj _ _ _ _ _ | exact Kd.Yh _ _ _ _ _ | exact Kd.V_nil _ _ _ _ _ | exact Kd.Q_nil _ _ _ _ _ | exact Kd.Yb _ _ _ _ _⟩, ⟨bB⟩⟩
 case round =>
  clear H'; try clear c1
  obtain ⟨eF, ck, rfl, HA, HK1, bT, HB⟩ := hrel; cases gk with
  | zero => exact absurd HA.out (by simp [QC.l0])
  | succ k1 =>
   have H := HA.out; clear HA; simp only [QC.l0] at H; by_cases c2 : ck < (l0.length : Int)
   ·rw [if_pos c2] at H; have pE : decide (ck < (l0.length : Int)) = true := decide_eq_true c2; clear c2; obtain ⟨eE, dU⟩ : ∃ y_ : List Int, y_ = (([] : List Int)) := ⟨_, rfl⟩; replace H : (if 0 ≤ ck then (if eE.length + (Qt l0 ck).length < 17592186044416 then (if eF.length < 5864062014805 then (QC.l0 k1 l0 (eF ++ [(eE ++ (Qt l0 ck))]) (wrap64 (ck + 1))) else (none)) else (none)) else (none)) = some r := by first | (rw [dU]; with_reducible exact H) | (have H2_ := (Option.bind_some _ _).symm.trans H; rw [dU]; with_reducible exact H2_) | (have H2_ := (Option.bind_some _ _).symm.trans H; with_reducible exact H2_) | with_reducible exact H | (rw [dU]; exact H) | exact H
    have fm := aa.mk dU; clear dU; by_cases c3 : 0 ≤ ck
    ·rw [if_pos c3] at H; have cK : decide (0 ≤ ck) = true := decide_eq_true c3; clear c3; by_cases c4 : eE.length + (Qt l0 ck).length < 17592186044416
     ·rw [if_pos c4] at H; have Du := aa.mk c4; clear c4; obtain ⟨gD, dF⟩ : ∃ y_ : List Int, y_ = (eE ++ (Qt l0 ck)) := ⟨_, rfl⟩; replace H : (if eF.length < 5864062014805 then (QC.l0 k1 l0 (eF ++ [gD]) (wrap64 (ck + 1))) else (none)) = some r := by first | (rw [dF]; with_reducible exact H) | (have H2_ := (Option.bind_some _ _).symm.trans H; rw [dF]; with_reducible exact H2_) | (have H2_ := (Option.bind_some _ _).symm.trans H; with_reducible exact H2_) | with_reducible exact H | (rw [dF]; exact H) | exact H
      have jJ := aa.mk dF; clear dF; by_cases c5 : eF.length < 5864062014805
      ·rw [if_pos c5] at H; have tJ := aa.mk c5; clear c5; obtain ⟨jr, eP⟩ : ∃ y_ : List (List Int), y_ = (eF ++ [gD]) := ⟨_, rfl⟩; replace H : (QC.l0 k1 l0 jr (wrap64 (ck + 1))) = some r := by first | (rw [eP]; with_reducible exact H) | (have H2_ := (Option.bind_some _ _).symm.trans H; rw [eP]; with_reducible exact H2_) | (have H2_ := (Option.bind_some _ _).symm.trans H; with_reducible exact H2_) | with_reducible exact H | (rw [eP]; exact H) | exact H
       have lp := aa.mk eP; clear eP; have H' := aa.mk H; clear H; go_wp2_with (first | ((with_reducible refine QD (N := 12) rfl ?_); refine Kd.YP (Kd.int .i64) _ 3 ?hg (N := 12) ?hd (xs := ([] : List Int)) (inner := []) (ok := fun _ => True) (okp := fun _ => True) ?hr ?hp (fun _ hk => hk) trivial (Below.refl _ _) (Nat.le_refl _) (by simp) ?_; (case hd => rfl); (case hg => rfl); (case hr => first | (go_simp; done) | (go_simp; rfl)); (case hp => exact (Reps.none _ _)); intro lz w6 ho7 hb hg_ hnew_; clear hg_ hnew_; (first | rw [← fm.out] at ho7 | (simp only [Int.reduceToNat] at ho7; rw [← fm.out] at ho7)); replace bT := aa.mk (Kd.Zo bT.out (Kd.Q9 ho7) hb); have bJ := aa.mk (Kd.Zk ho7 (Qe bB)); replace HB := aa.mk (Qd bB hb); clear hb ho7; have fq : 0 ≤ (ck : Int) := of_decide_eq_true (by assumption); have fp : ck < (l0.length : Int) := of_decide_eq_true (by assumption); obtain ⟨pK, p4, pI, nn, b0, fA, fD⟩ := ZH HR0.out ck fq fp; cases nn; replace b0 := (HB.out.cell (World.block_lt_of_cell? w _ b0)).trans b0; have l5 := aa.mk fD; have oM := aa.mk fA; clear fD fA; replace fq := eq_true fq; replace fp := eq_true fp) | ((with_reducible refine ZM (b := .append) (xs := #[.tmp 12, .tmp 16]) rfl ?_); at_builtin; refine Kd.Yt (Kd.int .i64) (w0 := w) w.heap.size rfl (.tmp 12) (.tmp 16) 28 3 (.int .i64 0) 8 rfl Try.underlying28 info3 rfl (by decide) (by omega) lz eE (Qt l0 ck) _ _ _ (fun _ => True) (fun _ => False) rfl rfl ?aO ?aR (fun _ _ h => h) (fun _ h => h.elim) ?aF ?aB ?aS ?aL ?_; (case aR => exact (Kd.Ql l5.out HB.out)); (case aB => exact bB); (case aF => exact (fun _ _ => trivial)); (case aO => exact bJ.out); (case aS => exact (Qe bB)); (case aL => have := Du.out; omega); intro p9 w8 ho hb hg hat; rw [← jJ.out] at ho; replace bT := aa.mk (Kd.S_after (ok := (fun _ => True)) bT.out hg hat); replace HB := aa.mk (hb); have eS := aa.mk (ho); clear bJ; clear ho hb hg hat; obtain ⟨rQ, lX, tB⟩ := Kd.Zs eS.out; subst tB) | ((with_reducible refine ZM (b := .append) (xs := #[.tmp 11, .tmp 18]) rfl ?_); at_builtin; refine Kd.UF (Kd.slice 3 (Kd.int .i64)) (w0 := w) w.heap.size rfl (.tmp 11) (.tmp 18) 22 28 (.slice none 0 0) 24 rfl Try.underlying22 info28 rfl (by decide) (by omega) u3 eF gD [.slice rQ gD.length lX] (fun _ => True) (fun k_ => some k_ = (.slice rQ gD.length lX : Value).ownBlock) rfl rfl ?aP (fun k_ hk_ => ((Kd.Zm (ok' := fun k_ => ((fun _ => True)) k_ ∧ some k_ ≠ (u3 : Value).ownBlock) (Kd.ZD (eS.out) (Kd.Vl bT.out) (by decide)) (fun k_ hk => ⟨trivial, hk.2⟩))).1 k_ hk_.symm) ?aF ?aO ?aB ?aS ?aL ?_; (case aP => exact Kd.M_row (Kd.Zm (Kd.Ub rfl (Kd.Zm (ok' := fun k_ => ((fun _ => True)) k_ ∧ some k_ ≠ (u3 : Value).ownBlock) (Kd.ZD (eS.out) (Kd.Vl bT.out) (by decide)) (fun k_ hk => ⟨trivial, hk.2⟩))) (fun _ h_ => h_))); (case aB => exact bB); (case aF => exact (fun _ _ => trivial)); (case aO => exact (by (with_reducible repeat (first | apply Kd.S_alloc | apply Kd.S_drewN | apply Kd.S_drew)); exact Kd.Jr bT.out (fun k_ hk => ⟨trivial, fun e_ => hk.2 e_⟩))); (case aS => exact (Qe bB)); (case aL => have := tJ.out; omega); intro fY w9 ho hb hg hat; rw [← lp.out] at ho; replace HB := aa.mk (hb); have bN := aa.mk (ho); clear eS bT; clear ho hb hg hat))
       go_roundg k1
       case measure => have := HK1.out; omega
       case rel => exact ⟨(jr), (wrap64 (ck + 1)), (by first | rfl | (simp; done) | (simp [*]; done)), H', ⟨by have := HK1.out; omega⟩, ⟨by (with_reducible repeat (first | apply Kd.S_alloc | apply Kd.S_drewN | apply Kd.S_drew)); exact bN.out⟩, ⟨bB⟩⟩
      ·rw [if_neg c5] at H; exact absurd H (by simp)
     ·rw [if_neg c4] at H; exact absurd H (by simp)
    ·rw [if_neg c3] at H; exact absurd H (by simp)
   ·rw [if_neg c2] at H; have pE : decide (ck < (l0.length : Int)) = false := decide_eq_false c2; clear c2; obtain rfl := Option.some.inj H; go_wp2; go_ret; exact ⟨_, by first | rfl | (simp [Qo, Qn] <;> rfl) | (simp [*, Qo, Qn] <;> rfl), by (with_reducible repeat (first | apply Kd.S_alloc | apply Kd.S_drewN | apply Kd.S_drew)); exact bT.out, bB⟩
def QK.l0 : Nat → List (List Int) → List (List Int) → Int → Option (Bool)
 | 0, _, _, _ => none
 | k + 1, x0, x1, x5 => if x5 < (x0.length : Int) then (if 0 ≤ x5 then (if x5 < (x1.length : Int) then ((Qs.f k (Qt x0 x5) (Qt x1 x5)).bind fun t103 => (if t103 = true then (QK.l0 k x0 x1 (wrap64 (x5 + 1))) else (some false))) else (none)) else (none)) else (some true)
def QK.f (k : Nat) (l0 : List (List Int)) (l1 : List (List Int)) : Option (Bool) := if (l0.length : Int) = (l1.length : Int) then (QK.l0 k l0 l1 0) else (some false)
set_option maxHeartbeats 8000000 in
set_option maxRecDepth 100000 in
theorem QK.calls (k : Nat) (A0 : Option Addr) (c0 : Nat) (l0 : List (List Int)) (A1 : Option Addr) (c1 : Nat) (l1 : List (List Int)) (r : Bool) (w : World) (hr0 : Kd.C (Kd.slice 3 (Kd.int .i64)) w A0 l0.length l0) (hc0 : l0.length ≤ c0) (hr1 : Kd.C (Kd.slice 3 (Kd.int .i64)) w A1 l1.length l1) (hc1 : l1.length ≤ c1) (h : QK.f k l0 l1 = some r) :
  Calls Try.prog 109 #[.slice A0 l0.length c0, .slice A1 l1.length c1] w fun e w' => e = .returned (.bool r) ∧ Drawn0 w w' := by
 have HR0 := aa.mk hr0; have HC0 := aa.mk hc0; clear hr0 hc0; have HR1 := aa.mk hr1; have HC1 := aa.mk hc1; clear hr1 hc1; have H : (if (l0.length : Int) = (l1.length : Int) then (QK.l0 k l0 l1 0) else (some false)) = some r := h; clear h; by_cases c3 : (l0.length : Int) = (l1.length : Int)
 ·rw [if_pos c3] at H; have cK : ((l0.length : Int) == (l1.length : Int)) = true := beq_iff_eq.mpr c3; have dD : ((l0.length : Int) != (l1.length : Int)) = false := bne_eq_false_iff_eq.mpr c3; have jg : (l0.length == l1.length) = true := by first | simpa using c3 | (simp at c3 ⊢; omega)
  clear c3; have H' := aa.mk H; clear H; go_enter Try.func109, Try.ntmps109; go_wp2; repeat (go_quiet (fail); try go_wp2)
  go_loopg [5] k (fun kq v5 w' => ∃ (aN : Int), v5 = .int .i64 aN ∧ aa (QK.l0 kq l0 l1 aN = some r) ∧ aa (kq ≤ k) ∧ Drawn0 w w')
  case atStart => exact ⟨(0), (by first | rfl | (simp; done) | (simp [*]; done)), H', ⟨Nat.le_refl _⟩, by repeat (first | exact Drawn0.refl _ | apply Drawn0.step)⟩
  case round =>
   clear H'; try clear c1
   try clear p2
   try clear c3
   try clear cK
   try clear dD
   try clear jg
   obtain ⟨aN, rfl, HA, HK1, ⟨m1, rfl⟩⟩ := hrel; cases gk with
   | zero => exact absurd HA.out (by simp [QK.l0])
   | succ k1 =>
    have H := HA.out; clear HA; simp only [QK.l0] at H; by_cases c4 : aN < (l0.length : Int)
    ·rw [if_pos c4] at H; have cn : decide (aN < (l0.length : Int)) = true := decide_eq_true c4; clear c4; by_cases c5 : 0 ≤ aN
     ·rw [if_pos c5] at H; have fl : decide (0 ≤ aN) = true := decide_eq_true c5; clear c5; by_cases c6 : aN < (l1.length : Int)
      ·rw [if_pos c6] at H; have gZ : decide (aN < (l1.length : Int)) = true := decide_eq_true c6; clear c6; replace H := Option.bind_eq_some_iff.mp H; obtain ⟨t103, A70, H⟩ := H; replace H : (if t103 = true then (QK.l0 k1 l0 l1 (wrap64 (aN + 1))) else (some false)) = some r := H; have A7 := aa.mk A70; clear A70; by_cases c8 : t103 = true
       ·subst c8; have H1 : (QK.l0 k1 l0 l1 (wrap64 (aN + 1))) = some r := by rw [if_pos rfl] at H; exact H
        clear H; have H := H1; clear H1; have H' := aa.mk H; clear H; have bZ : 0 ≤ (aN : Int) := of_decide_eq_true (by assumption); have bY : aN < (l0.length : Int) := of_decide_eq_true (by assumption); obtain ⟨gf, iF, iD, eK, b8, cT, cU⟩ := ZH HR0.out aN bZ bY; cases eK; have cM := aa.mk cU; have cN := aa.mk cT; clear cU cT; replace bZ := eq_true bZ; replace bY := eq_true bY; have bS : 0 ≤ (aN : Int) := of_decide_eq_true (by assumption); have bR : aN < (l1.length : Int) := of_decide_eq_true (by assumption); obtain ⟨bX, eW, eV, eB, bh, cA, cB⟩ := ZH HR1.out aN bS bR; cases eB; have cL := aa.mk cB; have cR := aa.mk cA; clear cB cA; replace bS := eq_true bS; replace bR := eq_true bR; go_wp2_with (first | (go_at_call 45; (with_reducible refine (Qs.calls k1 _ _ (Qt l0 aN) _ _ (Qt l1 aN) true _ ?aj ?ai ?au ?ar A7.out).mono ?_); (case aj => exact cM.out); (case ai => exact cN.out); (case au => exact cL.out); (case ar => exact cR.out); rintro e w' ⟨rfl, ⟨nd, rfl⟩⟩; (try first | exact ⟨rfl, _, World.drewN_drewN _ _ _⟩ | exact ⟨rfl, _, Eq.trans (World.drewN_drewN _ _ _) (congrArg (World.drewN _) (Nat.add_assoc _ _ _))⟩)))
        repeat (go_quiet (first | (go_at_call 45; (with_reducible refine (Qs.calls k1 _ _ (Qt l0 aN) _ _ (Qt l1 aN) true _ ?aj ?ai ?au ?ar A7.out).mono ?_); (case aj => exact cM.out); (case ai => exact cN.out); (case au => exact cL.out); (case ar => exact cR.out); rintro e w' ⟨rfl, ⟨nd, rfl⟩⟩; (try first | exact ⟨rfl, _, World.drewN_drewN _ _ _⟩ | exact ⟨rfl, _, Eq.trans (World.drewN_drewN _ _ _) (congrArg (World.drewN _) (Nat.add_assoc _ _ _))⟩))); try go_wp2_with (first | (go_at_call 45; (with_reducible refine (Qs.calls k1 _ _ (Qt l0 aN) _ _ (Qt l1 aN) true _ ?aj ?ai ?au ?ar A7.out).mono ?_); (case aj => exact cM.out); (case ai => exact cN.out); (case au => exact cL.out); (case ar => exact cR.out); rintro e w' ⟨rfl, ⟨nd, rfl⟩⟩; (try first | exact ⟨rfl, _, World.drewN_drewN _ _ _⟩ | exact ⟨rfl, _, Eq.trans (World.drewN_drewN _ _ _) (congrArg (World.drewN _) (Nat.add_assoc _ _ _))⟩))))
        go_roundg k1
        case measure => have := HK1.out; omega
        case rel => exact ⟨(wrap64 (aN + 1)), (by first | rfl | (simp; done) | (simp [*]; done)), H', ⟨by have := HK1.out; omega⟩, by repeat (first | exact Drawn0.refl _ | apply Drawn0.step)⟩
       ·replace c8 := Bool.eq_false_iff.mpr c8; subst c8; have H1 : (some false) = some r := by rw [if_neg (show ¬ (false = true) by decide)] at H; exact H
        clear H; have H := H1; clear H1; obtain rfl := Option.some.inj H; have bZ : 0 ≤ (aN : Int) := of_decide_eq_true (by assumption); have bY : aN < (l0.length : Int) := of_decide_eq_true (by assumption); obtain ⟨gf, iF, iD, eK, b8, cT, cU⟩ := ZH HR0.out aN bZ bY; cases eK; have cM := aa.mk cU; have cN := aa.mk cT; clear cU cT; replace bZ := eq_true bZ; replace bY := eq_true bY; have bS : 0 ≤ (aN : Int) := of_decide_eq_true (by assumption); have bR : aN < (l1.length : Int) := of_decide_eq_true (by assumption); obtain ⟨bX, eW, eV, eB, bh, cA, cB⟩ := ZH HR1.out aN bS bR; cases eB; have cL := aa.mk cB; have cR := aa.mk cA; clear cB cA; replace bS := eq_true bS; replace bR := eq_true bR; go_wp2_with (first | (go_at_call 45; (with_reducible refine (Qs.calls k1 _ _ (Qt l0 aN) _ _ (Qt l1 aN) false _ ?aj ?ai ?au ?ar A7.out).mono ?_); (case aj => exact cM.out); (case ai => exact cN.out); (case au => exact cL.out); (case ar => exact cR.out); rintro e w' ⟨rfl, ⟨nd, rfl⟩⟩; (try first | exact ⟨rfl, _, World.drewN_drewN _ _ _⟩ | exact ⟨rfl, _, Eq.trans (World.drewN_drewN _ _ _) (congrArg (World.drewN _) (Nat.add_assoc _ _ _))⟩)))
        repeat (go_quiet (first | (go_at_call 45; (with_reducible refine (Qs.calls k1 _ _ (Qt l0 aN) _ _ (Qt l1 aN) false _ ?aj ?ai ?au ?ar A7.out).mono ?_); (case aj => exact cM.out); (case ai => exact cN.out); (case au => exact cL.out); (case ar => exact cR.out); rintro e w' ⟨rfl, ⟨nd, rfl⟩⟩; (try first | exact ⟨rfl, _, World.drewN_drewN _ _ _⟩ | exact ⟨rfl, _, Eq.trans (World.drewN_drewN _ _ _) (congrArg (World.drewN _) (Nat.add_assoc _ _ _))⟩))); try go_wp2_with (first | (go_at_call 45; (with_reducible refine (Qs.calls k1 _ _ (Qt l0 aN) _ _ (Qt l1 aN) false _ ?aj ?ai ?au ?ar A7.out).mono ?_); (case aj => exact cM.out); (case ai => exact cN.out); (case au => exact cL.out); (case ar => exact cR.out); rintro e w' ⟨rfl, ⟨nd, rfl⟩⟩; (try first | exact ⟨rfl, _, World.drewN_drewN _ _ _⟩ | exact ⟨rfl, _, Eq.trans (World.drewN_drewN _ _ _) (congrArg (World.drewN _) (Nat.add_assoc _ _ _))⟩))))
        go_ret; exact ⟨by first | rfl | (simp; done) | (simp [*]; done), by repeat (first | exact Drawn0.refl _ | apply Drawn0.step)⟩
      ·rw [if_neg c6] at H; exact absurd H (by simp)
     ·rw [if_neg c5] at H; exact absurd H (by simp)
    ·rw [if_neg c4] at H; have cn : decide (aN < (l0.length : Int)) = false := decide_eq_false c4; clear c4; obtain rfl := Option.some.inj H; go_wp2; repeat (go_quiet (fail); try go_wp2)
     go_ret; exact ⟨by first | rfl | (simp; done) | (simp [*]; done), by repeat (first | exact Drawn0.refl _ | apply Drawn0.step)⟩
 ·rw [if_neg c3] at H; have cK : ((l0.length : Int) == (l1.length : Int)) = false := beq_eq_false_iff_ne.mpr c3; have dD : ((l0.length : Int) != (l1.length : Int)) = true := bne_iff_ne.mpr c3; have jg : (l0.length == l1.length) = false := by first | simpa using c3 | (simp at c3 ⊢; omega)
  obtain rfl := Option.some.inj H; go_enter Try.func109, Try.ntmps109; go_wp2; repeat (go_quiet (fail); try go_wp2)
  go_ret; exact ⟨by first | rfl | (simp; done) | (simp [*]; done), by repeat (first | exact Drawn0.refl _ | apply Drawn0.step)⟩
def ZE.f (k : Nat) (ae : List (List Int)) (ag : List (List Int)) (av : List (List Int)) (aw : List (List Int)) : Option (Bool) := (QK.f k ae av).bind fun t103 => (if t103 = true then ((QK.f k ag aw).bind fun t104 => (some t104)) else (some false))
set_option maxHeartbeats 8000000 in
set_option maxRecDepth 100000 in
theorem ZE.calls (k : Nat) (aq : Option Addr) (an : Nat) (ae : List (List Int)) (ak : Option Addr) (ao : Nat) (ag : List (List Int)) (aY : Option Addr) (aZ : Nat) (av : List (List Int)) (aV : Option Addr) (bc : Nat) (aw : List (List Int)) (r : Bool) (w : World) (bp : Kd.C (Kd.slice 3 (Kd.int .i64)) w aq ae.length ae) (br : ae.length ≤ an) (bo : Kd.C (Kd.slice 3 (Kd.int .i64)) w ak ag.length ag) (bq : ag.length ≤ ao) (fx : Kd.C (Kd.slice 3 (Kd.int .i64)) w aY av.length av) (fR : av.length ≤ aZ) (fw : Kd.C (Kd.slice 3 (Kd.int .i64)) w aV aw.length aw) (fQ : aw.length ≤ bc) (h : ZE.f k ae ag av aw = some r) :
  Calls Try.prog 65 #[.agg #[.slice aq ae.length an, .slice ak ag.length ao], .agg #[.slice aY av.length aZ, .slice aV aw.length bc]] w fun e w' => e = .returned (.bool r) ∧ Below w.heap.size w w' := by
 have fa := Try.underlying24; have aI := aa.mk bp; have aQ := aa.mk br; clear bp br; have aW := aa.mk bo; have aT := aa.mk bq; clear bo bq; have cF := aa.mk fx; have cm := aa.mk fR; clear fx fR; have cW := aa.mk fw; have cw := aa.mk fQ; clear fw fQ; have HB := aa.mk (Below.refl w.heap.size w); have H : ((QK.f k ae av).bind fun t103 => (if t103 = true then ((QK.f k ag aw).bind fun t104 => (some t104)) else (some false))) = some r := h; clear h; replace H := Option.bind_eq_some_iff.mp H; obtain ⟨t103, A30, H⟩ := H; replace H : (if t103 = true then ((QK.f k ag aw).bind fun t104 => (some t104)) else (some false)) = some r := H; have A3 := aa.mk A30; clear A30; by_cases c4 : t103 = true
 ·subst c4; have H1 : ((QK.f k ag aw).bind fun t104 => (some t104)) = some r := by rw [if_pos rfl] at H; exact H
  clear H; have H := H1; clear H1; replace H := Option.bind_eq_some_iff.mp H; obtain ⟨t104, A50, H⟩ := H; replace H : (some t104) = some r := H; have A5 := aa.mk A50; clear A50; obtain rfl := Option.some.inj H; go_enter Try.func65, Try.ntmps65; go_wp2_with (first | ((with_reducible refine QD (N := 2) rfl ?_); refine QJ ?hg (N := 2) ?hd (cs := #[.slice aq ae.length an, .slice ak ag.length ao]) (t := 24) ?hr ?_; (case hd => rfl); (case hg => rfl); (case hr => first | (go_simp; done) | (go_simp; rfl)); intro af hg w6 hbox hb; have ab := aa.mk (hbox); have bA := aa.mk ((by rw [hg]; exact (Qe bB) : w.heap.size ≤ af)); have bk := aa.mk ((by rw [hg]; exact (Qe bB) : w.heap.size ≤ af)); replace HB := aa.mk (Qd bB hb); clear hb hbox hg) | ((with_reducible refine QD (N := 3) rfl ?_); refine QJ ?hg (N := 3) ?hd (cs := #[.slice aY av.length aZ, .slice aV aw.length bc]) (t := 24) ?hr ?_; (case hd => rfl); (case hg => rfl); (case hr => first | (go_simp; done) | (go_simp; rfl)); intro al hg w7 hbox hb; have ah := aa.mk (hbox); have fo := aa.mk ((by rw [hg]; exact (Qe bB) : w.heap.size ≤ al)); have e0 := aa.mk ((by rw [hg]; exact (Qe bB) : w.heap.size ≤ al)); replace HB := aa.mk (Qd bB hb); have aM := aa.mk ((by rw [hg]; exact Nat.ne_of_lt (Q7 (g := af) (o := .cells #[.slice aq ae.length an, .slice ak ag.length ao] 24 (0, 0)) (by (with_reducible repeat (first | refine Qg ?_ _ | refine Qh ?_ | refine Qf ?_ _)); exact ab.out)) : af ≠ al)); have aK := aa.mk ((by rw [hg]; exact Nat.ne_of_gt (Q7 (g := af) (o := .cells #[.slice aq ae.length an, .slice ak ag.length ao] 24 (0, 0)) (by (with_reducible repeat (first | refine Qg ?_ _ | refine Qh ?_ | refine Qf ?_ _)); exact ab.out)) : al ≠ af)); replace ab := aa.mk (Qc ab.out hb); clear hb hbox hg; have B2 := aM.out; have Br := aK.out; have kA : w7.cell? ⟨af, 0, none⟩ = some (.slice aq ae.length an) := (Qa ab.out 0).trans rfl; have kz : w7.cell? ⟨af, 1, none⟩ = some (.slice ak ag.length ao) := (Qa ab.out 1).trans rfl; have ky := Qb ab.out 0; have kx := Qb ab.out 1; have fP : w7.cell? ⟨al, 0, none⟩ = some (.slice aY av.length aZ) := (Qa ah.out 0).trans rfl; have fO : w7.cell? ⟨al, 1, none⟩ = some (.slice aV aw.length bc) := (Qa ah.out 1).trans rfl; have fJ := Qb ah.out 0; have fI := Qb ah.out 1) | ((with_reducible refine Qk (f := 109) rfl ?_); refine QE (some 9) rfl rfl Try.func109 (by kernel_rfl) rfl #[.slice aq ae.length an, .slice aY av.length aZ] rfl hA ?_; (with_reducible refine (QK.calls k _ _ ae _ _ av true _ ?aj ?ai ?au ?ar A3.out).mono ?_); (case aj => exact (Kd.Ql aI.out HB.out)); (case ai => exact aQ.out); (case au => exact (Kd.Ql cF.out HB.out)); (case ar => exact cm.out); rintro e w' ⟨rfl, ⟨nd, rfl⟩⟩; refine ⟨_, rfl, ?_⟩) | (go_at_call 109; (with_reducible refine (QK.calls k _ _ ag _ _ aw t104 _ ?aj ?ai ?au ?ar A5.out).mono ?_); (case aj => repeat (first | exact (Kd.Ql aW.out bB) | (with_reducible refine Kd.C_alloc ?_ _) | (with_reducible refine Kd.ZA ?_ _) | (with_reducible refine Kd.C_drew ?_))); (case ai => exact aT.out); (case au => repeat (first | exact (Kd.Ql cW.out bB) | (with_reducible refine Kd.C_alloc ?_ _) | (with_reducible refine Kd.ZA ?_ _) | (with_reducible refine Kd.C_drew ?_))); (case ar => exact cw.out); rintro e w' ⟨rfl, ⟨nd, rfl⟩⟩))
  go_ret; exact ⟨by first | rfl | (simp [Qo, Qn] <;> rfl) | (simp [*, Qo, Qn] <;> rfl), bB⟩
 ·replace c4 := Bool.eq_false_iff.mpr c4; subst c4; have H1 : (some false) = some r := by rw [if_neg (show ¬ (false = true) by decide)] at H; exact H
  clear H; have H := H1; clear H1; obtain rfl := Option.some.inj H; go_enter Try.func65, Try.ntmps65; go_wp2_with (first | ((with_reducible refine QD (N := 2) rfl ?_); refine QJ ?hg (N := 2) ?hd (cs := #[.slice aq ae.length an, .slice ak ag.length ao]) (t := 24) ?hr ?_; (case hd => rfl); (case hg => rfl); (case hr => first | (go_simp; done) | (go_simp; rfl)); intro af hg w11 hbox hb; have ab := aa.mk (hbox); have bA := aa.mk ((by rw [hg]; exact (Qe bB) : w.heap.size ≤ af)); have bk := aa.mk ((by rw [hg]; exact (Qe bB) : w.heap.size ≤ af)); replace HB := aa.mk (Qd bB hb); clear hb hbox hg) | ((with_reducible refine QD (N := 3) rfl ?_); refine QJ ?hg (N := 3) ?hd (cs := #[.slice aY av.length aZ, .slice aV aw.length bc]) (t := 24) ?hr ?_; (case hd => rfl); (case hg => rfl); (case hr => first | (go_simp; done) | (go_simp; rfl)); intro al hg w12 hbox hb; have ah := aa.mk (hbox); have fo := aa.mk ((by rw [hg]; exact (Qe bB) : w.heap.size ≤ al)); have e0 := aa.mk ((by rw [hg]; exact (Qe bB) : w.heap.size ≤ al)); replace HB := aa.mk (Qd bB hb); have aM := aa.mk ((by rw [hg]; exact Nat.ne_of_lt (Q7 (g := af) (o := .cells #[.slice aq ae.length an, .slice ak ag.length ao] 24 (0, 0)) (by (with_reducible repeat (first | refine Qg ?_ _ | refine Qh ?_ | refine Qf ?_ _)); exact ab.out)) : af ≠ al)); have aK := aa.mk ((by rw [hg]; exact Nat.ne_of_gt (Q7 (g := af) (o := .cells #[.slice aq ae.length an, .slice ak ag.length ao] 24 (0, 0)) (by (with_reducible repeat (first | refine Qg ?_ _ | refine Qh ?_ | refine Qf ?_ _)); exact ab.out)) : al ≠ af)); replace ab := aa.mk (Qc ab.out hb); clear hb hbox hg; have ED := aM.out; have Eb := aK.out; have jf : w12.cell? ⟨af, 0, none⟩ = some (.slice aq ae.length an) := (Qa ab.out 0).trans rfl; have je : w12.cell? ⟨af, 1, none⟩ = some (.slice ak ag.length ao) := (Qa ab.out 1).trans rfl; have iZ := Qb ab.out 0; have iY := Qb ab.out 1; have fL : w12.cell? ⟨al, 0, none⟩ = some (.slice aY av.length aZ) := (Qa ah.out 0).trans rfl; have fK : w12.cell? ⟨al, 1, none⟩ = some (.slice aV aw.length bc) := (Qa ah.out 1).trans rfl; have fF := Qb ah.out 0; have fE := Qb ah.out 1) | ((with_reducible refine Qk (f := 109) rfl ?_); refine QE (some 9) rfl rfl Try.func109 (by kernel_rfl) rfl #[.slice aq ae.length an, .slice aY av.length aZ] rfl hA ?_; (with_reducible refine (QK.calls k _ _ ae _ _ av false _ ?aj ?ai ?au ?ar A3.out).mono ?_); (case aj => exact (Kd.Ql aI.out HB.out)); (case ai => exact aQ.out); (case au => exact (Kd.Ql cF.out HB.out)); (case ar => exact cm.out); rintro e w' ⟨rfl, ⟨nd, rfl⟩⟩; refine ⟨_, rfl, ?_⟩))
  go_ret; exact ⟨by first | rfl | (simp [Qo, Qn] <;> rfl) | (simp [*, Qo, Qn] <;> rfl), bB⟩
def QB.j0 : Nat → Bool → List (List Int) → List (List Int) → List (List Int) → List (List Int) → Option ((List (List Int)) × (List (List Int)) × Int)
 | 0, _, _, _, _, _ => none
 | k + 1, x48, aE, aG, eN, eM => if x48 = true then (some (([] : List (List Int)), ([] : List (List Int)), 3)) else ((QC.f k aE).bind fun t108 => ((QC.f k eN).bind fun t111 => (if t108.length + t111.length < 5864062014805 then ((QC.f k aG).bind fun t117 => ((QC.f k eM).bind fun t120 => (if t117.length + t120.length < 5864062014805 then (some ((t108 ++ t111), (t117 ++ t120), 0)) else (none)))) else (none))))
def QB.f (k : Nat) (ae : List (List Int)) (ag : List (List Int)) (av : List (List Int)) (aw : List (List Int)) : Option ((List (List Int)) × (List (List Int)) × Int) := (Qi.f k ae ag).bind fun t104 => (if t104 = 0 then ((Qi.f k av aw).bind fun t105 => (if t105 = 0 then (if 0 < (ae.length : Int) then (if 0 < (av.length : Int) then (if ((Qt ae 0).length : Int) = ((Qt av 0).length : Int) then (if (wrap64 ((ae.length : Int) + (av.length : Int))) > 3 then (QB.j0 k true ae ag av aw) else (QB.j0 k (decide ((wrap64 ((ag.length : Int) + (aw.length : Int))) > 3)) ae ag av aw)) else (some (([] : List (List Int)), ([] : List (List Int)), 5))) else (none)) else (none)) else (some (([] : List (List Int)), ([] : List (List Int)), t105)))) else (some (([] : List (List Int)), ([] : List (List Int)), t104)))
def QB.T7 : Bool × List (List Nat × List Nat) := (true, [([], []), ([0], [0]), ([1], [1]), ([2], [2]), ([3], [3]), ([], []), ([5], [5]), ([6], [6]), ([7], [7]), ([8], [8]), ([4, 9], [4, 9])])
def QB.B7 : List Nat := [0, 1, 3, 7, 15, 0, 32, 96, 224, 480, 1023]
theorem QB.tab7 : rtab .any (opsOf Try.f67 7) = QB.T7 := by kernel_rfl
theorem QB.bits7 : waitsOk QB.T7.2 QB.B7 = true := by kernel_rfl
def QB.T11 : Bool × List (List Nat × List Nat) := (true, [([], []), ([0], [0]), ([1], [1]), ([], []), ([3], [3]), ([4, 2], [4]), ([2, 5, 5], [2, 5]), ([], []), ([7], [7]), ([8, 6], [8]), ([], []), ([10], [10]), ([11, 9], [11]), ([9, 12, 12], [9, 12]), ([6, 13], [6, 13]), ([14, 13, 0, 1, 2, 3, 4, 5, 6, 7, 8, 9, 10, 11, 12, 13, 14], [14]), ([15, 0, 1, 2, 3, 4, 5, 6, 7, 8, 9, 10, 11, 12, 13, 14, 15], [])])
def QB.B11 : List Nat := [0, 1, 3, 0, 8, 31, 63, 0, 128, 511, 0, 1024, 4095, 8191, 16383, 32767, 65535]
theorem QB.tab11 : rtab .any (opsOf Try.f67 11) = QB.T11 := by kernel_rfl
theorem QB.bits11 : waitsOk QB.T11.2 QB.B11 = true := by kernel_rfl
set_option maxHeartbeats 8000000 in
set_option maxRecDepth 100000 in
theorem QB.calls (k : Nat) (aq : Option Addr) (an : Nat) (ae : List (List Int)) (ak : Option Addr) (ao : Nat) (ag : List (List Int)) (aY : Option Addr) (aZ : Nat) (av : List (List Int)) (aV : Option Addr) (bc : Nat) (aw : List (List Int)) (r1 : List (List Int)) (r2 : List (List Int)) (r3 : Int) (w : World) (bp : Kd.C (Kd.slice 3 (Kd.int .i64)) w aq ae.length ae) (br : ae.length ≤ an) (bo : Kd.C (Kd.slice 3 (Kd.int .i64)) w ak ag.length ag) (bq : ag.length ≤ ao) (fx : Kd.C (Kd.slice 3 (Kd.int .i64)) w aY av.length av) (fR : av.length ≤ aZ) (fw : Kd.C (Kd.slice 3 (Kd.int .i64)) w aV aw.length aw) (fQ : aw.length ≤ bc) (h : QB.f k ae ag av aw = some (r1, r2, r3)) :
  Calls Try.prog 67 #[.agg #[.slice aq ae.length an, .slice ak ag.length ao], .agg #[.slice aY av.length aZ, .slice aV aw.length bc]] w fun e w' => ∃ v0_ v1_ : Value, e = .returned (.tuple #[.agg #[v0_, v1_], .int .i64 r3]) ∧ Kd.N (Kd.slice 3 (Kd.int .i64)) 28 w' w.heap.size (fun k_ => (w.heap.size ≤ k_) ∧ some k_ ≠ (v1_ : Value).ownBlock) v0_ r1 ∧ Kd.N (Kd.slice 3 (Kd.int .i64)) 28 w' w.heap.size (fun k_ => (w.heap.size ≤ k_) ∧ some k_ ≠ (v0_ : Value).ownBlock) v1_ r2 ∧ Below w.heap.size w w' := by
 have fa := Try.underlying24; have aI := aa.mk bp; have aQ := aa.mk br; clear bp br; have aW := aa.mk bo; have aT := aa.mk bq; clear bo bq; have cF := aa.mk fx; have cm := aa.mk fR; clear fx fR; have cW := aa.mk fw; have cw := aa.mk fQ; clear fw fQ; have HB := aa.mk (Below.refl w.heap.size w); have H : ((Qi.f k ae ag).bind fun t104 => (if t104 = 0 then ((Qi.f k av aw).bind fun t105 => (if t105 = 0 then (if 0 < (ae.length : Int) then (if 0 < (av.length : Int) then (if ((Qt ae 0).length : Int) = ((Qt av 0).length : Int) then (if (wrap64 ((ae.length : Int) + (av.length : Int))) > 3 then (QB.j0 k true ae ag av aw) else (QB.j0 k (decide ((wrap64 ((ag.length : Int) + (aw.length : Int))) > 3)) ae ag av aw)) else (some (([] : List (List Int)), ([] : List (List Int)), 5))) else (none)) else (none)) else (some (([] : List (List Int)), ([] : List (List Int)), t105)))) else (some (([] : List (List Int)), ([] : List (List Int)), t104)))) = some (r1, r2, r3) := h; clear h; replace H := Option.bind_eq_some_iff.mp H; obtain ⟨t104, A30, H⟩ := H; replace H : (if t104 = 0 then ((Qi.f k av aw).bind fun t105 => (if t105 = 0 then (if 0 < (ae.length : Int) then (if 0 < (av.length : Int) then (if ((Qt ae 0).length : Int) = ((Qt av 0).length : Int) then (if (wrap64 ((ae.length : Int) + (av.length : Int))) > 3 then (QB.j0 k true ae ag av aw) else (QB.j0 k (decide ((wrap64 ((ag.length : Int) + (aw.length : Int))) > 3)) ae ag av aw)) else (some (([] : List (List Int)), ([] : List (List Int)), 5))) else (none)) else (none)) else (some (([] : List (List Int)), ([] : List (List Int)), t105)))) else (some (([] : List (List Int)), ([] : List (List Int)), t104))) = some (r1, r2, r3) := H; have A3 := aa.mk A30; clear A30; by_cases c4 : t104 = 0
 ·rw [if_pos c4] at H; have cn : (t104 == 0) = true := beq_iff_eq.mpr c4; have eC : (t104 != 0) = false := bne_eq_false_iff_eq.mpr c4; clear c4; replace H := Option.bind_eq_some_iff.mp H; obtain ⟨t105, A50, H⟩ := H; replace H : (if t105 = 0 then (if 0 < (ae.length : Int) then (if 0 < (av.length : Int) then (if ((Qt ae 0).length : Int) = ((Qt av 0).length : Int) then (if (wrap64 ((ae.length : Int) + (av.length : Int))) > 3 then (QB.j0 k true ae ag av aw) else (QB.j0 k (decide ((wrap64 ((ag.length : Int) + (aw.length : Int))) > 3)) ae ag av aw)) else (some (([] : List (List Int)), ([] : List (List Int)), 5))) else (none)) else (none)) else (some (([] : List (List Int)), ([] : List (List Int)), t105))) = some (r1, r2, r3) := H; have A5 := aa.mk A50; clear A50; by_cases c6 : t105 = 0
  ·rw [if_pos c6] at H; have gZ : (t105 == 0) = true := beq_iff_eq.mpr c6; have jV : (t105 != 0) = false := bne_eq_false_iff_eq.mpr c6; clear c6; by_cases c7 : 0 < (ae.length : Int)
   ·rw [if_pos c7] at H; have jU : decide (0 < (ae.length : Int)) = true := decide_eq_true c7; have np : decide (0 < ae.length) = true := decide_eq_true (by omega); clear c7; by_cases c8 : 0 < (av.length : Int)
    ·rw [if_pos c8] at H; have eQ : decide (0 < (av.length : Int)) = true := decide_eq_true c8; have jT : decide (0 < av.length) = true := decide_eq_true (by omega); clear c8; by_cases c9 : ((Qt ae 0).length : Int) = ((Qt av 0).length : Int)
     ·rw [if_pos c9] at H; have ft : (((Qt ae 0).length : Int) == ((Qt av 0).length : Int)) = true := beq_iff_eq.mpr c9; have pD : (((Qt ae 0).length : Int) != ((Qt av 0).length : Int)) = false := bne_eq_false_iff_eq.mpr c9; have pC : ((Qt ae 0).length == (Qt av 0).length) = true := by first | simpa using c9 | (simp at c9 ⊢; omega)
      clear c9; have nw := aa.mk H; clear H; go_enter Try.func67, Try.ntmps67; try go_wp2_with (first | ((with_reducible refine QD (N := 2) rfl ?_); (try (refine Q8 (by rfl) ?_; dsimp only)); refine QJ ?hg (N := 2) ?hd (cs := #[.slice aq ae.length an, .slice ak ag.length ao]) (t := 24) ?hr ?_; (case hd => rfl); (case hg => rfl); (case hr => first | (go_simp; done) | (go_simp; rfl)); intro af hg w11 hbox hb; have ab := aa.mk (hbox); have bA := aa.mk ((by rw [hg]; exact (Qe bB) : w.heap.size ≤ af)); have bk := aa.mk ((by rw [hg]; exact (Qe bB) : w.heap.size ≤ af)); replace HB := aa.mk (Qd bB hb); clear hb hbox hg) | ((with_reducible refine QD (N := 3) rfl ?_); (try (refine Q8 (by rfl) ?_; dsimp only)); refine QJ ?hg (N := 3) ?hd (cs := #[.slice aY av.length aZ, .slice aV aw.length bc]) (t := 24) ?hr ?_; (case hd => rfl); (case hg => rfl); (case hr => first | (go_simp; done) | (go_simp; rfl)); intro al hg w12 hbox hb; have ah := aa.mk (hbox); have fo := aa.mk ((by rw [hg]; exact (Qe bB) : w.heap.size ≤ al)); have e0 := aa.mk ((by rw [hg]; exact (Qe bB) : w.heap.size ≤ al)); replace HB := aa.mk (Qd bB hb); have aM := aa.mk ((by rw [hg]; exact Nat.ne_of_lt (Q7 (g := af) (o := .cells #[.slice aq ae.length an, .slice ak ag.length ao] 24 (0, 0)) (by (with_reducible repeat (first | refine Qg ?_ _ | refine Qh ?_ | refine Qf ?_ _)); exact ab.out)) : af ≠ al)); have aK := aa.mk ((by rw [hg]; exact Nat.ne_of_gt (Q7 (g := af) (o := .cells #[.slice aq ae.length an, .slice ak ag.length ao] 24 (0, 0)) (by (with_reducible repeat (first | refine Qg ?_ _ | refine Qh ?_ | refine Qf ?_ _)); exact ab.out)) : al ≠ af)); replace ab := aa.mk (Qc ab.out hb); clear hb hbox hg) | ((with_reducible refine QD (N := 4) rfl ?_); (try (refine Q8 (by rfl) ?_; dsimp only)); refine QJ ?hg (N := 4) ?hd (cs := #[.slice none 0 0, .slice none 0 0]) (t := 24) ?hr ?_; (case hd => rfl); (case hg => rfl); (case hr => first | (go_simp; done) | (go_simp; rfl)); intro az hg w13 hbox hb; have aA := aa.mk (hbox); have kU := aa.mk ((by rw [hg]; exact (Qe bB) : w.heap.size ≤ az)); have jN := aa.mk ((by rw [hg]; exact (Qe bB) : w.heap.size ≤ az)); replace HB := aa.mk (Qd bB hb); have a9 := aa.mk ((by rw [hg]; exact Nat.ne_of_lt (Q7 (g := af) (o := .cells #[.slice aq ae.length an, .slice ak ag.length ao] 24 (0, 0)) (by (with_reducible repeat (first | refine Qg ?_ _ | refine Qh ?_ | refine Qf ?_ _)); exact ab.out)) : af ≠ az)); have bu := aa.mk ((by rw [hg]; exact Nat.ne_of_gt (Q7 (g := af) (o := .cells #[.slice aq ae.length an, .slice ak ag.length ao] 24 (0, 0)) (by (with_reducible repeat (first | refine Qg ?_ _ | refine Qh ?_ | refine Qf ?_ _)); exact ab.out)) : az ≠ af)); replace ab := aa.mk (Qc ab.out hb); have a8 := aa.mk ((by rw [hg]; exact Nat.ne_of_lt (Q7 (g := al) (o := .cells #[.slice aY av.length aZ, .slice aV aw.length bc] 24 (0, 0)) (by (with_reducible repeat (first | refine Qg ?_ _ | refine Qh ?_ | refine Qf ?_ _)); exact ah.out)) : al ≠ az)); have bt := aa.mk ((by rw [hg]; exact Nat.ne_of_gt (Q7 (g := al) (o := .cells #[.slice aY av.length aZ, .slice aV aw.length bc] 24 (0, 0)) (by (with_reducible repeat (first | refine Qg ?_ _ | refine Qh ?_ | refine Qf ?_ _)); exact ah.out)) : az ≠ al)); replace ah := aa.mk (Qc ah.out hb); clear hb hbox hg; have vd := aM.out; have uO := aK.out; have vc := a9.out; have uN := bu.out; have jd : w13.cell? ⟨af, 0, none⟩ = some (.slice aq ae.length an) := (Qa ab.out 0).trans rfl; have jc : w13.cell? ⟨af, 1, none⟩ = some (.slice ak ag.length ao) := (Qa ab.out 1).trans rfl; have iX := Qb ab.out 0; have iW := Qb ab.out 1) | ((with_reducible refine Qk (f := 55) rfl ?_); refine QE (some 8) rfl rfl Try.func55 (by kernel_rfl) rfl #[.agg #[.slice aq ae.length an, .slice ak ag.length ao]] rfl hA ?_; (with_reducible refine (Qi.calls k (fun k_ => k_ < w.heap.size) _ _ ae (fun k_ => k_ < w.heap.size) _ _ ag t104 _ ?aj ?ai A3.out).mono ?_); (case aj => exact Kd.V_mk aQ.out (Kd.Z5 (Kd.C_F (Kd.ZG 3 (Kd.Z1 .i64)) aI.out) bB)); (case ai => exact Kd.V_mk aT.out (Kd.Z5 (Kd.C_F (Kd.ZG 3 (Kd.Z1 .i64)) aW.out) bB)); rintro e w17 ⟨rfl, hb⟩; refine ⟨_, rfl, ?_⟩; replace ab := aa.mk (Qc ab.out hb); replace ah := aa.mk (Qc ah.out hb); replace aA := aa.mk (Qc aA.out hb); replace HB := aa.mk (Qd bB hb); (try clear hb); (try clear hb2); (try clear hk); (try clear hi); have sd := a8.out; have r8 := bt.out; have gu : w17.cell? ⟨al, 0, none⟩ = some (.slice aY av.length aZ) := (Qa ah.out 0).trans rfl; have gr : w17.cell? ⟨al, 1, none⟩ = some (.slice aV aw.length bc) := (Qa ah.out 1).trans rfl; have gp := Qb ah.out 0; have gm := Qb ah.out 1) | ((with_reducible refine Qk (f := 55) rfl ?_); refine QE (some 14) rfl rfl Try.func55 (by kernel_rfl) rfl #[.agg #[.slice aY av.length aZ, .slice aV aw.length bc]] rfl hA ?_; (with_reducible refine (Qi.calls k (fun k_ => k_ < w.heap.size) _ _ av (fun k_ => k_ < w.heap.size) _ _ aw t105 _ ?aj ?ai A5.out).mono ?_); (case aj => exact Kd.V_mk cm.out (Kd.Z5 (Kd.C_F (Kd.ZG 3 (Kd.Z1 .i64)) cF.out) bB)); (case ai => exact Kd.V_mk cw.out (Kd.Z5 (Kd.C_F (Kd.ZG 3 (Kd.Z1 .i64)) cW.out) bB)); rintro e w20 ⟨rfl, hb⟩; refine ⟨_, rfl, ?_⟩; replace ab := aa.mk (Qc ab.out hb); replace ah := aa.mk (Qc ah.out hb); replace aA := aa.mk (Qc aA.out hb); replace HB := aa.mk (Qd bB hb); (try clear hb); (try clear hb2); (try clear hk); (try clear hi)))
      replace ab := aa.mk (Qh ab.out); replace ah := aa.mk (Qh ah.out); replace aA := aa.mk (Qh aA.out); replace HB := aa.mk (QL HB.out); have cI : 0 ≤ (0 : Int) := (by omega); have cH : 0 < (ae.length : Int) := of_decide_eq_true (by assumption); obtain ⟨bM, hH, g8, fW, aJ, dz, dA⟩ := ZH aI.out 0 cI cH; have bn := aJ; (try rw [show ((0 : Int)).toNat = 0 from rfl] at bn)
      (try rw [show 0 * 1 = 0 from rfl] at bn)
      (try rw [Addr.add_zero'] at bn)
      cases fW; have nI : (0 < ae.length) = True := eq_true (by omega); (try rw [show ((0 : Int)).toNat = 0 from rfl] at aJ)
      (try rw [Addr.add_zero'] at aJ)
      replace aJ := (HB.out.cell (World.block_lt_of_cell? w _ aJ)).trans aJ; have fg := aa.mk dA; have ko := aa.mk dz; clear dA dz; replace cI := eq_true cI; replace cH := eq_true cH; have fV : 0 ≤ (0 : Int) := (by omega); have fU : 0 < (av.length : Int) := of_decide_eq_true (by assumption); obtain ⟨ch, iE, iC, lV, bm, en, ew⟩ := ZH cF.out 0 fV fU; have b9 := bm; (try rw [show ((0 : Int)).toNat = 0 from rfl] at b9)
      (try rw [show 0 * 1 = 0 from rfl] at b9)
      (try rw [Addr.add_zero'] at b9)
      cases lV; have o7 : (0 < av.length) = True := eq_true (by omega); (try rw [show ((0 : Int)).toNat = 0 from rfl] at bm)
      (try rw [Addr.add_zero'] at bm)
      replace bm := (HB.out.cell (World.block_lt_of_cell? w _ bm)).trans bm; have gz := aa.mk ew; have mc := aa.mk en; clear ew en; replace fV := eq_true fV; replace fU := eq_true fU; refine Ym (n := 11) (S := fun w' => w'.cell? ⟨af, 0, none⟩ = some (.slice (some bM) ae.length an) ∧ w'.cell? ⟨af, 1, none⟩ = some (.slice ak ag.length ao) ∧ w'.cell? ⟨al, 0, none⟩ = some (.slice (some ch) av.length aZ) ∧ w'.cell? ⟨al, 1, none⟩ = some (.slice aV aw.length bc) ∧ w'.cell? bM = some (.slice hH (Qt ae 0).length g8) ∧ w'.cell? ch = some (.slice iE (Qt av 0).length iC)) (ds := []) #[false, false, false, false, false, false, false, false, false, false, false] (by kernel_rfl) rfl rfl ⟨(Qa ab.out 0).trans rfl, (Qa ab.out 1).trans rfl, (Qa ah.out 0).trans rfl, (Qa ah.out 1).trans rfl, ((HB.out.cell (World.block_lt_of_cell? w _ bn)).trans bn), ((HB.out.cell (World.block_lt_of_cell? w _ b9)).trans b9)⟩ (fun hHeld => ?_); refine ZT QB.tab7 QB.bits7 (fun HT_ HW_ => ?_); generalize w20.drew = w21 at ab ah aA HB fg gz aJ bm hHeld ⊢; refine QS (i := 0) (N := some 19) (v := ?_) (a' := ?_) #[true, false, false, false, false, false, false, false, false, false, false] rfl rfl (QI HT_.out (by kernel_rfl)) (fun _ _ _ h => h) (Or.inl ⟨by rfl, ?_⟩) ?_ ?_; rotate_left
      ·intro w'; go_simp; with_reducible rfl
      rotate_left
      ·simp only [Act.put, zA, zB, zC, Qw, Qx]; rfl
      refine QS (i := 5) (N := some 24) (v := ?_) (a' := ?_) #[true, false, false, false, false, true, false, false, false, false, false] rfl rfl (QI HT_.out (by kernel_rfl)) (fun _ _ _ h => h) (Or.inl ⟨by rfl, ?_⟩) ?_ ?_; rotate_left
      ·intro w'; go_simp; with_reducible rfl
      rotate_left
      ·simp only [Act.put, zA, zB, zC, Qw, Qx]; rfl
      refine Zy (i := 1) (N := some 20) (v := ?_) (a' := ?_) #[true, true, false, false, false, true, false, false, false, false, false] rfl rfl (Q4 HT_.out HW_.out (by kernel_rfl)) (fun _ _ _ h => h) (Or.inl ⟨by rfl, ?_⟩) hHeld ?_ ?_; rotate_left
      ·rintro w' ⟨s0, s1, s2, s3, s4, s5⟩; go_simp; with_reducible rfl
      rotate_left
      ·simp only [Act.put, zA, zB, zC, Qw, Qx]; rfl
      refine QS (i := 2) (N := some 21) (v := ?_) (a' := ?_) #[true, true, true, false, false, true, false, false, false, false, false] rfl rfl (QI HT_.out (by kernel_rfl)) (fun _ _ _ h => h) (Or.inl ⟨by rfl, ?_⟩) ?_ ?_; rotate_left
      ·intro w'; go_simp; with_reducible rfl
      rotate_left
      ·simp only [Act.put, zA, zB, zC, Qw, Qx]; rfl
      refine Zy (i := 3) (N := some 22) (v := ?_) (a' := ?_) #[true, true, true, true, false, true, false, false, false, false, false] rfl rfl (Q4 HT_.out HW_.out (by kernel_rfl)) (fun _ _ _ h => h) (Or.inl ⟨by rfl, ?_⟩) hHeld ?_ ?_; rotate_left
      ·rintro w' ⟨s0, s1, s2, s3, s4, s5⟩; go_simp; with_reducible rfl
      rotate_left
      ·simp only [Act.put, zA, zB, zC, Qw, Qx]; rfl
      refine QS (i := 4) (N := some 23) (v := ?_) (a' := ?_) #[true, true, true, true, true, true, false, false, false, false, false] rfl rfl (QI HT_.out (by kernel_rfl)) (fun _ _ _ h => h) (Or.inl ⟨by rfl, ?_⟩) ?_ ?_; rotate_left
      ·intro w'; go_simp; with_reducible rfl
      rotate_left
      ·simp only [Act.put, zA, zB, zC, Qw, Qx]; rfl
      refine Zy (i := 6) (N := some 25) (v := ?_) (a' := ?_) #[true, true, true, true, true, true, true, false, false, false, false] rfl rfl (Q4 HT_.out HW_.out (by kernel_rfl)) (fun _ _ _ h => h) (Or.inl ⟨by rfl, ?_⟩) hHeld ?_ ?_; rotate_left
      ·rintro w' ⟨s0, s1, s2, s3, s4, s5⟩; go_simp; with_reducible rfl
      rotate_left
      ·simp only [Act.put, zA, zB, zC, Qw, Qx]; rfl
      refine QS (i := 7) (N := some 26) (v := ?_) (a' := ?_) #[true, true, true, true, true, true, true, true, false, false, false] rfl rfl (QI HT_.out (by kernel_rfl)) (fun _ _ _ h => h) (Or.inl ⟨by rfl, ?_⟩) ?_ ?_; rotate_left
      ·intro w'; go_simp; with_reducible rfl
      rotate_left
      ·simp only [Act.put, zA, zB, zC, Qw, Qx]; rfl
      refine Zy (i := 8) (N := some 27) (v := ?_) (a' := ?_) #[true, true, true, true, true, true, true, true, true, false, false] rfl rfl (Q4 HT_.out HW_.out (by kernel_rfl)) (fun _ _ _ h => h) (Or.inl ⟨by rfl, ?_⟩) hHeld ?_ ?_; rotate_left
      ·rintro w' ⟨s0, s1, s2, s3, s4, s5⟩; go_simp; with_reducible rfl
      rotate_left
      ·simp only [Act.put, zA, zB, zC, Qw, Qx]; rfl
      refine QS (i := 9) (N := some 28) (v := ?_) (a' := ?_) #[true, true, true, true, true, true, true, true, true, true, false] rfl rfl (QI HT_.out (by kernel_rfl)) (fun _ _ _ h => h) (Or.inl ⟨by rfl, ?_⟩) ?_ ?_; rotate_left
      ·intro w'; go_simp; with_reducible rfl
      rotate_left
      ·simp only [Act.put, zA, zB, zC, Qw, Qx]; rfl
      refine QS (i := 10) (N := some 29) (v := ?_) (a' := ?_) #[true, true, true, true, true, true, true, true, true, true, true] rfl rfl (QI HT_.out (by kernel_rfl)) (fun _ _ _ h => h) (Or.inl ⟨by rfl, ?_⟩) ?_ ?_; rotate_left
      ·intro w'; go_simp; with_reducible rfl
      rotate_left
      ·simp only [Act.put, zA, zB, zC, Qw, Qx]; rfl
      refine YA (Yf HT_.out (by kernel_rfl)) ?_; go_upto_region 9 with (fail)
      go_cut [48] (fun v48 wc => ∃ (kq : Nat) (nC : Bool), v48 = .bool nC ∧ aa (QB.j0 kq nC ae ag av aw = some (r1, r2, r3)) ∧ aa (kq ≤ k) ∧ aa (wc.heap[af]? = some (.cells #[(.slice (some bM) ae.length an), (.slice ak ag.length ao)] 24 (0, 0))) ∧ aa (wc.heap[al]? = some (.cells #[(.slice (some ch) av.length aZ), (.slice aV aw.length bc)] 24 (0, 0))) ∧ aa (wc.heap[az]? = some (.cells #[(.slice none 0 0), (.slice none 0 0)] 24 (0, 0))) ∧ aa (Below w.heap.size w wc))
      case first =>
       have H := nw.out; clear nw; by_cases c22 : (wrap64 ((ae.length : Int) + (av.length : Int))) > 3
       ·rw [if_pos c22] at H; have eD : decide (3 < (wrap64 ((ae.length : Int) + (av.length : Int)))) = true := decide_eq_true c22; clear c22; (first | rw [eD] | (simp only [Qw, Qx]; rw [eD]) | skip)
        have H' := aa.mk H; clear H; have sc := aM.out; have r7 := aK.out; have vb := a9.out; have uM := bu.out; have hZ : w21.cell? ⟨af, 0, none⟩ = some (.slice (some bM) ae.length an) := (Qa ab.out 0).trans rfl; have hY : w21.cell? ⟨af, 1, none⟩ = some (.slice ak ag.length ao) := (Qa ab.out 1).trans rfl; have hX := Qb ab.out 0; have hU := Qb ab.out 1; have va := a8.out; have uL := bt.out; have ff : w21.cell? ⟨al, 0, none⟩ = some (.slice (some ch) av.length aZ) := (Qa ah.out 0).trans rfl; have fe : w21.cell? ⟨al, 1, none⟩ = some (.slice aV aw.length bc) := (Qa ah.out 1).trans rfl; have fc := Qb ah.out 0; have fb := Qb ah.out 1; go_wp2; go_meet
        case rel => exact ⟨_, (true), (by first | rfl | (simp; done) | (simp [*]; done)), H', ⟨by first | omega | exact Nat.le_refl _⟩, ⟨by (with_reducible repeat (first | refine Qg ?_ _ | refine Qh ?_ | refine Qf ?_ _)); exact ab.out⟩, ⟨by (with_reducible repeat (first | refine Qg ?_ _ | refine Qh ?_ | refine Qf ?_ _)); exact ah.out⟩, ⟨by (with_reducible repeat (first | refine Qg ?_ _ | refine Qh ?_ | refine Qf ?_ _)); exact aA.out⟩, ⟨bB⟩⟩
       ·rw [if_neg c22] at H; have eD : decide (3 < (wrap64 ((ae.length : Int) + (av.length : Int)))) = false := decide_eq_false c22; clear c22; (first | rw [eD] | (simp only [Qw, Qx]; rw [eD]) | skip)
        have H' := aa.mk H; clear H; have u9 := aM.out; have uK := aK.out; have sb := a9.out; have r6 := bu.out; have kf : w21.cell? ⟨af, 0, none⟩ = some (.slice (some bM) ae.length an) := (Qa ab.out 0).trans rfl; have ke : w21.cell? ⟨af, 1, none⟩ = some (.slice ak ag.length ao) := (Qa ab.out 1).trans rfl; have j6 := Qb ab.out 0; have j5 := Qb ab.out 1; have u0 := a8.out; have uJ := bt.out; have jb : w21.cell? ⟨al, 0, none⟩ = some (.slice (some ch) av.length aZ) := (Qa ah.out 0).trans rfl; have ja : w21.cell? ⟨al, 1, none⟩ = some (.slice aV aw.length bc) := (Qa ah.out 1).trans rfl; have iV := Qb ah.out 0; have iU := Qb ah.out 1; go_wp2; go_meet
        case rel => exact ⟨_, (decide ((wrap64 ((ag.length : Int) + (aw.length : Int))) > 3)), (by first | rfl | (simp; done) | (simp [*]; done)), H', ⟨by first | omega | exact Nat.le_refl _⟩, ⟨by (with_reducible repeat (first | refine Qg ?_ _ | refine Qh ?_ | refine Qf ?_ _)); exact ab.out⟩, ⟨by (with_reducible repeat (first | refine Qg ?_ _ | refine Qh ?_ | refine Qf ?_ _)); exact ah.out⟩, ⟨by (with_reducible repeat (first | refine Qg ?_ _ | refine Qh ?_ | refine Qf ?_ _)); exact aA.out⟩, ⟨bB⟩⟩
      case rest =>
       clear nw; try clear c1
       try clear p1
       try clear q1
       try clear hx1
       try clear qi1
       try clear c2
       try clear p2
       try clear c3
       try clear c4
       try clear cn
       try clear eC
       try clear c5
       try clear c6
       try clear gZ
       try clear jV
       try clear p6
       try clear c7
       try clear jU
       try clear np
       try clear c8
       try clear eQ
       try clear jT
       try clear c9
       try clear ft
       try clear pD
       try clear pC
       try clear c10
       try clear p10
       try clear q10
       try clear iO
       try clear lf
       try clear c14
       try clear c15
       try clear c18
       try clear c22
       try clear eD
       try clear c23
       try clear c24
       try clear c26
       try clear c28
       try clear c29
       try clear c31
       try clear jd
       try clear jc
       try clear gu
       try clear gr
       try clear hZ
       try clear hY
       try clear ff
       try clear fe
       try clear kf
       try clear ke
       try clear jb
       try clear ja
       try clear iX
       try clear iW
       try clear gp
       try clear gm
       try clear hX
       try clear hU
       try clear fc
       try clear fb
       try clear j6
       try clear j5
       try clear iV
       try clear iU
       try clear aJ
       try clear bm
       try clear cI
       try clear fV
       try clear cH
       try clear fU
       obtain ⟨kq, nC, rfl, HA, HJ9, ab, ah, aA, HB⟩ := hcut; cases kq with
       | zero => exact absurd HA.out (by simp [QB.j0])
       | succ kj9 =>
        have H := HA.out; clear HA; simp only [QB.j0] at H; by_cases c33 : nC = true
        ·subst c33; have H1 : (some (([] : List (List Int)), ([] : List (List Int)), 3)) = some (r1, r2, r3) := by rw [if_pos rfl] at H; exact H
         clear H; have H := H1; clear H1; simp only [Option.some.injEq, Prod.mk.injEq] at H; obtain ⟨rfl, rfl, rfl⟩ := H; have uZ := bu.out; have uI := a9.out; have uY := bt.out; have uH := a8.out; have rn : wc.cell? ⟨az, 0, none⟩ = some (.slice none 0 0) := (Qa aA.out 0).trans rfl; have rm : wc.cell? ⟨az, 1, none⟩ = some (.slice none 0 0) := (Qa aA.out 1).trans rfl; have qP := Qb aA.out 0; have qO := Qb aA.out 1; go_wp2; refine bodyPost_ret (Yi rfl _ _ az 24 #[.slice none 0 0, .slice none 0 0] (0, 0) _ rfl (by (with_reducible repeat (first | refine Qg ?_ _ | refine Qh ?_ | refine Qf ?_ _)); refine ZC (cs := #[.slice none 0 0, .slice none 0 0]) ?_ 1 _ rfl; (with_reducible repeat (first | refine Qg ?_ _ | refine Qh ?_ | refine Qf ?_ _)); refine ZC (cs := #[.slice none 0 0, .slice none 0 0]) ?_ 0 _ rfl; (with_reducible repeat (first | refine Qg ?_ _ | refine Qh ?_ | refine Qf ?_ _)); exact aA.out) Try.underlying24 rfl (by kernel_rfl)) rfl ?_; exact ⟨_, _, by first | rfl | (simp [Qo, Qn] <;> rfl) | (simp [*, Qo, Qn] <;> rfl), by first | exact Kd.Yj _ _ _ _ _ | exact Kd.Yh _ _ _ _ _ | exact Kd.V_nil _ _ _ _ _ | exact Kd.Q_nil _ _ _ _ _ | exact Kd.Yb _ _ _ _ _, by first | exact Kd.Yj _ _ _ _ _ | exact Kd.Yh _ _ _ _ _ | exact Kd.V_nil _ _ _ _ _ | exact Kd.Q_nil _ _ _ _ _ | exact Kd.Yb _ _ _ _ _, bB⟩
        ·replace c33 := Bool.eq_false_iff.mpr c33; subst c33; have H1 : ((QC.f kj9 ae).bind fun t108 => ((QC.f kj9 av).bind fun t111 => (if t108.length + t111.length < 5864062014805 then ((QC.f kj9 ag).bind fun t117 => ((QC.f kj9 aw).bind fun t120 => (if t117.length + t120.length < 5864062014805 then (some ((t108 ++ t111), (t117 ++ t120), 0)) else (none)))) else (none)))) = some (r1, r2, r3) := by rw [if_neg (show ¬ (false = true) by decide)] at H; exact H
         clear H; have H := H1; clear H1; replace H := Option.bind_eq_some_iff.mp H; obtain ⟨t108, pV, H⟩ := H; replace H : ((QC.f kj9 av).bind fun t111 => (if t108.length + t111.length < 5864062014805 then ((QC.f kj9 ag).bind fun t117 => ((QC.f kj9 aw).bind fun t120 => (if t117.length + t120.length < 5864062014805 then (some ((t108 ++ t111), (t117 ++ t120), 0)) else (none)))) else (none))) = some (r1, r2, r3) := H; have A37 := aa.mk pV; clear pV; replace H := Option.bind_eq_some_iff.mp H; obtain ⟨t111, mW, H⟩ := H; replace H : (if t108.length + t111.length < 5864062014805 then ((QC.f kj9 ag).bind fun t117 => ((QC.f kj9 aw).bind fun t120 => (if t117.length + t120.length < 5864062014805 then (some ((t108 ++ t111), (t117 ++ t120), 0)) else (none)))) else (none)) = some (r1, r2, r3) := H; have A38 := aa.mk mW; clear mW; by_cases c39 : t108.length + t111.length < 5864062014805
         ·rw [if_pos c39] at H; have pN := aa.mk c39; clear c39; obtain ⟨eT, dE⟩ : ∃ y_ : List (List Int), y_ = (t108 ++ t111) := ⟨_, rfl⟩; replace H : ((QC.f kj9 ag).bind fun t117 => ((QC.f kj9 aw).bind fun t120 => (if t117.length + t120.length < 5864062014805 then (some (eT, (t117 ++ t120), 0)) else (none)))) = some (r1, r2, r3) := by first | (rw [dE]; with_reducible exact H) | (have H2_ := (Option.bind_some _ _).symm.trans H; rw [dE]; with_reducible exact H2_) | (have H2_ := (Option.bind_some _ _).symm.trans H; with_reducible exact H2_) | with_reducible exact H | (rw [dE]; exact H) | exact H
          have jI := aa.mk dE; clear dE; replace H := Option.bind_eq_some_iff.mp H; obtain ⟨t117, pU, H⟩ := H; replace H : ((QC.f kj9 aw).bind fun t120 => (if t117.length + t120.length < 5864062014805 then (some (eT, (t117 ++ t120), 0)) else (none))) = some (r1, r2, r3) := H; have A40 := aa.mk pU; clear pU; replace H := Option.bind_eq_some_iff.mp H; obtain ⟨t120, pT, H⟩ := H; replace H : (if t117.length + t120.length < 5864062014805 then (some (eT, (t117 ++ t120), 0)) else (none)) = some (r1, r2, r3) := H; have A41 := aa.mk pT; clear pT; by_cases c42 : t117.length + t120.length < 5864062014805
          ·rw [if_pos c42] at H; have pM := aa.mk c42; clear c42; obtain ⟨lv, gJ⟩ : ∃ y_ : List (List Int), y_ = (t117 ++ t120) := ⟨_, rfl⟩; replace H : (some (eT, lv, 0)) = some (r1, r2, r3) := by first | (rw [gJ]; with_reducible exact H) | (have H2_ := (Option.bind_some _ _).symm.trans H; rw [gJ]; with_reducible exact H2_) | (have H2_ := (Option.bind_some _ _).symm.trans H; with_reducible exact H2_) | with_reducible exact H | (rw [gJ]; exact H) | exact H
           have pL := aa.mk gJ; clear gJ; simp only [Option.some.injEq, Prod.mk.injEq] at H; obtain ⟨rfl, rfl, rfl⟩ := H; try go_wp2
           replace ab := aa.mk (Qh ab.out); replace ah := aa.mk (Qh ah.out); replace aA := aa.mk (Qh aA.out); replace HB := aa.mk (QL HB.out); refine Ym (n := 17) (S := fun w' => w'.cell? ⟨af, 0, none⟩ = some (.slice (some bM) ae.length an) ∧ w'.cell? ⟨af, 1, none⟩ = some (.slice ak ag.length ao) ∧ w'.cell? ⟨al, 0, none⟩ = some (.slice (some ch) av.length aZ) ∧ w'.cell? ⟨al, 1, none⟩ = some (.slice aV aw.length bc)) (ds := []) #[false, false, false, false, false, false, false, false, false, false, false, false, false, false, false, false, false] (by kernel_rfl) rfl rfl ⟨(Qa ab.out 0).trans rfl, (Qa ab.out 1).trans rfl, (Qa ah.out 0).trans rfl, (Qa ah.out 1).trans rfl⟩ (fun hHeld => ?_); refine ZT QB.tab11 QB.bits11 (fun HT_ HW_ => ?_); generalize wc.drew = w43 at ab ah aA HB hHeld ⊢; refine QS (i := 0) (N := some 50) (v := ?_) (a' := ?_) #[true, false, false, false, false, false, false, false, false, false, false, false, false, false, false, false, false] rfl rfl (QI HT_.out (by kernel_rfl)) (fun _ _ _ h => h) (Or.inl ⟨by rfl, ?_⟩) ?_ ?_; rotate_left
           ·intro w'; go_simp; with_reducible rfl
           rotate_left
           ·simp only [Act.put, zA, zB, zC, Qw, Qx]; rfl
           refine QS (i := 3) (N := some 53) (v := ?_) (a' := ?_) #[true, false, false, true, false, false, false, false, false, false, false, false, false, false, false, false, false] rfl rfl (QI HT_.out (by kernel_rfl)) (fun _ _ _ h => h) (Or.inl ⟨by rfl, ?_⟩) ?_ ?_; rotate_left
           ·intro w'; go_simp; with_reducible rfl
           rotate_left
           ·simp only [Act.put, zA, zB, zC, Qw, Qx]; rfl
           refine QS (i := 7) (N := some 57) (v := ?_) (a' := ?_) #[true, false, false, true, false, false, false, true, false, false, false, false, false, false, false, false, false] rfl rfl (QI HT_.out (by kernel_rfl)) (fun _ _ _ h => h) (Or.inl ⟨by rfl, ?_⟩) ?_ ?_; rotate_left
           ·intro w'; go_simp; with_reducible rfl
           rotate_left
           ·simp only [Act.put, zA, zB, zC, Qw, Qx]; rfl
           refine QS (i := 10) (N := some 60) (v := ?_) (a' := ?_) #[true, false, false, true, false, false, false, true, false, false, true, false, false, false, false, false, false] rfl rfl (QI HT_.out (by kernel_rfl)) (fun _ _ _ h => h) (Or.inl ⟨by rfl, ?_⟩) ?_ ?_; rotate_left
           ·intro w'; go_simp; with_reducible rfl
           rotate_left
           ·simp only [Act.put, zA, zB, zC, Qw, Qx]; rfl
           refine Zy (i := 1) (N := some 51) (v := ?_) (a' := ?_) #[true, true, false, true, false, false, false, true, false, false, true, false, false, false, false, false, false] rfl rfl (Q4 HT_.out HW_.out (by kernel_rfl)) (fun _ _ _ h => h) (Or.inl ⟨by rfl, ?_⟩) hHeld ?_ ?_; rotate_left
           ·rintro w' ⟨s0, s1, s2, s3⟩; go_simp; with_reducible rfl
           rotate_left
           ·simp only [Act.put, zA, zB, zC, Qw, Qx]; rfl
           refine Zy (i := 4) (N := some 54) (v := ?_) (a' := ?_) #[true, true, false, true, true, false, false, true, false, false, true, false, false, false, false, false, false] rfl rfl (Q4 HT_.out HW_.out (by kernel_rfl)) (fun _ _ _ h => h) (Or.inl ⟨by rfl, ?_⟩) hHeld ?_ ?_; rotate_left
           ·rintro w' ⟨s0, s1, s2, s3⟩; go_simp; with_reducible rfl
           rotate_left
           ·simp only [Act.put, zA, zB, zC, Qw, Qx]; rfl
           refine Zy (i := 8) (N := some 58) (v := ?_) (a' := ?_) #[true, true, false, true, true, false, false, true, true, false, true, false, false, false, false, false, false] rfl rfl (Q4 HT_.out HW_.out (by kernel_rfl)) (fun _ _ _ h => h) (Or.inl ⟨by rfl, ?_⟩) hHeld ?_ ?_; rotate_left
           ·rintro w' ⟨s0, s1, s2, s3⟩; go_simp; with_reducible rfl
           rotate_left
           ·simp only [Act.put, zA, zB, zC, Qw, Qx]; rfl
           refine Zy (i := 11) (N := some 61) (v := ?_) (a' := ?_) #[true, true, false, true, true, false, false, true, true, false, true, true, false, false, false, false, false] rfl rfl (Q4 HT_.out HW_.out (by kernel_rfl)) (fun _ _ _ h => h) (Or.inl ⟨by rfl, ?_⟩) hHeld ?_ ?_; rotate_left
           ·rintro w' ⟨s0, s1, s2, s3⟩; go_simp; with_reducible rfl
           rotate_left
           ·simp only [Act.put, zA, zB, zC, Qw, Qx]; rfl
           refine one_ (i := 2) (N := some 52) #[true, true, true, true, true, false, false, true, true, false, true, true, false, false, false, false, false] rfl rfl (ZL HT_.out (by kernel_rfl)) (by decide) (fun K hK => ?_); refine Yz Try.func110 (by kernel_rfl) rfl #[.slice (some bM) ae.length an] (by rfl) rfl rfl hA ?_; with_reducible refine (QC.calls kj9 _ _ ae t108 _ ?aj ?ai A37.out).mono ?_
           (case aj => exact (Kd.Ql aI.out HB.out))
           (case ai => exact aQ.out)
           rintro e w44 ⟨fY, rfl, ho0, hb⟩; refine ⟨_, rfl, ?_⟩; have bN := aa.mk (Kd.ZY (Kd.QZ (ok' := fun k_ => (w.heap.size ≤ k_) ∧ k_ ≠ af ∧ k_ ≠ al ∧ k_ ≠ az) (Kd.S_N (Kd.YL ho0)) (fun k_ hk_ => ⟨(Nat.le_trans (Qe bB) hk_.2.1), (Kd.freshB (g := af) (o := .cells #[.slice (some bM) ae.length an, .slice ak ag.length ao] 24 (0, 0)) (by (with_reducible repeat (first | refine Qg ?_ _ | refine Qh ?_ | refine Qf ?_ _)); exact ab.out) k_ hk_.2.1), (Kd.freshB (g := al) (o := .cells #[.slice (some ch) av.length aZ, .slice aV aw.length bc] 24 (0, 0)) (by (with_reducible repeat (first | refine Qg ?_ _ | refine Qh ?_ | refine Qf ?_ _)); exact ah.out) k_ hk_.2.1), (Kd.freshB (g := az) (o := .cells #[.slice none 0 0, .slice none 0 0] 24 (0, 0)) (by (with_reducible repeat (first | refine Qg ?_ _ | refine Qh ?_ | refine Qf ?_ _)); exact aA.out) k_ hk_.2.1)⟩)) (Qe bB)); replace ab := aa.mk (Qc ab.out hb); replace ah := aa.mk (Qc ah.out hb); replace aA := aa.mk (Qc aA.out hb); replace HB := aa.mk (Qd bB hb); (try clear hb)
           (try clear hb2)
           (try clear hk)
           (try clear hi)
           (try clear ho0)
           refine hK.out _ _ ⟨(Qa ab.out 0).trans rfl, (Qa ab.out 1).trans rfl, (Qa ah.out 0).trans rfl, (Qa ah.out 1).trans rfl⟩ (fun hHeld => ?_); clear hK K; refine Ye (a' := ?_) ?_ ?_; rotate_left
           ·show Act.put _ (some 52) _ = _
            simp only [Act.put, zA, zB, zC, Qw, Qx]; rfl
           refine one_ (i := 5) (N := some 55) #[true, true, true, true, true, true, false, true, true, false, true, true, false, false, false, false, false] rfl rfl (ZL HT_.out (by kernel_rfl)) (by decide) (fun K hK => ?_); refine Yz Try.func110 (by kernel_rfl) rfl #[.slice (some ch) av.length aZ] (by rfl) rfl rfl hA ?_; with_reducible refine (QC.calls kj9 _ _ av t111 _ ?aj ?ai A38.out).mono ?_
           (case aj => exact (Kd.Ql cF.out HB.out))
           (case ai => exact cm.out)
           rintro e w45 ⟨ug, rfl, ho0, hb⟩; refine ⟨_, rfl, ?_⟩; have cP := aa.mk (Kd.ZY (Kd.QZ (ok' := fun k_ => (w.heap.size ≤ k_) ∧ some k_ ≠ (fY : Value).ownBlock ∧ k_ ≠ af ∧ k_ ≠ al ∧ k_ ≠ az) (Kd.S_N (Kd.YL ho0)) (fun k_ hk_ => ⟨(Nat.le_trans (Qe bB) hk_.2.1), (Kd.fresh' (Kd.N_lt bN.out) k_ hk_.2.1), (Kd.freshB (g := af) (o := .cells #[.slice (some bM) ae.length an, .slice ak ag.length ao] 24 (0, 0)) (by (with_reducible repeat (first | refine Qg ?_ _ | refine Qh ?_ | refine Qf ?_ _)); exact ab.out) k_ hk_.2.1), (Kd.freshB (g := al) (o := .cells #[.slice (some ch) av.length aZ, .slice aV aw.length bc] 24 (0, 0)) (by (with_reducible repeat (first | refine Qg ?_ _ | refine Qh ?_ | refine Qf ?_ _)); exact ah.out) k_ hk_.2.1), (Kd.freshB (g := az) (o := .cells #[.slice none 0 0, .slice none 0 0] 24 (0, 0)) (by (with_reducible repeat (first | refine Qg ?_ _ | refine Qh ?_ | refine Qf ?_ _)); exact aA.out) k_ hk_.2.1)⟩)) (Qe bB)); replace bN := aa.mk (Kd.Q3 bN.out (by first | exact Kd.ZO ho0 | exact Kd.Zz ho0) hb); replace ab := aa.mk (Qc ab.out hb); replace ah := aa.mk (Qc ah.out hb); replace aA := aa.mk (Qc aA.out hb); replace HB := aa.mk (Qd bB hb); (try clear hb)
           (try clear hb2)
           (try clear hk)
           (try clear hi)
           (try clear ho0)
           obtain ⟨jB, jy, pv⟩ := Kd.ZS cP.out; (first | subst pv | (injection pv with f1_ f2_ f3_; have f4_ := f1_.symm; have f5_ := f3_.symm; clear f1_ f2_ f3_; subst f4_; subst f5_))
           refine hK.out _ _ ⟨(Qa ab.out 0).trans rfl, (Qa ab.out 1).trans rfl, (Qa ah.out 0).trans rfl, (Qa ah.out 1).trans rfl⟩ (fun hHeld => ?_); clear hK K; refine Ye (a' := ?_) ?_ ?_; rotate_left
           ·show Act.put _ (some 55) _ = _
            simp only [Act.put, zA, zB, zC, Qw, Qx]; rfl
           refine one_ (i := 6) (N := some 56) #[true, true, true, true, true, true, true, true, true, false, true, true, false, false, false, false, false] rfl rfl (ZL HT_.out (by kernel_rfl)) (by decide) (fun K hK => ?_); refine Kd.Z3 (Kd.slice 3 (Kd.int .i64)) (w0 := w) w.heap.size (by rfl) (.tmp 52) (.tmp 55) 22 28 (.slice none 0 0) 24 rfl Try.underlying22 info28 rfl (by decide) (by omega) fY t108 t111 _ _ _ (fun k_ => (w.heap.size ≤ k_) ∧ k_ ≠ af ∧ k_ ≠ al ∧ k_ ≠ az) (fun k_ => ((fun k_ => (w.heap.size ≤ k_) ∧ k_ ≠ af ∧ k_ ≠ al ∧ k_ ≠ az)) k_ ∧ some k_ ≠ (fY : Value).ownBlock) rfl rfl ?aO ?aR (fun _ hk => hk) ?aF ?aB ?aS ?aL ?_; (case aR => exact (by skip; exact Kd.N_F (Kd.QZ (ok' := (fun k_ => ((fun k_ => (w.heap.size ≤ k_) ∧ k_ ≠ af ∧ k_ ≠ al ∧ k_ ≠ az)) k_ ∧ some k_ ≠ (fY : Value).ownBlock)) (cP.out) (fun k_ hk => ⟨⟨hk.1, ⟨hk.2.2.1, ⟨hk.2.2.2.1, hk.2.2.2.2⟩⟩⟩, hk.2.1⟩))))
           (case aB => exact bB)
           (case aF => exact (fun k_ hk => ⟨(Nat.le_trans (Qe bB) hk), Kd.freshB (g := af) (o := .cells #[.slice (some bM) ae.length an, .slice ak ag.length ao] 24 (0, 0)) (by (with_reducible repeat (first | refine Qg ?_ _ | refine Qh ?_ | refine Qf ?_ _)); exact ab.out) k_ hk, Kd.freshB (g := al) (o := .cells #[.slice (some ch) av.length aZ, .slice aV aw.length bc] 24 (0, 0)) (by (with_reducible repeat (first | refine Qg ?_ _ | refine Qh ?_ | refine Qf ?_ _)); exact ah.out) k_ hk, Kd.freshB (g := az) (o := .cells #[.slice none 0 0, .slice none 0 0] 24 (0, 0)) (by (with_reducible repeat (first | refine Qg ?_ _ | refine Qh ?_ | refine Qf ?_ _)); exact aA.out) k_ hk⟩))
           (case aO => exact (by (with_reducible repeat (first | apply Kd.N_alloc | apply Kd.Ze | apply Kd.Zn)); exact Kd.QZ bN.out (fun _ hk => ⟨hk.1.1, ⟨hk.1.2.1, ⟨hk.1.2.2.1, hk.1.2.2.2⟩⟩⟩)))
           (case aS => exact (Qe bB))
           (case aL => have := pN.out; omega)
           intro e5 w46 ho hb hg hat; rw [← jI.out] at ho; replace ab := aa.mk (ZN (g := af) (o := .cells #[.slice (some bM) ae.length an, .slice ak ag.length ao] 24 (0, 0)) (by (with_reducible repeat (first | refine Qg ?_ _ | refine Qh ?_ | refine Qf ?_ _)); exact ab.out) hg (Kd.N_ne bN.out ab.out (by decide))); replace ah := aa.mk (ZN (g := al) (o := .cells #[.slice (some ch) av.length aZ, .slice aV aw.length bc] 24 (0, 0)) (by (with_reducible repeat (first | refine Qg ?_ _ | refine Qh ?_ | refine Qf ?_ _)); exact ah.out) hg (Kd.N_ne bN.out ah.out (by decide))); replace aA := aa.mk (ZN (g := az) (o := .cells #[.slice none 0 0, .slice none 0 0] 24 (0, 0)) (by (with_reducible repeat (first | refine Qg ?_ _ | refine Qh ?_ | refine Qf ?_ _)); exact aA.out) hg (Kd.N_ne bN.out aA.out (by decide))); replace cP := aa.mk (Kd.Yy (ok := (fun k_ => (w.heap.size ≤ k_) ∧ k_ ≠ af ∧ k_ ≠ al ∧ k_ ≠ az)) (by (with_reducible repeat (first | apply Kd.N_alloc | apply Kd.Ze | apply Kd.Zn)); exact Kd.QZ cP.out (fun _ hk => ⟨⟨hk.1, ⟨hk.2.2.1, ⟨hk.2.2.2.1, hk.2.2.2.2⟩⟩⟩, hk.2.1⟩)) hg hat); replace HB := aa.mk (hb); have bP := aa.mk (ho); clear bN; clear ho hb hg hat; refine hK.out _ _ ⟨(Qa ab.out 0).trans rfl, (Qa ab.out 1).trans rfl, (Qa ah.out 0).trans rfl, (Qa ah.out 1).trans rfl⟩ (fun hHeld => ?_); clear hK K; refine Ye (a' := ?_) ?_ ?_; rotate_left
           ·show Act.put _ (some 56) _ = _
            simp only [Act.put, zA, zB, zC, Qw, Qx]; rfl
           refine one_ (i := 9) (N := some 59) #[true, true, true, true, true, true, true, true, true, true, true, true, false, false, false, false, false] rfl rfl (ZL HT_.out (by kernel_rfl)) (by decide) (fun K hK => ?_); refine Yz Try.func110 (by kernel_rfl) rfl #[.slice ak ag.length ao] (by rfl) rfl rfl hA ?_; with_reducible refine (QC.calls kj9 _ _ ag t117 _ ?aj ?ai A40.out).mono ?_
           (case aj => exact (Kd.Ql aW.out HB.out))
           (case ai => exact aT.out)
           rintro e w48 ⟨kt, rfl, ho0, hb⟩; refine ⟨_, rfl, ?_⟩; have dd := aa.mk (Kd.ZY (Kd.QZ (ok' := fun k_ => (w.heap.size ≤ k_) ∧ some k_ ≠ (.slice jB t111.length jy : Value).ownBlock ∧ some k_ ≠ (e5 : Value).ownBlock ∧ k_ ≠ af ∧ k_ ≠ al ∧ k_ ≠ az) (Kd.S_N (Kd.YL ho0)) (fun k_ hk_ => ⟨(Nat.le_trans (Qe bB) hk_.2.1), (Kd.fresh' (Kd.N_lt cP.out) k_ hk_.2.1), (Kd.fresh' (Kd.N_lt bP.out) k_ hk_.2.1), (Kd.freshB (g := af) (o := .cells #[.slice (some bM) ae.length an, .slice ak ag.length ao] 24 (0, 0)) (by (with_reducible repeat (first | refine Qg ?_ _ | refine Qh ?_ | refine Qf ?_ _)); exact ab.out) k_ hk_.2.1), (Kd.freshB (g := al) (o := .cells #[.slice (some ch) av.length aZ, .slice aV aw.length bc] 24 (0, 0)) (by (with_reducible repeat (first | refine Qg ?_ _ | refine Qh ?_ | refine Qf ?_ _)); exact ah.out) k_ hk_.2.1), (Kd.freshB (g := az) (o := .cells #[.slice none 0 0, .slice none 0 0] 24 (0, 0)) (by (with_reducible repeat (first | refine Qg ?_ _ | refine Qh ?_ | refine Qf ?_ _)); exact aA.out) k_ hk_.2.1)⟩)) (Qe bB)); replace cP := aa.mk (Kd.Q3 cP.out (by first | exact Kd.ZO ho0 | exact Kd.Zz ho0) hb); replace bP := aa.mk (Kd.Q3 bP.out (by first | exact Kd.ZO ho0 | exact Kd.Zz ho0) hb); replace ab := aa.mk (Qc ab.out hb); replace ah := aa.mk (Qc ah.out hb); replace aA := aa.mk (Qc aA.out hb); replace HB := aa.mk (Qd bB hb); (try clear hb)
           (try clear hb2)
           (try clear hk)
           (try clear hi)
           (try clear ho0)
           refine hK.out _ _ ⟨(Qa ab.out 0).trans rfl, (Qa ab.out 1).trans rfl, (Qa ah.out 0).trans rfl, (Qa ah.out 1).trans rfl⟩ (fun hHeld => ?_); clear hK K; refine Ye (a' := ?_) ?_ ?_; rotate_left
           ·show Act.put _ (some 59) _ = _
            simp only [Act.put, zA, zB, zC, Qw, Qx]; rfl
           refine one_ (i := 12) (N := some 62) #[true, true, true, true, true, true, true, true, true, true, true, true, true, false, false, false, false] rfl rfl (ZL HT_.out (by kernel_rfl)) (by decide) (fun K hK => ?_); refine Yz Try.func110 (by kernel_rfl) rfl #[.slice aV aw.length bc] (by rfl) rfl rfl hA ?_; with_reducible refine (QC.calls kj9 _ _ aw t120 _ ?aj ?ai A41.out).mono ?_
           (case aj => exact (Kd.Ql cW.out HB.out))
           (case ai => exact cw.out)
           rintro e w49 ⟨Bf, rfl, ho0, hb⟩; refine ⟨_, rfl, ?_⟩; have jo := aa.mk (Kd.ZY (Kd.QZ (ok' := fun k_ => (w.heap.size ≤ k_) ∧ some k_ ≠ (.slice jB t111.length jy : Value).ownBlock ∧ some k_ ≠ (e5 : Value).ownBlock ∧ some k_ ≠ (kt : Value).ownBlock ∧ k_ ≠ af ∧ k_ ≠ al ∧ k_ ≠ az) (Kd.S_N (Kd.YL ho0)) (fun k_ hk_ => ⟨(Nat.le_trans (Qe bB) hk_.2.1), (Kd.fresh' (Kd.N_lt cP.out) k_ hk_.2.1), (Kd.fresh' (Kd.N_lt bP.out) k_ hk_.2.1), (Kd.fresh' (Kd.N_lt dd.out) k_ hk_.2.1), (Kd.freshB (g := af) (o := .cells #[.slice (some bM) ae.length an, .slice ak ag.length ao] 24 (0, 0)) (by (with_reducible repeat (first | refine Qg ?_ _ | refine Qh ?_ | refine Qf ?_ _)); exact ab.out) k_ hk_.2.1), (Kd.freshB (g := al) (o := .cells #[.slice (some ch) av.length aZ, .slice aV aw.length bc] 24 (0, 0)) (by (with_reducible repeat (first | refine Qg ?_ _ | refine Qh ?_ | refine Qf ?_ _)); exact ah.out) k_ hk_.2.1), (Kd.freshB (g := az) (o := .cells #[.slice none 0 0, .slice none 0 0] 24 (0, 0)) (by (with_reducible repeat (first | refine Qg ?_ _ | refine Qh ?_ | refine Qf ?_ _)); exact aA.out) k_ hk_.2.1)⟩)) (Qe bB)); replace cP := aa.mk (Kd.Q3 cP.out (by first | exact Kd.ZO ho0 | exact Kd.Zz ho0) hb); replace bP := aa.mk (Kd.Q3 bP.out (by first | exact Kd.ZO ho0 | exact Kd.Zz ho0) hb); replace dd := aa.mk (Kd.Q3 dd.out (by first | exact Kd.ZO ho0 | exact Kd.Zz ho0) hb); replace ab := aa.mk (Qc ab.out hb); replace ah := aa.mk (Qc ah.out hb); replace aA := aa.mk (Qc aA.out hb); replace HB := aa.mk (Qd bB hb); (try clear hb)
           (try clear hb2)
           (try clear hk)
           (try clear hi)
           (try clear ho0)
           obtain ⟨oV, jQ, lh⟩ := Kd.ZS jo.out; (first | subst lh | (injection lh with f1_ f2_ f3_; have f4_ := f1_.symm; have f5_ := f3_.symm; clear f1_ f2_ f3_; subst f4_; subst f5_))
           refine hK.out _ _ ⟨(Qa ab.out 0).trans rfl, (Qa ab.out 1).trans rfl, (Qa ah.out 0).trans rfl, (Qa ah.out 1).trans rfl⟩ (fun hHeld => ?_); clear hK K; refine Ye (a' := ?_) ?_ ?_; rotate_left
           ·show Act.put _ (some 62) _ = _
            simp only [Act.put, zA, zB, zC, Qw, Qx]; rfl
           refine one_ (i := 13) (N := some 63) #[true, true, true, true, true, true, true, true, true, true, true, true, true, true, false, false, false] rfl rfl (ZL HT_.out (by kernel_rfl)) (by decide) (fun K hK => ?_); refine Kd.Z3 (Kd.slice 3 (Kd.int .i64)) (w0 := w) w.heap.size (by rfl) (.tmp 59) (.tmp 62) 22 28 (.slice none 0 0) 24 rfl Try.underlying22 info28 rfl (by decide) (by omega) kt t117 t120 _ _ _ (fun k_ => (w.heap.size ≤ k_) ∧ some k_ ≠ (.slice jB t111.length jy : Value).ownBlock ∧ some k_ ≠ (e5 : Value).ownBlock ∧ k_ ≠ af ∧ k_ ≠ al ∧ k_ ≠ az) (fun k_ => ((fun k_ => (w.heap.size ≤ k_) ∧ some k_ ≠ (.slice jB t111.length jy : Value).ownBlock ∧ some k_ ≠ (e5 : Value).ownBlock ∧ k_ ≠ af ∧ k_ ≠ al ∧ k_ ≠ az)) k_ ∧ some k_ ≠ (kt : Value).ownBlock) rfl rfl ?aO ?aR (fun _ hk => hk) ?aF ?aB ?aS ?aL ?_; (case aR => exact (by skip; exact Kd.N_F (Kd.QZ (ok' := (fun k_ => ((fun k_ => (w.heap.size ≤ k_) ∧ some k_ ≠ (.slice jB t111.length jy : Value).ownBlock ∧ some k_ ≠ (e5 : Value).ownBlock ∧ k_ ≠ af ∧ k_ ≠ al ∧ k_ ≠ az)) k_ ∧ some k_ ≠ (kt : Value).ownBlock)) (jo.out) (fun k_ hk => ⟨⟨hk.1, ⟨hk.2.1, ⟨hk.2.2.1, ⟨hk.2.2.2.2.1, ⟨hk.2.2.2.2.2.1, hk.2.2.2.2.2.2⟩⟩⟩⟩⟩, hk.2.2.2.1⟩))))
           (case aB => exact bB)
           (case aF => exact (fun k_ hk => ⟨(Nat.le_trans (Qe bB) hk), Kd.fresh' (Kd.N_lt cP.out) k_ hk, Kd.fresh' (Kd.N_lt bP.out) k_ hk, Kd.freshB (g := af) (o := .cells #[.slice (some bM) ae.length an, .slice ak ag.length ao] 24 (0, 0)) (by (with_reducible repeat (first | refine Qg ?_ _ | refine Qh ?_ | refine Qf ?_ _)); exact ab.out) k_ hk, Kd.freshB (g := al) (o := .cells #[.slice (some ch) av.length aZ, .slice aV aw.length bc] 24 (0, 0)) (by (with_reducible repeat (first | refine Qg ?_ _ | refine Qh ?_ | refine Qf ?_ _)); exact ah.out) k_ hk, Kd.freshB (g := az) (o := .cells #[.slice none 0 0, .slice none 0 0] 24 (0, 0)) (by (with_reducible repeat (first | refine Qg ?_ _ | refine Qh ?_ | refine Qf ?_ _)); exact aA.out) k_ hk⟩))
           (case aO => exact (by (with_reducible repeat (first | apply Kd.N_alloc | apply Kd.Ze | apply Kd.Zn)); exact Kd.QZ dd.out (fun _ hk => ⟨hk.1.1, ⟨hk.1.2.1, ⟨hk.1.2.2.1, ⟨hk.1.2.2.2.1, ⟨hk.1.2.2.2.2.1, hk.1.2.2.2.2.2⟩⟩⟩⟩⟩)))
           (case aS => exact (Qe bB))
           (case aL => have := pM.out; omega)
           intro Be w50 ho hb hg hat; rw [← pL.out] at ho; replace ab := aa.mk (ZN (g := af) (o := .cells #[.slice (some bM) ae.length an, .slice ak ag.length ao] 24 (0, 0)) (by (with_reducible repeat (first | refine Qg ?_ _ | refine Qh ?_ | refine Qf ?_ _)); exact ab.out) hg (Kd.N_ne dd.out ab.out (by decide))); replace ah := aa.mk (ZN (g := al) (o := .cells #[.slice (some ch) av.length aZ, .slice aV aw.length bc] 24 (0, 0)) (by (with_reducible repeat (first | refine Qg ?_ _ | refine Qh ?_ | refine Qf ?_ _)); exact ah.out) hg (Kd.N_ne dd.out ah.out (by decide))); replace aA := aa.mk (ZN (g := az) (o := .cells #[.slice none 0 0, .slice none 0 0] 24 (0, 0)) (by (with_reducible repeat (first | refine Qg ?_ _ | refine Qh ?_ | refine Qf ?_ _)); exact aA.out) hg (Kd.N_ne dd.out aA.out (by decide))); replace cP := aa.mk (Kd.Yy (ok := (fun k_ => (w.heap.size ≤ k_) ∧ some k_ ≠ (e5 : Value).ownBlock ∧ some k_ ≠ (.slice oV t120.length jQ : Value).ownBlock ∧ k_ ≠ af ∧ k_ ≠ al ∧ k_ ≠ az)) (by (with_reducible repeat (first | apply Kd.N_alloc | apply Kd.Ze | apply Kd.Zn)); exact Kd.QZ cP.out (fun _ hk => ⟨⟨hk.1.1.1.1, ⟨hk.1.1.2, ⟨hk.2, ⟨hk.1.1.1.2.1, ⟨hk.1.1.1.2.2.1, hk.1.1.1.2.2.2⟩⟩⟩⟩⟩, hk.1.2⟩)) hg hat); replace bP := aa.mk (Kd.Yy (ok := (fun k_ => (w.heap.size ≤ k_) ∧ some k_ ≠ (.slice oV t120.length jQ : Value).ownBlock ∧ k_ ≠ af ∧ k_ ≠ al ∧ k_ ≠ az)) (by (with_reducible repeat (first | apply Kd.N_alloc | apply Kd.Ze | apply Kd.Zn)); exact Kd.QZ bP.out (fun _ hk => ⟨⟨hk.1.1.1, ⟨hk.2, ⟨hk.1.1.2.1, ⟨hk.1.1.2.2.1, hk.1.1.2.2.2⟩⟩⟩⟩, hk.1.2⟩)) hg hat); replace jo := aa.mk (Kd.Yy (ok := (fun k_ => (w.heap.size ≤ k_) ∧ some k_ ≠ (.slice jB t111.length jy : Value).ownBlock ∧ some k_ ≠ (e5 : Value).ownBlock ∧ k_ ≠ af ∧ k_ ≠ al ∧ k_ ≠ az)) (by (with_reducible repeat (first | apply Kd.N_alloc | apply Kd.Ze | apply Kd.Zn)); exact Kd.QZ jo.out (fun _ hk => ⟨⟨hk.1, ⟨hk.2.1, ⟨hk.2.2.1, ⟨hk.2.2.2.2.1, ⟨hk.2.2.2.2.2.1, hk.2.2.2.2.2.2⟩⟩⟩⟩⟩, hk.2.2.2.1⟩)) hg hat); replace HB := aa.mk (hb); have mU := aa.mk (ho); clear dd; clear ho hb hg hat; obtain ⟨mg, kG, lT⟩ := Kd.ZS mU.out; (first | subst lT | (injection lT with f1_ f2_ f3_; have f4_ := f1_.symm; have f5_ := f3_.symm; clear f1_ f2_ f3_; subst f4_; subst f5_))
           obtain ⟨mf, lW, pt⟩ := Kd.ZS bP.out; (first | subst pt | (injection pt with f1_ f2_ f3_; have f4_ := f1_.symm; have f5_ := f3_.symm; clear f1_ f2_ f3_; subst f4_; subst f5_))
           refine hK.out _ _ ⟨(Qa ab.out 0).trans rfl, (Qa ab.out 1).trans rfl, (Qa ah.out 0).trans rfl, (Qa ah.out 1).trans rfl⟩ (fun hHeld => ?_); clear hK K; refine Ye (a' := ?_) ?_ ?_; rotate_left
           ·show Act.put _ (some 63) _ = _
            simp only [Act.put, zA, zB, zC, Qw, Qx]; rfl
           refine QS (i := 14) (N := some 64) (v := ?_) (a' := ?_) #[true, true, true, true, true, true, true, true, true, true, true, true, true, true, true, false, false] rfl rfl (QI HT_.out (by kernel_rfl)) (fun _ _ _ h => h) (Or.inl ⟨by rfl, ?_⟩) ?_ ?_; rotate_left
           ·intro w'; go_simp; with_reducible rfl
           rotate_left
           ·simp only [Act.put, zA, zB, zC, Qw, Qx]; rfl
           refine one_ (i := 15) (N := none) #[true, true, true, true, true, true, true, true, true, true, true, true, true, true, true, true, false] rfl rfl (ZL HT_.out (by kernel_rfl)) (by decide) (fun K hK => ?_); have Bp : w50.cell? ⟨az, 0, none⟩ = some (.slice none 0 0) := (Qa aA.out 0).trans rfl; have vT := Qb aA.out 0; have qo := a9.out; have qn := a8.out; have qu := bu.out; have qt := bt.out; have Bo : w50.cell? ⟨az, 1, none⟩ = some (.slice none 0 0) := (Qa aA.out 1).trans rfl; have vS := Qb aA.out 1; have qm := a9.out; have qk := a8.out; have qq := bu.out; have qp := bt.out; refine Uk (w1 := ?_) (by rfl) rfl ?_ ?_; rotate_left
           ·go_simp; rfl
           refine hK.out _ _ ⟨((Yd (p := ⟨az, _, none⟩) a9.out _).trans (((Yd (p := ⟨az, _, none⟩) a9.out _).trans (hHeld.1)))), ((Yd (p := ⟨az, _, none⟩) a9.out _).trans (((Yd (p := ⟨az, _, none⟩) a9.out _).trans (hHeld.2.1)))), ((Yd (p := ⟨az, _, none⟩) a8.out _).trans (((Yd (p := ⟨az, _, none⟩) a8.out _).trans (hHeld.2.2.1)))), ((Yd (p := ⟨az, _, none⟩) a8.out _).trans (((Yd (p := ⟨az, _, none⟩) a8.out _).trans (hHeld.2.2.2))))⟩ (fun hHeld => ?_); clear hK K; refine QS (i := 16) (N := some 5) (v := ?_) (a' := ?_) #[true, true, true, true, true, true, true, true, true, true, true, true, true, true, true, true, true] rfl rfl (QI HT_.out (by kernel_rfl)) (fun _ _ _ h => h) (Or.inl ⟨by rfl, ?_⟩) ?_ ?_; rotate_left
           ·intro w'; go_simp; with_reducible rfl
           rotate_left
           ·simp only [Act.put, zA, zB, zC, Qw, Qx]; rfl
           refine YA (Yf HT_.out (by kernel_rfl)) ?_; try go_wp2
           refine bodyPost_ret (Yi rfl _ _ az 24 #[.slice mf eT.length lW, .slice mg lv.length kG] (0, 0) _ rfl (by (with_reducible repeat (first | refine Qg ?_ _ | refine Qh ?_ | refine Qf ?_ _)); refine ZC (cs := #[.slice mf eT.length lW, .slice none 0 0]) ?_ 1 _ rfl; (with_reducible repeat (first | refine Qg ?_ _ | refine Qh ?_ | refine Qf ?_ _)); refine ZC (cs := #[.slice none 0 0, .slice none 0 0]) ?_ 0 _ rfl; (with_reducible repeat (first | refine Qg ?_ _ | refine Qh ?_ | refine Qf ?_ _)); exact aA.out) Try.underlying24 rfl (by kernel_rfl)) rfl ?_; exact ⟨_, _, by first | rfl | (simp [Qo, Qn] <;> rfl) | (simp [*, Qo, Qn] <;> rfl), by (with_reducible repeat (first | apply Kd.N_alloc | apply Kd.Ze | apply Kd.Zn)); exact Kd.QZ (Kd.ZI (p := ⟨az, 1, none⟩) (Kd.ZI (p := ⟨az, 0, none⟩) (Kd.QZ bP.out (fun k_ hk => (⟨hk, hk.1.2.2.2.2⟩ : _ ∧ k_ ≠ az))) (fun _ hk => hk.2) (.slice mf eT.length lW)) (fun _ hk => hk.2) (.slice mg lv.length kG)) (fun _ hk => ⟨hk.1.1.1, hk.1.2⟩), by (with_reducible repeat (first | apply Kd.N_alloc | apply Kd.Ze | apply Kd.Zn)); exact Kd.QZ (Kd.ZI (p := ⟨az, 1, none⟩) (Kd.ZI (p := ⟨az, 0, none⟩) (Kd.QZ mU.out (fun k_ hk => (⟨hk, hk.2.2.2.2.2⟩ : _ ∧ k_ ≠ az))) (fun _ hk => hk.2) (.slice mf eT.length lW)) (fun _ hk => hk.2) (.slice mg lv.length kG)) (fun _ hk => ⟨hk.1.1, hk.1.2.2.1⟩), bB⟩
          ·rw [if_neg c42] at H; exact absurd H (by simp)
         ·rw [if_neg c39] at H; exact absurd H (by simp)
     ·rw [if_neg c9] at H; have ft : (((Qt ae 0).length : Int) == ((Qt av 0).length : Int)) = false := beq_eq_false_iff_ne.mpr c9; have pD : (((Qt ae 0).length : Int) != ((Qt av 0).length : Int)) = true := bne_iff_ne.mpr c9; have pC : ((Qt ae 0).length == (Qt av 0).length) = false := by first | simpa using c9 | (simp at c9 ⊢; omega)
      simp only [Option.some.injEq, Prod.mk.injEq] at H; obtain ⟨rfl, rfl, rfl⟩ := H; go_enter Try.func67, Try.ntmps67; try go_wp2_with (first | ((with_reducible refine QD (N := 2) rfl ?_); (try (refine Q8 (by rfl) ?_; dsimp only)); refine QJ ?hg (N := 2) ?hd (cs := #[.slice aq ae.length an, .slice ak ag.length ao]) (t := 24) ?hr ?_; (case hd => rfl); (case hg => rfl); (case hr => first | (go_simp; done) | (go_simp; rfl)); intro af hg w56 hbox hb; have ab := aa.mk (hbox); have bA := aa.mk ((by rw [hg]; exact (Qe bB) : w.heap.size ≤ af)); have bk := aa.mk ((by rw [hg]; exact (Qe bB) : w.heap.size ≤ af)); replace HB := aa.mk (Qd bB hb); clear hb hbox hg) | ((with_reducible refine QD (N := 3) rfl ?_); (try (refine Q8 (by rfl) ?_; dsimp only)); refine QJ ?hg (N := 3) ?hd (cs := #[.slice aY av.length aZ, .slice aV aw.length bc]) (t := 24) ?hr ?_; (case hd => rfl); (case hg => rfl); (case hr => first | (go_simp; done) | (go_simp; rfl)); intro al hg w57 hbox hb; have ah := aa.mk (hbox); have fo := aa.mk ((by rw [hg]; exact (Qe bB) : w.heap.size ≤ al)); have e0 := aa.mk ((by rw [hg]; exact (Qe bB) : w.heap.size ≤ al)); replace HB := aa.mk (Qd bB hb); have aM := aa.mk ((by rw [hg]; exact Nat.ne_of_lt (Q7 (g := af) (o := .cells #[.slice aq ae.length an, .slice ak ag.length ao] 24 (0, 0)) (by (with_reducible repeat (first | refine Qg ?_ _ | refine Qh ?_ | refine Qf ?_ _)); exact ab.out)) : af ≠ al)); have aK := aa.mk ((by rw [hg]; exact Nat.ne_of_gt (Q7 (g := af) (o := .cells #[.slice aq ae.length an, .slice ak ag.length ao] 24 (0, 0)) (by (with_reducible repeat (first | refine Qg ?_ _ | refine Qh ?_ | refine Qf ?_ _)); exact ab.out)) : al ≠ af)); replace ab := aa.mk (Qc ab.out hb); clear hb hbox hg) | ((with_reducible refine QD (N := 4) rfl ?_); (try (refine Q8 (by rfl) ?_; dsimp only)); refine QJ ?hg (N := 4) ?hd (cs := #[.slice none 0 0, .slice none 0 0]) (t := 24) ?hr ?_; (case hd => rfl); (case hg => rfl); (case hr => first | (go_simp; done) | (go_simp; rfl)); intro az hg w58 hbox hb; have aA := aa.mk (hbox); have kU := aa.mk ((by rw [hg]; exact (Qe bB) : w.heap.size ≤ az)); have jN := aa.mk ((by rw [hg]; exact (Qe bB) : w.heap.size ≤ az)); replace HB := aa.mk (Qd bB hb); have a9 := aa.mk ((by rw [hg]; exact Nat.ne_of_lt (Q7 (g := af) (o := .cells #[.slice aq ae.length an, .slice ak ag.length ao] 24 (0, 0)) (by (with_reducible repeat (first | refine Qg ?_ _ | refine Qh ?_ | refine Qf ?_ _)); exact ab.out)) : af ≠ az)); have bu := aa.mk ((by rw [hg]; exact Nat.ne_of_gt (Q7 (g := af) (o := .cells #[.slice aq ae.length an, .slice ak ag.length ao] 24 (0, 0)) (by (with_reducible repeat (first | refine Qg ?_ _ | refine Qh ?_ | refine Qf ?_ _)); exact ab.out)) : az ≠ af)); replace ab := aa.mk (Qc ab.out hb); have a8 := aa.mk ((by rw [hg]; exact Nat.ne_of_lt (Q7 (g := al) (o := .cells #[.slice aY av.length aZ, .slice aV aw.length bc] 24 (0, 0)) (by (with_reducible repeat (first | refine Qg ?_ _ | refine Qh ?_ | refine Qf ?_ _)); exact ah.out)) : al ≠ az)); have bt := aa.mk ((by rw [hg]; exact Nat.ne_of_gt (Q7 (g := al) (o := .cells #[.slice aY av.length aZ, .slice aV aw.length bc] 24 (0, 0)) (by (with_reducible repeat (first | refine Qg ?_ _ | refine Qh ?_ | refine Qf ?_ _)); exact ah.out)) : az ≠ al)); replace ah := aa.mk (Qc ah.out hb); clear hb hbox hg; have uW := aM.out; have uF := aK.out; have uV := a9.out; have uE := bu.out; have rf : w58.cell? ⟨af, 0, none⟩ = some (.slice aq ae.length an) := (Qa ab.out 0).trans rfl; have re : w58.cell? ⟨af, 1, none⟩ = some (.slice ak ag.length ao) := (Qa ab.out 1).trans rfl; have qJ := Qb ab.out 0; have qI := Qb ab.out 1) | ((with_reducible refine Qk (f := 55) rfl ?_); refine QE (some 8) rfl rfl Try.func55 (by kernel_rfl) rfl #[.agg #[.slice aq ae.length an, .slice ak ag.length ao]] rfl hA ?_; (with_reducible refine (Qi.calls k (fun k_ => k_ < w.heap.size) _ _ ae (fun k_ => k_ < w.heap.size) _ _ ag t104 _ ?aj ?ai A3.out).mono ?_); (case aj => exact Kd.V_mk aQ.out (Kd.Z5 (Kd.C_F (Kd.ZG 3 (Kd.Z1 .i64)) aI.out) bB)); (case ai => exact Kd.V_mk aT.out (Kd.Z5 (Kd.C_F (Kd.ZG 3 (Kd.Z1 .i64)) aW.out) bB)); rintro e w62 ⟨rfl, hb⟩; refine ⟨_, rfl, ?_⟩; replace ab := aa.mk (Qc ab.out hb); replace ah := aa.mk (Qc ah.out hb); replace aA := aa.mk (Qc aA.out hb); replace HB := aa.mk (Qd bB hb); (try clear hb); (try clear hb2); (try clear hk); (try clear hi); have uU := a8.out; have uD := bt.out; have oo : w62.cell? ⟨al, 0, none⟩ = some (.slice aY av.length aZ) := (Qa ah.out 0).trans rfl; have om : w62.cell? ⟨al, 1, none⟩ = some (.slice aV aw.length bc) := (Qa ah.out 1).trans rfl; have nX := Qb ah.out 0; have nW := Qb ah.out 1) | ((with_reducible refine Qk (f := 55) rfl ?_); refine QE (some 14) rfl rfl Try.func55 (by kernel_rfl) rfl #[.agg #[.slice aY av.length aZ, .slice aV aw.length bc]] rfl hA ?_; (with_reducible refine (Qi.calls k (fun k_ => k_ < w.heap.size) _ _ av (fun k_ => k_ < w.heap.size) _ _ aw t105 _ ?aj ?ai A5.out).mono ?_); (case aj => exact Kd.V_mk cm.out (Kd.Z5 (Kd.C_F (Kd.ZG 3 (Kd.Z1 .i64)) cF.out) bB)); (case ai => exact Kd.V_mk cw.out (Kd.Z5 (Kd.C_F (Kd.ZG 3 (Kd.Z1 .i64)) cW.out) bB)); rintro e w65 ⟨rfl, hb⟩; refine ⟨_, rfl, ?_⟩; replace ab := aa.mk (Qc ab.out hb); replace ah := aa.mk (Qc ah.out hb); replace aA := aa.mk (Qc aA.out hb); replace HB := aa.mk (Qd bB hb); (try clear hb); (try clear hb2); (try clear hk); (try clear hi)))
      replace ab := aa.mk (Qh ab.out); replace ah := aa.mk (Qh ah.out); replace aA := aa.mk (Qh aA.out); replace HB := aa.mk (QL HB.out); have cI : 0 ≤ (0 : Int) := (by omega); have cH : 0 < (ae.length : Int) := of_decide_eq_true (by assumption); obtain ⟨bM, hH, g8, fW, aJ, dz, dA⟩ := ZH aI.out 0 cI cH; have bn := aJ; (try rw [show ((0 : Int)).toNat = 0 from rfl] at bn)
      (try rw [show 0 * 1 = 0 from rfl] at bn)
      (try rw [Addr.add_zero'] at bn)
      cases fW; have nI : (0 < ae.length) = True := eq_true (by omega); (try rw [show ((0 : Int)).toNat = 0 from rfl] at aJ)
      (try rw [Addr.add_zero'] at aJ)
      replace aJ := (HB.out.cell (World.block_lt_of_cell? w _ aJ)).trans aJ; have fg := aa.mk dA; have ko := aa.mk dz; clear dA dz; replace cI := eq_true cI; replace cH := eq_true cH; have fV : 0 ≤ (0 : Int) := (by omega); have fU : 0 < (av.length : Int) := of_decide_eq_true (by assumption); obtain ⟨ch, iE, iC, lV, bm, en, ew⟩ := ZH cF.out 0 fV fU; have b9 := bm; (try rw [show ((0 : Int)).toNat = 0 from rfl] at b9)
      (try rw [show 0 * 1 = 0 from rfl] at b9)
      (try rw [Addr.add_zero'] at b9)
      cases lV; have o7 : (0 < av.length) = True := eq_true (by omega); (try rw [show ((0 : Int)).toNat = 0 from rfl] at bm)
      (try rw [Addr.add_zero'] at bm)
      replace bm := (HB.out.cell (World.block_lt_of_cell? w _ bm)).trans bm; have gz := aa.mk ew; have mc := aa.mk en; clear ew en; replace fV := eq_true fV; replace fU := eq_true fU; refine Ym (n := 11) (S := fun w' => w'.cell? ⟨af, 0, none⟩ = some (.slice (some bM) ae.length an) ∧ w'.cell? ⟨af, 1, none⟩ = some (.slice ak ag.length ao) ∧ w'.cell? ⟨al, 0, none⟩ = some (.slice (some ch) av.length aZ) ∧ w'.cell? ⟨al, 1, none⟩ = some (.slice aV aw.length bc) ∧ w'.cell? bM = some (.slice hH (Qt ae 0).length g8) ∧ w'.cell? ch = some (.slice iE (Qt av 0).length iC)) (ds := []) #[false, false, false, false, false, false, false, false, false, false, false] (by kernel_rfl) rfl rfl ⟨(Qa ab.out 0).trans rfl, (Qa ab.out 1).trans rfl, (Qa ah.out 0).trans rfl, (Qa ah.out 1).trans rfl, ((HB.out.cell (World.block_lt_of_cell? w _ bn)).trans bn), ((HB.out.cell (World.block_lt_of_cell? w _ b9)).trans b9)⟩ (fun hHeld => ?_); refine ZT QB.tab7 QB.bits7 (fun HT_ HW_ => ?_); generalize w65.drew = w66 at ab ah aA HB fg gz aJ bm hHeld ⊢; refine QS (i := 0) (N := some 19) (v := ?_) (a' := ?_) #[true, false, false, false, false, false, false, false, false, false, false] rfl rfl (QI HT_.out (by kernel_rfl)) (fun _ _ _ h => h) (Or.inl ⟨by rfl, ?_⟩) ?_ ?_; rotate_left
      ·intro w'; go_simp; with_reducible rfl
      rotate_left
      ·simp only [Act.put, zA, zB, zC, Qw, Qx]; rfl
      refine QS (i := 5) (N := some 24) (v := ?_) (a' := ?_) #[true, false, false, false, false, true, false, false, false, false, false] rfl rfl (QI HT_.out (by kernel_rfl)) (fun _ _ _ h => h) (Or.inl ⟨by rfl, ?_⟩) ?_ ?_; rotate_left
      ·intro w'; go_simp; with_reducible rfl
      rotate_left
      ·simp only [Act.put, zA, zB, zC, Qw, Qx]; rfl
      refine Zy (i := 1) (N := some 20) (v := ?_) (a' := ?_) #[true, true, false, false, false, true, false, false, false, false, false] rfl rfl (Q4 HT_.out HW_.out (by kernel_rfl)) (fun _ _ _ h => h) (Or.inl ⟨by rfl, ?_⟩) hHeld ?_ ?_; rotate_left
      ·rintro w' ⟨s0, s1, s2, s3, s4, s5⟩; go_simp; with_reducible rfl
      rotate_left
      ·simp only [Act.put, zA, zB, zC, Qw, Qx]; rfl
      refine QS (i := 2) (N := some 21) (v := ?_) (a' := ?_) #[true, true, true, false, false, true, false, false, false, false, false] rfl rfl (QI HT_.out (by kernel_rfl)) (fun _ _ _ h => h) (Or.inl ⟨by rfl, ?_⟩) ?_ ?_; rotate_left
      ·intro w'; go_simp; with_reducible rfl
      rotate_left
      ·simp only [Act.put, zA, zB, zC, Qw, Qx]; rfl
      refine Zy (i := 3) (N := some 22) (v := ?_) (a' := ?_) #[true, true, true, true, false, true, false, false, false, false, false] rfl rfl (Q4 HT_.out HW_.out (by kernel_rfl)) (fun _ _ _ h => h) (Or.inl ⟨by rfl, ?_⟩) hHeld ?_ ?_; rotate_left
      ·rintro w' ⟨s0, s1, s2, s3, s4, s5⟩; go_simp; with_reducible rfl
      rotate_left
      ·simp only [Act.put, zA, zB, zC, Qw, Qx]; rfl
      refine QS (i := 4) (N := some 23) (v := ?_) (a' := ?_) #[true, true, true, true, true, true, false, false, false, false, false] rfl rfl (QI HT_.out (by kernel_rfl)) (fun _ _ _ h => h) (Or.inl ⟨by rfl, ?_⟩) ?_ ?_; rotate_left
      ·intro w'; go_simp; with_reducible rfl
      rotate_left
      ·simp only [Act.put, zA, zB, zC, Qw, Qx]; rfl
      refine Zy (i := 6) (N := some 25) (v := ?_) (a' := ?_) #[true, true, true, true, true, true, true, false, false, false, false] rfl rfl (Q4 HT_.out HW_.out (by kernel_rfl)) (fun _ _ _ h => h) (Or.inl ⟨by rfl, ?_⟩) hHeld ?_ ?_; rotate_left
      ·rintro w' ⟨s0, s1, s2, s3, s4, s5⟩; go_simp; with_reducible rfl
      rotate_left
      ·simp only [Act.put, zA, zB, zC, Qw, Qx]; rfl
      refine QS (i := 7) (N := some 26) (v := ?_) (a' := ?_) #[true, true, true, true, true, true, true, true, false, false, false] rfl rfl (QI HT_.out (by kernel_rfl)) (fun _ _ _ h => h) (Or.inl ⟨by rfl, ?_⟩) ?_ ?_; rotate_left
      ·intro w'; go_simp; with_reducible rfl
      rotate_left
      ·simp only [Act.put, zA, zB, zC, Qw, Qx]; rfl
      refine Zy (i := 8) (N := some 27) (v := ?_) (a' := ?_) #[true, true, true, true, true, true, true, true, true, false, false] rfl rfl (Q4 HT_.out HW_.out (by kernel_rfl)) (fun _ _ _ h => h) (Or.inl ⟨by rfl, ?_⟩) hHeld ?_ ?_; rotate_left
      ·rintro w' ⟨s0, s1, s2, s3, s4, s5⟩; go_simp; with_reducible rfl
      rotate_left
      ·simp only [Act.put, zA, zB, zC, Qw, Qx]; rfl
      refine QS (i := 9) (N := some 28) (v := ?_) (a' := ?_) #[true, true, true, true, true, true, true, true, true, true, false] rfl rfl (QI HT_.out (by kernel_rfl)) (fun _ _ _ h => h) (Or.inl ⟨by rfl, ?_⟩) ?_ ?_; rotate_left
      ·intro w'; go_simp; with_reducible rfl
      rotate_left
      ·simp only [Act.put, zA, zB, zC, Qw, Qx]; rfl
      refine QS (i := 10) (N := some 29) (v := ?_) (a' := ?_) #[true, true, true, true, true, true, true, true, true, true, true] rfl rfl (QI HT_.out (by kernel_rfl)) (fun _ _ _ h => h) (Or.inl ⟨by rfl, ?_⟩) ?_ ?_; rotate_left
      ·intro w'; go_simp; with_reducible rfl
      rotate_left
      ·simp only [Act.put, zA, zB, zC, Qw, Qx]; rfl
      refine YA (Yf HT_.out (by kernel_rfl)) ?_; have oh : w66.cell? ⟨az, 0, none⟩ = some (.slice none 0 0) := (Qa aA.out 0).trans rfl; have og : w66.cell? ⟨az, 1, none⟩ = some (.slice none 0 0) := (Qa aA.out 1).trans rfl; have nV := Qb aA.out 0; have nU := Qb aA.out 1; try go_wp2
      refine bodyPost_ret (Yi rfl _ _ az 24 #[.slice none 0 0, .slice none 0 0] (0, 0) _ rfl (by (with_reducible repeat (first | refine Qg ?_ _ | refine Qh ?_ | refine Qf ?_ _)); refine ZC (cs := #[.slice none 0 0, .slice none 0 0]) ?_ 1 _ rfl; (with_reducible repeat (first | refine Qg ?_ _ | refine Qh ?_ | refine Qf ?_ _)); refine ZC (cs := #[.slice none 0 0, .slice none 0 0]) ?_ 0 _ rfl; (with_reducible repeat (first | refine Qg ?_ _ | refine Qh ?_ | refine Qf ?_ _)); exact aA.out) Try.underlying24 rfl (by kernel_rfl)) rfl ?_; exact ⟨_, _, by first | rfl | (simp [Qo, Qn] <;> rfl) | (simp [*, Qo, Qn] <;> rfl), by first | exact Kd.Yj _ _ _ _ _ | exact Kd.Yh _ _ _ _ _ | exact Kd.V_nil _ _ _ _ _ | exact Kd.Q_nil _ _ _ _ _ | exact Kd.Yb _ _ _ _ _, by first | exact Kd.Yj _ _ _ _ _ | exact Kd.Yh _ _ _ _ _ | exact Kd.V_nil _ _ _ _ _ | exact Kd.Q_nil _ _ _ _ _ | exact Kd.Yb _ _ _ _ _, bB⟩
    ·rw [if_neg c8] at H; exact absurd H (by simp)
   ·rw [if_neg c7] at H; exact absurd H (by simp)
  ·rw [if_neg c6] at H; have gZ : (t105 == 0) = false := beq_eq_false_iff_ne.mpr c6; have jV : (t105 != 0) = true := bne_iff_ne.mpr c6; simp only [Option.some.injEq, Prod.mk.injEq] at H; obtain ⟨rfl, rfl, rfl⟩ := H; go_enter Try.func67, Try.ntmps67; go_wp2_with (first | ((with_reducible refine QD (N := 2) rfl ?_); (try (refine Q8 (by rfl) ?_; dsimp only)); refine QJ ?hg (N := 2) ?hd (cs := #[.slice aq ae.length an, .slice ak ag.length ao]) (t := 24) ?hr ?_; (case hd => rfl); (case hg => rfl); (case hr => first | (go_simp; done) | (go_simp; rfl)); intro af hg w68 hbox hb; have ab := aa.mk (hbox); have bA := aa.mk ((by rw [hg]; exact (Qe bB) : w.heap.size ≤ af)); have bk := aa.mk ((by rw [hg]; exact (Qe bB) : w.heap.size ≤ af)); replace HB := aa.mk (Qd bB hb); clear hb hbox hg) | ((with_reducible refine QD (N := 3) rfl ?_); (try (refine Q8 (by rfl) ?_; dsimp only)); refine QJ ?hg (N := 3) ?hd (cs := #[.slice aY av.length aZ, .slice aV aw.length bc]) (t := 24) ?hr ?_; (case hd => rfl); (case hg => rfl); (case hr => first | (go_simp; done) | (go_simp; rfl)); intro al hg w69 hbox hb; have ah := aa.mk (hbox); have fo := aa.mk ((by rw [hg]; exact (Qe bB) : w.heap.size ≤ al)); have e0 := aa.mk ((by rw [hg]; exact (Qe bB) : w.heap.size ≤ al)); replace HB := aa.mk (Qd bB hb); have aM := aa.mk ((by rw [hg]; exact Nat.ne_of_lt (Q7 (g := af) (o := .cells #[.slice aq ae.length an, .slice ak ag.length ao] 24 (0, 0)) (by (with_reducible repeat (first | refine Qg ?_ _ | refine Qh ?_ | refine Qf ?_ _)); exact ab.out)) : af ≠ al)); have aK := aa.mk ((by rw [hg]; exact Nat.ne_of_gt (Q7 (g := af) (o := .cells #[.slice aq ae.length an, .slice ak ag.length ao] 24 (0, 0)) (by (with_reducible repeat (first | refine Qg ?_ _ | refine Qh ?_ | refine Qf ?_ _)); exact ab.out)) : al ≠ af)); replace ab := aa.mk (Qc ab.out hb); clear hb hbox hg) | ((with_reducible refine QD (N := 4) rfl ?_); (try (refine Q8 (by rfl) ?_; dsimp only)); refine QJ ?hg (N := 4) ?hd (cs := #[.slice none 0 0, .slice none 0 0]) (t := 24) ?hr ?_; (case hd => rfl); (case hg => rfl); (case hr => first | (go_simp; done) | (go_simp; rfl)); intro az hg w70 hbox hb; have aA := aa.mk (hbox); have kU := aa.mk ((by rw [hg]; exact (Qe bB) : w.heap.size ≤ az)); have jN := aa.mk ((by rw [hg]; exact (Qe bB) : w.heap.size ≤ az)); replace HB := aa.mk (Qd bB hb); have a9 := aa.mk ((by rw [hg]; exact Nat.ne_of_lt (Q7 (g := af) (o := .cells #[.slice aq ae.length an, .slice ak ag.length ao] 24 (0, 0)) (by (with_reducible repeat (first | refine Qg ?_ _ | refine Qh ?_ | refine Qf ?_ _)); exact ab.out)) : af ≠ az)); have bu := aa.mk ((by rw [hg]; exact Nat.ne_of_gt (Q7 (g := af) (o := .cells #[.slice aq ae.length an, .slice ak ag.length ao] 24 (0, 0)) (by (with_reducible repeat (first | refine Qg ?_ _ | refine Qh ?_ | refine Qf ?_ _)); exact ab.out)) : az ≠ af)); replace ab := aa.mk (Qc ab.out hb); have a8 := aa.mk ((by rw [hg]; exact Nat.ne_of_lt (Q7 (g := al) (o := .cells #[.slice aY av.length aZ, .slice aV aw.length bc] 24 (0, 0)) (by (with_reducible repeat (first | refine Qg ?_ _ | refine Qh ?_ | refine Qf ?_ _)); exact ah.out)) : al ≠ az)); have bt := aa.mk ((by rw [hg]; exact Nat.ne_of_gt (Q7 (g := al) (o := .cells #[.slice aY av.length aZ, .slice aV aw.length bc] 24 (0, 0)) (by (with_reducible repeat (first | refine Qg ?_ _ | refine Qh ?_ | refine Qf ?_ _)); exact ah.out)) : az ≠ al)); replace ah := aa.mk (Qc ah.out hb); clear hb hbox hg; have sa := aM.out; have rZ := aK.out; have uT := a9.out; have uC := bu.out; have rb : w70.cell? ⟨af, 0, none⟩ = some (.slice aq ae.length an) := (Qa ab.out 0).trans rfl; have ra : w70.cell? ⟨af, 1, none⟩ = some (.slice ak ag.length ao) := (Qa ab.out 1).trans rfl; have qH := Qb ab.out 0; have qG := Qb ab.out 1) | ((with_reducible refine Qk (f := 55) rfl ?_); refine QE (some 8) rfl rfl Try.func55 (by kernel_rfl) rfl #[.agg #[.slice aq ae.length an, .slice ak ag.length ao]] rfl hA ?_; (with_reducible refine (Qi.calls k (fun k_ => k_ < w.heap.size) _ _ ae (fun k_ => k_ < w.heap.size) _ _ ag t104 _ ?aj ?ai A3.out).mono ?_); (case aj => exact Kd.V_mk aQ.out (Kd.Z5 (Kd.C_F (Kd.ZG 3 (Kd.Z1 .i64)) aI.out) bB)); (case ai => exact Kd.V_mk aT.out (Kd.Z5 (Kd.C_F (Kd.ZG 3 (Kd.Z1 .i64)) aW.out) bB)); rintro e w74 ⟨rfl, hb⟩; refine ⟨_, rfl, ?_⟩; replace ab := aa.mk (Qc ab.out hb); replace ah := aa.mk (Qc ah.out hb); replace aA := aa.mk (Qc aA.out hb); replace HB := aa.mk (Qd bB hb); (try clear hb); (try clear hb2); (try clear hk); (try clear hi); have uR := a8.out; have uA := bt.out; have q7 : w74.cell? ⟨al, 0, none⟩ = some (.slice aY av.length aZ) := (Qa ah.out 0).trans rfl; have q6 : w74.cell? ⟨al, 1, none⟩ = some (.slice aV aw.length bc) := (Qa ah.out 1).trans rfl; have qD := Qb ah.out 0; have qC := Qb ah.out 1) | ((with_reducible refine Qk (f := 55) rfl ?_); refine QE (some 14) rfl rfl Try.func55 (by kernel_rfl) rfl #[.agg #[.slice aY av.length aZ, .slice aV aw.length bc]] rfl hA ?_; (with_reducible refine (Qi.calls k (fun k_ => k_ < w.heap.size) _ _ av (fun k_ => k_ < w.heap.size) _ _ aw t105 _ ?aj ?ai A5.out).mono ?_); (case aj => exact Kd.V_mk cm.out (Kd.Z5 (Kd.C_F (Kd.ZG 3 (Kd.Z1 .i64)) cF.out) bB)); (case ai => exact Kd.V_mk cw.out (Kd.Z5 (Kd.C_F (Kd.ZG 3 (Kd.Z1 .i64)) cW.out) bB)); rintro e w77 ⟨rfl, hb⟩; refine ⟨_, rfl, ?_⟩; replace ab := aa.mk (Qc ab.out hb); replace ah := aa.mk (Qc ah.out hb); replace aA := aa.mk (Qc aA.out hb); replace HB := aa.mk (Qd bB hb); (try clear hb); (try clear hb2); (try clear hk); (try clear hi); have q5 : w77.cell? ⟨az, 0, none⟩ = some (.slice none 0 0) := (Qa aA.out 0).trans rfl; have q4 : w77.cell? ⟨az, 1, none⟩ = some (.slice none 0 0) := (Qa aA.out 1).trans rfl; have qB := Qb aA.out 0; have qA := Qb aA.out 1))
   refine bodyPost_ret (Yi rfl _ _ az 24 #[.slice none 0 0, .slice none 0 0] (0, 0) _ rfl (by (with_reducible repeat (first | refine Qg ?_ _ | refine Qh ?_ | refine Qf ?_ _)); refine ZC (cs := #[.slice none 0 0, .slice none 0 0]) ?_ 1 _ rfl; (with_reducible repeat (first | refine Qg ?_ _ | refine Qh ?_ | refine Qf ?_ _)); refine ZC (cs := #[.slice none 0 0, .slice none 0 0]) ?_ 0 _ rfl; (with_reducible repeat (first | refine Qg ?_ _ | refine Qh ?_ | refine Qf ?_ _)); exact aA.out) Try.underlying24 rfl (by kernel_rfl)) rfl ?_; exact ⟨_, _, by first | rfl | (simp [Qo, Qn] <;> rfl) | (simp [*, Qo, Qn] <;> rfl), by first | exact Kd.Yj _ _ _ _ _ | exact Kd.Yh _ _ _ _ _ | exact Kd.V_nil _ _ _ _ _ | exact Kd.Q_nil _ _ _ _ _ | exact Kd.Yb _ _ _ _ _, by first | exact Kd.Yj _ _ _ _ _ | exact Kd.Yh _ _ _ _ _ | exact Kd.V_nil _ _ _ _ _ | exact Kd.Q_nil _ _ _ _ _ | exact Kd.Yb _ _ _ _ _, bB⟩
 ·rw [if_neg c4] at H; have cn : (t104 == 0) = false := beq_eq_false_iff_ne.mpr c4; have eC : (t104 != 0) = true := bne_iff_ne.mpr c4; simp only [Option.some.injEq, Prod.mk.injEq] at H; obtain ⟨rfl, rfl, rfl⟩ := H; go_enter Try.func67, Try.ntmps67; go_wp2_with (first | ((with_reducible refine QD (N := 2) rfl ?_); (try (refine Q8 (by rfl) ?_; dsimp only)); refine QJ ?hg (N := 2) ?hd (cs := #[.slice aq ae.length an, .slice ak ag.length ao]) (t := 24) ?hr ?_; (case hd => rfl); (case hg => rfl); (case hr => first | (go_simp; done) | (go_simp; rfl)); intro af hg w79 hbox hb; have ab := aa.mk (hbox); have bA := aa.mk ((by rw [hg]; exact (Qe bB) : w.heap.size ≤ af)); have bk := aa.mk ((by rw [hg]; exact (Qe bB) : w.heap.size ≤ af)); replace HB := aa.mk (Qd bB hb); clear hb hbox hg) | ((with_reducible refine QD (N := 3) rfl ?_); (try (refine Q8 (by rfl) ?_; dsimp only)); refine QJ ?hg (N := 3) ?hd (cs := #[.slice aY av.length aZ, .slice aV aw.length bc]) (t := 24) ?hr ?_; (case hd => rfl); (case hg => rfl); (case hr => first | (go_simp; done) | (go_simp; rfl)); intro al hg w80 hbox hb; have ah := aa.mk (hbox); have fo := aa.mk ((by rw [hg]; exact (Qe bB) : w.heap.size ≤ al)); have e0 := aa.mk ((by rw [hg]; exact (Qe bB) : w.heap.size ≤ al)); replace HB := aa.mk (Qd bB hb); have aM := aa.mk ((by rw [hg]; exact Nat.ne_of_lt (Q7 (g := af) (o := .cells #[.slice aq ae.length an, .slice ak ag.length ao] 24 (0, 0)) (by (with_reducible repeat (first | refine Qg ?_ _ | refine Qh ?_ | refine Qf ?_ _)); exact ab.out)) : af ≠ al)); have aK := aa.mk ((by rw [hg]; exact Nat.ne_of_gt (Q7 (g := af) (o := .cells #[.slice aq ae.length an, .slice ak ag.length ao] 24 (0, 0)) (by (with_reducible repeat (first | refine Qg ?_ _ | refine Qh ?_ | refine Qf ?_ _)); exact ab.out)) : al ≠ af)); replace ab := aa.mk (Qc ab.out hb); clear hb hbox hg) | ((with_reducible refine QD (N := 4) rfl ?_); (try (refine Q8 (by rfl) ?_; dsimp only)); refine QJ ?hg (N := 4) ?hd (cs := #[.slice none 0 0, .slice none 0 0]) (t := 24) ?hr ?_; (case hd => rfl); (case hg => rfl); (case hr => first | (go_simp; done) | (go_simp; rfl)); intro az hg w81 hbox hb; have aA := aa.mk (hbox); have kU := aa.mk ((by rw [hg]; exact (Qe bB) : w.heap.size ≤ az)); have jN := aa.mk ((by rw [hg]; exact (Qe bB) : w.heap.size ≤ az)); replace HB := aa.mk (Qd bB hb); have a9 := aa.mk ((by rw [hg]; exact Nat.ne_of_lt (Q7 (g := af) (o := .cells #[.slice aq ae.length an, .slice ak ag.length ao] 24 (0, 0)) (by (with_reducible repeat (first | refine Qg ?_ _ | refine Qh ?_ | refine Qf ?_ _)); exact ab.out)) : af ≠ az)); have bu := aa.mk ((by rw [hg]; exact Nat.ne_of_gt (Q7 (g := af) (o := .cells #[.slice aq ae.length an, .slice ak ag.length ao] 24 (0, 0)) (by (with_reducible repeat (first | refine Qg ?_ _ | refine Qh ?_ | refine Qf ?_ _)); exact ab.out)) : az ≠ af)); replace ab := aa.mk (Qc ab.out hb); have a8 := aa.mk ((by rw [hg]; exact Nat.ne_of_lt (Q7 (g := al) (o := .cells #[.slice aY av.length aZ, .slice aV aw.length bc] 24 (0, 0)) (by (with_reducible repeat (first | refine Qg ?_ _ | refine Qh ?_ | refine Qf ?_ _)); exact ah.out)) : al ≠ az)); have bt := aa.mk ((by rw [hg]; exact Nat.ne_of_gt (Q7 (g := al) (o := .cells #[.slice aY av.length aZ, .slice aV aw.length bc] 24 (0, 0)) (by (with_reducible repeat (first | refine Qg ?_ _ | refine Qh ?_ | refine Qf ?_ _)); exact ah.out)) : az ≠ al)); replace ah := aa.mk (Qc ah.out hb); clear hb hbox hg; have uQ := aM.out; have uz := aK.out; have r9 := a9.out; have rY := bu.out; have oe : w81.cell? ⟨af, 0, none⟩ = some (.slice aq ae.length an) := (Qa ab.out 0).trans rfl; have od : w81.cell? ⟨af, 1, none⟩ = some (.slice ak ag.length ao) := (Qa ab.out 1).trans rfl; have nT := Qb ab.out 0; have nS := Qb ab.out 1) | ((with_reducible refine Qk (f := 55) rfl ?_); refine QE (some 8) rfl rfl Try.func55 (by kernel_rfl) rfl #[.agg #[.slice aq ae.length an, .slice ak ag.length ao]] rfl hA ?_; (with_reducible refine (Qi.calls k (fun k_ => k_ < w.heap.size) _ _ ae (fun k_ => k_ < w.heap.size) _ _ ag t104 _ ?aj ?ai A3.out).mono ?_); (case aj => exact Kd.V_mk aQ.out (Kd.Z5 (Kd.C_F (Kd.ZG 3 (Kd.Z1 .i64)) aI.out) bB)); (case ai => exact Kd.V_mk aT.out (Kd.Z5 (Kd.C_F (Kd.ZG 3 (Kd.Z1 .i64)) aW.out) bB)); rintro e w85 ⟨rfl, hb⟩; refine ⟨_, rfl, ?_⟩; replace ab := aa.mk (Qc ab.out hb); replace ah := aa.mk (Qc ah.out hb); replace aA := aa.mk (Qc aA.out hb); replace HB := aa.mk (Qd bB hb); (try clear hb); (try clear hb2); (try clear hk); (try clear hi); have uP := bt.out; have uy := a8.out; have qX : w85.cell? ⟨az, 0, none⟩ = some (.slice none 0 0) := (Qa aA.out 0).trans rfl; have qW : w85.cell? ⟨az, 1, none⟩ = some (.slice none 0 0) := (Qa aA.out 1).trans rfl; have qx := Qb aA.out 0; have qw := Qb aA.out 1))
  refine bodyPost_ret (Yi rfl _ _ az 24 #[.slice none 0 0, .slice none 0 0] (0, 0) _ rfl (by (with_reducible repeat (first | refine Qg ?_ _ | refine Qh ?_ | refine Qf ?_ _)); refine ZC (cs := #[.slice none 0 0, .slice none 0 0]) ?_ 1 _ rfl; (with_reducible repeat (first | refine Qg ?_ _ | refine Qh ?_ | refine Qf ?_ _)); refine ZC (cs := #[.slice none 0 0, .slice none 0 0]) ?_ 0 _ rfl; (with_reducible repeat (first | refine Qg ?_ _ | refine Qh ?_ | refine Qf ?_ _)); exact aA.out) Try.underlying24 rfl (by kernel_rfl)) rfl ?_; exact ⟨_, _, by first | rfl | (simp [Qo, Qn] <;> rfl) | (simp [*, Qo, Qn] <;> rfl), by first | exact Kd.Yj _ _ _ _ _ | exact Kd.Yh _ _ _ _ _ | exact Kd.V_nil _ _ _ _ _ | exact Kd.Q_nil _ _ _ _ _ | exact Kd.Yb _ _ _ _ _, by first | exact Kd.Yj _ _ _ _ _ | exact Kd.Yh _ _ _ _ _ | exact Kd.V_nil _ _ _ _ _ | exact Kd.Q_nil _ _ _ _ _ | exact Kd.Yb _ _ _ _ _, bB⟩
end Go.Proofs.Ytdneelgnmnpanaa.P
end
section
namespace Go.Proofs.Ytdneelgnmnpanaa.P
open Go.RowKit Go.Proofs.YtdneelgnmnpanaaW.PrintWords Go.Proofs.YtdneelgnmnpanaaW.PrintLast Go.Proofs.YtdneelgnmnpanaaW.PrintMore
def Full.kd : Kd (List Int) where
  sz := 1
  E := []
  K := fun w xs cs => ∃ A n, cs = [.slice A n xs.length] ∧ n ≤ xs.length ∧ Kd.C (Kd.int .i64) w A xs.length xs
  M := fun _ _ _ _ _ => False
  K_len := by
    rintro w x cs ⟨A, c, rfl, _⟩; rfl
  K_one := by
    rintro w x cs ⟨A, c, rfl, _⟩ u hu; rw [List.mem_singleton.1 hu]; rfl
  K_below := by
    rintro w w1 x cs hb ⟨A, c, rfl, hl, hr⟩; exact ⟨A, c, rfl, hl, Kd.Ql hr hb⟩
  K_of_M := fun h => h.elim
  M_mono := fun _ h => h
  M_bound := fun h => h
  M_move := fun _ h => h
  M_lower := fun _ h => h
theorem Full.at_ {w : World} {A : Option Addr} {n : Nat} {xs : List (List Int)} (h : Kd.C Full.kd w A n xs) (i : Int) (h0 : 0 ≤ i) (h1 : i < n) : ∃ ad A0 c0, A = some ad ∧ w.cell? (ad.add i.toNat) = some (.slice A0 c0 (Qt xs i).length) ∧ c0 ≤ (Qt xs i).length ∧ Kd.C (Kd.int .i64) w A0 (Qt xs i).length (Qt xs i) := by
  obtain ⟨ad, c, e, _, hK, hc0⟩ := Kd.C_get h ([] : List Int) i h0 h1; obtain ⟨A0, c0, rfl, hl, hr⟩ := hK; have hc : ∀ j u, [Value.slice A0 c0 (Qt xs i).length][j]? = some u → w.cell? (ad.add (i.toNat * 1 + j)) = some u := hc0; exact ⟨ad, A0, c0, e, by have hq := hc 0 _ rfl; rwa [Nat.mul_one, Nat.add_zero] at hq, hl, hr⟩
section
variable {P : Program} {ops : Array Oper} {Q : Exit → Act → World → Prop}
theorem VL {rest : List Oper} {oi : Oper} {a : Act} {w : World} (N : Option Tmp) (hd : oi.dst = N) (hg : oi.guard = none) (k : Tmp) {f : FuncId} (cap : Array Value) {fn : Func} {xs : Array Operand} {ts : Array TypeId} (hop : oi.op = .call { callee := .value (.tmp k), args := xs, argTypes := ts })
    (hf : P.funcs[f]? = some fn) (hname : (fn.name == "runtime.NumGoroutine") = false) (hb : fn.body.isSome = true) (hk : a.eval (.tmp k) = .func (.func f) #[] cap) (args : Array Value) (hargs : xs.map a.eval ++ cap = args)
    (h : Calls P f args w fun e w' => ∃ v, e = .returned v ∧ wpList P ops Q rest (a.put N v) w') : wpList P ops Q (oi :: rest) a w := by
  refine wpList_plain hg fun K hK => ?_
  have he := Jg hf hname hb args w; have hrun : (execOp a.eval oi).run P w = .ok (.enter f args) w := by
    unfold execOp; simp [hop, resolve, Deferred.ofValue, invoke, hk, hargs, he]
  unfold Oper.wp; rw [hrun, Oper.upon_enter]; refine h.mono fun e w'' hh => ?_
  obtain ⟨v, rfl, hk⟩ := hh; subst hd; exact hK _ _ hk
end
def bad (lo hi n : Int) : Bool := !decide (lo ≤ n ∧ n ≤ hi)
theorem within (n lo hi : Int) : Zc.f n lo hi = some (decide (lo ≤ n ∧ n ≤ hi)) := by
  unfold Zc.f; by_cases h : n ≥ lo
  · simp [h]
  · simp [h]
set_option maxHeartbeats 1000000 in
set_option maxRecDepth 100000 in
theorem all1_calls (t lo hi : Int) (g g2 : Nat) (w : World) (hbx : w.cell? ⟨g, 0, none⟩ = some (.int .i64 lo)) (hby : w.cell? ⟨g2, 0, none⟩ = some (.int .i64 hi)) :
    Calls Try.prog 115 #[.int .i64 t, .pointer (some ⟨g, 0, none⟩), .pointer (some ⟨g2, 0, none⟩)] w fun e w' => e = .returned (.bool (bad lo hi t)) ∧ Below w.heap.size w w' := by
  have A1 := aa.mk (within t lo hi); have hbad : (!decide (lo ≤ t ∧ t ≤ hi)) = bad lo hi t := rfl; generalize bad lo hi t = b at *; generalize decide (lo ≤ t ∧ t ≤ hi) = c at *; subst hbad; have HB := aa.mk (Below.refl w.heap.size w); go_enter Try.func115, Try.ntmps115; go_wp2_with (first
    | ((with_reducible refine Qk (f := 75) rfl ?_); refine QE (some 8) rfl rfl Try.func75 (by kernel_rfl) rfl #[.int .i64 t, .int .i64 lo, .int .i64 hi] rfl (by (try simp only [List.map_toArray, List.map_cons, List.map_nil]); first | done | rfl) ?_; (with_reducible refine (Zc.calls t lo hi c _ A1.out).mono ?_); rintro e w' ⟨rfl, ⟨nd, rfl⟩⟩; refine ⟨_, rfl, ?_⟩))
  go_ret; exact ⟨rfl, by repeat (first | (with_reducible first | exact HB.out | apply QU | apply QF | apply QL) | exact HB.out)⟩
set_option maxHeartbeats 2000000 in
set_option maxRecDepth 100000 in
theorem index_calls (A0 : Option Addr) (c0 : Nat) (l0 : List Int) (lo hi : Int) (g g2 : Nat) (w : World) (hr0 : Kd.C (Kd.int .i64) w A0 l0.length l0) (hc0 : l0.length ≤ c0) (hl : l0.length ≤ 1000) (hbx : w.cell? ⟨g, 0, none⟩ = some (.int .i64 lo)) (hby : w.cell? ⟨g2, 0, none⟩ = some (.int .i64 hi)) :
    Calls Try.prog 119 #[.slice A0 l0.length c0, .func (.func 115) #[] #[.pointer (some ⟨g, 0, none⟩), .pointer (some ⟨g2, 0, none⟩)]] w fun e w' => ∃ r : Int, e = .returned (.int .i64 r) ∧ decide (0 ≤ r) = l0.any (bad lo hi) ∧ Below w.heap.size w w' := by
  have HR0 := aa.mk hr0; have HC0 := aa.mk hc0; have HBX := aa.mk hbx; have HBY := aa.mk hby; have HL := aa.mk hl; clear hr0 hc0 hbx hby; have HB := aa.mk (Below.refl w.heap.size w); go_enter Try.func119, Try.ntmps119; go_wp2_with fail
  go_loopw [8] (fun i w' => ∃ n : Nat, n ≤ l0.length ∧ i = .int .i64 n ∧ aa (l0.any (bad lo hi) = (l0.drop n).any (bad lo hi)) ∧ aa (Below w.heap.size w w')) (fun i _ => l0.length - (intOf i).toNat)
  case atStart => exact ⟨0, by omega, rfl, ⟨rfl⟩, by first | exact HB | exact ⟨HB.out.drew⟩⟩
  case round =>
    clear HB; obtain ⟨n, hn, rfl, HA, HB⟩ := hrel; by_cases hlt : n < l0.length
    · have p1 : 0 ≤ (n : Int) := by omega
      have q1 : (n : Int) < (l0.length : Int) := by omega
      obtain ⟨ad1, e1, hx0⟩ := Kd.Zi HR0.out (n : Int) p1 q1; cases e1; replace hx0 := (HB.out.cell (World.block_lt_of_cell? w _ hx0)).trans hx0; have hbx := (HB.out.cell (World.block_lt_of_cell? w _ HBX.out)).trans HBX.out; have hby := (HB.out.cell (World.block_lt_of_cell? w _ HBY.out)).trans HBY.out; generalize hxx : rd l0 (n : Int) = x at *; simp only [Int.toNat_natCast] at hx0; have hxe : l0[n] = x := by rw [← hxx]; simp [rd, hlt]
      have ha := HA.out; rw [List.drop_eq_getElem_cons hlt, List.any_cons, hxe] at ha; have HA2 := aa.mk ha; clear HA ha hxe hxx; have HY := aa.mk (all1_calls x lo hi g g2 _ hbx hby); generalize bad lo hi x = b at *; cases b with
      | true =>
        go_wp2_with (first
          | ((with_reducible refine QD (N := 16) rfl ?_); refine VL (some 16) rfl rfl 11 #[.pointer (some ⟨g, 0, none⟩), .pointer (some ⟨g2, 0, none⟩)] rfl Try.func115 (by kernel_rfl) rfl rfl #[.int .i64 x, .pointer (some ⟨g, 0, none⟩), .pointer (some ⟨g2, 0, none⟩)] (by (try simp only [List.map_toArray, List.map_cons, List.map_nil]); first | done | rfl) ?_; (with_reducible refine HY.out.mono ?_); rintro e w9 ⟨rfl, hb⟩; refine ⟨_, rfl, ?_⟩; replace HB := aa.mk (Qd (by repeat (first | (with_reducible first | exact HB.out | apply QU | apply QF | apply QL) | exact HB.out)) hb); (try clear hb)))
        go_ret; exact ⟨(n : Int), rfl, by rw [HA2.out, Bool.true_or]; simp, HB.out⟩
      | false =>
        go_wp2_with (first
          | ((with_reducible refine QD (N := 16) rfl ?_); refine VL (some 16) rfl rfl 11 #[.pointer (some ⟨g, 0, none⟩), .pointer (some ⟨g2, 0, none⟩)] rfl Try.func115 (by kernel_rfl) rfl rfl #[.int .i64 x, .pointer (some ⟨g, 0, none⟩), .pointer (some ⟨g2, 0, none⟩)] (by (try simp only [List.map_toArray, List.map_cons, List.map_nil]); first | done | rfl) ?_; (with_reducible refine HY.out.mono ?_); rintro e w9 ⟨rfl, hb⟩; refine ⟨_, rfl, ?_⟩; replace HB := aa.mk (Qd (by repeat (first | (with_reducible first | exact HB.out | apply QU | apply QF | apply QL) | exact HB.out)) hb); (try clear hb)))
        go_roundw
        case rel => exact ⟨n + 1, by omega, by go_num, ⟨by rw [HA2.out, Bool.false_or]⟩, ⟨by first | exact HB.out.drew | exact HB.out⟩⟩
        case measure => simp [intOf]; omega
    · have hq : n = l0.length := by omega
      subst hq; go_wp2_with fail
      go_ret; exact ⟨-1, rfl, by rw [HA.out, List.drop_length]; rfl, HB.out⟩
set_option maxHeartbeats 1000000 in
set_option maxRecDepth 100000 in
theorem any_calls (A0 : Option Addr) (c0 : Nat) (l0 : List Int) (lo hi : Int) (g g2 : Nat) (w : World) (hr0 : Kd.C (Kd.int .i64) w A0 l0.length l0) (hc0 : l0.length ≤ c0) (hl : l0.length ≤ 1000) (hbx : w.cell? ⟨g, 0, none⟩ = some (.int .i64 lo)) (hby : w.cell? ⟨g2, 0, none⟩ = some (.int .i64 hi)) :
    Calls Try.prog 114 #[.slice A0 l0.length c0, .func (.func 115) #[] #[.pointer (some ⟨g, 0, none⟩), .pointer (some ⟨g2, 0, none⟩)]] w fun e w' => e = .returned (.bool (l0.any (bad lo hi))) ∧ Below w.heap.size w w' := by
  have HY := aa.mk (index_calls A0 c0 l0 lo hi g g2 w hr0 hc0 hl hbx hby); clear hr0 hc0 hl hbx hby; have HB := aa.mk (Below.refl w.heap.size w); generalize l0.any (bad lo hi) = b at *; go_enter Try.func114, Try.ntmps114; go_wp2_with (first
    | ((with_reducible refine Qk (f := 119) rfl ?_); refine QE (some 7) rfl rfl Try.func119 (by kernel_rfl) rfl #[.slice A0 l0.length c0, .func (.func 115) #[] #[.pointer (some ⟨g, 0, none⟩), .pointer (some ⟨g2, 0, none⟩)]] rfl (by (try simp only [List.map_toArray, List.map_cons, List.map_nil]); first | done | rfl) ?_; (with_reducible refine HY.out.mono ?_); rintro e w9 ⟨r, rfl, hb0, hb⟩; refine ⟨_, rfl, ?_⟩))
  subst hb0; go_ret; exact ⟨rfl, hb⟩
def Zh.f (l : List Int) (count lo hi : Int) : Option Bool := if l.length ≤ 1000 then some (decide ((l.length : Int) = count) && !l.any (bad lo hi)) else none
set_option maxHeartbeats 2000000 in
set_option maxRecDepth 100000 in
theorem Zh.calls (A0 : Option Addr) (c0 : Nat) (l0 : List Int) (a1 a2 a3 : Int) (r : Bool) (w : World) (hr0 : Kd.C (Kd.int .i64) w A0 l0.length l0) (hc0 : l0.length ≤ c0) (h : Zh.f l0 a1 a2 a3 = some r) :
    Calls Try.prog 77 #[.slice A0 l0.length c0, .int .i64 a1, .int .i64 a2, .int .i64 a3] w fun e w' => e = .returned (.bool r) ∧ Below w.heap.size w w' := by
  obtain ⟨hl, hr⟩ : l0.length ≤ 1000 ∧ (decide ((l0.length : Int) = a1) && !l0.any (bad a2 a3)) = r := by
    unfold Zh.f at h; split at h
    · rename_i h1
      exact ⟨h1, Option.some.inj h⟩
    · cases h
  have HR0 := aa.mk hr0; have HC0 := aa.mk hc0; have HL := aa.mk hl; clear hr0 hc0 h hl; have HB := aa.mk (Below.refl w.heap.size w); by_cases c : (l0.length : Int) = a1
  · subst c; simp only [decide_true, Bool.true_and] at hr; go_enter Try.func77, Try.ntmps77; go_wp2_with (first
      | ((with_reducible refine QD (N := 6) rfl ?_); refine QJ ?hg (N := 6) ?hd (cs := #[.int .i64 a2]) (t := 3) ?hr ?_; (case hd => rfl); (case hg => rfl); (case hr => first | (go_simp; done) | (go_simp; rfl)); intro g hg w1 hbox hbe; have BK1 := aa.mk hbox; replace HB := aa.mk (Qd HB.out hbe); clear hg hbox hbe)
      | ((with_reducible refine QD (N := 7) rfl ?_); refine QJ ?hg (N := 7) ?hd (cs := #[.int .i64 a3]) (t := 3) ?hr ?_; (case hd => rfl); (case hg => rfl); (case hr => first | (go_simp; done) | (go_simp; rfl)); intro g2 hg w2 hbox hbe; have BK2 := aa.mk hbox; have n1_ := aa.mk (Qc BK1.out hbe); have n0_ := aa.mk (Qd HB.out hbe); clear HB BK1; have HB := n0_; have BK1 := n1_; clear n0_ n1_; clear hg hbox hbe)
      | ((with_reducible refine Qk (f := 114) rfl ?_); (try (refine Q8 (by rfl) ?_)); refine QE (some 16) rfl rfl Try.func114 (by kernel_rfl) rfl #[.slice A0 l0.length c0, .func (.func 115) #[] #[.pointer (some ⟨g, 0, none⟩), .pointer (some ⟨g2, 0, none⟩)]] rfl (by (try simp only [List.map_toArray, List.map_cons, List.map_nil]); first | done | rfl) ?_; (with_reducible refine (any_calls A0 c0 l0 a2 a3 g g2 _ (Kd.Ql HR0.out HB.out) HC0.out HL.out (by have := BK1.out; simp [World.cell?, this]) (by have := BK2.out; simp [World.cell?, this])).mono ?_); rintro e w9 ⟨rfl, hb⟩; refine ⟨_, rfl, ?_⟩; replace HB := aa.mk (Qd HB.out hb); (try clear hb)))
    go_ret; exact ⟨rfl, HB.out⟩
  · simp only [c, decide_false, Bool.false_and] at hr; have c2 : ((l0.length : Int) == a1) = false := beq_eq_false_iff_ne.mpr c; clear c; subst hr; go_enter Try.func77, Try.ntmps77; go_wp2_with (first
      | ((with_reducible refine QD (N := 6) rfl ?_); refine QJ ?hg (N := 6) ?hd (cs := #[.int .i64 a2]) (t := 3) ?hr ?_; (case hd => rfl); (case hg => rfl); (case hr => first | (go_simp; done) | (go_simp; rfl)); intro g hg w1 hbox hbe; replace HB := aa.mk (Qd HB.out hbe); clear hg hbox hbe)
      | ((with_reducible refine QD (N := 7) rfl ?_); refine QJ ?hg (N := 7) ?hd (cs := #[.int .i64 a3]) (t := 3) ?hr ?_; (case hd => rfl); (case hg => rfl); (case hr => first | (go_simp; done) | (go_simp; rfl)); intro g2 hg w2 hbox hbe; replace HB := aa.mk (Qd HB.out hbe); clear hg hbox hbe))
    go_ret; exact ⟨rfl, HB.out⟩
end Go.Proofs.Ytdneelgnmnpanaa.P
end
