/- A part of the claim R: the texts Q12, without what the claim does not lean on. -/
import Derived.ArgAppend
import Derived.Below
import Derived.BigQuiet
import Derived.Deep.AppendLies
import Derived.Deep.CutBlock
import Derived.Deep.DeepCutAuto
import Derived.Deep.Draws
import Derived.Deep.LoopGhost
import Derived.Deep.OwnRows
import Derived.Deep.QuietTactic
import Derived.Deep.RegionHeld3
import Derived.KernelRfl
import Derived.Laws.BitsLemmas
import Derived.Laws.BytesArg
import Derived.Laws.IdiomCopy
import Derived.Laws.MakeOwn
import Derived.Laws.OwnMore
import Derived.Laws.Rows
import Derived.Laws.Slices
import Derived.Laws.StructEq
import Derived.Lib.AppendStr
import Derived.Lib.ConvBytes
import Derived.Maps.AppendAt
import Derived.OrdersHeld
import Derived.OwnWalk
import Derived.RowKit
import Derived.RowKit3
import Derived.Tactics
import Derived.WalkKit
import Derived.WideLaws
import Derived.Test.YtmpondcccbmlhaaGreatProg
import Derived.Test.YtmpondcccbmlhaaGreatzR0
import Derived.Test.YtmpondcccbmlhaaGreatzR1
import Derived.Test.YtmpondcccbmlhaaGreatzR2
import Derived.Test.YtmpondcccbmlhaaGreatzR3
import Derived.Test.YtmpondcccbmlhaaGreatzR4
import Derived.Test.YtmpondcccbmlhaaGreatzR5
import Derived.Test.YtmpondcccbmlhaaGreatzR6
namespace Go.Proofs.YtmpondcccbmlhaaGreat.Q
open Go.RowKit Go.Proofs.YtmpondcccbmlhaaGreatW.PrintWords Go.Proofs.YtmpondcccbmlhaaGreatW.PrintLast Go.Proofs.YtmpondcccbmlhaaGreatW.PrintMore
attribute [local go_sem] max2_int min2_int max_two min_two max_three min_three max_four min_four   
set_option linter.unusedVariables false
set_option linter.unusedSimpArgs false
def governor_CheckGate.j0 : Nat → Bool → Int → Int → Int → Int → Option (Int)
  | 0, _, _, _, _, _ => none
  | k + 1, x3, x476000, x476001, x476002, x476003 => (governor_unless.f x3 2).bind fun t480 => ((governor_unless.f (decide (x476001 ≤ x476002)) 9).bind fun t481 => ((governor_within.f x476000 x476001 x476002).bind fun t482 => ((governor_unless.f t482 22).bind fun t483 => ((governor_first.f k (([t480, t481, t483] : List Int))).bind fun t487 => (some t487)))))
def governor_CheckGate.f (k : Nat) (a0_0 : Int) (a0_1 : Int) (a0_2 : Int) (a0_3 : Int) : Option (Int) := (governor_isPosition.f a0_1).bind fun t476 => (if t476 = true then ((governor_isPosition.f a0_2).bind fun t477 => (if t477 = true then ((governor_isPosition.f a0_0).bind fun t478 => (if t478 = true then ((governor_within.f a0_3 1 10000).bind fun t479 => (governor_CheckGate.j0 k t479 a0_0 a0_1 a0_2 a0_3)) else (governor_CheckGate.j0 k false a0_0 a0_1 a0_2 a0_3))) else (governor_CheckGate.j0 k false a0_0 a0_1 a0_2 a0_3))) else (governor_CheckGate.j0 k false a0_0 a0_1 a0_2 a0_3))
def governor_CheckGate.T2 : Bool × List (List Nat × List Nat) := (true, [([], []), ([0], [0]), ([], []), ([2], [2]), ([], []), ([4], [4]), ([3, 5], [3, 5]), ([6, 1], [6]), ([], []), ([8], [8]), ([], []), ([10], [10]), ([], []), ([12], [12]), ([9, 11, 13, 7], [9, 11, 13]), ([14, 14], [14]), ([1, 7, 15], [1, 7, 15]), ([16, 15], [16]), ([17, 17, 0, 1, 2, 3, 4, 5, 6, 7, 8, 9, 10, 11, 12, 13, 14, 15, 16, 17], [17])])
def governor_CheckGate.B2 : List Nat := [0, 1, 0, 4, 0, 16, 60, 127, 0, 256, 0, 1024, 0, 4096, 16383, 32767, 65535, 131071, 262143]
theorem governor_CheckGate.tab2 : rtab .any (opsOf Tryz.f52 2) = governor_CheckGate.T2 := by kernel_rfl
theorem governor_CheckGate.bits2 : waitsOk governor_CheckGate.T2.2 governor_CheckGate.B2 = true := by kernel_rfl
set_option maxHeartbeats 8000000 in
set_option maxRecDepth 100000 in
theorem governor_CheckGate.calls (k : Nat) (a0_0 : Int) (a0_1 : Int) (a0_2 : Int) (a0_3 : Int) (r : Int) (w : World) (h : governor_CheckGate.f k a0_0 a0_1 a0_2 a0_3 = some r) :
    Calls Tryz.prog 52 #[.agg #[.int .i64 a0_0, .int .i64 a0_1, .int .i64 a0_2, .int .i64 a0_3]] w fun e w' => e = .returned (.int .i64 r) ∧ Below w.heap.size w w' := by
  have hu75 := Tryz.underlying75
  have HB := Aside0.mk (Below.refl w.heap.size w)
  have H : ((governor_isPosition.f a0_1).bind fun t476 => (if t476 = true then ((governor_isPosition.f a0_2).bind fun t477 => (if t477 = true then ((governor_isPosition.f a0_0).bind fun t478 => (if t478 = true then ((governor_within.f a0_3 1 10000).bind fun t479 => (governor_CheckGate.j0 k t479 a0_0 a0_1 a0_2 a0_3)) else (governor_CheckGate.j0 k false a0_0 a0_1 a0_2 a0_3))) else (governor_CheckGate.j0 k false a0_0 a0_1 a0_2 a0_3))) else (governor_CheckGate.j0 k false a0_0 a0_1 a0_2 a0_3))) = some r := h
  clear h
  have HC2 := Aside0.mk H
  clear H
  go_enter Tryz.func52, Tryz.ntmps52
  go_upto_region 1 with (first | ((with_reducible refine gate_dst (N := 1) rfl ?_); refine box_event ?hg (N := 1) ?hd (cs := #[.int .i64 a0_0, .int .i64 a0_1, .int .i64 a0_2, .int .i64 a0_3]) (t := 75) ?hr ?_; (case hd => rfl); (case hg => rfl); (case hr => first | (go_simp; done) | (go_simp; rfl)); intro gb475 hg w3 hbox hb; have n0_ := Aside0.mk (below_step (by repeat (first | (with_reducible first | exact HB.out | apply below_alloc | apply pw_below_drewN | apply below_drew1) | exact HB.out)) hb); have n1_ := Aside0.mk (hbox); have n2_ := Aside0.mk ((by rw [hg]; exact (below_size (by repeat (first | (with_reducible first | exact HB.out | apply below_alloc | apply pw_below_drewN | apply below_drew1) | exact HB.out))) : w.heap.size ≤ gb475)); have n3_ := Aside0.mk ((by rw [hg]; exact (below_size (by repeat (first | (with_reducible first | exact HB.out | apply below_alloc | apply pw_below_drewN | apply below_drew1) | exact HB.out))) : w.heap.size ≤ gb475)); clear HB; have HB := n0_; have BK475 := n1_; have GW475 := n2_; have GE475 := n3_; clear n0_ n1_ n2_ n3_; clear hb hbox hg))
  (try simp only [Act.put, List.setIfInBounds_toArray, List.set_cons_zero, List.set_cons_succ])
  go_cut [3] (fun v3 wc => ∃ (kq : Nat) (x3_1 : Bool), v3 = .bool x3_1 ∧ Aside0 (governor_CheckGate.j0 kq x3_1 a0_0 a0_1 a0_2 a0_3 = some r) ∧ Aside0 (kq ≤ k) ∧ Aside0 (wc.heap[gb475]? = some (.cells #[.int .i64 a0_0, .int .i64 a0_1, .int .i64 a0_2, .int .i64 a0_3] 75 (0, 0))) ∧ Aside0 (Below w.heap.size w wc))
  case first =>
    have H := HC2.out
    clear HC2
    replace H := Option.bind_eq_some_iff.mp H
    obtain ⟨t476, A40, H⟩ := H
    replace H : (if t476 = true then ((governor_isPosition.f a0_2).bind fun t477 => (if t477 = true then ((governor_isPosition.f a0_0).bind fun t478 => (if t478 = true then ((governor_within.f a0_3 1 10000).bind fun t479 => (governor_CheckGate.j0 k t479 a0_0 a0_1 a0_2 a0_3)) else (governor_CheckGate.j0 k false a0_0 a0_1 a0_2 a0_3))) else (governor_CheckGate.j0 k false a0_0 a0_1 a0_2 a0_3))) else (governor_CheckGate.j0 k false a0_0 a0_1 a0_2 a0_3)) = some r := H
    have A4 := Aside0.mk A40
    clear A40
    by_cases c5 : t476 = true
    · subst c5
      have H1 : ((governor_isPosition.f a0_2).bind fun t477 => (if t477 = true then ((governor_isPosition.f a0_0).bind fun t478 => (if t478 = true then ((governor_within.f a0_3 1 10000).bind fun t479 => (governor_CheckGate.j0 k t479 a0_0 a0_1 a0_2 a0_3)) else (governor_CheckGate.j0 k false a0_0 a0_1 a0_2 a0_3))) else (governor_CheckGate.j0 k false a0_0 a0_1 a0_2 a0_3))) = some r := by rw [if_pos rfl] at H; exact H
      clear H
      have H := H1
      clear H1
      replace H := Option.bind_eq_some_iff.mp H
      obtain ⟨t477, A60, H⟩ := H
      replace H : (if t477 = true then ((governor_isPosition.f a0_0).bind fun t478 => (if t478 = true then ((governor_within.f a0_3 1 10000).bind fun t479 => (governor_CheckGate.j0 k t479 a0_0 a0_1 a0_2 a0_3)) else (governor_CheckGate.j0 k false a0_0 a0_1 a0_2 a0_3))) else (governor_CheckGate.j0 k false a0_0 a0_1 a0_2 a0_3)) = some r := H
      have A6 := Aside0.mk A60
      clear A60
      by_cases c7 : t477 = true
      · subst c7
        have H1 : ((governor_isPosition.f a0_0).bind fun t478 => (if t478 = true then ((governor_within.f a0_3 1 10000).bind fun t479 => (governor_CheckGate.j0 k t479 a0_0 a0_1 a0_2 a0_3)) else (governor_CheckGate.j0 k false a0_0 a0_1 a0_2 a0_3))) = some r := by rw [if_pos rfl] at H; exact H
        clear H
        have H := H1
        clear H1
        replace H := Option.bind_eq_some_iff.mp H
        obtain ⟨t478, A80, H⟩ := H
        replace H : (if t478 = true then ((governor_within.f a0_3 1 10000).bind fun t479 => (governor_CheckGate.j0 k t479 a0_0 a0_1 a0_2 a0_3)) else (governor_CheckGate.j0 k false a0_0 a0_1 a0_2 a0_3)) = some r := H
        have A8 := Aside0.mk A80
        clear A80
        by_cases c9 : t478 = true
        · subst c9
          have H1 : ((governor_within.f a0_3 1 10000).bind fun t479 => (governor_CheckGate.j0 k t479 a0_0 a0_1 a0_2 a0_3)) = some r := by rw [if_pos rfl] at H; exact H
          clear H
          have H := H1
          clear H1
          replace H := Option.bind_eq_some_iff.mp H
          obtain ⟨t479, A100, H⟩ := H
          replace H : (governor_CheckGate.j0 k t479 a0_0 a0_1 a0_2 a0_3) = some r := H
          have A10 := Aside0.mk A100
          clear A100
          have H' := Aside0.mk H
          clear H
          have hcz11_0 : w3.cell? ⟨gb475, 0, none⟩ = some (.int .i64 a0_0) := (blk_cell BK475.out 0).trans rfl
          have hcz11_1 : w3.cell? ⟨gb475, 1, none⟩ = some (.int .i64 a0_1) := (blk_cell BK475.out 1).trans rfl
          have hcz11_2 : w3.cell? ⟨gb475, 2, none⟩ = some (.int .i64 a0_2) := (blk_cell BK475.out 2).trans rfl
          have hcz11_3 : w3.cell? ⟨gb475, 3, none⟩ = some (.int .i64 a0_3) := (blk_cell BK475.out 3).trans rfl
          have hfz11_0 := blk_frozen BK475.out 0
          have hfz11_1 := blk_frozen BK475.out 1
          have hfz11_2 := blk_frozen BK475.out 2
          have hfz11_3 := blk_frozen BK475.out 3
          go_wp2_with (first | ((with_reducible refine gate_callee (f := 126) rfl ?_); refine goesL_ (some 6) rfl rfl Tryz.func126 (by kernel_rfl) rfl #[.int .i64 a0_1] rfl (by (try simp only [List.map_toArray, List.map_cons, List.map_nil]); first | done | rfl | (simp only [List.length_drop, List.length_take]; rfl)) ?_; (with_reducible refine (governor_isPosition.calls a0_1 true _ A4.out).mono ?_); rintro e w' ⟨rfl, ⟨nd, rfl⟩⟩; refine ⟨_, rfl, ?_⟩) | (go_at_call 126; (with_reducible refine (governor_isPosition.calls a0_2 true _ A6.out).mono ?_); rintro e w' ⟨rfl, ⟨nd, rfl⟩⟩) | (go_at_call 126; (with_reducible refine (governor_isPosition.calls a0_0 true _ A8.out).mono ?_); rintro e w' ⟨rfl, ⟨nd, rfl⟩⟩) | (go_at_call 118; (with_reducible refine (governor_within.calls a0_3 1 10000 t479 _ A10.out).mono ?_); rintro e w' ⟨rfl, ⟨nd, rfl⟩⟩))
          go_meet
          case rel => exact ⟨_, (t479), (by first | rfl | (simp; done) | (simp [*]; done)), H', ⟨by first | omega | exact Nat.le_refl _⟩, ⟨by (with_reducible repeat (first | refine blk_drewN ?_ _ | refine blk_drew ?_ | refine blk_alloc ?_ _)); exact BK475.out⟩, ⟨by repeat (first | (with_reducible first | exact HB.out | apply below_alloc | apply pw_below_drewN | apply below_drew1 | refine below_set ?_ GE475.out) | exact HB.out)⟩⟩
        · replace c9 := Bool.eq_false_iff.mpr c9
          subst c9
          have H1 : (governor_CheckGate.j0 k false a0_0 a0_1 a0_2 a0_3) = some r := by rw [if_neg (show ¬ (false = true) by decide)] at H; exact H
          clear H
          have H := H1
          clear H1
          have H' := Aside0.mk H
          clear H
          have hcz12_0 : w3.cell? ⟨gb475, 0, none⟩ = some (.int .i64 a0_0) := (blk_cell BK475.out 0).trans rfl
          have hcz12_1 : w3.cell? ⟨gb475, 1, none⟩ = some (.int .i64 a0_1) := (blk_cell BK475.out 1).trans rfl
          have hcz12_2 : w3.cell? ⟨gb475, 2, none⟩ = some (.int .i64 a0_2) := (blk_cell BK475.out 2).trans rfl
          have hcz12_3 : w3.cell? ⟨gb475, 3, none⟩ = some (.int .i64 a0_3) := (blk_cell BK475.out 3).trans rfl
          have hfz12_0 := blk_frozen BK475.out 0
          have hfz12_1 := blk_frozen BK475.out 1
          have hfz12_2 := blk_frozen BK475.out 2
          have hfz12_3 := blk_frozen BK475.out 3
          go_wp2_with (first | ((with_reducible refine gate_callee (f := 126) rfl ?_); refine goesL_ (some 6) rfl rfl Tryz.func126 (by kernel_rfl) rfl #[.int .i64 a0_1] rfl (by (try simp only [List.map_toArray, List.map_cons, List.map_nil]); first | done | rfl | (simp only [List.length_drop, List.length_take]; rfl)) ?_; (with_reducible refine (governor_isPosition.calls a0_1 true _ A4.out).mono ?_); rintro e w' ⟨rfl, ⟨nd, rfl⟩⟩; refine ⟨_, rfl, ?_⟩) | (go_at_call 126; (with_reducible refine (governor_isPosition.calls a0_2 true _ A6.out).mono ?_); rintro e w' ⟨rfl, ⟨nd, rfl⟩⟩) | (go_at_call 126; (with_reducible refine (governor_isPosition.calls a0_0 false _ A8.out).mono ?_); rintro e w' ⟨rfl, ⟨nd, rfl⟩⟩))
          go_meet
          case rel => exact ⟨_, (false), (by first | rfl | (simp; done) | (simp [*]; done)), H', ⟨by first | omega | exact Nat.le_refl _⟩, ⟨by (with_reducible repeat (first | refine blk_drewN ?_ _ | refine blk_drew ?_ | refine blk_alloc ?_ _)); exact BK475.out⟩, ⟨by repeat (first | (with_reducible first | exact HB.out | apply below_alloc | apply pw_below_drewN | apply below_drew1 | refine below_set ?_ GE475.out) | exact HB.out)⟩⟩
      · replace c7 := Bool.eq_false_iff.mpr c7
        subst c7
        have H1 : (governor_CheckGate.j0 k false a0_0 a0_1 a0_2 a0_3) = some r := by rw [if_neg (show ¬ (false = true) by decide)] at H; exact H
        clear H
        have H := H1
        clear H1
        have H' := Aside0.mk H
        clear H
        have hcz13_0 : w3.cell? ⟨gb475, 0, none⟩ = some (.int .i64 a0_0) := (blk_cell BK475.out 0).trans rfl
        have hcz13_1 : w3.cell? ⟨gb475, 1, none⟩ = some (.int .i64 a0_1) := (blk_cell BK475.out 1).trans rfl
        have hcz13_2 : w3.cell? ⟨gb475, 2, none⟩ = some (.int .i64 a0_2) := (blk_cell BK475.out 2).trans rfl
        have hcz13_3 : w3.cell? ⟨gb475, 3, none⟩ = some (.int .i64 a0_3) := (blk_cell BK475.out 3).trans rfl
        have hfz13_0 := blk_frozen BK475.out 0
        have hfz13_1 := blk_frozen BK475.out 1
        have hfz13_2 := blk_frozen BK475.out 2
        have hfz13_3 := blk_frozen BK475.out 3
        go_wp2_with (first | ((with_reducible refine gate_callee (f := 126) rfl ?_); refine goesL_ (some 6) rfl rfl Tryz.func126 (by kernel_rfl) rfl #[.int .i64 a0_1] rfl (by (try simp only [List.map_toArray, List.map_cons, List.map_nil]); first | done | rfl | (simp only [List.length_drop, List.length_take]; rfl)) ?_; (with_reducible refine (governor_isPosition.calls a0_1 true _ A4.out).mono ?_); rintro e w' ⟨rfl, ⟨nd, rfl⟩⟩; refine ⟨_, rfl, ?_⟩) | (go_at_call 126; (with_reducible refine (governor_isPosition.calls a0_2 false _ A6.out).mono ?_); rintro e w' ⟨rfl, ⟨nd, rfl⟩⟩))
        go_meet
        case rel => exact ⟨_, (false), (by first | rfl | (simp; done) | (simp [*]; done)), H', ⟨by first | omega | exact Nat.le_refl _⟩, ⟨by (with_reducible repeat (first | refine blk_drewN ?_ _ | refine blk_drew ?_ | refine blk_alloc ?_ _)); exact BK475.out⟩, ⟨by repeat (first | (with_reducible first | exact HB.out | apply below_alloc | apply pw_below_drewN | apply below_drew1 | refine below_set ?_ GE475.out) | exact HB.out)⟩⟩
    · replace c5 := Bool.eq_false_iff.mpr c5
      subst c5
      have H1 : (governor_CheckGate.j0 k false a0_0 a0_1 a0_2 a0_3) = some r := by rw [if_neg (show ¬ (false = true) by decide)] at H; exact H
      clear H
      have H := H1
      clear H1
      have H' := Aside0.mk H
      clear H
      have hcz14_0 : w3.cell? ⟨gb475, 0, none⟩ = some (.int .i64 a0_0) := (blk_cell BK475.out 0).trans rfl
      have hcz14_1 : w3.cell? ⟨gb475, 1, none⟩ = some (.int .i64 a0_1) := (blk_cell BK475.out 1).trans rfl
      have hcz14_2 : w3.cell? ⟨gb475, 2, none⟩ = some (.int .i64 a0_2) := (blk_cell BK475.out 2).trans rfl
      have hcz14_3 : w3.cell? ⟨gb475, 3, none⟩ = some (.int .i64 a0_3) := (blk_cell BK475.out 3).trans rfl
      have hfz14_0 := blk_frozen BK475.out 0
      have hfz14_1 := blk_frozen BK475.out 1
      have hfz14_2 := blk_frozen BK475.out 2
      have hfz14_3 := blk_frozen BK475.out 3
      go_wp2_with (first | ((with_reducible refine gate_callee (f := 126) rfl ?_); refine goesL_ (some 6) rfl rfl Tryz.func126 (by kernel_rfl) rfl #[.int .i64 a0_1] rfl (by (try simp only [List.map_toArray, List.map_cons, List.map_nil]); first | done | rfl | (simp only [List.length_drop, List.length_take]; rfl)) ?_; (with_reducible refine (governor_isPosition.calls a0_1 false _ A4.out).mono ?_); rintro e w' ⟨rfl, ⟨nd, rfl⟩⟩; refine ⟨_, rfl, ?_⟩))
      go_meet
      case rel => exact ⟨_, (false), (by first | rfl | (simp; done) | (simp [*]; done)), H', ⟨by first | omega | exact Nat.le_refl _⟩, ⟨by (with_reducible repeat (first | refine blk_drewN ?_ _ | refine blk_drew ?_ | refine blk_alloc ?_ _)); exact BK475.out⟩, ⟨by repeat (first | (with_reducible first | exact HB.out | apply below_alloc | apply pw_below_drewN | apply below_drew1 | refine below_set ?_ GE475.out) | exact HB.out)⟩⟩
  case rest =>
    clear HC2
    try clear c1
    try clear p2
    try clear c5
    try clear c7
    try clear c9
    try clear c12
    try clear hcz11_0
    try clear hcz11_1
    try clear hcz11_2
    try clear hcz11_3
    try clear hcz12_0
    try clear hcz12_1
    try clear hcz12_2
    try clear hcz12_3
    try clear hcz13_0
    try clear hcz13_1
    try clear hcz13_2
    try clear hcz13_3
    try clear hcz14_0
    try clear hcz14_1
    try clear hcz14_2
    try clear hcz14_3
    try clear hfz11_0
    try clear hfz11_1
    try clear hfz11_2
    try clear hfz11_3
    try clear hfz12_0
    try clear hfz12_1
    try clear hfz12_2
    try clear hfz12_3
    try clear hfz13_0
    try clear hfz13_1
    try clear hfz13_2
    try clear hfz13_3
    try clear hfz14_0
    try clear hfz14_1
    try clear hfz14_2
    try clear hfz14_3
    obtain ⟨kq, x3_1, rfl, HA, HJ1, BK475, HB⟩ := hcut
    cases kq with
    | zero => exact absurd HA.out (by simp [governor_CheckGate.j0])
    | succ kj1 =>
      have H := HA.out
      clear HA
      simp only [governor_CheckGate.j0] at H
      replace H := Option.bind_eq_some_iff.mp H
      obtain ⟨t480, A150, H⟩ := H
      replace H : ((governor_unless.f (decide (a0_1 ≤ a0_2)) 9).bind fun t481 => ((governor_within.f a0_0 a0_1 a0_2).bind fun t482 => ((governor_unless.f t482 22).bind fun t483 => ((governor_first.f kj1 (([t480, t481, t483] : List Int))).bind fun t487 => (some t487))))) = some r := H
      have A15 := Aside0.mk A150
      clear A150
      replace H := Option.bind_eq_some_iff.mp H
      obtain ⟨t481, A160, H⟩ := H
      replace H : ((governor_within.f a0_0 a0_1 a0_2).bind fun t482 => ((governor_unless.f t482 22).bind fun t483 => ((governor_first.f kj1 (([t480, t481, t483] : List Int))).bind fun t487 => (some t487)))) = some r := H
      have A16 := Aside0.mk A160
      clear A160
      replace H := Option.bind_eq_some_iff.mp H
      obtain ⟨t482, A170, H⟩ := H
      replace H : ((governor_unless.f t482 22).bind fun t483 => ((governor_first.f kj1 (([t480, t481, t483] : List Int))).bind fun t487 => (some t487))) = some r := H
      have A17 := Aside0.mk A170
      clear A170
      replace H := Option.bind_eq_some_iff.mp H
      obtain ⟨t483, A180, H⟩ := H
      replace H : ((governor_first.f kj1 (([t480, t481, t483] : List Int))).bind fun t487 => (some t487)) = some r := H
      have A18 := Aside0.mk A180
      clear A180
      obtain ⟨y484, hy484⟩ : ∃ y_ : List Int, y_ = (([t480, t481, t483] : List Int)) := ⟨_, rfl⟩
      replace H : ((governor_first.f kj1 y484).bind fun t487 => (some t487)) = some r := by first | (rw [hy484]; with_reducible exact H) | (have H2_ := (Option.bind_some _ _).symm.trans H; rw [hy484]; with_reducible exact H2_) | (have H2_ := (Option.bind_some _ _).symm.trans H; with_reducible exact H2_) | with_reducible exact H | (rw [hy484]; exact H) | exact H
      have Ny484 := Aside0.mk hy484
      clear hy484
      replace H := Option.bind_eq_some_iff.mp H
      obtain ⟨t487, A190, H⟩ := H
      replace H : (some t487) = some r := H
      have A19 := Aside0.mk A190
      clear A190
      obtain rfl := Option.some.inj H
      try go_wp2
      have n0_ := Aside0.mk (blk_drew BK475.out)
      have n1_ := Aside0.mk (below_drew1 HB.out)
      clear BK475
      clear HB
      have BK475 := n0_
      have HB := n1_
      clear n0_ n1_
      refine start_ (n := 19) (S := fun w' => w'.cell? ⟨gb475, 0, none⟩ = some (.int .i64 a0_0) ∧ w'.cell? ⟨gb475, 1, none⟩ = some (.int .i64 a0_1) ∧ w'.cell? ⟨gb475, 2, none⟩ = some (.int .i64 a0_2) ∧ w'.cell? ⟨gb475, 3, none⟩ = some (.int .i64 a0_3)) (ds := []) #[false, false, false, false, false, false, false, false, false, false, false, false, false, false, false, false, false, false, false] (by kernel_rfl) rfl rfl ⟨(blk_cell BK475.out 0).trans rfl, (blk_cell BK475.out 1).trans rfl, (blk_cell BK475.out 2).trans rfl, (blk_cell BK475.out 3).trans rfl⟩ (fun hHeld => ?_); refine with_tabW governor_CheckGate.tab2 governor_CheckGate.bits2 (fun HT_ HW_ => ?_)
      generalize wc.drew = w20 at BK475 HB hHeld ⊢
      refine pure_ (i := 0) (N := some 22) (v := ?_) (a' := ?_) #[true, false, false, false, false, false, false, false, false, false, false, false, false, false, false, false, false, false, false] rfl rfl (any_of HT_.out (by kernel_rfl)) (fun _ _ _ h => h) (Or.inl ⟨by rfl, ?_⟩) ?_ ?_
      rotate_left
      · intro w'
        go_simp
        with_reducible rfl
      rotate_left
      · simp only [Act.put, List.setIfInBounds_toArray, List.set_cons_zero, List.set_cons_succ, i64_w, i32_w]
        rfl
      refine pure_ (i := 2) (N := some 24) (v := ?_) (a' := ?_) #[true, false, true, false, false, false, false, false, false, false, false, false, false, false, false, false, false, false, false] rfl rfl (any_of HT_.out (by kernel_rfl)) (fun _ _ _ h => h) (Or.inl ⟨by rfl, ?_⟩) ?_ ?_
      rotate_left
      · intro w'
        go_simp
        with_reducible rfl
      rotate_left
      · simp only [Act.put, List.setIfInBounds_toArray, List.set_cons_zero, List.set_cons_succ, i64_w, i32_w]
        rfl
      refine pure_ (i := 4) (N := some 26) (v := ?_) (a' := ?_) #[true, false, true, false, true, false, false, false, false, false, false, false, false, false, false, false, false, false, false] rfl rfl (any_of HT_.out (by kernel_rfl)) (fun _ _ _ h => h) (Or.inl ⟨by rfl, ?_⟩) ?_ ?_
      rotate_left
      · intro w'
        go_simp
        with_reducible rfl
      rotate_left
      · simp only [Act.put, List.setIfInBounds_toArray, List.set_cons_zero, List.set_cons_succ, i64_w, i32_w]
        rfl
      refine pure_ (i := 8) (N := some 30) (v := ?_) (a' := ?_) #[true, false, true, false, true, false, false, false, true, false, false, false, false, false, false, false, false, false, false] rfl rfl (any_of HT_.out (by kernel_rfl)) (fun _ _ _ h => h) (Or.inl ⟨by rfl, ?_⟩) ?_ ?_
      rotate_left
      · intro w'
        go_simp
        with_reducible rfl
      rotate_left
      · simp only [Act.put, List.setIfInBounds_toArray, List.set_cons_zero, List.set_cons_succ, i64_w, i32_w]
        rfl
      refine pure_ (i := 10) (N := some 32) (v := ?_) (a' := ?_) #[true, false, true, false, true, false, false, false, true, false, true, false, false, false, false, false, false, false, false] rfl rfl (any_of HT_.out (by kernel_rfl)) (fun _ _ _ h => h) (Or.inl ⟨by rfl, ?_⟩) ?_ ?_
      rotate_left
      · intro w'
        go_simp
        with_reducible rfl
      rotate_left
      · simp only [Act.put, List.setIfInBounds_toArray, List.set_cons_zero, List.set_cons_succ, i64_w, i32_w]
        rfl
      refine pure_ (i := 12) (N := some 34) (v := ?_) (a' := ?_) #[true, false, true, false, true, false, false, false, true, false, true, false, true, false, false, false, false, false, false] rfl rfl (any_of HT_.out (by kernel_rfl)) (fun _ _ _ h => h) (Or.inl ⟨by rfl, ?_⟩) ?_ ?_
      rotate_left
      · intro w'
        go_simp
        with_reducible rfl
      rotate_left
      · simp only [Act.put, List.setIfInBounds_toArray, List.set_cons_zero, List.set_cons_succ, i64_w, i32_w]
        rfl
      refine take_ (i := 3) (N := some 25) (v := ?_) (a' := ?_) #[true, false, true, true, true, false, false, false, true, false, true, false, true, false, false, false, false, false, false] rfl rfl (take_ofW HT_.out HW_.out (by kernel_rfl)) (fun _ _ _ h => h) (Or.inl ⟨by rfl, ?_⟩) hHeld ?_ ?_
      rotate_left
      · rintro w' ⟨s0, s1, s2, s3⟩
        go_simp
        with_reducible rfl
      rotate_left
      · simp only [Act.put, List.setIfInBounds_toArray, List.set_cons_zero, List.set_cons_succ, i64_w, i32_w]
        rfl
      refine take_ (i := 5) (N := some 27) (v := ?_) (a' := ?_) #[true, false, true, true, true, true, false, false, true, false, true, false, true, false, false, false, false, false, false] rfl rfl (take_ofW HT_.out HW_.out (by kernel_rfl)) (fun _ _ _ h => h) (Or.inl ⟨by rfl, ?_⟩) hHeld ?_ ?_
      rotate_left
      · rintro w' ⟨s0, s1, s2, s3⟩
        go_simp
        with_reducible rfl
      rotate_left
      · simp only [Act.put, List.setIfInBounds_toArray, List.set_cons_zero, List.set_cons_succ, i64_w, i32_w]
        rfl
      refine pure_ (i := 6) (N := some 28) (v := ?_) (a' := ?_) #[true, false, true, true, true, true, true, false, true, false, true, false, true, false, false, false, false, false, false] rfl rfl (any_of HT_.out (by kernel_rfl)) (fun _ _ _ h => h) (Or.inl ⟨by rfl, ?_⟩) ?_ ?_
      rotate_left
      · intro w'
        go_simp
        with_reducible rfl
      rotate_left
      · simp only [Act.put, List.setIfInBounds_toArray, List.set_cons_zero, List.set_cons_succ, i64_w, i32_w]
        rfl
      refine take_ (i := 9) (N := some 31) (v := ?_) (a' := ?_) #[true, false, true, true, true, true, true, false, true, true, true, false, true, false, false, false, false, false, false] rfl rfl (take_ofW HT_.out HW_.out (by kernel_rfl)) (fun _ _ _ h => h) (Or.inl ⟨by rfl, ?_⟩) hHeld ?_ ?_
      rotate_left
      · rintro w' ⟨s0, s1, s2, s3⟩
        go_simp
        with_reducible rfl
      rotate_left
      · simp only [Act.put, List.setIfInBounds_toArray, List.set_cons_zero, List.set_cons_succ, i64_w, i32_w]
        rfl
      refine take_ (i := 11) (N := some 33) (v := ?_) (a' := ?_) #[true, false, true, true, true, true, true, false, true, true, true, true, true, false, false, false, false, false, false] rfl rfl (take_ofW HT_.out HW_.out (by kernel_rfl)) (fun _ _ _ h => h) (Or.inl ⟨by rfl, ?_⟩) hHeld ?_ ?_
      rotate_left
      · rintro w' ⟨s0, s1, s2, s3⟩
        go_simp
        with_reducible rfl
      rotate_left
      · simp only [Act.put, List.setIfInBounds_toArray, List.set_cons_zero, List.set_cons_succ, i64_w, i32_w]
        rfl
      refine take_ (i := 13) (N := some 35) (v := ?_) (a' := ?_) #[true, false, true, true, true, true, true, false, true, true, true, true, true, true, false, false, false, false, false] rfl rfl (take_ofW HT_.out HW_.out (by kernel_rfl)) (fun _ _ _ h => h) (Or.inl ⟨by rfl, ?_⟩) hHeld ?_ ?_
      rotate_left
      · rintro w' ⟨s0, s1, s2, s3⟩
        go_simp
        with_reducible rfl
      rotate_left
      · simp only [Act.put, List.setIfInBounds_toArray, List.set_cons_zero, List.set_cons_succ, i64_w, i32_w]
        rfl
      refine one_ (i := 1) (N := some 23) #[true, true, true, true, true, true, true, false, true, true, true, true, true, true, false, false, false, false, false] rfl rfl (one_of HT_.out (by kernel_rfl)) (by decide) (fun K hK => ?_)
      refine goes_ Tryz.func93 (by kernel_rfl) rfl #[.bool x3_1, .int .i64 2] (by rfl) rfl rfl (by (try simp only [List.map_toArray, List.map_cons, List.map_nil]); first | done | rfl | (simp only [List.length_drop, List.length_take]; rfl)) ?_
      with_reducible refine (governor_unless.calls x3_1 2 t480 _ A15.out).mono ?_
      rintro e w' ⟨rfl, ⟨nd, rfl⟩⟩
      refine ⟨_, rfl, ?_⟩
      refine hK.out _ _ ⟨(blk_cell BK475.out 0).trans rfl, (blk_cell BK475.out 1).trans rfl, (blk_cell BK475.out 2).trans rfl, (blk_cell BK475.out 3).trans rfl⟩ (fun hHeld => ?_)
      clear hK K
      refine norm_ (a' := ?_) ?_ ?_
      rotate_left
      · show Act.put _ (some 23) _ = _
        simp only [Act.put, List.setIfInBounds_toArray, List.set_cons_zero, List.set_cons_succ, i64_w, i32_w]
        rfl
      refine one_ (i := 7) (N := some 29) #[true, true, true, true, true, true, true, true, true, true, true, true, true, true, false, false, false, false, false] rfl rfl (one_of HT_.out (by kernel_rfl)) (by decide) (fun K hK => ?_)
      refine goes_ Tryz.func93 (by kernel_rfl) rfl #[.bool (decide (a0_1 ≤ a0_2)), .int .i64 9] (by rfl) rfl rfl (by (try simp only [List.map_toArray, List.map_cons, List.map_nil]); first | done | rfl | (simp only [List.length_drop, List.length_take]; rfl)) ?_
      with_reducible refine (governor_unless.calls (decide (a0_1 ≤ a0_2)) 9 t481 _ A16.out).mono ?_
      rintro e w' ⟨rfl, ⟨nd, rfl⟩⟩
      refine ⟨_, rfl, ?_⟩
      refine hK.out _ _ ⟨(blk_cell BK475.out 0).trans rfl, (blk_cell BK475.out 1).trans rfl, (blk_cell BK475.out 2).trans rfl, (blk_cell BK475.out 3).trans rfl⟩ (fun hHeld => ?_)
      clear hK K
      refine norm_ (a' := ?_) ?_ ?_
      rotate_left
      · show Act.put _ (some 29) _ = _
        simp only [Act.put, List.setIfInBounds_toArray, List.set_cons_zero, List.set_cons_succ, i64_w, i32_w]
        rfl
      refine one_ (i := 14) (N := some 36) #[true, true, true, true, true, true, true, true, true, true, true, true, true, true, true, false, false, false, false] rfl rfl (one_of HT_.out (by kernel_rfl)) (by decide) (fun K hK => ?_)
      refine goes_ Tryz.func118 (by kernel_rfl) rfl #[.int .i64 a0_0, .int .i64 a0_1, .int .i64 a0_2] (by rfl) rfl rfl (by (try simp only [List.map_toArray, List.map_cons, List.map_nil]); first | done | rfl | (simp only [List.length_drop, List.length_take]; rfl)) ?_
      with_reducible refine (governor_within.calls a0_0 a0_1 a0_2 t482 _ A17.out).mono ?_
      rintro e w' ⟨rfl, ⟨nd, rfl⟩⟩
      refine ⟨_, rfl, ?_⟩
      refine hK.out _ _ ⟨(blk_cell BK475.out 0).trans rfl, (blk_cell BK475.out 1).trans rfl, (blk_cell BK475.out 2).trans rfl, (blk_cell BK475.out 3).trans rfl⟩ (fun hHeld => ?_)
      clear hK K
      refine norm_ (a' := ?_) ?_ ?_
      rotate_left
      · show Act.put _ (some 36) _ = _
        simp only [Act.put, List.setIfInBounds_toArray, List.set_cons_zero, List.set_cons_succ, i64_w, i32_w]
        rfl
      refine one_ (i := 15) (N := some 37) #[true, true, true, true, true, true, true, true, true, true, true, true, true, true, true, true, false, false, false] rfl rfl (one_of HT_.out (by kernel_rfl)) (by decide) (fun K hK => ?_)
      refine goes_ Tryz.func93 (by kernel_rfl) rfl #[.bool t482, .int .i64 22] (by rfl) rfl rfl (by (try simp only [List.map_toArray, List.map_cons, List.map_nil]); first | done | rfl | (simp only [List.length_drop, List.length_take]; rfl)) ?_
      with_reducible refine (governor_unless.calls t482 22 t483 _ A18.out).mono ?_
      rintro e w' ⟨rfl, ⟨nd, rfl⟩⟩
      refine ⟨_, rfl, ?_⟩
      refine hK.out _ _ ⟨(blk_cell BK475.out 0).trans rfl, (blk_cell BK475.out 1).trans rfl, (blk_cell BK475.out 2).trans rfl, (blk_cell BK475.out 3).trans rfl⟩ (fun hHeld => ?_)
      clear hK K
      refine norm_ (a' := ?_) ?_ ?_
      rotate_left
      · show Act.put _ (some 37) _ = _
        simp only [Act.put, List.setIfInBounds_toArray, List.set_cons_zero, List.set_cons_succ, i64_w, i32_w]
        rfl
      refine one_ (i := 16) (N := some 38) #[true, true, true, true, true, true, true, true, true, true, true, true, true, true, true, true, true, false, false] rfl rfl (one_of HT_.out (by kernel_rfl)) (by decide) (fun K hK => ?_)
      refine Kd.R_lit_step (Kd.int .i64) _ 27 ?hg (N := 38) ?hd (xs := ([t480, t481, t483] : List Int)) (inner := [.int .i64 t480, .int .i64 t481, .int .i64 t483]) (ok := fun _ => True) (okp := fun _ => True) ?hr ?hp (fun _ hk => hk) trivial (Below.refl _ _) (Nat.le_refl _) (by simp) ?_; (case hd => rfl); (case hg => rfl); (case hr => first | (go_simp; done) | (go_simp; rfl)); (case hp => exact (Reps.one (show Kd.M (Kd.int .i64) _ _ _ t480 [.int .i64 t480] from rfl) (Reps.one (show Kd.M (Kd.int .i64) _ _ _ t481 [.int .i64 t481] from rfl) (Reps.one (show Kd.M (Kd.int .i64) _ _ _ t483 [.int .i64 t483] from rfl) (Reps.none _ _)))))
      intro v485 w21 ho22 hb hg_ hnew_
      clear hg_ hnew_
      (first | rw [← Ny484.out] at ho22 | (simp only [Int.reduceToNat] at ho22; rw [← Ny484.out] at ho22))
      have n0_ := Aside0.mk (Kd.R_lower ho22 (below_size (by repeat (first | (with_reducible first | exact HB.out | apply below_alloc | apply pw_below_drewN | apply below_drew1 | refine below_set ?_ GE475.out) | exact HB.out))))
      have n1_ := Aside0.mk (blk_below (g := gb475) (o := .cells #[.int .i64 a0_0, .int .i64 a0_1, .int .i64 a0_2, .int .i64 a0_3] 75 (0, 0)) (by (with_reducible repeat (first | refine blk_drewN ?_ _ | refine blk_drew ?_ | refine blk_alloc ?_ _)); exact BK475.out) hb)
      have n2_ := Aside0.mk (below_step (by repeat (first | (with_reducible first | exact HB.out | apply below_alloc | apply pw_below_drewN | apply below_drew1 | refine below_set ?_ GE475.out) | exact HB.out)) hb)
      clear BK475
      clear HB
      have HO486 := n0_
      have BK475 := n1_
      have HB := n2_
      clear n0_ n1_ n2_
      clear hb ho22
      obtain ⟨Ao23, co23, eo23⟩ := Kd.R_slice HO486.out
      (first | subst eo23 | (injection eo23 with f1_ f2_ f3_; have f4_ := f1_.symm; have f5_ := f3_.symm; clear f1_ f2_ f3_; subst f4_; subst f5_))
      refine hK.out _ _ ⟨(blk_cell BK475.out 0).trans rfl, (blk_cell BK475.out 1).trans rfl, (blk_cell BK475.out 2).trans rfl, (blk_cell BK475.out 3).trans rfl⟩ (fun hHeld => ?_)
      clear hK K
      refine norm_ (a' := ?_) ?_ ?_
      rotate_left
      · show Act.put _ (some 38) _ = _
        simp only [Act.put, List.setIfInBounds_toArray, List.set_cons_zero, List.set_cons_succ, i64_w, i32_w]
        rfl
      refine one_ (i := 17) (N := some 39) #[true, true, true, true, true, true, true, true, true, true, true, true, true, true, true, true, true, true, false] rfl rfl (one_of HT_.out (by kernel_rfl)) (by decide) (fun K hK => ?_)
      refine goes_ Tryz.func90 (by kernel_rfl) rfl #[.slice Ao23 y484.length co23] (by rfl) rfl rfl (by (try simp only [List.map_toArray, List.map_cons, List.map_nil]); first | done | rfl | (simp only [List.length_drop, List.length_take]; rfl)) ?_
      with_reducible refine (governor_first.calls kj1 _ _ y484 t487 _ ?side1 ?side2 A19.out).mono ?_
      (case side1 => repeat (first | exact (Kd.R_reads' HO486.out).2.2 | (with_reducible refine Kd.C_alloc ?_ _) | (with_reducible refine Kd.C_drewN ?_ _) | (with_reducible refine Kd.C_drew ?_)))
      (case side2 => exact (Kd.R_reads' HO486.out).2.1)
      rintro e w' ⟨rfl, ⟨nd, rfl⟩⟩
      refine ⟨_, rfl, ?_⟩
      refine hK.out _ _ ⟨(blk_cell BK475.out 0).trans rfl, (blk_cell BK475.out 1).trans rfl, (blk_cell BK475.out 2).trans rfl, (blk_cell BK475.out 3).trans rfl⟩ (fun hHeld => ?_)
      clear hK K
      refine norm_ (a' := ?_) ?_ ?_
      rotate_left
      · show Act.put _ (some 39) _ = _
        simp only [Act.put, List.setIfInBounds_toArray, List.set_cons_zero, List.set_cons_succ, i64_w, i32_w]
        rfl
      refine pure_ (i := 18) (N := some 2) (v := ?_) (a' := ?_) #[true, true, true, true, true, true, true, true, true, true, true, true, true, true, true, true, true, true, true] rfl rfl (any_of HT_.out (by kernel_rfl)) (fun _ _ _ h => h) (Or.inl ⟨by rfl, ?_⟩) ?_ ?_
      rotate_left
      · intro w'
        go_simp
        with_reducible rfl
      rotate_left
      · simp only [Act.put, List.setIfInBounds_toArray, List.set_cons_zero, List.set_cons_succ, i64_w, i32_w]
        rfl
      refine done_ (done_of HT_.out (by kernel_rfl)) ?_
      try go_wp2
      go_ret
      exact ⟨by first | rfl | (simp [errW_none, errW_some] <;> rfl) | (simp [*, errW_none, errW_some] <;> rfl), by repeat (first | (with_reducible first | exact HB.out | apply below_alloc | apply pw_below_drewN | apply below_drew1 | refine below_set ?_ GE475.out) | exact HB.out)⟩
def governor_gate_goal.f (a0_0 : Int) (a0_1 : Int) (a0_2 : Int) (a0_3 : Int) (a1 : Int) : Option (Int) := some (mn (mx a1 a0_1) a0_2)
set_option maxHeartbeats 8000000 in
set_option maxRecDepth 100000 in
theorem governor_gate_goal.calls (a0_0 : Int) (a0_1 : Int) (a0_2 : Int) (a0_3 : Int) (a1 : Int) (r : Int) (w : World) (h : governor_gate_goal.f a0_0 a0_1 a0_2 a0_3 a1 = some r) :
    Calls Tryz.prog 125 #[.agg #[.int .i64 a0_0, .int .i64 a0_1, .int .i64 a0_2, .int .i64 a0_3], .int .i64 a1] w fun e w' => e = .returned (.int .i64 r) ∧ Below w.heap.size w w' := by
  have hu165 := Tryz.underlying165
  have HB := Aside0.mk (Below.refl w.heap.size w)
  have H : (some (mn (mx a1 a0_1) a0_2)) = some r := h
  clear h
  obtain ⟨ji3, hji3⟩ : ∃ j_ : Int, (mx a1 a0_1) = j_ := ⟨_, rfl⟩
  replace H : (some (mn (ji3) a0_2)) = some r := by first | (rw [hji3] at H; exact H) | (simp only [hji3] at H ⊢; exact H)
  have hji3_ : (if a1 < a0_1 then a0_1 else a1) = ji3 := hji3
  obtain ⟨ji4, hji4⟩ : ∃ j_ : Int, (mn (ji3) a0_2) = j_ := ⟨_, rfl⟩
  replace H : (some ji4) = some r := by first | (rw [hji4] at H; exact H) | (simp only [hji4] at H ⊢; exact H)
  have hji4_ : (if a0_2 < (ji3) then a0_2 else (ji3)) = ji4 := hji4
  obtain rfl := Option.some.inj H
  go_enter Tryz.func125, Tryz.ntmps125
  go_wp2_with (first | ((with_reducible refine gate_dst (N := 2) rfl ?_); refine box_event ?hg (N := 2) ?hd (cs := #[.int .i64 a0_0, .int .i64 a0_1, .int .i64 a0_2, .int .i64 a0_3]) (t := 165) ?hr ?_; (case hd => rfl); (case hg => rfl); (case hr => first | (go_simp; done) | (go_simp; rfl)); intro gb488 hg w5 hbox hb; have n0_ := Aside0.mk (below_step (by repeat (first | (with_reducible first | exact HB.out | apply below_alloc | apply pw_below_drewN | apply below_drew1) | exact HB.out)) hb); have n1_ := Aside0.mk (hbox); have n2_ := Aside0.mk ((by rw [hg]; exact (below_size (by repeat (first | (with_reducible first | exact HB.out | apply below_alloc | apply pw_below_drewN | apply below_drew1) | exact HB.out))) : w.heap.size ≤ gb488)); have n3_ := Aside0.mk ((by rw [hg]; exact (below_size (by repeat (first | (with_reducible first | exact HB.out | apply below_alloc | apply pw_below_drewN | apply below_drew1) | exact HB.out))) : w.heap.size ≤ gb488)); clear HB; have HB := n0_; have BK488 := n1_; have GW488 := n2_; have GE488 := n3_; clear n0_ n1_ n2_ n3_; clear hb hbox hg; have hcz6_0 : w5.cell? ⟨gb488, 0, none⟩ = some (.int .i64 a0_0) := (blk_cell BK488.out 0).trans rfl; have hcz6_1 : w5.cell? ⟨gb488, 1, none⟩ = some (.int .i64 a0_1) := (blk_cell BK488.out 1).trans rfl; have hcz6_2 : w5.cell? ⟨gb488, 2, none⟩ = some (.int .i64 a0_2) := (blk_cell BK488.out 2).trans rfl; have hcz6_3 : w5.cell? ⟨gb488, 3, none⟩ = some (.int .i64 a0_3) := (blk_cell BK488.out 3).trans rfl; have hfz6_0 := blk_frozen BK488.out 0; have hfz6_1 := blk_frozen BK488.out 1; have hfz6_2 := blk_frozen BK488.out 2; have hfz6_3 := blk_frozen BK488.out 3))
  go_ret
  exact ⟨by first | rfl | (simp [errW_none, errW_some] <;> rfl) | (simp only [← hji3, ← hji4]; first | rfl | (simp [errW_none, errW_some] <;> rfl)) | (simp [*, errW_none, errW_some] <;> rfl), by repeat (first | (with_reducible first | exact HB.out | apply below_alloc | apply pw_below_drewN | apply below_drew1 | refine below_set ?_ GE488.out) | exact HB.out)⟩
end Go.Proofs.YtmpondcccbmlhaaGreat.Q
