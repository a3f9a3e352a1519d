/- A part of the claim R: the texts Q13, without what the claim does not lean on. -/
import Derived.ArgAppend
import Derived.Below
import Derived.BigQuiet
import Derived.Deep.AppendLies
import Derived.Deep.CutBlock
import Derived.Deep.DeepCutAuto
import Derived.Deep.Draws
import Derived.Deep.LoopGhost
import Derived.Deep.OwnRows
import Derived.Deep.QuietTactic
import Derived.Deep.RegionHeld3
import Derived.KernelRfl
import Derived.Laws.BitsLemmas
import Derived.Laws.BytesArg
import Derived.Laws.IdiomCopy
import Derived.Laws.MakeOwn
import Derived.Laws.OwnMore
import Derived.Laws.Rows
import Derived.Laws.Slices
import Derived.Laws.StructEq
import Derived.Lib.AppendStr
import Derived.Lib.ConvBytes
import Derived.Maps.AppendAt
import Derived.OrdersHeld
import Derived.OwnWalk
import Derived.RowKit
import Derived.RowKit3
import Derived.Tactics
import Derived.WalkKit
import Derived.WideLaws
import Derived.Test.YtmpondcccbmlhaaGreatProg
import Derived.Test.YtmpondcccbmlhaaGreatzR0
import Derived.Test.YtmpondcccbmlhaaGreatzR1
import Derived.Test.YtmpondcccbmlhaaGreatzR2
import Derived.Test.YtmpondcccbmlhaaGreatzR3
import Derived.Test.YtmpondcccbmlhaaGreatzR4
import Derived.Test.YtmpondcccbmlhaaGreatzR5
import Derived.Test.YtmpondcccbmlhaaGreatzR6
namespace Go.Proofs.YtmpondcccbmlhaaGreat.Q
open Go.RowKit Go.Proofs.YtmpondcccbmlhaaGreatW.PrintWords Go.Proofs.YtmpondcccbmlhaaGreatW.PrintLast Go.Proofs.YtmpondcccbmlhaaGreatW.PrintMore
attribute [local go_sem] max2_int min2_int max_two min_two max_three min_three max_four min_four   
set_option linter.unusedVariables false
set_option linter.unusedSimpArgs false
def guidevaneref06_GateErr.j0 : Nat → Bool → Int → Int → Int → Int → Option (Int)
  | 0, _, _, _, _, _ => none
  | k + 1, x24, x499000, x499001, x499002, x499003 => if x24 = true then (some 2) else (if x499001 > x499002 then (some 9) else ((guidevanebase_Within.f x499000 x499001 x499002).bind fun t503 => (if t503 = true then (some 0) else (some 22))))
def guidevaneref06_GateErr.f (k : Nat) (a0_0 : Int) (a0_1 : Int) (a0_2 : Int) (a0_3 : Int) : Option (Int) := (guidevanebase_Within.f a0_1 0 10000).bind fun t499 => (if t499 = true then ((guidevanebase_Within.f a0_2 0 10000).bind fun t500 => (if t500 = true then ((guidevanebase_Within.f a0_0 0 10000).bind fun t501 => (if t501 = true then ((guidevanebase_Within.f a0_3 1 10000).bind fun t502 => (guidevaneref06_GateErr.j0 k (!t502) a0_0 a0_1 a0_2 a0_3)) else (guidevaneref06_GateErr.j0 k true a0_0 a0_1 a0_2 a0_3))) else (guidevaneref06_GateErr.j0 k true a0_0 a0_1 a0_2 a0_3))) else (guidevaneref06_GateErr.j0 k true a0_0 a0_1 a0_2 a0_3))
set_option maxHeartbeats 8000000 in
set_option maxRecDepth 100000 in
theorem guidevaneref06_GateErr.calls (k : Nat) (a0_0 : Int) (a0_1 : Int) (a0_2 : Int) (a0_3 : Int) (r : Int) (w : World) (h : guidevaneref06_GateErr.f k a0_0 a0_1 a0_2 a0_3 = some r) :
    Calls Tryz.prog 50 #[.agg #[.int .i64 a0_0, .int .i64 a0_1, .int .i64 a0_2, .int .i64 a0_3]] w fun e w' => e = .returned (.int .i64 r) ∧ Below w.heap.size w w' := by
  have hu75 := Tryz.underlying75
  have HB := Aside0.mk (Below.refl w.heap.size w)
  have H : ((guidevanebase_Within.f a0_1 0 10000).bind fun t499 => (if t499 = true then ((guidevanebase_Within.f a0_2 0 10000).bind fun t500 => (if t500 = true then ((guidevanebase_Within.f a0_0 0 10000).bind fun t501 => (if t501 = true then ((guidevanebase_Within.f a0_3 1 10000).bind fun t502 => (guidevaneref06_GateErr.j0 k (!t502) a0_0 a0_1 a0_2 a0_3)) else (guidevaneref06_GateErr.j0 k true a0_0 a0_1 a0_2 a0_3))) else (guidevaneref06_GateErr.j0 k true a0_0 a0_1 a0_2 a0_3))) else (guidevaneref06_GateErr.j0 k true a0_0 a0_1 a0_2 a0_3))) = some r := h
  clear h
  have HC2 := Aside0.mk H
  clear H
  go_enter Tryz.func50, Tryz.ntmps50
  go_upto_region 1 with (first | ((with_reducible refine gate_dst (N := 1) rfl ?_); refine box_event ?hg (N := 1) ?hd (cs := #[.int .i64 a0_0, .int .i64 a0_1, .int .i64 a0_2, .int .i64 a0_3]) (t := 75) ?hr ?_; (case hd => rfl); (case hg => rfl); (case hr => first | (go_simp; done) | (go_simp; rfl)); intro gb498 hg w3 hbox hb; have n0_ := Aside0.mk (below_step (by repeat (first | (with_reducible first | exact HB.out | apply below_alloc | apply pw_below_drewN | apply below_drew1) | exact HB.out)) hb); have n1_ := Aside0.mk (hbox); have n2_ := Aside0.mk ((by rw [hg]; exact (below_size (by repeat (first | (with_reducible first | exact HB.out | apply below_alloc | apply pw_below_drewN | apply below_drew1) | exact HB.out))) : w.heap.size ≤ gb498)); have n3_ := Aside0.mk ((by rw [hg]; exact (below_size (by repeat (first | (with_reducible first | exact HB.out | apply below_alloc | apply pw_below_drewN | apply below_drew1) | exact HB.out))) : w.heap.size ≤ gb498)); clear HB; have HB := n0_; have BK498 := n1_; have GW498 := n2_; have GE498 := n3_; clear n0_ n1_ n2_ n3_; clear hb hbox hg))
  (try simp only [Act.put, List.setIfInBounds_toArray, List.set_cons_zero, List.set_cons_succ])
  go_cut [24] (fun v24 wc => ∃ (kq : Nat) (x24_1 : Bool), v24 = .bool x24_1 ∧ Aside0 (guidevaneref06_GateErr.j0 kq x24_1 a0_0 a0_1 a0_2 a0_3 = some r) ∧ Aside0 (kq ≤ k) ∧ Aside0 (wc.heap[gb498]? = some (.cells #[.int .i64 a0_0, .int .i64 a0_1, .int .i64 a0_2, .int .i64 a0_3] 75 (0, 0))) ∧ Aside0 (Below w.heap.size w wc))
  case first =>
    have H := HC2.out
    clear HC2
    replace H := Option.bind_eq_some_iff.mp H
    obtain ⟨t499, A40, H⟩ := H
    replace H : (if t499 = true then ((guidevanebase_Within.f a0_2 0 10000).bind fun t500 => (if t500 = true then ((guidevanebase_Within.f a0_0 0 10000).bind fun t501 => (if t501 = true then ((guidevanebase_Within.f a0_3 1 10000).bind fun t502 => (guidevaneref06_GateErr.j0 k (!t502) a0_0 a0_1 a0_2 a0_3)) else (guidevaneref06_GateErr.j0 k true a0_0 a0_1 a0_2 a0_3))) else (guidevaneref06_GateErr.j0 k true a0_0 a0_1 a0_2 a0_3))) else (guidevaneref06_GateErr.j0 k true a0_0 a0_1 a0_2 a0_3)) = some r := H
    have A4 := Aside0.mk A40
    clear A40
    by_cases c5 : t499 = true
    · subst c5
      have H1 : ((guidevanebase_Within.f a0_2 0 10000).bind fun t500 => (if t500 = true then ((guidevanebase_Within.f a0_0 0 10000).bind fun t501 => (if t501 = true then ((guidevanebase_Within.f a0_3 1 10000).bind fun t502 => (guidevaneref06_GateErr.j0 k (!t502) a0_0 a0_1 a0_2 a0_3)) else (guidevaneref06_GateErr.j0 k true a0_0 a0_1 a0_2 a0_3))) else (guidevaneref06_GateErr.j0 k true a0_0 a0_1 a0_2 a0_3))) = some r := by rw [if_pos rfl] at H; exact H
      clear H
      have H := H1
      clear H1
      replace H := Option.bind_eq_some_iff.mp H
      obtain ⟨t500, A60, H⟩ := H
      replace H : (if t500 = true then ((guidevanebase_Within.f a0_0 0 10000).bind fun t501 => (if t501 = true then ((guidevanebase_Within.f a0_3 1 10000).bind fun t502 => (guidevaneref06_GateErr.j0 k (!t502) a0_0 a0_1 a0_2 a0_3)) else (guidevaneref06_GateErr.j0 k true a0_0 a0_1 a0_2 a0_3))) else (guidevaneref06_GateErr.j0 k true a0_0 a0_1 a0_2 a0_3)) = some r := H
      have A6 := Aside0.mk A60
      clear A60
      by_cases c7 : t500 = true
      · subst c7
        have H1 : ((guidevanebase_Within.f a0_0 0 10000).bind fun t501 => (if t501 = true then ((guidevanebase_Within.f a0_3 1 10000).bind fun t502 => (guidevaneref06_GateErr.j0 k (!t502) a0_0 a0_1 a0_2 a0_3)) else (guidevaneref06_GateErr.j0 k true a0_0 a0_1 a0_2 a0_3))) = some r := by rw [if_pos rfl] at H; exact H
        clear H
        have H := H1
        clear H1
        replace H := Option.bind_eq_some_iff.mp H
        obtain ⟨t501, A80, H⟩ := H
        replace H : (if t501 = true then ((guidevanebase_Within.f a0_3 1 10000).bind fun t502 => (guidevaneref06_GateErr.j0 k (!t502) a0_0 a0_1 a0_2 a0_3)) else (guidevaneref06_GateErr.j0 k true a0_0 a0_1 a0_2 a0_3)) = some r := H
        have A8 := Aside0.mk A80
        clear A80
        by_cases c9 : t501 = true
        · subst c9
          have H1 : ((guidevanebase_Within.f a0_3 1 10000).bind fun t502 => (guidevaneref06_GateErr.j0 k (!t502) a0_0 a0_1 a0_2 a0_3)) = some r := by rw [if_pos rfl] at H; exact H
          clear H
          have H := H1
          clear H1
          replace H := Option.bind_eq_some_iff.mp H
          obtain ⟨t502, A100, H⟩ := H
          replace H : (guidevaneref06_GateErr.j0 k (!t502) a0_0 a0_1 a0_2 a0_3) = some r := H
          have A10 := Aside0.mk A100
          clear A100
          have H' := Aside0.mk H
          clear H
          have hcz11_0 : w3.cell? ⟨gb498, 0, none⟩ = some (.int .i64 a0_0) := (blk_cell BK498.out 0).trans rfl
          have hcz11_1 : w3.cell? ⟨gb498, 1, none⟩ = some (.int .i64 a0_1) := (blk_cell BK498.out 1).trans rfl
          have hcz11_2 : w3.cell? ⟨gb498, 2, none⟩ = some (.int .i64 a0_2) := (blk_cell BK498.out 2).trans rfl
          have hcz11_3 : w3.cell? ⟨gb498, 3, none⟩ = some (.int .i64 a0_3) := (blk_cell BK498.out 3).trans rfl
          have hfz11_0 := blk_frozen BK498.out 0
          have hfz11_1 := blk_frozen BK498.out 1
          have hfz11_2 := blk_frozen BK498.out 2
          have hfz11_3 := blk_frozen BK498.out 3
          go_wp2_with (first | ((with_reducible refine gate_callee (f := 68) rfl ?_); refine goesL_ (some 5) rfl rfl Tryz.func68 (by kernel_rfl) rfl #[.int .i64 a0_1, .int .i64 0, .int .i64 10000] rfl (by (try simp only [List.map_toArray, List.map_cons, List.map_nil]); first | done | rfl | (simp only [List.length_drop, List.length_take]; rfl)) ?_; (with_reducible refine (guidevanebase_Within.calls a0_1 0 10000 true _ A4.out).mono ?_); rintro e w' ⟨rfl, ⟨nd, rfl⟩⟩; refine ⟨_, rfl, ?_⟩) | (go_at_call 68; (with_reducible refine (guidevanebase_Within.calls a0_2 0 10000 true _ A6.out).mono ?_); rintro e w' ⟨rfl, ⟨nd, rfl⟩⟩) | (go_at_call 68; (with_reducible refine (guidevanebase_Within.calls a0_0 0 10000 true _ A8.out).mono ?_); rintro e w' ⟨rfl, ⟨nd, rfl⟩⟩) | (go_at_call 68; (with_reducible refine (guidevanebase_Within.calls a0_3 1 10000 t502 _ A10.out).mono ?_); rintro e w' ⟨rfl, ⟨nd, rfl⟩⟩))
          go_meet
          case rel => exact ⟨_, (!t502), (by first | rfl | (simp; done) | (simp [*]; done)), H', ⟨by first | omega | exact Nat.le_refl _⟩, ⟨by (with_reducible repeat (first | refine blk_drewN ?_ _ | refine blk_drew ?_ | refine blk_alloc ?_ _)); exact BK498.out⟩, ⟨by repeat (first | (with_reducible first | exact HB.out | apply below_alloc | apply pw_below_drewN | apply below_drew1 | refine below_set ?_ GE498.out) | exact HB.out)⟩⟩
        · replace c9 := Bool.eq_false_iff.mpr c9
          subst c9
          have H1 : (guidevaneref06_GateErr.j0 k true a0_0 a0_1 a0_2 a0_3) = some r := by rw [if_neg (show ¬ (false = true) by decide)] at H; exact H
          clear H
          have H := H1
          clear H1
          have H' := Aside0.mk H
          clear H
          have hcz12_0 : w3.cell? ⟨gb498, 0, none⟩ = some (.int .i64 a0_0) := (blk_cell BK498.out 0).trans rfl
          have hcz12_1 : w3.cell? ⟨gb498, 1, none⟩ = some (.int .i64 a0_1) := (blk_cell BK498.out 1).trans rfl
          have hcz12_2 : w3.cell? ⟨gb498, 2, none⟩ = some (.int .i64 a0_2) := (blk_cell BK498.out 2).trans rfl
          have hcz12_3 : w3.cell? ⟨gb498, 3, none⟩ = some (.int .i64 a0_3) := (blk_cell BK498.out 3).trans rfl
          have hfz12_0 := blk_frozen BK498.out 0
          have hfz12_1 := blk_frozen BK498.out 1
          have hfz12_2 := blk_frozen BK498.out 2
          have hfz12_3 := blk_frozen BK498.out 3
          go_wp2_with (first | ((with_reducible refine gate_callee (f := 68) rfl ?_); refine goesL_ (some 5) rfl rfl Tryz.func68 (by kernel_rfl) rfl #[.int .i64 a0_1, .int .i64 0, .int .i64 10000] rfl (by (try simp only [List.map_toArray, List.map_cons, List.map_nil]); first | done | rfl | (simp only [List.length_drop, List.length_take]; rfl)) ?_; (with_reducible refine (guidevanebase_Within.calls a0_1 0 10000 true _ A4.out).mono ?_); rintro e w' ⟨rfl, ⟨nd, rfl⟩⟩; refine ⟨_, rfl, ?_⟩) | (go_at_call 68; (with_reducible refine (guidevanebase_Within.calls a0_2 0 10000 true _ A6.out).mono ?_); rintro e w' ⟨rfl, ⟨nd, rfl⟩⟩) | (go_at_call 68; (with_reducible refine (guidevanebase_Within.calls a0_0 0 10000 false _ A8.out).mono ?_); rintro e w' ⟨rfl, ⟨nd, rfl⟩⟩))
          go_meet
          case rel => exact ⟨_, (true), (by first | rfl | (simp; done) | (simp [*]; done)), H', ⟨by first | omega | exact Nat.le_refl _⟩, ⟨by (with_reducible repeat (first | refine blk_drewN ?_ _ | refine blk_drew ?_ | refine blk_alloc ?_ _)); exact BK498.out⟩, ⟨by repeat (first | (with_reducible first | exact HB.out | apply below_alloc | apply pw_below_drewN | apply below_drew1 | refine below_set ?_ GE498.out) | exact HB.out)⟩⟩
      · replace c7 := Bool.eq_false_iff.mpr c7
        subst c7
        have H1 : (guidevaneref06_GateErr.j0 k true a0_0 a0_1 a0_2 a0_3) = some r := by rw [if_neg (show ¬ (false = true) by decide)] at H; exact H
        clear H
        have H := H1
        clear H1
        have H' := Aside0.mk H
        clear H
        have hcz13_0 : w3.cell? ⟨gb498, 0, none⟩ = some (.int .i64 a0_0) := (blk_cell BK498.out 0).trans rfl
        have hcz13_1 : w3.cell? ⟨gb498, 1, none⟩ = some (.int .i64 a0_1) := (blk_cell BK498.out 1).trans rfl
        have hcz13_2 : w3.cell? ⟨gb498, 2, none⟩ = some (.int .i64 a0_2) := (blk_cell BK498.out 2).trans rfl
        have hcz13_3 : w3.cell? ⟨gb498, 3, none⟩ = some (.int .i64 a0_3) := (blk_cell BK498.out 3).trans rfl
        have hfz13_0 := blk_frozen BK498.out 0
        have hfz13_1 := blk_frozen BK498.out 1
        have hfz13_2 := blk_frozen BK498.out 2
        have hfz13_3 := blk_frozen BK498.out 3
        go_wp2_with (first | ((with_reducible refine gate_callee (f := 68) rfl ?_); refine goesL_ (some 5) rfl rfl Tryz.func68 (by kernel_rfl) rfl #[.int .i64 a0_1, .int .i64 0, .int .i64 10000] rfl (by (try simp only [List.map_toArray, List.map_cons, List.map_nil]); first | done | rfl | (simp only [List.length_drop, List.length_take]; rfl)) ?_; (with_reducible refine (guidevanebase_Within.calls a0_1 0 10000 true _ A4.out).mono ?_); rintro e w' ⟨rfl, ⟨nd, rfl⟩⟩; refine ⟨_, rfl, ?_⟩) | (go_at_call 68; (with_reducible refine (guidevanebase_Within.calls a0_2 0 10000 false _ A6.out).mono ?_); rintro e w' ⟨rfl, ⟨nd, rfl⟩⟩))
        go_meet
        case rel => exact ⟨_, (true), (by first | rfl | (simp; done) | (simp [*]; done)), H', ⟨by first | omega | exact Nat.le_refl _⟩, ⟨by (with_reducible repeat (first | refine blk_drewN ?_ _ | refine blk_drew ?_ | refine blk_alloc ?_ _)); exact BK498.out⟩, ⟨by repeat (first | (with_reducible first | exact HB.out | apply below_alloc | apply pw_below_drewN | apply below_drew1 | refine below_set ?_ GE498.out) | exact HB.out)⟩⟩
    · replace c5 := Bool.eq_false_iff.mpr c5
      subst c5
      have H1 : (guidevaneref06_GateErr.j0 k true a0_0 a0_1 a0_2 a0_3) = some r := by rw [if_neg (show ¬ (false = true) by decide)] at H; exact H
      clear H
      have H := H1
      clear H1
      have H' := Aside0.mk H
      clear H
      have hcz14_0 : w3.cell? ⟨gb498, 0, none⟩ = some (.int .i64 a0_0) := (blk_cell BK498.out 0).trans rfl
      have hcz14_1 : w3.cell? ⟨gb498, 1, none⟩ = some (.int .i64 a0_1) := (blk_cell BK498.out 1).trans rfl
      have hcz14_2 : w3.cell? ⟨gb498, 2, none⟩ = some (.int .i64 a0_2) := (blk_cell BK498.out 2).trans rfl
      have hcz14_3 : w3.cell? ⟨gb498, 3, none⟩ = some (.int .i64 a0_3) := (blk_cell BK498.out 3).trans rfl
      have hfz14_0 := blk_frozen BK498.out 0
      have hfz14_1 := blk_frozen BK498.out 1
      have hfz14_2 := blk_frozen BK498.out 2
      have hfz14_3 := blk_frozen BK498.out 3
      go_wp2_with (first | ((with_reducible refine gate_callee (f := 68) rfl ?_); refine goesL_ (some 5) rfl rfl Tryz.func68 (by kernel_rfl) rfl #[.int .i64 a0_1, .int .i64 0, .int .i64 10000] rfl (by (try simp only [List.map_toArray, List.map_cons, List.map_nil]); first | done | rfl | (simp only [List.length_drop, List.length_take]; rfl)) ?_; (with_reducible refine (guidevanebase_Within.calls a0_1 0 10000 false _ A4.out).mono ?_); rintro e w' ⟨rfl, ⟨nd, rfl⟩⟩; refine ⟨_, rfl, ?_⟩))
      go_meet
      case rel => exact ⟨_, (true), (by first | rfl | (simp; done) | (simp [*]; done)), H', ⟨by first | omega | exact Nat.le_refl _⟩, ⟨by (with_reducible repeat (first | refine blk_drewN ?_ _ | refine blk_drew ?_ | refine blk_alloc ?_ _)); exact BK498.out⟩, ⟨by repeat (first | (with_reducible first | exact HB.out | apply below_alloc | apply pw_below_drewN | apply below_drew1 | refine below_set ?_ GE498.out) | exact HB.out)⟩⟩
  case rest =>
    clear HC2
    try clear p2
    try clear c5
    try clear c6
    try clear c7
    try clear c9
    try clear hcz11_0
    try clear hcz11_1
    try clear hcz11_2
    try clear hcz11_3
    try clear hcz12_0
    try clear hcz12_1
    try clear hcz12_2
    try clear hcz12_3
    try clear hcz13_0
    try clear hcz13_1
    try clear hcz13_2
    try clear hcz13_3
    try clear hcz14_0
    try clear hcz14_1
    try clear hcz14_2
    try clear hcz14_3
    try clear hfz11_0
    try clear hfz11_1
    try clear hfz11_2
    try clear hfz11_3
    try clear hfz12_0
    try clear hfz12_1
    try clear hfz12_2
    try clear hfz12_3
    try clear hfz13_0
    try clear hfz13_1
    try clear hfz13_2
    try clear hfz13_3
    try clear hfz14_0
    try clear hfz14_1
    try clear hfz14_2
    try clear hfz14_3
    obtain ⟨kq, x24_1, rfl, HA, HJ1, BK498, HB⟩ := hcut
    cases kq with
    | zero => exact absurd HA.out (by simp [guidevaneref06_GateErr.j0])
    | succ kj1 =>
      have H := HA.out
      clear HA
      simp only [guidevaneref06_GateErr.j0] at H
      by_cases c15 : x24_1 = true
      · subst c15
        have H1 : (some 2) = some r := by rw [if_pos rfl] at H; exact H
        clear H
        have H := H1
        clear H1
        obtain rfl := Option.some.inj H
        go_wp2
        go_ret
        exact ⟨by first | rfl | (simp [errW_none, errW_some] <;> rfl) | (simp [*, errW_none, errW_some] <;> rfl), by repeat (first | (with_reducible first | exact HB.out | apply below_alloc | apply pw_below_drewN | apply below_drew1 | refine below_set ?_ GE498.out) | exact HB.out)⟩
      · replace c15 := Bool.eq_false_iff.mpr c15
        subst c15
        have H1 : (if a0_1 > a0_2 then (some 9) else ((guidevanebase_Within.f a0_0 a0_1 a0_2).bind fun t503 => (if t503 = true then (some 0) else (some 22)))) = some r := by rw [if_neg (show ¬ (false = true) by decide)] at H; exact H
        clear H
        have H := H1
        clear H1
        by_cases c16 : a0_1 > a0_2
        · rw [if_pos c16] at H
          have c16b0 : decide (a0_2 < a0_1) = true := decide_eq_true c16
          clear c16
          obtain rfl := Option.some.inj H
          have hcz17_0 : wc.cell? ⟨gb498, 0, none⟩ = some (.int .i64 a0_0) := (blk_cell BK498.out 0).trans rfl
          have hcz17_1 : wc.cell? ⟨gb498, 1, none⟩ = some (.int .i64 a0_1) := (blk_cell BK498.out 1).trans rfl
          have hcz17_2 : wc.cell? ⟨gb498, 2, none⟩ = some (.int .i64 a0_2) := (blk_cell BK498.out 2).trans rfl
          have hcz17_3 : wc.cell? ⟨gb498, 3, none⟩ = some (.int .i64 a0_3) := (blk_cell BK498.out 3).trans rfl
          have hfz17_0 := blk_frozen BK498.out 0
          have hfz17_1 := blk_frozen BK498.out 1
          have hfz17_2 := blk_frozen BK498.out 2
          have hfz17_3 := blk_frozen BK498.out 3
          go_wp2
          go_ret
          exact ⟨by first | rfl | (simp [errW_none, errW_some] <;> rfl) | (simp [*, errW_none, errW_some] <;> rfl), by repeat (first | (with_reducible first | exact HB.out | apply below_alloc | apply pw_below_drewN | apply below_drew1 | refine below_set ?_ GE498.out) | exact HB.out)⟩
        · rw [if_neg c16] at H
          have c16b0 : decide (a0_2 < a0_1) = false := decide_eq_false c16
          clear c16
          replace H := Option.bind_eq_some_iff.mp H
          obtain ⟨t503, A180, H⟩ := H
          replace H : (if t503 = true then (some 0) else (some 22)) = some r := H
          have A18 := Aside0.mk A180
          clear A180
          by_cases c19 : t503 = true
          · subst c19
            have H1 : (some 0) = some r := by rw [if_pos rfl] at H; exact H
            clear H
            have H := H1
            clear H1
            obtain rfl := Option.some.inj H
            have hcz20_0 : wc.cell? ⟨gb498, 0, none⟩ = some (.int .i64 a0_0) := (blk_cell BK498.out 0).trans rfl
            have hcz20_1 : wc.cell? ⟨gb498, 1, none⟩ = some (.int .i64 a0_1) := (blk_cell BK498.out 1).trans rfl
            have hcz20_2 : wc.cell? ⟨gb498, 2, none⟩ = some (.int .i64 a0_2) := (blk_cell BK498.out 2).trans rfl
            have hcz20_3 : wc.cell? ⟨gb498, 3, none⟩ = some (.int .i64 a0_3) := (blk_cell BK498.out 3).trans rfl
            have hfz20_0 := blk_frozen BK498.out 0
            have hfz20_1 := blk_frozen BK498.out 1
            have hfz20_2 := blk_frozen BK498.out 2
            have hfz20_3 := blk_frozen BK498.out 3
            go_wp2_with (first | ((with_reducible refine gate_callee (f := 68) rfl ?_); refine goesL_ (some 36) rfl rfl Tryz.func68 (by kernel_rfl) rfl #[.int .i64 a0_0, .int .i64 a0_1, .int .i64 a0_2] rfl (by (try simp only [List.map_toArray, List.map_cons, List.map_nil]); first | done | rfl | (simp only [List.length_drop, List.length_take]; rfl)) ?_; (with_reducible refine (guidevanebase_Within.calls a0_0 a0_1 a0_2 true _ A18.out).mono ?_); rintro e w' ⟨rfl, ⟨nd, rfl⟩⟩; refine ⟨_, rfl, ?_⟩))
            go_ret
            exact ⟨by first | rfl | (simp [errW_none, errW_some] <;> rfl) | (simp [*, errW_none, errW_some] <;> rfl), by repeat (first | (with_reducible first | exact HB.out | apply below_alloc | apply pw_below_drewN | apply below_drew1 | refine below_set ?_ GE498.out) | exact HB.out)⟩
          · replace c19 := Bool.eq_false_iff.mpr c19
            subst c19
            have H1 : (some 22) = some r := by rw [if_neg (show ¬ (false = true) by decide)] at H; exact H
            clear H
            have H := H1
            clear H1
            obtain rfl := Option.some.inj H
            have hcz21_0 : wc.cell? ⟨gb498, 0, none⟩ = some (.int .i64 a0_0) := (blk_cell BK498.out 0).trans rfl
            have hcz21_1 : wc.cell? ⟨gb498, 1, none⟩ = some (.int .i64 a0_1) := (blk_cell BK498.out 1).trans rfl
            have hcz21_2 : wc.cell? ⟨gb498, 2, none⟩ = some (.int .i64 a0_2) := (blk_cell BK498.out 2).trans rfl
            have hcz21_3 : wc.cell? ⟨gb498, 3, none⟩ = some (.int .i64 a0_3) := (blk_cell BK498.out 3).trans rfl
            have hfz21_0 := blk_frozen BK498.out 0
            have hfz21_1 := blk_frozen BK498.out 1
            have hfz21_2 := blk_frozen BK498.out 2
            have hfz21_3 := blk_frozen BK498.out 3
            go_wp2_with (first | ((with_reducible refine gate_callee (f := 68) rfl ?_); refine goesL_ (some 36) rfl rfl Tryz.func68 (by kernel_rfl) rfl #[.int .i64 a0_0, .int .i64 a0_1, .int .i64 a0_2] rfl (by (try simp only [List.map_toArray, List.map_cons, List.map_nil]); first | done | rfl | (simp only [List.length_drop, List.length_take]; rfl)) ?_; (with_reducible refine (guidevanebase_Within.calls a0_0 a0_1 a0_2 false _ A18.out).mono ?_); rintro e w' ⟨rfl, ⟨nd, rfl⟩⟩; refine ⟨_, rfl, ?_⟩))
            go_ret
            exact ⟨by first | rfl | (simp [errW_none, errW_some] <;> rfl) | (simp [*, errW_none, errW_some] <;> rfl), by repeat (first | (with_reducible first | exact HB.out | apply below_alloc | apply pw_below_drewN | apply below_drew1 | refine below_set ?_ GE498.out) | exact HB.out)⟩
def guidevaneref06_RulesErr.f (a0_0 : Int) (a0_1 : Int) (a0_2 : Int) (a0_3 : Int) : Option (Int) := (guidevanebase_Within.f a0_0 0 100000).bind fun t505 => (if t505 = true then ((guidevanebase_Within.f a0_1 0 1000).bind fun t506 => (if t506 = true then ((guidevanebase_Within.f a0_2 1 1000).bind fun t507 => (if t507 = true then ((guidevanebase_Within.f a0_3 0 10000).bind fun t508 => (if t508 = true then (some 0) else (some 2))) else (some 2))) else (some 2))) else (some 2))
set_option maxHeartbeats 8000000 in
set_option maxRecDepth 100000 in
theorem guidevaneref06_RulesErr.calls (a0_0 : Int) (a0_1 : Int) (a0_2 : Int) (a0_3 : Int) (r : Int) (w : World) (h : guidevaneref06_RulesErr.f a0_0 a0_1 a0_2 a0_3 = some r) :
    Calls Tryz.prog 51 #[.agg #[.int .i64 a0_0, .int .i64 a0_1, .int .i64 a0_2, .int .i64 a0_3]] w fun e w' => e = .returned (.int .i64 r) ∧ Below w.heap.size w w' := by
  have hu77 := Tryz.underlying77
  have HB := Aside0.mk (Below.refl w.heap.size w)
  have H : ((guidevanebase_Within.f a0_0 0 100000).bind fun t505 => (if t505 = true then ((guidevanebase_Within.f a0_1 0 1000).bind fun t506 => (if t506 = true then ((guidevanebase_Within.f a0_2 1 1000).bind fun t507 => (if t507 = true then ((guidevanebase_Within.f a0_3 0 10000).bind fun t508 => (if t508 = true then (some 0) else (some 2))) else (some 2))) else (some 2))) else (some 2))) = some r := h
  clear h
  replace H := Option.bind_eq_some_iff.mp H
  obtain ⟨t505, A20, H⟩ := H
  replace H : (if t505 = true then ((guidevanebase_Within.f a0_1 0 1000).bind fun t506 => (if t506 = true then ((guidevanebase_Within.f a0_2 1 1000).bind fun t507 => (if t507 = true then ((guidevanebase_Within.f a0_3 0 10000).bind fun t508 => (if t508 = true then (some 0) else (some 2))) else (some 2))) else (some 2))) else (some 2)) = some r := H
  have A2 := Aside0.mk A20
  clear A20
  by_cases c3 : t505 = true
  · subst c3
    have H1 : ((guidevanebase_Within.f a0_1 0 1000).bind fun t506 => (if t506 = true then ((guidevanebase_Within.f a0_2 1 1000).bind fun t507 => (if t507 = true then ((guidevanebase_Within.f a0_3 0 10000).bind fun t508 => (if t508 = true then (some 0) else (some 2))) else (some 2))) else (some 2))) = some r := by rw [if_pos rfl] at H; exact H
    clear H
    have H := H1
    clear H1
    replace H := Option.bind_eq_some_iff.mp H
    obtain ⟨t506, A40, H⟩ := H
    replace H : (if t506 = true then ((guidevanebase_Within.f a0_2 1 1000).bind fun t507 => (if t507 = true then ((guidevanebase_Within.f a0_3 0 10000).bind fun t508 => (if t508 = true then (some 0) else (some 2))) else (some 2))) else (some 2)) = some r := H
    have A4 := Aside0.mk A40
    clear A40
    by_cases c5 : t506 = true
    · subst c5
      have H1 : ((guidevanebase_Within.f a0_2 1 1000).bind fun t507 => (if t507 = true then ((guidevanebase_Within.f a0_3 0 10000).bind fun t508 => (if t508 = true then (some 0) else (some 2))) else (some 2))) = some r := by rw [if_pos rfl] at H; exact H
      clear H
      have H := H1
      clear H1
      replace H := Option.bind_eq_some_iff.mp H
      obtain ⟨t507, A60, H⟩ := H
      replace H : (if t507 = true then ((guidevanebase_Within.f a0_3 0 10000).bind fun t508 => (if t508 = true then (some 0) else (some 2))) else (some 2)) = some r := H
      have A6 := Aside0.mk A60
      clear A60
      by_cases c7 : t507 = true
      · subst c7
        have H1 : ((guidevanebase_Within.f a0_3 0 10000).bind fun t508 => (if t508 = true then (some 0) else (some 2))) = some r := by rw [if_pos rfl] at H; exact H
        clear H
        have H := H1
        clear H1
        replace H := Option.bind_eq_some_iff.mp H
        obtain ⟨t508, A80, H⟩ := H
        replace H : (if t508 = true then (some 0) else (some 2)) = some r := H
        have A8 := Aside0.mk A80
        clear A80
        by_cases c9 : t508 = true
        · subst c9
          have H1 : (some 0) = some r := by rw [if_pos rfl] at H; exact H
          clear H
          have H := H1
          clear H1
          obtain rfl := Option.some.inj H
          go_enter Tryz.func51, Tryz.ntmps51
          go_wp2_with (first | ((with_reducible refine gate_dst (N := 1) rfl ?_); refine box_event ?hg (N := 1) ?hd (cs := #[.int .i64 a0_0, .int .i64 a0_1, .int .i64 a0_2, .int .i64 a0_3]) (t := 77) ?hr ?_; (case hd => rfl); (case hg => rfl); (case hr => first | (go_simp; done) | (go_simp; rfl)); intro gb504 hg w10 hbox hb; have n0_ := Aside0.mk (below_step (by repeat (first | (with_reducible first | exact HB.out | apply below_alloc | apply pw_below_drewN | apply below_drew1) | exact HB.out)) hb); have n1_ := Aside0.mk (hbox); have n2_ := Aside0.mk ((by rw [hg]; exact (below_size (by repeat (first | (with_reducible first | exact HB.out | apply below_alloc | apply pw_below_drewN | apply below_drew1) | exact HB.out))) : w.heap.size ≤ gb504)); have n3_ := Aside0.mk ((by rw [hg]; exact (below_size (by repeat (first | (with_reducible first | exact HB.out | apply below_alloc | apply pw_below_drewN | apply below_drew1) | exact HB.out))) : w.heap.size ≤ gb504)); clear HB; have HB := n0_; have BK504 := n1_; have GW504 := n2_; have GE504 := n3_; clear n0_ n1_ n2_ n3_; clear hb hbox hg; have hcz11_0 : w10.cell? ⟨gb504, 0, none⟩ = some (.int .i64 a0_0) := (blk_cell BK504.out 0).trans rfl; have hcz11_1 : w10.cell? ⟨gb504, 1, none⟩ = some (.int .i64 a0_1) := (blk_cell BK504.out 1).trans rfl; have hcz11_2 : w10.cell? ⟨gb504, 2, none⟩ = some (.int .i64 a0_2) := (blk_cell BK504.out 2).trans rfl; have hcz11_3 : w10.cell? ⟨gb504, 3, none⟩ = some (.int .i64 a0_3) := (blk_cell BK504.out 3).trans rfl; have hfz11_0 := blk_frozen BK504.out 0; have hfz11_1 := blk_frozen BK504.out 1; have hfz11_2 := blk_frozen BK504.out 2; have hfz11_3 := blk_frozen BK504.out 3) | ((with_reducible refine gate_callee (f := 68) rfl ?_); refine goesL_ (some 5) rfl rfl Tryz.func68 (by kernel_rfl) rfl #[.int .i64 a0_0, .int .i64 0, .int .i64 100000] rfl (by (try simp only [List.map_toArray, List.map_cons, List.map_nil]); first | done | rfl | (simp only [List.length_drop, List.length_take]; rfl)) ?_; (with_reducible refine (guidevanebase_Within.calls a0_0 0 100000 true _ A2.out).mono ?_); rintro e w' ⟨rfl, ⟨nd, rfl⟩⟩; refine ⟨_, rfl, ?_⟩) | (go_at_call 68; (with_reducible refine (guidevanebase_Within.calls a0_1 0 1000 true _ A4.out).mono ?_); rintro e w' ⟨rfl, ⟨nd, rfl⟩⟩) | (go_at_call 68; (with_reducible refine (guidevanebase_Within.calls a0_2 1 1000 true _ A6.out).mono ?_); rintro e w' ⟨rfl, ⟨nd, rfl⟩⟩) | (go_at_call 68; (with_reducible refine (guidevanebase_Within.calls a0_3 0 10000 true _ A8.out).mono ?_); rintro e w' ⟨rfl, ⟨nd, rfl⟩⟩))
          go_ret
          exact ⟨by first | rfl | (simp [errW_none, errW_some] <;> rfl) | (simp [*, errW_none, errW_some] <;> rfl), by repeat (first | (with_reducible first | exact HB.out | apply below_alloc | apply pw_below_drewN | apply below_drew1 | refine below_set ?_ GE504.out) | exact HB.out)⟩
        · replace c9 := Bool.eq_false_iff.mpr c9
          subst c9
          have H1 : (some 2) = some r := by rw [if_neg (show ¬ (false = true) by decide)] at H; exact H
          clear H
          have H := H1
          clear H1
          obtain rfl := Option.some.inj H
          go_enter Tryz.func51, Tryz.ntmps51
          go_wp2_with (first | ((with_reducible refine gate_dst (N := 1) rfl ?_); refine box_event ?hg (N := 1) ?hd (cs := #[.int .i64 a0_0, .int .i64 a0_1, .int .i64 a0_2, .int .i64 a0_3]) (t := 77) ?hr ?_; (case hd => rfl); (case hg => rfl); (case hr => first | (go_simp; done) | (go_simp; rfl)); intro gb504 hg w12 hbox hb; have n0_ := Aside0.mk (below_step (by repeat (first | (with_reducible first | exact HB.out | apply below_alloc | apply pw_below_drewN | apply below_drew1) | exact HB.out)) hb); have n1_ := Aside0.mk (hbox); have n2_ := Aside0.mk ((by rw [hg]; exact (below_size (by repeat (first | (with_reducible first | exact HB.out | apply below_alloc | apply pw_below_drewN | apply below_drew1) | exact HB.out))) : w.heap.size ≤ gb504)); have n3_ := Aside0.mk ((by rw [hg]; exact (below_size (by repeat (first | (with_reducible first | exact HB.out | apply below_alloc | apply pw_below_drewN | apply below_drew1) | exact HB.out))) : w.heap.size ≤ gb504)); clear HB; have HB := n0_; have BK504 := n1_; have GW504 := n2_; have GE504 := n3_; clear n0_ n1_ n2_ n3_; clear hb hbox hg; have hcz13_0 : w12.cell? ⟨gb504, 0, none⟩ = some (.int .i64 a0_0) := (blk_cell BK504.out 0).trans rfl; have hcz13_1 : w12.cell? ⟨gb504, 1, none⟩ = some (.int .i64 a0_1) := (blk_cell BK504.out 1).trans rfl; have hcz13_2 : w12.cell? ⟨gb504, 2, none⟩ = some (.int .i64 a0_2) := (blk_cell BK504.out 2).trans rfl; have hcz13_3 : w12.cell? ⟨gb504, 3, none⟩ = some (.int .i64 a0_3) := (blk_cell BK504.out 3).trans rfl; have hfz13_0 := blk_frozen BK504.out 0; have hfz13_1 := blk_frozen BK504.out 1; have hfz13_2 := blk_frozen BK504.out 2; have hfz13_3 := blk_frozen BK504.out 3) | ((with_reducible refine gate_callee (f := 68) rfl ?_); refine goesL_ (some 5) rfl rfl Tryz.func68 (by kernel_rfl) rfl #[.int .i64 a0_0, .int .i64 0, .int .i64 100000] rfl (by (try simp only [List.map_toArray, List.map_cons, List.map_nil]); first | done | rfl | (simp only [List.length_drop, List.length_take]; rfl)) ?_; (with_reducible refine (guidevanebase_Within.calls a0_0 0 100000 true _ A2.out).mono ?_); rintro e w' ⟨rfl, ⟨nd, rfl⟩⟩; refine ⟨_, rfl, ?_⟩) | (go_at_call 68; (with_reducible refine (guidevanebase_Within.calls a0_1 0 1000 true _ A4.out).mono ?_); rintro e w' ⟨rfl, ⟨nd, rfl⟩⟩) | (go_at_call 68; (with_reducible refine (guidevanebase_Within.calls a0_2 1 1000 true _ A6.out).mono ?_); rintro e w' ⟨rfl, ⟨nd, rfl⟩⟩) | (go_at_call 68; (with_reducible refine (guidevanebase_Within.calls a0_3 0 10000 false _ A8.out).mono ?_); rintro e w' ⟨rfl, ⟨nd, rfl⟩⟩))
          go_ret
          exact ⟨by first | rfl | (simp [errW_none, errW_some] <;> rfl) | (simp [*, errW_none, errW_some] <;> rfl), by repeat (first | (with_reducible first | exact HB.out | apply below_alloc | apply pw_below_drewN | apply below_drew1 | refine below_set ?_ GE504.out) | exact HB.out)⟩
      · replace c7 := Bool.eq_false_iff.mpr c7
        subst c7
        have H1 : (some 2) = some r := by rw [if_neg (show ¬ (false = true) by decide)] at H; exact H
        clear H
        have H := H1
        clear H1
        obtain rfl := Option.some.inj H
        go_enter Tryz.func51, Tryz.ntmps51
        go_wp2_with (first | ((with_reducible refine gate_dst (N := 1) rfl ?_); refine box_event ?hg (N := 1) ?hd (cs := #[.int .i64 a0_0, .int .i64 a0_1, .int .i64 a0_2, .int .i64 a0_3]) (t := 77) ?hr ?_; (case hd => rfl); (case hg => rfl); (case hr => first | (go_simp; done) | (go_simp; rfl)); intro gb504 hg w14 hbox hb; have n0_ := Aside0.mk (below_step (by repeat (first | (with_reducible first | exact HB.out | apply below_alloc | apply pw_below_drewN | apply below_drew1) | exact HB.out)) hb); have n1_ := Aside0.mk (hbox); have n2_ := Aside0.mk ((by rw [hg]; exact (below_size (by repeat (first | (with_reducible first | exact HB.out | apply below_alloc | apply pw_below_drewN | apply below_drew1) | exact HB.out))) : w.heap.size ≤ gb504)); have n3_ := Aside0.mk ((by rw [hg]; exact (below_size (by repeat (first | (with_reducible first | exact HB.out | apply below_alloc | apply pw_below_drewN | apply below_drew1) | exact HB.out))) : w.heap.size ≤ gb504)); clear HB; have HB := n0_; have BK504 := n1_; have GW504 := n2_; have GE504 := n3_; clear n0_ n1_ n2_ n3_; clear hb hbox hg; have hcz15_0 : w14.cell? ⟨gb504, 0, none⟩ = some (.int .i64 a0_0) := (blk_cell BK504.out 0).trans rfl; have hcz15_1 : w14.cell? ⟨gb504, 1, none⟩ = some (.int .i64 a0_1) := (blk_cell BK504.out 1).trans rfl; have hcz15_2 : w14.cell? ⟨gb504, 2, none⟩ = some (.int .i64 a0_2) := (blk_cell BK504.out 2).trans rfl; have hcz15_3 : w14.cell? ⟨gb504, 3, none⟩ = some (.int .i64 a0_3) := (blk_cell BK504.out 3).trans rfl; have hfz15_0 := blk_frozen BK504.out 0; have hfz15_1 := blk_frozen BK504.out 1; have hfz15_2 := blk_frozen BK504.out 2; have hfz15_3 := blk_frozen BK504.out 3) | ((with_reducible refine gate_callee (f := 68) rfl ?_); refine goesL_ (some 5) rfl rfl Tryz.func68 (by kernel_rfl) rfl #[.int .i64 a0_0, .int .i64 0, .int .i64 100000] rfl (by (try simp only [List.map_toArray, List.map_cons, List.map_nil]); first | done | rfl | (simp only [List.length_drop, List.length_take]; rfl)) ?_; (with_reducible refine (guidevanebase_Within.calls a0_0 0 100000 true _ A2.out).mono ?_); rintro e w' ⟨rfl, ⟨nd, rfl⟩⟩; refine ⟨_, rfl, ?_⟩) | (go_at_call 68; (with_reducible refine (guidevanebase_Within.calls a0_1 0 1000 true _ A4.out).mono ?_); rintro e w' ⟨rfl, ⟨nd, rfl⟩⟩) | (go_at_call 68; (with_reducible refine (guidevanebase_Within.calls a0_2 1 1000 false _ A6.out).mono ?_); rintro e w' ⟨rfl, ⟨nd, rfl⟩⟩))
        go_ret
        exact ⟨by first | rfl | (simp [errW_none, errW_some] <;> rfl) | (simp [*, errW_none, errW_some] <;> rfl), by repeat (first | (with_reducible first | exact HB.out | apply below_alloc | apply pw_below_drewN | apply below_drew1 | refine below_set ?_ GE504.out) | exact HB.out)⟩
    · replace c5 := Bool.eq_false_iff.mpr c5
      subst c5
      have H1 : (some 2) = some r := by rw [if_neg (show ¬ (false = true) by decide)] at H; exact H
      clear H
      have H := H1
      clear H1
      obtain rfl := Option.some.inj H
      go_enter Tryz.func51, Tryz.ntmps51
      go_wp2_with (first | ((with_reducible refine gate_dst (N := 1) rfl ?_); refine box_event ?hg (N := 1) ?hd (cs := #[.int .i64 a0_0, .int .i64 a0_1, .int .i64 a0_2, .int .i64 a0_3]) (t := 77) ?hr ?_; (case hd => rfl); (case hg => rfl); (case hr => first | (go_simp; done) | (go_simp; rfl)); intro gb504 hg w16 hbox hb; have n0_ := Aside0.mk (below_step (by repeat (first | (with_reducible first | exact HB.out | apply below_alloc | apply pw_below_drewN | apply below_drew1) | exact HB.out)) hb); have n1_ := Aside0.mk (hbox); have n2_ := Aside0.mk ((by rw [hg]; exact (below_size (by repeat (first | (with_reducible first | exact HB.out | apply below_alloc | apply pw_below_drewN | apply below_drew1) | exact HB.out))) : w.heap.size ≤ gb504)); have n3_ := Aside0.mk ((by rw [hg]; exact (below_size (by repeat (first | (with_reducible first | exact HB.out | apply below_alloc | apply pw_below_drewN | apply below_drew1) | exact HB.out))) : w.heap.size ≤ gb504)); clear HB; have HB := n0_; have BK504 := n1_; have GW504 := n2_; have GE504 := n3_; clear n0_ n1_ n2_ n3_; clear hb hbox hg; have hcz17_0 : w16.cell? ⟨gb504, 0, none⟩ = some (.int .i64 a0_0) := (blk_cell BK504.out 0).trans rfl; have hcz17_1 : w16.cell? ⟨gb504, 1, none⟩ = some (.int .i64 a0_1) := (blk_cell BK504.out 1).trans rfl; have hcz17_2 : w16.cell? ⟨gb504, 2, none⟩ = some (.int .i64 a0_2) := (blk_cell BK504.out 2).trans rfl; have hcz17_3 : w16.cell? ⟨gb504, 3, none⟩ = some (.int .i64 a0_3) := (blk_cell BK504.out 3).trans rfl; have hfz17_0 := blk_frozen BK504.out 0; have hfz17_1 := blk_frozen BK504.out 1; have hfz17_2 := blk_frozen BK504.out 2; have hfz17_3 := blk_frozen BK504.out 3) | ((with_reducible refine gate_callee (f := 68) rfl ?_); refine goesL_ (some 5) rfl rfl Tryz.func68 (by kernel_rfl) rfl #[.int .i64 a0_0, .int .i64 0, .int .i64 100000] rfl (by (try simp only [List.map_toArray, List.map_cons, List.map_nil]); first | done | rfl | (simp only [List.length_drop, List.length_take]; rfl)) ?_; (with_reducible refine (guidevanebase_Within.calls a0_0 0 100000 true _ A2.out).mono ?_); rintro e w' ⟨rfl, ⟨nd, rfl⟩⟩; refine ⟨_, rfl, ?_⟩) | (go_at_call 68; (with_reducible refine (guidevanebase_Within.calls a0_1 0 1000 false _ A4.out).mono ?_); rintro e w' ⟨rfl, ⟨nd, rfl⟩⟩))
      go_ret
      exact ⟨by first | rfl | (simp [errW_none, errW_some] <;> rfl) | (simp [*, errW_none, errW_some] <;> rfl), by repeat (first | (with_reducible first | exact HB.out | apply below_alloc | apply pw_below_drewN | apply below_drew1 | refine below_set ?_ GE504.out) | exact HB.out)⟩
  · replace c3 := Bool.eq_false_iff.mpr c3
    subst c3
    have H1 : (some 2) = some r := by rw [if_neg (show ¬ (false = true) by decide)] at H; exact H
    clear H
    have H := H1
    clear H1
    obtain rfl := Option.some.inj H
    go_enter Tryz.func51, Tryz.ntmps51
    go_wp2_with (first | ((with_reducible refine gate_dst (N := 1) rfl ?_); refine box_event ?hg (N := 1) ?hd (cs := #[.int .i64 a0_0, .int .i64 a0_1, .int .i64 a0_2, .int .i64 a0_3]) (t := 77) ?hr ?_; (case hd => rfl); (case hg => rfl); (case hr => first | (go_simp; done) | (go_simp; rfl)); intro gb504 hg w18 hbox hb; have n0_ := Aside0.mk (below_step (by repeat (first | (with_reducible first | exact HB.out | apply below_alloc | apply pw_below_drewN | apply below_drew1) | exact HB.out)) hb); have n1_ := Aside0.mk (hbox); have n2_ := Aside0.mk ((by rw [hg]; exact (below_size (by repeat (first | (with_reducible first | exact HB.out | apply below_alloc | apply pw_below_drewN | apply below_drew1) | exact HB.out))) : w.heap.size ≤ gb504)); have n3_ := Aside0.mk ((by rw [hg]; exact (below_size (by repeat (first | (with_reducible first | exact HB.out | apply below_alloc | apply pw_below_drewN | apply below_drew1) | exact HB.out))) : w.heap.size ≤ gb504)); clear HB; have HB := n0_; have BK504 := n1_; have GW504 := n2_; have GE504 := n3_; clear n0_ n1_ n2_ n3_; clear hb hbox hg; have hcz19_0 : w18.cell? ⟨gb504, 0, none⟩ = some (.int .i64 a0_0) := (blk_cell BK504.out 0).trans rfl; have hcz19_1 : w18.cell? ⟨gb504, 1, none⟩ = some (.int .i64 a0_1) := (blk_cell BK504.out 1).trans rfl; have hcz19_2 : w18.cell? ⟨gb504, 2, none⟩ = some (.int .i64 a0_2) := (blk_cell BK504.out 2).trans rfl; have hcz19_3 : w18.cell? ⟨gb504, 3, none⟩ = some (.int .i64 a0_3) := (blk_cell BK504.out 3).trans rfl; have hfz19_0 := blk_frozen BK504.out 0; have hfz19_1 := blk_frozen BK504.out 1; have hfz19_2 := blk_frozen BK504.out 2; have hfz19_3 := blk_frozen BK504.out 3) | ((with_reducible refine gate_callee (f := 68) rfl ?_); refine goesL_ (some 5) rfl rfl Tryz.func68 (by kernel_rfl) rfl #[.int .i64 a0_0, .int .i64 0, .int .i64 100000] rfl (by (try simp only [List.map_toArray, List.map_cons, List.map_nil]); first | done | rfl | (simp only [List.length_drop, List.length_take]; rfl)) ?_; (with_reducible refine (guidevanebase_Within.calls a0_0 0 100000 false _ A2.out).mono ?_); rintro e w' ⟨rfl, ⟨nd, rfl⟩⟩; refine ⟨_, rfl, ?_⟩))
    go_ret
    exact ⟨by first | rfl | (simp [errW_none, errW_some] <;> rfl) | (simp [*, errW_none, errW_some] <;> rfl), by repeat (first | (with_reducible first | exact HB.out | apply below_alloc | apply pw_below_drewN | apply below_drew1 | refine below_set ?_ GE504.out) | exact HB.out)⟩
def guidevaneref06_SpeedErr.f (a0 : Int) : Option (Int) := (guidevanebase_Within.f a0 (-100000) 100000).bind fun t509 => (if t509 = true then (some 0) else (some 2))
set_option maxHeartbeats 8000000 in
set_option maxRecDepth 100000 in
theorem guidevaneref06_SpeedErr.calls (a0 : Int) (r : Int) (w : World) (h : guidevaneref06_SpeedErr.f a0 = some r) :
    Calls Tryz.prog 54 #[.int .i64 a0] w fun e w' => e = .returned (.int .i64 r) ∧ Drawn0 w w' := by
  have H : ((guidevanebase_Within.f a0 (-100000) 100000).bind fun t509 => (if t509 = true then (some 0) else (some 2))) = some r := h
  clear h
  replace H := Option.bind_eq_some_iff.mp H
  obtain ⟨t509, A20, H⟩ := H
  replace H : (if t509 = true then (some 0) else (some 2)) = some r := H
  have A2 := Aside0.mk A20
  clear A20
  by_cases c3 : t509 = true
  · subst c3
    have H1 : (some 0) = some r := by rw [if_pos rfl] at H; exact H
    clear H
    have H := H1
    clear H1
    obtain rfl := Option.some.inj H
    go_enter Tryz.func54, Tryz.ntmps54
    go_wp2_with (first | ((with_reducible refine gate_callee (f := 68) rfl ?_); refine goesL_ (some 4) rfl rfl Tryz.func68 (by kernel_rfl) rfl #[.int .i64 a0, .int .i64 (-100000), .int .i64 100000] rfl (by (try simp only [List.map_toArray, List.map_cons, List.map_nil]); first | done | rfl | (simp only [List.length_drop, List.length_take]; rfl)) ?_; (with_reducible refine (guidevanebase_Within.calls a0 (-100000) 100000 true _ A2.out).mono ?_); rintro e w' ⟨rfl, ⟨nd, rfl⟩⟩; refine ⟨_, rfl, ?_⟩))
    go_ret
    exact ⟨by first | rfl | (simp; done) | (simp [*]; done), by repeat (first | exact Drawn0.refl _ | apply Drawn0.step)⟩
  · replace c3 := Bool.eq_false_iff.mpr c3
    subst c3
    have H1 : (some 2) = some r := by rw [if_neg (show ¬ (false = true) by decide)] at H; exact H
    clear H
    have H := H1
    clear H1
    obtain rfl := Option.some.inj H
    go_enter Tryz.func54, Tryz.ntmps54
    go_wp2_with (first | ((with_reducible refine gate_callee (f := 68) rfl ?_); refine goesL_ (some 4) rfl rfl Tryz.func68 (by kernel_rfl) rfl #[.int .i64 a0, .int .i64 (-100000), .int .i64 100000] rfl (by (try simp only [List.map_toArray, List.map_cons, List.map_nil]); first | done | rfl | (simp only [List.length_drop, List.length_take]; rfl)) ?_; (with_reducible refine (guidevanebase_Within.calls a0 (-100000) 100000 false _ A2.out).mono ?_); rintro e w' ⟨rfl, ⟨nd, rfl⟩⟩; refine ⟨_, rfl, ?_⟩))
    go_ret
    exact ⟨by first | rfl | (simp; done) | (simp [*]; done), by repeat (first | exact Drawn0.refl _ | apply Drawn0.step)⟩
def guidevaneref06_Wanted.f (a0_0 : Int) (a0_1 : Int) (a0_2 : Int) (a0_3 : Int) (a1 : Int) : Option (Int) := if a1 > a0_0 then (if a0_2 = 0 then (none) else (some (wrap64 (a0_3 - (wrap64 (Int.tdiv (wrap64 (a0_1 * (wrap64 (a1 - a0_0)))) a0_2)))))) else (if a1 < (wrap64 (-a0_0)) then (if a0_2 = 0 then (none) else (some (wrap64 (a0_3 + (wrap64 (Int.tdiv (wrap64 (a0_1 * (wrap64 ((wrap64 (-a1)) - a0_0)))) a0_2)))))) else (some a0_3))
set_option maxHeartbeats 8000000 in
set_option maxRecDepth 100000 in
theorem guidevaneref06_Wanted.calls (a0_0 : Int) (a0_1 : Int) (a0_2 : Int) (a0_3 : Int) (a1 : Int) (r : Int) (w : World) (h : guidevaneref06_Wanted.f a0_0 a0_1 a0_2 a0_3 a1 = some r) :
    Calls Tryz.prog 55 #[.agg #[.int .i64 a0_0, .int .i64 a0_1, .int .i64 a0_2, .int .i64 a0_3], .int .i64 a1] w fun e w' => e = .returned (.int .i64 r) ∧ Below w.heap.size w w' := by
  have hu77 := Tryz.underlying77
  have HB := Aside0.mk (Below.refl w.heap.size w)
  have H : (if a1 > a0_0 then (if a0_2 = 0 then (none) else (some (wrap64 (a0_3 - (wrap64 (Int.tdiv (wrap64 (a0_1 * (wrap64 (a1 - a0_0)))) a0_2)))))) else (if a1 < (wrap64 (-a0_0)) then (if a0_2 = 0 then (none) else (some (wrap64 (a0_3 + (wrap64 (Int.tdiv (wrap64 (a0_1 * (wrap64 ((wrap64 (-a1)) - a0_0)))) a0_2)))))) else (some a0_3))) = some r := h
  clear h
  by_cases c3 : a1 > a0_0
  · rw [if_pos c3] at H
    have c3b0 : decide (a0_0 < a1) = true := decide_eq_true c3
    clear c3
    by_cases c4 : a0_2 = 0
    · rw [if_pos c4] at H
      exact absurd H (by simp)
    · rw [if_neg c4] at H
      have c4b0 : (a0_2 == 0) = false := beq_eq_false_iff_ne.mpr c4
      have c4b1 : (a0_2 != 0) = true := bne_iff_ne.mpr c4
      obtain rfl := Option.some.inj H
      go_enter Tryz.func55, Tryz.ntmps55
      go_wp2_with (first | ((with_reducible refine gate_dst (N := 2) rfl ?_); refine box_event ?hg (N := 2) ?hd (cs := #[.int .i64 a0_0, .int .i64 a0_1, .int .i64 a0_2, .int .i64 a0_3]) (t := 77) ?hr ?_; (case hd => rfl); (case hg => rfl); (case hr => first | (go_simp; done) | (go_simp; rfl)); intro gb510 hg w5 hbox hb; have n0_ := Aside0.mk (below_step (by repeat (first | (with_reducible first | exact HB.out | apply below_alloc | apply pw_below_drewN | apply below_drew1) | exact HB.out)) hb); have n1_ := Aside0.mk (hbox); have n2_ := Aside0.mk ((by rw [hg]; exact (below_size (by repeat (first | (with_reducible first | exact HB.out | apply below_alloc | apply pw_below_drewN | apply below_drew1) | exact HB.out))) : w.heap.size ≤ gb510)); have n3_ := Aside0.mk ((by rw [hg]; exact (below_size (by repeat (first | (with_reducible first | exact HB.out | apply below_alloc | apply pw_below_drewN | apply below_drew1) | exact HB.out))) : w.heap.size ≤ gb510)); clear HB; have HB := n0_; have BK510 := n1_; have GW510 := n2_; have GE510 := n3_; clear n0_ n1_ n2_ n3_; clear hb hbox hg; have hcz6_0 : w5.cell? ⟨gb510, 0, none⟩ = some (.int .i64 a0_0) := (blk_cell BK510.out 0).trans rfl; have hcz6_1 : w5.cell? ⟨gb510, 1, none⟩ = some (.int .i64 a0_1) := (blk_cell BK510.out 1).trans rfl; have hcz6_2 : w5.cell? ⟨gb510, 2, none⟩ = some (.int .i64 a0_2) := (blk_cell BK510.out 2).trans rfl; have hcz6_3 : w5.cell? ⟨gb510, 3, none⟩ = some (.int .i64 a0_3) := (blk_cell BK510.out 3).trans rfl; have hfz6_0 := blk_frozen BK510.out 0; have hfz6_1 := blk_frozen BK510.out 1; have hfz6_2 := blk_frozen BK510.out 2; have hfz6_3 := blk_frozen BK510.out 3))
      repeat (go_quiet (first | ((with_reducible refine gate_dst (N := 2) rfl ?_); refine box_event ?hg (N := 2) ?hd (cs := #[.int .i64 a0_0, .int .i64 a0_1, .int .i64 a0_2, .int .i64 a0_3]) (t := 77) ?hr ?_; (case hd => rfl); (case hg => rfl); (case hr => first | (go_simp; done) | (go_simp; rfl)); intro gb510 hg w5 hbox hb; have n0_ := Aside0.mk (below_step (by repeat (first | (with_reducible first | exact HB.out | apply below_alloc | apply pw_below_drewN | apply below_drew1) | exact HB.out)) hb); have n1_ := Aside0.mk (hbox); have n2_ := Aside0.mk ((by rw [hg]; exact (below_size (by repeat (first | (with_reducible first | exact HB.out | apply below_alloc | apply pw_below_drewN | apply below_drew1) | exact HB.out))) : w.heap.size ≤ gb510)); have n3_ := Aside0.mk ((by rw [hg]; exact (below_size (by repeat (first | (with_reducible first | exact HB.out | apply below_alloc | apply pw_below_drewN | apply below_drew1) | exact HB.out))) : w.heap.size ≤ gb510)); clear HB; have HB := n0_; have BK510 := n1_; have GW510 := n2_; have GE510 := n3_; clear n0_ n1_ n2_ n3_; clear hb hbox hg; have hcz6_0 : w5.cell? ⟨gb510, 0, none⟩ = some (.int .i64 a0_0) := (blk_cell BK510.out 0).trans rfl; have hcz6_1 : w5.cell? ⟨gb510, 1, none⟩ = some (.int .i64 a0_1) := (blk_cell BK510.out 1).trans rfl; have hcz6_2 : w5.cell? ⟨gb510, 2, none⟩ = some (.int .i64 a0_2) := (blk_cell BK510.out 2).trans rfl; have hcz6_3 : w5.cell? ⟨gb510, 3, none⟩ = some (.int .i64 a0_3) := (blk_cell BK510.out 3).trans rfl; have hfz6_0 := blk_frozen BK510.out 0; have hfz6_1 := blk_frozen BK510.out 1; have hfz6_2 := blk_frozen BK510.out 2; have hfz6_3 := blk_frozen BK510.out 3)); try go_wp2_with (first | ((with_reducible refine gate_dst (N := 2) rfl ?_); refine box_event ?hg (N := 2) ?hd (cs := #[.int .i64 a0_0, .int .i64 a0_1, .int .i64 a0_2, .int .i64 a0_3]) (t := 77) ?hr ?_; (case hd => rfl); (case hg => rfl); (case hr => first | (go_simp; done) | (go_simp; rfl)); intro gb510 hg w5 hbox hb; have n0_ := Aside0.mk (below_step (by repeat (first | (with_reducible first | exact HB.out | apply below_alloc | apply pw_below_drewN | apply below_drew1) | exact HB.out)) hb); have n1_ := Aside0.mk (hbox); have n2_ := Aside0.mk ((by rw [hg]; exact (below_size (by repeat (first | (with_reducible first | exact HB.out | apply below_alloc | apply pw_below_drewN | apply below_drew1) | exact HB.out))) : w.heap.size ≤ gb510)); have n3_ := Aside0.mk ((by rw [hg]; exact (below_size (by repeat (first | (with_reducible first | exact HB.out | apply below_alloc | apply pw_below_drewN | apply below_drew1) | exact HB.out))) : w.heap.size ≤ gb510)); clear HB; have HB := n0_; have BK510 := n1_; have GW510 := n2_; have GE510 := n3_; clear n0_ n1_ n2_ n3_; clear hb hbox hg; have hcz6_0 : w5.cell? ⟨gb510, 0, none⟩ = some (.int .i64 a0_0) := (blk_cell BK510.out 0).trans rfl; have hcz6_1 : w5.cell? ⟨gb510, 1, none⟩ = some (.int .i64 a0_1) := (blk_cell BK510.out 1).trans rfl; have hcz6_2 : w5.cell? ⟨gb510, 2, none⟩ = some (.int .i64 a0_2) := (blk_cell BK510.out 2).trans rfl; have hcz6_3 : w5.cell? ⟨gb510, 3, none⟩ = some (.int .i64 a0_3) := (blk_cell BK510.out 3).trans rfl; have hfz6_0 := blk_frozen BK510.out 0; have hfz6_1 := blk_frozen BK510.out 1; have hfz6_2 := blk_frozen BK510.out 2; have hfz6_3 := blk_frozen BK510.out 3)))
      go_ret
      exact ⟨by first | rfl | (simp [errW_none, errW_some] <;> rfl) | (simp [*, errW_none, errW_some] <;> rfl), by repeat (first | (with_reducible first | exact HB.out | apply below_alloc | apply pw_below_drewN | apply below_drew1 | refine below_set ?_ GE510.out) | exact HB.out)⟩
  · rw [if_neg c3] at H
    have c3b0 : decide (a0_0 < a1) = false := decide_eq_false c3
    clear c3
    by_cases c7 : a1 < (wrap64 (-a0_0))
    · rw [if_pos c7] at H
      have c7b0 : decide (a1 < (wrap64 (-a0_0))) = true := decide_eq_true c7
      clear c7
      by_cases c8 : a0_2 = 0
      · rw [if_pos c8] at H
        exact absurd H (by simp)
      · rw [if_neg c8] at H
        have c8b0 : (a0_2 == 0) = false := beq_eq_false_iff_ne.mpr c8
        have c8b1 : (a0_2 != 0) = true := bne_iff_ne.mpr c8
        obtain rfl := Option.some.inj H
        go_enter Tryz.func55, Tryz.ntmps55
        go_wp2_with (first | ((with_reducible refine gate_dst (N := 2) rfl ?_); refine box_event ?hg (N := 2) ?hd (cs := #[.int .i64 a0_0, .int .i64 a0_1, .int .i64 a0_2, .int .i64 a0_3]) (t := 77) ?hr ?_; (case hd => rfl); (case hg => rfl); (case hr => first | (go_simp; done) | (go_simp; rfl)); intro gb510 hg w9 hbox hb; have n0_ := Aside0.mk (below_step (by repeat (first | (with_reducible first | exact HB.out | apply below_alloc | apply pw_below_drewN | apply below_drew1) | exact HB.out)) hb); have n1_ := Aside0.mk (hbox); have n2_ := Aside0.mk ((by rw [hg]; exact (below_size (by repeat (first | (with_reducible first | exact HB.out | apply below_alloc | apply pw_below_drewN | apply below_drew1) | exact HB.out))) : w.heap.size ≤ gb510)); have n3_ := Aside0.mk ((by rw [hg]; exact (below_size (by repeat (first | (with_reducible first | exact HB.out | apply below_alloc | apply pw_below_drewN | apply below_drew1) | exact HB.out))) : w.heap.size ≤ gb510)); clear HB; have HB := n0_; have BK510 := n1_; have GW510 := n2_; have GE510 := n3_; clear n0_ n1_ n2_ n3_; clear hb hbox hg; have hcz10_0 : w9.cell? ⟨gb510, 0, none⟩ = some (.int .i64 a0_0) := (blk_cell BK510.out 0).trans rfl; have hcz10_1 : w9.cell? ⟨gb510, 1, none⟩ = some (.int .i64 a0_1) := (blk_cell BK510.out 1).trans rfl; have hcz10_2 : w9.cell? ⟨gb510, 2, none⟩ = some (.int .i64 a0_2) := (blk_cell BK510.out 2).trans rfl; have hcz10_3 : w9.cell? ⟨gb510, 3, none⟩ = some (.int .i64 a0_3) := (blk_cell BK510.out 3).trans rfl; have hfz10_0 := blk_frozen BK510.out 0; have hfz10_1 := blk_frozen BK510.out 1; have hfz10_2 := blk_frozen BK510.out 2; have hfz10_3 := blk_frozen BK510.out 3))
        repeat (go_quiet (first | ((with_reducible refine gate_dst (N := 2) rfl ?_); refine box_event ?hg (N := 2) ?hd (cs := #[.int .i64 a0_0, .int .i64 a0_1, .int .i64 a0_2, .int .i64 a0_3]) (t := 77) ?hr ?_; (case hd => rfl); (case hg => rfl); (case hr => first | (go_simp; done) | (go_simp; rfl)); intro gb510 hg w9 hbox hb; have n0_ := Aside0.mk (below_step (by repeat (first | (with_reducible first | exact HB.out | apply below_alloc | apply pw_below_drewN | apply below_drew1) | exact HB.out)) hb); have n1_ := Aside0.mk (hbox); have n2_ := Aside0.mk ((by rw [hg]; exact (below_size (by repeat (first | (with_reducible first | exact HB.out | apply below_alloc | apply pw_below_drewN | apply below_drew1) | exact HB.out))) : w.heap.size ≤ gb510)); have n3_ := Aside0.mk ((by rw [hg]; exact (below_size (by repeat (first | (with_reducible first | exact HB.out | apply below_alloc | apply pw_below_drewN | apply below_drew1) | exact HB.out))) : w.heap.size ≤ gb510)); clear HB; have HB := n0_; have BK510 := n1_; have GW510 := n2_; have GE510 := n3_; clear n0_ n1_ n2_ n3_; clear hb hbox hg; have hcz10_0 : w9.cell? ⟨gb510, 0, none⟩ = some (.int .i64 a0_0) := (blk_cell BK510.out 0).trans rfl; have hcz10_1 : w9.cell? ⟨gb510, 1, none⟩ = some (.int .i64 a0_1) := (blk_cell BK510.out 1).trans rfl; have hcz10_2 : w9.cell? ⟨gb510, 2, none⟩ = some (.int .i64 a0_2) := (blk_cell BK510.out 2).trans rfl; have hcz10_3 : w9.cell? ⟨gb510, 3, none⟩ = some (.int .i64 a0_3) := (blk_cell BK510.out 3).trans rfl; have hfz10_0 := blk_frozen BK510.out 0; have hfz10_1 := blk_frozen BK510.out 1; have hfz10_2 := blk_frozen BK510.out 2; have hfz10_3 := blk_frozen BK510.out 3)); try go_wp2_with (first | ((with_reducible refine gate_dst (N := 2) rfl ?_); refine box_event ?hg (N := 2) ?hd (cs := #[.int .i64 a0_0, .int .i64 a0_1, .int .i64 a0_2, .int .i64 a0_3]) (t := 77) ?hr ?_; (case hd => rfl); (case hg => rfl); (case hr => first | (go_simp; done) | (go_simp; rfl)); intro gb510 hg w9 hbox hb; have n0_ := Aside0.mk (below_step (by repeat (first | (with_reducible first | exact HB.out | apply below_alloc | apply pw_below_drewN | apply below_drew1) | exact HB.out)) hb); have n1_ := Aside0.mk (hbox); have n2_ := Aside0.mk ((by rw [hg]; exact (below_size (by repeat (first | (with_reducible first | exact HB.out | apply below_alloc | apply pw_below_drewN | apply below_drew1) | exact HB.out))) : w.heap.size ≤ gb510)); have n3_ := Aside0.mk ((by rw [hg]; exact (below_size (by repeat (first | (with_reducible first | exact HB.out | apply below_alloc | apply pw_below_drewN | apply below_drew1) | exact HB.out))) : w.heap.size ≤ gb510)); clear HB; have HB := n0_; have BK510 := n1_; have GW510 := n2_; have GE510 := n3_; clear n0_ n1_ n2_ n3_; clear hb hbox hg; have hcz10_0 : w9.cell? ⟨gb510, 0, none⟩ = some (.int .i64 a0_0) := (blk_cell BK510.out 0).trans rfl; have hcz10_1 : w9.cell? ⟨gb510, 1, none⟩ = some (.int .i64 a0_1) := (blk_cell BK510.out 1).trans rfl; have hcz10_2 : w9.cell? ⟨gb510, 2, none⟩ = some (.int .i64 a0_2) := (blk_cell BK510.out 2).trans rfl; have hcz10_3 : w9.cell? ⟨gb510, 3, none⟩ = some (.int .i64 a0_3) := (blk_cell BK510.out 3).trans rfl; have hfz10_0 := blk_frozen BK510.out 0; have hfz10_1 := blk_frozen BK510.out 1; have hfz10_2 := blk_frozen BK510.out 2; have hfz10_3 := blk_frozen BK510.out 3)))
        go_ret
        exact ⟨by first | rfl | (simp [errW_none, errW_some] <;> rfl) | (simp [*, errW_none, errW_some] <;> rfl), by repeat (first | (with_reducible first | exact HB.out | apply below_alloc | apply pw_below_drewN | apply below_drew1 | refine below_set ?_ GE510.out) | exact HB.out)⟩
    · rw [if_neg c7] at H
      have c7b0 : decide (a1 < (wrap64 (-a0_0))) = false := decide_eq_false c7
      clear c7
      obtain rfl := Option.some.inj H
      go_enter Tryz.func55, Tryz.ntmps55
      go_wp2_with (first | ((with_reducible refine gate_dst (N := 2) rfl ?_); refine box_event ?hg (N := 2) ?hd (cs := #[.int .i64 a0_0, .int .i64 a0_1, .int .i64 a0_2, .int .i64 a0_3]) (t := 77) ?hr ?_; (case hd => rfl); (case hg => rfl); (case hr => first | (go_simp; done) | (go_simp; rfl)); intro gb510 hg w11 hbox hb; have n0_ := Aside0.mk (below_step (by repeat (first | (with_reducible first | exact HB.out | apply below_alloc | apply pw_below_drewN | apply below_drew1) | exact HB.out)) hb); have n1_ := Aside0.mk (hbox); have n2_ := Aside0.mk ((by rw [hg]; exact (below_size (by repeat (first | (with_reducible first | exact HB.out | apply below_alloc | apply pw_below_drewN | apply below_drew1) | exact HB.out))) : w.heap.size ≤ gb510)); have n3_ := Aside0.mk ((by rw [hg]; exact (below_size (by repeat (first | (with_reducible first | exact HB.out | apply below_alloc | apply pw_below_drewN | apply below_drew1) | exact HB.out))) : w.heap.size ≤ gb510)); clear HB; have HB := n0_; have BK510 := n1_; have GW510 := n2_; have GE510 := n3_; clear n0_ n1_ n2_ n3_; clear hb hbox hg; have hcz12_0 : w11.cell? ⟨gb510, 0, none⟩ = some (.int .i64 a0_0) := (blk_cell BK510.out 0).trans rfl; have hcz12_1 : w11.cell? ⟨gb510, 1, none⟩ = some (.int .i64 a0_1) := (blk_cell BK510.out 1).trans rfl; have hcz12_2 : w11.cell? ⟨gb510, 2, none⟩ = some (.int .i64 a0_2) := (blk_cell BK510.out 2).trans rfl; have hcz12_3 : w11.cell? ⟨gb510, 3, none⟩ = some (.int .i64 a0_3) := (blk_cell BK510.out 3).trans rfl; have hfz12_0 := blk_frozen BK510.out 0; have hfz12_1 := blk_frozen BK510.out 1; have hfz12_2 := blk_frozen BK510.out 2; have hfz12_3 := blk_frozen BK510.out 3))
      repeat (go_quiet (first | ((with_reducible refine gate_dst (N := 2) rfl ?_); refine box_event ?hg (N := 2) ?hd (cs := #[.int .i64 a0_0, .int .i64 a0_1, .int .i64 a0_2, .int .i64 a0_3]) (t := 77) ?hr ?_; (case hd => rfl); (case hg => rfl); (case hr => first | (go_simp; done) | (go_simp; rfl)); intro gb510 hg w11 hbox hb; have n0_ := Aside0.mk (below_step (by repeat (first | (with_reducible first | exact HB.out | apply below_alloc | apply pw_below_drewN | apply below_drew1) | exact HB.out)) hb); have n1_ := Aside0.mk (hbox); have n2_ := Aside0.mk ((by rw [hg]; exact (below_size (by repeat (first | (with_reducible first | exact HB.out | apply below_alloc | apply pw_below_drewN | apply below_drew1) | exact HB.out))) : w.heap.size ≤ gb510)); have n3_ := Aside0.mk ((by rw [hg]; exact (below_size (by repeat (first | (with_reducible first | exact HB.out | apply below_alloc | apply pw_below_drewN | apply below_drew1) | exact HB.out))) : w.heap.size ≤ gb510)); clear HB; have HB := n0_; have BK510 := n1_; have GW510 := n2_; have GE510 := n3_; clear n0_ n1_ n2_ n3_; clear hb hbox hg; have hcz12_0 : w11.cell? ⟨gb510, 0, none⟩ = some (.int .i64 a0_0) := (blk_cell BK510.out 0).trans rfl; have hcz12_1 : w11.cell? ⟨gb510, 1, none⟩ = some (.int .i64 a0_1) := (blk_cell BK510.out 1).trans rfl; have hcz12_2 : w11.cell? ⟨gb510, 2, none⟩ = some (.int .i64 a0_2) := (blk_cell BK510.out 2).trans rfl; have hcz12_3 : w11.cell? ⟨gb510, 3, none⟩ = some (.int .i64 a0_3) := (blk_cell BK510.out 3).trans rfl; have hfz12_0 := blk_frozen BK510.out 0; have hfz12_1 := blk_frozen BK510.out 1; have hfz12_2 := blk_frozen BK510.out 2; have hfz12_3 := blk_frozen BK510.out 3)); try go_wp2_with (first | ((with_reducible refine gate_dst (N := 2) rfl ?_); refine box_event ?hg (N := 2) ?hd (cs := #[.int .i64 a0_0, .int .i64 a0_1, .int .i64 a0_2, .int .i64 a0_3]) (t := 77) ?hr ?_; (case hd => rfl); (case hg => rfl); (case hr => first | (go_simp; done) | (go_simp; rfl)); intro gb510 hg w11 hbox hb; have n0_ := Aside0.mk (below_step (by repeat (first | (with_reducible first | exact HB.out | apply below_alloc | apply pw_below_drewN | apply below_drew1) | exact HB.out)) hb); have n1_ := Aside0.mk (hbox); have n2_ := Aside0.mk ((by rw [hg]; exact (below_size (by repeat (first | (with_reducible first | exact HB.out | apply below_alloc | apply pw_below_drewN | apply below_drew1) | exact HB.out))) : w.heap.size ≤ gb510)); have n3_ := Aside0.mk ((by rw [hg]; exact (below_size (by repeat (first | (with_reducible first | exact HB.out | apply below_alloc | apply pw_below_drewN | apply below_drew1) | exact HB.out))) : w.heap.size ≤ gb510)); clear HB; have HB := n0_; have BK510 := n1_; have GW510 := n2_; have GE510 := n3_; clear n0_ n1_ n2_ n3_; clear hb hbox hg; have hcz12_0 : w11.cell? ⟨gb510, 0, none⟩ = some (.int .i64 a0_0) := (blk_cell BK510.out 0).trans rfl; have hcz12_1 : w11.cell? ⟨gb510, 1, none⟩ = some (.int .i64 a0_1) := (blk_cell BK510.out 1).trans rfl; have hcz12_2 : w11.cell? ⟨gb510, 2, none⟩ = some (.int .i64 a0_2) := (blk_cell BK510.out 2).trans rfl; have hcz12_3 : w11.cell? ⟨gb510, 3, none⟩ = some (.int .i64 a0_3) := (blk_cell BK510.out 3).trans rfl; have hfz12_0 := blk_frozen BK510.out 0; have hfz12_1 := blk_frozen BK510.out 1; have hfz12_2 := blk_frozen BK510.out 2; have hfz12_3 := blk_frozen BK510.out 3)))
      go_ret
      exact ⟨by first | rfl | (simp [errW_none, errW_some] <;> rfl) | (simp [*, errW_none, errW_some] <;> rfl), by repeat (first | (with_reducible first | exact HB.out | apply below_alloc | apply pw_below_drewN | apply below_drew1 | refine below_set ?_ GE510.out) | exact HB.out)⟩
def guidevaneref06_Step.f (a0_0 : Int) (a0_1 : Int) (a0_2 : Int) (a0_3 : Int) (a1 : Int) : Option (Int × Int × Int × Int) := some (mx (wrap64 (a0_0 - a0_3)) (mn (wrap64 (a0_0 + a0_3)) (mx a0_1 (mn a0_2 a1))), a0_1, a0_2, a0_3)
set_option maxHeartbeats 8000000 in
set_option maxRecDepth 100000 in
theorem guidevaneref06_Step.calls (a0_0 : Int) (a0_1 : Int) (a0_2 : Int) (a0_3 : Int) (a1 : Int) (r1 : Int) (r2 : Int) (r3 : Int) (r4 : Int) (w : World) (h : guidevaneref06_Step.f a0_0 a0_1 a0_2 a0_3 a1 = some (r1, r2, r3, r4)) :
    Calls Tryz.prog 56 #[.agg #[.int .i64 a0_0, .int .i64 a0_1, .int .i64 a0_2, .int .i64 a0_3], .int .i64 a1] w fun e w' => e = .returned (.agg #[.int .i64 r1, .int .i64 r2, .int .i64 r3, .int .i64 r4]) ∧ Below w.heap.size w w' := by
  have hu75 := Tryz.underlying75
  have HB := Aside0.mk (Below.refl w.heap.size w)
  have H : (some (mx (wrap64 (a0_0 - a0_3)) (mn (wrap64 (a0_0 + a0_3)) (mx a0_1 (mn a0_2 a1))), a0_1, a0_2, a0_3)) = some (r1, r2, r3, r4) := h
  clear h
  obtain ⟨ji3, hji3⟩ : ∃ j_ : Int, (mn a0_2 a1) = j_ := ⟨_, rfl⟩
  replace H : (some (mx (wrap64 (a0_0 - a0_3)) (mn (wrap64 (a0_0 + a0_3)) (mx a0_1 (ji3))), a0_1, a0_2, a0_3)) = some (r1, r2, r3, r4) := by first | (rw [hji3] at H; exact H) | (simp only [hji3] at H ⊢; exact H)
  have hji3_ : (if a1 < a0_2 then a1 else a0_2) = ji3 := hji3
  obtain ⟨ji4, hji4⟩ : ∃ j_ : Int, (mx a0_1 (ji3)) = j_ := ⟨_, rfl⟩
  replace H : (some (mx (wrap64 (a0_0 - a0_3)) (mn (wrap64 (a0_0 + a0_3)) (ji4)), a0_1, a0_2, a0_3)) = some (r1, r2, r3, r4) := by first | (rw [hji4] at H; exact H) | (simp only [hji4] at H ⊢; exact H)
  have hji4_ : (if a0_1 < (ji3) then (ji3) else a0_1) = ji4 := hji4
  obtain ⟨ji5, hji5⟩ : ∃ j_ : Int, (mn (wrap64 (a0_0 + a0_3)) (ji4)) = j_ := ⟨_, rfl⟩
  replace H : (some (mx (wrap64 (a0_0 - a0_3)) (ji5), a0_1, a0_2, a0_3)) = some (r1, r2, r3, r4) := by first | (rw [hji5] at H; exact H) | (simp only [hji5] at H ⊢; exact H)
  have hji5_ : (if (ji4) < (wrap64 (a0_0 + a0_3)) then (ji4) else (wrap64 (a0_0 + a0_3))) = ji5 := hji5
  obtain ⟨ji6, hji6⟩ : ∃ j_ : Int, (mx (wrap64 (a0_0 - a0_3)) (ji5)) = j_ := ⟨_, rfl⟩
  replace H : (some (ji6, a0_1, a0_2, a0_3)) = some (r1, r2, r3, r4) := by first | (rw [hji6] at H; exact H) | (simp only [hji6] at H ⊢; exact H)
  have hji6_ : (if (wrap64 (a0_0 - a0_3)) < (ji5) then (ji5) else (wrap64 (a0_0 - a0_3))) = ji6 := hji6
  simp only [Option.some.injEq, Prod.mk.injEq] at H
  obtain ⟨rfl, rfl, rfl, rfl⟩ := H
  go_enter Tryz.func56, Tryz.ntmps56
  go_wp2_with (first | ((with_reducible refine gate_dst (N := 2) rfl ?_); refine box_event ?hg (N := 2) ?hd (cs := #[.int .i64 a0_0, .int .i64 a0_1, .int .i64 a0_2, .int .i64 a0_3]) (t := 75) ?hr ?_; (case hd => rfl); (case hg => rfl); (case hr => first | (go_simp; done) | (go_simp; rfl)); intro gb511 hg w7 hbox hb; have n0_ := Aside0.mk (below_step (by repeat (first | (with_reducible first | exact HB.out | apply below_alloc | apply pw_below_drewN | apply below_drew1) | exact HB.out)) hb); have n1_ := Aside0.mk (hbox); have n2_ := Aside0.mk ((by rw [hg]; exact (below_size (by repeat (first | (with_reducible first | exact HB.out | apply below_alloc | apply pw_below_drewN | apply below_drew1) | exact HB.out))) : w.heap.size ≤ gb511)); have n3_ := Aside0.mk ((by rw [hg]; exact (below_size (by repeat (first | (with_reducible first | exact HB.out | apply below_alloc | apply pw_below_drewN | apply below_drew1) | exact HB.out))) : w.heap.size ≤ gb511)); clear HB; have HB := n0_; have BK511 := n1_; have GW511 := n2_; have GE511 := n3_; clear n0_ n1_ n2_ n3_; clear hb hbox hg) | ((with_reducible refine gate_dst (N := 4) rfl ?_); refine box_event ?hg (N := 4) ?hd (cs := #[.int .i64 0, .int .i64 0, .int .i64 0, .int .i64 0]) (t := 75) ?hr ?_; (case hd => rfl); (case hg => rfl); (case hr => first | (go_simp; done) | (go_simp; rfl)); intro gb512 hg w8 hbox hb; have n0_ := Aside0.mk (blk_below (g := gb511) (o := .cells #[.int .i64 a0_0, .int .i64 a0_1, .int .i64 a0_2, .int .i64 a0_3] 75 (0, 0)) (by (with_reducible repeat (first | refine blk_drewN ?_ _ | refine blk_drew ?_ | refine blk_alloc ?_ _)); exact BK511.out) hb); have n1_ := Aside0.mk (below_step (by repeat (first | (with_reducible first | exact HB.out | apply below_alloc | apply pw_below_drewN | apply below_drew1 | refine below_set ?_ GE511.out) | exact HB.out)) hb); have n2_ := Aside0.mk (hbox); have n3_ := Aside0.mk ((by rw [hg]; exact (below_size (by repeat (first | (with_reducible first | exact HB.out | apply below_alloc | apply pw_below_drewN | apply below_drew1 | refine below_set ?_ GE511.out) | exact HB.out))) : w.heap.size ≤ gb512)); have n4_ := Aside0.mk ((by rw [hg]; exact (below_size (by repeat (first | (with_reducible first | exact HB.out | apply below_alloc | apply pw_below_drewN | apply below_drew1 | refine below_set ?_ GE511.out) | exact HB.out))) : w.heap.size ≤ gb512)); have n5_ := Aside0.mk ((by rw [hg]; exact Nat.ne_of_lt (blk_lt (g := gb511) (o := .cells #[.int .i64 a0_0, .int .i64 a0_1, .int .i64 a0_2, .int .i64 a0_3] 75 (0, 0)) (by (with_reducible repeat (first | refine blk_drewN ?_ _ | refine blk_drew ?_ | refine blk_alloc ?_ _)); exact BK511.out)) : gb511 ≠ gb512)); have n6_ := Aside0.mk ((by rw [hg]; exact Nat.ne_of_gt (blk_lt (g := gb511) (o := .cells #[.int .i64 a0_0, .int .i64 a0_1, .int .i64 a0_2, .int .i64 a0_3] 75 (0, 0)) (by (with_reducible repeat (first | refine blk_drewN ?_ _ | refine blk_drew ?_ | refine blk_alloc ?_ _)); exact BK511.out)) : gb512 ≠ gb511)); clear BK511; clear HB; have BK511 := n0_; have HB := n1_; have BK512 := n2_; have GW512 := n3_; have GE512 := n4_; have NB511_512 := n5_; have NB512_511 := n6_; clear n0_ n1_ n2_ n3_ n4_ n5_ n6_; clear hb hbox hg; have hnb9 := NB511_512.out; have hnc9 := NB512_511.out; have hcz10_0 : w8.cell? ⟨gb511, 0, none⟩ = some (.int .i64 a0_0) := (blk_cell BK511.out 0).trans rfl; have hcz10_1 : w8.cell? ⟨gb511, 1, none⟩ = some (.int .i64 a0_1) := (blk_cell BK511.out 1).trans rfl; have hcz10_2 : w8.cell? ⟨gb511, 2, none⟩ = some (.int .i64 a0_2) := (blk_cell BK511.out 2).trans rfl; have hcz10_3 : w8.cell? ⟨gb511, 3, none⟩ = some (.int .i64 a0_3) := (blk_cell BK511.out 3).trans rfl; have hfz10_0 := blk_frozen BK511.out 0; have hfz10_1 := blk_frozen BK511.out 1; have hfz10_2 := blk_frozen BK511.out 2; have hfz10_3 := blk_frozen BK511.out 3; have hcz11_0 : w8.cell? ⟨gb512, 0, none⟩ = some (.int .i64 0) := (blk_cell BK512.out 0).trans rfl; have hcz11_1 : w8.cell? ⟨gb512, 1, none⟩ = some (.int .i64 0) := (blk_cell BK512.out 1).trans rfl; have hcz11_2 : w8.cell? ⟨gb512, 2, none⟩ = some (.int .i64 0) := (blk_cell BK512.out 2).trans rfl; have hcz11_3 : w8.cell? ⟨gb512, 3, none⟩ = some (.int .i64 0) := (blk_cell BK512.out 3).trans rfl; have hfz11_0 := blk_frozen BK512.out 0; have hfz11_1 := blk_frozen BK512.out 1; have hfz11_2 := blk_frozen BK512.out 2; have hfz11_3 := blk_frozen BK512.out 3))
  refine bodyPost_ret (results_cell_row rfl _ _ gb512 75 #[.int .i64 ji6, .int .i64 a0_1, .int .i64 a0_2, .int .i64 a0_3] (0, 0) _ rfl (by (with_reducible repeat (first | refine blk_drewN ?_ _ | refine blk_drew ?_ | refine blk_alloc ?_ _)); refine blk_put (cs := #[.int .i64 ji6, .int .i64 a0_1, .int .i64 a0_2, .int .i64 0]) ?_ 3 _ rfl; (with_reducible repeat (first | refine blk_drewN ?_ _ | refine blk_drew ?_ | refine blk_alloc ?_ _)); refine blk_put (cs := #[.int .i64 ji6, .int .i64 a0_1, .int .i64 0, .int .i64 0]) ?_ 2 _ rfl; (with_reducible repeat (first | refine blk_drewN ?_ _ | refine blk_drew ?_ | refine blk_alloc ?_ _)); refine blk_put (cs := #[.int .i64 ji6, .int .i64 0, .int .i64 0, .int .i64 0]) ?_ 1 _ rfl; (with_reducible repeat (first | refine blk_drewN ?_ _ | refine blk_drew ?_ | refine blk_alloc ?_ _)); refine blk_put (cs := #[.int .i64 0, .int .i64 0, .int .i64 0, .int .i64 0]) ?_ 0 _ rfl; (with_reducible repeat (first | refine blk_drewN ?_ _ | refine blk_drew ?_ | refine blk_alloc ?_ _)); refine blk_far ?_ NB512_511.out _; (with_reducible repeat (first | refine blk_drewN ?_ _ | refine blk_drew ?_ | refine blk_alloc ?_ _)); exact BK512.out) Tryz.underlying75 rfl (by kernel_rfl)) rfl ?_
  exact ⟨by first | rfl | (simp [errW_none, errW_some] <;> rfl) | (simp only [← hji3, ← hji4, ← hji5, ← hji6]; first | rfl | (simp [errW_none, errW_some] <;> rfl)) | (simp [*, errW_none, errW_some] <;> rfl), by repeat (first | (with_reducible first | exact HB.out | apply below_alloc | apply pw_below_drewN | apply below_drew1 | refine below_set ?_ GE511.out | refine below_set ?_ GE512.out) | exact HB.out)⟩
def guidevaneref06_DeviationsErr.l0 : Nat → List Int → Int → Option (Int)
  | 0, _, _ => none
  | k + 1, x0, x3 => if x3 < (x0.length : Int) then (if 0 ≤ x3 then ((guidevaneref06_SpeedErr.f (rd x0 x3)).bind fun t544 => (if t544 = 0 then (guidevaneref06_DeviationsErr.l0 k x0 (wrap64 (x3 + 1))) else (some t544))) else (none)) else (some 0)
def guidevaneref06_DeviationsErr.f (k : Nat) (l0 : List Int) : Option (Int) := if (l0.length : Int) > 200 then (some 8) else (guidevaneref06_DeviationsErr.l0 k l0 0)
set_option maxHeartbeats 8000000 in
set_option maxRecDepth 100000 in
theorem guidevaneref06_DeviationsErr.calls (k : Nat) (A0 : Option Addr) (c0 : Nat) (l0 : List Int) (r : Int) (w : World) (hr0 : Kd.C (Kd.int .i64) w A0 l0.length l0) (hc0 : l0.length ≤ c0) (h : guidevaneref06_DeviationsErr.f k l0 = some r) :
    Calls Tryz.prog 59 #[.slice A0 l0.length c0] w fun e w' => e = .returned (.int .i64 r) ∧ Drawn0 w w' := by
  have HR0 := Aside0.mk hr0
  have HC0 := Aside0.mk hc0
  clear hr0 hc0
  have H : (if (l0.length : Int) > 200 then (some 8) else (guidevaneref06_DeviationsErr.l0 k l0 0)) = some r := h
  clear h
  by_cases c2 : (l0.length : Int) > 200
  · rw [if_pos c2] at H
    have c2b0 : decide (200 < (l0.length : Int)) = true := decide_eq_true c2
    have c2b1 : decide (200 < l0.length) = true := decide_eq_true (by omega)
    clear c2
    obtain rfl := Option.some.inj H
    go_enter Tryz.func59, Tryz.ntmps59
    go_wp2
    go_ret
    exact ⟨by first | rfl | (simp; done) | (simp [*]; done), by repeat (first | exact Drawn0.refl _ | apply Drawn0.step)⟩
  · rw [if_neg c2] at H
    have c2b0 : decide (200 < (l0.length : Int)) = false := decide_eq_false c2
    have c2b1 : decide (200 < l0.length) = false := decide_eq_false (by omega)
    clear c2
    have H' := Aside0.mk H
    clear H
    go_enter Tryz.func59, Tryz.ntmps59
    go_wp2
    go_loopg [3] k (fun kq v3 w' => ∃ (x3_1 : Int), v3 = .int .i64 x3_1 ∧ Aside0 (guidevaneref06_DeviationsErr.l0 kq l0 x3_1 = some r) ∧ Aside0 (kq ≤ k) ∧ Drawn0 w w')
    case atStart => exact ⟨(0), (by first | rfl | (simp; done) | (simp [*]; done)), H', ⟨Nat.le_refl _⟩, by repeat (first | exact Drawn0.refl _ | apply Drawn0.step)⟩
    case round =>
      clear H'
      try clear c2
      try clear c2b0
      try clear c2b1
      try clear p2
      obtain ⟨x3_1, rfl, HA, HK1, ⟨m1, rfl⟩⟩ := hrel
      cases gk with
      | zero => exact absurd HA.out (by simp [guidevaneref06_DeviationsErr.l0])
      | succ k1 =>
        have H := HA.out
        clear HA
        simp only [guidevaneref06_DeviationsErr.l0] at H
        by_cases c3 : x3_1 < (l0.length : Int)
        · rw [if_pos c3] at H
          have c3b0 : decide (x3_1 < (l0.length : Int)) = true := decide_eq_true c3
          clear c3
          by_cases c4 : 0 ≤ x3_1
          · rw [if_pos c4] at H
            have c4b0 : decide (0 ≤ x3_1) = true := decide_eq_true c4
            clear c4
            replace H := Option.bind_eq_some_iff.mp H
            obtain ⟨t544, A50, H⟩ := H
            replace H : (if t544 = 0 then (guidevaneref06_DeviationsErr.l0 k1 l0 (wrap64 (x3_1 + 1))) else (some t544)) = some r := H
            have A5 := Aside0.mk A50
            clear A50
            by_cases c6 : t544 = 0
            · rw [if_pos c6] at H
              have c6b0 : (t544 == 0) = true := beq_iff_eq.mpr c6
              have c6b1 : (t544 != 0) = false := bne_eq_false_iff_eq.mpr c6
              clear c6
              have H' := Aside0.mk H
              clear H
              have p543 : 0 ≤ (x3_1 : Int) := of_decide_eq_true (by first | (with_reducible assumption) | assumption)
              have q543 : x3_1 < (l0.length : Int) := of_decide_eq_true (by first | (with_reducible assumption) | assumption)
              obtain ⟨ad543, e543, hx543_0⟩ := Kd.at_int HR0.out x3_1 p543 q543
              cases e543
              replace p543 := eq_true p543
              replace q543 := eq_true q543
              go_wp2_with (first | ((with_reducible refine gate_callee (f := 54) rfl ?_); refine goesL_ (some 18) rfl rfl Tryz.func54 (by kernel_rfl) rfl #[.int .i64 (rd l0 x3_1)] rfl (by (try simp only [List.map_toArray, List.map_cons, List.map_nil]); first | done | rfl | (simp only [List.length_drop, List.length_take]; rfl)) ?_; (with_reducible refine (guidevaneref06_SpeedErr.calls (rd l0 x3_1) t544 _ A5.out).mono ?_); rintro e w' ⟨rfl, ⟨nd, rfl⟩⟩; refine ⟨_, rfl, ?_⟩))
              go_roundg k1
              case measure => have := HK1.out; omega
              case rel => exact ⟨(wrap64 (x3_1 + 1)), (by first | rfl | (simp; done) | (simp [*]; done)), H', ⟨by have := HK1.out; omega⟩, by repeat (first | exact Drawn0.refl _ | apply Drawn0.step)⟩
            · rw [if_neg c6] at H
              have c6b0 : (t544 == 0) = false := beq_eq_false_iff_ne.mpr c6
              have c6b1 : (t544 != 0) = true := bne_iff_ne.mpr c6
              obtain rfl := Option.some.inj H
              have p543 : 0 ≤ (x3_1 : Int) := of_decide_eq_true (by first | (with_reducible assumption) | assumption)
              have q543 : x3_1 < (l0.length : Int) := of_decide_eq_true (by first | (with_reducible assumption) | assumption)
              obtain ⟨ad543, e543, hx543_0⟩ := Kd.at_int HR0.out x3_1 p543 q543
              cases e543
              replace p543 := eq_true p543
              replace q543 := eq_true q543
              go_wp2_with (first | ((with_reducible refine gate_callee (f := 54) rfl ?_); refine goesL_ (some 18) rfl rfl Tryz.func54 (by kernel_rfl) rfl #[.int .i64 (rd l0 x3_1)] rfl (by (try simp only [List.map_toArray, List.map_cons, List.map_nil]); first | done | rfl | (simp only [List.length_drop, List.length_take]; rfl)) ?_; (with_reducible refine (guidevaneref06_SpeedErr.calls (rd l0 x3_1) t544 _ A5.out).mono ?_); rintro e w' ⟨rfl, ⟨nd, rfl⟩⟩; refine ⟨_, rfl, ?_⟩))
              go_ret
              exact ⟨by first | rfl | (simp; done) | (simp [*]; done), by repeat (first | exact Drawn0.refl _ | apply Drawn0.step)⟩
          · rw [if_neg c4] at H
            exact absurd H (by simp)
        · rw [if_neg c3] at H
          have c3b0 : decide (x3_1 < (l0.length : Int)) = false := decide_eq_false c3
          clear c3
          obtain rfl := Option.some.inj H
          go_wp2
          go_ret
          exact ⟨by first | rfl | (simp; done) | (simp [*]; done), by repeat (first | exact Drawn0.refl _ | apply Drawn0.step)⟩
end Go.Proofs.YtmpondcccbmlhaaGreat.Q
