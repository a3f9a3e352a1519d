/- A part of the claim R: the texts Q30, PuRuns, without what the claim does not lean on. -/
import Derived.ArgAppend
import Derived.Below
import Derived.BigQuiet
import Derived.Deep.AppendLies
import Derived.Deep.CutBlock
import Derived.Deep.DeepCutAuto
import Derived.Deep.Draws
import Derived.Deep.LoopGhost
import Derived.Deep.OwnRows
import Derived.Deep.QuietTactic
import Derived.Deep.RegionHeld3
import Derived.Deep.RegionWith
import Derived.Deep.WholeRow
import Derived.Ground.SlsfProg
import Derived.KernelRfl
import Derived.Laws.BitsLemmas
import Derived.Laws.BytesArg
import Derived.Laws.ComplexArith
import Derived.Laws.IdiomCopy
import Derived.Laws.MakeOwn
import Derived.Laws.OwnMore
import Derived.Laws.Rows
import Derived.Laws.Slices
import Derived.Laws.StructEq
import Derived.Lib.AppendStr
import Derived.Lib.ConvBytes
import Derived.Lib.Hide
import Derived.Lib.LazyBuf
import Derived.LoopIn
import Derived.LoopNIn
import Derived.Maps.AppendAt
import Derived.OrdersHeld
import Derived.Outline
import Derived.OwnWalk
import Derived.OwnWalkIn
import Derived.RangeFuncBound
import Derived.RangeFuncCalls
import Derived.RangeFuncLeaves
import Derived.RangeFuncNested
import Derived.RowKit
import Derived.RowKit3
import Derived.Shelf.Abstract
import Derived.Shelf.RegionOpen
import Derived.Shelf.SlSortCmp.HeapSort1
import Derived.Shelf.SlSortCmp.Insertion
import Derived.Shelf.SlSortCmp.Insertion1
import Derived.Shelf.SlSortCmp.Median1
import Derived.Shelf.SlSortCmp.PartialInsertion1
import Derived.Shelf.SlSortCmp.Partition1
import Derived.Shelf.SlSortCmp.PartitionEqual1
import Derived.Shelf.SlSortCmp.Pdq1
import Derived.Shelf.SlSortCmp.Pivot1
import Derived.Shelf.SlSortCmp.ReverseRange1
import Derived.Shelf.SlSortCmp.SiftDown1
import Derived.Shelf.SlSortCmp.Whole1
import Derived.Shelf.Slices.Empties2
import Derived.Shelf.Slices.Equal
import Derived.Shelf.Slices.In.SortNone
import Derived.Shelf.Small.Bits
import Derived.Shelf.Sort.Plain
import Derived.Shelf.Strconv.Itoa0
import Derived.Sort.CutIn
import Derived.Tactics
import Derived.TacticsInMore
import Derived.WalkKit
import Derived.WalkLawsBesides
import Derived.WideLaws
import Derived.Test.YtmpondcccbmlhaaGreatProg
import Derived.Test.YtmpondcccbmlhaaGreatzR0
import Derived.Test.YtmpondcccbmlhaaGreatzR1
import Derived.Test.YtmpondcccbmlhaaGreatzR2
import Derived.Test.YtmpondcccbmlhaaGreatzR3
import Derived.Test.YtmpondcccbmlhaaGreatzR4
import Derived.Test.YtmpondcccbmlhaaGreatzR5
import Derived.Test.YtmpondcccbmlhaaGreatzR6
import Derived.Test.YtmpondcccbmlhaaGreatzR7
import Derived.Test.YtmpondcccbmlhaaGreatzR8
import Derived.Test.YtmpondcccbmlhaaGreatzR9
import Derived.Test.YtmpondcccbmlhaaGreatzR10
import Derived.Test.YtmpondcccbmlhaaGreatzR11
import Derived.Test.YtmpondcccbmlhaaGreatzR12
import Derived.Test.YtmpondcccbmlhaaGreatzR13
import Derived.Test.YtmpondcccbmlhaaGreatzR14
import Derived.Test.YtmpondcccbmlhaaGreatzR15
import Derived.Test.YtmpondcccbmlhaaGreatzR16
import Derived.Test.YtmpondcccbmlhaaGreatzR17
import Derived.Test.YtmpondcccbmlhaaGreatzR18
import Derived.Test.YtmpondcccbmlhaaGreatzR19
import Derived.Test.YtmpondcccbmlhaaGreatzR20
import Derived.Test.YtmpondcccbmlhaaGreatzR21
import Derived.Test.YtmpondcccbmlhaaGreatzR22
import Derived.Test.YtmpondcccbmlhaaGreatzR23
import Derived.Test.YtmpondcccbmlhaaGreatzR24
import Derived.Test.YtmpondcccbmlhaaGreatzR25
import Derived.Test.YtmpondcccbmlhaaGreatzR26
import Derived.Test.YtmpondcccbmlhaaGreatzR27
import Derived.Test.YtmpondcccbmlhaaGreatzR28
import Derived.Test.YtmpondcccbmlhaaGreatzR29
import Derived.Test.YtmpondcccbmlhaaGreatzR30
import Derived.Test.YtmpondcccbmlhaaGreatzR31
import Derived.Test.YtmpondcccbmlhaaGreatzR32
import Derived.Test.YtmpondcccbmlhaaGreatzR33
import Derived.Test.YtmpondcccbmlhaaGreatzR34
import Derived.Test.YtmpondcccbmlhaaGreatzR35
import Derived.Test.YtmpondcccbmlhaaGreatzR36
import Derived.Test.YtmpondcccbmlhaaGreatzR37
import Derived.Test.YtmpondcccbmlhaaGreatzR38
import Derived.Test.YtmpondcccbmlhaaGreatzR39
import Derived.Test.YtmpondcccbmlhaaGreatzR40
import Derived.Test.YtmpondcccbmlhaaGreatzR41
import Derived.Test.YtmpondcccbmlhaaGreatzR42
import Derived.Test.YtmpondcccbmlhaaGreatzR43
namespace Go.Proofs.YtmpondcccbmlhaaGreat.Q
open Go.RowKit Go.Proofs.YtmpondcccbmlhaaGreatW.PrintWords Go.Proofs.YtmpondcccbmlhaaGreatW.PrintLast Go.Proofs.YtmpondcccbmlhaaGreatW.PrintMore
attribute [local go_sem] max2_int min2_int max_two min_two max_three min_three max_four min_four   
set_option linter.unusedVariables false
set_option linter.unusedSimpArgs false
open Go.Proofs.YtmpondcccbmlhaaGreat.Ext
mutual
def guidevanelaw06_GovernorRuns.j0 : Nat → List Int → Bool → Int → Int → Int → Int → Int → Int → Int → Int → Option (Bool)
  | 0, _, _, _, _, _, _, _, _, _, _ => none
  | k + 1, x2, x24, x557000, x557001, x557002, x557003, x558000, x558001, x558002, x558003 => if x24 = true then (some true) else ((guidevanebase_CopyInts.f x2).bind fun t559 => ((governor_GateRun.f x557000 x557001 x557002 x557003 x558000 x558001 x558002 x558003 t559).bind fun bt562 => ((guidevaneref06_GateErr.f k x557000 x557001 x557002 x557003).bind fun t566 => (if t566 = 0 then ((guidevaneref06_RulesErr.f x558000 x558001 x558002 x558003).bind fun t567 => (guidevanelaw06_GovernorRuns.j1 k x2 bt562.1 bt562.2 t567 x557000 x557001 x557002 x557003 x558000 x558001 x558002 x558003)) else (guidevanelaw06_GovernorRuns.j1 k x2 bt562.1 bt562.2 t566 x557000 x557001 x557002 x557003 x558000 x558001 x558002 x558003)))))
def guidevanelaw06_GovernorRuns.j1 : Nat → List Int → List Int → Int → Int → Int → Int → Int → Int → Int → Int → Int → Int → Option (Bool)
  | 0, _, _, _, _, _, _, _, _, _, _, _, _ => none
  | k + 1, x2, x7, x8, x9, x557000, x557001, x557002, x557003, x558000, x558001, x558002, x558003 => if x9 = 0 then ((guidevaneref06_DeviationsErr.f k x2).bind fun t568 => (guidevanelaw06_GovernorRuns.j2 k x2 x7 x8 t568 x557000 x557001 x557002 x557003 x558000 x558001 x558002 x558003)) else (guidevanelaw06_GovernorRuns.j2 k x2 x7 x8 x9 x557000 x557001 x557002 x557003 x558000 x558001 x558002 x558003)
def guidevanelaw06_GovernorRuns.j2 : Nat → List Int → List Int → Int → Int → Int → Int → Int → Int → Int → Int → Int → Int → Option (Bool)
  | 0, _, _, _, _, _, _, _, _, _, _, _, _ => none
  | k + 1, x2, x7, x8, x9, x557000, x557001, x557002, x557003, x558000, x558001, x558002, x558003 => if x9 = 0 then (if x8 = 0 then ((guidevaneref06_Run.f k x557000 x557001 x557002 x557003 x558000 x558001 x558002 x558003 x2).bind fun t569 => ((guidevanebase_Ints.f k x7 t569).bind fun t572 => (some t572))) else (some false)) else (if x8 = x9 then (some ((x7.length : Int) == 0)) else (some false))
end
def guidevanelaw06_GovernorRuns.f (k : Nat) (a0_0 : Int) (a0_1 : Int) (a0_2 : Int) (a0_3 : Int) (a1_0 : Int) (a1_1 : Int) (a1_2 : Int) (a1_3 : Int) (l2 : List Int) : Option (Bool) := (guidevanelaw06_awake.f).bind fun t558 => (if t558 = true then (if (l2.length : Int) > 60 then (if (l2.length : Int) ≤ 200 then (guidevanelaw06_GovernorRuns.j0 k l2 true a0_0 a0_1 a0_2 a0_3 a1_0 a1_1 a1_2 a1_3) else (guidevanelaw06_GovernorRuns.j0 k l2 (decide ((l2.length : Int) > 202)) a0_0 a0_1 a0_2 a0_3 a1_0 a1_1 a1_2 a1_3)) else (guidevanelaw06_GovernorRuns.j0 k l2 (decide ((l2.length : Int) > 202)) a0_0 a0_1 a0_2 a0_3 a1_0 a1_1 a1_2 a1_3)) else (some false))
def guidevanelaw06_GovernorRuns.T5 : Bool × List (List Nat × List Nat) := (true, [([], []), ([], []), ([], []), ([2], [2]), ([0, 1, 3, 3], [0, 1, 3]), ([4], [4]), ([5], [5]), ([5], [5]), ([6, 4, 0, 1, 2, 3, 4, 5, 6], [6]), ([7, 8, 0, 1, 2, 3, 4, 5, 6, 7, 8], [7])])
def guidevanelaw06_GovernorRuns.B5 : List Nat := [0, 0, 0, 4, 15, 31, 63, 63, 127, 511]
theorem guidevanelaw06_GovernorRuns.tab5 : rtab .any (opsOf Tryz.f8 5) = guidevanelaw06_GovernorRuns.T5 := by kernel_rfl
theorem guidevanelaw06_GovernorRuns.bits5 : waitsOk guidevanelaw06_GovernorRuns.T5.2 guidevanelaw06_GovernorRuns.B5 = true := by kernel_rfl
set_option maxHeartbeats 8000000 in
set_option maxRecDepth 100000 in
theorem guidevanelaw06_GovernorRuns.calls (k : Nat) (a0_0 : Int) (a0_1 : Int) (a0_2 : Int) (a0_3 : Int) (a1_0 : Int) (a1_1 : Int) (a1_2 : Int) (a1_3 : Int) (A2 : Option Addr) (c2 : Nat) (l2 : List Int) (r : Bool) (w : World) (hr2 : Kd.C (Kd.int .i64) w A2 l2.length l2) (hc2 : l2.length ≤ c2) (h : guidevanelaw06_GovernorRuns.f k a0_0 a0_1 a0_2 a0_3 a1_0 a1_1 a1_2 a1_3 l2 = some r) :
    Calls Tryz.prog 8 #[.agg #[.int .i64 a0_0, .int .i64 a0_1, .int .i64 a0_2, .int .i64 a0_3], .agg #[.int .i64 a1_0, .int .i64 a1_1, .int .i64 a1_2, .int .i64 a1_3], .slice A2 l2.length c2] w fun e w' => e = .returned (.bool r) ∧ Below w.heap.size w w' := by
  have hu75 := Tryz.underlying75
  have hu77 := Tryz.underlying77
  have HR2 := Aside0.mk hr2
  have HC2 := Aside0.mk hc2
  clear hr2 hc2
  have HB := Aside0.mk (Below.refl w.heap.size w)
  have H : ((guidevanelaw06_awake.f).bind fun t558 => (if t558 = true then (if (l2.length : Int) > 60 then (if (l2.length : Int) ≤ 200 then (guidevanelaw06_GovernorRuns.j0 k l2 true a0_0 a0_1 a0_2 a0_3 a1_0 a1_1 a1_2 a1_3) else (guidevanelaw06_GovernorRuns.j0 k l2 (decide ((l2.length : Int) > 202)) a0_0 a0_1 a0_2 a0_3 a1_0 a1_1 a1_2 a1_3)) else (guidevanelaw06_GovernorRuns.j0 k l2 (decide ((l2.length : Int) > 202)) a0_0 a0_1 a0_2 a0_3 a1_0 a1_1 a1_2 a1_3)) else (some false))) = some r := h
  clear h
  replace H := Option.bind_eq_some_iff.mp H
  obtain ⟨t558, A40, H⟩ := H
  replace H : (if t558 = true then (if (l2.length : Int) > 60 then (if (l2.length : Int) ≤ 200 then (guidevanelaw06_GovernorRuns.j0 k l2 true a0_0 a0_1 a0_2 a0_3 a1_0 a1_1 a1_2 a1_3) else (guidevanelaw06_GovernorRuns.j0 k l2 (decide ((l2.length : Int) > 202)) a0_0 a0_1 a0_2 a0_3 a1_0 a1_1 a1_2 a1_3)) else (guidevanelaw06_GovernorRuns.j0 k l2 (decide ((l2.length : Int) > 202)) a0_0 a0_1 a0_2 a0_3 a1_0 a1_1 a1_2 a1_3)) else (some false)) = some r := H
  have A4 := Aside0.mk A40
  clear A40
  by_cases c5 : t558 = true
  · subst c5
    have H1 : (if (l2.length : Int) > 60 then (if (l2.length : Int) ≤ 200 then (guidevanelaw06_GovernorRuns.j0 k l2 true a0_0 a0_1 a0_2 a0_3 a1_0 a1_1 a1_2 a1_3) else (guidevanelaw06_GovernorRuns.j0 k l2 (decide ((l2.length : Int) > 202)) a0_0 a0_1 a0_2 a0_3 a1_0 a1_1 a1_2 a1_3)) else (guidevanelaw06_GovernorRuns.j0 k l2 (decide ((l2.length : Int) > 202)) a0_0 a0_1 a0_2 a0_3 a1_0 a1_1 a1_2 a1_3)) = some r := by rw [if_pos rfl] at H; exact H
    clear H
    have H := H1
    clear H1
    have HC6 := Aside0.mk H
    clear H
    go_enter Tryz.func8, Tryz.ntmps8
    go_upto_region 3 with (first | ((with_reducible refine gate_dst (N := 3) rfl ?_); (try (refine gate_guard (by rfl) ?_; dsimp only)); refine box_event ?hg (N := 3) ?hd (cs := #[.int .i64 a0_0, .int .i64 a0_1, .int .i64 a0_2, .int .i64 a0_3]) (t := 75) ?hr ?_; (case hd => rfl); (case hg => rfl); (case hr => first | (go_simp; done) | (go_simp; rfl)); intro gb556 hg w7 hbox hb; have n0_ := Aside0.mk (below_step (by repeat (first | (with_reducible first | exact HB.out | apply below_alloc | apply pw_below_drewN | apply below_drew1) | exact HB.out)) hb); have n1_ := Aside0.mk (hbox); have n2_ := Aside0.mk ((by rw [hg]; exact (below_size (by repeat (first | (with_reducible first | exact HB.out | apply below_alloc | apply pw_below_drewN | apply below_drew1) | exact HB.out))) : w.heap.size ≤ gb556)); have n3_ := Aside0.mk ((by rw [hg]; exact (below_size (by repeat (first | (with_reducible first | exact HB.out | apply below_alloc | apply pw_below_drewN | apply below_drew1) | exact HB.out))) : w.heap.size ≤ gb556)); clear HB; have HB := n0_; have BK556 := n1_; have GW556 := n2_; have GE556 := n3_; clear n0_ n1_ n2_ n3_; clear hb hbox hg) | ((with_reducible refine gate_dst (N := 4) rfl ?_); (try (refine gate_guard (by rfl) ?_; dsimp only)); refine box_event ?hg (N := 4) ?hd (cs := #[.int .i64 a1_0, .int .i64 a1_1, .int .i64 a1_2, .int .i64 a1_3]) (t := 77) ?hr ?_; (case hd => rfl); (case hg => rfl); (case hr => first | (go_simp; done) | (go_simp; rfl)); intro gb557 hg w8 hbox hb; have n0_ := Aside0.mk (blk_below (g := gb556) (o := .cells #[.int .i64 a0_0, .int .i64 a0_1, .int .i64 a0_2, .int .i64 a0_3] 75 (0, 0)) (by (with_reducible repeat (first | refine blk_drewN ?_ _ | refine blk_drew ?_ | refine blk_alloc ?_ _)); exact BK556.out) hb); have n1_ := Aside0.mk (below_step (by repeat (first | (with_reducible first | exact HB.out | apply below_alloc | apply pw_below_drewN | apply below_drew1 | refine below_set ?_ GE556.out) | exact HB.out)) hb); have n2_ := Aside0.mk (hbox); have n3_ := Aside0.mk ((by rw [hg]; exact (below_size (by repeat (first | (with_reducible first | exact HB.out | apply below_alloc | apply pw_below_drewN | apply below_drew1 | refine below_set ?_ GE556.out) | exact HB.out))) : w.heap.size ≤ gb557)); have n4_ := Aside0.mk ((by rw [hg]; exact (below_size (by repeat (first | (with_reducible first | exact HB.out | apply below_alloc | apply pw_below_drewN | apply below_drew1 | refine below_set ?_ GE556.out) | exact HB.out))) : w.heap.size ≤ gb557)); have n5_ := Aside0.mk ((by rw [hg]; exact Nat.ne_of_lt (blk_lt (g := gb556) (o := .cells #[.int .i64 a0_0, .int .i64 a0_1, .int .i64 a0_2, .int .i64 a0_3] 75 (0, 0)) (by (with_reducible repeat (first | refine blk_drewN ?_ _ | refine blk_drew ?_ | refine blk_alloc ?_ _)); exact BK556.out)) : gb556 ≠ gb557)); have n6_ := Aside0.mk ((by rw [hg]; exact Nat.ne_of_gt (blk_lt (g := gb556) (o := .cells #[.int .i64 a0_0, .int .i64 a0_1, .int .i64 a0_2, .int .i64 a0_3] 75 (0, 0)) (by (with_reducible repeat (first | refine blk_drewN ?_ _ | refine blk_drew ?_ | refine blk_alloc ?_ _)); exact BK556.out)) : gb557 ≠ gb556)); clear BK556; clear HB; have BK556 := n0_; have HB := n1_; have BK557 := n2_; have GW557 := n3_; have GE557 := n4_; have NB556_557 := n5_; have NB557_556 := n6_; clear n0_ n1_ n2_ n3_ n4_ n5_ n6_; clear hb hbox hg) | ((with_reducible refine gate_callee (f := 16) rfl ?_); refine goesL_ (some 10) rfl rfl Tryz.func16 (by kernel_rfl) rfl #[] rfl (by (try simp only [List.map_toArray, List.map_cons, List.map_nil]); first | done | rfl | (simp only [List.length_drop, List.length_take]; rfl)) ?_; (with_reducible refine (guidevanelaw06_awake.calls  true _ A4.out).mono ?_); rintro e w9 ⟨rfl, hb⟩; refine ⟨_, rfl, ?_⟩; have n0_ := Aside0.mk (blk_below (g := gb556) (o := .cells #[.int .i64 a0_0, .int .i64 a0_1, .int .i64 a0_2, .int .i64 a0_3] 75 (0, 0)) (by (with_reducible repeat (first | refine blk_drewN ?_ _ | refine blk_drew ?_ | refine blk_alloc ?_ _)); exact BK556.out) hb); have n1_ := Aside0.mk (blk_below (g := gb557) (o := .cells #[.int .i64 a1_0, .int .i64 a1_1, .int .i64 a1_2, .int .i64 a1_3] 77 (0, 0)) (by (with_reducible repeat (first | refine blk_drewN ?_ _ | refine blk_drew ?_ | refine blk_alloc ?_ _)); exact BK557.out) hb); have n2_ := Aside0.mk (below_step (by repeat (first | (with_reducible first | exact HB.out | apply below_alloc | apply pw_below_drewN | apply below_drew1 | refine below_set ?_ GE556.out | refine below_set ?_ GE557.out) | exact HB.out)) hb); clear BK556; clear BK557; clear HB; have BK556 := n0_; have BK557 := n1_; have HB := n2_; clear n0_ n1_ n2_; (try clear hb); (try clear hb2); (try clear hk); (try clear hi)))
    (try simp only [Act.put, List.setIfInBounds_toArray, List.set_cons_zero, List.set_cons_succ])
    go_cut [24] (fun v24 wc => ∃ (kq : Nat) (x24_5 : Bool), v24 = .bool x24_5 ∧ Aside0 (guidevanelaw06_GovernorRuns.j0 kq l2 x24_5 a0_0 a0_1 a0_2 a0_3 a1_0 a1_1 a1_2 a1_3 = some r) ∧ Aside0 (kq ≤ k) ∧ Aside0 (wc.heap[gb556]? = some (.cells #[.int .i64 a0_0, .int .i64 a0_1, .int .i64 a0_2, .int .i64 a0_3] 75 (0, 0))) ∧ Aside0 (wc.heap[gb557]? = some (.cells #[.int .i64 a1_0, .int .i64 a1_1, .int .i64 a1_2, .int .i64 a1_3] 77 (0, 0))) ∧ Aside0 (Below w.heap.size w wc))
    case first =>
      have H := HC6.out
      clear HC6
      by_cases c10 : (l2.length : Int) > 60
      · rw [if_pos c10] at H
        have c10b0 : decide (60 < (l2.length : Int)) = true := decide_eq_true c10
        have c10b1 : decide (60 < l2.length) = true := decide_eq_true (by omega)
        clear c10
        (first | rw [c10b0] | (simp only [i64_w, i32_w]; rw [c10b0]) | skip)
        by_cases c11 : (l2.length : Int) ≤ 200
        · rw [if_pos c11] at H
          have c11b0 : decide ((l2.length : Int) ≤ 200) = true := decide_eq_true c11
          have c11b1 : decide (l2.length ≤ 200) = true := decide_eq_true (by omega)
          clear c11
          have H' := Aside0.mk H
          clear H
          go_wp2
          go_meet
          case rel => exact ⟨_, (true), (by first | rfl | (simp; done) | (simp [*]; done)), H', ⟨by first | omega | exact Nat.le_refl _⟩, ⟨by (with_reducible repeat (first | refine blk_drewN ?_ _ | refine blk_drew ?_ | refine blk_alloc ?_ _)); exact BK556.out⟩, ⟨by (with_reducible repeat (first | refine blk_drewN ?_ _ | refine blk_drew ?_ | refine blk_alloc ?_ _)); exact BK557.out⟩, ⟨by repeat (first | (with_reducible first | exact HB.out | apply below_alloc | apply pw_below_drewN | apply below_drew1 | refine below_set ?_ GE556.out | refine below_set ?_ GE557.out) | exact HB.out)⟩⟩
        · rw [if_neg c11] at H
          have c11b0 : decide ((l2.length : Int) ≤ 200) = false := decide_eq_false c11
          have c11b1 : decide (l2.length ≤ 200) = false := decide_eq_false (by omega)
          clear c11
          have H' := Aside0.mk H
          clear H
          go_wp2
          go_meet
          case rel => exact ⟨_, (decide ((l2.length : Int) > 202)), (by first | rfl | (simp; done) | (simp [*]; done)), H', ⟨by first | omega | exact Nat.le_refl _⟩, ⟨by (with_reducible repeat (first | refine blk_drewN ?_ _ | refine blk_drew ?_ | refine blk_alloc ?_ _)); exact BK556.out⟩, ⟨by (with_reducible repeat (first | refine blk_drewN ?_ _ | refine blk_drew ?_ | refine blk_alloc ?_ _)); exact BK557.out⟩, ⟨by repeat (first | (with_reducible first | exact HB.out | apply below_alloc | apply pw_below_drewN | apply below_drew1 | refine below_set ?_ GE556.out | refine below_set ?_ GE557.out) | exact HB.out)⟩⟩
      · rw [if_neg c10] at H
        have c10b0 : decide (60 < (l2.length : Int)) = false := decide_eq_false c10
        have c10b1 : decide (60 < l2.length) = false := decide_eq_false (by omega)
        clear c10
        (first | rw [c10b0] | (simp only [i64_w, i32_w]; rw [c10b0]) | skip)
        have H' := Aside0.mk H
        clear H
        go_wp2
        go_meet
        case rel => exact ⟨_, (decide ((l2.length : Int) > 202)), (by first | rfl | (simp; done) | (simp [*]; done)), H', ⟨by first | omega | exact Nat.le_refl _⟩, ⟨by (with_reducible repeat (first | refine blk_drewN ?_ _ | refine blk_drew ?_ | refine blk_alloc ?_ _)); exact BK556.out⟩, ⟨by (with_reducible repeat (first | refine blk_drewN ?_ _ | refine blk_drew ?_ | refine blk_alloc ?_ _)); exact BK557.out⟩, ⟨by repeat (first | (with_reducible first | exact HB.out | apply below_alloc | apply pw_below_drewN | apply below_drew1 | refine below_set ?_ GE556.out | refine below_set ?_ GE557.out) | exact HB.out)⟩⟩
    case rest =>
      clear HC6
      try clear c1
      try clear c2
      try clear p2
      try clear c5
      try clear c8
      try clear c10
      try clear c10b0
      try clear c10b1
      try clear c11
      try clear c11b0
      try clear c11b1
      obtain ⟨kq, x24_5, rfl, HA, HJ5, BK556, BK557, HB⟩ := hcut
      cases kq with
      | zero => exact absurd HA.out (by simp [guidevanelaw06_GovernorRuns.j0])
      | succ kj5 =>
        have H := HA.out
        clear HA
        simp only [guidevanelaw06_GovernorRuns.j0] at H
        by_cases c12 : x24_5 = true
        · subst c12
          have H1 : (some true) = some r := by rw [if_pos rfl] at H; exact H
          clear H
          have H := H1
          clear H1
          obtain rfl := Option.some.inj H
          go_wp2
          go_ret
          exact ⟨by first | rfl | (simp [errW_none, errW_some] <;> rfl) | (simp [*, errW_none, errW_some] <;> rfl), by repeat (first | (with_reducible first | exact HB.out | apply below_alloc | apply pw_below_drewN | apply below_drew1 | refine below_set ?_ GE556.out | refine below_set ?_ GE557.out) | exact HB.out)⟩
        · replace c12 := Bool.eq_false_iff.mpr c12
          subst c12
          have H1 : ((guidevanebase_CopyInts.f l2).bind fun t559 => ((governor_GateRun.f a0_0 a0_1 a0_2 a0_3 a1_0 a1_1 a1_2 a1_3 t559).bind fun bt562 => ((guidevaneref06_GateErr.f kj5 a0_0 a0_1 a0_2 a0_3).bind fun t566 => (if t566 = 0 then ((guidevaneref06_RulesErr.f a1_0 a1_1 a1_2 a1_3).bind fun t567 => (guidevanelaw06_GovernorRuns.j1 kj5 l2 bt562.1 bt562.2 t567 a0_0 a0_1 a0_2 a0_3 a1_0 a1_1 a1_2 a1_3)) else (guidevanelaw06_GovernorRuns.j1 kj5 l2 bt562.1 bt562.2 t566 a0_0 a0_1 a0_2 a0_3 a1_0 a1_1 a1_2 a1_3))))) = some r := by rw [if_neg (show ¬ (false = true) by decide)] at H; exact H
          clear H
          have H := H1
          clear H1
          replace H := Option.bind_eq_some_iff.mp H
          obtain ⟨t559, A130, H⟩ := H
          replace H : ((governor_GateRun.f a0_0 a0_1 a0_2 a0_3 a1_0 a1_1 a1_2 a1_3 t559).bind fun bt562 => ((guidevaneref06_GateErr.f kj5 a0_0 a0_1 a0_2 a0_3).bind fun t566 => (if t566 = 0 then ((guidevaneref06_RulesErr.f a1_0 a1_1 a1_2 a1_3).bind fun t567 => (guidevanelaw06_GovernorRuns.j1 kj5 l2 bt562.1 bt562.2 t567 a0_0 a0_1 a0_2 a0_3 a1_0 a1_1 a1_2 a1_3)) else (guidevanelaw06_GovernorRuns.j1 kj5 l2 bt562.1 bt562.2 t566 a0_0 a0_1 a0_2 a0_3 a1_0 a1_1 a1_2 a1_3)))) = some r := H
          have A13 := Aside0.mk A130
          clear A130
          replace H := Option.bind_eq_some_iff.mp H
          obtain ⟨⟨t562, t565⟩, A140, H⟩ := H
          replace H : ((guidevaneref06_GateErr.f kj5 a0_0 a0_1 a0_2 a0_3).bind fun t566 => (if t566 = 0 then ((guidevaneref06_RulesErr.f a1_0 a1_1 a1_2 a1_3).bind fun t567 => (guidevanelaw06_GovernorRuns.j1 kj5 l2 t562 t565 t567 a0_0 a0_1 a0_2 a0_3 a1_0 a1_1 a1_2 a1_3)) else (guidevanelaw06_GovernorRuns.j1 kj5 l2 t562 t565 t566 a0_0 a0_1 a0_2 a0_3 a1_0 a1_1 a1_2 a1_3))) = some r := H
          have A14 := Aside0.mk A140
          clear A140
          replace H := Option.bind_eq_some_iff.mp H
          obtain ⟨t566, A150, H⟩ := H
          replace H : (if t566 = 0 then ((guidevaneref06_RulesErr.f a1_0 a1_1 a1_2 a1_3).bind fun t567 => (guidevanelaw06_GovernorRuns.j1 kj5 l2 t562 t565 t567 a0_0 a0_1 a0_2 a0_3 a1_0 a1_1 a1_2 a1_3)) else (guidevanelaw06_GovernorRuns.j1 kj5 l2 t562 t565 t566 a0_0 a0_1 a0_2 a0_3 a1_0 a1_1 a1_2 a1_3)) = some r := H
          have A15 := Aside0.mk A150
          clear A150
          have HC16 := Aside0.mk H
          clear H
          try go_wp2
          have n0_ := Aside0.mk (blk_drew BK556.out)
          have n1_ := Aside0.mk (blk_drew BK557.out)
          have n2_ := Aside0.mk (below_drew1 HB.out)
          clear BK556
          clear BK557
          clear HB
          have BK556 := n0_
          have BK557 := n1_
          have HB := n2_
          clear n0_ n1_ n2_
          refine start_ (n := 10) (S := fun w' => w'.cell? ⟨gb556, 0, none⟩ = some (.int .i64 a0_0) ∧ w'.cell? ⟨gb556, 1, none⟩ = some (.int .i64 a0_1) ∧ w'.cell? ⟨gb556, 2, none⟩ = some (.int .i64 a0_2) ∧ w'.cell? ⟨gb556, 3, none⟩ = some (.int .i64 a0_3) ∧ w'.cell? ⟨gb557, 0, none⟩ = some (.int .i64 a1_0) ∧ w'.cell? ⟨gb557, 1, none⟩ = some (.int .i64 a1_1) ∧ w'.cell? ⟨gb557, 2, none⟩ = some (.int .i64 a1_2) ∧ w'.cell? ⟨gb557, 3, none⟩ = some (.int .i64 a1_3)) (ds := []) #[false, false, false, false, false, false, false, false, false, false] (by kernel_rfl) rfl rfl ⟨(blk_cell BK556.out 0).trans rfl, (blk_cell BK556.out 1).trans rfl, (blk_cell BK556.out 2).trans rfl, (blk_cell BK556.out 3).trans rfl, (blk_cell BK557.out 0).trans rfl, (blk_cell BK557.out 1).trans rfl, (blk_cell BK557.out 2).trans rfl, (blk_cell BK557.out 3).trans rfl⟩ (fun hHeld => ?_); refine with_tabW guidevanelaw06_GovernorRuns.tab5 guidevanelaw06_GovernorRuns.bits5 (fun HT_ HW_ => ?_)
          generalize wc.drew = w17 at BK556 BK557 HB hHeld ⊢
          refine pure_ (i := 2) (N := some 28) (v := ?_) (a' := ?_) #[false, false, true, false, false, false, false, false, false, false] rfl rfl (any_of HT_.out (by kernel_rfl)) (fun _ _ _ h => h) (Or.inl ⟨by rfl, ?_⟩) ?_ ?_
          rotate_left
          · intro w'
            go_simp
            with_reducible rfl
          rotate_left
          · simp only [Act.put, List.setIfInBounds_toArray, List.set_cons_zero, List.set_cons_succ, i64_w, i32_w]
            rfl
          refine take_ (i := 0) (N := some 26) (v := ?_) (a' := ?_) #[true, false, true, false, false, false, false, false, false, false] rfl rfl (take_ofW HT_.out HW_.out (by kernel_rfl)) (fun _ _ _ h => h) (Or.inl ⟨by rfl, ?_⟩) hHeld ?_ ?_
          rotate_left
          · rintro w' ⟨s0, s1, s2, s3, s4, s5, s6, s7⟩
            go_simp
            with_reducible rfl
          rotate_left
          · simp only [Act.put, List.setIfInBounds_toArray, List.set_cons_zero, List.set_cons_succ, i64_w, i32_w]
            rfl
          refine take_ (i := 1) (N := some 27) (v := ?_) (a' := ?_) #[true, true, true, false, false, false, false, false, false, false] rfl rfl (take_ofW HT_.out HW_.out (by kernel_rfl)) (fun _ _ _ h => h) (Or.inl ⟨by rfl, ?_⟩) hHeld ?_ ?_
          rotate_left
          · rintro w' ⟨s0, s1, s2, s3, s4, s5, s6, s7⟩
            go_simp
            with_reducible rfl
          rotate_left
          · simp only [Act.put, List.setIfInBounds_toArray, List.set_cons_zero, List.set_cons_succ, i64_w, i32_w]
            rfl
          refine one_ (i := 3) (N := some 29) #[true, true, true, true, false, false, false, false, false, false] rfl rfl (one_of HT_.out (by kernel_rfl)) (by decide) (fun K hK => ?_)
          refine goes_ Tryz.func19 (by kernel_rfl) rfl #[.slice A2 l2.length c2] (by rfl) rfl rfl (by (try simp only [List.map_toArray, List.map_cons, List.map_nil]); first | done | rfl | (simp only [List.length_drop, List.length_take]; rfl)) ?_
          with_reducible refine (guidevanebase_CopyInts.calls _ _ l2 t559 _ ?side1 ?side2 A13.out).mono ?_
          (case side1 => repeat (first | exact (Kd.C_below HR2.out HB.out) | (with_reducible refine Kd.C_alloc ?_ _) | (with_reducible refine Kd.C_drewN ?_ _) | (with_reducible refine Kd.C_drew ?_)))
          (case side2 => exact HC2.out)
          rintro e w18 ⟨v560, rfl, ho0, hb⟩
          refine ⟨_, rfl, ?_⟩
          have n0_ := Aside0.mk (Kd.R_lower ho0 (below_size (by repeat (first | (with_reducible first | exact HB.out | apply below_alloc | apply pw_below_drewN | apply below_drew1 | refine below_set ?_ GE556.out | refine below_set ?_ GE557.out) | exact HB.out))))
          have n1_ := Aside0.mk (blk_below (g := gb556) (o := .cells #[.int .i64 a0_0, .int .i64 a0_1, .int .i64 a0_2, .int .i64 a0_3] 75 (0, 0)) (by (with_reducible repeat (first | refine blk_drewN ?_ _ | refine blk_drew ?_ | refine blk_alloc ?_ _)); exact BK556.out) hb)
          have n2_ := Aside0.mk (blk_below (g := gb557) (o := .cells #[.int .i64 a1_0, .int .i64 a1_1, .int .i64 a1_2, .int .i64 a1_3] 77 (0, 0)) (by (with_reducible repeat (first | refine blk_drewN ?_ _ | refine blk_drew ?_ | refine blk_alloc ?_ _)); exact BK557.out) hb)
          have n3_ := Aside0.mk (below_step (by repeat (first | (with_reducible first | exact HB.out | apply below_alloc | apply pw_below_drewN | apply below_drew1 | refine below_set ?_ GE556.out | refine below_set ?_ GE557.out) | exact HB.out)) hb)
          clear BK556
          clear BK557
          clear HB
          have HO561 := n0_
          have BK556 := n1_
          have BK557 := n2_
          have HB := n3_
          clear n0_ n1_ n2_ n3_
          (try clear hb)
          (try clear hb2)
          (try clear hk)
          (try clear hi)
          (try clear ho0)
          obtain ⟨Ao19, co19, eo19⟩ := Kd.R_slice HO561.out
          (first | subst eo19 | (injection eo19 with f1_ f2_ f3_; have f4_ := f1_.symm; have f5_ := f3_.symm; clear f1_ f2_ f3_; subst f4_; subst f5_))
          refine hK.out _ _ ⟨(blk_cell BK556.out 0).trans rfl, (blk_cell BK556.out 1).trans rfl, (blk_cell BK556.out 2).trans rfl, (blk_cell BK556.out 3).trans rfl, (blk_cell BK557.out 0).trans rfl, (blk_cell BK557.out 1).trans rfl, (blk_cell BK557.out 2).trans rfl, (blk_cell BK557.out 3).trans rfl⟩ (fun hHeld => ?_)
          clear hK K
          refine norm_ (a' := ?_) ?_ ?_
          rotate_left
          · show Act.put _ (some 29) _ = _
            simp only [Act.put, List.setIfInBounds_toArray, List.set_cons_zero, List.set_cons_succ, i64_w, i32_w]
            rfl
          refine one_ (i := 4) (N := some 30) #[true, true, true, true, true, false, false, false, false, false] rfl rfl (one_of HT_.out (by kernel_rfl)) (by decide) (fun K hK => ?_)
          refine goes_ Tryz.func58 (by kernel_rfl) rfl #[.agg #[.int .i64 a0_0, .int .i64 a0_1, .int .i64 a0_2, .int .i64 a0_3], .agg #[.int .i64 a1_0, .int .i64 a1_1, .int .i64 a1_2, .int .i64 a1_3], .slice Ao19 t559.length co19] (by rfl) rfl rfl (by (try simp only [List.map_toArray, List.map_cons, List.map_nil]); first | done | rfl | (simp only [List.length_drop, List.length_take]; rfl)) ?_
          with_reducible refine (governor_GateRun.calls a0_0 a0_1 a0_2 a0_3 a1_0 a1_1 a1_2 a1_3 _ _ t559 t562 t565 _ ?side1 ?side2 A14.out).mono ?_
          (case side1 => repeat (first | exact (Kd.R_reads' HO561.out).2.2 | (with_reducible refine Kd.C_alloc ?_ _) | (with_reducible refine Kd.C_drewN ?_ _) | (with_reducible refine Kd.C_drew ?_)))
          (case side2 => exact (Kd.R_reads' HO561.out).2.1)
          rintro e w20 ⟨v563, rfl, ho0, hb⟩
          refine ⟨_, rfl, ?_⟩
          have n0_ := Aside0.mk (Kd.R_elder' (by (with_reducible repeat (first | apply Kd.R_alloc | apply Kd.R_drewN | apply Kd.R_drew)); exact HO561.out) (Kd.R_base ho0) hb)
          have n1_ := Aside0.mk (Kd.R_lower (Kd.R_new' ho0 (Kd.R_lt (by (with_reducible repeat (first | apply Kd.R_alloc | apply Kd.R_drewN | apply Kd.R_drew)); exact HO561.out))) (below_size (by repeat (first | (with_reducible first | exact HB.out | apply below_alloc | apply pw_below_drewN | apply below_drew1 | refine below_set ?_ GE556.out | refine below_set ?_ GE557.out) | exact HB.out))))
          have n2_ := Aside0.mk (blk_below (g := gb556) (o := .cells #[.int .i64 a0_0, .int .i64 a0_1, .int .i64 a0_2, .int .i64 a0_3] 75 (0, 0)) (by (with_reducible repeat (first | refine blk_drewN ?_ _ | refine blk_drew ?_ | refine blk_alloc ?_ _)); exact BK556.out) hb)
          have n3_ := Aside0.mk (blk_below (g := gb557) (o := .cells #[.int .i64 a1_0, .int .i64 a1_1, .int .i64 a1_2, .int .i64 a1_3] 77 (0, 0)) (by (with_reducible repeat (first | refine blk_drewN ?_ _ | refine blk_drew ?_ | refine blk_alloc ?_ _)); exact BK557.out) hb)
          have n4_ := Aside0.mk (below_step (by repeat (first | (with_reducible first | exact HB.out | apply below_alloc | apply pw_below_drewN | apply below_drew1 | refine below_set ?_ GE556.out | refine below_set ?_ GE557.out) | exact HB.out)) hb)
          clear HO561
          clear BK556
          clear BK557
          clear HB
          have HO561 := n0_
          have HO564 := n1_
          have BK556 := n2_
          have BK557 := n3_
          have HB := n4_
          clear n0_ n1_ n2_ n3_ n4_
          (try clear hb)
          (try clear hb2)
          (try clear hk)
          (try clear hi)
          (try clear ho0)
          refine hK.out _ _ ⟨(blk_cell BK556.out 0).trans rfl, (blk_cell BK556.out 1).trans rfl, (blk_cell BK556.out 2).trans rfl, (blk_cell BK556.out 3).trans rfl, (blk_cell BK557.out 0).trans rfl, (blk_cell BK557.out 1).trans rfl, (blk_cell BK557.out 2).trans rfl, (blk_cell BK557.out 3).trans rfl⟩ (fun hHeld => ?_)
          clear hK K
          refine norm_ (a' := ?_) ?_ ?_
          rotate_left
          · show Act.put _ (some 30) _ = _
            simp only [Act.put, List.setIfInBounds_toArray, List.set_cons_zero, List.set_cons_succ, i64_w, i32_w]
            rfl
          refine pure_ (i := 5) (N := some 25) (v := ?_) (a' := ?_) #[true, true, true, true, true, true, false, false, false, false] rfl rfl (any_of HT_.out (by kernel_rfl)) (fun _ _ _ h => h) (Or.inl ⟨by rfl, ?_⟩) ?_ ?_
          rotate_left
          · intro w'
            go_simp
            with_reducible rfl
          rotate_left
          · simp only [Act.put, List.setIfInBounds_toArray, List.set_cons_zero, List.set_cons_succ, i64_w, i32_w]
            rfl
          refine pure_ (i := 6) (N := some 31) (v := ?_) (a' := ?_) #[true, true, true, true, true, true, true, false, false, false] rfl rfl (any_of HT_.out (by kernel_rfl)) (fun _ _ _ h => h) (Or.inl ⟨by rfl, ?_⟩) ?_ ?_
          rotate_left
          · intro w'
            go_simp
            with_reducible rfl
          rotate_left
          · simp only [Act.put, List.setIfInBounds_toArray, List.set_cons_zero, List.set_cons_succ, i64_w, i32_w]
            rfl
          refine pure_ (i := 7) (N := some 32) (v := ?_) (a' := ?_) #[true, true, true, true, true, true, true, true, false, false] rfl rfl (any_of HT_.out (by kernel_rfl)) (fun _ _ _ h => h) (Or.inl ⟨by rfl, ?_⟩) ?_ ?_
          rotate_left
          · intro w'
            go_simp
            with_reducible rfl
          rotate_left
          · simp only [Act.put, List.setIfInBounds_toArray, List.set_cons_zero, List.set_cons_succ, i64_w, i32_w]
            rfl
          refine pure_ (i := 8) (N := some 7) (v := ?_) (a' := ?_) #[true, true, true, true, true, true, true, true, true, false] rfl rfl (any_of HT_.out (by kernel_rfl)) (fun _ _ _ h => h) (Or.inl ⟨by rfl, ?_⟩) ?_ ?_
          rotate_left
          · intro w'
            go_simp
            with_reducible rfl
          rotate_left
          · simp only [Act.put, List.setIfInBounds_toArray, List.set_cons_zero, List.set_cons_succ, i64_w, i32_w]
            rfl
          refine pure_ (i := 9) (N := some 8) (v := ?_) (a' := ?_) #[true, true, true, true, true, true, true, true, true, true] rfl rfl (any_of HT_.out (by kernel_rfl)) (fun _ _ _ h => h) (Or.inl ⟨by rfl, ?_⟩) ?_ ?_
          rotate_left
          · intro w'
            go_simp
            with_reducible rfl
          rotate_left
          · simp only [Act.put, List.setIfInBounds_toArray, List.set_cons_zero, List.set_cons_succ, i64_w, i32_w]
            rfl
          refine done_ (done_of HT_.out (by kernel_rfl)) ?_
          have hnb21 := NB556_557.out
          have hnc21 := NB557_556.out
          have hcz22_0 : w20.cell? ⟨gb556, 0, none⟩ = some (.int .i64 a0_0) := (blk_cell BK556.out 0).trans rfl
          have hcz22_1 : w20.cell? ⟨gb556, 1, none⟩ = some (.int .i64 a0_1) := (blk_cell BK556.out 1).trans rfl
          have hcz22_2 : w20.cell? ⟨gb556, 2, none⟩ = some (.int .i64 a0_2) := (blk_cell BK556.out 2).trans rfl
          have hcz22_3 : w20.cell? ⟨gb556, 3, none⟩ = some (.int .i64 a0_3) := (blk_cell BK556.out 3).trans rfl
          have hfz22_0 := blk_frozen BK556.out 0
          have hfz22_1 := blk_frozen BK556.out 1
          have hfz22_2 := blk_frozen BK556.out 2
          have hfz22_3 := blk_frozen BK556.out 3
          go_upto_if 36 with (first | ((with_reducible refine gate_callee (f := 50) rfl ?_); refine goesL_ (some 34) rfl rfl Tryz.func50 (by kernel_rfl) rfl #[.agg #[.int .i64 a0_0, .int .i64 a0_1, .int .i64 a0_2, .int .i64 a0_3]] rfl (by (try simp only [List.map_toArray, List.map_cons, List.map_nil]); first | done | rfl | (simp only [List.length_drop, List.length_take]; rfl)) ?_; (with_reducible refine (guidevaneref06_GateErr.calls kj5 a0_0 a0_1 a0_2 a0_3 t566 _ A15.out).mono ?_); rintro e w23 ⟨rfl, hb⟩; refine ⟨_, rfl, ?_⟩; have n0_ := Aside0.mk (Kd.R_below (by (with_reducible repeat (first | apply Kd.R_alloc | apply Kd.R_drewN | apply Kd.R_drew)); exact HO561.out) hb); have n1_ := Aside0.mk (Kd.R_below (by (with_reducible repeat (first | apply Kd.R_alloc | apply Kd.R_drewN | apply Kd.R_drew)); exact HO564.out) hb); have n2_ := Aside0.mk (blk_below (g := gb556) (o := .cells #[.int .i64 a0_0, .int .i64 a0_1, .int .i64 a0_2, .int .i64 a0_3] 75 (0, 0)) (by (with_reducible repeat (first | refine blk_drewN ?_ _ | refine blk_drew ?_ | refine blk_alloc ?_ _)); exact BK556.out) hb); have n3_ := Aside0.mk (blk_below (g := gb557) (o := .cells #[.int .i64 a1_0, .int .i64 a1_1, .int .i64 a1_2, .int .i64 a1_3] 77 (0, 0)) (by (with_reducible repeat (first | refine blk_drewN ?_ _ | refine blk_drew ?_ | refine blk_alloc ?_ _)); exact BK557.out) hb); have n4_ := Aside0.mk (below_step (by repeat (first | (with_reducible first | exact HB.out | apply below_alloc | apply pw_below_drewN | apply below_drew1 | refine below_set ?_ GE556.out | refine below_set ?_ GE557.out) | exact HB.out)) hb); clear HO561; clear HO564; clear BK556; clear BK557; clear HB; have HO561 := n0_; have HO564 := n1_; have BK556 := n2_; have BK557 := n3_; have HB := n4_; clear n0_ n1_ n2_ n3_ n4_; (try clear hb); (try clear hb2); (try clear hk); (try clear hi)))
          (try simp only [Act.put, List.setIfInBounds_toArray, List.set_cons_zero, List.set_cons_succ])
          go_cut [9] (fun v9 wc => ∃ (kq : Nat) (x9_15 : Int), v9 = .int .i64 x9_15 ∧ Aside0 (guidevanelaw06_GovernorRuns.j1 kq l2 t562 t565 x9_15 a0_0 a0_1 a0_2 a0_3 a1_0 a1_1 a1_2 a1_3 = some r) ∧ Aside0 (kq ≤ kj5) ∧ Aside0 (Kd.R (Kd.int .i64) 3 wc w.heap.size (fun _ => True) v563 t562) ∧ Aside0 (wc.heap[gb556]? = some (.cells #[.int .i64 a0_0, .int .i64 a0_1, .int .i64 a0_2, .int .i64 a0_3] 75 (0, 0))) ∧ Aside0 (wc.heap[gb557]? = some (.cells #[.int .i64 a1_0, .int .i64 a1_1, .int .i64 a1_2, .int .i64 a1_3] 77 (0, 0))) ∧ Aside0 (Below w.heap.size w wc))
          case first =>
            have H := HC16.out
            clear HC16
            by_cases c24 : t566 = 0
            · rw [if_pos c24] at H
              have c24b0 : (t566 == 0) = true := beq_iff_eq.mpr c24
              have c24b1 : (t566 != 0) = false := bne_eq_false_iff_eq.mpr c24
              clear c24
              (first | rw [c24b0] | (simp only [i64_w, i32_w]; rw [c24b0]) | skip)
              replace H := Option.bind_eq_some_iff.mp H
              obtain ⟨t567, A250, H⟩ := H
              replace H : (guidevanelaw06_GovernorRuns.j1 kj5 l2 t562 t565 t567 a0_0 a0_1 a0_2 a0_3 a1_0 a1_1 a1_2 a1_3) = some r := H
              have A25 := Aside0.mk A250
              clear A250
              have H' := Aside0.mk H
              clear H
              have hnb26 := NB557_556.out
              have hnc26 := NB556_557.out
              have hcz27_0 : w23.cell? ⟨gb557, 0, none⟩ = some (.int .i64 a1_0) := (blk_cell BK557.out 0).trans rfl
              have hcz27_1 : w23.cell? ⟨gb557, 1, none⟩ = some (.int .i64 a1_1) := (blk_cell BK557.out 1).trans rfl
              have hcz27_2 : w23.cell? ⟨gb557, 2, none⟩ = some (.int .i64 a1_2) := (blk_cell BK557.out 2).trans rfl
              have hcz27_3 : w23.cell? ⟨gb557, 3, none⟩ = some (.int .i64 a1_3) := (blk_cell BK557.out 3).trans rfl
              have hfz27_0 := blk_frozen BK557.out 0
              have hfz27_1 := blk_frozen BK557.out 1
              have hfz27_2 := blk_frozen BK557.out 2
              have hfz27_3 := blk_frozen BK557.out 3
              go_wp2_with (first | ((with_reducible refine gate_callee (f := 51) rfl ?_); refine goesL_ (some 38) rfl rfl Tryz.func51 (by kernel_rfl) rfl #[.agg #[.int .i64 a1_0, .int .i64 a1_1, .int .i64 a1_2, .int .i64 a1_3]] rfl (by (try simp only [List.map_toArray, List.map_cons, List.map_nil]); first | done | rfl | (simp only [List.length_drop, List.length_take]; rfl)) ?_; (with_reducible refine (guidevaneref06_RulesErr.calls a1_0 a1_1 a1_2 a1_3 t567 _ A25.out).mono ?_); rintro e w28 ⟨rfl, hb⟩; refine ⟨_, rfl, ?_⟩; have n0_ := Aside0.mk (Kd.R_below (by (with_reducible repeat (first | apply Kd.R_alloc | apply Kd.R_drewN | apply Kd.R_drew)); exact HO561.out) hb); have n1_ := Aside0.mk (Kd.R_below (by (with_reducible repeat (first | apply Kd.R_alloc | apply Kd.R_drewN | apply Kd.R_drew)); exact HO564.out) hb); have n2_ := Aside0.mk (blk_below (g := gb556) (o := .cells #[.int .i64 a0_0, .int .i64 a0_1, .int .i64 a0_2, .int .i64 a0_3] 75 (0, 0)) (by (with_reducible repeat (first | refine blk_drewN ?_ _ | refine blk_drew ?_ | refine blk_alloc ?_ _)); exact BK556.out) hb); have n3_ := Aside0.mk (blk_below (g := gb557) (o := .cells #[.int .i64 a1_0, .int .i64 a1_1, .int .i64 a1_2, .int .i64 a1_3] 77 (0, 0)) (by (with_reducible repeat (first | refine blk_drewN ?_ _ | refine blk_drew ?_ | refine blk_alloc ?_ _)); exact BK557.out) hb); have n4_ := Aside0.mk (below_step (by repeat (first | (with_reducible first | exact HB.out | apply below_alloc | apply pw_below_drewN | apply below_drew1 | refine below_set ?_ GE556.out | refine below_set ?_ GE557.out) | exact HB.out)) hb); clear HO561; clear HO564; clear BK556; clear BK557; clear HB; have HO561 := n0_; have HO564 := n1_; have BK556 := n2_; have BK557 := n3_; have HB := n4_; clear n0_ n1_ n2_ n3_ n4_; (try clear hb); (try clear hb2); (try clear hk); (try clear hi)))
              go_meet
              case rel => exact ⟨_, (t567), (by first | rfl | (simp; done) | (simp [*]; done)), H', ⟨by have := HJ5.out; first | omega | exact Nat.le_refl _⟩, ⟨by (with_reducible repeat (first | apply Kd.R_alloc | apply Kd.R_drewN | apply Kd.R_drew)); exact Kd.R_mono HO564.out (fun _ hk => trivial)⟩, ⟨by (with_reducible repeat (first | refine blk_drewN ?_ _ | refine blk_drew ?_ | refine blk_alloc ?_ _)); exact BK556.out⟩, ⟨by (with_reducible repeat (first | refine blk_drewN ?_ _ | refine blk_drew ?_ | refine blk_alloc ?_ _)); exact BK557.out⟩, ⟨by repeat (first | (with_reducible first | exact HB.out | apply below_alloc | apply pw_below_drewN | apply below_drew1 | refine below_set ?_ GE556.out | refine below_set ?_ GE557.out) | exact HB.out)⟩⟩
            · rw [if_neg c24] at H
              have c24b0 : (t566 == 0) = false := beq_eq_false_iff_ne.mpr c24
              have c24b1 : (t566 != 0) = true := bne_iff_ne.mpr c24
              (first | rw [c24b0] | (simp only [i64_w, i32_w]; rw [c24b0]) | skip)
              have H' := Aside0.mk H
              clear H
              go_wp2
              go_meet
              case rel => exact ⟨_, (t566), (by first | rfl | (simp; done) | (simp [*]; done)), H', ⟨by have := HJ5.out; first | omega | exact Nat.le_refl _⟩, ⟨by (with_reducible repeat (first | apply Kd.R_alloc | apply Kd.R_drewN | apply Kd.R_drew)); exact Kd.R_mono HO564.out (fun _ hk => trivial)⟩, ⟨by (with_reducible repeat (first | refine blk_drewN ?_ _ | refine blk_drew ?_ | refine blk_alloc ?_ _)); exact BK556.out⟩, ⟨by (with_reducible repeat (first | refine blk_drewN ?_ _ | refine blk_drew ?_ | refine blk_alloc ?_ _)); exact BK557.out⟩, ⟨by repeat (first | (with_reducible first | exact HB.out | apply below_alloc | apply pw_below_drewN | apply below_drew1 | refine below_set ?_ GE556.out | refine below_set ?_ GE557.out) | exact HB.out)⟩⟩
          case rest =>
            clear HC16
            try clear c1
            try clear c2
            try clear p2
            try clear c5
            try clear c8
            try clear c10
            try clear c10b0
            try clear c10b1
            try clear c11
            try clear c11b0
            try clear c11b1
            try clear c12
            try clear c16
            try clear c19
            try clear c21
            try clear c24
            try clear c24b0
            try clear c24b1
            try clear c26
            try clear hcz22_0
            try clear hcz22_1
            try clear hcz22_2
            try clear hcz22_3
            try clear hcz27_0
            try clear hcz27_1
            try clear hcz27_2
            try clear hcz27_3
            try clear hfz22_0
            try clear hfz22_1
            try clear hfz22_2
            try clear hfz22_3
            try clear hfz27_0
            try clear hfz27_1
            try clear hfz27_2
            try clear hfz27_3
            try clear p2
            obtain ⟨kq, x9_15, rfl, HA, HJ15, HO_7, BK556, BK557, HB⟩ := hcut
            cases kq with
            | zero => exact absurd HA.out (by simp [guidevanelaw06_GovernorRuns.j1])
            | succ kj15 =>
              have H := HA.out
              clear HA
              simp only [guidevanelaw06_GovernorRuns.j1] at H
              have HC29 := Aside0.mk H
              clear H
              go_upto_if 40 with (fail)
              go_cut [9] (fun v9 wc => ∃ (kq : Nat) (x9_28 : Int), v9 = .int .i64 x9_28 ∧ Aside0 (guidevanelaw06_GovernorRuns.j2 kq l2 t562 t565 x9_28 a0_0 a0_1 a0_2 a0_3 a1_0 a1_1 a1_2 a1_3 = some r) ∧ Aside0 (kq ≤ kj15) ∧ Aside0 (Kd.R (Kd.int .i64) 3 wc w.heap.size (fun _ => True) v563 t562) ∧ Aside0 (wc.heap[gb556]? = some (.cells #[.int .i64 a0_0, .int .i64 a0_1, .int .i64 a0_2, .int .i64 a0_3] 75 (0, 0))) ∧ Aside0 (wc.heap[gb557]? = some (.cells #[.int .i64 a1_0, .int .i64 a1_1, .int .i64 a1_2, .int .i64 a1_3] 77 (0, 0))) ∧ Aside0 (Below w.heap.size w wc))
              case first =>
                have H := HC29.out
                clear HC29
                by_cases c30 : x9_15 = 0
                · rw [if_pos c30] at H
                  have c30b0 : (x9_15 == 0) = true := beq_iff_eq.mpr c30
                  have c30b1 : (x9_15 != 0) = false := bne_eq_false_iff_eq.mpr c30
                  clear c30
                  (first | rw [c30b0] | (simp only [i64_w, i32_w]; rw [c30b0]) | skip)
                  replace H := Option.bind_eq_some_iff.mp H
                  obtain ⟨t568, A310, H⟩ := H
                  replace H : (guidevanelaw06_GovernorRuns.j2 kj15 l2 t562 t565 t568 a0_0 a0_1 a0_2 a0_3 a1_0 a1_1 a1_2 a1_3) = some r := H
                  have A31 := Aside0.mk A310
                  clear A310
                  have H' := Aside0.mk H
                  clear H
                  go_wp2_with (first | ((with_reducible refine gate_callee (f := 59) rfl ?_); refine goesL_ (some 42) rfl rfl Tryz.func59 (by kernel_rfl) rfl #[.slice A2 l2.length c2] rfl (by (try simp only [List.map_toArray, List.map_cons, List.map_nil]); first | done | rfl | (simp only [List.length_drop, List.length_take]; rfl)) ?_; (with_reducible refine (guidevaneref06_DeviationsErr.calls kj15 _ _ l2 t568 _ ?side1 ?side2 A31.out).mono ?_); (case side1 => repeat (first | exact (Kd.C_below HR2.out HB.out) | (with_reducible refine Kd.C_alloc ?_ _) | (with_reducible refine Kd.C_drewN ?_ _) | (with_reducible refine Kd.C_drew ?_))); (case side2 => exact HC2.out); rintro e w' ⟨rfl, ⟨nd, rfl⟩⟩; refine ⟨_, rfl, ?_⟩))
                  go_meet
                  case rel => exact ⟨_, (t568), (by first | rfl | (simp; done) | (simp [*]; done)), H', ⟨by have := HJ5.out; have := HJ15.out; first | omega | exact Nat.le_refl _⟩, ⟨by (with_reducible repeat (first | apply Kd.R_alloc | apply Kd.R_drewN | apply Kd.R_drew)); exact HO_7.out⟩, ⟨by (with_reducible repeat (first | refine blk_drewN ?_ _ | refine blk_drew ?_ | refine blk_alloc ?_ _)); exact BK556.out⟩, ⟨by (with_reducible repeat (first | refine blk_drewN ?_ _ | refine blk_drew ?_ | refine blk_alloc ?_ _)); exact BK557.out⟩, ⟨by repeat (first | (with_reducible first | exact HB.out | apply below_alloc | apply pw_below_drewN | apply below_drew1 | refine below_set ?_ GE556.out | refine below_set ?_ GE557.out) | exact HB.out)⟩⟩
                · rw [if_neg c30] at H
                  have c30b0 : (x9_15 == 0) = false := beq_eq_false_iff_ne.mpr c30
                  have c30b1 : (x9_15 != 0) = true := bne_iff_ne.mpr c30
                  (first | rw [c30b0] | (simp only [i64_w, i32_w]; rw [c30b0]) | skip)
                  have H' := Aside0.mk H
                  clear H
                  go_wp2
                  go_meet
                  case rel => exact ⟨_, (x9_15), (by first | rfl | (simp; done) | (simp [*]; done)), H', ⟨by have := HJ5.out; have := HJ15.out; first | omega | exact Nat.le_refl _⟩, ⟨by (with_reducible repeat (first | apply Kd.R_alloc | apply Kd.R_drewN | apply Kd.R_drew)); exact HO_7.out⟩, ⟨by (with_reducible repeat (first | refine blk_drewN ?_ _ | refine blk_drew ?_ | refine blk_alloc ?_ _)); exact BK556.out⟩, ⟨by (with_reducible repeat (first | refine blk_drewN ?_ _ | refine blk_drew ?_ | refine blk_alloc ?_ _)); exact BK557.out⟩, ⟨by repeat (first | (with_reducible first | exact HB.out | apply below_alloc | apply pw_below_drewN | apply below_drew1 | refine below_set ?_ GE556.out | refine below_set ?_ GE557.out) | exact HB.out)⟩⟩
              case rest =>
                clear HC29
                try clear c1
                try clear c2
                try clear p2
                try clear c3
                try clear c5
                try clear c8
                try clear c10
                try clear c10b0
                try clear c10b1
                try clear c11
                try clear c11b0
                try clear c11b1
                try clear c12
                try clear c16
                try clear c19
                try clear c21
                try clear c24
                try clear c24b0
                try clear c24b1
                try clear c26
                try clear c30
                try clear c30b0
                try clear c30b1
                try clear hcz22_0
                try clear hcz22_1
                try clear hcz22_2
                try clear hcz22_3
                try clear hcz27_0
                try clear hcz27_1
                try clear hcz27_2
                try clear hcz27_3
                try clear hfz22_0
                try clear hfz22_1
                try clear hfz22_2
                try clear hfz22_3
                try clear hfz27_0
                try clear hfz27_1
                try clear hfz27_2
                try clear hfz27_3
                try clear p2
                obtain ⟨kq, x9_28, rfl, HA, HJ28, HO_7, BK556, BK557, HB⟩ := hcut
                cases kq with
                | zero => exact absurd HA.out (by simp [guidevanelaw06_GovernorRuns.j2])
                | succ kj28 =>
                  have H := HA.out
                  clear HA
                  simp only [guidevanelaw06_GovernorRuns.j2] at H
                  by_cases c32 : x9_28 = 0
                  · rw [if_pos c32] at H
                    have c32b0 : (x9_28 == 0) = true := beq_iff_eq.mpr c32
                    have c32b1 : (x9_28 != 0) = false := bne_eq_false_iff_eq.mpr c32
                    clear c32
                    by_cases c33 : t565 = 0
                    · rw [if_pos c33] at H
                      have c33b0 : (t565 == 0) = true := beq_iff_eq.mpr c33
                      have c33b1 : (t565 != 0) = false := bne_eq_false_iff_eq.mpr c33
                      clear c33
                      replace H := Option.bind_eq_some_iff.mp H
                      obtain ⟨t569, A340, H⟩ := H
                      replace H : ((guidevanebase_Ints.f kj28 t562 t569).bind fun t572 => (some t572)) = some r := H
                      have A34 := Aside0.mk A340
                      clear A340
                      replace H := Option.bind_eq_some_iff.mp H
                      obtain ⟨t572, A350, H⟩ := H
                      replace H : (some t572) = some r := H
                      have A35 := Aside0.mk A350
                      clear A350
                      obtain rfl := Option.some.inj H
                      have hnb36 := NB556_557.out
                      have hnc36 := NB557_556.out
                      have hcz37_0 : wc.cell? ⟨gb556, 0, none⟩ = some (.int .i64 a0_0) := (blk_cell BK556.out 0).trans rfl
                      have hcz37_1 : wc.cell? ⟨gb556, 1, none⟩ = some (.int .i64 a0_1) := (blk_cell BK556.out 1).trans rfl
                      have hcz37_2 : wc.cell? ⟨gb556, 2, none⟩ = some (.int .i64 a0_2) := (blk_cell BK556.out 2).trans rfl
                      have hcz37_3 : wc.cell? ⟨gb556, 3, none⟩ = some (.int .i64 a0_3) := (blk_cell BK556.out 3).trans rfl
                      have hfz37_0 := blk_frozen BK556.out 0
                      have hfz37_1 := blk_frozen BK556.out 1
                      have hfz37_2 := blk_frozen BK556.out 2
                      have hfz37_3 := blk_frozen BK556.out 3
                      have hcz38_0 : wc.cell? ⟨gb557, 0, none⟩ = some (.int .i64 a1_0) := (blk_cell BK557.out 0).trans rfl
                      have hcz38_1 : wc.cell? ⟨gb557, 1, none⟩ = some (.int .i64 a1_1) := (blk_cell BK557.out 1).trans rfl
                      have hcz38_2 : wc.cell? ⟨gb557, 2, none⟩ = some (.int .i64 a1_2) := (blk_cell BK557.out 2).trans rfl
                      have hcz38_3 : wc.cell? ⟨gb557, 3, none⟩ = some (.int .i64 a1_3) := (blk_cell BK557.out 3).trans rfl
                      have hfz38_0 := blk_frozen BK557.out 0
                      have hfz38_1 := blk_frozen BK557.out 1
                      have hfz38_2 := blk_frozen BK557.out 2
                      have hfz38_3 := blk_frozen BK557.out 3
                      go_wp2_with (first | (go_at_call 60; (with_reducible refine (guidevaneref06_Run.calls kj28 a0_0 a0_1 a0_2 a0_3 a1_0 a1_1 a1_2 a1_3 _ _ l2 t569 _ ?side1 ?side2 A34.out).mono ?_); (case side1 => repeat (first | exact (Kd.C_below HR2.out HB.out) | (with_reducible refine Kd.C_alloc ?_ _) | (with_reducible refine Kd.C_drewN ?_ _) | (with_reducible refine Kd.C_drew ?_))); (case side2 => exact HC2.out); rintro e w39 ⟨v570, rfl, ho0, hb⟩; have n0_ := Aside0.mk (Kd.R_elder' (by (with_reducible repeat (first | apply Kd.R_alloc | apply Kd.R_drewN | apply Kd.R_drew)); exact HO_7.out) (Kd.R_base ho0) hb); have n1_ := Aside0.mk (Kd.R_lower (Kd.R_new' ho0 (Kd.R_lt (by (with_reducible repeat (first | apply Kd.R_alloc | apply Kd.R_drewN | apply Kd.R_drew)); exact HO_7.out))) (below_size (by repeat (first | (with_reducible first | exact HB.out | apply below_alloc | apply pw_below_drewN | apply below_drew1 | refine below_set ?_ GE556.out | refine below_set ?_ GE557.out) | exact HB.out)))); have n2_ := Aside0.mk (blk_below (g := gb556) (o := .cells #[.int .i64 a0_0, .int .i64 a0_1, .int .i64 a0_2, .int .i64 a0_3] 75 (0, 0)) (by (with_reducible repeat (first | refine blk_drewN ?_ _ | refine blk_drew ?_ | refine blk_alloc ?_ _)); exact BK556.out) hb); have n3_ := Aside0.mk (blk_below (g := gb557) (o := .cells #[.int .i64 a1_0, .int .i64 a1_1, .int .i64 a1_2, .int .i64 a1_3] 77 (0, 0)) (by (with_reducible repeat (first | refine blk_drewN ?_ _ | refine blk_drew ?_ | refine blk_alloc ?_ _)); exact BK557.out) hb); have n4_ := Aside0.mk (below_step (by repeat (first | (with_reducible first | exact HB.out | apply below_alloc | apply pw_below_drewN | apply below_drew1 | refine below_set ?_ GE556.out | refine below_set ?_ GE557.out) | exact HB.out)) hb); clear HO_7; clear BK556; clear BK557; clear HB; have HO_7 := n0_; have HO571 := n1_; have BK556 := n2_; have BK557 := n3_; have HB := n4_; clear n0_ n1_ n2_ n3_ n4_; (try clear hb); (try clear hb2); (try clear hk); (try clear hi); (try clear ho0); obtain ⟨Ao40, co40, eo40⟩ := Kd.R_slice HO_7.out; subst eo40; obtain ⟨Ao41, co41, eo41⟩ := Kd.R_slice HO571.out; subst eo41) | (go_at_call 26; (with_reducible refine (guidevanebase_Ints.calls kj28 _ _ t562 _ _ t569 t572 _ ?side1 ?side2 ?side3 ?side4 A35.out).mono ?_); (case side1 => repeat (first | exact (Kd.R_reads' HO_7.out).2.2 | (with_reducible refine Kd.C_alloc ?_ _) | (with_reducible refine Kd.C_drewN ?_ _) | (with_reducible refine Kd.C_drew ?_))); (case side2 => exact (Kd.R_reads' HO_7.out).2.1); (case side3 => repeat (first | exact (Kd.R_reads' HO571.out).2.2 | (with_reducible refine Kd.C_alloc ?_ _) | (with_reducible refine Kd.C_drewN ?_ _) | (with_reducible refine Kd.C_drew ?_))); (case side4 => exact (Kd.R_reads' HO571.out).2.1); rintro e w' ⟨rfl, ⟨nd, rfl⟩⟩))
                      go_ret
                      exact ⟨by first | rfl | (simp [errW_none, errW_some] <;> rfl) | (simp [*, errW_none, errW_some] <;> rfl), by repeat (first | (with_reducible first | exact HB.out | apply below_alloc | apply pw_below_drewN | apply below_drew1 | refine below_set ?_ GE556.out | refine below_set ?_ GE557.out) | exact HB.out)⟩
                    · rw [if_neg c33] at H
                      have c33b0 : (t565 == 0) = false := beq_eq_false_iff_ne.mpr c33
                      have c33b1 : (t565 != 0) = true := bne_iff_ne.mpr c33
                      obtain rfl := Option.some.inj H
                      go_wp2
                      go_ret
                      exact ⟨by first | rfl | (simp [errW_none, errW_some] <;> rfl) | (simp [*, errW_none, errW_some] <;> rfl), by repeat (first | (with_reducible first | exact HB.out | apply below_alloc | apply pw_below_drewN | apply below_drew1 | refine below_set ?_ GE556.out | refine below_set ?_ GE557.out) | exact HB.out)⟩
                  · rw [if_neg c32] at H
                    have c32b0 : (x9_28 == 0) = false := beq_eq_false_iff_ne.mpr c32
                    have c32b1 : (x9_28 != 0) = true := bne_iff_ne.mpr c32
                    by_cases c42 : t565 = x9_28
                    · rw [if_pos c42] at H
                      have c42b0 : (t565 == x9_28) = true := beq_iff_eq.mpr c42
                      have c42b1 : (t565 != x9_28) = false := bne_eq_false_iff_eq.mpr c42
                      clear c42
                      obtain rfl := Option.some.inj H
                      obtain ⟨Ao43, co43, eo43⟩ := Kd.R_slice HO_7.out
                      subst eo43
                      go_wp2
                      go_ret
                      exact ⟨by first | rfl | (simp [errW_none, errW_some] <;> rfl) | (simp [*, errW_none, errW_some] <;> rfl), by repeat (first | (with_reducible first | exact HB.out | apply below_alloc | apply pw_below_drewN | apply below_drew1 | refine below_set ?_ GE556.out | refine below_set ?_ GE557.out) | exact HB.out)⟩
                    · rw [if_neg c42] at H
                      have c42b0 : (t565 == x9_28) = false := beq_eq_false_iff_ne.mpr c42
                      have c42b1 : (t565 != x9_28) = true := bne_iff_ne.mpr c42
                      obtain rfl := Option.some.inj H
                      go_wp2
                      go_ret
                      exact ⟨by first | rfl | (simp [errW_none, errW_some] <;> rfl) | (simp [*, errW_none, errW_some] <;> rfl), by repeat (first | (with_reducible first | exact HB.out | apply below_alloc | apply pw_below_drewN | apply below_drew1 | refine below_set ?_ GE556.out | refine below_set ?_ GE557.out) | exact HB.out)⟩
  · replace c5 := Bool.eq_false_iff.mpr c5
    subst c5
    have H1 : (some false) = some r := by rw [if_neg (show ¬ (false = true) by decide)] at H; exact H
    clear H
    have H := H1
    clear H1
    obtain rfl := Option.some.inj H
    go_enter Tryz.func8, Tryz.ntmps8
    go_wp2_with (first | ((with_reducible refine gate_dst (N := 3) rfl ?_); (try (refine gate_guard (by rfl) ?_; dsimp only)); refine box_event ?hg (N := 3) ?hd (cs := #[.int .i64 a0_0, .int .i64 a0_1, .int .i64 a0_2, .int .i64 a0_3]) (t := 75) ?hr ?_; (case hd => rfl); (case hg => rfl); (case hr => first | (go_simp; done) | (go_simp; rfl)); intro gb556 hg w44 hbox hb; have n0_ := Aside0.mk (below_step (by repeat (first | (with_reducible first | exact HB.out | apply below_alloc | apply pw_below_drewN | apply below_drew1) | exact HB.out)) hb); have n1_ := Aside0.mk (hbox); have n2_ := Aside0.mk ((by rw [hg]; exact (below_size (by repeat (first | (with_reducible first | exact HB.out | apply below_alloc | apply pw_below_drewN | apply below_drew1) | exact HB.out))) : w.heap.size ≤ gb556)); have n3_ := Aside0.mk ((by rw [hg]; exact (below_size (by repeat (first | (with_reducible first | exact HB.out | apply below_alloc | apply pw_below_drewN | apply below_drew1) | exact HB.out))) : w.heap.size ≤ gb556)); clear HB; have HB := n0_; have BK556 := n1_; have GW556 := n2_; have GE556 := n3_; clear n0_ n1_ n2_ n3_; clear hb hbox hg) | ((with_reducible refine gate_dst (N := 4) rfl ?_); (try (refine gate_guard (by rfl) ?_; dsimp only)); refine box_event ?hg (N := 4) ?hd (cs := #[.int .i64 a1_0, .int .i64 a1_1, .int .i64 a1_2, .int .i64 a1_3]) (t := 77) ?hr ?_; (case hd => rfl); (case hg => rfl); (case hr => first | (go_simp; done) | (go_simp; rfl)); intro gb557 hg w45 hbox hb; have n0_ := Aside0.mk (blk_below (g := gb556) (o := .cells #[.int .i64 a0_0, .int .i64 a0_1, .int .i64 a0_2, .int .i64 a0_3] 75 (0, 0)) (by (with_reducible repeat (first | refine blk_drewN ?_ _ | refine blk_drew ?_ | refine blk_alloc ?_ _)); exact BK556.out) hb); have n1_ := Aside0.mk (below_step (by repeat (first | (with_reducible first | exact HB.out | apply below_alloc | apply pw_below_drewN | apply below_drew1 | refine below_set ?_ GE556.out) | exact HB.out)) hb); have n2_ := Aside0.mk (hbox); have n3_ := Aside0.mk ((by rw [hg]; exact (below_size (by repeat (first | (with_reducible first | exact HB.out | apply below_alloc | apply pw_below_drewN | apply below_drew1 | refine below_set ?_ GE556.out) | exact HB.out))) : w.heap.size ≤ gb557)); have n4_ := Aside0.mk ((by rw [hg]; exact (below_size (by repeat (first | (with_reducible first | exact HB.out | apply below_alloc | apply pw_below_drewN | apply below_drew1 | refine below_set ?_ GE556.out) | exact HB.out))) : w.heap.size ≤ gb557)); have n5_ := Aside0.mk ((by rw [hg]; exact Nat.ne_of_lt (blk_lt (g := gb556) (o := .cells #[.int .i64 a0_0, .int .i64 a0_1, .int .i64 a0_2, .int .i64 a0_3] 75 (0, 0)) (by (with_reducible repeat (first | refine blk_drewN ?_ _ | refine blk_drew ?_ | refine blk_alloc ?_ _)); exact BK556.out)) : gb556 ≠ gb557)); have n6_ := Aside0.mk ((by rw [hg]; exact Nat.ne_of_gt (blk_lt (g := gb556) (o := .cells #[.int .i64 a0_0, .int .i64 a0_1, .int .i64 a0_2, .int .i64 a0_3] 75 (0, 0)) (by (with_reducible repeat (first | refine blk_drewN ?_ _ | refine blk_drew ?_ | refine blk_alloc ?_ _)); exact BK556.out)) : gb557 ≠ gb556)); clear BK556; clear HB; have BK556 := n0_; have HB := n1_; have BK557 := n2_; have GW557 := n3_; have GE557 := n4_; have NB556_557 := n5_; have NB557_556 := n6_; clear n0_ n1_ n2_ n3_ n4_ n5_ n6_; clear hb hbox hg) | ((with_reducible refine gate_callee (f := 16) rfl ?_); refine goesL_ (some 10) rfl rfl Tryz.func16 (by kernel_rfl) rfl #[] rfl (by (try simp only [List.map_toArray, List.map_cons, List.map_nil]); first | done | rfl | (simp only [List.length_drop, List.length_take]; rfl)) ?_; (with_reducible refine (guidevanelaw06_awake.calls  false _ A4.out).mono ?_); rintro e w46 ⟨rfl, hb⟩; refine ⟨_, rfl, ?_⟩; have n0_ := Aside0.mk (blk_below (g := gb556) (o := .cells #[.int .i64 a0_0, .int .i64 a0_1, .int .i64 a0_2, .int .i64 a0_3] 75 (0, 0)) (by (with_reducible repeat (first | refine blk_drewN ?_ _ | refine blk_drew ?_ | refine blk_alloc ?_ _)); exact BK556.out) hb); have n1_ := Aside0.mk (blk_below (g := gb557) (o := .cells #[.int .i64 a1_0, .int .i64 a1_1, .int .i64 a1_2, .int .i64 a1_3] 77 (0, 0)) (by (with_reducible repeat (first | refine blk_drewN ?_ _ | refine blk_drew ?_ | refine blk_alloc ?_ _)); exact BK557.out) hb); have n2_ := Aside0.mk (below_step (by repeat (first | (with_reducible first | exact HB.out | apply below_alloc | apply pw_below_drewN | apply below_drew1 | refine below_set ?_ GE556.out | refine below_set ?_ GE557.out) | exact HB.out)) hb); clear BK556; clear BK557; clear HB; have BK556 := n0_; have BK557 := n1_; have HB := n2_; clear n0_ n1_ n2_; (try clear hb); (try clear hb2); (try clear hk); (try clear hi)))
    go_ret
    exact ⟨by first | rfl | (simp [errW_none, errW_some] <;> rfl) | (simp [*, errW_none, errW_some] <;> rfl), by repeat (first | (with_reducible first | exact HB.out | apply below_alloc | apply pw_below_drewN | apply below_drew1 | refine below_set ?_ GE556.out | refine below_set ?_ GE557.out) | exact HB.out)⟩
end Go.Proofs.YtmpondcccbmlhaaGreat.Q
namespace Go.Proofs.YtmpondcccbmlhaaGreat.Ext
open Go.RowKit Go.Proofs.YtmpondcccbmlhaaGreatW.PrintWords Go.Proofs.YtmpondcccbmlhaaGreatW.PrintLast Go.Proofs.YtmpondcccbmlhaaGreatW.PrintMore
theorem devs_loop (l : List Int) (hl : l.length ≤ 1000) : ∀ (d k i : Nat), l.length - i = d → i ≤ l.length → d < k →
    Q.guidevaneref06_DeviationsErr.l0 k l (i : Int) = some (firstBad (fun i => speedErr (l.getD i 0)) i d).2 := by
  intro d
  induction d with
  | zero =>
    intro k i hd hi hk
    obtain ⟨k, rfl⟩ : ∃ k', k = k' + 1 := ⟨k - 1, by omega⟩
    rw [Q.guidevaneref06_DeviationsErr.l0, if_neg (by omega)]
    rfl
  | succ d ih =>
    intro k i hd hi hk
    obtain ⟨k, rfl⟩ : ∃ k', k = k' + 1 := ⟨k - 1, by omega⟩
    rw [Q.guidevaneref06_DeviationsErr.l0, if_pos (by omega), if_pos (by omega), rd_nat, rspeedErr_eval]
    simp only [Option.bind_some]
    by_cases hs : speedErr (l.getD i 0) = 0
    · rw [if_pos hs, w64 (by omega) (by omega), firstBad_skip _ _ _ hs]
      have := ih k (i + 1) (by omega) (by omega) (by omega)
      rw [show ((i + 1 : Nat) : Int) = (i : Int) + 1 by omega] at this
      exact this
    · rw [if_neg hs, firstBad_hit _ _ _ hs]
theorem rdevs_eval (l : List Int) (h : l.length ≤ 1000) (k : Nat) (hk : 1000 < k) : Q.guidevaneref06_DeviationsErr.f k l = some (if (l.length : Int) ≤ 200 then devsErr l else 8) := by
  unfold Q.guidevaneref06_DeviationsErr.f
  by_cases hl : (l.length : Int) ≤ 200
  · rw [if_neg (by omega), if_pos hl]
    have := devs_loop l h l.length k 0 (by omega) (by omega) (by omega)
    exact this
  · rw [if_pos (by omega), if_neg hl]
theorem step_in {at_ lo hi rate : Int} (hg : gateErr at_ lo hi rate = 0) (x : Int) : gateErr (stepOf at_ lo hi rate x) lo hi rate = 0 := by
  obtain ⟨h1, h2, h3, h4, h5, h6⟩ := gate_of hg
  have hb : lo ≤ stepOf at_ lo hi rate x ∧ stepOf at_ lo hi rate x ≤ hi := by
    unfold stepOf goalOf
    rw [w64 (n := at_ - rate) (by omega) (by omega), w64 (n := at_ + rate) (by omega) (by omega)]
    unfold mx mn
    (repeat' split) <;> omega
  unfold gateErr
  rw [if_pos (by omega), if_pos (by omega), if_pos hb]
theorem run_loop (lo hi rate b n d s : Int) (l : List Int) (hl : l.length ≤ 1000) (hr : rulesErr b n d s = 0) (hs : ∀ i, i < l.length → speedErr (l.getD i 0) = 0) : ∀ (m k i : Nat) (acc : List Int) (at_ : Int), l.length - i = m → i ≤ l.length → acc.length = i → gateErr at_ lo hi rate = 0 → m < k →
    Q.guidevaneref06_Run.l0 k l acc (i : Int) at_ lo hi rate b n d s = some (acc ++ runFrom lo hi rate b n d s at_ (l.drop i)) := by
  intro m
  induction m with
  | zero =>
    intro k i acc at_ hd hi0 hacc hg hk
    obtain ⟨k, rfl⟩ : ∃ k', k = k' + 1 := ⟨k - 1, by omega⟩
    rw [Q.guidevaneref06_Run.l0, if_neg (by omega), show i = l.length by omega, List.drop_length]
    simp [runFrom]
  | succ m ih =>
    intro k i acc at_ hd hi0 hacc hg hk
    obtain ⟨k, rfl⟩ : ∃ k', k = k' + 1 := ⟨k - 1, by omega⟩
    have hil : i < l.length := by omega
    rw [Q.guidevaneref06_Run.l0, if_pos (by omega), if_pos (by omega), rd_nat, rwanted_eval hr (hs i hil)]
    simp only [Option.bind_some]
    rw [rstep_eval hg]
    simp only [Option.bind_some]
    rw [if_pos (by omega), w64 (by omega) (by omega)]
    have := ih k (i + 1) (acc ++ [stepOf at_ lo hi rate (wantOf b n d s (l.getD i 0))]) (stepOf at_ lo hi rate (wantOf b n d s (l.getD i 0))) (by omega) (by omega) (by simp [hacc]) (step_in hg _) (by omega)
    rw [show ((i + 1 : Nat) : Int) = (i : Int) + 1 by omega] at this
    rw [this, runFrom_step lo hi rate b n d s at_ l i hil, List.append_assoc]
    rfl
theorem runFrom_len (lo hi rate b n d s : Int) : ∀ (l : List Int) (at_ : Int), (runFrom lo hi rate b n d s at_ l).length = l.length := by
  intro l
  induction l with
  | nil => intro _; rfl
  | cons x xs ih => intro at_; simp [runFrom, ih]
theorem pure_runs (at_ lo hi rate b n d s : Int) (l : List Int) (k : Nat) (hk : 2000 < k) : Q.guidevanelaw06_GovernorRuns.f k at_ lo hi rate b n d s l = some true := by
  unfold Q.guidevanelaw06_GovernorRuns.f guidevanelaw06_awake.f
  simp only [Option.bind_some, if_true]
  have hj : ∀ c : Bool, (c = false → l.length ≤ 202) → Q.guidevanelaw06_GovernorRuns.j0 k l c at_ lo hi rate b n d s = some true := by
    intro c hc
    obtain ⟨k, rfl⟩ : ∃ k', k = k' + 3 := ⟨k - 3, by omega⟩
    rw [Q.guidevanelaw06_GovernorRuns.j0]
    cases c with
    | true => rfl
    | false =>
      have hl := hc rfl
      rw [if_neg (by decide), copy_eval l (by omega)]
      simp only [Option.bind_some]
      unfold governor_GateRun.f
      simp only [Option.bind_some]
      rw [rgateErr_eval _ _ _ _ (k + 2) (by omega)]
      simp only [Option.bind_some]
      have hbad : ∀ e : Int, ¬ e = 0 → runErr at_ lo hi rate b n d s l = e → ∀ q : Nat, Q.guidevanelaw06_GovernorRuns.j2 (q + 1) l (if runErr at_ lo hi rate b n d s l = 0 then (runFrom lo hi rate b n d s at_ l, (0 : Int)) else ([], runErr at_ lo hi rate b n d s l)).1 (if runErr at_ lo hi rate b n d s l = 0 then (runFrom lo hi rate b n d s at_ l, (0 : Int)) else ([], runErr at_ lo hi rate b n d s l)).2 e at_ lo hi rate b n d s = some true := by
        intro e he hE q
        rw [hE]
        simp only [if_neg he]
        rw [Q.guidevanelaw06_GovernorRuns.j2, if_neg he, if_pos rfl]
        rfl
      by_cases hg : gateErr at_ lo hi rate = 0
      · rw [if_pos hg, rrulesErr_eval]
        simp only [Option.bind_some]
        rw [Q.guidevanelaw06_GovernorRuns.j1]
        by_cases hr : rulesErr b n d s = 0
        · rw [if_pos hr, rdevs_eval l (by omega) (k + 1) (by omega)]
          simp only [Option.bind_some]
          have hE : runErr at_ lo hi rate b n d s l = if (l.length : Int) ≤ 200 then devsErr l else 8 := by unfold runErr; rw [if_pos hg, if_pos hr]
          by_cases h0 : (if (l.length : Int) ≤ 200 then devsErr l else 8) = 0
          · have h2 : (l.length : Int) ≤ 200 := by
              by_cases h2 : (l.length : Int) ≤ 200
              · exact h2
              · rw [if_neg h2] at h0; omega
            have hdv : devsErr l = 0 := by rw [if_pos h2] at h0; exact h0
            have hs : ∀ i, i < l.length → speedErr (l.getD i 0) = 0 := fun i hi => firstBad_nil2 (chk := fun i => speedErr (l.getD i 0)) hdv i (by omega) (by omega)
            rw [hE, h0]
            simp only [if_true]
            rw [Q.guidevanelaw06_GovernorRuns.j2, if_pos rfl, if_pos rfl]
            unfold Q.guidevaneref06_Run.f
            have := run_loop lo hi rate b n d s l (by omega) hr hs l.length k 0 [] at_ (by omega) (by omega) rfl hg (by omega)
            rw [show ((0 : Nat) : Int) = 0 from rfl, List.nil_append, List.drop_zero] at this
            rw [this]
            simp only [Option.bind_some]
            rw [ints_eval _ _ (by rw [runFrom_len]; omega) k (by rw [runFrom_len]; omega)]
            simp
          · exact hbad _ h0 hE k
        · rw [if_neg hr]
          exact hbad _ hr (by unfold runErr; rw [if_pos hg, if_neg hr]) k
      · rw [if_neg hg, Q.guidevanelaw06_GovernorRuns.j1, if_neg hg]
        exact hbad _ hg (by unfold runErr; rw [if_neg hg]) k
  by_cases h1 : (l.length : Int) > 60
  · rw [if_pos h1]
    by_cases h2 : (l.length : Int) ≤ 200
    · rw [if_pos h2]; exact hj true (fun h => by cases h)
    · rw [if_neg h2]; exact hj _ (fun h => by rw [decide_eq_false_iff_not] at h; omega)
  · rw [if_neg h1]; exact hj _ (fun h => by rw [decide_eq_false_iff_not] at h; omega)
end Go.Proofs.YtmpondcccbmlhaaGreat.Ext
