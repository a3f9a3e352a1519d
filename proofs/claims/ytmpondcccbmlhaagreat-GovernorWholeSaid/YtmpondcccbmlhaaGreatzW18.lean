/- A part of the claim W: the texts Q6, without what the claim does not lean on. -/
import Derived.ArgAppend
import Derived.Below
import Derived.BigQuiet
import Derived.Deep.AppendLies
import Derived.Deep.CutBlock
import Derived.Deep.DeepCutAuto
import Derived.Deep.Draws
import Derived.Deep.LoopGhost
import Derived.Deep.OwnRows
import Derived.Deep.QuietTactic
import Derived.Deep.RegionHeld3
import Derived.KernelRfl
import Derived.Laws.BitsLemmas
import Derived.Laws.BytesArg
import Derived.Laws.IdiomCopy
import Derived.Laws.MakeOwn
import Derived.Laws.OwnMore
import Derived.Laws.Rows
import Derived.Laws.Slices
import Derived.Laws.StructEq
import Derived.Lib.AppendStr
import Derived.Lib.ConvBytes
import Derived.Maps.AppendAt
import Derived.OrdersHeld
import Derived.OwnWalk
import Derived.RowKit
import Derived.RowKit3
import Derived.Tactics
import Derived.WalkKit
import Derived.WideLaws
import Derived.Test.YtmpondcccbmlhaaGreatProg
import Derived.Test.YtmpondcccbmlhaaGreatzW0
import Derived.Test.YtmpondcccbmlhaaGreatzW1
import Derived.Test.YtmpondcccbmlhaaGreatzW2
import Derived.Test.YtmpondcccbmlhaaGreatzW3
import Derived.Test.YtmpondcccbmlhaaGreatzW4
import Derived.Test.YtmpondcccbmlhaaGreatzW5
import Derived.Test.YtmpondcccbmlhaaGreatzW6
import Derived.Test.YtmpondcccbmlhaaGreatzW10
namespace Go.Proofs.YtmpondcccbmlhaaGreat.Q
open Go.RowKit Go.Proofs.YtmpondcccbmlhaaGreatW.PrintWords Go.Proofs.YtmpondcccbmlhaaGreatW.PrintLast Go.Proofs.YtmpondcccbmlhaaGreatW.PrintMore
attribute [local go_sem] max2_int min2_int max_two min_two max_three min_three max_four min_four   
set_option linter.unusedVariables false
set_option linter.unusedSimpArgs false
mutual
def guidevaneref06_CheckBox.l0 : Nat → Int → List (S58) → Option (Int × Int)
  | 0, _, _ => none
  | k + 1, x5, x199000 => if x5 < (x199000.length : Int) then (if 0 ≤ x5 then ((guidevanebase_Within.f ((rd_T58 x199000 x5).f0) (-1000) 1000).bind fun t203 => (if t203 = true then ((guidevanebase_Within.f ((rd_T58 x199000 x5).f1) (-1000) 1000).bind fun t204 => (guidevaneref06_CheckBox.j1 k x5 (!t204) x199000 ((rd_T58 x199000 x5).f0) ((rd_T58 x199000 x5).f1))) else (guidevaneref06_CheckBox.j1 k x5 true x199000 ((rd_T58 x199000 x5).f0) ((rd_T58 x199000 x5).f1)))) else (none)) else (if 0 < (x199000.length : Int) then (if ((rd_T58 x199000 0).f0) < 1 then (some (0, 3)) else (some (0, 0))) else (none))
def guidevaneref06_CheckBox.j1 : Nat → Int → Bool → List (S58) → Int → Int → Option (Int × Int)
  | 0, _, _, _, _, _ => none
  | k + 1, x5, x35, x199000, x203000, x203001 => if x35 = true then (some (x5, 2)) else (if x203000 > x203001 then (some (x5, 9)) else (guidevaneref06_CheckBox.l0 k (wrap64 (x5 + 1)) x199000))
end
def guidevaneref06_CheckBox.f (k : Nat) (l0_0 : List (S58)) : Option (Int × Int) := (guidevaneref06_shapeErr.f (l0_0.length : Int)).bind fun t199 => (if t199 = 0 then (guidevaneref06_CheckBox.l0 k 0 l0_0) else (some (0, t199)))
set_option maxHeartbeats 8000000 in
set_option maxRecDepth 100000 in
theorem guidevaneref06_CheckBox.calls (k : Nat) (A0_0 : Option Addr) (c0_0 : Nat) (l0_0 : List (S58)) (r1 : Int) (r2 : Int) (w : World) (hr0_0 : Kd.C k58 w A0_0 l0_0.length l0_0) (hc0_0 : l0_0.length ≤ c0_0) (h : guidevaneref06_CheckBox.f k l0_0 = some (r1, r2)) :
    Calls Tryz.prog 31 #[.agg #[.slice A0_0 l0_0.length c0_0]] w fun e w' => e = .returned (.tuple #[.int .i64 r1, .int .i64 r2]) ∧ Below w.heap.size w w' := by
  have hu42 := Tryz.underlying42
  have hu58 := Tryz.underlying58
  have HR0_0 := Aside0.mk hr0_0
  have HC0_0 := Aside0.mk hc0_0
  clear hr0_0 hc0_0
  have HB := Aside0.mk (Below.refl w.heap.size w)
  have H : ((guidevaneref06_shapeErr.f (l0_0.length : Int)).bind fun t199 => (if t199 = 0 then (guidevaneref06_CheckBox.l0 k 0 l0_0) else (some (0, t199)))) = some (r1, r2) := h
  clear h
  replace H := Option.bind_eq_some_iff.mp H
  obtain ⟨t199, A20, H⟩ := H
  replace H : (if t199 = 0 then (guidevaneref06_CheckBox.l0 k 0 l0_0) else (some (0, t199))) = some (r1, r2) := H
  have A2 := Aside0.mk A20
  clear A20
  by_cases c3 : t199 = 0
  · rw [if_pos c3] at H
    have c3b0 : (t199 == 0) = true := beq_iff_eq.mpr c3
    have c3b1 : (t199 != 0) = false := bne_eq_false_iff_eq.mpr c3
    clear c3
    have H' := Aside0.mk H
    clear H
    go_enter Tryz.func31, Tryz.ntmps31
    go_wp2_with (first | ((with_reducible refine gate_dst (N := 1) rfl ?_); refine box_event ?hg (N := 1) ?hd (cs := #[.slice A0_0 l0_0.length c0_0]) (t := 42) ?hr ?_; (case hd => rfl); (case hg => rfl); (case hr => first | (go_simp; done) | (go_simp; rfl)); intro gb198 hg w4 hbox hb; have n0_ := Aside0.mk (below_step (by repeat (first | (with_reducible first | exact HB.out | apply below_alloc | apply pw_below_drewN | apply below_drew1) | exact HB.out)) hb); have n1_ := Aside0.mk (hbox); have n2_ := Aside0.mk ((by rw [hg]; exact (below_size (by repeat (first | (with_reducible first | exact HB.out | apply below_alloc | apply pw_below_drewN | apply below_drew1) | exact HB.out))) : w.heap.size ≤ gb198)); have n3_ := Aside0.mk ((by rw [hg]; exact (below_size (by repeat (first | (with_reducible first | exact HB.out | apply below_alloc | apply pw_below_drewN | apply below_drew1) | exact HB.out))) : w.heap.size ≤ gb198)); clear HB; have HB := n0_; have BK198 := n1_; have GW198 := n2_; have GE198 := n3_; clear n0_ n1_ n2_ n3_; clear hb hbox hg; have hcz5_0 : w4.cell? ⟨gb198, 0, none⟩ = some (.slice A0_0 l0_0.length c0_0) := (blk_cell BK198.out 0).trans rfl; have hfz5_0 := blk_frozen BK198.out 0) | ((with_reducible refine gate_callee (f := 97) rfl ?_); refine goesL_ (some 10) rfl rfl Tryz.func97 (by kernel_rfl) rfl #[.int .i64 (l0_0.length : Int)] rfl (by (try simp only [List.map_toArray, List.map_cons, List.map_nil]); first | done | rfl | (simp only [List.length_drop, List.length_take]; rfl)) ?_; (with_reducible refine (guidevaneref06_shapeErr.calls (l0_0.length : Int) t199 _ A2.out).mono ?_); rintro e w' ⟨rfl, ⟨nd, rfl⟩⟩; refine ⟨_, rfl, ?_⟩))
    go_loopg [5] k (fun kq v5 w' => ∃ (x5_1 : Int), v5 = .int .i64 x5_1 ∧ Aside0 (guidevaneref06_CheckBox.l0 kq x5_1 l0_0 = some (r1, r2)) ∧ Aside0 (kq ≤ k) ∧ Aside0 (w'.heap[gb198]? = some (.cells #[(.slice A0_0 l0_0.length c0_0)] 42 (0, 0))) ∧ Aside0 (Below w.heap.size w w'))
    case atStart => exact ⟨(0), (by first | rfl | (simp; done) | (simp [*]; done)), H', ⟨Nat.le_refl _⟩, ⟨by (with_reducible repeat (first | refine blk_drewN ?_ _ | refine blk_drew ?_ | refine blk_alloc ?_ _)); exact BK198.out⟩, ⟨by repeat (first | (with_reducible first | exact HB.out | apply below_alloc | apply pw_below_drewN | apply below_drew1 | refine below_set ?_ GE198.out) | exact HB.out)⟩⟩
    case round =>
      clear H'
      try clear p2
      try clear c3
      try clear c3b0
      try clear c3b1
      try clear hcz5_0
      try clear hfz5_0
      obtain ⟨x5_1, rfl, HA, HK1, BK198, HB⟩ := hrel
      cases gk with
      | zero => exact absurd HA.out (by simp [guidevaneref06_CheckBox.l0])
      | succ k1 =>
        have H := HA.out
        clear HA
        simp only [guidevaneref06_CheckBox.l0] at H
        by_cases c6 : x5_1 < (l0_0.length : Int)
        · rw [if_pos c6] at H
          have c6b0 : decide (x5_1 < (l0_0.length : Int)) = true := decide_eq_true c6
          clear c6
          by_cases c7 : 0 ≤ x5_1
          · rw [if_pos c7] at H
            have c7b0 : decide (0 ≤ x5_1) = true := decide_eq_true c7
            clear c7
            have HC8 := Aside0.mk H
            clear H
            have hcz9_0 : wr.cell? ⟨gb198, 0, none⟩ = some (.slice A0_0 l0_0.length c0_0) := (blk_cell BK198.out 0).trans rfl
            have hfz9_0 := blk_frozen BK198.out 0
            have p201 : 0 ≤ (x5_1 : Int) := of_decide_eq_true (by first | (with_reducible assumption) | assumption)
            have q201 : x5_1 < (l0_0.length : Int) := of_decide_eq_true (by first | (with_reducible assumption) | assumption)
            obtain ⟨ad201, e201, hx201_0, hx201_1⟩ := at_T58 HR0_0.out x5_1 p201 q201
            cases e201
            replace hx201_0 := (HB.out.cell (World.block_lt_of_cell? w _ hx201_0)).trans hx201_0
            replace hx201_1 := (HB.out.cell (World.block_lt_of_cell? w _ hx201_1)).trans hx201_1
            replace p201 := eq_true p201
            replace q201 := eq_true q201
            go_upto_region 8 with (first | ((with_reducible refine gate_dst (N := 6) rfl ?_); refine box_event ?hg (N := 6) ?hd (cs := #[.int .i64 0, .int .i64 0]) (t := 58) ?hr ?_; (case hd => rfl); (case hg => rfl); (case hr => first | (go_simp; done) | (go_simp; rfl)); intro gb202 hg w10 hbox hb; have n0_ := Aside0.mk (blk_below (g := gb198) (o := .cells #[.slice (some ad201) l0_0.length c0_0] 42 (0, 0)) (by (with_reducible repeat (first | refine blk_drewN ?_ _ | refine blk_drew ?_ | refine blk_alloc ?_ _)); exact BK198.out) hb); have n1_ := Aside0.mk (below_step (by repeat (first | (with_reducible first | exact HB.out | apply below_alloc | apply pw_below_drewN | apply below_drew1 | refine below_set ?_ GE198.out) | exact HB.out)) hb); have n2_ := Aside0.mk (hbox); have n3_ := Aside0.mk ((by rw [hg]; exact (below_size (by repeat (first | (with_reducible first | exact HB.out | apply below_alloc | apply pw_below_drewN | apply below_drew1 | refine below_set ?_ GE198.out) | exact HB.out))) : w.heap.size ≤ gb202)); have n4_ := Aside0.mk ((by rw [hg]; exact (below_size (by repeat (first | (with_reducible first | exact HB.out | apply below_alloc | apply pw_below_drewN | apply below_drew1 | refine below_set ?_ GE198.out) | exact HB.out))) : w.heap.size ≤ gb202)); have n5_ := Aside0.mk ((by rw [hg]; exact Nat.ne_of_lt (blk_lt (g := gb198) (o := .cells #[.slice (some ad201) l0_0.length c0_0] 42 (0, 0)) (by (with_reducible repeat (first | refine blk_drewN ?_ _ | refine blk_drew ?_ | refine blk_alloc ?_ _)); exact BK198.out)) : gb198 ≠ gb202)); have n6_ := Aside0.mk ((by rw [hg]; exact Nat.ne_of_gt (blk_lt (g := gb198) (o := .cells #[.slice (some ad201) l0_0.length c0_0] 42 (0, 0)) (by (with_reducible repeat (first | refine blk_drewN ?_ _ | refine blk_drew ?_ | refine blk_alloc ?_ _)); exact BK198.out)) : gb202 ≠ gb198)); clear BK198; clear HB; have BK198 := n0_; have HB := n1_; have BK202 := n2_; have GW202 := n3_; have GE202 := n4_; have NB198_202 := n5_; have NB202_198 := n6_; clear n0_ n1_ n2_ n3_ n4_ n5_ n6_; clear hb hbox hg; have hnb11 := NB202_198.out; have hnc11 := NB198_202.out; have hcz12_0 : w10.cell? ⟨gb202, 0, none⟩ = some (.int .i64 0) := (blk_cell BK202.out 0).trans rfl; have hcz12_1 : w10.cell? ⟨gb202, 1, none⟩ = some (.int .i64 0) := (blk_cell BK202.out 1).trans rfl; have hfz12_0 := blk_frozen BK202.out 0; have hfz12_1 := blk_frozen BK202.out 1))
            (try simp only [Act.put, List.setIfInBounds_toArray, List.set_cons_zero, List.set_cons_succ])
            go_cut [35] (fun v35 wc => ∃ (kq : Nat) (x35_7 : Bool), v35 = .bool x35_7 ∧ Aside0 (guidevaneref06_CheckBox.j1 kq x5_1 x35_7 l0_0 ((rd_T58 l0_0 x5_1).f0) ((rd_T58 l0_0 x5_1).f1) = some (r1, r2)) ∧ Aside0 (kq ≤ k1) ∧ Aside0 (wc.heap[gb198]? = some (.cells #[(.slice (some ad201) l0_0.length c0_0)] 42 (0, 0))) ∧ Aside0 (wc.heap[gb202]? = some (.cells #[.int .i64 ((rd_T58 l0_0 x5_1).f0), .int .i64 ((rd_T58 l0_0 x5_1).f1)] 58 (0, 0))) ∧ Aside0 (Below w.heap.size w wc))
            case first =>
              have H := HC8.out
              clear HC8
              replace H := Option.bind_eq_some_iff.mp H
              obtain ⟨t203, A130, H⟩ := H
              replace H : (if t203 = true then ((guidevanebase_Within.f ((rd_T58 l0_0 x5_1).f1) (-1000) 1000).bind fun t204 => (guidevaneref06_CheckBox.j1 k1 x5_1 (!t204) l0_0 ((rd_T58 l0_0 x5_1).f0) ((rd_T58 l0_0 x5_1).f1))) else (guidevaneref06_CheckBox.j1 k1 x5_1 true l0_0 ((rd_T58 l0_0 x5_1).f0) ((rd_T58 l0_0 x5_1).f1))) = some (r1, r2) := H
              have A13 := Aside0.mk A130
              clear A130
              by_cases c14 : t203 = true
              · subst c14
                have H1 : ((guidevanebase_Within.f ((rd_T58 l0_0 x5_1).f1) (-1000) 1000).bind fun t204 => (guidevaneref06_CheckBox.j1 k1 x5_1 (!t204) l0_0 ((rd_T58 l0_0 x5_1).f0) ((rd_T58 l0_0 x5_1).f1))) = some (r1, r2) := by rw [if_pos rfl] at H; exact H
                clear H
                have H := H1
                clear H1
                replace H := Option.bind_eq_some_iff.mp H
                obtain ⟨t204, A150, H⟩ := H
                replace H : (guidevaneref06_CheckBox.j1 k1 x5_1 (!t204) l0_0 ((rd_T58 l0_0 x5_1).f0) ((rd_T58 l0_0 x5_1).f1)) = some (r1, r2) := H
                have A15 := Aside0.mk A150
                clear A150
                have H' := Aside0.mk H
                clear H
                have hnb16 := NB202_198.out
                have hnc16 := NB198_202.out
                have hcz17_0 : w10.cell? ⟨gb202, 0, none⟩ = some (.int .i64 0) := (blk_cell BK202.out 0).trans rfl
                have hcz17_1 : w10.cell? ⟨gb202, 1, none⟩ = some (.int .i64 0) := (blk_cell BK202.out 1).trans rfl
                have hfz17_0 := blk_frozen BK202.out 0
                have hfz17_1 := blk_frozen BK202.out 1
                go_wp2_with (first | ((with_reducible refine gate_callee (f := 68) rfl ?_); refine goesL_ (some 28) rfl rfl Tryz.func68 (by kernel_rfl) rfl #[.int .i64 ((rd_T58 l0_0 x5_1).f0), .int .i64 (-1000), .int .i64 1000] rfl (by (try simp only [List.map_toArray, List.map_cons, List.map_nil]); first | done | rfl | (simp only [List.length_drop, List.length_take]; rfl)) ?_; (with_reducible refine (guidevanebase_Within.calls ((rd_T58 l0_0 x5_1).f0) (-1000) 1000 true _ A13.out).mono ?_); rintro e w' ⟨rfl, ⟨nd, rfl⟩⟩; refine ⟨_, rfl, ?_⟩) | (go_at_call 68; (with_reducible refine (guidevanebase_Within.calls ((rd_T58 l0_0 x5_1).f1) (-1000) 1000 t204 _ A15.out).mono ?_); rintro e w' ⟨rfl, ⟨nd, rfl⟩⟩))
                go_meet
                case rel => exact ⟨_, (!t204), (by first | rfl | (simp; done) | (simp [*]; done)), H', ⟨by have := HK1.out; first | omega | exact Nat.le_refl _⟩, ⟨by (with_reducible repeat (first | refine blk_drewN ?_ _ | refine blk_drew ?_ | refine blk_alloc ?_ _)); refine blk_far ?_ NB198_202.out _; (with_reducible repeat (first | refine blk_drewN ?_ _ | refine blk_drew ?_ | refine blk_alloc ?_ _)); refine blk_far ?_ NB198_202.out _; (with_reducible repeat (first | refine blk_drewN ?_ _ | refine blk_drew ?_ | refine blk_alloc ?_ _)); exact BK198.out⟩, ⟨by (with_reducible repeat (first | refine blk_drewN ?_ _ | refine blk_drew ?_ | refine blk_alloc ?_ _)); refine blk_put (cs := #[.int .i64 ((rd_T58 l0_0 x5_1).f0), .int .i64 0]) ?_ 1 _ rfl; (with_reducible repeat (first | refine blk_drewN ?_ _ | refine blk_drew ?_ | refine blk_alloc ?_ _)); refine blk_put (cs := #[.int .i64 0, .int .i64 0]) ?_ 0 _ rfl; (with_reducible repeat (first | refine blk_drewN ?_ _ | refine blk_drew ?_ | refine blk_alloc ?_ _)); exact BK202.out⟩, ⟨by repeat (first | (with_reducible first | exact HB.out | apply below_alloc | apply pw_below_drewN | apply below_drew1 | refine below_set ?_ GE198.out | refine below_set ?_ GE202.out) | exact HB.out)⟩⟩
              · replace c14 := Bool.eq_false_iff.mpr c14
                subst c14
                have H1 : (guidevaneref06_CheckBox.j1 k1 x5_1 true l0_0 ((rd_T58 l0_0 x5_1).f0) ((rd_T58 l0_0 x5_1).f1)) = some (r1, r2) := by rw [if_neg (show ¬ (false = true) by decide)] at H; exact H
                clear H
                have H := H1
                clear H1
                have H' := Aside0.mk H
                clear H
                have hnb18 := NB202_198.out
                have hnc18 := NB198_202.out
                have hcz19_0 : w10.cell? ⟨gb202, 0, none⟩ = some (.int .i64 0) := (blk_cell BK202.out 0).trans rfl
                have hcz19_1 : w10.cell? ⟨gb202, 1, none⟩ = some (.int .i64 0) := (blk_cell BK202.out 1).trans rfl
                have hfz19_0 := blk_frozen BK202.out 0
                have hfz19_1 := blk_frozen BK202.out 1
                go_wp2_with (first | ((with_reducible refine gate_callee (f := 68) rfl ?_); refine goesL_ (some 28) rfl rfl Tryz.func68 (by kernel_rfl) rfl #[.int .i64 ((rd_T58 l0_0 x5_1).f0), .int .i64 (-1000), .int .i64 1000] rfl (by (try simp only [List.map_toArray, List.map_cons, List.map_nil]); first | done | rfl | (simp only [List.length_drop, List.length_take]; rfl)) ?_; (with_reducible refine (guidevanebase_Within.calls ((rd_T58 l0_0 x5_1).f0) (-1000) 1000 false _ A13.out).mono ?_); rintro e w' ⟨rfl, ⟨nd, rfl⟩⟩; refine ⟨_, rfl, ?_⟩))
                go_meet
                case rel => exact ⟨_, (true), (by first | rfl | (simp; done) | (simp [*]; done)), H', ⟨by have := HK1.out; first | omega | exact Nat.le_refl _⟩, ⟨by (with_reducible repeat (first | refine blk_drewN ?_ _ | refine blk_drew ?_ | refine blk_alloc ?_ _)); refine blk_far ?_ NB198_202.out _; (with_reducible repeat (first | refine blk_drewN ?_ _ | refine blk_drew ?_ | refine blk_alloc ?_ _)); refine blk_far ?_ NB198_202.out _; (with_reducible repeat (first | refine blk_drewN ?_ _ | refine blk_drew ?_ | refine blk_alloc ?_ _)); exact BK198.out⟩, ⟨by (with_reducible repeat (first | refine blk_drewN ?_ _ | refine blk_drew ?_ | refine blk_alloc ?_ _)); refine blk_put (cs := #[.int .i64 ((rd_T58 l0_0 x5_1).f0), .int .i64 0]) ?_ 1 _ rfl; (with_reducible repeat (first | refine blk_drewN ?_ _ | refine blk_drew ?_ | refine blk_alloc ?_ _)); refine blk_put (cs := #[.int .i64 0, .int .i64 0]) ?_ 0 _ rfl; (with_reducible repeat (first | refine blk_drewN ?_ _ | refine blk_drew ?_ | refine blk_alloc ?_ _)); exact BK202.out⟩, ⟨by repeat (first | (with_reducible first | exact HB.out | apply below_alloc | apply pw_below_drewN | apply below_drew1 | refine below_set ?_ GE198.out | refine below_set ?_ GE202.out) | exact HB.out)⟩⟩
            case rest =>
              clear HC8
              try clear c1
              try clear p2
              try clear q2
              try clear hx2
              try clear c3
              try clear c3b0
              try clear c3b1
              try clear c6
              try clear c6b0
              try clear c7
              try clear c7b0
              try clear c9
              try clear c11
              try clear c14
              try clear c16
              try clear c18
              try clear hcz12_0
              try clear hcz12_1
              try clear hcz17_0
              try clear hcz17_1
              try clear hcz19_0
              try clear hcz19_1
              try clear hcz5_0
              try clear hcz9_0
              try clear hfz12_0
              try clear hfz12_1
              try clear hfz17_0
              try clear hfz17_1
              try clear hfz19_0
              try clear hfz19_1
              try clear hfz5_0
              try clear hfz9_0
              try clear hx201_0
              try clear hx201_1
              try clear p2
              try clear p201
              try clear q201
              obtain ⟨kq, x35_7, rfl, HA, HJ7, BK198, BK202, HB⟩ := hcut
              cases kq with
              | zero => exact absurd HA.out (by simp [guidevaneref06_CheckBox.j1])
              | succ kj7 =>
                have H := HA.out
                clear HA
                simp only [guidevaneref06_CheckBox.j1] at H
                by_cases c20 : x35_7 = true
                · subst c20
                  have H1 : (some (x5_1, 2)) = some (r1, r2) := by rw [if_pos rfl] at H; exact H
                  clear H
                  have H := H1
                  clear H1
                  simp only [Option.some.injEq, Prod.mk.injEq] at H
                  obtain ⟨rfl, rfl⟩ := H
                  go_wp2
                  go_ret2
                  exact ⟨by first | rfl | (simp [errW_none, errW_some] <;> rfl) | (simp [*, errW_none, errW_some] <;> rfl), by repeat (first | (with_reducible first | exact HB.out | apply below_alloc | apply pw_below_drewN | apply below_drew1 | refine below_set ?_ GE198.out | refine below_set ?_ GE202.out) | exact HB.out)⟩
                · replace c20 := Bool.eq_false_iff.mpr c20
                  subst c20
                  have H1 : (if ((rd_T58 l0_0 x5_1).f0) > ((rd_T58 l0_0 x5_1).f1) then (some (x5_1, 9)) else (guidevaneref06_CheckBox.l0 kj7 (wrap64 (x5_1 + 1)) l0_0)) = some (r1, r2) := by rw [if_neg (show ¬ (false = true) by decide)] at H; exact H
                  clear H
                  have H := H1
                  clear H1
                  by_cases c21 : ((rd_T58 l0_0 x5_1).f0) > ((rd_T58 l0_0 x5_1).f1)
                  · rw [if_pos c21] at H
                    have c21b0 : decide (((rd_T58 l0_0 x5_1).f1) < ((rd_T58 l0_0 x5_1).f0)) = true := decide_eq_true c21
                    clear c21
                    simp only [Option.some.injEq, Prod.mk.injEq] at H
                    obtain ⟨rfl, rfl⟩ := H
                    have hnb22 := NB202_198.out
                    have hnc22 := NB198_202.out
                    have hcz23_0 : wc.cell? ⟨gb202, 0, none⟩ = some (.int .i64 ((rd_T58 l0_0 x5_1).f0)) := (blk_cell BK202.out 0).trans rfl
                    have hcz23_1 : wc.cell? ⟨gb202, 1, none⟩ = some (.int .i64 ((rd_T58 l0_0 x5_1).f1)) := (blk_cell BK202.out 1).trans rfl
                    have hfz23_0 := blk_frozen BK202.out 0
                    have hfz23_1 := blk_frozen BK202.out 1
                    go_wp2
                    go_ret2
                    exact ⟨by first | rfl | (simp [errW_none, errW_some] <;> rfl) | (simp [*, errW_none, errW_some] <;> rfl), by repeat (first | (with_reducible first | exact HB.out | apply below_alloc | apply pw_below_drewN | apply below_drew1 | refine below_set ?_ GE198.out | refine below_set ?_ GE202.out) | exact HB.out)⟩
                  · rw [if_neg c21] at H
                    have c21b0 : decide (((rd_T58 l0_0 x5_1).f1) < ((rd_T58 l0_0 x5_1).f0)) = false := decide_eq_false c21
                    clear c21
                    have H' := Aside0.mk H
                    clear H
                    have hnb24 := NB202_198.out
                    have hnc24 := NB198_202.out
                    have hcz25_0 : wc.cell? ⟨gb202, 0, none⟩ = some (.int .i64 ((rd_T58 l0_0 x5_1).f0)) := (blk_cell BK202.out 0).trans rfl
                    have hcz25_1 : wc.cell? ⟨gb202, 1, none⟩ = some (.int .i64 ((rd_T58 l0_0 x5_1).f1)) := (blk_cell BK202.out 1).trans rfl
                    have hfz25_0 := blk_frozen BK202.out 0
                    have hfz25_1 := blk_frozen BK202.out 1
                    go_wp2
                    go_roundg kj7
                    case measure => have := HK1.out; have := HJ7.out; omega
                    case rel => exact ⟨(wrap64 (x5_1 + 1)), (by first | rfl | (simp; done) | (simp [*]; done)), H', ⟨by have := HK1.out; have := HJ7.out; omega⟩, ⟨by (with_reducible repeat (first | refine blk_drewN ?_ _ | refine blk_drew ?_ | refine blk_alloc ?_ _)); exact BK198.out⟩, ⟨by repeat (first | (with_reducible first | exact HB.out | apply below_alloc | apply pw_below_drewN | apply below_drew1 | refine below_set ?_ GE198.out | refine below_set ?_ GE202.out) | exact HB.out)⟩⟩
          · rw [if_neg c7] at H
            exact absurd H (by simp)
        · rw [if_neg c6] at H
          have c6b0 : decide (x5_1 < (l0_0.length : Int)) = false := decide_eq_false c6
          clear c6
          by_cases c26 : 0 < (l0_0.length : Int)
          · rw [if_pos c26] at H
            have c26b0 : decide (0 < (l0_0.length : Int)) = true := decide_eq_true c26
            have c26b1 : decide (0 < l0_0.length) = true := decide_eq_true (by omega)
            clear c26
            by_cases c27 : ((rd_T58 l0_0 0).f0) < 1
            · rw [if_pos c27] at H
              have c27b0 : decide (((rd_T58 l0_0 0).f0) < 1) = true := decide_eq_true c27
              clear c27
              simp only [Option.some.injEq, Prod.mk.injEq] at H
              obtain ⟨rfl, rfl⟩ := H
              have hcz28_0 : wr.cell? ⟨gb198, 0, none⟩ = some (.slice A0_0 l0_0.length c0_0) := (blk_cell BK198.out 0).trans rfl
              have hfz28_0 := blk_frozen BK198.out 0
              have p200 : 0 ≤ (0 : Int) := (by omega)
              have q200 : 0 < (l0_0.length : Int) := of_decide_eq_true (by first | (with_reducible assumption) | assumption)
              obtain ⟨ad200, e200, hx200_0, hx200_1⟩ := at_T58 HR0_0.out 0 p200 q200
              cases e200
              have qi200 : (0 < l0_0.length) = True := eq_true (by omega)
              (try rw [show ((0 : Int)).toNat = 0 from rfl] at hx200_0)
              (try rw [show 0 * 2 = 0 from rfl] at hx200_0)
              (try rw [Addr.add_zero'] at hx200_0)
              (try rw [show ((0 : Int)).toNat = 0 from rfl] at hx200_1)
              (try rw [show 0 * 2 = 0 from rfl] at hx200_1)
              (try rw [Addr.add_zero'] at hx200_1)
              replace hx200_0 := (HB.out.cell (World.block_lt_of_cell? w _ hx200_0)).trans hx200_0
              replace hx200_1 := (HB.out.cell (World.block_lt_of_cell? w _ hx200_1)).trans hx200_1
              replace p200 := eq_true p200
              replace q200 := eq_true q200
              go_wp2
              go_ret2
              exact ⟨by first | rfl | (simp [errW_none, errW_some] <;> rfl) | (simp [*, errW_none, errW_some] <;> rfl), by repeat (first | (with_reducible first | exact HB.out | apply below_alloc | apply pw_below_drewN | apply below_drew1 | refine below_set ?_ GE198.out) | exact HB.out)⟩
            · rw [if_neg c27] at H
              have c27b0 : decide (((rd_T58 l0_0 0).f0) < 1) = false := decide_eq_false c27
              clear c27
              simp only [Option.some.injEq, Prod.mk.injEq] at H
              obtain ⟨rfl, rfl⟩ := H
              have hcz29_0 : wr.cell? ⟨gb198, 0, none⟩ = some (.slice A0_0 l0_0.length c0_0) := (blk_cell BK198.out 0).trans rfl
              have hfz29_0 := blk_frozen BK198.out 0
              have p200 : 0 ≤ (0 : Int) := (by omega)
              have q200 : 0 < (l0_0.length : Int) := of_decide_eq_true (by first | (with_reducible assumption) | assumption)
              obtain ⟨ad200, e200, hx200_0, hx200_1⟩ := at_T58 HR0_0.out 0 p200 q200
              cases e200
              have qi200 : (0 < l0_0.length) = True := eq_true (by omega)
              (try rw [show ((0 : Int)).toNat = 0 from rfl] at hx200_0)
              (try rw [show 0 * 2 = 0 from rfl] at hx200_0)
              (try rw [Addr.add_zero'] at hx200_0)
              (try rw [show ((0 : Int)).toNat = 0 from rfl] at hx200_1)
              (try rw [show 0 * 2 = 0 from rfl] at hx200_1)
              (try rw [Addr.add_zero'] at hx200_1)
              replace hx200_0 := (HB.out.cell (World.block_lt_of_cell? w _ hx200_0)).trans hx200_0
              replace hx200_1 := (HB.out.cell (World.block_lt_of_cell? w _ hx200_1)).trans hx200_1
              replace p200 := eq_true p200
              replace q200 := eq_true q200
              go_wp2
              go_ret2
              exact ⟨by first | rfl | (simp [errW_none, errW_some] <;> rfl) | (simp [*, errW_none, errW_some] <;> rfl), by repeat (first | (with_reducible first | exact HB.out | apply below_alloc | apply pw_below_drewN | apply below_drew1 | refine below_set ?_ GE198.out) | exact HB.out)⟩
          · rw [if_neg c26] at H
            exact absurd H (by simp)
  · rw [if_neg c3] at H
    have c3b0 : (t199 == 0) = false := beq_eq_false_iff_ne.mpr c3
    have c3b1 : (t199 != 0) = true := bne_iff_ne.mpr c3
    simp only [Option.some.injEq, Prod.mk.injEq] at H
    obtain ⟨rfl, rfl⟩ := H
    go_enter Tryz.func31, Tryz.ntmps31
    go_wp2_with (first | ((with_reducible refine gate_dst (N := 1) rfl ?_); refine box_event ?hg (N := 1) ?hd (cs := #[.slice A0_0 l0_0.length c0_0]) (t := 42) ?hr ?_; (case hd => rfl); (case hg => rfl); (case hr => first | (go_simp; done) | (go_simp; rfl)); intro gb198 hg w30 hbox hb; have n0_ := Aside0.mk (below_step (by repeat (first | (with_reducible first | exact HB.out | apply below_alloc | apply pw_below_drewN | apply below_drew1) | exact HB.out)) hb); have n1_ := Aside0.mk (hbox); have n2_ := Aside0.mk ((by rw [hg]; exact (below_size (by repeat (first | (with_reducible first | exact HB.out | apply below_alloc | apply pw_below_drewN | apply below_drew1) | exact HB.out))) : w.heap.size ≤ gb198)); have n3_ := Aside0.mk ((by rw [hg]; exact (below_size (by repeat (first | (with_reducible first | exact HB.out | apply below_alloc | apply pw_below_drewN | apply below_drew1) | exact HB.out))) : w.heap.size ≤ gb198)); clear HB; have HB := n0_; have BK198 := n1_; have GW198 := n2_; have GE198 := n3_; clear n0_ n1_ n2_ n3_; clear hb hbox hg; have hcz31_0 : w30.cell? ⟨gb198, 0, none⟩ = some (.slice A0_0 l0_0.length c0_0) := (blk_cell BK198.out 0).trans rfl; have hfz31_0 := blk_frozen BK198.out 0) | ((with_reducible refine gate_callee (f := 97) rfl ?_); refine goesL_ (some 10) rfl rfl Tryz.func97 (by kernel_rfl) rfl #[.int .i64 (l0_0.length : Int)] rfl (by (try simp only [List.map_toArray, List.map_cons, List.map_nil]); first | done | rfl | (simp only [List.length_drop, List.length_take]; rfl)) ?_; (with_reducible refine (guidevaneref06_shapeErr.calls (l0_0.length : Int) t199 _ A2.out).mono ?_); rintro e w' ⟨rfl, ⟨nd, rfl⟩⟩; refine ⟨_, rfl, ?_⟩))
    go_ret2
    exact ⟨by first | rfl | (simp [errW_none, errW_some] <;> rfl) | (simp [*, errW_none, errW_some] <;> rfl), by repeat (first | (with_reducible first | exact HB.out | apply below_alloc | apply pw_below_drewN | apply below_drew1 | refine below_set ?_ GE198.out) | exact HB.out)⟩
def guidevaneref06_BoxErr.f (k : Nat) (l0_0 : List (S58)) : Option (Int) := (guidevaneref06_CheckBox.f k l0_0).bind fun bt275 => (some bt275.2)
set_option maxHeartbeats 8000000 in
set_option maxRecDepth 100000 in
theorem guidevaneref06_BoxErr.calls (k : Nat) (A0_0 : Option Addr) (c0_0 : Nat) (l0_0 : List (S58)) (r : Int) (w : World) (hr0_0 : Kd.C k58 w A0_0 l0_0.length l0_0) (hc0_0 : l0_0.length ≤ c0_0) (h : guidevaneref06_BoxErr.f k l0_0 = some r) :
    Calls Tryz.prog 35 #[.agg #[.slice A0_0 l0_0.length c0_0]] w fun e w' => e = .returned (.int .i64 r) ∧ Below w.heap.size w w' := by
  have hu42 := Tryz.underlying42
  have HR0_0 := Aside0.mk hr0_0
  have HC0_0 := Aside0.mk hc0_0
  clear hr0_0 hc0_0
  have HB := Aside0.mk (Below.refl w.heap.size w)
  have H : ((guidevaneref06_CheckBox.f k l0_0).bind fun bt275 => (some bt275.2)) = some r := h
  clear h
  replace H := Option.bind_eq_some_iff.mp H
  obtain ⟨⟨t275, t276⟩, A20, H⟩ := H
  replace H : (some t276) = some r := H
  have A2 := Aside0.mk A20
  clear A20
  obtain rfl := Option.some.inj H
  go_enter Tryz.func35, Tryz.ntmps35
  go_wp2_with (first | ((with_reducible refine gate_dst (N := 1) rfl ?_); refine box_event ?hg (N := 1) ?hd (cs := #[.slice A0_0 l0_0.length c0_0]) (t := 42) ?hr ?_; (case hd => rfl); (case hg => rfl); (case hr => first | (go_simp; done) | (go_simp; rfl)); intro gb274 hg w3 hbox hb; have n0_ := Aside0.mk (below_step (by repeat (first | (with_reducible first | exact HB.out | apply below_alloc | apply pw_below_drewN | apply below_drew1) | exact HB.out)) hb); have n1_ := Aside0.mk (hbox); have n2_ := Aside0.mk ((by rw [hg]; exact (below_size (by repeat (first | (with_reducible first | exact HB.out | apply below_alloc | apply pw_below_drewN | apply below_drew1) | exact HB.out))) : w.heap.size ≤ gb274)); have n3_ := Aside0.mk ((by rw [hg]; exact (below_size (by repeat (first | (with_reducible first | exact HB.out | apply below_alloc | apply pw_below_drewN | apply below_drew1) | exact HB.out))) : w.heap.size ≤ gb274)); clear HB; have HB := n0_; have BK274 := n1_; have GW274 := n2_; have GE274 := n3_; clear n0_ n1_ n2_ n3_; clear hb hbox hg; have hcz4_0 : w3.cell? ⟨gb274, 0, none⟩ = some (.slice A0_0 l0_0.length c0_0) := (blk_cell BK274.out 0).trans rfl; have hfz4_0 := blk_frozen BK274.out 0) | ((with_reducible refine gate_callee (f := 31) rfl ?_); refine goesL_ (some 7) rfl rfl Tryz.func31 (by kernel_rfl) rfl #[.agg #[.slice A0_0 l0_0.length c0_0]] rfl (by (try simp only [List.map_toArray, List.map_cons, List.map_nil]); first | done | rfl | (simp only [List.length_drop, List.length_take]; rfl)) ?_; (with_reducible refine (guidevaneref06_CheckBox.calls k _ _ l0_0 t275 t276 _ ?side1 ?side2 A2.out).mono ?_); (case side1 => repeat (first | exact (Kd.C_below HR0_0.out HB.out) | (with_reducible refine Kd.C_alloc ?_ _) | (with_reducible refine Kd.C_drewN ?_ _) | (with_reducible refine Kd.C_drew ?_))); (case side2 => exact HC0_0.out); rintro e w5 ⟨rfl, hb⟩; refine ⟨_, rfl, ?_⟩; have n0_ := Aside0.mk (blk_below (g := gb274) (o := .cells #[.slice A0_0 l0_0.length c0_0] 42 (0, 0)) (by (with_reducible repeat (first | refine blk_drewN ?_ _ | refine blk_drew ?_ | refine blk_alloc ?_ _)); exact BK274.out) hb); have n1_ := Aside0.mk (below_step (by repeat (first | (with_reducible first | exact HB.out | apply below_alloc | apply pw_below_drewN | apply below_drew1 | refine below_set ?_ GE274.out) | exact HB.out)) hb); clear BK274; clear HB; have BK274 := n0_; have HB := n1_; clear n0_ n1_; (try clear hb); (try clear hb2); (try clear hk); (try clear hi)))
  go_ret
  exact ⟨by first | rfl | (simp [errW_none, errW_some] <;> rfl) | (simp [*, errW_none, errW_some] <;> rfl), by repeat (first | (with_reducible first | exact HB.out | apply below_alloc | apply pw_below_drewN | apply below_drew1 | refine below_set ?_ GE274.out) | exact HB.out)⟩
end Go.Proofs.YtmpondcccbmlhaaGreat.Q
