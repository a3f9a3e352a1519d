/- A part of the claim R: the texts Q14, without what the claim does not lean on. -/
import Derived.ArgAppend
import Derived.Below
import Derived.BigQuiet
import Derived.Deep.AppendLies
import Derived.Deep.CutBlock
import Derived.Deep.DeepCutAuto
import Derived.Deep.Draws
import Derived.Deep.LoopGhost
import Derived.Deep.OwnRows
import Derived.Deep.QuietTactic
import Derived.Deep.RegionHeld3
import Derived.KernelRfl
import Derived.Laws.BitsLemmas
import Derived.Laws.BytesArg
import Derived.Laws.IdiomCopy
import Derived.Laws.MakeOwn
import Derived.Laws.OwnMore
import Derived.Laws.Rows
import Derived.Laws.Slices
import Derived.Laws.StructEq
import Derived.Lib.AppendStr
import Derived.Lib.ConvBytes
import Derived.Maps.AppendAt
import Derived.OrdersHeld
import Derived.OwnWalk
import Derived.RowKit
import Derived.RowKit3
import Derived.Tactics
import Derived.WalkKit
import Derived.WideLaws
import Derived.Test.YtmpondcccbmlhaaGreatProg
import Derived.Test.YtmpondcccbmlhaaGreatzR0
import Derived.Test.YtmpondcccbmlhaaGreatzR1
import Derived.Test.YtmpondcccbmlhaaGreatzR2
import Derived.Test.YtmpondcccbmlhaaGreatzR3
import Derived.Test.YtmpondcccbmlhaaGreatzR4
import Derived.Test.YtmpondcccbmlhaaGreatzR5
import Derived.Test.YtmpondcccbmlhaaGreatzR6
import Derived.Test.YtmpondcccbmlhaaGreatzR16
namespace Go.Proofs.YtmpondcccbmlhaaGreat.Q
open Go.RowKit Go.Proofs.YtmpondcccbmlhaaGreatW.PrintWords Go.Proofs.YtmpondcccbmlhaaGreatW.PrintLast Go.Proofs.YtmpondcccbmlhaaGreatW.PrintMore
attribute [local go_sem] max2_int min2_int max_two min_two max_three min_three max_four min_four   
set_option linter.unusedVariables false
set_option linter.unusedSimpArgs false
def guidevaneref06_Run.l0 : Nat → List Int → List Int → Int → Int → Int → Int → Int → Int → Int → Int → Int → Option (List Int)
  | 0, _, _, _, _, _, _, _, _, _, _, _ => none
  | k + 1, x2, x7, x8, x546000, x546001, x546002, x546003, x547000, x547001, x547002, x547003 => if x8 < (x2.length : Int) then (if 0 ≤ x8 then ((guidevaneref06_Wanted.f x547000 x547001 x547002 x547003 (rd x2 x8)).bind fun t548 => ((guidevaneref06_Step.f x546000 x546001 x546002 x546003 t548).bind fun bt549 => (if x7.length < 17592186044416 then (guidevaneref06_Run.l0 k x2 (x7 ++ [bt549.1]) (wrap64 (x8 + 1)) bt549.1 bt549.2.1 bt549.2.2.1 bt549.2.2.2 x547000 x547001 x547002 x547003) else (none)))) else (none)) else (some x7)
def guidevaneref06_Run.f (k : Nat) (a0_0 : Int) (a0_1 : Int) (a0_2 : Int) (a0_3 : Int) (a1_0 : Int) (a1_1 : Int) (a1_2 : Int) (a1_3 : Int) (l2 : List Int) : Option (List Int) := guidevaneref06_Run.l0 k l2 ([] : List Int) 0 a0_0 a0_1 a0_2 a0_3 a1_0 a1_1 a1_2 a1_3
def guidevaneref06_Run.T5 : Bool × List (List Nat × List Nat) := (true, [([], []), ([], []), ([], []), ([], []), ([2, 3], [2, 3]), ([4], [4]), ([1, 5], [1, 5]), ([0, 6, 6], [0, 6]), ([7, 7, 0, 1, 2, 3, 4, 5, 6, 7], [7])])
def guidevaneref06_Run.B5 : List Nat := [0, 0, 0, 0, 12, 28, 62, 127, 255]
theorem guidevaneref06_Run.tab5 : rtab .any (opsOf Tryz.f60 5) = guidevaneref06_Run.T5 := by kernel_rfl
theorem guidevaneref06_Run.bits5 : waitsOk guidevaneref06_Run.T5.2 guidevaneref06_Run.B5 = true := by kernel_rfl
set_option maxHeartbeats 8000000 in
set_option maxRecDepth 100000 in
theorem guidevaneref06_Run.calls (k : Nat) (a0_0 : Int) (a0_1 : Int) (a0_2 : Int) (a0_3 : Int) (a1_0 : Int) (a1_1 : Int) (a1_2 : Int) (a1_3 : Int) (A2 : Option Addr) (c2 : Nat) (l2 : List Int) (r : List Int) (w : World) (hr2 : Kd.C (Kd.int .i64) w A2 l2.length l2) (hc2 : l2.length ≤ c2) (h : guidevaneref06_Run.f k a0_0 a0_1 a0_2 a0_3 a1_0 a1_1 a1_2 a1_3 l2 = some r) :
    Calls Tryz.prog 60 #[.agg #[.int .i64 a0_0, .int .i64 a0_1, .int .i64 a0_2, .int .i64 a0_3], .agg #[.int .i64 a1_0, .int .i64 a1_1, .int .i64 a1_2, .int .i64 a1_3], .slice A2 l2.length c2] w fun e w' => ∃ v0_ : Value, e = .returned (v0_) ∧ Kd.R (Kd.int .i64) 3 w' w.heap.size (fun _ => True) v0_ r ∧ Below w.heap.size w w' := by
  have hu75 := Tryz.underlying75
  have hu77 := Tryz.underlying77
  have HR2 := Aside0.mk hr2
  have HC2 := Aside0.mk hc2
  clear hr2 hc2
  have HB := Aside0.mk (Below.refl w.heap.size w)
  have H : (guidevaneref06_Run.l0 k l2 ([] : List Int) 0 a0_0 a0_1 a0_2 a0_3 a1_0 a1_1 a1_2 a1_3) = some r := h
  clear h
  have H' := Aside0.mk H
  clear H
  go_enter Tryz.func60, Tryz.ntmps60
  go_wp2_with (first | ((with_reducible refine gate_dst (N := 3) rfl ?_); refine box_event ?hg (N := 3) ?hd (cs := #[.int .i64 a0_0, .int .i64 a0_1, .int .i64 a0_2, .int .i64 a0_3]) (t := 75) ?hr ?_; (case hd => rfl); (case hg => rfl); (case hr => first | (go_simp; done) | (go_simp; rfl)); intro gb545 hg w4 hbox hb; have n0_ := Aside0.mk (below_step (by repeat (first | (with_reducible first | exact HB.out | apply below_alloc | apply pw_below_drewN | apply below_drew1) | exact HB.out)) hb); have n1_ := Aside0.mk (hbox); have n2_ := Aside0.mk ((by rw [hg]; exact (below_size (by repeat (first | (with_reducible first | exact HB.out | apply below_alloc | apply pw_below_drewN | apply below_drew1) | exact HB.out))) : w.heap.size ≤ gb545)); have n3_ := Aside0.mk ((by rw [hg]; exact (below_size (by repeat (first | (with_reducible first | exact HB.out | apply below_alloc | apply pw_below_drewN | apply below_drew1) | exact HB.out))) : w.heap.size ≤ gb545)); clear HB; have HB := n0_; have BK545 := n1_; have GW545 := n2_; have GE545 := n3_; clear n0_ n1_ n2_ n3_; clear hb hbox hg) | ((with_reducible refine gate_dst (N := 4) rfl ?_); refine box_event ?hg (N := 4) ?hd (cs := #[.int .i64 a1_0, .int .i64 a1_1, .int .i64 a1_2, .int .i64 a1_3]) (t := 77) ?hr ?_; (case hd => rfl); (case hg => rfl); (case hr => first | (go_simp; done) | (go_simp; rfl)); intro gb546 hg w5 hbox hb; have n0_ := Aside0.mk (blk_below (g := gb545) (o := .cells #[.int .i64 a0_0, .int .i64 a0_1, .int .i64 a0_2, .int .i64 a0_3] 75 (0, 0)) (by (with_reducible repeat (first | refine blk_drewN ?_ _ | refine blk_drew ?_ | refine blk_alloc ?_ _)); exact BK545.out) hb); have n1_ := Aside0.mk (below_step (by repeat (first | (with_reducible first | exact HB.out | apply below_alloc | apply pw_below_drewN | apply below_drew1 | refine below_set ?_ GE545.out) | exact HB.out)) hb); have n2_ := Aside0.mk (hbox); have n3_ := Aside0.mk ((by rw [hg]; exact (below_size (by repeat (first | (with_reducible first | exact HB.out | apply below_alloc | apply pw_below_drewN | apply below_drew1 | refine below_set ?_ GE545.out) | exact HB.out))) : w.heap.size ≤ gb546)); have n4_ := Aside0.mk ((by rw [hg]; exact (below_size (by repeat (first | (with_reducible first | exact HB.out | apply below_alloc | apply pw_below_drewN | apply below_drew1 | refine below_set ?_ GE545.out) | exact HB.out))) : w.heap.size ≤ gb546)); have n5_ := Aside0.mk ((by rw [hg]; exact Nat.ne_of_lt (blk_lt (g := gb545) (o := .cells #[.int .i64 a0_0, .int .i64 a0_1, .int .i64 a0_2, .int .i64 a0_3] 75 (0, 0)) (by (with_reducible repeat (first | refine blk_drewN ?_ _ | refine blk_drew ?_ | refine blk_alloc ?_ _)); exact BK545.out)) : gb545 ≠ gb546)); have n6_ := Aside0.mk ((by rw [hg]; exact Nat.ne_of_gt (blk_lt (g := gb545) (o := .cells #[.int .i64 a0_0, .int .i64 a0_1, .int .i64 a0_2, .int .i64 a0_3] 75 (0, 0)) (by (with_reducible repeat (first | refine blk_drewN ?_ _ | refine blk_drew ?_ | refine blk_alloc ?_ _)); exact BK545.out)) : gb546 ≠ gb545)); clear BK545; clear HB; have BK545 := n0_; have HB := n1_; have BK546 := n2_; have GW546 := n3_; have GE546 := n4_; have NB545_546 := n5_; have NB546_545 := n6_; clear n0_ n1_ n2_ n3_ n4_ n5_ n6_; clear hb hbox hg))
  go_loopg [7, 8] k (fun kq v7 v8 w' => ∃ (x7_1 : List Int) (x8_1 : Int) (x546000_1 : Int) (x546001_1 : Int) (x546002_1 : Int) (x546003_1 : Int), v8 = .int .i64 x8_1 ∧ Aside0 (guidevaneref06_Run.l0 kq l2 x7_1 x8_1 x546000_1 x546001_1 x546002_1 x546003_1 a1_0 a1_1 a1_2 a1_3 = some r) ∧ Aside0 (kq ≤ k) ∧ Aside0 (Kd.R (Kd.int .i64) 3 w' w.heap.size (fun _ => True) v7 x7_1) ∧ Aside0 (w'.heap[gb545]? = some (.cells #[.int .i64 x546000_1, .int .i64 x546001_1, .int .i64 x546002_1, .int .i64 x546003_1] 75 (0, 0))) ∧ Aside0 (w'.heap[gb546]? = some (.cells #[.int .i64 a1_0, .int .i64 a1_1, .int .i64 a1_2, .int .i64 a1_3] 77 (0, 0))) ∧ Aside0 (Below w.heap.size w w'))
  case atStart => exact ⟨(([] : List Int)), (0), (a0_0), (a0_1), (a0_2), (a0_3), (by first | rfl | (simp; done) | (simp [*]; done)), H', ⟨Nat.le_refl _⟩, ⟨by first | exact Kd.R_nil _ _ _ _ _ | exact Kd.N_nil _ _ _ _ _ | exact Kd.V_nil _ _ _ _ _ | exact Kd.Q_nil _ _ _ _ _ | exact Kd.S_nil _ _ _ _ _⟩, ⟨by (with_reducible repeat (first | refine blk_drewN ?_ _ | refine blk_drew ?_ | refine blk_alloc ?_ _)); exact BK545.out⟩, ⟨by (with_reducible repeat (first | refine blk_drewN ?_ _ | refine blk_drew ?_ | refine blk_alloc ?_ _)); exact BK546.out⟩, ⟨by repeat (first | (with_reducible first | exact HB.out | apply below_alloc | apply pw_below_drewN | apply below_drew1 | refine below_set ?_ GE545.out | refine below_set ?_ GE546.out) | exact HB.out)⟩⟩
  case round =>
    clear H'
    try clear c2
    try clear p2
    obtain ⟨x7_1, x8_1, x546000_1, x546001_1, x546002_1, x546003_1, rfl, HA, HK1, HO_7, BK545, BK546, HB⟩ := hrel
    cases gk with
    | zero => exact absurd HA.out (by simp [guidevaneref06_Run.l0])
    | succ k1 =>
      have H := HA.out
      clear HA
      simp only [guidevaneref06_Run.l0] at H
      by_cases c6 : x8_1 < (l2.length : Int)
      · rw [if_pos c6] at H
        have c6b0 : decide (x8_1 < (l2.length : Int)) = true := decide_eq_true c6
        clear c6
        by_cases c7 : 0 ≤ x8_1
        · rw [if_pos c7] at H
          have c7b0 : decide (0 ≤ x8_1) = true := decide_eq_true c7
          clear c7
          replace H := Option.bind_eq_some_iff.mp H
          obtain ⟨t548, A80, H⟩ := H
          replace H : ((guidevaneref06_Step.f x546000_1 x546001_1 x546002_1 x546003_1 t548).bind fun bt549 => (if x7_1.length < 17592186044416 then (guidevaneref06_Run.l0 k1 l2 (x7_1 ++ [bt549.1]) (wrap64 (x8_1 + 1)) bt549.1 bt549.2.1 bt549.2.2.1 bt549.2.2.2 a1_0 a1_1 a1_2 a1_3) else (none))) = some r := H
          have A8 := Aside0.mk A80
          clear A80
          replace H := Option.bind_eq_some_iff.mp H
          obtain ⟨⟨t549, t550, t551, t552⟩, A90, H⟩ := H
          replace H : (if x7_1.length < 17592186044416 then (guidevaneref06_Run.l0 k1 l2 (x7_1 ++ [t549]) (wrap64 (x8_1 + 1)) t549 t550 t551 t552 a1_0 a1_1 a1_2 a1_3) else (none)) = some r := H
          have A9 := Aside0.mk A90
          clear A90
          by_cases c10 : x7_1.length < 17592186044416
          · rw [if_pos c10] at H
            have LMc10 := Aside0.mk c10
            clear c10
            obtain ⟨y553, hy553⟩ : ∃ y_ : List Int, y_ = (x7_1 ++ [t549]) := ⟨_, rfl⟩
            replace H : (guidevaneref06_Run.l0 k1 l2 y553 (wrap64 (x8_1 + 1)) t549 t550 t551 t552 a1_0 a1_1 a1_2 a1_3) = some r := by first | (rw [hy553]; with_reducible exact H) | (have H2_ := (Option.bind_some _ _).symm.trans H; rw [hy553]; with_reducible exact H2_) | (have H2_ := (Option.bind_some _ _).symm.trans H; with_reducible exact H2_) | with_reducible exact H | (rw [hy553]; exact H) | exact H
            have Ny553 := Aside0.mk hy553
            clear hy553
            have H' := Aside0.mk H
            clear H
            try go_wp2
            have n0_ := Aside0.mk (Kd.R_drew HO_7.out)
            have n1_ := Aside0.mk (blk_drew BK545.out)
            have n2_ := Aside0.mk (blk_drew BK546.out)
            have n3_ := Aside0.mk (below_drew1 HB.out)
            clear HO_7
            clear BK545
            clear BK546
            clear HB
            have HO_7 := n0_
            have BK545 := n1_
            have BK546 := n2_
            have HB := n3_
            clear n0_ n1_ n2_ n3_
            have p547 : 0 ≤ (x8_1 : Int) := of_decide_eq_true (by first | (with_reducible assumption) | assumption)
            have q547 : x8_1 < (l2.length : Int) := of_decide_eq_true (by first | (with_reducible assumption) | assumption)
            obtain ⟨ad547, e547, hx547_0⟩ := Kd.at_int HR2.out x8_1 p547 q547
            have hw547_0 := hx547_0
            cases e547
            replace hx547_0 := (HB.out.cell (World.block_lt_of_cell? w _ hx547_0)).trans hx547_0
            replace p547 := eq_true p547
            replace q547 := eq_true q547
            refine start_ (n := 9) (S := fun w' => w'.cell? ⟨gb545, 0, none⟩ = some (.int .i64 x546000_1) ∧ w'.cell? ⟨gb545, 1, none⟩ = some (.int .i64 x546001_1) ∧ w'.cell? ⟨gb545, 2, none⟩ = some (.int .i64 x546002_1) ∧ w'.cell? ⟨gb545, 3, none⟩ = some (.int .i64 x546003_1) ∧ w'.cell? ⟨gb546, 0, none⟩ = some (.int .i64 a1_0) ∧ w'.cell? ⟨gb546, 1, none⟩ = some (.int .i64 a1_1) ∧ w'.cell? ⟨gb546, 2, none⟩ = some (.int .i64 a1_2) ∧ w'.cell? ⟨gb546, 3, none⟩ = some (.int .i64 a1_3) ∧ w'.cell? (ad547.add (x8_1).toNat) = some (.int .i64 (rd l2 x8_1))) (ds := [8]) #[false, false, false, false, false, false, false, false, false] (by kernel_rfl) rfl rfl ⟨(blk_cell BK545.out 0).trans rfl, (blk_cell BK545.out 1).trans rfl, (blk_cell BK545.out 2).trans rfl, (blk_cell BK545.out 3).trans rfl, (blk_cell BK546.out 0).trans rfl, (blk_cell BK546.out 1).trans rfl, (blk_cell BK546.out 2).trans rfl, (blk_cell BK546.out 3).trans rfl, ((HB.out.cell (World.block_lt_of_cell? w _ hw547_0)).trans hw547_0)⟩ (fun hHeld => ?_); refine with_tabW guidevaneref06_Run.tab5 guidevaneref06_Run.bits5 (fun HT_ HW_ => ?_)
            generalize wr.drew = w11 at HO_7 BK545 BK546 HB hx547_0 hHeld ⊢
            refine pure_ (i := 2) (N := some 17) (v := ?_) (a' := ?_) #[false, false, true, false, false, false, false, false, false] rfl rfl (any_of HT_.out (by kernel_rfl)) (fun _ _ _ h => h) (Or.inl ⟨by rfl, ?_⟩) ?_ ?_
            rotate_left
            · intro w'
              go_simp
              with_reducible rfl
            rotate_left
            · simp only [Act.put, List.setIfInBounds_toArray, List.set_cons_zero, List.set_cons_succ, i64_w, i32_w]
              rfl
            refine pure_ (i := 3) (N := some 18) (v := ?_) (a' := ?_) #[false, false, true, true, false, false, false, false, false] rfl rfl (any_of HT_.out (by kernel_rfl)) (fun _ _ _ h => h) (Or.inl ⟨by rfl, ?_⟩) ?_ ?_
            rotate_left
            · intro w'
              go_simp
              with_reducible rfl
            rotate_left
            · simp only [Act.put, List.setIfInBounds_toArray, List.set_cons_zero, List.set_cons_succ, i64_w, i32_w]
              rfl
            refine pure_ (i := 4) (N := some 19) (v := ?_) (a' := ?_) #[false, false, true, true, true, false, false, false, false] rfl rfl (any_of HT_.out (by kernel_rfl)) (fun _ _ _ h => h) (Or.inl ⟨by rfl, ?_⟩) ?_ ?_
            rotate_left
            · intro w'
              go_simp
              with_reducible rfl
            rotate_left
            · simp only [Act.put, List.setIfInBounds_toArray, List.set_cons_zero, List.set_cons_succ, i64_w, i32_w]
              rfl
            refine take_ (i := 0) (N := some 15) (v := ?_) (a' := ?_) #[true, false, true, true, true, false, false, false, false] rfl rfl (take_ofW HT_.out HW_.out (by kernel_rfl)) (fun _ _ _ h => h) (Or.inl ⟨by rfl, ?_⟩) hHeld ?_ ?_
            rotate_left
            · rintro w' ⟨s0, s1, s2, s3, s4, s5, s6, s7, s8⟩
              go_simp
              with_reducible rfl
            rotate_left
            · simp only [Act.put, List.setIfInBounds_toArray, List.set_cons_zero, List.set_cons_succ, i64_w, i32_w]
              rfl
            refine take_ (i := 1) (N := some 16) (v := ?_) (a' := ?_) #[true, true, true, true, true, false, false, false, false] rfl rfl (take_ofW HT_.out HW_.out (by kernel_rfl)) (fun _ _ _ h => h) (Or.inl ⟨by rfl, ?_⟩) hHeld ?_ ?_
            rotate_left
            · rintro w' ⟨s0, s1, s2, s3, s4, s5, s6, s7, s8⟩
              go_simp
              with_reducible rfl
            rotate_left
            · simp only [Act.put, List.setIfInBounds_toArray, List.set_cons_zero, List.set_cons_succ, i64_w, i32_w]
              rfl
            refine take_ (i := 5) (N := some 20) (v := ?_) (a' := ?_) #[true, true, true, true, true, true, false, false, false] rfl rfl (take_ofW HT_.out HW_.out (by kernel_rfl)) (fun _ _ _ h => h) (Or.inl ⟨by rfl, ?_⟩) hHeld ?_ ?_
            rotate_left
            · rintro w' ⟨s0, s1, s2, s3, s4, s5, s6, s7, s8⟩
              go_simp
              with_reducible rfl
            rotate_left
            · simp only [Act.put, List.setIfInBounds_toArray, List.set_cons_zero, List.set_cons_succ, i64_w, i32_w]
              rfl
            refine one_ (i := 6) (N := some 21) #[true, true, true, true, true, true, true, false, false] rfl rfl (one_of HT_.out (by kernel_rfl)) (by decide) (fun K hK => ?_)
            refine goes_ Tryz.func55 (by kernel_rfl) rfl #[.agg #[.int .i64 a1_0, .int .i64 a1_1, .int .i64 a1_2, .int .i64 a1_3], .int .i64 (rd l2 x8_1)] (by rfl) rfl rfl (by (try simp only [List.map_toArray, List.map_cons, List.map_nil]); first | done | rfl | (simp only [List.length_drop, List.length_take]; rfl)) ?_
            with_reducible refine (guidevaneref06_Wanted.calls a1_0 a1_1 a1_2 a1_3 (rd l2 x8_1) t548 _ A8.out).mono ?_
            rintro e w12 ⟨rfl, hb⟩
            refine ⟨_, rfl, ?_⟩
            have n0_ := Aside0.mk (Kd.R_below (by (with_reducible repeat (first | apply Kd.R_alloc | apply Kd.R_drewN | apply Kd.R_drew)); exact HO_7.out) hb)
            have n1_ := Aside0.mk (blk_below (g := gb545) (o := .cells #[.int .i64 x546000_1, .int .i64 x546001_1, .int .i64 x546002_1, .int .i64 x546003_1] 75 (0, 0)) (by (with_reducible repeat (first | refine blk_drewN ?_ _ | refine blk_drew ?_ | refine blk_alloc ?_ _)); exact BK545.out) hb)
            have n2_ := Aside0.mk (blk_below (g := gb546) (o := .cells #[.int .i64 a1_0, .int .i64 a1_1, .int .i64 a1_2, .int .i64 a1_3] 77 (0, 0)) (by (with_reducible repeat (first | refine blk_drewN ?_ _ | refine blk_drew ?_ | refine blk_alloc ?_ _)); exact BK546.out) hb)
            have n3_ := Aside0.mk (below_step (by repeat (first | (with_reducible first | exact HB.out | apply below_alloc | apply pw_below_drewN | apply below_drew1 | refine below_set ?_ GE545.out | refine below_set ?_ GE546.out) | exact HB.out)) hb)
            clear HO_7
            clear BK545
            clear BK546
            clear HB
            have HO_7 := n0_
            have BK545 := n1_
            have BK546 := n2_
            have HB := n3_
            clear n0_ n1_ n2_ n3_
            (try clear hb)
            (try clear hb2)
            (try clear hk)
            (try clear hi)
            refine hK.out _ _ ⟨(blk_cell BK545.out 0).trans rfl, (blk_cell BK545.out 1).trans rfl, (blk_cell BK545.out 2).trans rfl, (blk_cell BK545.out 3).trans rfl, (blk_cell BK546.out 0).trans rfl, (blk_cell BK546.out 1).trans rfl, (blk_cell BK546.out 2).trans rfl, (blk_cell BK546.out 3).trans rfl, ((HB.out.cell (World.block_lt_of_cell? w _ hw547_0)).trans hw547_0)⟩ (fun hHeld => ?_)
            clear hK K
            refine norm_ (a' := ?_) ?_ ?_
            rotate_left
            · show Act.put _ (some 21) _ = _
              simp only [Act.put, List.setIfInBounds_toArray, List.set_cons_zero, List.set_cons_succ, i64_w, i32_w]
              rfl
            refine one_ (i := 7) (N := some 22) #[true, true, true, true, true, true, true, true, false] rfl rfl (one_of HT_.out (by kernel_rfl)) (by decide) (fun K hK => ?_)
            refine goes_ Tryz.func56 (by kernel_rfl) rfl #[.agg #[.int .i64 x546000_1, .int .i64 x546001_1, .int .i64 x546002_1, .int .i64 x546003_1], .int .i64 t548] (by rfl) rfl rfl (by (try simp only [List.map_toArray, List.map_cons, List.map_nil]); first | done | rfl | (simp only [List.length_drop, List.length_take]; rfl)) ?_
            with_reducible refine (guidevaneref06_Step.calls x546000_1 x546001_1 x546002_1 x546003_1 t548 t549 t550 t551 t552 _ A9.out).mono ?_
            rintro e w13 ⟨rfl, hb⟩
            refine ⟨_, rfl, ?_⟩
            have n0_ := Aside0.mk (Kd.R_below (by (with_reducible repeat (first | apply Kd.R_alloc | apply Kd.R_drewN | apply Kd.R_drew)); exact HO_7.out) hb)
            have n1_ := Aside0.mk (blk_below (g := gb545) (o := .cells #[.int .i64 x546000_1, .int .i64 x546001_1, .int .i64 x546002_1, .int .i64 x546003_1] 75 (0, 0)) (by (with_reducible repeat (first | refine blk_drewN ?_ _ | refine blk_drew ?_ | refine blk_alloc ?_ _)); exact BK545.out) hb)
            have n2_ := Aside0.mk (blk_below (g := gb546) (o := .cells #[.int .i64 a1_0, .int .i64 a1_1, .int .i64 a1_2, .int .i64 a1_3] 77 (0, 0)) (by (with_reducible repeat (first | refine blk_drewN ?_ _ | refine blk_drew ?_ | refine blk_alloc ?_ _)); exact BK546.out) hb)
            have n3_ := Aside0.mk (below_step (by repeat (first | (with_reducible first | exact HB.out | apply below_alloc | apply pw_below_drewN | apply below_drew1 | refine below_set ?_ GE545.out | refine below_set ?_ GE546.out) | exact HB.out)) hb)
            clear HO_7
            clear BK545
            clear BK546
            clear HB
            have HO_7 := n0_
            have BK545 := n1_
            have BK546 := n2_
            have HB := n3_
            clear n0_ n1_ n2_ n3_
            (try clear hb)
            (try clear hb2)
            (try clear hk)
            (try clear hi)
            refine hK.out _ _ ⟨(blk_cell BK545.out 0).trans rfl, (blk_cell BK545.out 1).trans rfl, (blk_cell BK545.out 2).trans rfl, (blk_cell BK545.out 3).trans rfl, (blk_cell BK546.out 0).trans rfl, (blk_cell BK546.out 1).trans rfl, (blk_cell BK546.out 2).trans rfl, (blk_cell BK546.out 3).trans rfl, ((HB.out.cell (World.block_lt_of_cell? w _ hw547_0)).trans hw547_0)⟩ (fun hHeld => ?_)
            clear hK K
            refine norm_ (a' := ?_) ?_ ?_
            rotate_left
            · show Act.put _ (some 22) _ = _
              simp only [Act.put, List.setIfInBounds_toArray, List.set_cons_zero, List.set_cons_succ, i64_w, i32_w]
              rfl
            refine last_ (i := 8) (N := none) #[true, true, true, true, true, true, true, true, true] rfl rfl (one_of HT_.out (by kernel_rfl)) (by decide) (fun K hK => ?_)
            have hs14 : w13.cell? ⟨gb545, 0, none⟩ = some (.int .i64 x546000_1) := (blk_cell BK545.out 0).trans rfl
            have hfs14 := blk_frozen BK545.out 0
            have hns14_1 := NB546_545.out
            have hms14_1 := NB545_546.out
            have hs15 : w13.cell? ⟨gb545, 1, none⟩ = some (.int .i64 x546001_1) := (blk_cell BK545.out 1).trans rfl
            have hfs15 := blk_frozen BK545.out 1
            have hns15_1 := NB546_545.out
            have hms15_1 := NB545_546.out
            have hs16 : w13.cell? ⟨gb545, 2, none⟩ = some (.int .i64 x546002_1) := (blk_cell BK545.out 2).trans rfl
            have hfs16 := blk_frozen BK545.out 2
            have hns16_1 := NB546_545.out
            have hms16_1 := NB545_546.out
            have hs17 : w13.cell? ⟨gb545, 3, none⟩ = some (.int .i64 x546003_1) := (blk_cell BK545.out 3).trans rfl
            have hfs17 := blk_frozen BK545.out 3
            have hns17_1 := NB546_545.out
            have hms17_1 := NB545_546.out
            refine skip_ (w1 := ?_) (by rfl) rfl ?_ ?_
            rotate_left
            · go_simp
              rfl
            refine hK.out _ _ ?_
            clear hK K
            refine done_ (done_of HT_.out (by kernel_rfl)) ?_
            have hnb18 := NB545_546.out
            have hnc18 := NB546_545.out
            have hcz19_0 : w13.cell? ⟨gb545, 0, none⟩ = some (.int .i64 x546000_1) := (blk_cell BK545.out 0).trans rfl
            have hcz19_1 : w13.cell? ⟨gb545, 1, none⟩ = some (.int .i64 x546001_1) := (blk_cell BK545.out 1).trans rfl
            have hcz19_2 : w13.cell? ⟨gb545, 2, none⟩ = some (.int .i64 x546002_1) := (blk_cell BK545.out 2).trans rfl
            have hcz19_3 : w13.cell? ⟨gb545, 3, none⟩ = some (.int .i64 x546003_1) := (blk_cell BK545.out 3).trans rfl
            have hfz19_0 := blk_frozen BK545.out 0
            have hfz19_1 := blk_frozen BK545.out 1
            have hfz19_2 := blk_frozen BK545.out 2
            have hfz19_3 := blk_frozen BK545.out 3
            try go_wp2_with (first | ((with_reducible refine gate_builtin (b := .append) (xs := #[.tmp 23, .tmp 26]) rfl ?_); at_builtin; refine Kd.R_append (Kd.int .i64) (w0 := w) w.heap.size rfl (.tmp 23) (.tmp 26) 22 3 (.int .i64 0) 8 rfl Tryz.underlying22 info3 rfl (by decide) (by omega) u7 x7_1 t549 [.int .i64 t549] (fun _ => True) (fun _ => False) rfl (by first | (go_simp; done) | (go_simp; rfl)) ?aP (fun _ hk => hk.elim) ?aF ?aO ?aB ?aS ?aL ?_; (case aP => exact rfl); (case aB => exact (by repeat (first | (with_reducible first | exact HB.out | apply below_alloc | apply pw_below_drewN | apply below_drew1 | refine below_set ?_ GE545.out | refine below_set ?_ GE546.out) | exact HB.out))); (case aF => exact (fun _ _ => trivial)); (case aO => exact (by (with_reducible repeat (first | apply Kd.R_alloc | apply Kd.R_drewN | apply Kd.R_drew)); exact Kd.R_mono (Kd.R_far (p := ⟨gb545, 3, none⟩) (Kd.R_far (p := ⟨gb545, 2, none⟩) (Kd.R_far (p := ⟨gb545, 1, none⟩) (Kd.R_far (p := ⟨gb545, 0, none⟩) (Kd.R_types HO_7.out BK545.out (by decide)) (fun _ hk => hk.2) (.int .i64 t549)) (fun _ hk => hk.2) (.int .i64 t550)) (fun _ hk => hk.2) (.int .i64 t551)) (fun _ hk => hk.2) (.int .i64 t552)) (fun _ hk => trivial))); (case aS => exact (below_size (by repeat (first | (with_reducible first | exact HB.out | apply below_alloc | apply pw_below_drewN | apply below_drew1 | refine below_set ?_ GE545.out | refine below_set ?_ GE546.out) | exact HB.out)))); (case aL => have := LMc10.out; omega); intro v554 w20 ho hb hg hat; rw [← Ny553.out] at ho; have n0_ := Aside0.mk (blk_grown (g := gb545) (o := .cells #[.int .i64 t549, .int .i64 t550, .int .i64 t551, .int .i64 t552] 75 (0, 0)) (by (with_reducible repeat (first | refine blk_drewN ?_ _ | refine blk_drew ?_ | refine blk_alloc ?_ _)); refine blk_put (cs := #[.int .i64 t549, .int .i64 t550, .int .i64 t551, .int .i64 x546003_1]) ?_ 3 _ rfl; (with_reducible repeat (first | refine blk_drewN ?_ _ | refine blk_drew ?_ | refine blk_alloc ?_ _)); refine blk_put (cs := #[.int .i64 t549, .int .i64 t550, .int .i64 x546002_1, .int .i64 x546003_1]) ?_ 2 _ rfl; (with_reducible repeat (first | refine blk_drewN ?_ _ | refine blk_drew ?_ | refine blk_alloc ?_ _)); refine blk_put (cs := #[.int .i64 t549, .int .i64 x546001_1, .int .i64 x546002_1, .int .i64 x546003_1]) ?_ 1 _ rfl; (with_reducible repeat (first | refine blk_drewN ?_ _ | refine blk_drew ?_ | refine blk_alloc ?_ _)); refine blk_put (cs := #[.int .i64 x546000_1, .int .i64 x546001_1, .int .i64 x546002_1, .int .i64 x546003_1]) ?_ 0 _ rfl; (with_reducible repeat (first | refine blk_drewN ?_ _ | refine blk_drew ?_ | refine blk_alloc ?_ _)); exact BK545.out) hg (Kd.R_ne HO_7.out BK545.out (by decide))); have n1_ := Aside0.mk (blk_grown (g := gb546) (o := .cells #[.int .i64 a1_0, .int .i64 a1_1, .int .i64 a1_2, .int .i64 a1_3] 77 (0, 0)) (by (with_reducible repeat (first | refine blk_drewN ?_ _ | refine blk_drew ?_ | refine blk_alloc ?_ _)); refine blk_far ?_ NB546_545.out _; (with_reducible repeat (first | refine blk_drewN ?_ _ | refine blk_drew ?_ | refine blk_alloc ?_ _)); refine blk_far ?_ NB546_545.out _; (with_reducible repeat (first | refine blk_drewN ?_ _ | refine blk_drew ?_ | refine blk_alloc ?_ _)); refine blk_far ?_ NB546_545.out _; (with_reducible repeat (first | refine blk_drewN ?_ _ | refine blk_drew ?_ | refine blk_alloc ?_ _)); refine blk_far ?_ NB546_545.out _; (with_reducible repeat (first | refine blk_drewN ?_ _ | refine blk_drew ?_ | refine blk_alloc ?_ _)); exact BK546.out) hg (Kd.R_ne HO_7.out BK546.out (by decide))); have n2_ := Aside0.mk (hb); have n3_ := Aside0.mk (ho); clear BK545; clear BK546; clear HB; clear HO_7; have BK545 := n0_; have BK546 := n1_; have HB := n2_; have HO555 := n3_; clear n0_ n1_ n2_ n3_; clear ho hb hg hat))
            go_roundg k1
            case measure => have := HK1.out; omega
            case rel => exact ⟨(y553), (wrap64 (x8_1 + 1)), (t549), (t550), (t551), (t552), (by first | rfl | (simp; done) | (simp [*]; done)), H', ⟨by have := HK1.out; omega⟩, ⟨by (with_reducible repeat (first | apply Kd.R_alloc | apply Kd.R_drewN | apply Kd.R_drew)); exact HO555.out⟩, ⟨by (with_reducible repeat (first | refine blk_drewN ?_ _ | refine blk_drew ?_ | refine blk_alloc ?_ _)); exact BK545.out⟩, ⟨by (with_reducible repeat (first | refine blk_drewN ?_ _ | refine blk_drew ?_ | refine blk_alloc ?_ _)); exact BK546.out⟩, ⟨by repeat (first | (with_reducible first | exact HB.out | apply below_alloc | apply pw_below_drewN | apply below_drew1 | refine below_set ?_ GE545.out | refine below_set ?_ GE546.out) | exact HB.out)⟩⟩
          · rw [if_neg c10] at H
            exact absurd H (by simp)
        · rw [if_neg c7] at H
          exact absurd H (by simp)
      · rw [if_neg c6] at H
        have c6b0 : decide (x8_1 < (l2.length : Int)) = false := decide_eq_false c6
        clear c6
        obtain rfl := Option.some.inj H
        go_wp2
        go_ret
        exact ⟨_, by first | rfl | (simp [errW_none, errW_some] <;> rfl) | (simp [*, errW_none, errW_some] <;> rfl), by (with_reducible repeat (first | apply Kd.R_alloc | apply Kd.R_drewN | apply Kd.R_drew)); exact HO_7.out, by repeat (first | (with_reducible first | exact HB.out | apply below_alloc | apply pw_below_drewN | apply below_drew1 | refine below_set ?_ GE545.out | refine below_set ?_ GE546.out) | exact HB.out)⟩
end Go.Proofs.YtmpondcccbmlhaaGreat.Q
