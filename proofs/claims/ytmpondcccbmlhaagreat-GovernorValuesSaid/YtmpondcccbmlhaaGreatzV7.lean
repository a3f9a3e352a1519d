/- A part of the claim V: the texts Q11, Q15, Q3, Q9, Q16, without what the claim does not lean on. -/
import Derived.ArgAppend
import Derived.Below
import Derived.BigQuiet
import Derived.Deep.AppendLies
import Derived.Deep.CutBlock
import Derived.Deep.DeepCutAuto
import Derived.Deep.Draws
import Derived.Deep.LoopGhost
import Derived.Deep.OwnRows
import Derived.Deep.QuietTactic
import Derived.Deep.RegionHeld3
import Derived.KernelRfl
import Derived.Laws.BitsLemmas
import Derived.Laws.BytesArg
import Derived.Laws.IdiomCopy
import Derived.Laws.MakeOwn
import Derived.Laws.OwnMore
import Derived.Laws.Rows
import Derived.Laws.Slices
import Derived.Laws.StructEq
import Derived.Lib.AppendStr
import Derived.Lib.ConvBytes
import Derived.Maps.AppendAt
import Derived.OrdersHeld
import Derived.OwnWalk
import Derived.RowKit
import Derived.RowKit3
import Derived.Tactics
import Derived.WalkKit
import Derived.WideLaws
import Derived.Test.YtmpondcccbmlhaaGreatProg
import Derived.Test.YtmpondcccbmlhaaGreatzV0
import Derived.Test.YtmpondcccbmlhaaGreatzV1
import Derived.Test.YtmpondcccbmlhaaGreatzV2
import Derived.Test.YtmpondcccbmlhaaGreatzV3
import Derived.Test.YtmpondcccbmlhaaGreatzV4
import Derived.Test.YtmpondcccbmlhaaGreatzV5
import Derived.Test.YtmpondcccbmlhaaGreatzV6
namespace Go.Proofs.YtmpondcccbmlhaaGreat.Q
open Go.RowKit Go.Proofs.YtmpondcccbmlhaaGreatW.PrintWords Go.Proofs.YtmpondcccbmlhaaGreatW.PrintLast Go.Proofs.YtmpondcccbmlhaaGreatW.PrintMore
attribute [local go_sem] max2_int min2_int max_two min_two max_three min_three max_four min_four   
set_option linter.unusedVariables false
set_option linter.unusedSimpArgs false
def governor_isPosition.f (a0 : Int) : Option (Bool) := (governor_within.f a0 0 10000).bind fun t453 => (some t453)
set_option maxHeartbeats 8000000 in
set_option maxRecDepth 100000 in
theorem governor_isPosition.calls (a0 : Int) (r : Bool) (w : World) (h : governor_isPosition.f a0 = some r) :
    Calls Tryz.prog 126 #[.int .i64 a0] w fun e w' => e = .returned (.bool r) ∧ Drawn0 w w' := by
  have H : ((governor_within.f a0 0 10000).bind fun t453 => (some t453)) = some r := h
  clear h
  replace H := Option.bind_eq_some_iff.mp H
  obtain ⟨t453, A20, H⟩ := H
  replace H : (some t453) = some r := H
  have A2 := Aside0.mk A20
  clear A20
  obtain rfl := Option.some.inj H
  go_enter Tryz.func126, Tryz.ntmps126
  go_wp2_with (first | ((with_reducible refine gate_callee (f := 118) rfl ?_); refine goesL_ (some 4) rfl rfl Tryz.func118 (by kernel_rfl) rfl #[.int .i64 a0, .int .i64 0, .int .i64 10000] rfl (by (try simp only [List.map_toArray, List.map_cons, List.map_nil]); first | done | rfl | (simp only [List.length_drop, List.length_take]; rfl)) ?_; (with_reducible refine (governor_within.calls a0 0 10000 t453 _ A2.out).mono ?_); rintro e w' ⟨rfl, ⟨nd, rfl⟩⟩; refine ⟨_, rfl, ?_⟩))
  go_ret
  exact ⟨by first | rfl | (simp; done) | (simp [*]; done), by repeat (first | exact Drawn0.refl _ | apply Drawn0.step)⟩
def governor_CheckRules.f (a0_0 : Int) (a0_1 : Int) (a0_2 : Int) (a0_3 : Int) : Option (Int) := (governor_within.f a0_0 0 100000).bind fun t455 => (if t455 = true then ((governor_within.f a0_1 0 1000).bind fun t456 => (if t456 = true then ((governor_within.f a0_2 1 1000).bind fun t457 => (if t457 = true then ((governor_isPosition.f a0_3).bind fun t458 => ((governor_unless.f t458 2).bind fun t459 => (some t459))) else ((governor_unless.f false 2).bind fun t460 => (some t460)))) else ((governor_unless.f false 2).bind fun t461 => (some t461)))) else ((governor_unless.f false 2).bind fun t462 => (some t462)))
set_option maxHeartbeats 8000000 in
set_option maxRecDepth 100000 in
theorem governor_CheckRules.calls (a0_0 : Int) (a0_1 : Int) (a0_2 : Int) (a0_3 : Int) (r : Int) (w : World) (h : governor_CheckRules.f a0_0 a0_1 a0_2 a0_3 = some r) :
    Calls Tryz.prog 53 #[.agg #[.int .i64 a0_0, .int .i64 a0_1, .int .i64 a0_2, .int .i64 a0_3]] w fun e w' => e = .returned (.int .i64 r) ∧ Below w.heap.size w w' := by
  have hu77 := Tryz.underlying77
  have HB := Aside0.mk (Below.refl w.heap.size w)
  have H : ((governor_within.f a0_0 0 100000).bind fun t455 => (if t455 = true then ((governor_within.f a0_1 0 1000).bind fun t456 => (if t456 = true then ((governor_within.f a0_2 1 1000).bind fun t457 => (if t457 = true then ((governor_isPosition.f a0_3).bind fun t458 => ((governor_unless.f t458 2).bind fun t459 => (some t459))) else ((governor_unless.f false 2).bind fun t460 => (some t460)))) else ((governor_unless.f false 2).bind fun t461 => (some t461)))) else ((governor_unless.f false 2).bind fun t462 => (some t462)))) = some r := h
  clear h
  replace H := Option.bind_eq_some_iff.mp H
  obtain ⟨t455, A20, H⟩ := H
  replace H : (if t455 = true then ((governor_within.f a0_1 0 1000).bind fun t456 => (if t456 = true then ((governor_within.f a0_2 1 1000).bind fun t457 => (if t457 = true then ((governor_isPosition.f a0_3).bind fun t458 => ((governor_unless.f t458 2).bind fun t459 => (some t459))) else ((governor_unless.f false 2).bind fun t460 => (some t460)))) else ((governor_unless.f false 2).bind fun t461 => (some t461)))) else ((governor_unless.f false 2).bind fun t462 => (some t462))) = some r := H
  have A2 := Aside0.mk A20
  clear A20
  by_cases c3 : t455 = true
  · subst c3
    have H1 : ((governor_within.f a0_1 0 1000).bind fun t456 => (if t456 = true then ((governor_within.f a0_2 1 1000).bind fun t457 => (if t457 = true then ((governor_isPosition.f a0_3).bind fun t458 => ((governor_unless.f t458 2).bind fun t459 => (some t459))) else ((governor_unless.f false 2).bind fun t460 => (some t460)))) else ((governor_unless.f false 2).bind fun t461 => (some t461)))) = some r := by rw [if_pos rfl] at H; exact H
    clear H
    have H := H1
    clear H1
    replace H := Option.bind_eq_some_iff.mp H
    obtain ⟨t456, A40, H⟩ := H
    replace H : (if t456 = true then ((governor_within.f a0_2 1 1000).bind fun t457 => (if t457 = true then ((governor_isPosition.f a0_3).bind fun t458 => ((governor_unless.f t458 2).bind fun t459 => (some t459))) else ((governor_unless.f false 2).bind fun t460 => (some t460)))) else ((governor_unless.f false 2).bind fun t461 => (some t461))) = some r := H
    have A4 := Aside0.mk A40
    clear A40
    by_cases c5 : t456 = true
    · subst c5
      have H1 : ((governor_within.f a0_2 1 1000).bind fun t457 => (if t457 = true then ((governor_isPosition.f a0_3).bind fun t458 => ((governor_unless.f t458 2).bind fun t459 => (some t459))) else ((governor_unless.f false 2).bind fun t460 => (some t460)))) = some r := by rw [if_pos rfl] at H; exact H
      clear H
      have H := H1
      clear H1
      replace H := Option.bind_eq_some_iff.mp H
      obtain ⟨t457, A60, H⟩ := H
      replace H : (if t457 = true then ((governor_isPosition.f a0_3).bind fun t458 => ((governor_unless.f t458 2).bind fun t459 => (some t459))) else ((governor_unless.f false 2).bind fun t460 => (some t460))) = some r := H
      have A6 := Aside0.mk A60
      clear A60
      by_cases c7 : t457 = true
      · subst c7
        have H1 : ((governor_isPosition.f a0_3).bind fun t458 => ((governor_unless.f t458 2).bind fun t459 => (some t459))) = some r := by rw [if_pos rfl] at H; exact H
        clear H
        have H := H1
        clear H1
        replace H := Option.bind_eq_some_iff.mp H
        obtain ⟨t458, A80, H⟩ := H
        replace H : ((governor_unless.f t458 2).bind fun t459 => (some t459)) = some r := H
        have A8 := Aside0.mk A80
        clear A80
        replace H := Option.bind_eq_some_iff.mp H
        obtain ⟨t459, A90, H⟩ := H
        replace H : (some t459) = some r := H
        have A9 := Aside0.mk A90
        clear A90
        obtain rfl := Option.some.inj H
        go_enter Tryz.func53, Tryz.ntmps53
        go_wp2_with (first | ((with_reducible refine gate_dst (N := 1) rfl ?_); refine box_event ?hg (N := 1) ?hd (cs := #[.int .i64 a0_0, .int .i64 a0_1, .int .i64 a0_2, .int .i64 a0_3]) (t := 77) ?hr ?_; (case hd => rfl); (case hg => rfl); (case hr => first | (go_simp; done) | (go_simp; rfl)); intro gb454 hg w10 hbox hb; have n0_ := Aside0.mk (below_step (by repeat (first | (with_reducible first | exact HB.out | apply below_alloc | apply pw_below_drewN | apply below_drew1) | exact HB.out)) hb); have n1_ := Aside0.mk (hbox); have n2_ := Aside0.mk ((by rw [hg]; exact (below_size (by repeat (first | (with_reducible first | exact HB.out | apply below_alloc | apply pw_below_drewN | apply below_drew1) | exact HB.out))) : w.heap.size ≤ gb454)); have n3_ := Aside0.mk ((by rw [hg]; exact (below_size (by repeat (first | (with_reducible first | exact HB.out | apply below_alloc | apply pw_below_drewN | apply below_drew1) | exact HB.out))) : w.heap.size ≤ gb454)); clear HB; have HB := n0_; have BK454 := n1_; have GW454 := n2_; have GE454 := n3_; clear n0_ n1_ n2_ n3_; clear hb hbox hg; have hcz11_0 : w10.cell? ⟨gb454, 0, none⟩ = some (.int .i64 a0_0) := (blk_cell BK454.out 0).trans rfl; have hcz11_1 : w10.cell? ⟨gb454, 1, none⟩ = some (.int .i64 a0_1) := (blk_cell BK454.out 1).trans rfl; have hcz11_2 : w10.cell? ⟨gb454, 2, none⟩ = some (.int .i64 a0_2) := (blk_cell BK454.out 2).trans rfl; have hcz11_3 : w10.cell? ⟨gb454, 3, none⟩ = some (.int .i64 a0_3) := (blk_cell BK454.out 3).trans rfl; have hfz11_0 := blk_frozen BK454.out 0; have hfz11_1 := blk_frozen BK454.out 1; have hfz11_2 := blk_frozen BK454.out 2; have hfz11_3 := blk_frozen BK454.out 3) | ((with_reducible refine gate_callee (f := 118) rfl ?_); refine goesL_ (some 6) rfl rfl Tryz.func118 (by kernel_rfl) rfl #[.int .i64 a0_0, .int .i64 0, .int .i64 100000] rfl (by (try simp only [List.map_toArray, List.map_cons, List.map_nil]); first | done | rfl | (simp only [List.length_drop, List.length_take]; rfl)) ?_; (with_reducible refine (governor_within.calls a0_0 0 100000 true _ A2.out).mono ?_); rintro e w' ⟨rfl, ⟨nd, rfl⟩⟩; refine ⟨_, rfl, ?_⟩) | (go_at_call 118; (with_reducible refine (governor_within.calls a0_1 0 1000 true _ A4.out).mono ?_); rintro e w' ⟨rfl, ⟨nd, rfl⟩⟩) | (go_at_call 118; (with_reducible refine (governor_within.calls a0_2 1 1000 true _ A6.out).mono ?_); rintro e w' ⟨rfl, ⟨nd, rfl⟩⟩) | (go_at_call 126; (with_reducible refine (governor_isPosition.calls a0_3 t458 _ A8.out).mono ?_); rintro e w' ⟨rfl, ⟨nd, rfl⟩⟩) | ((with_reducible refine gate_callee (f := 93) rfl ?_); refine goesL_ (some 23) rfl rfl Tryz.func93 (by kernel_rfl) rfl #[.bool t458, .int .i64 2] rfl (by (try simp only [List.map_toArray, List.map_cons, List.map_nil]); first | done | rfl | (simp only [List.length_drop, List.length_take]; rfl)) ?_; (with_reducible refine (governor_unless.calls t458 2 t459 _ A9.out).mono ?_); rintro e w' ⟨rfl, ⟨nd, rfl⟩⟩; refine ⟨_, rfl, ?_⟩))
        go_ret
        exact ⟨by first | rfl | (simp [errW_none, errW_some] <;> rfl) | (simp [*, errW_none, errW_some] <;> rfl), by repeat (first | (with_reducible first | exact HB.out | apply below_alloc | apply pw_below_drewN | apply below_drew1 | refine below_set ?_ GE454.out) | exact HB.out)⟩
      · replace c7 := Bool.eq_false_iff.mpr c7
        subst c7
        have H1 : ((governor_unless.f false 2).bind fun t460 => (some t460)) = some r := by rw [if_neg (show ¬ (false = true) by decide)] at H; exact H
        clear H
        have H := H1
        clear H1
        replace H := Option.bind_eq_some_iff.mp H
        obtain ⟨t460, A120, H⟩ := H
        replace H : (some t460) = some r := H
        have A12 := Aside0.mk A120
        clear A120
        obtain rfl := Option.some.inj H
        go_enter Tryz.func53, Tryz.ntmps53
        go_wp2_with (first | ((with_reducible refine gate_dst (N := 1) rfl ?_); refine box_event ?hg (N := 1) ?hd (cs := #[.int .i64 a0_0, .int .i64 a0_1, .int .i64 a0_2, .int .i64 a0_3]) (t := 77) ?hr ?_; (case hd => rfl); (case hg => rfl); (case hr => first | (go_simp; done) | (go_simp; rfl)); intro gb454 hg w13 hbox hb; have n0_ := Aside0.mk (below_step (by repeat (first | (with_reducible first | exact HB.out | apply below_alloc | apply pw_below_drewN | apply below_drew1) | exact HB.out)) hb); have n1_ := Aside0.mk (hbox); have n2_ := Aside0.mk ((by rw [hg]; exact (below_size (by repeat (first | (with_reducible first | exact HB.out | apply below_alloc | apply pw_below_drewN | apply below_drew1) | exact HB.out))) : w.heap.size ≤ gb454)); have n3_ := Aside0.mk ((by rw [hg]; exact (below_size (by repeat (first | (with_reducible first | exact HB.out | apply below_alloc | apply pw_below_drewN | apply below_drew1) | exact HB.out))) : w.heap.size ≤ gb454)); clear HB; have HB := n0_; have BK454 := n1_; have GW454 := n2_; have GE454 := n3_; clear n0_ n1_ n2_ n3_; clear hb hbox hg; have hcz14_0 : w13.cell? ⟨gb454, 0, none⟩ = some (.int .i64 a0_0) := (blk_cell BK454.out 0).trans rfl; have hcz14_1 : w13.cell? ⟨gb454, 1, none⟩ = some (.int .i64 a0_1) := (blk_cell BK454.out 1).trans rfl; have hcz14_2 : w13.cell? ⟨gb454, 2, none⟩ = some (.int .i64 a0_2) := (blk_cell BK454.out 2).trans rfl; have hcz14_3 : w13.cell? ⟨gb454, 3, none⟩ = some (.int .i64 a0_3) := (blk_cell BK454.out 3).trans rfl; have hfz14_0 := blk_frozen BK454.out 0; have hfz14_1 := blk_frozen BK454.out 1; have hfz14_2 := blk_frozen BK454.out 2; have hfz14_3 := blk_frozen BK454.out 3) | ((with_reducible refine gate_callee (f := 118) rfl ?_); refine goesL_ (some 6) rfl rfl Tryz.func118 (by kernel_rfl) rfl #[.int .i64 a0_0, .int .i64 0, .int .i64 100000] rfl (by (try simp only [List.map_toArray, List.map_cons, List.map_nil]); first | done | rfl | (simp only [List.length_drop, List.length_take]; rfl)) ?_; (with_reducible refine (governor_within.calls a0_0 0 100000 true _ A2.out).mono ?_); rintro e w' ⟨rfl, ⟨nd, rfl⟩⟩; refine ⟨_, rfl, ?_⟩) | (go_at_call 118; (with_reducible refine (governor_within.calls a0_1 0 1000 true _ A4.out).mono ?_); rintro e w' ⟨rfl, ⟨nd, rfl⟩⟩) | (go_at_call 118; (with_reducible refine (governor_within.calls a0_2 1 1000 false _ A6.out).mono ?_); rintro e w' ⟨rfl, ⟨nd, rfl⟩⟩) | ((with_reducible refine gate_callee (f := 93) rfl ?_); refine goesL_ (some 23) rfl rfl Tryz.func93 (by kernel_rfl) rfl #[.bool false, .int .i64 2] rfl (by (try simp only [List.map_toArray, List.map_cons, List.map_nil]); first | done | rfl | (simp only [List.length_drop, List.length_take]; rfl)) ?_; (with_reducible refine (governor_unless.calls false 2 t460 _ A12.out).mono ?_); rintro e w' ⟨rfl, ⟨nd, rfl⟩⟩; refine ⟨_, rfl, ?_⟩))
        go_ret
        exact ⟨by first | rfl | (simp [errW_none, errW_some] <;> rfl) | (simp [*, errW_none, errW_some] <;> rfl), by repeat (first | (with_reducible first | exact HB.out | apply below_alloc | apply pw_below_drewN | apply below_drew1 | refine below_set ?_ GE454.out) | exact HB.out)⟩
    · replace c5 := Bool.eq_false_iff.mpr c5
      subst c5
      have H1 : ((governor_unless.f false 2).bind fun t461 => (some t461)) = some r := by rw [if_neg (show ¬ (false = true) by decide)] at H; exact H
      clear H
      have H := H1
      clear H1
      replace H := Option.bind_eq_some_iff.mp H
      obtain ⟨t461, A150, H⟩ := H
      replace H : (some t461) = some r := H
      have A15 := Aside0.mk A150
      clear A150
      obtain rfl := Option.some.inj H
      go_enter Tryz.func53, Tryz.ntmps53
      go_wp2_with (first | ((with_reducible refine gate_dst (N := 1) rfl ?_); refine box_event ?hg (N := 1) ?hd (cs := #[.int .i64 a0_0, .int .i64 a0_1, .int .i64 a0_2, .int .i64 a0_3]) (t := 77) ?hr ?_; (case hd => rfl); (case hg => rfl); (case hr => first | (go_simp; done) | (go_simp; rfl)); intro gb454 hg w16 hbox hb; have n0_ := Aside0.mk (below_step (by repeat (first | (with_reducible first | exact HB.out | apply below_alloc | apply pw_below_drewN | apply below_drew1) | exact HB.out)) hb); have n1_ := Aside0.mk (hbox); have n2_ := Aside0.mk ((by rw [hg]; exact (below_size (by repeat (first | (with_reducible first | exact HB.out | apply below_alloc | apply pw_below_drewN | apply below_drew1) | exact HB.out))) : w.heap.size ≤ gb454)); have n3_ := Aside0.mk ((by rw [hg]; exact (below_size (by repeat (first | (with_reducible first | exact HB.out | apply below_alloc | apply pw_below_drewN | apply below_drew1) | exact HB.out))) : w.heap.size ≤ gb454)); clear HB; have HB := n0_; have BK454 := n1_; have GW454 := n2_; have GE454 := n3_; clear n0_ n1_ n2_ n3_; clear hb hbox hg; have hcz17_0 : w16.cell? ⟨gb454, 0, none⟩ = some (.int .i64 a0_0) := (blk_cell BK454.out 0).trans rfl; have hcz17_1 : w16.cell? ⟨gb454, 1, none⟩ = some (.int .i64 a0_1) := (blk_cell BK454.out 1).trans rfl; have hcz17_2 : w16.cell? ⟨gb454, 2, none⟩ = some (.int .i64 a0_2) := (blk_cell BK454.out 2).trans rfl; have hcz17_3 : w16.cell? ⟨gb454, 3, none⟩ = some (.int .i64 a0_3) := (blk_cell BK454.out 3).trans rfl; have hfz17_0 := blk_frozen BK454.out 0; have hfz17_1 := blk_frozen BK454.out 1; have hfz17_2 := blk_frozen BK454.out 2; have hfz17_3 := blk_frozen BK454.out 3) | ((with_reducible refine gate_callee (f := 118) rfl ?_); refine goesL_ (some 6) rfl rfl Tryz.func118 (by kernel_rfl) rfl #[.int .i64 a0_0, .int .i64 0, .int .i64 100000] rfl (by (try simp only [List.map_toArray, List.map_cons, List.map_nil]); first | done | rfl | (simp only [List.length_drop, List.length_take]; rfl)) ?_; (with_reducible refine (governor_within.calls a0_0 0 100000 true _ A2.out).mono ?_); rintro e w' ⟨rfl, ⟨nd, rfl⟩⟩; refine ⟨_, rfl, ?_⟩) | (go_at_call 118; (with_reducible refine (governor_within.calls a0_1 0 1000 false _ A4.out).mono ?_); rintro e w' ⟨rfl, ⟨nd, rfl⟩⟩) | ((with_reducible refine gate_callee (f := 93) rfl ?_); refine goesL_ (some 23) rfl rfl Tryz.func93 (by kernel_rfl) rfl #[.bool false, .int .i64 2] rfl (by (try simp only [List.map_toArray, List.map_cons, List.map_nil]); first | done | rfl | (simp only [List.length_drop, List.length_take]; rfl)) ?_; (with_reducible refine (governor_unless.calls false 2 t461 _ A15.out).mono ?_); rintro e w' ⟨rfl, ⟨nd, rfl⟩⟩; refine ⟨_, rfl, ?_⟩))
      go_ret
      exact ⟨by first | rfl | (simp [errW_none, errW_some] <;> rfl) | (simp [*, errW_none, errW_some] <;> rfl), by repeat (first | (with_reducible first | exact HB.out | apply below_alloc | apply pw_below_drewN | apply below_drew1 | refine below_set ?_ GE454.out) | exact HB.out)⟩
  · replace c3 := Bool.eq_false_iff.mpr c3
    subst c3
    have H1 : ((governor_unless.f false 2).bind fun t462 => (some t462)) = some r := by rw [if_neg (show ¬ (false = true) by decide)] at H; exact H
    clear H
    have H := H1
    clear H1
    replace H := Option.bind_eq_some_iff.mp H
    obtain ⟨t462, A180, H⟩ := H
    replace H : (some t462) = some r := H
    have A18 := Aside0.mk A180
    clear A180
    obtain rfl := Option.some.inj H
    go_enter Tryz.func53, Tryz.ntmps53
    go_wp2_with (first | ((with_reducible refine gate_dst (N := 1) rfl ?_); refine box_event ?hg (N := 1) ?hd (cs := #[.int .i64 a0_0, .int .i64 a0_1, .int .i64 a0_2, .int .i64 a0_3]) (t := 77) ?hr ?_; (case hd => rfl); (case hg => rfl); (case hr => first | (go_simp; done) | (go_simp; rfl)); intro gb454 hg w19 hbox hb; have n0_ := Aside0.mk (below_step (by repeat (first | (with_reducible first | exact HB.out | apply below_alloc | apply pw_below_drewN | apply below_drew1) | exact HB.out)) hb); have n1_ := Aside0.mk (hbox); have n2_ := Aside0.mk ((by rw [hg]; exact (below_size (by repeat (first | (with_reducible first | exact HB.out | apply below_alloc | apply pw_below_drewN | apply below_drew1) | exact HB.out))) : w.heap.size ≤ gb454)); have n3_ := Aside0.mk ((by rw [hg]; exact (below_size (by repeat (first | (with_reducible first | exact HB.out | apply below_alloc | apply pw_below_drewN | apply below_drew1) | exact HB.out))) : w.heap.size ≤ gb454)); clear HB; have HB := n0_; have BK454 := n1_; have GW454 := n2_; have GE454 := n3_; clear n0_ n1_ n2_ n3_; clear hb hbox hg; have hcz20_0 : w19.cell? ⟨gb454, 0, none⟩ = some (.int .i64 a0_0) := (blk_cell BK454.out 0).trans rfl; have hcz20_1 : w19.cell? ⟨gb454, 1, none⟩ = some (.int .i64 a0_1) := (blk_cell BK454.out 1).trans rfl; have hcz20_2 : w19.cell? ⟨gb454, 2, none⟩ = some (.int .i64 a0_2) := (blk_cell BK454.out 2).trans rfl; have hcz20_3 : w19.cell? ⟨gb454, 3, none⟩ = some (.int .i64 a0_3) := (blk_cell BK454.out 3).trans rfl; have hfz20_0 := blk_frozen BK454.out 0; have hfz20_1 := blk_frozen BK454.out 1; have hfz20_2 := blk_frozen BK454.out 2; have hfz20_3 := blk_frozen BK454.out 3) | ((with_reducible refine gate_callee (f := 118) rfl ?_); refine goesL_ (some 6) rfl rfl Tryz.func118 (by kernel_rfl) rfl #[.int .i64 a0_0, .int .i64 0, .int .i64 100000] rfl (by (try simp only [List.map_toArray, List.map_cons, List.map_nil]); first | done | rfl | (simp only [List.length_drop, List.length_take]; rfl)) ?_; (with_reducible refine (governor_within.calls a0_0 0 100000 false _ A2.out).mono ?_); rintro e w' ⟨rfl, ⟨nd, rfl⟩⟩; refine ⟨_, rfl, ?_⟩) | ((with_reducible refine gate_callee (f := 93) rfl ?_); refine goesL_ (some 23) rfl rfl Tryz.func93 (by kernel_rfl) rfl #[.bool false, .int .i64 2] rfl (by (try simp only [List.map_toArray, List.map_cons, List.map_nil]); first | done | rfl | (simp only [List.length_drop, List.length_take]; rfl)) ?_; (with_reducible refine (governor_unless.calls false 2 t462 _ A18.out).mono ?_); rintro e w' ⟨rfl, ⟨nd, rfl⟩⟩; refine ⟨_, rfl, ?_⟩))
    go_ret
    exact ⟨by first | rfl | (simp [errW_none, errW_some] <;> rfl) | (simp [*, errW_none, errW_some] <;> rfl), by repeat (first | (with_reducible first | exact HB.out | apply below_alloc | apply pw_below_drewN | apply below_drew1 | refine below_set ?_ GE454.out) | exact HB.out)⟩
def governor_isSized.f (a0 : Int) (a1 : Int) : Option (Bool) := (governor_within.f a0 (wrap64 (-a1)) a1).bind fun t463 => (some t463)
set_option maxHeartbeats 8000000 in
set_option maxRecDepth 100000 in
theorem governor_isSized.calls (a0 : Int) (a1 : Int) (r : Bool) (w : World) (h : governor_isSized.f a0 a1 = some r) :
    Calls Tryz.prog 114 #[.int .i64 a0, .int .i64 a1] w fun e w' => e = .returned (.bool r) ∧ Drawn0 w w' := by
  have H : ((governor_within.f a0 (wrap64 (-a1)) a1).bind fun t463 => (some t463)) = some r := h
  clear h
  replace H := Option.bind_eq_some_iff.mp H
  obtain ⟨t463, A30, H⟩ := H
  replace H : (some t463) = some r := H
  have A3 := Aside0.mk A30
  clear A30
  obtain rfl := Option.some.inj H
  go_enter Tryz.func114, Tryz.ntmps114
  go_wp2_with (first | ((with_reducible refine gate_callee (f := 118) rfl ?_); refine goesL_ (some 9) rfl rfl Tryz.func118 (by kernel_rfl) rfl #[.int .i64 a0, .int .i64 (wrap64 (-a1)), .int .i64 a1] rfl (by (try simp only [List.map_toArray, List.map_cons, List.map_nil]); first | done | rfl | (simp only [List.length_drop, List.length_take]; rfl)) ?_; (with_reducible refine (governor_within.calls a0 (wrap64 (-a1)) a1 t463 _ A3.out).mono ?_); rintro e w' ⟨rfl, ⟨nd, rfl⟩⟩; refine ⟨_, rfl, ?_⟩))
  go_ret
  exact ⟨by first | rfl | (simp; done) | (simp [*]; done), by repeat (first | exact Drawn0.refl _ | apply Drawn0.step)⟩
def governor_speedErr.f (a0 : Int) : Option (Int) := (governor_isSized.f a0 100000).bind fun t464 => ((governor_unless.f t464 2).bind fun t465 => (some t465))
set_option maxHeartbeats 8000000 in
set_option maxRecDepth 100000 in
theorem governor_speedErr.calls (a0 : Int) (r : Int) (w : World) (h : governor_speedErr.f a0 = some r) :
    Calls Tryz.prog 122 #[.int .i64 a0] w fun e w' => e = .returned (.int .i64 r) ∧ Drawn0 w w' := by
  have H : ((governor_isSized.f a0 100000).bind fun t464 => ((governor_unless.f t464 2).bind fun t465 => (some t465))) = some r := h
  clear h
  replace H := Option.bind_eq_some_iff.mp H
  obtain ⟨t464, A20, H⟩ := H
  replace H : ((governor_unless.f t464 2).bind fun t465 => (some t465)) = some r := H
  have A2 := Aside0.mk A20
  clear A20
  replace H := Option.bind_eq_some_iff.mp H
  obtain ⟨t465, A30, H⟩ := H
  replace H : (some t465) = some r := H
  have A3 := Aside0.mk A30
  clear A30
  obtain rfl := Option.some.inj H
  go_enter Tryz.func122, Tryz.ntmps122
  go_wp2_with (first | ((with_reducible refine gate_callee (f := 114) rfl ?_); refine goesL_ (some 4) rfl rfl Tryz.func114 (by kernel_rfl) rfl #[.int .i64 a0, .int .i64 100000] rfl (by (try simp only [List.map_toArray, List.map_cons, List.map_nil]); first | done | rfl | (simp only [List.length_drop, List.length_take]; rfl)) ?_; (with_reducible refine (governor_isSized.calls a0 100000 t464 _ A2.out).mono ?_); rintro e w' ⟨rfl, ⟨nd, rfl⟩⟩; refine ⟨_, rfl, ?_⟩) | ((with_reducible refine gate_callee (f := 93) rfl ?_); refine goesL_ (some 5) rfl rfl Tryz.func93 (by kernel_rfl) rfl #[.bool t464, .int .i64 2] rfl (by (try simp only [List.map_toArray, List.map_cons, List.map_nil]); first | done | rfl | (simp only [List.length_drop, List.length_take]; rfl)) ?_; (with_reducible refine (governor_unless.calls t464 2 t465 _ A3.out).mono ?_); rintro e w' ⟨rfl, ⟨nd, rfl⟩⟩; refine ⟨_, rfl, ?_⟩))
  go_ret
  exact ⟨by first | rfl | (simp; done) | (simp [*]; done), by repeat (first | exact Drawn0.refl _ | apply Drawn0.step)⟩
def governor_wanted.f (a0_0 : Int) (a0_1 : Int) (a0_2 : Int) (a0_3 : Int) (a1 : Int) : Option (Int) := if a0_2 = 0 then (none) else (some (wrap64 (a0_3 - (wrap64 (Int.tdiv (wrap64 (a0_1 * (wrap64 ((mx 0 (wrap64 (a1 - a0_0))) + (mn 0 (wrap64 (a1 + a0_0))))))) a0_2)))))
set_option maxHeartbeats 8000000 in
set_option maxRecDepth 100000 in
theorem governor_wanted.calls (a0_0 : Int) (a0_1 : Int) (a0_2 : Int) (a0_3 : Int) (a1 : Int) (r : Int) (w : World) (h : governor_wanted.f a0_0 a0_1 a0_2 a0_3 a1 = some r) :
    Calls Tryz.prog 123 #[.agg #[.int .i64 a0_0, .int .i64 a0_1, .int .i64 a0_2, .int .i64 a0_3], .int .i64 a1] w fun e w' => e = .returned (.int .i64 r) ∧ Below w.heap.size w w' := by
  have hu77 := Tryz.underlying77
  have HB := Aside0.mk (Below.refl w.heap.size w)
  have H : (if a0_2 = 0 then (none) else (some (wrap64 (a0_3 - (wrap64 (Int.tdiv (wrap64 (a0_1 * (wrap64 ((mx 0 (wrap64 (a1 - a0_0))) + (mn 0 (wrap64 (a1 + a0_0))))))) a0_2)))))) = some r := h
  clear h
  obtain ⟨ji3, hji3⟩ : ∃ j_ : Int, (mx 0 (wrap64 (a1 - a0_0))) = j_ := ⟨_, rfl⟩
  replace H : (if a0_2 = 0 then (none) else (some (wrap64 (a0_3 - (wrap64 (Int.tdiv (wrap64 (a0_1 * (wrap64 ((ji3) + (mn 0 (wrap64 (a1 + a0_0))))))) a0_2)))))) = some r := by first | (rw [hji3] at H; exact H) | (simp only [hji3] at H ⊢; exact H)
  (try (have hji3l : 0 ≤ ji3 := by (rw [← hji3]; unfold mx; (repeat' split) <;> omega)))
  (try (have hji3m : 0 ≤ ji3 := by omega))
  have hji3_ : (if 0 < (wrap64 (a1 - a0_0)) then (wrap64 (a1 - a0_0)) else 0) = ji3 := hji3
  obtain ⟨ji4, hji4⟩ : ∃ j_ : Int, (mn 0 (wrap64 (a1 + a0_0))) = j_ := ⟨_, rfl⟩
  replace H : (if a0_2 = 0 then (none) else (some (wrap64 (a0_3 - (wrap64 (Int.tdiv (wrap64 (a0_1 * (wrap64 ((ji3) + (ji4))))) a0_2)))))) = some r := by first | (rw [hji4] at H; exact H) | (simp only [hji4] at H ⊢; exact H)
  (try (have hji4h : ji4 ≤ 0 := by (rw [← hji4]; unfold mn; (repeat' split) <;> omega)))
  (try (have hji4g : ji4 ≤ 64 := by omega))
  have hji4_ : (if (wrap64 (a1 + a0_0)) < 0 then (wrap64 (a1 + a0_0)) else 0) = ji4 := hji4
  by_cases c5 : a0_2 = 0
  · rw [if_pos c5] at H
    exact absurd H (by simp)
  · rw [if_neg c5] at H
    have c5b0 : (a0_2 == 0) = false := beq_eq_false_iff_ne.mpr c5
    have c5b1 : (a0_2 != 0) = true := bne_iff_ne.mpr c5
    obtain rfl := Option.some.inj H
    go_enter Tryz.func123, Tryz.ntmps123
    go_wp2_with (first | ((with_reducible refine gate_dst (N := 2) rfl ?_); refine box_event ?hg (N := 2) ?hd (cs := #[.int .i64 a0_0, .int .i64 a0_1, .int .i64 a0_2, .int .i64 a0_3]) (t := 77) ?hr ?_; (case hd => rfl); (case hg => rfl); (case hr => first | (go_simp; done) | (go_simp; rfl)); intro gb466 hg w6 hbox hb; have n0_ := Aside0.mk (below_step (by repeat (first | (with_reducible first | exact HB.out | apply below_alloc | apply pw_below_drewN | apply below_drew1) | exact HB.out)) hb); have n1_ := Aside0.mk (hbox); have n2_ := Aside0.mk ((by rw [hg]; exact (below_size (by repeat (first | (with_reducible first | exact HB.out | apply below_alloc | apply pw_below_drewN | apply below_drew1) | exact HB.out))) : w.heap.size ≤ gb466)); have n3_ := Aside0.mk ((by rw [hg]; exact (below_size (by repeat (first | (with_reducible first | exact HB.out | apply below_alloc | apply pw_below_drewN | apply below_drew1) | exact HB.out))) : w.heap.size ≤ gb466)); clear HB; have HB := n0_; have BK466 := n1_; have GW466 := n2_; have GE466 := n3_; clear n0_ n1_ n2_ n3_; clear hb hbox hg; have hcz7_0 : w6.cell? ⟨gb466, 0, none⟩ = some (.int .i64 a0_0) := (blk_cell BK466.out 0).trans rfl; have hcz7_1 : w6.cell? ⟨gb466, 1, none⟩ = some (.int .i64 a0_1) := (blk_cell BK466.out 1).trans rfl; have hcz7_2 : w6.cell? ⟨gb466, 2, none⟩ = some (.int .i64 a0_2) := (blk_cell BK466.out 2).trans rfl; have hcz7_3 : w6.cell? ⟨gb466, 3, none⟩ = some (.int .i64 a0_3) := (blk_cell BK466.out 3).trans rfl; have hfz7_0 := blk_frozen BK466.out 0; have hfz7_1 := blk_frozen BK466.out 1; have hfz7_2 := blk_frozen BK466.out 2; have hfz7_3 := blk_frozen BK466.out 3))
    repeat (go_quiet (first | ((with_reducible refine gate_dst (N := 2) rfl ?_); refine box_event ?hg (N := 2) ?hd (cs := #[.int .i64 a0_0, .int .i64 a0_1, .int .i64 a0_2, .int .i64 a0_3]) (t := 77) ?hr ?_; (case hd => rfl); (case hg => rfl); (case hr => first | (go_simp; done) | (go_simp; rfl)); intro gb466 hg w6 hbox hb; have n0_ := Aside0.mk (below_step (by repeat (first | (with_reducible first | exact HB.out | apply below_alloc | apply pw_below_drewN | apply below_drew1) | exact HB.out)) hb); have n1_ := Aside0.mk (hbox); have n2_ := Aside0.mk ((by rw [hg]; exact (below_size (by repeat (first | (with_reducible first | exact HB.out | apply below_alloc | apply pw_below_drewN | apply below_drew1) | exact HB.out))) : w.heap.size ≤ gb466)); have n3_ := Aside0.mk ((by rw [hg]; exact (below_size (by repeat (first | (with_reducible first | exact HB.out | apply below_alloc | apply pw_below_drewN | apply below_drew1) | exact HB.out))) : w.heap.size ≤ gb466)); clear HB; have HB := n0_; have BK466 := n1_; have GW466 := n2_; have GE466 := n3_; clear n0_ n1_ n2_ n3_; clear hb hbox hg; have hcz7_0 : w6.cell? ⟨gb466, 0, none⟩ = some (.int .i64 a0_0) := (blk_cell BK466.out 0).trans rfl; have hcz7_1 : w6.cell? ⟨gb466, 1, none⟩ = some (.int .i64 a0_1) := (blk_cell BK466.out 1).trans rfl; have hcz7_2 : w6.cell? ⟨gb466, 2, none⟩ = some (.int .i64 a0_2) := (blk_cell BK466.out 2).trans rfl; have hcz7_3 : w6.cell? ⟨gb466, 3, none⟩ = some (.int .i64 a0_3) := (blk_cell BK466.out 3).trans rfl; have hfz7_0 := blk_frozen BK466.out 0; have hfz7_1 := blk_frozen BK466.out 1; have hfz7_2 := blk_frozen BK466.out 2; have hfz7_3 := blk_frozen BK466.out 3)); try go_wp2_with (first | ((with_reducible refine gate_dst (N := 2) rfl ?_); refine box_event ?hg (N := 2) ?hd (cs := #[.int .i64 a0_0, .int .i64 a0_1, .int .i64 a0_2, .int .i64 a0_3]) (t := 77) ?hr ?_; (case hd => rfl); (case hg => rfl); (case hr => first | (go_simp; done) | (go_simp; rfl)); intro gb466 hg w6 hbox hb; have n0_ := Aside0.mk (below_step (by repeat (first | (with_reducible first | exact HB.out | apply below_alloc | apply pw_below_drewN | apply below_drew1) | exact HB.out)) hb); have n1_ := Aside0.mk (hbox); have n2_ := Aside0.mk ((by rw [hg]; exact (below_size (by repeat (first | (with_reducible first | exact HB.out | apply below_alloc | apply pw_below_drewN | apply below_drew1) | exact HB.out))) : w.heap.size ≤ gb466)); have n3_ := Aside0.mk ((by rw [hg]; exact (below_size (by repeat (first | (with_reducible first | exact HB.out | apply below_alloc | apply pw_below_drewN | apply below_drew1) | exact HB.out))) : w.heap.size ≤ gb466)); clear HB; have HB := n0_; have BK466 := n1_; have GW466 := n2_; have GE466 := n3_; clear n0_ n1_ n2_ n3_; clear hb hbox hg; have hcz7_0 : w6.cell? ⟨gb466, 0, none⟩ = some (.int .i64 a0_0) := (blk_cell BK466.out 0).trans rfl; have hcz7_1 : w6.cell? ⟨gb466, 1, none⟩ = some (.int .i64 a0_1) := (blk_cell BK466.out 1).trans rfl; have hcz7_2 : w6.cell? ⟨gb466, 2, none⟩ = some (.int .i64 a0_2) := (blk_cell BK466.out 2).trans rfl; have hcz7_3 : w6.cell? ⟨gb466, 3, none⟩ = some (.int .i64 a0_3) := (blk_cell BK466.out 3).trans rfl; have hfz7_0 := blk_frozen BK466.out 0; have hfz7_1 := blk_frozen BK466.out 1; have hfz7_2 := blk_frozen BK466.out 2; have hfz7_3 := blk_frozen BK466.out 3)))
    go_ret
    exact ⟨by first | rfl | (simp [errW_none, errW_some] <;> rfl) | (simp only [← hji3, ← hji4]; first | rfl | (simp [errW_none, errW_some] <;> rfl)) | (simp [*, errW_none, errW_some] <;> rfl), by repeat (first | (with_reducible first | exact HB.out | apply below_alloc | apply pw_below_drewN | apply below_drew1 | refine below_set ?_ GE466.out) | exact HB.out)⟩
def governor_WantedFor.f (k : Nat) (a0_0 : Int) (a0_1 : Int) (a0_2 : Int) (a0_3 : Int) (a1 : Int) : Option (Int × Int) := (governor_CheckRules.f a0_0 a0_1 a0_2 a0_3).bind fun t468 => ((governor_speedErr.f a1).bind fun t469 => ((governor_first.f k (([t468, t469] : List Int))).bind fun t473 => (if t473 = 0 then ((governor_wanted.f a0_0 a0_1 a0_2 a0_3 a1).bind fun t474 => (some (t474, 0))) else (some (0, t473)))))
set_option maxHeartbeats 8000000 in
set_option maxRecDepth 100000 in
theorem governor_WantedFor.calls (k : Nat) (a0_0 : Int) (a0_1 : Int) (a0_2 : Int) (a0_3 : Int) (a1 : Int) (r1 : Int) (r2 : Int) (w : World) (h : governor_WantedFor.f k a0_0 a0_1 a0_2 a0_3 a1 = some (r1, r2)) :
    Calls Tryz.prog 47 #[.agg #[.int .i64 a0_0, .int .i64 a0_1, .int .i64 a0_2, .int .i64 a0_3], .int .i64 a1] w fun e w' => e = .returned (.tuple #[.int .i64 r1, .int .i64 r2]) ∧ Below w.heap.size w w' := by
  have hu77 := Tryz.underlying77
  have HB := Aside0.mk (Below.refl w.heap.size w)
  have H : ((governor_CheckRules.f a0_0 a0_1 a0_2 a0_3).bind fun t468 => ((governor_speedErr.f a1).bind fun t469 => ((governor_first.f k (([t468, t469] : List Int))).bind fun t473 => (if t473 = 0 then ((governor_wanted.f a0_0 a0_1 a0_2 a0_3 a1).bind fun t474 => (some (t474, 0))) else (some (0, t473)))))) = some (r1, r2) := h
  clear h
  replace H := Option.bind_eq_some_iff.mp H
  obtain ⟨t468, A30, H⟩ := H
  replace H : ((governor_speedErr.f a1).bind fun t469 => ((governor_first.f k (([t468, t469] : List Int))).bind fun t473 => (if t473 = 0 then ((governor_wanted.f a0_0 a0_1 a0_2 a0_3 a1).bind fun t474 => (some (t474, 0))) else (some (0, t473))))) = some (r1, r2) := H
  have A3 := Aside0.mk A30
  clear A30
  replace H := Option.bind_eq_some_iff.mp H
  obtain ⟨t469, A40, H⟩ := H
  replace H : ((governor_first.f k (([t468, t469] : List Int))).bind fun t473 => (if t473 = 0 then ((governor_wanted.f a0_0 a0_1 a0_2 a0_3 a1).bind fun t474 => (some (t474, 0))) else (some (0, t473)))) = some (r1, r2) := H
  have A4 := Aside0.mk A40
  clear A40
  obtain ⟨y470, hy470⟩ : ∃ y_ : List Int, y_ = (([t468, t469] : List Int)) := ⟨_, rfl⟩
  replace H : ((governor_first.f k y470).bind fun t473 => (if t473 = 0 then ((governor_wanted.f a0_0 a0_1 a0_2 a0_3 a1).bind fun t474 => (some (t474, 0))) else (some (0, t473)))) = some (r1, r2) := by first | (rw [hy470]; with_reducible exact H) | (have H2_ := (Option.bind_some _ _).symm.trans H; rw [hy470]; with_reducible exact H2_) | (have H2_ := (Option.bind_some _ _).symm.trans H; with_reducible exact H2_) | with_reducible exact H | (rw [hy470]; exact H) | exact H
  have Ny470 := Aside0.mk hy470
  clear hy470
  replace H := Option.bind_eq_some_iff.mp H
  obtain ⟨t473, A50, H⟩ := H
  replace H : (if t473 = 0 then ((governor_wanted.f a0_0 a0_1 a0_2 a0_3 a1).bind fun t474 => (some (t474, 0))) else (some (0, t473))) = some (r1, r2) := H
  have A5 := Aside0.mk A50
  clear A50
  by_cases c6 : t473 = 0
  · rw [if_pos c6] at H
    have c6b0 : (t473 == 0) = true := beq_iff_eq.mpr c6
    have c6b1 : (t473 != 0) = false := bne_eq_false_iff_eq.mpr c6
    clear c6
    replace H := Option.bind_eq_some_iff.mp H
    obtain ⟨t474, A70, H⟩ := H
    replace H : (some (t474, 0)) = some (r1, r2) := H
    have A7 := Aside0.mk A70
    clear A70
    simp only [Option.some.injEq, Prod.mk.injEq] at H
    obtain ⟨rfl, rfl⟩ := H
    go_enter Tryz.func47, Tryz.ntmps47
    go_wp2_with (first | ((with_reducible refine gate_dst (N := 2) rfl ?_); refine box_event ?hg (N := 2) ?hd (cs := #[.int .i64 a0_0, .int .i64 a0_1, .int .i64 a0_2, .int .i64 a0_3]) (t := 77) ?hr ?_; (case hd => rfl); (case hg => rfl); (case hr => first | (go_simp; done) | (go_simp; rfl)); intro gb467 hg w8 hbox hb; have n0_ := Aside0.mk (below_step (by repeat (first | (with_reducible first | exact HB.out | apply below_alloc | apply pw_below_drewN | apply below_drew1) | exact HB.out)) hb); have n1_ := Aside0.mk (hbox); have n2_ := Aside0.mk ((by rw [hg]; exact (below_size (by repeat (first | (with_reducible first | exact HB.out | apply below_alloc | apply pw_below_drewN | apply below_drew1) | exact HB.out))) : w.heap.size ≤ gb467)); have n3_ := Aside0.mk ((by rw [hg]; exact (below_size (by repeat (first | (with_reducible first | exact HB.out | apply below_alloc | apply pw_below_drewN | apply below_drew1) | exact HB.out))) : w.heap.size ≤ gb467)); clear HB; have HB := n0_; have BK467 := n1_; have GW467 := n2_; have GE467 := n3_; clear n0_ n1_ n2_ n3_; clear hb hbox hg; have hcz9_0 : w8.cell? ⟨gb467, 0, none⟩ = some (.int .i64 a0_0) := (blk_cell BK467.out 0).trans rfl; have hcz9_1 : w8.cell? ⟨gb467, 1, none⟩ = some (.int .i64 a0_1) := (blk_cell BK467.out 1).trans rfl; have hcz9_2 : w8.cell? ⟨gb467, 2, none⟩ = some (.int .i64 a0_2) := (blk_cell BK467.out 2).trans rfl; have hcz9_3 : w8.cell? ⟨gb467, 3, none⟩ = some (.int .i64 a0_3) := (blk_cell BK467.out 3).trans rfl; have hfz9_0 := blk_frozen BK467.out 0; have hfz9_1 := blk_frozen BK467.out 1; have hfz9_2 := blk_frozen BK467.out 2; have hfz9_3 := blk_frozen BK467.out 3) | ((with_reducible refine gate_callee (f := 53) rfl ?_); refine goesL_ (some 8) rfl rfl Tryz.func53 (by kernel_rfl) rfl #[.agg #[.int .i64 a0_0, .int .i64 a0_1, .int .i64 a0_2, .int .i64 a0_3]] rfl (by (try simp only [List.map_toArray, List.map_cons, List.map_nil]); first | done | rfl | (simp only [List.length_drop, List.length_take]; rfl)) ?_; (with_reducible refine (governor_CheckRules.calls a0_0 a0_1 a0_2 a0_3 t468 _ A3.out).mono ?_); rintro e w10 ⟨rfl, hb⟩; refine ⟨_, rfl, ?_⟩; have n0_ := Aside0.mk (blk_below (g := gb467) (o := .cells #[.int .i64 a0_0, .int .i64 a0_1, .int .i64 a0_2, .int .i64 a0_3] 77 (0, 0)) (by (with_reducible repeat (first | refine blk_drewN ?_ _ | refine blk_drew ?_ | refine blk_alloc ?_ _)); exact BK467.out) hb); have n1_ := Aside0.mk (below_step (by repeat (first | (with_reducible first | exact HB.out | apply below_alloc | apply pw_below_drewN | apply below_drew1 | refine below_set ?_ GE467.out) | exact HB.out)) hb); clear BK467; clear HB; have BK467 := n0_; have HB := n1_; clear n0_ n1_; (try clear hb); (try clear hb2); (try clear hk); (try clear hi)) | ((with_reducible refine gate_callee (f := 122) rfl ?_); refine goesL_ (some 10) rfl rfl Tryz.func122 (by kernel_rfl) rfl #[.int .i64 a1] rfl (by (try simp only [List.map_toArray, List.map_cons, List.map_nil]); first | done | rfl | (simp only [List.length_drop, List.length_take]; rfl)) ?_; (with_reducible refine (governor_speedErr.calls a1 t469 _ A4.out).mono ?_); rintro e w' ⟨rfl, ⟨nd, rfl⟩⟩; refine ⟨_, rfl, ?_⟩) | ((with_reducible refine gate_dst (N := 11) rfl ?_); refine Kd.R_lit (Kd.int .i64) _ 27 ?hg (N := 11) ?hd (xs := ([t468, t469] : List Int)) (inner := [.int .i64 t468, .int .i64 t469]) (ok := fun _ => True) (okp := fun _ => True) ?hr ?hp (fun _ hk => hk) trivial (Below.refl _ _) (Nat.le_refl _) (by simp) ?_; (case hd => rfl); (case hg => rfl); (case hr => first | (go_simp; done) | (go_simp; rfl)); (case hp => exact (Reps.one (show Kd.M (Kd.int .i64) _ _ _ t468 [.int .i64 t468] from rfl) (Reps.one (show Kd.M (Kd.int .i64) _ _ _ t469 [.int .i64 t469] from rfl) (Reps.none _ _)))); intro v471 w11 ho12 hb hg_ hnew_; clear hg_ hnew_; (first | rw [← Ny470.out] at ho12 | (simp only [Int.reduceToNat] at ho12; rw [← Ny470.out] at ho12)); have n0_ := Aside0.mk (Kd.R_lower ho12 (below_size (by repeat (first | (with_reducible first | exact HB.out | apply below_alloc | apply pw_below_drewN | apply below_drew1 | refine below_set ?_ GE467.out) | exact HB.out)))); have n1_ := Aside0.mk (blk_below (g := gb467) (o := .cells #[.int .i64 a0_0, .int .i64 a0_1, .int .i64 a0_2, .int .i64 a0_3] 77 (0, 0)) (by (with_reducible repeat (first | refine blk_drewN ?_ _ | refine blk_drew ?_ | refine blk_alloc ?_ _)); exact BK467.out) hb); have n2_ := Aside0.mk (below_step (by repeat (first | (with_reducible first | exact HB.out | apply below_alloc | apply pw_below_drewN | apply below_drew1 | refine below_set ?_ GE467.out) | exact HB.out)) hb); clear BK467; clear HB; have HO472 := n0_; have BK467 := n1_; have HB := n2_; clear n0_ n1_ n2_; clear hb ho12; obtain ⟨Ao13, co13, eo13⟩ := Kd.R_slice HO472.out; subst eo13) | ((with_reducible refine gate_callee (f := 90) rfl ?_); refine goesL_ (some 12) rfl rfl Tryz.func90 (by kernel_rfl) rfl #[.slice Ao13 y470.length co13] rfl (by (try simp only [List.map_toArray, List.map_cons, List.map_nil]); first | done | rfl | (simp only [List.length_drop, List.length_take]; rfl)) ?_; (with_reducible refine (governor_first.calls k _ _ y470 t473 _ ?side1 ?side2 A5.out).mono ?_); (case side1 => repeat (first | exact (Kd.R_reads' HO472.out).2.2 | (with_reducible refine Kd.C_alloc ?_ _) | (with_reducible refine Kd.C_drewN ?_ _) | (with_reducible refine Kd.C_drew ?_))); (case side2 => exact (Kd.R_reads' HO472.out).2.1); rintro e w' ⟨rfl, ⟨nd, rfl⟩⟩; refine ⟨_, rfl, ?_⟩; have hcz14_0 : w11.cell? ⟨gb467, 0, none⟩ = some (.int .i64 a0_0) := (blk_cell BK467.out 0).trans rfl; have hcz14_1 : w11.cell? ⟨gb467, 1, none⟩ = some (.int .i64 a0_1) := (blk_cell BK467.out 1).trans rfl; have hcz14_2 : w11.cell? ⟨gb467, 2, none⟩ = some (.int .i64 a0_2) := (blk_cell BK467.out 2).trans rfl; have hcz14_3 : w11.cell? ⟨gb467, 3, none⟩ = some (.int .i64 a0_3) := (blk_cell BK467.out 3).trans rfl; have hfz14_0 := blk_frozen BK467.out 0; have hfz14_1 := blk_frozen BK467.out 1; have hfz14_2 := blk_frozen BK467.out 2; have hfz14_3 := blk_frozen BK467.out 3) | ((with_reducible refine gate_callee (f := 123) rfl ?_); refine goesL_ (some 18) rfl rfl Tryz.func123 (by kernel_rfl) rfl #[.agg #[.int .i64 a0_0, .int .i64 a0_1, .int .i64 a0_2, .int .i64 a0_3], .int .i64 a1] rfl (by (try simp only [List.map_toArray, List.map_cons, List.map_nil]); first | done | rfl | (simp only [List.length_drop, List.length_take]; rfl)) ?_; (with_reducible refine (governor_wanted.calls a0_0 a0_1 a0_2 a0_3 a1 t474 _ A7.out).mono ?_); rintro e w15 ⟨rfl, hb⟩; refine ⟨_, rfl, ?_⟩; have n0_ := Aside0.mk (Kd.R_below (by (with_reducible repeat (first | apply Kd.R_alloc | apply Kd.R_drewN | apply Kd.R_drew)); exact HO472.out) hb); have n1_ := Aside0.mk (blk_below (g := gb467) (o := .cells #[.int .i64 a0_0, .int .i64 a0_1, .int .i64 a0_2, .int .i64 a0_3] 77 (0, 0)) (by (with_reducible repeat (first | refine blk_drewN ?_ _ | refine blk_drew ?_ | refine blk_alloc ?_ _)); exact BK467.out) hb); have n2_ := Aside0.mk (below_step (by repeat (first | (with_reducible first | exact HB.out | apply below_alloc | apply pw_below_drewN | apply below_drew1 | refine below_set ?_ GE467.out) | exact HB.out)) hb); clear HO472; clear BK467; clear HB; have HO472 := n0_; have BK467 := n1_; have HB := n2_; clear n0_ n1_ n2_; (try clear hb); (try clear hb2); (try clear hk); (try clear hi)))
    go_ret2
    exact ⟨by first | rfl | (simp [errW_none, errW_some] <;> rfl) | (simp [*, errW_none, errW_some] <;> rfl), by repeat (first | (with_reducible first | exact HB.out | apply below_alloc | apply pw_below_drewN | apply below_drew1 | refine below_set ?_ GE467.out) | exact HB.out)⟩
  · rw [if_neg c6] at H
    have c6b0 : (t473 == 0) = false := beq_eq_false_iff_ne.mpr c6
    have c6b1 : (t473 != 0) = true := bne_iff_ne.mpr c6
    simp only [Option.some.injEq, Prod.mk.injEq] at H
    obtain ⟨rfl, rfl⟩ := H
    go_enter Tryz.func47, Tryz.ntmps47
    go_wp2_with (first | ((with_reducible refine gate_dst (N := 2) rfl ?_); refine box_event ?hg (N := 2) ?hd (cs := #[.int .i64 a0_0, .int .i64 a0_1, .int .i64 a0_2, .int .i64 a0_3]) (t := 77) ?hr ?_; (case hd => rfl); (case hg => rfl); (case hr => first | (go_simp; done) | (go_simp; rfl)); intro gb467 hg w16 hbox hb; have n0_ := Aside0.mk (below_step (by repeat (first | (with_reducible first | exact HB.out | apply below_alloc | apply pw_below_drewN | apply below_drew1) | exact HB.out)) hb); have n1_ := Aside0.mk (hbox); have n2_ := Aside0.mk ((by rw [hg]; exact (below_size (by repeat (first | (with_reducible first | exact HB.out | apply below_alloc | apply pw_below_drewN | apply below_drew1) | exact HB.out))) : w.heap.size ≤ gb467)); have n3_ := Aside0.mk ((by rw [hg]; exact (below_size (by repeat (first | (with_reducible first | exact HB.out | apply below_alloc | apply pw_below_drewN | apply below_drew1) | exact HB.out))) : w.heap.size ≤ gb467)); clear HB; have HB := n0_; have BK467 := n1_; have GW467 := n2_; have GE467 := n3_; clear n0_ n1_ n2_ n3_; clear hb hbox hg; have hcz17_0 : w16.cell? ⟨gb467, 0, none⟩ = some (.int .i64 a0_0) := (blk_cell BK467.out 0).trans rfl; have hcz17_1 : w16.cell? ⟨gb467, 1, none⟩ = some (.int .i64 a0_1) := (blk_cell BK467.out 1).trans rfl; have hcz17_2 : w16.cell? ⟨gb467, 2, none⟩ = some (.int .i64 a0_2) := (blk_cell BK467.out 2).trans rfl; have hcz17_3 : w16.cell? ⟨gb467, 3, none⟩ = some (.int .i64 a0_3) := (blk_cell BK467.out 3).trans rfl; have hfz17_0 := blk_frozen BK467.out 0; have hfz17_1 := blk_frozen BK467.out 1; have hfz17_2 := blk_frozen BK467.out 2; have hfz17_3 := blk_frozen BK467.out 3) | ((with_reducible refine gate_callee (f := 53) rfl ?_); refine goesL_ (some 8) rfl rfl Tryz.func53 (by kernel_rfl) rfl #[.agg #[.int .i64 a0_0, .int .i64 a0_1, .int .i64 a0_2, .int .i64 a0_3]] rfl (by (try simp only [List.map_toArray, List.map_cons, List.map_nil]); first | done | rfl | (simp only [List.length_drop, List.length_take]; rfl)) ?_; (with_reducible refine (governor_CheckRules.calls a0_0 a0_1 a0_2 a0_3 t468 _ A3.out).mono ?_); rintro e w18 ⟨rfl, hb⟩; refine ⟨_, rfl, ?_⟩; have n0_ := Aside0.mk (blk_below (g := gb467) (o := .cells #[.int .i64 a0_0, .int .i64 a0_1, .int .i64 a0_2, .int .i64 a0_3] 77 (0, 0)) (by (with_reducible repeat (first | refine blk_drewN ?_ _ | refine blk_drew ?_ | refine blk_alloc ?_ _)); exact BK467.out) hb); have n1_ := Aside0.mk (below_step (by repeat (first | (with_reducible first | exact HB.out | apply below_alloc | apply pw_below_drewN | apply below_drew1 | refine below_set ?_ GE467.out) | exact HB.out)) hb); clear BK467; clear HB; have BK467 := n0_; have HB := n1_; clear n0_ n1_; (try clear hb); (try clear hb2); (try clear hk); (try clear hi)) | ((with_reducible refine gate_callee (f := 122) rfl ?_); refine goesL_ (some 10) rfl rfl Tryz.func122 (by kernel_rfl) rfl #[.int .i64 a1] rfl (by (try simp only [List.map_toArray, List.map_cons, List.map_nil]); first | done | rfl | (simp only [List.length_drop, List.length_take]; rfl)) ?_; (with_reducible refine (governor_speedErr.calls a1 t469 _ A4.out).mono ?_); rintro e w' ⟨rfl, ⟨nd, rfl⟩⟩; refine ⟨_, rfl, ?_⟩) | ((with_reducible refine gate_dst (N := 11) rfl ?_); refine Kd.R_lit (Kd.int .i64) _ 27 ?hg (N := 11) ?hd (xs := ([t468, t469] : List Int)) (inner := [.int .i64 t468, .int .i64 t469]) (ok := fun _ => True) (okp := fun _ => True) ?hr ?hp (fun _ hk => hk) trivial (Below.refl _ _) (Nat.le_refl _) (by simp) ?_; (case hd => rfl); (case hg => rfl); (case hr => first | (go_simp; done) | (go_simp; rfl)); (case hp => exact (Reps.one (show Kd.M (Kd.int .i64) _ _ _ t468 [.int .i64 t468] from rfl) (Reps.one (show Kd.M (Kd.int .i64) _ _ _ t469 [.int .i64 t469] from rfl) (Reps.none _ _)))); intro v471 w19 ho20 hb hg_ hnew_; clear hg_ hnew_; (first | rw [← Ny470.out] at ho20 | (simp only [Int.reduceToNat] at ho20; rw [← Ny470.out] at ho20)); have n0_ := Aside0.mk (Kd.R_lower ho20 (below_size (by repeat (first | (with_reducible first | exact HB.out | apply below_alloc | apply pw_below_drewN | apply below_drew1 | refine below_set ?_ GE467.out) | exact HB.out)))); have n1_ := Aside0.mk (blk_below (g := gb467) (o := .cells #[.int .i64 a0_0, .int .i64 a0_1, .int .i64 a0_2, .int .i64 a0_3] 77 (0, 0)) (by (with_reducible repeat (first | refine blk_drewN ?_ _ | refine blk_drew ?_ | refine blk_alloc ?_ _)); exact BK467.out) hb); have n2_ := Aside0.mk (below_step (by repeat (first | (with_reducible first | exact HB.out | apply below_alloc | apply pw_below_drewN | apply below_drew1 | refine below_set ?_ GE467.out) | exact HB.out)) hb); clear BK467; clear HB; have HO472 := n0_; have BK467 := n1_; have HB := n2_; clear n0_ n1_ n2_; clear hb ho20; obtain ⟨Ao21, co21, eo21⟩ := Kd.R_slice HO472.out; subst eo21) | ((with_reducible refine gate_callee (f := 90) rfl ?_); refine goesL_ (some 12) rfl rfl Tryz.func90 (by kernel_rfl) rfl #[.slice Ao21 y470.length co21] rfl (by (try simp only [List.map_toArray, List.map_cons, List.map_nil]); first | done | rfl | (simp only [List.length_drop, List.length_take]; rfl)) ?_; (with_reducible refine (governor_first.calls k _ _ y470 t473 _ ?side1 ?side2 A5.out).mono ?_); (case side1 => repeat (first | exact (Kd.R_reads' HO472.out).2.2 | (with_reducible refine Kd.C_alloc ?_ _) | (with_reducible refine Kd.C_drewN ?_ _) | (with_reducible refine Kd.C_drew ?_))); (case side2 => exact (Kd.R_reads' HO472.out).2.1); rintro e w' ⟨rfl, ⟨nd, rfl⟩⟩; refine ⟨_, rfl, ?_⟩))
    go_ret2
    exact ⟨by first | rfl | (simp [errW_none, errW_some] <;> rfl) | (simp [*, errW_none, errW_some] <;> rfl), by repeat (first | (with_reducible first | exact HB.out | apply below_alloc | apply pw_below_drewN | apply below_drew1 | refine below_set ?_ GE467.out) | exact HB.out)⟩
end Go.Proofs.YtmpondcccbmlhaaGreat.Q
namespace Go.Proofs.YtmpondcccbmlhaaGreat.Q
open Go.RowKit Go.Proofs.YtmpondcccbmlhaaGreatW.PrintWords Go.Proofs.YtmpondcccbmlhaaGreatW.PrintLast Go.Proofs.YtmpondcccbmlhaaGreatW.PrintMore
attribute [local go_sem] max2_int min2_int max_two min_two max_three min_three max_four min_four   
set_option linter.unusedVariables false
set_option linter.unusedSimpArgs false
mutual
def guidevaneref06_Shifted.l0 : Nat → List Int → Int → List Int → Int → Option (List Int × Int)
  | 0, _, _, _, _ => none
  | k + 1, x0, x1, x6, x7 => if x7 < (x0.length : Int) then ((guidevanebase_CopyInts.f x6).bind fun t742 => (if t742.length < 17592186044416 then (guidevaneref06_Shifted.l1 k x0 x1 x6 x7 (t742 ++ [0]) 0) else (none))) else (guidevaneref06_Shifted.l2 k x6 0)
def guidevaneref06_Shifted.l1 : Nat → List Int → Int → List Int → Int → List Int → Int → Option (List Int × Int)
  | 0, _, _, _, _, _, _ => none
  | k + 1, x0, x1, x6, x7, x8, x9 => if x9 < (x6.length : Int) then (if 0 ≤ (wrap64 (x9 + 1)) then (if (wrap64 (x9 + 1)) < (x8.length : Int) then (if 0 ≤ x9 then (guidevaneref06_Shifted.l1 k x0 x1 x6 x7 (x8.set ((wrap64 (x9 + 1)) : Int).toNat (wrap64 ((rd x8 (wrap64 (x9 + 1))) + (wrap64 (x1 * (rd x6 x9)))))) (wrap64 (x9 + 1))) else (none)) else (none)) else (none)) else (if 0 ≤ x7 then (if x7 < (x8.length : Int) then (if x7 < (x0.length : Int) then (guidevaneref06_Shifted.l0 k x0 x1 (x8.set (x7 : Int).toNat (wrap64 ((rd x8 x7) + (rd x0 x7)))) (wrap64 (x7 + 1))) else (none)) else (none)) else (none))
def guidevaneref06_Shifted.l2 : Nat → List Int → Int → Option (List Int × Int)
  | 0, _, _ => none
  | k + 1, x6, x10 => if x10 < (x6.length : Int) then (if 0 ≤ x10 then ((guidevanebase_Within.f (rd x6 x10) (-1000) 1000).bind fun t755 => (if t755 = true then (guidevaneref06_Shifted.l2 k x6 (wrap64 (x10 + 1))) else (some (([] : List Int), 8)))) else (none)) else (some (x6, 0))
end
def governor_coefErr.f (a0 : Int) : Option (Int) := (governor_isSized.f a0 1000).bind fun t805 => ((governor_unless.f t805 2).bind fun t806 => (some t806))
set_option maxHeartbeats 8000000 in
set_option maxRecDepth 100000 in
theorem governor_coefErr.calls (a0 : Int) (r : Int) (w : World) (h : governor_coefErr.f a0 = some r) :
    Calls Tryz.prog 104 #[.int .i64 a0] w fun e w' => e = .returned (.int .i64 r) ∧ Drawn0 w w' := by
  have H : ((governor_isSized.f a0 1000).bind fun t805 => ((governor_unless.f t805 2).bind fun t806 => (some t806))) = some r := h
  clear h
  replace H := Option.bind_eq_some_iff.mp H
  obtain ⟨t805, A20, H⟩ := H
  replace H : ((governor_unless.f t805 2).bind fun t806 => (some t806)) = some r := H
  have A2 := Aside0.mk A20
  clear A20
  replace H := Option.bind_eq_some_iff.mp H
  obtain ⟨t806, A30, H⟩ := H
  replace H : (some t806) = some r := H
  have A3 := Aside0.mk A30
  clear A30
  obtain rfl := Option.some.inj H
  go_enter Tryz.func104, Tryz.ntmps104
  go_wp2_with (first | ((with_reducible refine gate_callee (f := 114) rfl ?_); refine goesL_ (some 4) rfl rfl Tryz.func114 (by kernel_rfl) rfl #[.int .i64 a0, .int .i64 1000] rfl (by (try simp only [List.map_toArray, List.map_cons, List.map_nil]); first | done | rfl | (simp only [List.length_drop, List.length_take]; rfl)) ?_; (with_reducible refine (governor_isSized.calls a0 1000 t805 _ A2.out).mono ?_); rintro e w' ⟨rfl, ⟨nd, rfl⟩⟩; refine ⟨_, rfl, ?_⟩) | ((with_reducible refine gate_callee (f := 93) rfl ?_); refine goesL_ (some 5) rfl rfl Tryz.func93 (by kernel_rfl) rfl #[.bool t805, .int .i64 2] rfl (by (try simp only [List.map_toArray, List.map_cons, List.map_nil]); first | done | rfl | (simp only [List.length_drop, List.length_take]; rfl)) ?_; (with_reducible refine (governor_unless.calls t805 2 t806 _ A3.out).mono ?_); rintro e w' ⟨rfl, ⟨nd, rfl⟩⟩; refine ⟨_, rfl, ?_⟩))
  go_ret
  exact ⟨by first | rfl | (simp; done) | (simp [*]; done), by repeat (first | exact Drawn0.refl _ | apply Drawn0.step)⟩
def governor_CheckPolynomial_1.f (a0 : Int) (a1 : Int) : Option (Int) := (governor_coefErr.f a1).bind fun t807 => (some t807)
set_option maxHeartbeats 8000000 in
set_option maxRecDepth 100000 in
theorem governor_CheckPolynomial_1.calls (a0 : Int) (a1 : Int) (r : Int) (w : World) (h : governor_CheckPolynomial_1.f a0 a1 = some r) :
    Calls Tryz.prog 132 #[.int .i64 a0, .int .i64 a1] w fun e w' => e = .returned (.int .i64 r) ∧ Drawn0 w w' := by
  have H : ((governor_coefErr.f a1).bind fun t807 => (some t807)) = some r := h
  clear h
  replace H := Option.bind_eq_some_iff.mp H
  obtain ⟨t807, A30, H⟩ := H
  replace H : (some t807) = some r := H
  have A3 := Aside0.mk A30
  clear A30
  obtain rfl := Option.some.inj H
  go_enter Tryz.func132, Tryz.ntmps132
  go_wp2_with (first | ((with_reducible refine gate_callee (f := 104) rfl ?_); refine goesL_ (some 6) rfl rfl Tryz.func104 (by kernel_rfl) rfl #[.int .i64 a1] rfl (by (try simp only [List.map_toArray, List.map_cons, List.map_nil]); first | done | rfl | (simp only [List.length_drop, List.length_take]; rfl)) ?_; (with_reducible refine (governor_coefErr.calls a1 t807 _ A3.out).mono ?_); rintro e w' ⟨rfl, ⟨nd, rfl⟩⟩; refine ⟨_, rfl, ?_⟩))
  go_ret
  exact ⟨by first | rfl | (simp; done) | (simp [*]; done), by repeat (first | exact Drawn0.refl _ | apply Drawn0.step)⟩
end Go.Proofs.YtmpondcccbmlhaaGreat.Q
namespace Go.Proofs.YtmpondcccbmlhaaGreat.Q
open Go.RowKit Go.Proofs.YtmpondcccbmlhaaGreatW.PrintWords Go.Proofs.YtmpondcccbmlhaaGreatW.PrintLast Go.Proofs.YtmpondcccbmlhaaGreatW.PrintMore
attribute [local go_sem] max2_int min2_int max_two min_two max_three min_three max_four min_four   
set_option linter.unusedVariables false
set_option linter.unusedSimpArgs false
theorem eqA129 (d : Nat) (w : World) (x0 y0 : Int) (x1 y1 : Int) :
    (Op.equalIn (d + 2) 129 (.agg #[.int .i64 x0, .int .i64 x1]) (.agg #[.int .i64 y0, .int .i64 y1])).run Tryz.prog w = .ok (x0 == y0 && (x1 == y1)) w := by
  refine eqA_of Tryz.underlying129 (by kernel_rfl) ?_
  refine eqf_cons (by rfl) (by go_simp; rfl) (by go_simp; rfl) (by go_simp) ?_
  exact eqf_last (by rfl) (by go_simp; rfl) (by go_simp; rfl) (by go_simp)
end Go.Proofs.YtmpondcccbmlhaaGreat.Q
namespace Go.Proofs.YtmpondcccbmlhaaGreat.Q
open Go.RowKit Go.Proofs.YtmpondcccbmlhaaGreatW.PrintWords Go.Proofs.YtmpondcccbmlhaaGreatW.PrintLast Go.Proofs.YtmpondcccbmlhaaGreatW.PrintMore
attribute [local go_sem] max2_int min2_int max_two min_two max_three min_three max_four min_four   
set_option linter.unusedVariables false
set_option linter.unusedSimpArgs false
def guidevanebase_Size.f (a0 : Int) : Option (Int) := some (mx a0 (wrap64 (-a0)))
set_option maxHeartbeats 8000000 in
set_option maxRecDepth 100000 in
theorem guidevanebase_Size.calls (a0 : Int) (r : Int) (w : World) (h : guidevanebase_Size.f a0 = some r) :
    Calls Tryz.prog 82 #[.int .i64 a0] w fun e w' => e = .returned (.int .i64 r) ∧ Below w.heap.size w w' := by
  have HB := Aside0.mk (Below.refl w.heap.size w)
  have H : (some (mx a0 (wrap64 (-a0)))) = some r := h
  clear h
  obtain ⟨ji2, hji2⟩ : ∃ j_ : Int, (mx a0 (wrap64 (-a0))) = j_ := ⟨_, rfl⟩
  replace H : (some ji2) = some r := by first | (rw [hji2] at H; exact H) | (simp only [hji2] at H ⊢; exact H)
  have hji2_ : (if a0 < (wrap64 (-a0)) then (wrap64 (-a0)) else a0) = ji2 := hji2
  obtain rfl := Option.some.inj H
  go_enter Tryz.func82, Tryz.ntmps82
  go_wp2
  go_ret
  exact ⟨by first | rfl | (simp [errW_none, errW_some] <;> rfl) | (simp only [← hji2]; first | rfl | (simp [errW_none, errW_some] <;> rfl)) | (simp [*, errW_none, errW_some] <;> rfl), by repeat (first | (with_reducible first | exact HB.out | apply below_alloc | apply pw_below_drewN | apply below_drew1) | exact HB.out)⟩
end Go.Proofs.YtmpondcccbmlhaaGreat.Q
namespace Go.Proofs.YtmpondcccbmlhaaGreat.Q
open Go.RowKit Go.Proofs.YtmpondcccbmlhaaGreatW.PrintWords Go.Proofs.YtmpondcccbmlhaaGreatW.PrintLast Go.Proofs.YtmpondcccbmlhaaGreatW.PrintMore
attribute [local go_sem] max2_int min2_int max_two min_two max_three min_three max_four min_four   
set_option linter.unusedVariables false
set_option linter.unusedSimpArgs false
attribute [local go_sem high] eqA129
def governor_CheckBox_1.f (k : Nat) (a0 : Int) (a1_0 : Int) (a1_1 : Int) : Option (Int) := (governor_coefErr.f a1_0).bind fun t809 => ((governor_coefErr.f a1_1).bind fun t810 => ((governor_unless.f (decide (a1_0 ≤ a1_1)) 9).bind fun t811 => ((governor_first.f k (([t809, t810, t811] : List Int))).bind fun t815 => (some t815))))
def governor_CheckBox_1.T1 : Bool × List (List Nat × List Nat) := (true, [([], []), ([0], [0]), ([1], [1]), ([], []), ([3], [3]), ([4, 2], [4]), ([], []), ([6], [6]), ([], []), ([8], [8]), ([7, 9], [7, 9]), ([10, 5], [10]), ([2, 5, 11], [2, 5, 11]), ([12, 11], [12]), ([13, 13, 0, 1, 2, 3, 4, 5, 6, 7, 8, 9, 10, 11, 12, 13], [13])])
def governor_CheckBox_1.B1 : List Nat := [0, 1, 3, 0, 8, 31, 0, 64, 0, 256, 960, 2047, 4095, 8191, 16383]
theorem governor_CheckBox_1.tab1 : rtab .any (opsOf Tryz.f103 1) = governor_CheckBox_1.T1 := by kernel_rfl
theorem governor_CheckBox_1.bits1 : waitsOk governor_CheckBox_1.T1.2 governor_CheckBox_1.B1 = true := by kernel_rfl
set_option maxHeartbeats 8000000 in
set_option maxRecDepth 100000 in
theorem governor_CheckBox_1.calls (k : Nat) (a0 : Int) (a1_0 : Int) (a1_1 : Int) (r : Int) (w : World) (h : governor_CheckBox_1.f k a0 a1_0 a1_1 = some r) :
    Calls Tryz.prog 103 #[.int .i64 a0, .agg #[.int .i64 a1_0, .int .i64 a1_1]] w fun e w' => e = .returned (.int .i64 r) ∧ Below w.heap.size w w' := by
  have hu58 := Tryz.underlying58
  have HB := Aside0.mk (Below.refl w.heap.size w)
  have H : ((governor_coefErr.f a1_0).bind fun t809 => ((governor_coefErr.f a1_1).bind fun t810 => ((governor_unless.f (decide (a1_0 ≤ a1_1)) 9).bind fun t811 => ((governor_first.f k (([t809, t810, t811] : List Int))).bind fun t815 => (some t815))))) = some r := h
  clear h
  replace H := Option.bind_eq_some_iff.mp H
  obtain ⟨t809, A30, H⟩ := H
  replace H : ((governor_coefErr.f a1_1).bind fun t810 => ((governor_unless.f (decide (a1_0 ≤ a1_1)) 9).bind fun t811 => ((governor_first.f k (([t809, t810, t811] : List Int))).bind fun t815 => (some t815)))) = some r := H
  have A3 := Aside0.mk A30
  clear A30
  replace H := Option.bind_eq_some_iff.mp H
  obtain ⟨t810, A40, H⟩ := H
  replace H : ((governor_unless.f (decide (a1_0 ≤ a1_1)) 9).bind fun t811 => ((governor_first.f k (([t809, t810, t811] : List Int))).bind fun t815 => (some t815))) = some r := H
  have A4 := Aside0.mk A40
  clear A40
  replace H := Option.bind_eq_some_iff.mp H
  obtain ⟨t811, A50, H⟩ := H
  replace H : ((governor_first.f k (([t809, t810, t811] : List Int))).bind fun t815 => (some t815)) = some r := H
  have A5 := Aside0.mk A50
  clear A50
  obtain ⟨y812, hy812⟩ : ∃ y_ : List Int, y_ = (([t809, t810, t811] : List Int)) := ⟨_, rfl⟩
  replace H : ((governor_first.f k y812).bind fun t815 => (some t815)) = some r := by first | (rw [hy812]; with_reducible exact H) | (have H2_ := (Option.bind_some _ _).symm.trans H; rw [hy812]; with_reducible exact H2_) | (have H2_ := (Option.bind_some _ _).symm.trans H; with_reducible exact H2_) | with_reducible exact H | (rw [hy812]; exact H) | exact H
  have Ny812 := Aside0.mk hy812
  clear hy812
  replace H := Option.bind_eq_some_iff.mp H
  obtain ⟨t815, A60, H⟩ := H
  replace H : (some t815) = some r := H
  have A6 := Aside0.mk A60
  clear A60
  obtain rfl := Option.some.inj H
  go_enter Tryz.func103, Tryz.ntmps103
  try go_wp2_with (first | ((with_reducible refine gate_dst (N := 3) rfl ?_); refine box_event ?hg (N := 3) ?hd (cs := #[.int .i64 a1_0, .int .i64 a1_1]) (t := 58) ?hr ?_; (case hd => rfl); (case hg => rfl); (case hr => first | (go_simp; done) | (go_simp; rfl)); intro gb808 hg w7 hbox hb; have n0_ := Aside0.mk (below_step (by repeat (first | (with_reducible first | exact HB.out | apply below_alloc | apply pw_below_drewN | apply below_drew1) | exact HB.out)) hb); have n1_ := Aside0.mk (hbox); have n2_ := Aside0.mk ((by rw [hg]; exact (below_size (by repeat (first | (with_reducible first | exact HB.out | apply below_alloc | apply pw_below_drewN | apply below_drew1) | exact HB.out))) : w.heap.size ≤ gb808)); have n3_ := Aside0.mk ((by rw [hg]; exact (below_size (by repeat (first | (with_reducible first | exact HB.out | apply below_alloc | apply pw_below_drewN | apply below_drew1) | exact HB.out))) : w.heap.size ≤ gb808)); clear HB; have HB := n0_; have BK808 := n1_; have GW808 := n2_; have GE808 := n3_; clear n0_ n1_ n2_ n3_; clear hb hbox hg))
  have n0_ := Aside0.mk (blk_drew BK808.out)
  have n1_ := Aside0.mk (below_drew1 HB.out)
  clear BK808
  clear HB
  have BK808 := n0_
  have HB := n1_
  clear n0_ n1_
  refine start_ (n := 15) (S := fun w' => w'.cell? ⟨gb808, 0, none⟩ = some (.int .i64 a1_0) ∧ w'.cell? ⟨gb808, 1, none⟩ = some (.int .i64 a1_1)) (ds := []) #[false, false, false, false, false, false, false, false, false, false, false, false, false, false, false] (by kernel_rfl) rfl rfl ⟨(blk_cell BK808.out 0).trans rfl, (blk_cell BK808.out 1).trans rfl⟩ (fun hHeld => ?_); refine with_tabW governor_CheckBox_1.tab1 governor_CheckBox_1.bits1 (fun HT_ HW_ => ?_)
  generalize w7.drew = w8 at BK808 HB hHeld ⊢
  refine pure_ (i := 0) (N := some 5) (v := ?_) (a' := ?_) #[true, false, false, false, false, false, false, false, false, false, false, false, false, false, false] rfl rfl (any_of HT_.out (by kernel_rfl)) (fun _ _ _ h => h) (Or.inl ⟨by rfl, ?_⟩) ?_ ?_
  rotate_left
  · intro w'
    go_simp
    with_reducible rfl
  rotate_left
  · simp only [Act.put, List.setIfInBounds_toArray, List.set_cons_zero, List.set_cons_succ, i64_w, i32_w]
    rfl
  refine pure_ (i := 3) (N := some 8) (v := ?_) (a' := ?_) #[true, false, false, true, false, false, false, false, false, false, false, false, false, false, false] rfl rfl (any_of HT_.out (by kernel_rfl)) (fun _ _ _ h => h) (Or.inl ⟨by rfl, ?_⟩) ?_ ?_
  rotate_left
  · intro w'
    go_simp
    with_reducible rfl
  rotate_left
  · simp only [Act.put, List.setIfInBounds_toArray, List.set_cons_zero, List.set_cons_succ, i64_w, i32_w]
    rfl
  refine pure_ (i := 6) (N := some 11) (v := ?_) (a' := ?_) #[true, false, false, true, false, false, true, false, false, false, false, false, false, false, false] rfl rfl (any_of HT_.out (by kernel_rfl)) (fun _ _ _ h => h) (Or.inl ⟨by rfl, ?_⟩) ?_ ?_
  rotate_left
  · intro w'
    go_simp
    with_reducible rfl
  rotate_left
  · simp only [Act.put, List.setIfInBounds_toArray, List.set_cons_zero, List.set_cons_succ, i64_w, i32_w]
    rfl
  refine pure_ (i := 8) (N := some 13) (v := ?_) (a' := ?_) #[true, false, false, true, false, false, true, false, true, false, false, false, false, false, false] rfl rfl (any_of HT_.out (by kernel_rfl)) (fun _ _ _ h => h) (Or.inl ⟨by rfl, ?_⟩) ?_ ?_
  rotate_left
  · intro w'
    go_simp
    with_reducible rfl
  rotate_left
  · simp only [Act.put, List.setIfInBounds_toArray, List.set_cons_zero, List.set_cons_succ, i64_w, i32_w]
    rfl
  refine take_ (i := 1) (N := some 6) (v := ?_) (a' := ?_) #[true, true, false, true, false, false, true, false, true, false, false, false, false, false, false] rfl rfl (take_ofW HT_.out HW_.out (by kernel_rfl)) (fun _ _ _ h => h) (Or.inl ⟨by rfl, ?_⟩) hHeld ?_ ?_
  rotate_left
  · rintro w' ⟨s0, s1⟩
    go_simp
    with_reducible rfl
  rotate_left
  · simp only [Act.put, List.setIfInBounds_toArray, List.set_cons_zero, List.set_cons_succ, i64_w, i32_w]
    rfl
  refine take_ (i := 4) (N := some 9) (v := ?_) (a' := ?_) #[true, true, false, true, true, false, true, false, true, false, false, false, false, false, false] rfl rfl (take_ofW HT_.out HW_.out (by kernel_rfl)) (fun _ _ _ h => h) (Or.inl ⟨by rfl, ?_⟩) hHeld ?_ ?_
  rotate_left
  · rintro w' ⟨s0, s1⟩
    go_simp
    with_reducible rfl
  rotate_left
  · simp only [Act.put, List.setIfInBounds_toArray, List.set_cons_zero, List.set_cons_succ, i64_w, i32_w]
    rfl
  refine take_ (i := 7) (N := some 12) (v := ?_) (a' := ?_) #[true, true, false, true, true, false, true, true, true, false, false, false, false, false, false] rfl rfl (take_ofW HT_.out HW_.out (by kernel_rfl)) (fun _ _ _ h => h) (Or.inl ⟨by rfl, ?_⟩) hHeld ?_ ?_
  rotate_left
  · rintro w' ⟨s0, s1⟩
    go_simp
    with_reducible rfl
  rotate_left
  · simp only [Act.put, List.setIfInBounds_toArray, List.set_cons_zero, List.set_cons_succ, i64_w, i32_w]
    rfl
  refine take_ (i := 9) (N := some 14) (v := ?_) (a' := ?_) #[true, true, false, true, true, false, true, true, true, true, false, false, false, false, false] rfl rfl (take_ofW HT_.out HW_.out (by kernel_rfl)) (fun _ _ _ h => h) (Or.inl ⟨by rfl, ?_⟩) hHeld ?_ ?_
  rotate_left
  · rintro w' ⟨s0, s1⟩
    go_simp
    with_reducible rfl
  rotate_left
  · simp only [Act.put, List.setIfInBounds_toArray, List.set_cons_zero, List.set_cons_succ, i64_w, i32_w]
    rfl
  refine pure_ (i := 10) (N := some 15) (v := ?_) (a' := ?_) #[true, true, false, true, true, false, true, true, true, true, true, false, false, false, false] rfl rfl (any_of HT_.out (by kernel_rfl)) (fun _ _ _ h => h) (Or.inl ⟨by rfl, ?_⟩) ?_ ?_
  rotate_left
  · intro w'
    go_simp
    with_reducible rfl
  rotate_left
  · simp only [Act.put, List.setIfInBounds_toArray, List.set_cons_zero, List.set_cons_succ, i64_w, i32_w]
    rfl
  refine one_ (i := 2) (N := some 7) #[true, true, true, true, true, false, true, true, true, true, true, false, false, false, false] rfl rfl (one_of HT_.out (by kernel_rfl)) (by decide) (fun K hK => ?_)
  refine goes_ Tryz.func104 (by kernel_rfl) rfl #[.int .i64 a1_0] (by rfl) rfl rfl (by (try simp only [List.map_toArray, List.map_cons, List.map_nil]); first | done | rfl | (simp only [List.length_drop, List.length_take]; rfl)) ?_
  with_reducible refine (governor_coefErr.calls a1_0 t809 _ A3.out).mono ?_
  rintro e w' ⟨rfl, ⟨nd, rfl⟩⟩
  refine ⟨_, rfl, ?_⟩
  refine hK.out _ _ ⟨(blk_cell BK808.out 0).trans rfl, (blk_cell BK808.out 1).trans rfl⟩ (fun hHeld => ?_)
  clear hK K
  refine norm_ (a' := ?_) ?_ ?_
  rotate_left
  · show Act.put _ (some 7) _ = _
    simp only [Act.put, List.setIfInBounds_toArray, List.set_cons_zero, List.set_cons_succ, i64_w, i32_w]
    rfl
  refine one_ (i := 5) (N := some 10) #[true, true, true, true, true, true, true, true, true, true, true, false, false, false, false] rfl rfl (one_of HT_.out (by kernel_rfl)) (by decide) (fun K hK => ?_)
  refine goes_ Tryz.func104 (by kernel_rfl) rfl #[.int .i64 a1_1] (by rfl) rfl rfl (by (try simp only [List.map_toArray, List.map_cons, List.map_nil]); first | done | rfl | (simp only [List.length_drop, List.length_take]; rfl)) ?_
  with_reducible refine (governor_coefErr.calls a1_1 t810 _ A4.out).mono ?_
  rintro e w' ⟨rfl, ⟨nd, rfl⟩⟩
  refine ⟨_, rfl, ?_⟩
  refine hK.out _ _ ⟨(blk_cell BK808.out 0).trans rfl, (blk_cell BK808.out 1).trans rfl⟩ (fun hHeld => ?_)
  clear hK K
  refine norm_ (a' := ?_) ?_ ?_
  rotate_left
  · show Act.put _ (some 10) _ = _
    simp only [Act.put, List.setIfInBounds_toArray, List.set_cons_zero, List.set_cons_succ, i64_w, i32_w]
    rfl
  refine one_ (i := 11) (N := some 16) #[true, true, true, true, true, true, true, true, true, true, true, true, false, false, false] rfl rfl (one_of HT_.out (by kernel_rfl)) (by decide) (fun K hK => ?_)
  refine goes_ Tryz.func93 (by kernel_rfl) rfl #[.bool (decide (a1_0 ≤ a1_1)), .int .i64 9] (by rfl) rfl rfl (by (try simp only [List.map_toArray, List.map_cons, List.map_nil]); first | done | rfl | (simp only [List.length_drop, List.length_take]; rfl)) ?_
  with_reducible refine (governor_unless.calls (decide (a1_0 ≤ a1_1)) 9 t811 _ A5.out).mono ?_
  rintro e w' ⟨rfl, ⟨nd, rfl⟩⟩
  refine ⟨_, rfl, ?_⟩
  refine hK.out _ _ ⟨(blk_cell BK808.out 0).trans rfl, (blk_cell BK808.out 1).trans rfl⟩ (fun hHeld => ?_)
  clear hK K
  refine norm_ (a' := ?_) ?_ ?_
  rotate_left
  · show Act.put _ (some 16) _ = _
    simp only [Act.put, List.setIfInBounds_toArray, List.set_cons_zero, List.set_cons_succ, i64_w, i32_w]
    rfl
  refine one_ (i := 12) (N := some 17) #[true, true, true, true, true, true, true, true, true, true, true, true, true, false, false] rfl rfl (one_of HT_.out (by kernel_rfl)) (by decide) (fun K hK => ?_)
  refine Kd.R_lit_step (Kd.int .i64) _ 27 ?hg (N := 17) ?hd (xs := ([t809, t810, t811] : List Int)) (inner := [.int .i64 t809, .int .i64 t810, .int .i64 t811]) (ok := fun _ => True) (okp := fun _ => True) ?hr ?hp (fun _ hk => hk) trivial (Below.refl _ _) (Nat.le_refl _) (by simp) ?_; (case hd => rfl); (case hg => rfl); (case hr => first | (go_simp; done) | (go_simp; rfl)); (case hp => exact (Reps.one (show Kd.M (Kd.int .i64) _ _ _ t809 [.int .i64 t809] from rfl) (Reps.one (show Kd.M (Kd.int .i64) _ _ _ t810 [.int .i64 t810] from rfl) (Reps.one (show Kd.M (Kd.int .i64) _ _ _ t811 [.int .i64 t811] from rfl) (Reps.none _ _)))))
  intro v813 w9 ho10 hb hg_ hnew_
  clear hg_ hnew_
  (first | rw [← Ny812.out] at ho10 | (simp only [Int.reduceToNat] at ho10; rw [← Ny812.out] at ho10))
  have n0_ := Aside0.mk (Kd.R_lower ho10 (below_size (by repeat (first | (with_reducible first | exact HB.out | apply below_alloc | apply pw_below_drewN | apply below_drew1 | refine below_set ?_ GE808.out) | exact HB.out))))
  have n1_ := Aside0.mk (blk_below (g := gb808) (o := .cells #[.int .i64 a1_0, .int .i64 a1_1] 58 (0, 0)) (by (with_reducible repeat (first | refine blk_drewN ?_ _ | refine blk_drew ?_ | refine blk_alloc ?_ _)); exact BK808.out) hb)
  have n2_ := Aside0.mk (below_step (by repeat (first | (with_reducible first | exact HB.out | apply below_alloc | apply pw_below_drewN | apply below_drew1 | refine below_set ?_ GE808.out) | exact HB.out)) hb)
  clear BK808
  clear HB
  have HO814 := n0_
  have BK808 := n1_
  have HB := n2_
  clear n0_ n1_ n2_
  clear hb ho10
  obtain ⟨Ao11, co11, eo11⟩ := Kd.R_slice HO814.out
  (first | subst eo11 | (injection eo11 with f1_ f2_ f3_; have f4_ := f1_.symm; have f5_ := f3_.symm; clear f1_ f2_ f3_; subst f4_; subst f5_))
  refine hK.out _ _ ⟨(blk_cell BK808.out 0).trans rfl, (blk_cell BK808.out 1).trans rfl⟩ (fun hHeld => ?_)
  clear hK K
  refine norm_ (a' := ?_) ?_ ?_
  rotate_left
  · show Act.put _ (some 17) _ = _
    simp only [Act.put, List.setIfInBounds_toArray, List.set_cons_zero, List.set_cons_succ, i64_w, i32_w]
    rfl
  refine one_ (i := 13) (N := some 18) #[true, true, true, true, true, true, true, true, true, true, true, true, true, true, false] rfl rfl (one_of HT_.out (by kernel_rfl)) (by decide) (fun K hK => ?_)
  refine goes_ Tryz.func90 (by kernel_rfl) rfl #[.slice Ao11 y812.length co11] (by rfl) rfl rfl (by (try simp only [List.map_toArray, List.map_cons, List.map_nil]); first | done | rfl | (simp only [List.length_drop, List.length_take]; rfl)) ?_
  with_reducible refine (governor_first.calls k _ _ y812 t815 _ ?side1 ?side2 A6.out).mono ?_
  (case side1 => repeat (first | exact (Kd.R_reads' HO814.out).2.2 | (with_reducible refine Kd.C_alloc ?_ _) | (with_reducible refine Kd.C_drewN ?_ _) | (with_reducible refine Kd.C_drew ?_)))
  (case side2 => exact (Kd.R_reads' HO814.out).2.1)
  rintro e w' ⟨rfl, ⟨nd, rfl⟩⟩
  refine ⟨_, rfl, ?_⟩
  refine hK.out _ _ ⟨(blk_cell BK808.out 0).trans rfl, (blk_cell BK808.out 1).trans rfl⟩ (fun hHeld => ?_)
  clear hK K
  refine norm_ (a' := ?_) ?_ ?_
  rotate_left
  · show Act.put _ (some 18) _ = _
    simp only [Act.put, List.setIfInBounds_toArray, List.set_cons_zero, List.set_cons_succ, i64_w, i32_w]
    rfl
  refine pure_ (i := 14) (N := some 4) (v := ?_) (a' := ?_) #[true, true, true, true, true, true, true, true, true, true, true, true, true, true, true] rfl rfl (any_of HT_.out (by kernel_rfl)) (fun _ _ _ h => h) (Or.inl ⟨by rfl, ?_⟩) ?_ ?_
  rotate_left
  · intro w'
    go_simp
    with_reducible rfl
  rotate_left
  · simp only [Act.put, List.setIfInBounds_toArray, List.set_cons_zero, List.set_cons_succ, i64_w, i32_w]
    rfl
  refine done_ (done_of HT_.out (by kernel_rfl)) ?_
  try go_wp2
  go_ret
  exact ⟨by first | rfl | (simp [errW_none, errW_some] <;> rfl) | (simp [*, errW_none, errW_some] <;> rfl), by repeat (first | (with_reducible first | exact HB.out | apply below_alloc | apply pw_below_drewN | apply below_drew1 | refine below_set ?_ GE808.out) | exact HB.out)⟩
def governor_IsRobust_1.f (k : Nat) (l0 : List Int) : Option (Bool) := (governor_isStable.f k l0).bind fun t816 => (some (!t816))
set_option maxHeartbeats 8000000 in
set_option maxRecDepth 100000 in
theorem governor_IsRobust_1.calls (k : Nat) (A0 : Option Addr) (c0 : Nat) (l0 : List Int) (r : Bool) (w : World) (hr0 : Kd.C (Kd.int .i64) w A0 l0.length l0) (hc0 : l0.length ≤ c0) (h : governor_IsRobust_1.f k l0 = some r) :
    Calls Tryz.prog 108 #[.slice A0 l0.length c0] w fun e w' => e = .returned (.bool r) ∧ Below w.heap.size w w' := by
  have HR0 := Aside0.mk hr0
  have HC0 := Aside0.mk hc0
  clear hr0 hc0
  have HB := Aside0.mk (Below.refl w.heap.size w)
  have H : ((governor_isStable.f k l0).bind fun t816 => (some (!t816))) = some r := h
  clear h
  replace H := Option.bind_eq_some_iff.mp H
  obtain ⟨t816, A20, H⟩ := H
  replace H : (some (!t816)) = some r := H
  have A2 := Aside0.mk A20
  clear A20
  obtain rfl := Option.some.inj H
  go_enter Tryz.func108, Tryz.ntmps108
  go_wp2_with (first | ((with_reducible refine gate_callee (f := 109) rfl ?_); refine goesL_ (some 4) rfl rfl Tryz.func109 (by kernel_rfl) rfl #[.slice A0 l0.length c0] rfl (by (try simp only [List.map_toArray, List.map_cons, List.map_nil]); first | done | rfl | (simp only [List.length_drop, List.length_take]; rfl)) ?_; (with_reducible refine (governor_isStable.calls k _ _ l0 t816 _ ?side1 ?side2 A2.out).mono ?_); (case side1 => repeat (first | exact HR0.out | (with_reducible refine Kd.C_alloc ?_ _) | (with_reducible refine Kd.C_drewN ?_ _) | (with_reducible refine Kd.C_drew ?_))); (case side2 => exact HC0.out); rintro e w3 ⟨rfl, hb⟩; refine ⟨_, rfl, ?_⟩; have n0_ := Aside0.mk (below_step (by repeat (first | (with_reducible first | exact HB.out | apply below_alloc | apply pw_below_drewN | apply below_drew1) | exact HB.out)) hb); clear HB; have HB := n0_; clear n0_; (try clear hb); (try clear hb2); (try clear hk); (try clear hi)))
  go_ret
  exact ⟨by first | rfl | (simp [errW_none, errW_some] <;> rfl) | (simp [*, errW_none, errW_some] <;> rfl), by repeat (first | (with_reducible first | exact HB.out | apply below_alloc | apply pw_below_drewN | apply below_drew1) | exact HB.out)⟩
def governor_CheckLoop_1_1.f (a0 : Int) : Option (Bool) := (governor_isSized.f a0 100).bind fun t817 => (some (!t817))
set_option maxHeartbeats 8000000 in
set_option maxRecDepth 100000 in
theorem governor_CheckLoop_1_1.calls (a0 : Int) (r : Bool) (w : World) (h : governor_CheckLoop_1_1.f a0 = some r) :
    Calls Tryz.prog 113 #[.int .i64 a0] w fun e w' => e = .returned (.bool r) ∧ Drawn0 w w' := by
  have H : ((governor_isSized.f a0 100).bind fun t817 => (some (!t817))) = some r := h
  clear h
  replace H := Option.bind_eq_some_iff.mp H
  obtain ⟨t817, A20, H⟩ := H
  replace H : (some (!t817)) = some r := H
  have A2 := Aside0.mk A20
  clear A20
  obtain rfl := Option.some.inj H
  go_enter Tryz.func113, Tryz.ntmps113
  go_wp2_with (first | ((with_reducible refine gate_callee (f := 114) rfl ?_); refine goesL_ (some 4) rfl rfl Tryz.func114 (by kernel_rfl) rfl #[.int .i64 a0, .int .i64 100] rfl (by (try simp only [List.map_toArray, List.map_cons, List.map_nil]); first | done | rfl | (simp only [List.length_drop, List.length_take]; rfl)) ?_; (with_reducible refine (governor_isSized.calls a0 100 t817 _ A2.out).mono ?_); rintro e w' ⟨rfl, ⟨nd, rfl⟩⟩; refine ⟨_, rfl, ?_⟩))
  go_ret
  exact ⟨by first | rfl | (simp; done) | (simp [*]; done), by repeat (first | exact Drawn0.refl _ | apply Drawn0.step)⟩
def governor_VoteOf_1.f (a0 : Int) (a1_0 : Int) (a1_1 : Bool) : Option (Int) := if a1_1 = true then ((governor_unless.f (a1_0 == 0) 3).bind fun t822 => (some t822)) else ((governor_isSized.f a1_0 1000000).bind fun t823 => ((governor_unless.f t823 2).bind fun t824 => (some t824)))
set_option maxHeartbeats 8000000 in
set_option maxRecDepth 100000 in
theorem governor_VoteOf_1.calls (a0 : Int) (a1_0 : Int) (a1_1 : Bool) (r : Int) (w : World) (h : governor_VoteOf_1.f a0 a1_0 a1_1 = some r) :
    Calls Tryz.prog 138 #[.int .i64 a0, .agg #[.int .i64 a1_0, .bool a1_1]] w fun e w' => e = .returned (.int .i64 r) ∧ Below w.heap.size w w' := by
  have hu103 := Tryz.underlying103
  have HB := Aside0.mk (Below.refl w.heap.size w)
  have H : (if a1_1 = true then ((governor_unless.f (a1_0 == 0) 3).bind fun t822 => (some t822)) else ((governor_isSized.f a1_0 1000000).bind fun t823 => ((governor_unless.f t823 2).bind fun t824 => (some t824)))) = some r := h
  clear h
  by_cases c3 : a1_1 = true
  · subst c3
    have H1 : ((governor_unless.f (a1_0 == 0) 3).bind fun t822 => (some t822)) = some r := by rw [if_pos rfl] at H; exact H
    clear H
    have H := H1
    clear H1
    replace H := Option.bind_eq_some_iff.mp H
    obtain ⟨t822, A40, H⟩ := H
    replace H : (some t822) = some r := H
    have A4 := Aside0.mk A40
    clear A40
    obtain rfl := Option.some.inj H
    go_enter Tryz.func138, Tryz.ntmps138
    go_wp2_with (first | ((with_reducible refine gate_dst (N := 3) rfl ?_); refine box_event ?hg (N := 3) ?hd (cs := #[.int .i64 a1_0, .bool true]) (t := 103) ?hr ?_; (case hd => rfl); (case hg => rfl); (case hr => first | (go_simp; done) | (go_simp; rfl)); intro gb821 hg w5 hbox hb; have n0_ := Aside0.mk (below_step (by repeat (first | (with_reducible first | exact HB.out | apply below_alloc | apply pw_below_drewN | apply below_drew1) | exact HB.out)) hb); have n1_ := Aside0.mk (hbox); have n2_ := Aside0.mk ((by rw [hg]; exact (below_size (by repeat (first | (with_reducible first | exact HB.out | apply below_alloc | apply pw_below_drewN | apply below_drew1) | exact HB.out))) : w.heap.size ≤ gb821)); have n3_ := Aside0.mk ((by rw [hg]; exact (below_size (by repeat (first | (with_reducible first | exact HB.out | apply below_alloc | apply pw_below_drewN | apply below_drew1) | exact HB.out))) : w.heap.size ≤ gb821)); clear HB; have HB := n0_; have BK821 := n1_; have GW821 := n2_; have GE821 := n3_; clear n0_ n1_ n2_ n3_; clear hb hbox hg; have hcz6_0 : w5.cell? ⟨gb821, 0, none⟩ = some (.int .i64 a1_0) := (blk_cell BK821.out 0).trans rfl; have hcz6_1 : w5.cell? ⟨gb821, 1, none⟩ = some (.bool true) := (blk_cell BK821.out 1).trans rfl; have hfz6_0 := blk_frozen BK821.out 0; have hfz6_1 := blk_frozen BK821.out 1) | ((with_reducible refine gate_callee (f := 93) rfl ?_); refine goesL_ (some 10) rfl rfl Tryz.func93 (by kernel_rfl) rfl #[.bool (a1_0 == 0), .int .i64 3] rfl (by (try simp only [List.map_toArray, List.map_cons, List.map_nil]); first | done | rfl | (simp only [List.length_drop, List.length_take]; rfl)) ?_; (with_reducible refine (governor_unless.calls (a1_0 == 0) 3 t822 _ A4.out).mono ?_); rintro e w' ⟨rfl, ⟨nd, rfl⟩⟩; refine ⟨_, rfl, ?_⟩))
    go_ret
    exact ⟨by first | rfl | (simp [errW_none, errW_some] <;> rfl) | (simp [*, errW_none, errW_some] <;> rfl), by repeat (first | (with_reducible first | exact HB.out | apply below_alloc | apply pw_below_drewN | apply below_drew1 | refine below_set ?_ GE821.out) | exact HB.out)⟩
  · replace c3 := Bool.eq_false_iff.mpr c3
    subst c3
    have H1 : ((governor_isSized.f a1_0 1000000).bind fun t823 => ((governor_unless.f t823 2).bind fun t824 => (some t824))) = some r := by rw [if_neg (show ¬ (false = true) by decide)] at H; exact H
    clear H
    have H := H1
    clear H1
    replace H := Option.bind_eq_some_iff.mp H
    obtain ⟨t823, A70, H⟩ := H
    replace H : ((governor_unless.f t823 2).bind fun t824 => (some t824)) = some r := H
    have A7 := Aside0.mk A70
    clear A70
    replace H := Option.bind_eq_some_iff.mp H
    obtain ⟨t824, A80, H⟩ := H
    replace H : (some t824) = some r := H
    have A8 := Aside0.mk A80
    clear A80
    obtain rfl := Option.some.inj H
    go_enter Tryz.func138, Tryz.ntmps138
    go_wp2_with (first | ((with_reducible refine gate_dst (N := 3) rfl ?_); refine box_event ?hg (N := 3) ?hd (cs := #[.int .i64 a1_0, .bool false]) (t := 103) ?hr ?_; (case hd => rfl); (case hg => rfl); (case hr => first | (go_simp; done) | (go_simp; rfl)); intro gb821 hg w9 hbox hb; have n0_ := Aside0.mk (below_step (by repeat (first | (with_reducible first | exact HB.out | apply below_alloc | apply pw_below_drewN | apply below_drew1) | exact HB.out)) hb); have n1_ := Aside0.mk (hbox); have n2_ := Aside0.mk ((by rw [hg]; exact (below_size (by repeat (first | (with_reducible first | exact HB.out | apply below_alloc | apply pw_below_drewN | apply below_drew1) | exact HB.out))) : w.heap.size ≤ gb821)); have n3_ := Aside0.mk ((by rw [hg]; exact (below_size (by repeat (first | (with_reducible first | exact HB.out | apply below_alloc | apply pw_below_drewN | apply below_drew1) | exact HB.out))) : w.heap.size ≤ gb821)); clear HB; have HB := n0_; have BK821 := n1_; have GW821 := n2_; have GE821 := n3_; clear n0_ n1_ n2_ n3_; clear hb hbox hg; have hcz10_0 : w9.cell? ⟨gb821, 0, none⟩ = some (.int .i64 a1_0) := (blk_cell BK821.out 0).trans rfl; have hcz10_1 : w9.cell? ⟨gb821, 1, none⟩ = some (.bool false) := (blk_cell BK821.out 1).trans rfl; have hfz10_0 := blk_frozen BK821.out 0; have hfz10_1 := blk_frozen BK821.out 1) | ((with_reducible refine gate_callee (f := 114) rfl ?_); refine goesL_ (some 13) rfl rfl Tryz.func114 (by kernel_rfl) rfl #[.int .i64 a1_0, .int .i64 1000000] rfl (by (try simp only [List.map_toArray, List.map_cons, List.map_nil]); first | done | rfl | (simp only [List.length_drop, List.length_take]; rfl)) ?_; (with_reducible refine (governor_isSized.calls a1_0 1000000 t823 _ A7.out).mono ?_); rintro e w' ⟨rfl, ⟨nd, rfl⟩⟩; refine ⟨_, rfl, ?_⟩) | ((with_reducible refine gate_callee (f := 93) rfl ?_); refine goesL_ (some 14) rfl rfl Tryz.func93 (by kernel_rfl) rfl #[.bool t823, .int .i64 2] rfl (by (try simp only [List.map_toArray, List.map_cons, List.map_nil]); first | done | rfl | (simp only [List.length_drop, List.length_take]; rfl)) ?_; (with_reducible refine (governor_unless.calls t823 2 t824 _ A8.out).mono ?_); rintro e w' ⟨rfl, ⟨nd, rfl⟩⟩; refine ⟨_, rfl, ?_⟩))
    go_ret
    exact ⟨by first | rfl | (simp [errW_none, errW_some] <;> rfl) | (simp [*, errW_none, errW_some] <;> rfl), by repeat (first | (with_reducible first | exact HB.out | apply below_alloc | apply pw_below_drewN | apply below_drew1 | refine below_set ?_ GE821.out) | exact HB.out)⟩
def governor_countErr.f (k : Nat) (a0 : Int) : Option (Int) := (governor_unless.f (decide (a0 ≥ 2)) 10).bind fun t826 => ((governor_unless.f (decide (a0 ≤ 5)) 8).bind fun t827 => ((governor_first.f k (([t826, t827] : List Int))).bind fun t831 => (some t831)))
set_option maxHeartbeats 8000000 in
set_option maxRecDepth 100000 in
theorem governor_countErr.calls (k : Nat) (a0 : Int) (r : Int) (w : World) (h : governor_countErr.f k a0 = some r) :
    Calls Tryz.prog 101 #[.int .i64 a0] w fun e w' => e = .returned (.int .i64 r) ∧ Below w.heap.size w w' := by
  have HB := Aside0.mk (Below.refl w.heap.size w)
  have H : ((governor_unless.f (decide (a0 ≥ 2)) 10).bind fun t826 => ((governor_unless.f (decide (a0 ≤ 5)) 8).bind fun t827 => ((governor_first.f k (([t826, t827] : List Int))).bind fun t831 => (some t831)))) = some r := h
  clear h
  replace H := Option.bind_eq_some_iff.mp H
  obtain ⟨t826, A20, H⟩ := H
  replace H : ((governor_unless.f (decide (a0 ≤ 5)) 8).bind fun t827 => ((governor_first.f k (([t826, t827] : List Int))).bind fun t831 => (some t831))) = some r := H
  have A2 := Aside0.mk A20
  clear A20
  replace H := Option.bind_eq_some_iff.mp H
  obtain ⟨t827, A30, H⟩ := H
  replace H : ((governor_first.f k (([t826, t827] : List Int))).bind fun t831 => (some t831)) = some r := H
  have A3 := Aside0.mk A30
  clear A30
  obtain ⟨y828, hy828⟩ : ∃ y_ : List Int, y_ = (([t826, t827] : List Int)) := ⟨_, rfl⟩
  replace H : ((governor_first.f k y828).bind fun t831 => (some t831)) = some r := by first | (rw [hy828]; with_reducible exact H) | (have H2_ := (Option.bind_some _ _).symm.trans H; rw [hy828]; with_reducible exact H2_) | (have H2_ := (Option.bind_some _ _).symm.trans H; with_reducible exact H2_) | with_reducible exact H | (rw [hy828]; exact H) | exact H
  have Ny828 := Aside0.mk hy828
  clear hy828
  replace H := Option.bind_eq_some_iff.mp H
  obtain ⟨t831, A40, H⟩ := H
  replace H : (some t831) = some r := H
  have A4 := Aside0.mk A40
  clear A40
  obtain rfl := Option.some.inj H
  go_enter Tryz.func101, Tryz.ntmps101
  go_wp2_with (first | ((with_reducible refine gate_callee (f := 93) rfl ?_); refine goesL_ (some 5) rfl rfl Tryz.func93 (by kernel_rfl) rfl #[.bool (decide (a0 ≥ 2)), .int .i64 10] rfl (by (try simp only [List.map_toArray, List.map_cons, List.map_nil]); first | done | rfl | (simp only [List.length_drop, List.length_take]; rfl)) ?_; (with_reducible refine (governor_unless.calls (decide (a0 ≥ 2)) 10 t826 _ A2.out).mono ?_); rintro e w' ⟨rfl, ⟨nd, rfl⟩⟩; refine ⟨_, rfl, ?_⟩) | ((with_reducible refine gate_callee (f := 93) rfl ?_); refine goesL_ (some 8) rfl rfl Tryz.func93 (by kernel_rfl) rfl #[.bool (decide (a0 ≤ 5)), .int .i64 8] rfl (by (try simp only [List.map_toArray, List.map_cons, List.map_nil]); first | done | rfl | (simp only [List.length_drop, List.length_take]; rfl)) ?_; (with_reducible refine (governor_unless.calls (decide (a0 ≤ 5)) 8 t827 _ A3.out).mono ?_); rintro e w' ⟨rfl, ⟨nd, rfl⟩⟩; refine ⟨_, rfl, ?_⟩) | ((with_reducible refine gate_dst (N := 9) rfl ?_); refine Kd.R_lit (Kd.int .i64) _ 27 ?hg (N := 9) ?hd (xs := ([t826, t827] : List Int)) (inner := [.int .i64 t826, .int .i64 t827]) (ok := fun _ => True) (okp := fun _ => True) ?hr ?hp (fun _ hk => hk) trivial (Below.refl _ _) (Nat.le_refl _) (by simp) ?_; (case hd => rfl); (case hg => rfl); (case hr => first | (go_simp; done) | (go_simp; rfl)); (case hp => exact (Reps.one (show Kd.M (Kd.int .i64) _ _ _ t826 [.int .i64 t826] from rfl) (Reps.one (show Kd.M (Kd.int .i64) _ _ _ t827 [.int .i64 t827] from rfl) (Reps.none _ _)))); intro v829 w5 ho6 hb hg_ hnew_; clear hg_ hnew_; (first | rw [← Ny828.out] at ho6 | (simp only [Int.reduceToNat] at ho6; rw [← Ny828.out] at ho6)); have n0_ := Aside0.mk (Kd.R_lower ho6 (below_size (by repeat (first | (with_reducible first | exact HB.out | apply below_alloc | apply pw_below_drewN | apply below_drew1) | exact HB.out)))); have n1_ := Aside0.mk (below_step (by repeat (first | (with_reducible first | exact HB.out | apply below_alloc | apply pw_below_drewN | apply below_drew1) | exact HB.out)) hb); clear HB; have HO830 := n0_; have HB := n1_; clear n0_ n1_; clear hb ho6; obtain ⟨Ao7, co7, eo7⟩ := Kd.R_slice HO830.out; subst eo7) | ((with_reducible refine gate_callee (f := 90) rfl ?_); refine goesL_ (some 10) rfl rfl Tryz.func90 (by kernel_rfl) rfl #[.slice Ao7 y828.length co7] rfl (by (try simp only [List.map_toArray, List.map_cons, List.map_nil]); first | done | rfl | (simp only [List.length_drop, List.length_take]; rfl)) ?_; (with_reducible refine (governor_first.calls k _ _ y828 t831 _ ?side1 ?side2 A4.out).mono ?_); (case side1 => repeat (first | exact (Kd.R_reads' HO830.out).2.2 | (with_reducible refine Kd.C_alloc ?_ _) | (with_reducible refine Kd.C_drewN ?_ _) | (with_reducible refine Kd.C_drew ?_))); (case side2 => exact (Kd.R_reads' HO830.out).2.1); rintro e w' ⟨rfl, ⟨nd, rfl⟩⟩; refine ⟨_, rfl, ?_⟩))
  go_ret
  exact ⟨by first | rfl | (simp [errW_none, errW_some] <;> rfl) | (simp [*, errW_none, errW_some] <;> rfl), by repeat (first | (with_reducible first | exact HB.out | apply below_alloc | apply pw_below_drewN | apply below_drew1) | exact HB.out)⟩
def governor_quadrant.l0 : Nat → Int → Int → Int → Option (Int)
  | 0, _, _, _ => none
  | k + 1, x3, x833000, x833001 => if x833000 > 0 then (if x833001 ≥ 0 then (some x3) else (governor_quadrant.l0 k (wrap64 (x3 + 1)) x833001 (wrap64 (-x833000)))) else (governor_quadrant.l0 k (wrap64 (x3 + 1)) x833001 (wrap64 (-x833000)))
def governor_quadrant.f (k : Nat) (a0_0 : Int) (a0_1 : Int) : Option (Int) := governor_quadrant.l0 k 0 a0_0 a0_1
set_option maxHeartbeats 8000000 in
set_option maxRecDepth 100000 in
theorem governor_quadrant.calls (k : Nat) (a0_0 : Int) (a0_1 : Int) (r : Int) (w : World) (h : governor_quadrant.f k a0_0 a0_1 = some r) :
    Calls Tryz.prog 96 #[.agg #[.int .i64 a0_0, .int .i64 a0_1]] w fun e w' => e = .returned (.int .i64 r) ∧ Below w.heap.size w w' := by
  have hu26 := Tryz.underlying26
  have HB := Aside0.mk (Below.refl w.heap.size w)
  have H : (governor_quadrant.l0 k 0 a0_0 a0_1) = some r := h
  clear h
  have H' := Aside0.mk H
  clear H
  go_enter Tryz.func96, Tryz.ntmps96
  go_wp2_with (first | ((with_reducible refine gate_dst (N := 1) rfl ?_); refine box_event ?hg (N := 1) ?hd (cs := #[.int .i64 a0_0, .int .i64 a0_1]) (t := 26) ?hr ?_; (case hd => rfl); (case hg => rfl); (case hr => first | (go_simp; done) | (go_simp; rfl)); intro gb832 hg w2 hbox hb; have n0_ := Aside0.mk (below_step (by repeat (first | (with_reducible first | exact HB.out | apply below_alloc | apply pw_below_drewN | apply below_drew1) | exact HB.out)) hb); have n1_ := Aside0.mk (hbox); have n2_ := Aside0.mk ((by rw [hg]; exact (below_size (by repeat (first | (with_reducible first | exact HB.out | apply below_alloc | apply pw_below_drewN | apply below_drew1) | exact HB.out))) : w.heap.size ≤ gb832)); have n3_ := Aside0.mk ((by rw [hg]; exact (below_size (by repeat (first | (with_reducible first | exact HB.out | apply below_alloc | apply pw_below_drewN | apply below_drew1) | exact HB.out))) : w.heap.size ≤ gb832)); clear HB; have HB := n0_; have BK832 := n1_; have GW832 := n2_; have GE832 := n3_; clear n0_ n1_ n2_ n3_; clear hb hbox hg))
  go_loopg [3] k (fun kq v3 w' => ∃ (x3_1 : Int) (x833000_1 : Int) (x833001_1 : Int), v3 = .int .i64 x3_1 ∧ Aside0 (governor_quadrant.l0 kq x3_1 x833000_1 x833001_1 = some r) ∧ Aside0 (kq ≤ k) ∧ Aside0 (w'.heap[gb832]? = some (.cells #[.int .i64 x833000_1, .int .i64 x833001_1] 26 (0, 0))) ∧ Aside0 (Below w.heap.size w w'))
  case atStart => exact ⟨(0), (a0_0), (a0_1), (by first | rfl | (simp; done) | (simp [*]; done)), H', ⟨Nat.le_refl _⟩, ⟨by (with_reducible repeat (first | refine blk_drewN ?_ _ | refine blk_drew ?_ | refine blk_alloc ?_ _)); exact BK832.out⟩, ⟨by repeat (first | (with_reducible first | exact HB.out | apply below_alloc | apply pw_below_drewN | apply below_drew1 | refine below_set ?_ GE832.out) | exact HB.out)⟩⟩
  case round =>
    clear H'
    try clear p2
    obtain ⟨x3_1, x833000_1, x833001_1, rfl, HA, HK1, BK832, HB⟩ := hrel
    cases gk with
    | zero => exact absurd HA.out (by simp [governor_quadrant.l0])
    | succ k1 =>
      have H := HA.out
      clear HA
      simp only [governor_quadrant.l0] at H
      by_cases c3 : x833000_1 > 0
      · rw [if_pos c3] at H
        have c3b0 : decide (0 < x833000_1) = true := decide_eq_true c3
        clear c3
        by_cases c4 : x833001_1 ≥ 0
        · rw [if_pos c4] at H
          have c4b0 : decide (0 ≤ x833001_1) = true := decide_eq_true c4
          clear c4
          obtain rfl := Option.some.inj H
          have hcz5_0 : wr.cell? ⟨gb832, 0, none⟩ = some (.int .i64 x833000_1) := (blk_cell BK832.out 0).trans rfl
          have hcz5_1 : wr.cell? ⟨gb832, 1, none⟩ = some (.int .i64 x833001_1) := (blk_cell BK832.out 1).trans rfl
          have hfz5_0 := blk_frozen BK832.out 0
          have hfz5_1 := blk_frozen BK832.out 1
          go_wp2
          go_ret
          exact ⟨by first | rfl | (simp [errW_none, errW_some] <;> rfl) | (simp [*, errW_none, errW_some] <;> rfl), by repeat (first | (with_reducible first | exact HB.out | apply below_alloc | apply pw_below_drewN | apply below_drew1 | refine below_set ?_ GE832.out) | exact HB.out)⟩
        · rw [if_neg c4] at H
          have c4b0 : decide (0 ≤ x833001_1) = false := decide_eq_false c4
          clear c4
          have H' := Aside0.mk H
          clear H
          have hcz6_0 : wr.cell? ⟨gb832, 0, none⟩ = some (.int .i64 x833000_1) := (blk_cell BK832.out 0).trans rfl
          have hcz6_1 : wr.cell? ⟨gb832, 1, none⟩ = some (.int .i64 x833001_1) := (blk_cell BK832.out 1).trans rfl
          have hfz6_0 := blk_frozen BK832.out 0
          have hfz6_1 := blk_frozen BK832.out 1
          go_wp2
          go_roundg k1
          case measure => have := HK1.out; omega
          case rel => exact ⟨(wrap64 (x3_1 + 1)), (x833001_1), (wrap64 (-x833000_1)), (by first | rfl | (simp; done) | (simp [*]; done)), H', ⟨by have := HK1.out; omega⟩, ⟨by (with_reducible repeat (first | refine blk_drewN ?_ _ | refine blk_drew ?_ | refine blk_alloc ?_ _)); refine blk_put (cs := #[.int .i64 x833001_1, .int .i64 x833001_1]) ?_ 1 _ rfl; (with_reducible repeat (first | refine blk_drewN ?_ _ | refine blk_drew ?_ | refine blk_alloc ?_ _)); refine blk_put (cs := #[.int .i64 x833000_1, .int .i64 x833001_1]) ?_ 0 _ rfl; (with_reducible repeat (first | refine blk_drewN ?_ _ | refine blk_drew ?_ | refine blk_alloc ?_ _)); exact BK832.out⟩, ⟨by repeat (first | (with_reducible first | exact HB.out | apply below_alloc | apply pw_below_drewN | apply below_drew1 | refine below_set ?_ GE832.out) | exact HB.out)⟩⟩
      · rw [if_neg c3] at H
        have c3b0 : decide (0 < x833000_1) = false := decide_eq_false c3
        clear c3
        have H' := Aside0.mk H
        clear H
        have hcz7_0 : wr.cell? ⟨gb832, 0, none⟩ = some (.int .i64 x833000_1) := (blk_cell BK832.out 0).trans rfl
        have hcz7_1 : wr.cell? ⟨gb832, 1, none⟩ = some (.int .i64 x833001_1) := (blk_cell BK832.out 1).trans rfl
        have hfz7_0 := blk_frozen BK832.out 0
        have hfz7_1 := blk_frozen BK832.out 1
        go_wp2
        go_roundg k1
        case measure => have := HK1.out; omega
        case rel => exact ⟨(wrap64 (x3_1 + 1)), (x833001_1), (wrap64 (-x833000_1)), (by first | rfl | (simp; done) | (simp [*]; done)), H', ⟨by have := HK1.out; omega⟩, ⟨by (with_reducible repeat (first | refine blk_drewN ?_ _ | refine blk_drew ?_ | refine blk_alloc ?_ _)); refine blk_put (cs := #[.int .i64 x833001_1, .int .i64 x833001_1]) ?_ 1 _ rfl; (with_reducible repeat (first | refine blk_drewN ?_ _ | refine blk_drew ?_ | refine blk_alloc ?_ _)); refine blk_put (cs := #[.int .i64 x833000_1, .int .i64 x833001_1]) ?_ 0 _ rfl; (with_reducible repeat (first | refine blk_drewN ?_ _ | refine blk_drew ?_ | refine blk_alloc ?_ _)); exact BK832.out⟩, ⟨by repeat (first | (with_reducible first | exact HB.out | apply below_alloc | apply pw_below_drewN | apply below_drew1 | refine below_set ?_ GE832.out) | exact HB.out)⟩⟩
def guidevanebase_Gcd.l0 : Nat → Int → Int → Option (Int)
  | 0, _, _ => none
  | k + 1, x0, x1 => if x1 = 0 then ((guidevanebase_Size.f x0).bind fun t836 => (some t836)) else (guidevanebase_Gcd.l0 k x1 (Int.tmod x0 x1))
def guidevanebase_Gcd.f (k : Nat) (a0 : Int) (a1 : Int) : Option (Int) := guidevanebase_Gcd.l0 k a0 a1
set_option maxHeartbeats 8000000 in
set_option maxRecDepth 100000 in
theorem guidevanebase_Gcd.calls (k : Nat) (a0 : Int) (a1 : Int) (r : Int) (w : World) (h : guidevanebase_Gcd.f k a0 a1 = some r) :
    Calls Tryz.prog 143 #[.int .i64 a0, .int .i64 a1] w fun e w' => e = .returned (.int .i64 r) ∧ Below w.heap.size w w' := by
  have HB := Aside0.mk (Below.refl w.heap.size w)
  have H : (guidevanebase_Gcd.l0 k a0 a1) = some r := h
  clear h
  have H' := Aside0.mk H
  clear H
  go_enter Tryz.func143, Tryz.ntmps143
  go_wp2
  repeat (go_quiet (fail); try go_wp2)
  go_loopg [0, 1] k (fun kq v0 v1 w' => ∃ (x0_1 : Int) (x1_1 : Int), v0 = .int .i64 x0_1 ∧ v1 = .int .i64 x1_1 ∧ Aside0 (guidevanebase_Gcd.l0 kq x0_1 x1_1 = some r) ∧ Aside0 (kq ≤ k) ∧ Aside0 (Below w.heap.size w w'))
  case atStart => exact ⟨(a0), (a1), (by first | rfl | (simp; done) | (simp [*]; done)), (by first | rfl | (simp; done) | (simp [*]; done)), H', ⟨Nat.le_refl _⟩, ⟨by repeat (first | (with_reducible first | exact HB.out | apply below_alloc | apply pw_below_drewN | apply below_drew1) | exact HB.out)⟩⟩
  case round =>
    clear H'
    try clear c1
    try clear p2
    obtain ⟨x0_1, x1_1, rfl, rfl, HA, HK1, HB⟩ := hrel
    cases gk with
    | zero => exact absurd HA.out (by simp [guidevanebase_Gcd.l0])
    | succ k1 =>
      have H := HA.out
      clear HA
      simp only [guidevanebase_Gcd.l0] at H
      by_cases c3 : x1_1 = 0
      · rw [if_pos c3] at H
        have c3b0 : (x1_1 == 0) = true := beq_iff_eq.mpr c3
        have c3b1 : (x1_1 != 0) = false := bne_eq_false_iff_eq.mpr c3
        clear c3
        replace H := Option.bind_eq_some_iff.mp H
        obtain ⟨t836, A40, H⟩ := H
        replace H : (some t836) = some r := H
        have A4 := Aside0.mk A40
        clear A40
        obtain rfl := Option.some.inj H
        go_wp2_with (first | (go_at_call 82; (with_reducible refine (guidevanebase_Size.calls x0_1 t836 _ A4.out).mono ?_); rintro e w5 ⟨rfl, hb⟩; have n0_ := Aside0.mk (below_step (by repeat (first | (with_reducible first | exact HB.out | apply below_alloc | apply pw_below_drewN | apply below_drew1) | exact HB.out)) hb); clear HB; have HB := n0_; clear n0_; (try clear hb); (try clear hb2); (try clear hk); (try clear hi)))
        repeat (go_quiet (first | (go_at_call 82; (with_reducible refine (guidevanebase_Size.calls x0_1 t836 _ A4.out).mono ?_); rintro e w5 ⟨rfl, hb⟩; have n0_ := Aside0.mk (below_step (by repeat (first | (with_reducible first | exact HB.out | apply below_alloc | apply pw_below_drewN | apply below_drew1) | exact HB.out)) hb); clear HB; have HB := n0_; clear n0_; (try clear hb); (try clear hb2); (try clear hk); (try clear hi))); try go_wp2_with (first | (go_at_call 82; (with_reducible refine (guidevanebase_Size.calls x0_1 t836 _ A4.out).mono ?_); rintro e w5 ⟨rfl, hb⟩; have n0_ := Aside0.mk (below_step (by repeat (first | (with_reducible first | exact HB.out | apply below_alloc | apply pw_below_drewN | apply below_drew1) | exact HB.out)) hb); clear HB; have HB := n0_; clear n0_; (try clear hb); (try clear hb2); (try clear hk); (try clear hi))))
        go_ret
        exact ⟨by first | rfl | (simp [errW_none, errW_some] <;> rfl) | (simp [*, errW_none, errW_some] <;> rfl), by repeat (first | (with_reducible first | exact HB.out | apply below_alloc | apply pw_below_drewN | apply below_drew1) | exact HB.out)⟩
      · rw [if_neg c3] at H
        have c3b0 : (x1_1 == 0) = false := beq_eq_false_iff_ne.mpr c3
        have c3b1 : (x1_1 != 0) = true := bne_iff_ne.mpr c3
        have H' := Aside0.mk H
        clear H
        go_wp2
        repeat (go_quiet (fail); try go_wp2)
        go_roundg k1
        case measure => have := HK1.out; omega
        case rel => exact ⟨(x1_1), (Int.tmod x0_1 x1_1), (by first | rfl | (simp; done) | (simp [*]; done)), (by first | rfl | (simp; done) | (simp [*]; done)), H', ⟨by have := HK1.out; omega⟩, ⟨by repeat (first | (with_reducible first | exact HB.out | apply below_alloc | apply pw_below_drewN | apply below_drew1) | exact HB.out)⟩⟩
end Go.Proofs.YtmpondcccbmlhaaGreat.Q
