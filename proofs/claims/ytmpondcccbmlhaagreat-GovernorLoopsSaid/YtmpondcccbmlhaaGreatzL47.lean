/- A part of the claim L: the texts Q10, without what the claim does not lean on. -/
import Derived.ArgAppend
import Derived.Below
import Derived.BigQuiet
import Derived.Deep.AppendLies
import Derived.Deep.CutBlock
import Derived.Deep.DeepCutAuto
import Derived.Deep.Draws
import Derived.Deep.LoopGhost
import Derived.Deep.OwnRows
import Derived.Deep.QuietTactic
import Derived.Deep.RegionHeld3
import Derived.KernelRfl
import Derived.Laws.BitsLemmas
import Derived.Laws.BytesArg
import Derived.Laws.IdiomCopy
import Derived.Laws.MakeOwn
import Derived.Laws.OwnMore
import Derived.Laws.Rows
import Derived.Laws.Slices
import Derived.Laws.StructEq
import Derived.Lib.AppendStr
import Derived.Lib.ConvBytes
import Derived.Maps.AppendAt
import Derived.OrdersHeld
import Derived.OwnWalk
import Derived.RowKit
import Derived.RowKit3
import Derived.Tactics
import Derived.WalkKit
import Derived.WideLaws
import Derived.Test.YtmpondcccbmlhaaGreatProg
import Derived.Test.YtmpondcccbmlhaaGreatzL0
import Derived.Test.YtmpondcccbmlhaaGreatzL1
import Derived.Test.YtmpondcccbmlhaaGreatzL2
import Derived.Test.YtmpondcccbmlhaaGreatzL3
import Derived.Test.YtmpondcccbmlhaaGreatzL4
import Derived.Test.YtmpondcccbmlhaaGreatzL5
import Derived.Test.YtmpondcccbmlhaaGreatzL6
import Derived.Test.YtmpondcccbmlhaaGreatzL7
namespace Go.Proofs.YtmpondcccbmlhaaGreat.Q
open Go.RowKit Go.Proofs.YtmpondcccbmlhaaGreatW.PrintWords Go.Proofs.YtmpondcccbmlhaaGreatW.PrintLast Go.Proofs.YtmpondcccbmlhaaGreatW.PrintMore
attribute [local go_sem] max2_int min2_int max_two min_two max_three min_three max_four min_four   
set_option linter.unusedVariables false
set_option linter.unusedSimpArgs false
mutual
def gr6_CheckLoop.l0 : Nat → Int → List Int → List (List Int) → Option (Int × Int)
 | 0, _, _, _ => none
 | k + 1, x5, x362000, x362001 => if x5 < (x362001.length : Int) then (if 0 ≤ x5 then (if ((rd_L2 x362001 x5).length : Int) = (x362000.length : Int) then (gr6_CheckLoop.l1 k x5 0 x362000 x362001) else (some (x5, 10))) else (none)) else (if 0 < (x362000.length : Int) then (gr6_CheckLoop.l2 k (rd x362000 0) 0 x362000 x362001) else (none))
def gr6_CheckLoop.l1 : Nat → Int → Int → List Int → List (List Int) → Option (Int × Int)
 | 0, _, _, _, _ => none
 | k + 1, x5, x6, x362000, x362001 => if 0 ≤ x5 then (if x5 < (x362001.length : Int) then (if x6 < ((rd_L2 x362001 x5).length : Int) then (if 0 ≤ x6 then ((gba_Within.f (rd (rd_L2 x362001 x5) x6) (-100) 100).bind fun t367 => (if t367 = true then (gr6_CheckLoop.l1 k x5 (wrap64 (x6 + 1)) x362000 x362001) else (some (x5, 2)))) else (none)) else (gr6_CheckLoop.l0 k (wrap64 (x5 + 1)) x362000 x362001)) else (none)) else (none)
def gr6_CheckLoop.l2 : Nat → Int → Int → List Int → List (List Int) → Option (Int × Int)
 | 0, _, _, _, _ => none
 | k + 1, x7, x8, x362000, x362001 => if x8 < (x362001.length : Int) then (if 0 ≤ x8 then (if 0 < ((rd_L2 x362001 x8).length : Int) then (gr6_CheckLoop.l2 k (wrap64 (x7 + (mn 0 (rd (rd_L2 x362001 x8) 0)))) (wrap64 (x8 + 1)) x362000 x362001) else (none)) else (none)) else (if x7 < 1 then (some (0, 3)) else (gr6_CheckLoop.l3 k 0 x362000 x362001))
def gr6_CheckLoop.l3 : Nat → Int → List Int → List (List Int) → Option (Int × Int)
 | 0, _, _, _ => none
 | k + 1, x9, x362000, x362001 => if x9 < (x362000.length : Int) then (if 0 ≤ x9 then ((gba_Size.f (rd x362000 x9)).bind fun t372 => (gr6_CheckLoop.l4 k x9 t372 0 x362000 x362001)) else (none)) else (some (0, 0))
def gr6_CheckLoop.l4 : Nat → Int → Int → Int → List Int → List (List Int) → Option (Int × Int)
 | 0, _, _, _, _, _ => none
 | k + 1, x9, x10, x11, x362000, x362001 => if x11 < (x362001.length : Int) then (if 0 ≤ x11 then (if 0 ≤ x9 then (if x9 < ((rd_L2 x362001 x11).length : Int) then ((gba_Size.f (rd (rd_L2 x362001 x11) x9)).bind fun t375 => (gr6_CheckLoop.l4 k x9 (wrap64 (x10 + t375)) (wrap64 (x11 + 1)) x362000 x362001)) else (none)) else (none)) else (none)) else (if x10 > 1000 then (some (0, 8)) else (gr6_CheckLoop.l3 k (wrap64 (x9 + 1)) x362000 x362001))
end
def gr6_CheckLoop.f (k : Nat) (l0_0 : List Int) (l0_1 : List (List Int)) : Option (Int × Int) := (gr6_PolynomialErr.f k l0_0).bind fun t362 => (if t362 = 0 then (if (l0_1.length : Int) > 6 then (some (0, 8)) else (gr6_CheckLoop.l0 k 0 l0_0 l0_1)) else (some (0, t362)))
set_option maxHeartbeats 8000000 in
set_option maxRecDepth 100000 in
theorem gr6_CheckLoop.calls (k : Nat) (A0_0 : Option Addr) (c0_0 : Nat) (l0_0 : List Int) (A0_1 : Option Addr) (c0_1 : Nat) (l0_1 : List (List Int)) (r1 : Int) (r2 : Int) (w : World) (hr0_0 : Kd.C (Kd.int .i64) w A0_0 l0_0.length l0_0) (hc0_0 : l0_0.length ≤ c0_0) (hr0_1 : Kd.C (Kd.slice 3 (Kd.int .i64)) w A0_1 l0_1.length l0_1) (hc0_1 : l0_1.length ≤ c0_1) (h : gr6_CheckLoop.f k l0_0 l0_1 = some (r1, r2)) :
  Calls Tryz.prog 43 #[.agg #[.slice A0_0 l0_0.length c0_0, .slice A0_1 l0_1.length c0_1]] w fun e w' => e = .returned (.tuple #[.int .i64 r1, .int .i64 r2]) ∧ Below w.heap.size w w' := by
 have hu63 := Tryz.underlying63
 have HR0_0 := Asd.mk hr0_0
 have HC0_0 := Asd.mk hc0_0
 clear hr0_0 hc0_0
 have HR0_1 := Asd.mk hr0_1
 have HC0_1 := Asd.mk hc0_1
 clear hr0_1 hc0_1
 have HB := Asd.mk (Below.refl w.heap.size w)
 have H : ((gr6_PolynomialErr.f k l0_0).bind fun t362 => (if t362 = 0 then (if (l0_1.length : Int) > 6 then (some (0, 8)) else (gr6_CheckLoop.l0 k 0 l0_0 l0_1)) else (some (0, t362)))) = some (r1, r2) := h
 clear h
 replace H := Option.bind_eq_some_iff.mp H
 obtain ⟨t362, A20, H⟩ := H
 replace H : (if t362 = 0 then (if (l0_1.length : Int) > 6 then (some (0, 8)) else (gr6_CheckLoop.l0 k 0 l0_0 l0_1)) else (some (0, t362))) = some (r1, r2) := H
 have A2 := Asd.mk A20
 clear A20
 by_cases c3 : t362 = 0
 ·rw [if_pos c3] at H
  have c3b0 : (t362 == 0) = true := beq_iff_eq.mpr c3
  have c3b1 : (t362 != 0) = false := bne_eq_false_iff_eq.mpr c3
  clear c3
  by_cases c4 : (l0_1.length : Int) > 6
  ·rw [if_pos c4] at H
   have c4b0 : decide (6 < (l0_1.length : Int)) = true := decide_eq_true c4
   have c4b1 : decide (6 < l0_1.length) = true := decide_eq_true (by omega)
   clear c4
   simp only [Option.some.injEq, Prod.mk.injEq] at H
   obtain ⟨rfl, rfl⟩ := H
   go_enter Tryz.func43, Tryz.ntmps43
   go_wp2_with (first | ((with_reducible refine gate_dst (N := 1) rfl ?_); refine box_event ?hg (N := 1) ?hd (cs := #[.slice A0_0 l0_0.length c0_0, .slice A0_1 l0_1.length c0_1]) (t := 63) ?hr ?_; (case hd => rfl); (case hg => rfl); (case hr => first | (go_simp; done) | (go_simp; rfl)); intro gb361 hg w5 hbox hb; have n0_ := Asd.mk (below_step (by repeat (first | (with_reducible first | exact HB.out | apply below_alloc | apply pbN | apply bd1) | exact HB.out)) hb); have n1_ := Asd.mk (hbox); have n2_ := Asd.mk ((by rw [hg]; exact (below_size (by repeat (first | (with_reducible first | exact HB.out | apply below_alloc | apply pbN | apply bd1) | exact HB.out))) : w.heap.size ≤ gb361)); have n3_ := Asd.mk ((by rw [hg]; exact (below_size (by repeat (first | (with_reducible first | exact HB.out | apply below_alloc | apply pbN | apply bd1) | exact HB.out))) : w.heap.size ≤ gb361)); clear HB; have HB := n0_; have BK361 := n1_; have GW361 := n2_; have GE361 := n3_; clear n0_ n1_ n2_ n3_; clear hb hbox hg; have hcz6_0 : w5.cell? ⟨gb361, 0, none⟩ = some (.slice A0_0 l0_0.length c0_0) := (blk_cell BK361.out 0).trans rfl; have hcz6_1 : w5.cell? ⟨gb361, 1, none⟩ = some (.slice A0_1 l0_1.length c0_1) := (blk_cell BK361.out 1).trans rfl; have hfz6_0 := blk_frozen BK361.out 0; have hfz6_1 := blk_frozen BK361.out 1) | (go_at_call 21; (with_reducible refine (gr6_PolynomialErr.calls k _ _ l0_0 t362 _ ?side1 ?side2 A2.out).mono ?_); (case side1 => repeat (first | exact (Kd.C_below HR0_0.out HB.out) | (with_reducible refine Kd.C_alloc ?_ _) | (with_reducible refine Kd.C_drewN ?_ _) | (with_reducible refine Kd.C_drew ?_))); (case side2 => exact HC0_0.out); rintro e w' ⟨rfl, ⟨nd, rfl⟩⟩; (try first | exact ⟨rfl, _, World.drewN_drewN _ _ _⟩ | exact ⟨rfl, _, Eq.trans (World.drewN_drewN _ _ _) (congrArg (World.drewN _) (Nat.add_assoc _ _ _))⟩)))
   repeat (go_quiet (first | ((with_reducible refine gate_dst (N := 1) rfl ?_); refine box_event ?hg (N := 1) ?hd (cs := #[.slice A0_0 l0_0.length c0_0, .slice A0_1 l0_1.length c0_1]) (t := 63) ?hr ?_; (case hd => rfl); (case hg => rfl); (case hr => first | (go_simp; done) | (go_simp; rfl)); intro gb361 hg w5 hbox hb; have n0_ := Asd.mk (below_step (by repeat (first | (with_reducible first | exact HB.out | apply below_alloc | apply pbN | apply bd1) | exact HB.out)) hb); have n1_ := Asd.mk (hbox); have n2_ := Asd.mk ((by rw [hg]; exact (below_size (by repeat (first | (with_reducible first | exact HB.out | apply below_alloc | apply pbN | apply bd1) | exact HB.out))) : w.heap.size ≤ gb361)); have n3_ := Asd.mk ((by rw [hg]; exact (below_size (by repeat (first | (with_reducible first | exact HB.out | apply below_alloc | apply pbN | apply bd1) | exact HB.out))) : w.heap.size ≤ gb361)); clear HB; have HB := n0_; have BK361 := n1_; have GW361 := n2_; have GE361 := n3_; clear n0_ n1_ n2_ n3_; clear hb hbox hg; have hcz6_0 : w5.cell? ⟨gb361, 0, none⟩ = some (.slice A0_0 l0_0.length c0_0) := (blk_cell BK361.out 0).trans rfl; have hcz6_1 : w5.cell? ⟨gb361, 1, none⟩ = some (.slice A0_1 l0_1.length c0_1) := (blk_cell BK361.out 1).trans rfl; have hfz6_0 := blk_frozen BK361.out 0; have hfz6_1 := blk_frozen BK361.out 1) | (go_at_call 21; (with_reducible refine (gr6_PolynomialErr.calls k _ _ l0_0 t362 _ ?side1 ?side2 A2.out).mono ?_); (case side1 => repeat (first | exact (Kd.C_below HR0_0.out HB.out) | (with_reducible refine Kd.C_alloc ?_ _) | (with_reducible refine Kd.C_drewN ?_ _) | (with_reducible refine Kd.C_drew ?_))); (case side2 => exact HC0_0.out); rintro e w' ⟨rfl, ⟨nd, rfl⟩⟩; (try first | exact ⟨rfl, _, World.drewN_drewN _ _ _⟩ | exact ⟨rfl, _, Eq.trans (World.drewN_drewN _ _ _) (congrArg (World.drewN _) (Nat.add_assoc _ _ _))⟩))); try go_wp2_with (first | ((with_reducible refine gate_dst (N := 1) rfl ?_); refine box_event ?hg (N := 1) ?hd (cs := #[.slice A0_0 l0_0.length c0_0, .slice A0_1 l0_1.length c0_1]) (t := 63) ?hr ?_; (case hd => rfl); (case hg => rfl); (case hr => first | (go_simp; done) | (go_simp; rfl)); intro gb361 hg w5 hbox hb; have n0_ := Asd.mk (below_step (by repeat (first | (with_reducible first | exact HB.out | apply below_alloc | apply pbN | apply bd1) | exact HB.out)) hb); have n1_ := Asd.mk (hbox); have n2_ := Asd.mk ((by rw [hg]; exact (below_size (by repeat (first | (with_reducible first | exact HB.out | apply below_alloc | apply pbN | apply bd1) | exact HB.out))) : w.heap.size ≤ gb361)); have n3_ := Asd.mk ((by rw [hg]; exact (below_size (by repeat (first | (with_reducible first | exact HB.out | apply below_alloc | apply pbN | apply bd1) | exact HB.out))) : w.heap.size ≤ gb361)); clear HB; have HB := n0_; have BK361 := n1_; have GW361 := n2_; have GE361 := n3_; clear n0_ n1_ n2_ n3_; clear hb hbox hg; have hcz6_0 : w5.cell? ⟨gb361, 0, none⟩ = some (.slice A0_0 l0_0.length c0_0) := (blk_cell BK361.out 0).trans rfl; have hcz6_1 : w5.cell? ⟨gb361, 1, none⟩ = some (.slice A0_1 l0_1.length c0_1) := (blk_cell BK361.out 1).trans rfl; have hfz6_0 := blk_frozen BK361.out 0; have hfz6_1 := blk_frozen BK361.out 1) | (go_at_call 21; (with_reducible refine (gr6_PolynomialErr.calls k _ _ l0_0 t362 _ ?side1 ?side2 A2.out).mono ?_); (case side1 => repeat (first | exact (Kd.C_below HR0_0.out HB.out) | (with_reducible refine Kd.C_alloc ?_ _) | (with_reducible refine Kd.C_drewN ?_ _) | (with_reducible refine Kd.C_drew ?_))); (case side2 => exact HC0_0.out); rintro e w' ⟨rfl, ⟨nd, rfl⟩⟩; (try first | exact ⟨rfl, _, World.drewN_drewN _ _ _⟩ | exact ⟨rfl, _, Eq.trans (World.drewN_drewN _ _ _) (congrArg (World.drewN _) (Nat.add_assoc _ _ _))⟩))))
   go_ret2
   exact ⟨by first | rfl | (simp [errW_none, errW_some] <;> rfl) | (simp [*, errW_none, errW_some] <;> rfl), by repeat (first | (with_reducible first | exact HB.out | apply below_alloc | apply pbN | apply bd1 | refine below_set ?_ GE361.out) | exact HB.out)⟩
  ·rw [if_neg c4] at H
   have c4b0 : decide (6 < (l0_1.length : Int)) = false := decide_eq_false c4
   have c4b1 : decide (6 < l0_1.length) = false := decide_eq_false (by omega)
   clear c4
   have H' := Asd.mk H
   clear H
   go_enter Tryz.func43, Tryz.ntmps43
   go_wp2_with (first | ((with_reducible refine gate_dst (N := 1) rfl ?_); refine box_event ?hg (N := 1) ?hd (cs := #[.slice A0_0 l0_0.length c0_0, .slice A0_1 l0_1.length c0_1]) (t := 63) ?hr ?_; (case hd => rfl); (case hg => rfl); (case hr => first | (go_simp; done) | (go_simp; rfl)); intro gb361 hg w7 hbox hb; have n0_ := Asd.mk (below_step (by repeat (first | (with_reducible first | exact HB.out | apply below_alloc | apply pbN | apply bd1) | exact HB.out)) hb); have n1_ := Asd.mk (hbox); have n2_ := Asd.mk ((by rw [hg]; exact (below_size (by repeat (first | (with_reducible first | exact HB.out | apply below_alloc | apply pbN | apply bd1) | exact HB.out))) : w.heap.size ≤ gb361)); have n3_ := Asd.mk ((by rw [hg]; exact (below_size (by repeat (first | (with_reducible first | exact HB.out | apply below_alloc | apply pbN | apply bd1) | exact HB.out))) : w.heap.size ≤ gb361)); clear HB; have HB := n0_; have BK361 := n1_; have GW361 := n2_; have GE361 := n3_; clear n0_ n1_ n2_ n3_; clear hb hbox hg; have hcz8_0 : w7.cell? ⟨gb361, 0, none⟩ = some (.slice A0_0 l0_0.length c0_0) := (blk_cell BK361.out 0).trans rfl; have hcz8_1 : w7.cell? ⟨gb361, 1, none⟩ = some (.slice A0_1 l0_1.length c0_1) := (blk_cell BK361.out 1).trans rfl; have hfz8_0 := blk_frozen BK361.out 0; have hfz8_1 := blk_frozen BK361.out 1) | (go_at_call 21; (with_reducible refine (gr6_PolynomialErr.calls k _ _ l0_0 t362 _ ?side1 ?side2 A2.out).mono ?_); (case side1 => repeat (first | exact (Kd.C_below HR0_0.out HB.out) | (with_reducible refine Kd.C_alloc ?_ _) | (with_reducible refine Kd.C_drewN ?_ _) | (with_reducible refine Kd.C_drew ?_))); (case side2 => exact HC0_0.out); rintro e w' ⟨rfl, ⟨nd, rfl⟩⟩; (try first | exact ⟨rfl, _, World.drewN_drewN _ _ _⟩ | exact ⟨rfl, _, Eq.trans (World.drewN_drewN _ _ _) (congrArg (World.drewN _) (Nat.add_assoc _ _ _))⟩)))
   repeat (go_quiet (first | ((with_reducible refine gate_dst (N := 1) rfl ?_); refine box_event ?hg (N := 1) ?hd (cs := #[.slice A0_0 l0_0.length c0_0, .slice A0_1 l0_1.length c0_1]) (t := 63) ?hr ?_; (case hd => rfl); (case hg => rfl); (case hr => first | (go_simp; done) | (go_simp; rfl)); intro gb361 hg w7 hbox hb; have n0_ := Asd.mk (below_step (by repeat (first | (with_reducible first | exact HB.out | apply below_alloc | apply pbN | apply bd1) | exact HB.out)) hb); have n1_ := Asd.mk (hbox); have n2_ := Asd.mk ((by rw [hg]; exact (below_size (by repeat (first | (with_reducible first | exact HB.out | apply below_alloc | apply pbN | apply bd1) | exact HB.out))) : w.heap.size ≤ gb361)); have n3_ := Asd.mk ((by rw [hg]; exact (below_size (by repeat (first | (with_reducible first | exact HB.out | apply below_alloc | apply pbN | apply bd1) | exact HB.out))) : w.heap.size ≤ gb361)); clear HB; have HB := n0_; have BK361 := n1_; have GW361 := n2_; have GE361 := n3_; clear n0_ n1_ n2_ n3_; clear hb hbox hg; have hcz8_0 : w7.cell? ⟨gb361, 0, none⟩ = some (.slice A0_0 l0_0.length c0_0) := (blk_cell BK361.out 0).trans rfl; have hcz8_1 : w7.cell? ⟨gb361, 1, none⟩ = some (.slice A0_1 l0_1.length c0_1) := (blk_cell BK361.out 1).trans rfl; have hfz8_0 := blk_frozen BK361.out 0; have hfz8_1 := blk_frozen BK361.out 1) | (go_at_call 21; (with_reducible refine (gr6_PolynomialErr.calls k _ _ l0_0 t362 _ ?side1 ?side2 A2.out).mono ?_); (case side1 => repeat (first | exact (Kd.C_below HR0_0.out HB.out) | (with_reducible refine Kd.C_alloc ?_ _) | (with_reducible refine Kd.C_drewN ?_ _) | (with_reducible refine Kd.C_drew ?_))); (case side2 => exact HC0_0.out); rintro e w' ⟨rfl, ⟨nd, rfl⟩⟩; (try first | exact ⟨rfl, _, World.drewN_drewN _ _ _⟩ | exact ⟨rfl, _, Eq.trans (World.drewN_drewN _ _ _) (congrArg (World.drewN _) (Nat.add_assoc _ _ _))⟩))); try go_wp2_with (first | ((with_reducible refine gate_dst (N := 1) rfl ?_); refine box_event ?hg (N := 1) ?hd (cs := #[.slice A0_0 l0_0.length c0_0, .slice A0_1 l0_1.length c0_1]) (t := 63) ?hr ?_; (case hd => rfl); (case hg => rfl); (case hr => first | (go_simp; done) | (go_simp; rfl)); intro gb361 hg w7 hbox hb; have n0_ := Asd.mk (below_step (by repeat (first | (with_reducible first | exact HB.out | apply below_alloc | apply pbN | apply bd1) | exact HB.out)) hb); have n1_ := Asd.mk (hbox); have n2_ := Asd.mk ((by rw [hg]; exact (below_size (by repeat (first | (with_reducible first | exact HB.out | apply below_alloc | apply pbN | apply bd1) | exact HB.out))) : w.heap.size ≤ gb361)); have n3_ := Asd.mk ((by rw [hg]; exact (below_size (by repeat (first | (with_reducible first | exact HB.out | apply below_alloc | apply pbN | apply bd1) | exact HB.out))) : w.heap.size ≤ gb361)); clear HB; have HB := n0_; have BK361 := n1_; have GW361 := n2_; have GE361 := n3_; clear n0_ n1_ n2_ n3_; clear hb hbox hg; have hcz8_0 : w7.cell? ⟨gb361, 0, none⟩ = some (.slice A0_0 l0_0.length c0_0) := (blk_cell BK361.out 0).trans rfl; have hcz8_1 : w7.cell? ⟨gb361, 1, none⟩ = some (.slice A0_1 l0_1.length c0_1) := (blk_cell BK361.out 1).trans rfl; have hfz8_0 := blk_frozen BK361.out 0; have hfz8_1 := blk_frozen BK361.out 1) | (go_at_call 21; (with_reducible refine (gr6_PolynomialErr.calls k _ _ l0_0 t362 _ ?side1 ?side2 A2.out).mono ?_); (case side1 => repeat (first | exact (Kd.C_below HR0_0.out HB.out) | (with_reducible refine Kd.C_alloc ?_ _) | (with_reducible refine Kd.C_drewN ?_ _) | (with_reducible refine Kd.C_drew ?_))); (case side2 => exact HC0_0.out); rintro e w' ⟨rfl, ⟨nd, rfl⟩⟩; (try first | exact ⟨rfl, _, World.drewN_drewN _ _ _⟩ | exact ⟨rfl, _, Eq.trans (World.drewN_drewN _ _ _) (congrArg (World.drewN _) (Nat.add_assoc _ _ _))⟩))))
   go_loopg [5] k (fun kq v5 w' => ∃ (x5_1 : Int), v5 = .int .i64 x5_1 ∧ Asd (gr6_CheckLoop.l0 kq x5_1 l0_0 l0_1 = some (r1, r2)) ∧ Asd (kq ≤ k) ∧ Asd (w'.heap[gb361]? = some (.cells #[(.slice A0_0 l0_0.length c0_0), (.slice A0_1 l0_1.length c0_1)] 63 (0, 0))) ∧ Asd (Below w.heap.size w w'))
   case atStart => exact ⟨(0), (by first | rfl | (simp; done) | (simp [*]; done)), H', ⟨Nat.le_refl _⟩, ⟨by (with_reducible repeat (first | refine blk_drewN ?_ _ | refine blk_drew ?_ | refine blk_alloc ?_ _)); exact BK361.out⟩, ⟨by repeat (first | (with_reducible first | exact HB.out | apply below_alloc | apply pbN | apply bd1 | refine below_set ?_ GE361.out) | exact HB.out)⟩⟩
   case round =>
    clear H'
    try clear p2
    try clear c3
    try clear c3b0
    try clear c3b1
    try clear c4
    try clear c4b0
    try clear c4b1
    try clear hcz6_0
    try clear hcz6_1
    try clear hcz8_0
    try clear hcz8_1
    try clear hfz6_0
    try clear hfz6_1
    try clear hfz8_0
    try clear hfz8_1
    obtain ⟨x5_1, rfl, HA, HK1, BK361, HB⟩ := hrel
    cases gk with
    | zero => exact absurd HA.out (by simp [gr6_CheckLoop.l0])
    | succ k1 =>
     have H := HA.out
     clear HA
     simp only [gr6_CheckLoop.l0] at H
     by_cases c9 : x5_1 < (l0_1.length : Int)
     ·rw [if_pos c9] at H
      have c9b0 : decide (x5_1 < (l0_1.length : Int)) = true := decide_eq_true c9
      clear c9
      by_cases c10 : 0 ≤ x5_1
      ·rw [if_pos c10] at H
       have c10b0 : decide (0 ≤ x5_1) = true := decide_eq_true c10
       clear c10
       by_cases c11 : ((rd_L2 l0_1 x5_1).length : Int) = (l0_0.length : Int)
       ·rw [if_pos c11] at H
        have c11b0 : (((rd_L2 l0_1 x5_1).length : Int) == (l0_0.length : Int)) = true := beq_iff_eq.mpr c11
        have c11b1 : (((rd_L2 l0_1 x5_1).length : Int) != (l0_0.length : Int)) = false := bne_eq_false_iff_eq.mpr c11
        have c11b2 : ((rd_L2 l0_1 x5_1).length == l0_0.length) = true := by first | simpa using c11 | (simp at c11 ⊢; omega)
        clear c11
        have H' := Asd.mk H
        clear H
        have hcz12_0 : wr.cell? ⟨gb361, 0, none⟩ = some (.slice A0_0 l0_0.length c0_0) := (blk_cell BK361.out 0).trans rfl
        have hcz12_1 : wr.cell? ⟨gb361, 1, none⟩ = some (.slice A0_1 l0_1.length c0_1) := (blk_cell BK361.out 1).trans rfl
        have hfz12_0 := blk_frozen BK361.out 0
        have hfz12_1 := blk_frozen BK361.out 1
        have p363 : 0 ≤ (x5_1 : Int) := of_decide_eq_true (by first | (with_reducible assumption) | assumption)
        have q363 : x5_1 < (l0_1.length : Int) := of_decide_eq_true (by first | (with_reducible assumption) | assumption)
        obtain ⟨ad363, A363_0, c363_0, e363, hx363_0, hl363_0, hi363_0⟩ := at_L2 HR0_1.out x5_1 p363 q363
        cases e363
        replace hx363_0 := (HB.out.cell (World.block_lt_of_cell? w _ hx363_0)).trans hx363_0
        have HR363_0 := Asd.mk hi363_0
        have HC363_0 := Asd.mk hl363_0
        clear hi363_0 hl363_0
        replace p363 := eq_true p363
        replace q363 := eq_true q363
        go_wp2
        repeat (go_quiet (fail); try go_wp2)
        go_loopg [6] k1 (fun kq v6 w' => ∃ (x6_2 : Int), v6 = .int .i64 x6_2 ∧ Asd (gr6_CheckLoop.l1 kq x5_1 x6_2 l0_0 l0_1 = some (r1, r2)) ∧ Asd (kq ≤ k1) ∧ Asd (w'.heap[gb361]? = some (.cells #[(.slice A0_0 l0_0.length c0_0), (.slice (some ad363) l0_1.length c0_1)] 63 (0, 0))) ∧ Asd (Below w.heap.size w w'))
        case atStart => exact ⟨(0), (by first | rfl | (simp; done) | (simp [*]; done)), H', ⟨Nat.le_refl _⟩, ⟨by (with_reducible repeat (first | refine blk_drewN ?_ _ | refine blk_drew ?_ | refine blk_alloc ?_ _)); exact BK361.out⟩, ⟨by repeat (first | (with_reducible first | exact HB.out | apply below_alloc | apply pbN | apply bd1 | refine below_set ?_ GE361.out) | exact HB.out)⟩⟩
        case round =>
         clear H'
         try clear c1
         try clear p2
         try clear c3
         try clear c3b0
         try clear c3b1
         try clear p3
         try clear q3
         try clear hx3
         try clear c4
         try clear c4b0
         try clear c4b1
         try clear c9
         try clear c9b0
         try clear c10
         try clear c10b0
         try clear c11
         try clear c11b0
         try clear c11b1
         try clear c11b2
         try clear hcz12_0
         try clear hcz12_1
         try clear hcz6_0
         try clear hcz6_1
         try clear hcz8_0
         try clear hcz8_1
         try clear hfz12_0
         try clear hfz12_1
         try clear hfz6_0
         try clear hfz6_1
         try clear hfz8_0
         try clear hfz8_1
         try clear hx363_0
         try clear p2
         try clear p363
         try clear q363
         obtain ⟨x6_2, rfl, HA, HK2, BK361, HB⟩ := hrel
         cases gk with
         | zero => exact absurd HA.out (by simp [gr6_CheckLoop.l1])
         | succ k2 =>
          have H := HA.out
          clear HA
          simp only [gr6_CheckLoop.l1] at H
          by_cases c13 : 0 ≤ x5_1
          ·rw [if_pos c13] at H
           have c13b0 : decide (0 ≤ x5_1) = true := decide_eq_true c13
           clear c13
           by_cases c14 : x5_1 < (l0_1.length : Int)
           ·rw [if_pos c14] at H
            have c14b0 : decide (x5_1 < (l0_1.length : Int)) = true := decide_eq_true c14
            clear c14
            by_cases c15 : x6_2 < ((rd_L2 l0_1 x5_1).length : Int)
            ·rw [if_pos c15] at H
             have c15b0 : decide (x6_2 < ((rd_L2 l0_1 x5_1).length : Int)) = true := decide_eq_true c15
             clear c15
             by_cases c16 : 0 ≤ x6_2
             ·rw [if_pos c16] at H
              have c16b0 : decide (0 ≤ x6_2) = true := decide_eq_true c16
              clear c16
              replace H := Option.bind_eq_some_iff.mp H
              obtain ⟨t367, A170, H⟩ := H
              replace H : (if t367 = true then (gr6_CheckLoop.l1 k2 x5_1 (wrap64 (x6_2 + 1)) l0_0 l0_1) else (some (x5_1, 2))) = some (r1, r2) := H
              have A17 := Asd.mk A170
              clear A170
              by_cases c18 : t367 = true
              ·subst c18
               have H1 : (gr6_CheckLoop.l1 k2 x5_1 (wrap64 (x6_2 + 1)) l0_0 l0_1) = some (r1, r2) := by rw [if_pos rfl] at H; exact H
               clear H
               have H := H1
               clear H1
               have H' := Asd.mk H
               clear H
               have hcz19_0 : wr.cell? ⟨gb361, 0, none⟩ = some (.slice A0_0 l0_0.length c0_0) := (blk_cell BK361.out 0).trans rfl
               have hcz19_1 : wr.cell? ⟨gb361, 1, none⟩ = some (.slice (some ad363) l0_1.length c0_1) := (blk_cell BK361.out 1).trans rfl
               have hfz19_0 := blk_frozen BK361.out 0
               have hfz19_1 := blk_frozen BK361.out 1
               have p364 : 0 ≤ (x5_1 : Int) := of_decide_eq_true (by first | (with_reducible assumption) | assumption)
               have q364 : x5_1 < (l0_1.length : Int) := of_decide_eq_true (by first | (with_reducible assumption) | assumption)
               obtain ⟨ad364, A364_0, c364_0, e364, hx364_0, hl364_0, hi364_0⟩ := at_L2 HR0_1.out x5_1 p364 q364
               obtain rfl : ad363 = ad364 := (by injection e364)
               replace hx364_0 := (HB.out.cell (World.block_lt_of_cell? w _ hx364_0)).trans hx364_0
               have HR364_0 := Asd.mk hi364_0
               have HC364_0 := Asd.mk hl364_0
               clear hi364_0 hl364_0
               replace p364 := eq_true p364
               replace q364 := eq_true q364
               have p365 : 0 ≤ (x5_1 : Int) := of_decide_eq_true (by first | (with_reducible assumption) | assumption)
               have q365 : x5_1 < (l0_1.length : Int) := of_decide_eq_true (by first | (with_reducible assumption) | assumption)
               obtain ⟨ad365, A365_0, c365_0, e365, hx365_0, hl365_0, hi365_0⟩ := at_L2 HR0_1.out x5_1 p365 q365
               obtain rfl : ad363 = ad365 := (by injection e365)
               replace hx365_0 := (HB.out.cell (World.block_lt_of_cell? w _ hx365_0)).trans hx365_0
               have HR365_0 := Asd.mk hi365_0
               have HC365_0 := Asd.mk hl365_0
               clear hi365_0 hl365_0
               replace p365 := eq_true p365
               replace q365 := eq_true q365
               have ea_ := Option.some.inj (hx364_0.symm.trans hx365_0)
               injection ea_ with ea_ en_ ec_
               subst ea_
               subst ec_
               clear en_
               have p366 : 0 ≤ (x6_2 : Int) := of_decide_eq_true (by first | (with_reducible assumption) | assumption)
               have q366 : x6_2 < ((rd_L2 l0_1 x5_1).length : Int) := of_decide_eq_true (by first | (with_reducible assumption) | assumption)
               obtain ⟨ad366, e366, hx366_0⟩ := Kd.at_int HR365_0.out x6_2 p366 q366
               cases e366
               replace hx366_0 := (HB.out.cell (World.block_lt_of_cell? w _ hx366_0)).trans hx366_0
               replace p366 := eq_true p366
               replace q366 := eq_true q366
               go_wp2_with (first | (go_at_call 68; (with_reducible refine (gba_Within.calls (rd (rd_L2 l0_1 x5_1) x6_2) (-100) 100 true _ A17.out).mono ?_); rintro e w' ⟨rfl, ⟨nd, rfl⟩⟩; (try first | exact ⟨rfl, _, World.drewN_drewN _ _ _⟩ | exact ⟨rfl, _, Eq.trans (World.drewN_drewN _ _ _) (congrArg (World.drewN _) (Nat.add_assoc _ _ _))⟩)))
               repeat (go_quiet (first | (go_at_call 68; (with_reducible refine (gba_Within.calls (rd (rd_L2 l0_1 x5_1) x6_2) (-100) 100 true _ A17.out).mono ?_); rintro e w' ⟨rfl, ⟨nd, rfl⟩⟩; (try first | exact ⟨rfl, _, World.drewN_drewN _ _ _⟩ | exact ⟨rfl, _, Eq.trans (World.drewN_drewN _ _ _) (congrArg (World.drewN _) (Nat.add_assoc _ _ _))⟩))); try go_wp2_with (first | (go_at_call 68; (with_reducible refine (gba_Within.calls (rd (rd_L2 l0_1 x5_1) x6_2) (-100) 100 true _ A17.out).mono ?_); rintro e w' ⟨rfl, ⟨nd, rfl⟩⟩; (try first | exact ⟨rfl, _, World.drewN_drewN _ _ _⟩ | exact ⟨rfl, _, Eq.trans (World.drewN_drewN _ _ _) (congrArg (World.drewN _) (Nat.add_assoc _ _ _))⟩))))
               go_roundg k2
               case measure => have := HK1.out; have := HK2.out; omega
               case rel => exact ⟨(wrap64 (x6_2 + 1)), (by first | rfl | (simp; done) | (simp [*]; done)), H', ⟨by have := HK1.out; have := HK2.out; omega⟩, ⟨by (with_reducible repeat (first | refine blk_drewN ?_ _ | refine blk_drew ?_ | refine blk_alloc ?_ _)); exact BK361.out⟩, ⟨by repeat (first | (with_reducible first | exact HB.out | apply below_alloc | apply pbN | apply bd1 | refine below_set ?_ GE361.out) | exact HB.out)⟩⟩
              ·replace c18 := Bool.eq_false_iff.mpr c18
               subst c18
               have H1 : (some (x5_1, 2)) = some (r1, r2) := by rw [if_neg (show ¬ (false = true) by decide)] at H; exact H
               clear H
               have H := H1
               clear H1
               simp only [Option.some.injEq, Prod.mk.injEq] at H
               obtain ⟨rfl, rfl⟩ := H
               have hcz20_0 : wr.cell? ⟨gb361, 0, none⟩ = some (.slice A0_0 l0_0.length c0_0) := (blk_cell BK361.out 0).trans rfl
               have hcz20_1 : wr.cell? ⟨gb361, 1, none⟩ = some (.slice (some ad363) l0_1.length c0_1) := (blk_cell BK361.out 1).trans rfl
               have hfz20_0 := blk_frozen BK361.out 0
               have hfz20_1 := blk_frozen BK361.out 1
               have p364 : 0 ≤ (x5_1 : Int) := of_decide_eq_true (by first | (with_reducible assumption) | assumption)
               have q364 : x5_1 < (l0_1.length : Int) := of_decide_eq_true (by first | (with_reducible assumption) | assumption)
               obtain ⟨ad364, A364_0, c364_0, e364, hx364_0, hl364_0, hi364_0⟩ := at_L2 HR0_1.out x5_1 p364 q364
               obtain rfl : ad363 = ad364 := (by injection e364)
               replace hx364_0 := (HB.out.cell (World.block_lt_of_cell? w _ hx364_0)).trans hx364_0
               have HR364_0 := Asd.mk hi364_0
               have HC364_0 := Asd.mk hl364_0
               clear hi364_0 hl364_0
               replace p364 := eq_true p364
               replace q364 := eq_true q364
               have p365 : 0 ≤ (x5_1 : Int) := of_decide_eq_true (by first | (with_reducible assumption) | assumption)
               have q365 : x5_1 < (l0_1.length : Int) := of_decide_eq_true (by first | (with_reducible assumption) | assumption)
               obtain ⟨ad365, A365_0, c365_0, e365, hx365_0, hl365_0, hi365_0⟩ := at_L2 HR0_1.out x5_1 p365 q365
               obtain rfl : ad363 = ad365 := (by injection e365)
               replace hx365_0 := (HB.out.cell (World.block_lt_of_cell? w _ hx365_0)).trans hx365_0
               have HR365_0 := Asd.mk hi365_0
               have HC365_0 := Asd.mk hl365_0
               clear hi365_0 hl365_0
               replace p365 := eq_true p365
               replace q365 := eq_true q365
               have ea_ := Option.some.inj (hx364_0.symm.trans hx365_0)
               injection ea_ with ea_ en_ ec_
               subst ea_
               subst ec_
               clear en_
               have p366 : 0 ≤ (x6_2 : Int) := of_decide_eq_true (by first | (with_reducible assumption) | assumption)
               have q366 : x6_2 < ((rd_L2 l0_1 x5_1).length : Int) := of_decide_eq_true (by first | (with_reducible assumption) | assumption)
               obtain ⟨ad366, e366, hx366_0⟩ := Kd.at_int HR365_0.out x6_2 p366 q366
               cases e366
               replace hx366_0 := (HB.out.cell (World.block_lt_of_cell? w _ hx366_0)).trans hx366_0
               replace p366 := eq_true p366
               replace q366 := eq_true q366
               go_wp2_with (first | (go_at_call 68; (with_reducible refine (gba_Within.calls (rd (rd_L2 l0_1 x5_1) x6_2) (-100) 100 false _ A17.out).mono ?_); rintro e w' ⟨rfl, ⟨nd, rfl⟩⟩; (try first | exact ⟨rfl, _, World.drewN_drewN _ _ _⟩ | exact ⟨rfl, _, Eq.trans (World.drewN_drewN _ _ _) (congrArg (World.drewN _) (Nat.add_assoc _ _ _))⟩)))
               repeat (go_quiet (first | (go_at_call 68; (with_reducible refine (gba_Within.calls (rd (rd_L2 l0_1 x5_1) x6_2) (-100) 100 false _ A17.out).mono ?_); rintro e w' ⟨rfl, ⟨nd, rfl⟩⟩; (try first | exact ⟨rfl, _, World.drewN_drewN _ _ _⟩ | exact ⟨rfl, _, Eq.trans (World.drewN_drewN _ _ _) (congrArg (World.drewN _) (Nat.add_assoc _ _ _))⟩))); try go_wp2_with (first | (go_at_call 68; (with_reducible refine (gba_Within.calls (rd (rd_L2 l0_1 x5_1) x6_2) (-100) 100 false _ A17.out).mono ?_); rintro e w' ⟨rfl, ⟨nd, rfl⟩⟩; (try first | exact ⟨rfl, _, World.drewN_drewN _ _ _⟩ | exact ⟨rfl, _, Eq.trans (World.drewN_drewN _ _ _) (congrArg (World.drewN _) (Nat.add_assoc _ _ _))⟩))))
               go_ret2
               exact ⟨by first | rfl | (simp [errW_none, errW_some] <;> rfl) | (simp [*, errW_none, errW_some] <;> rfl), by repeat (first | (with_reducible first | exact HB.out | apply below_alloc | apply pbN | apply bd1 | refine below_set ?_ GE361.out) | exact HB.out)⟩
             ·rw [if_neg c16] at H
              exact absurd H (by simp)
            ·rw [if_neg c15] at H
             have c15b0 : decide (x6_2 < ((rd_L2 l0_1 x5_1).length : Int)) = false := decide_eq_false c15
             clear c15
             have H' := Asd.mk H
             clear H
             have hcz21_0 : wr.cell? ⟨gb361, 0, none⟩ = some (.slice A0_0 l0_0.length c0_0) := (blk_cell BK361.out 0).trans rfl
             have hcz21_1 : wr.cell? ⟨gb361, 1, none⟩ = some (.slice (some ad363) l0_1.length c0_1) := (blk_cell BK361.out 1).trans rfl
             have hfz21_0 := blk_frozen BK361.out 0
             have hfz21_1 := blk_frozen BK361.out 1
             have p364 : 0 ≤ (x5_1 : Int) := of_decide_eq_true (by first | (with_reducible assumption) | assumption)
             have q364 : x5_1 < (l0_1.length : Int) := of_decide_eq_true (by first | (with_reducible assumption) | assumption)
             obtain ⟨ad364, A364_0, c364_0, e364, hx364_0, hl364_0, hi364_0⟩ := at_L2 HR0_1.out x5_1 p364 q364
             obtain rfl : ad363 = ad364 := (by injection e364)
             replace hx364_0 := (HB.out.cell (World.block_lt_of_cell? w _ hx364_0)).trans hx364_0
             have HR364_0 := Asd.mk hi364_0
             have HC364_0 := Asd.mk hl364_0
             clear hi364_0 hl364_0
             replace p364 := eq_true p364
             replace q364 := eq_true q364
             go_wp2
             repeat (go_quiet (fail); try go_wp2)
             go_roundg k2
             case measure => have := HK1.out; have := HK2.out; omega
             case rel => exact ⟨(wrap64 (x5_1 + 1)), (by first | rfl | (simp; done) | (simp [*]; done)), H', ⟨by have := HK1.out; have := HK2.out; omega⟩, ⟨by (with_reducible repeat (first | refine blk_drewN ?_ _ | refine blk_drew ?_ | refine blk_alloc ?_ _)); exact BK361.out⟩, ⟨by repeat (first | (with_reducible first | exact HB.out | apply below_alloc | apply pbN | apply bd1 | refine below_set ?_ GE361.out) | exact HB.out)⟩⟩
           ·rw [if_neg c14] at H
            exact absurd H (by simp)
          ·rw [if_neg c13] at H
           exact absurd H (by simp)
       ·rw [if_neg c11] at H
        have c11b0 : (((rd_L2 l0_1 x5_1).length : Int) == (l0_0.length : Int)) = false := beq_eq_false_iff_ne.mpr c11
        have c11b1 : (((rd_L2 l0_1 x5_1).length : Int) != (l0_0.length : Int)) = true := bne_iff_ne.mpr c11
        have c11b2 : ((rd_L2 l0_1 x5_1).length == l0_0.length) = false := by first | simpa using c11 | (simp at c11 ⊢; omega)
        simp only [Option.some.injEq, Prod.mk.injEq] at H
        obtain ⟨rfl, rfl⟩ := H
        have hcz22_0 : wr.cell? ⟨gb361, 0, none⟩ = some (.slice A0_0 l0_0.length c0_0) := (blk_cell BK361.out 0).trans rfl
        have hcz22_1 : wr.cell? ⟨gb361, 1, none⟩ = some (.slice A0_1 l0_1.length c0_1) := (blk_cell BK361.out 1).trans rfl
        have hfz22_0 := blk_frozen BK361.out 0
        have hfz22_1 := blk_frozen BK361.out 1
        have p363 : 0 ≤ (x5_1 : Int) := of_decide_eq_true (by first | (with_reducible assumption) | assumption)
        have q363 : x5_1 < (l0_1.length : Int) := of_decide_eq_true (by first | (with_reducible assumption) | assumption)
        obtain ⟨ad363, A363_0, c363_0, e363, hx363_0, hl363_0, hi363_0⟩ := at_L2 HR0_1.out x5_1 p363 q363
        cases e363
        replace hx363_0 := (HB.out.cell (World.block_lt_of_cell? w _ hx363_0)).trans hx363_0
        have HR363_0 := Asd.mk hi363_0
        have HC363_0 := Asd.mk hl363_0
        clear hi363_0 hl363_0
        replace p363 := eq_true p363
        replace q363 := eq_true q363
        go_wp2
        repeat (go_quiet (fail); try go_wp2)
        go_ret2
        exact ⟨by first | rfl | (simp [errW_none, errW_some] <;> rfl) | (simp [*, errW_none, errW_some] <;> rfl), by repeat (first | (with_reducible first | exact HB.out | apply below_alloc | apply pbN | apply bd1 | refine below_set ?_ GE361.out) | exact HB.out)⟩
      ·rw [if_neg c10] at H
       exact absurd H (by simp)
     ·rw [if_neg c9] at H
      have c9b0 : decide (x5_1 < (l0_1.length : Int)) = false := decide_eq_false c9
      clear c9
      by_cases c23 : 0 < (l0_0.length : Int)
      ·rw [if_pos c23] at H
       have c23b0 : decide (0 < (l0_0.length : Int)) = true := decide_eq_true c23
       have c23b1 : decide (0 < l0_0.length) = true := decide_eq_true (by omega)
       clear c23
       have H' := Asd.mk H
       clear H
       have hcz24_0 : wr.cell? ⟨gb361, 0, none⟩ = some (.slice A0_0 l0_0.length c0_0) := (blk_cell BK361.out 0).trans rfl
       have hcz24_1 : wr.cell? ⟨gb361, 1, none⟩ = some (.slice A0_1 l0_1.length c0_1) := (blk_cell BK361.out 1).trans rfl
       have hfz24_0 := blk_frozen BK361.out 0
       have hfz24_1 := blk_frozen BK361.out 1
       have p368 : 0 ≤ (0 : Int) := (by omega)
       have q368 : 0 < (l0_0.length : Int) := of_decide_eq_true (by first | (with_reducible assumption) | assumption)
       obtain ⟨ad368, e368, hx368_0⟩ := Kd.at_int HR0_0.out 0 p368 q368
       cases e368
       have qi368 : (0 < l0_0.length) = True := eq_true (by omega)
       (try rw [show ((0 : Int)).toNat = 0 from rfl] at hx368_0)
       (try rw [Addr.add_zero'] at hx368_0)
       replace hx368_0 := (HB.out.cell (World.block_lt_of_cell? w _ hx368_0)).trans hx368_0
       replace p368 := eq_true p368
       replace q368 := eq_true q368
       go_wp2
       repeat (go_quiet (fail); try go_wp2)
       go_loopg [7, 8] k1 (fun kq v7 v8 w' => ∃ (x7_2 : Int) (x8_2 : Int), v7 = .int .i64 x7_2 ∧ v8 = .int .i64 x8_2 ∧ Asd (gr6_CheckLoop.l2 kq x7_2 x8_2 l0_0 l0_1 = some (r1, r2)) ∧ Asd (kq ≤ k1) ∧ Asd (w'.heap[gb361]? = some (.cells #[(.slice (some ad368) l0_0.length c0_0), (.slice A0_1 l0_1.length c0_1)] 63 (0, 0))) ∧ Asd (Below w.heap.size w w'))
       case atStart => exact ⟨(rd l0_0 0), (0), (by first | rfl | (simp; done) | (simp [*]; done)), (by first | rfl | (simp; done) | (simp [*]; done)), H', ⟨Nat.le_refl _⟩, ⟨by (with_reducible repeat (first | refine blk_drewN ?_ _ | refine blk_drew ?_ | refine blk_alloc ?_ _)); exact BK361.out⟩, ⟨by repeat (first | (with_reducible first | exact HB.out | apply below_alloc | apply pbN | apply bd1 | refine below_set ?_ GE361.out) | exact HB.out)⟩⟩
       case round =>
        clear H'
        try clear c1
        try clear c2
        try clear p2
        try clear c3
        try clear c3b0
        try clear c3b1
        try clear p3
        try clear q3
        try clear hx3
        try clear qi3
        try clear c4
        try clear c4b0
        try clear c4b1
        try clear p6
        try clear c9
        try clear c9b0
        try clear c10
        try clear c10b0
        try clear c11
        try clear c11b0
        try clear c11b1
        try clear c11b2
        try clear c13
        try clear c13b0
        try clear c14
        try clear c14b0
        try clear c15
        try clear c15b0
        try clear c16
        try clear c16b0
        try clear c18
        try clear c23
        try clear c23b0
        try clear c23b1
        try clear hcz12_0
        try clear hcz12_1
        try clear hcz19_0
        try clear hcz19_1
        try clear hcz20_0
        try clear hcz20_1
        try clear hcz21_0
        try clear hcz21_1
        try clear hcz22_0
        try clear hcz22_1
        try clear hcz24_0
        try clear hcz24_1
        try clear hcz6_0
        try clear hcz6_1
        try clear hcz8_0
        try clear hcz8_1
        try clear hfz12_0
        try clear hfz12_1
        try clear hfz19_0
        try clear hfz19_1
        try clear hfz20_0
        try clear hfz20_1
        try clear hfz21_0
        try clear hfz21_1
        try clear hfz22_0
        try clear hfz22_1
        try clear hfz24_0
        try clear hfz24_1
        try clear hfz6_0
        try clear hfz6_1
        try clear hfz8_0
        try clear hfz8_1
        try clear hx363_0
        try clear hx364_0
        try clear hx365_0
        try clear hx366_0
        try clear hx368_0
        try clear p2
        try clear p3
        try clear p363
        try clear p364
        try clear p365
        try clear p366
        try clear p368
        try clear q3
        try clear q363
        try clear q364
        try clear q365
        try clear q366
        try clear q368
        obtain ⟨x7_2, x8_2, rfl, rfl, HA, HK2, BK361, HB⟩ := hrel
        cases gk with
        | zero => exact absurd HA.out (by simp [gr6_CheckLoop.l2])
        | succ k2 =>
         have H := HA.out
         clear HA
         simp only [gr6_CheckLoop.l2] at H
         by_cases c25 : x8_2 < (l0_1.length : Int)
         ·rw [if_pos c25] at H
          have c25b0 : decide (x8_2 < (l0_1.length : Int)) = true := decide_eq_true c25
          clear c25
          by_cases c26 : 0 ≤ x8_2
          ·rw [if_pos c26] at H
           have c26b0 : decide (0 ≤ x8_2) = true := decide_eq_true c26
           clear c26
           by_cases c27 : 0 < ((rd_L2 l0_1 x8_2).length : Int)
           ·rw [if_pos c27] at H
            have c27b0 : decide (0 < ((rd_L2 l0_1 x8_2).length : Int)) = true := decide_eq_true c27
            have c27b1 : decide (0 < (rd_L2 l0_1 x8_2).length) = true := decide_eq_true (by omega)
            clear c27
            obtain ⟨ji28, hji28⟩ : ∃ j_ : Int, (mn 0 (rd (rd_L2 l0_1 x8_2) 0)) = j_ := ⟨_, rfl⟩
            replace H : (gr6_CheckLoop.l2 k2 (wrap64 (x7_2 + (ji28))) (wrap64 (x8_2 + 1)) l0_0 l0_1) = some (r1, r2) := by first | (rw [hji28] at H; exact H) | (simp only [hji28] at H ⊢; exact H)
            have hji28_ : (if (rd (rd_L2 l0_1 x8_2) 0) < 0 then (rd (rd_L2 l0_1 x8_2) 0) else 0) = ji28 := hji28
            have H' := Asd.mk H
            clear H
            have hcz29_0 : wr.cell? ⟨gb361, 0, none⟩ = some (.slice (some ad368) l0_0.length c0_0) := (blk_cell BK361.out 0).trans rfl
            have hcz29_1 : wr.cell? ⟨gb361, 1, none⟩ = some (.slice A0_1 l0_1.length c0_1) := (blk_cell BK361.out 1).trans rfl
            have hfz29_0 := blk_frozen BK361.out 0
            have hfz29_1 := blk_frozen BK361.out 1
            have p369 : 0 ≤ (x8_2 : Int) := of_decide_eq_true (by first | (with_reducible assumption) | assumption)
            have q369 : x8_2 < (l0_1.length : Int) := of_decide_eq_true (by first | (with_reducible assumption) | assumption)
            obtain ⟨ad369, A369_0, c369_0, e369, hx369_0, hl369_0, hi369_0⟩ := at_L2 HR0_1.out x8_2 p369 q369
            cases e369
            replace hx369_0 := (HB.out.cell (World.block_lt_of_cell? w _ hx369_0)).trans hx369_0
            have HR369_0 := Asd.mk hi369_0
            have HC369_0 := Asd.mk hl369_0
            clear hi369_0 hl369_0
            replace p369 := eq_true p369
            replace q369 := eq_true q369
            have p370 : 0 ≤ (0 : Int) := (by omega)
            have q370 : 0 < ((rd_L2 l0_1 x8_2).length : Int) := of_decide_eq_true (by first | (with_reducible assumption) | assumption)
            obtain ⟨ad370, e370, hx370_0⟩ := Kd.at_int HR369_0.out 0 p370 q370
            cases e370
            have qi370 : (0 < (rd_L2 l0_1 x8_2).length) = True := eq_true (by omega)
            (try rw [show ((0 : Int)).toNat = 0 from rfl] at hx370_0)
            (try rw [Addr.add_zero'] at hx370_0)
            replace hx370_0 := (HB.out.cell (World.block_lt_of_cell? w _ hx370_0)).trans hx370_0
            replace p370 := eq_true p370
            replace q370 := eq_true q370
            go_wp2
            repeat (go_quiet (fail); try go_wp2)
            go_roundg k2
            case measure => have := HK1.out; have := HK2.out; omega
            case rel => exact ⟨(wrap64 (x7_2 + (ji28))), (wrap64 (x8_2 + 1)), (by first | rfl | (simp; done) | (simp only [← hji28] <;> (first | rfl | simp)) | (simp [*]; done)), (by first | rfl | (simp; done) | (simp [*]; done)), H', ⟨by have := HK1.out; have := HK2.out; omega⟩, ⟨by (with_reducible repeat (first | refine blk_drewN ?_ _ | refine blk_drew ?_ | refine blk_alloc ?_ _)); exact BK361.out⟩, ⟨by repeat (first | (with_reducible first | exact HB.out | apply below_alloc | apply pbN | apply bd1 | refine below_set ?_ GE361.out) | exact HB.out)⟩⟩
           ·rw [if_neg c27] at H
            exact absurd H (by simp)
          ·rw [if_neg c26] at H
           exact absurd H (by simp)
         ·rw [if_neg c25] at H
          have c25b0 : decide (x8_2 < (l0_1.length : Int)) = false := decide_eq_false c25
          clear c25
          by_cases c30 : x7_2 < 1
          ·rw [if_pos c30] at H
           have c30b0 : decide (x7_2 < 1) = true := decide_eq_true c30
           clear c30
           simp only [Option.some.injEq, Prod.mk.injEq] at H
           obtain ⟨rfl, rfl⟩ := H
           have hcz31_0 : wr.cell? ⟨gb361, 0, none⟩ = some (.slice (some ad368) l0_0.length c0_0) := (blk_cell BK361.out 0).trans rfl
           have hcz31_1 : wr.cell? ⟨gb361, 1, none⟩ = some (.slice A0_1 l0_1.length c0_1) := (blk_cell BK361.out 1).trans rfl
           have hfz31_0 := blk_frozen BK361.out 0
           have hfz31_1 := blk_frozen BK361.out 1
           go_wp2
           repeat (go_quiet (fail); try go_wp2)
           go_ret2
           exact ⟨by first | rfl | (simp [errW_none, errW_some] <;> rfl) | (simp [*, errW_none, errW_some] <;> rfl), by repeat (first | (with_reducible first | exact HB.out | apply below_alloc | apply pbN | apply bd1 | refine below_set ?_ GE361.out) | exact HB.out)⟩
          ·rw [if_neg c30] at H
           have c30b0 : decide (x7_2 < 1) = false := decide_eq_false c30
           clear c30
           have H' := Asd.mk H
           clear H
           have hcz32_0 : wr.cell? ⟨gb361, 0, none⟩ = some (.slice (some ad368) l0_0.length c0_0) := (blk_cell BK361.out 0).trans rfl
           have hcz32_1 : wr.cell? ⟨gb361, 1, none⟩ = some (.slice A0_1 l0_1.length c0_1) := (blk_cell BK361.out 1).trans rfl
           have hfz32_0 := blk_frozen BK361.out 0
           have hfz32_1 := blk_frozen BK361.out 1
           go_wp2
           repeat (go_quiet (fail); try go_wp2)
           go_loopg [9] k2 (fun kq v9 w' => ∃ (x9_3 : Int), v9 = .int .i64 x9_3 ∧ Asd (gr6_CheckLoop.l3 kq x9_3 l0_0 l0_1 = some (r1, r2)) ∧ Asd (kq ≤ k2) ∧ Asd (w'.heap[gb361]? = some (.cells #[(.slice (some ad368) l0_0.length c0_0), (.slice A0_1 l0_1.length c0_1)] 63 (0, 0))) ∧ Asd (Below w.heap.size w w'))
           case atStart => exact ⟨(0), (by first | rfl | (simp; done) | (simp [*]; done)), H', ⟨Nat.le_refl _⟩, ⟨by (with_reducible repeat (first | refine blk_drewN ?_ _ | refine blk_drew ?_ | refine blk_alloc ?_ _)); exact BK361.out⟩, ⟨by repeat (first | (with_reducible first | exact HB.out | apply below_alloc | apply pbN | apply bd1 | refine below_set ?_ GE361.out) | exact HB.out)⟩⟩
           case round =>
            clear H'
            try clear c1
            try clear c2
            try clear p2
            try clear c3
            try clear c3b0
            try clear c3b1
            try clear p3
            try clear q3
            try clear hx3
            try clear qi3
            try clear c4
            try clear c4b0
            try clear c4b1
            try clear p6
            try clear c9
            try clear c9b0
            try clear c10
            try clear c10b0
            try clear c11
            try clear c11b0
            try clear c11b1
            try clear c11b2
            try clear c13
            try clear c13b0
            try clear c14
            try clear c14b0
            try clear c15
            try clear c15b0
            try clear c16
            try clear c16b0
            try clear c18
            try clear c23
            try clear c23b0
            try clear c23b1
            try clear c25
            try clear c25b0
            try clear c26
            try clear c26b0
            try clear c27
            try clear c27b0
            try clear c27b1
            try clear c30
            try clear c30b0
            try clear hcz12_0
            try clear hcz12_1
            try clear hcz19_0
            try clear hcz19_1
            try clear hcz20_0
            try clear hcz20_1
            try clear hcz21_0
            try clear hcz21_1
            try clear hcz22_0
            try clear hcz22_1
            try clear hcz24_0
            try clear hcz24_1
            try clear hcz29_0
            try clear hcz29_1
            try clear hcz31_0
            try clear hcz31_1
            try clear hcz32_0
            try clear hcz32_1
            try clear hcz6_0
            try clear hcz6_1
            try clear hcz8_0
            try clear hcz8_1
            try clear hfz12_0
            try clear hfz12_1
            try clear hfz19_0
            try clear hfz19_1
            try clear hfz20_0
            try clear hfz20_1
            try clear hfz21_0
            try clear hfz21_1
            try clear hfz22_0
            try clear hfz22_1
            try clear hfz24_0
            try clear hfz24_1
            try clear hfz29_0
            try clear hfz29_1
            try clear hfz31_0
            try clear hfz31_1
            try clear hfz32_0
            try clear hfz32_1
            try clear hfz6_0
            try clear hfz6_1
            try clear hfz8_0
            try clear hfz8_1
            try clear hx363_0
            try clear hx364_0
            try clear hx365_0
            try clear hx366_0
            try clear hx368_0
            try clear hx369_0
            try clear hx370_0
            try clear p2
            try clear p3
            try clear p363
            try clear p364
            try clear p365
            try clear p366
            try clear p368
            try clear p369
            try clear p370
            try clear p6
            try clear q3
            try clear q363
            try clear q364
            try clear q365
            try clear q366
            try clear q368
            try clear q369
            try clear q370
            obtain ⟨x9_3, rfl, HA, HK3, BK361, HB⟩ := hrel
            cases gk with
            | zero => exact absurd HA.out (by simp [gr6_CheckLoop.l3])
            | succ k3 =>
             have H := HA.out
             clear HA
             simp only [gr6_CheckLoop.l3] at H
             by_cases c33 : x9_3 < (l0_0.length : Int)
             ·rw [if_pos c33] at H
              have c33b0 : decide (x9_3 < (l0_0.length : Int)) = true := decide_eq_true c33
              clear c33
              by_cases c34 : 0 ≤ x9_3
              ·rw [if_pos c34] at H
               have c34b0 : decide (0 ≤ x9_3) = true := decide_eq_true c34
               clear c34
               replace H := Option.bind_eq_some_iff.mp H
               obtain ⟨t372, A350, H⟩ := H
               replace H : (gr6_CheckLoop.l4 k3 x9_3 t372 0 l0_0 l0_1) = some (r1, r2) := H
               have A35 := Asd.mk A350
               clear A350
               have H' := Asd.mk H
               clear H
               have hcz36_0 : wr.cell? ⟨gb361, 0, none⟩ = some (.slice (some ad368) l0_0.length c0_0) := (blk_cell BK361.out 0).trans rfl
               have hcz36_1 : wr.cell? ⟨gb361, 1, none⟩ = some (.slice A0_1 l0_1.length c0_1) := (blk_cell BK361.out 1).trans rfl
               have hfz36_0 := blk_frozen BK361.out 0
               have hfz36_1 := blk_frozen BK361.out 1
               have p371 : 0 ≤ (x9_3 : Int) := of_decide_eq_true (by first | (with_reducible assumption) | assumption)
               have q371 : x9_3 < (l0_0.length : Int) := of_decide_eq_true (by first | (with_reducible assumption) | assumption)
               obtain ⟨ad371, e371, hx371_0⟩ := Kd.at_int HR0_0.out x9_3 p371 q371
               obtain rfl : ad368 = ad371 := (by injection e371)
               replace hx371_0 := (HB.out.cell (World.block_lt_of_cell? w _ hx371_0)).trans hx371_0
               replace p371 := eq_true p371
               replace q371 := eq_true q371
               go_wp2_with (first | (go_at_call 82; (with_reducible refine (gba_Size.calls (rd l0_0 x9_3) t372 _ A35.out).mono ?_); rintro e w37 ⟨rfl, hb⟩; have n0_ := Asd.mk (blk_below (g := gb361) (o := .cells #[.slice (some ad368) l0_0.length c0_0, .slice A0_1 l0_1.length c0_1] 63 (0, 0)) (by (with_reducible repeat (first | refine blk_drewN ?_ _ | refine blk_drew ?_ | refine blk_alloc ?_ _)); exact BK361.out) hb); have n1_ := Asd.mk (below_step (by repeat (first | (with_reducible first | exact HB.out | apply below_alloc | apply pbN | apply bd1 | refine below_set ?_ GE361.out) | exact HB.out)) hb); clear BK361; clear HB; have BK361 := n0_; have HB := n1_; clear n0_ n1_; (try clear hb); (try clear hb2); (try clear hk); (try clear hi)))
               repeat (go_quiet (first | (go_at_call 82; (with_reducible refine (gba_Size.calls (rd l0_0 x9_3) t372 _ A35.out).mono ?_); rintro e w37 ⟨rfl, hb⟩; have n0_ := Asd.mk (blk_below (g := gb361) (o := .cells #[.slice (some ad368) l0_0.length c0_0, .slice A0_1 l0_1.length c0_1] 63 (0, 0)) (by (with_reducible repeat (first | refine blk_drewN ?_ _ | refine blk_drew ?_ | refine blk_alloc ?_ _)); exact BK361.out) hb); have n1_ := Asd.mk (below_step (by repeat (first | (with_reducible first | exact HB.out | apply below_alloc | apply pbN | apply bd1 | refine below_set ?_ GE361.out) | exact HB.out)) hb); clear BK361; clear HB; have BK361 := n0_; have HB := n1_; clear n0_ n1_; (try clear hb); (try clear hb2); (try clear hk); (try clear hi))); try go_wp2_with (first | (go_at_call 82; (with_reducible refine (gba_Size.calls (rd l0_0 x9_3) t372 _ A35.out).mono ?_); rintro e w37 ⟨rfl, hb⟩; have n0_ := Asd.mk (blk_below (g := gb361) (o := .cells #[.slice (some ad368) l0_0.length c0_0, .slice A0_1 l0_1.length c0_1] 63 (0, 0)) (by (with_reducible repeat (first | refine blk_drewN ?_ _ | refine blk_drew ?_ | refine blk_alloc ?_ _)); exact BK361.out) hb); have n1_ := Asd.mk (below_step (by repeat (first | (with_reducible first | exact HB.out | apply below_alloc | apply pbN | apply bd1 | refine below_set ?_ GE361.out) | exact HB.out)) hb); clear BK361; clear HB; have BK361 := n0_; have HB := n1_; clear n0_ n1_; (try clear hb); (try clear hb2); (try clear hk); (try clear hi))))
               go_loopg [10, 11] k3 (fun kq v10 v11 w' => ∃ (x10_4 : Int) (x11_4 : Int), v10 = .int .i64 x10_4 ∧ v11 = .int .i64 x11_4 ∧ Asd (gr6_CheckLoop.l4 kq x9_3 x10_4 x11_4 l0_0 l0_1 = some (r1, r2)) ∧ Asd (kq ≤ k3) ∧ Asd (w'.heap[gb361]? = some (.cells #[(.slice (some ad368) l0_0.length c0_0), (.slice A0_1 l0_1.length c0_1)] 63 (0, 0))) ∧ Asd (Below w.heap.size w w'))
               case atStart => exact ⟨(t372), (0), (by first | rfl | (simp; done) | (simp [*]; done)), (by first | rfl | (simp; done) | (simp [*]; done)), H', ⟨Nat.le_refl _⟩, ⟨by (with_reducible repeat (first | refine blk_drewN ?_ _ | refine blk_drew ?_ | refine blk_alloc ?_ _)); exact BK361.out⟩, ⟨by repeat (first | (with_reducible first | exact HB.out | apply below_alloc | apply pbN | apply bd1 | refine below_set ?_ GE361.out) | exact HB.out)⟩⟩
               case round =>
                clear H'
                try clear c1
                try clear c2
                try clear p2
                try clear c3
                try clear c3b0
                try clear c3b1
                try clear p3
                try clear q3
                try clear hx3
                try clear qi3
                try clear c4
                try clear c4b0
                try clear c4b1
                try clear p6
                try clear c9
                try clear c9b0
                try clear c10
                try clear c10b0
                try clear c11
                try clear c11b0
                try clear c11b1
                try clear c11b2
                try clear c13
                try clear c13b0
                try clear c14
                try clear c14b0
                try clear c15
                try clear c15b0
                try clear c16
                try clear c16b0
                try clear c18
                try clear c23
                try clear c23b0
                try clear c23b1
                try clear c25
                try clear c25b0
                try clear c26
                try clear c26b0
                try clear c27
                try clear c27b0
                try clear c27b1
                try clear c30
                try clear c30b0
                try clear c33
                try clear c33b0
                try clear c34
                try clear c34b0
                try clear c36
                try clear p36
                try clear q36
                try clear hx36
                try clear qi36
                try clear p37
                try clear q37
                try clear hx37
                try clear qi37
                try clear hcz12_0
                try clear hcz12_1
                try clear hcz19_0
                try clear hcz19_1
                try clear hcz20_0
                try clear hcz20_1
                try clear hcz21_0
                try clear hcz21_1
                try clear hcz22_0
                try clear hcz22_1
                try clear hcz24_0
                try clear hcz24_1
                try clear hcz29_0
                try clear hcz29_1
                try clear hcz31_0
                try clear hcz31_1
                try clear hcz32_0
                try clear hcz32_1
                try clear hcz36_0
                try clear hcz36_1
                try clear hcz6_0
                try clear hcz6_1
                try clear hcz8_0
                try clear hcz8_1
                try clear hfz12_0
                try clear hfz12_1
                try clear hfz19_0
                try clear hfz19_1
                try clear hfz20_0
                try clear hfz20_1
                try clear hfz21_0
                try clear hfz21_1
                try clear hfz22_0
                try clear hfz22_1
                try clear hfz24_0
                try clear hfz24_1
                try clear hfz29_0
                try clear hfz29_1
                try clear hfz31_0
                try clear hfz31_1
                try clear hfz32_0
                try clear hfz32_1
                try clear hfz36_0
                try clear hfz36_1
                try clear hfz6_0
                try clear hfz6_1
                try clear hfz8_0
                try clear hfz8_1
                try clear hx363_0
                try clear hx364_0
                try clear hx365_0
                try clear hx366_0
                try clear hx368_0
                try clear hx369_0
                try clear hx370_0
                try clear hx371_0
                try clear p2
                try clear p3
                try clear p363
                try clear p364
                try clear p365
                try clear p366
                try clear p368
                try clear p369
                try clear p370
                try clear p371
                try clear p6
                try clear q3
                try clear q363
                try clear q364
                try clear q365
                try clear q366
                try clear q368
                try clear q369
                try clear q370
                try clear q371
                obtain ⟨x10_4, x11_4, rfl, rfl, HA, HK4, BK361, HB⟩ := hrel
                cases gk with
                | zero => exact absurd HA.out (by simp [gr6_CheckLoop.l4])
                | succ k4 =>
                 have H := HA.out
                 clear HA
                 simp only [gr6_CheckLoop.l4] at H
                 by_cases c38 : x11_4 < (l0_1.length : Int)
                 ·rw [if_pos c38] at H
                  have c38b0 : decide (x11_4 < (l0_1.length : Int)) = true := decide_eq_true c38
                  clear c38
                  by_cases c39 : 0 ≤ x11_4
                  ·rw [if_pos c39] at H
                   have c39b0 : decide (0 ≤ x11_4) = true := decide_eq_true c39
                   clear c39
                   by_cases c40 : 0 ≤ x9_3
                   ·rw [if_pos c40] at H
                    have c40b0 : decide (0 ≤ x9_3) = true := decide_eq_true c40
                    clear c40
                    by_cases c41 : x9_3 < ((rd_L2 l0_1 x11_4).length : Int)
                    ·rw [if_pos c41] at H
                     have c41b0 : decide (x9_3 < ((rd_L2 l0_1 x11_4).length : Int)) = true := decide_eq_true c41
                     clear c41
                     replace H := Option.bind_eq_some_iff.mp H
                     obtain ⟨t375, A420, H⟩ := H
                     replace H : (gr6_CheckLoop.l4 k4 x9_3 (wrap64 (x10_4 + t375)) (wrap64 (x11_4 + 1)) l0_0 l0_1) = some (r1, r2) := H
                     have A42 := Asd.mk A420
                     clear A420
                     have H' := Asd.mk H
                     clear H
                     have hcz43_0 : wr.cell? ⟨gb361, 0, none⟩ = some (.slice (some ad368) l0_0.length c0_0) := (blk_cell BK361.out 0).trans rfl
                     have hcz43_1 : wr.cell? ⟨gb361, 1, none⟩ = some (.slice A0_1 l0_1.length c0_1) := (blk_cell BK361.out 1).trans rfl
                     have hfz43_0 := blk_frozen BK361.out 0
                     have hfz43_1 := blk_frozen BK361.out 1
                     have p373 : 0 ≤ (x11_4 : Int) := of_decide_eq_true (by first | (with_reducible assumption) | assumption)
                     have q373 : x11_4 < (l0_1.length : Int) := of_decide_eq_true (by first | (with_reducible assumption) | assumption)
                     obtain ⟨ad373, A373_0, c373_0, e373, hx373_0, hl373_0, hi373_0⟩ := at_L2 HR0_1.out x11_4 p373 q373
                     cases e373
                     replace hx373_0 := (HB.out.cell (World.block_lt_of_cell? w _ hx373_0)).trans hx373_0
                     have HR373_0 := Asd.mk hi373_0
                     have HC373_0 := Asd.mk hl373_0
                     clear hi373_0 hl373_0
                     replace p373 := eq_true p373
                     replace q373 := eq_true q373
                     have p374 : 0 ≤ (x9_3 : Int) := of_decide_eq_true (by first | (with_reducible assumption) | assumption)
                     have q374 : x9_3 < ((rd_L2 l0_1 x11_4).length : Int) := of_decide_eq_true (by first | (with_reducible assumption) | assumption)
                     obtain ⟨ad374, e374, hx374_0⟩ := Kd.at_int HR373_0.out x9_3 p374 q374
                     cases e374
                     replace hx374_0 := (HB.out.cell (World.block_lt_of_cell? w _ hx374_0)).trans hx374_0
                     replace p374 := eq_true p374
                     replace q374 := eq_true q374
                     go_wp2_with (first | (go_at_call 82; (with_reducible refine (gba_Size.calls (rd (rd_L2 l0_1 x11_4) x9_3) t375 _ A42.out).mono ?_); rintro e w44 ⟨rfl, hb⟩; have n0_ := Asd.mk (blk_below (g := gb361) (o := .cells #[.slice (some ad368) l0_0.length c0_0, .slice (some ad373) l0_1.length c0_1] 63 (0, 0)) (by (with_reducible repeat (first | refine blk_drewN ?_ _ | refine blk_drew ?_ | refine blk_alloc ?_ _)); exact BK361.out) hb); have n1_ := Asd.mk (below_step (by repeat (first | (with_reducible first | exact HB.out | apply below_alloc | apply pbN | apply bd1 | refine below_set ?_ GE361.out) | exact HB.out)) hb); clear BK361; clear HB; have BK361 := n0_; have HB := n1_; clear n0_ n1_; (try clear hb); (try clear hb2); (try clear hk); (try clear hi)))
                     repeat (go_quiet (first | (go_at_call 82; (with_reducible refine (gba_Size.calls (rd (rd_L2 l0_1 x11_4) x9_3) t375 _ A42.out).mono ?_); rintro e w44 ⟨rfl, hb⟩; have n0_ := Asd.mk (blk_below (g := gb361) (o := .cells #[.slice (some ad368) l0_0.length c0_0, .slice (some ad373) l0_1.length c0_1] 63 (0, 0)) (by (with_reducible repeat (first | refine blk_drewN ?_ _ | refine blk_drew ?_ | refine blk_alloc ?_ _)); exact BK361.out) hb); have n1_ := Asd.mk (below_step (by repeat (first | (with_reducible first | exact HB.out | apply below_alloc | apply pbN | apply bd1 | refine below_set ?_ GE361.out) | exact HB.out)) hb); clear BK361; clear HB; have BK361 := n0_; have HB := n1_; clear n0_ n1_; (try clear hb); (try clear hb2); (try clear hk); (try clear hi))); try go_wp2_with (first | (go_at_call 82; (with_reducible refine (gba_Size.calls (rd (rd_L2 l0_1 x11_4) x9_3) t375 _ A42.out).mono ?_); rintro e w44 ⟨rfl, hb⟩; have n0_ := Asd.mk (blk_below (g := gb361) (o := .cells #[.slice (some ad368) l0_0.length c0_0, .slice (some ad373) l0_1.length c0_1] 63 (0, 0)) (by (with_reducible repeat (first | refine blk_drewN ?_ _ | refine blk_drew ?_ | refine blk_alloc ?_ _)); exact BK361.out) hb); have n1_ := Asd.mk (below_step (by repeat (first | (with_reducible first | exact HB.out | apply below_alloc | apply pbN | apply bd1 | refine below_set ?_ GE361.out) | exact HB.out)) hb); clear BK361; clear HB; have BK361 := n0_; have HB := n1_; clear n0_ n1_; (try clear hb); (try clear hb2); (try clear hk); (try clear hi))))
                     go_roundg k4
                     case measure => have := HK1.out; have := HK2.out; have := HK3.out; have := HK4.out; omega
                     case rel => exact ⟨(wrap64 (x10_4 + t375)), (wrap64 (x11_4 + 1)), (by first | rfl | (simp; done) | (simp [*]; done)), (by first | rfl | (simp; done) | (simp [*]; done)), H', ⟨by have := HK1.out; have := HK2.out; have := HK3.out; have := HK4.out; omega⟩, ⟨by (with_reducible repeat (first | refine blk_drewN ?_ _ | refine blk_drew ?_ | refine blk_alloc ?_ _)); exact BK361.out⟩, ⟨by repeat (first | (with_reducible first | exact HB.out | apply below_alloc | apply pbN | apply bd1 | refine below_set ?_ GE361.out) | exact HB.out)⟩⟩
                    ·rw [if_neg c41] at H
                     exact absurd H (by simp)
                   ·rw [if_neg c40] at H
                    exact absurd H (by simp)
                  ·rw [if_neg c39] at H
                   exact absurd H (by simp)
                 ·rw [if_neg c38] at H
                  have c38b0 : decide (x11_4 < (l0_1.length : Int)) = false := decide_eq_false c38
                  clear c38
                  by_cases c45 : x10_4 > 1000
                  ·rw [if_pos c45] at H
                   have c45b0 : decide (1000 < x10_4) = true := decide_eq_true c45
                   clear c45
                   simp only [Option.some.injEq, Prod.mk.injEq] at H
                   obtain ⟨rfl, rfl⟩ := H
                   have hcz46_0 : wr.cell? ⟨gb361, 0, none⟩ = some (.slice (some ad368) l0_0.length c0_0) := (blk_cell BK361.out 0).trans rfl
                   have hcz46_1 : wr.cell? ⟨gb361, 1, none⟩ = some (.slice A0_1 l0_1.length c0_1) := (blk_cell BK361.out 1).trans rfl
                   have hfz46_0 := blk_frozen BK361.out 0
                   have hfz46_1 := blk_frozen BK361.out 1
                   go_wp2
                   repeat (go_quiet (fail); try go_wp2)
                   go_ret2
                   exact ⟨by first | rfl | (simp [errW_none, errW_some] <;> rfl) | (simp [*, errW_none, errW_some] <;> rfl), by repeat (first | (with_reducible first | exact HB.out | apply below_alloc | apply pbN | apply bd1 | refine below_set ?_ GE361.out) | exact HB.out)⟩
                  ·rw [if_neg c45] at H
                   have c45b0 : decide (1000 < x10_4) = false := decide_eq_false c45
                   clear c45
                   have H' := Asd.mk H
                   clear H
                   have hcz47_0 : wr.cell? ⟨gb361, 0, none⟩ = some (.slice (some ad368) l0_0.length c0_0) := (blk_cell BK361.out 0).trans rfl
                   have hcz47_1 : wr.cell? ⟨gb361, 1, none⟩ = some (.slice A0_1 l0_1.length c0_1) := (blk_cell BK361.out 1).trans rfl
                   have hfz47_0 := blk_frozen BK361.out 0
                   have hfz47_1 := blk_frozen BK361.out 1
                   go_wp2
                   repeat (go_quiet (fail); try go_wp2)
                   go_roundg k4
                   case measure => have := HK1.out; have := HK2.out; have := HK3.out; have := HK4.out; omega
                   case rel => exact ⟨(wrap64 (x9_3 + 1)), (by first | rfl | (simp; done) | (simp [*]; done)), H', ⟨by have := HK1.out; have := HK2.out; have := HK3.out; have := HK4.out; omega⟩, ⟨by (with_reducible repeat (first | refine blk_drewN ?_ _ | refine blk_drew ?_ | refine blk_alloc ?_ _)); exact BK361.out⟩, ⟨by repeat (first | (with_reducible first | exact HB.out | apply below_alloc | apply pbN | apply bd1 | refine below_set ?_ GE361.out) | exact HB.out)⟩⟩
              ·rw [if_neg c34] at H
               exact absurd H (by simp)
             ·rw [if_neg c33] at H
              have c33b0 : decide (x9_3 < (l0_0.length : Int)) = false := decide_eq_false c33
              clear c33
              simp only [Option.some.injEq, Prod.mk.injEq] at H
              obtain ⟨rfl, rfl⟩ := H
              have hcz48_0 : wr.cell? ⟨gb361, 0, none⟩ = some (.slice (some ad368) l0_0.length c0_0) := (blk_cell BK361.out 0).trans rfl
              have hcz48_1 : wr.cell? ⟨gb361, 1, none⟩ = some (.slice A0_1 l0_1.length c0_1) := (blk_cell BK361.out 1).trans rfl
              have hfz48_0 := blk_frozen BK361.out 0
              have hfz48_1 := blk_frozen BK361.out 1
              go_wp2
              repeat (go_quiet (fail); try go_wp2)
              go_ret2
              exact ⟨by first | rfl | (simp [errW_none, errW_some] <;> rfl) | (simp [*, errW_none, errW_some] <;> rfl), by repeat (first | (with_reducible first | exact HB.out | apply below_alloc | apply pbN | apply bd1 | refine below_set ?_ GE361.out) | exact HB.out)⟩
      ·rw [if_neg c23] at H
       exact absurd H (by simp)
 ·rw [if_neg c3] at H
  have c3b0 : (t362 == 0) = false := beq_eq_false_iff_ne.mpr c3
  have c3b1 : (t362 != 0) = true := bne_iff_ne.mpr c3
  simp only [Option.some.injEq, Prod.mk.injEq] at H
  obtain ⟨rfl, rfl⟩ := H
  go_enter Tryz.func43, Tryz.ntmps43
  go_wp2_with (first | ((with_reducible refine gate_dst (N := 1) rfl ?_); refine box_event ?hg (N := 1) ?hd (cs := #[.slice A0_0 l0_0.length c0_0, .slice A0_1 l0_1.length c0_1]) (t := 63) ?hr ?_; (case hd => rfl); (case hg => rfl); (case hr => first | (go_simp; done) | (go_simp; rfl)); intro gb361 hg w49 hbox hb; have n0_ := Asd.mk (below_step (by repeat (first | (with_reducible first | exact HB.out | apply below_alloc | apply pbN | apply bd1) | exact HB.out)) hb); have n1_ := Asd.mk (hbox); have n2_ := Asd.mk ((by rw [hg]; exact (below_size (by repeat (first | (with_reducible first | exact HB.out | apply below_alloc | apply pbN | apply bd1) | exact HB.out))) : w.heap.size ≤ gb361)); have n3_ := Asd.mk ((by rw [hg]; exact (below_size (by repeat (first | (with_reducible first | exact HB.out | apply below_alloc | apply pbN | apply bd1) | exact HB.out))) : w.heap.size ≤ gb361)); clear HB; have HB := n0_; have BK361 := n1_; have GW361 := n2_; have GE361 := n3_; clear n0_ n1_ n2_ n3_; clear hb hbox hg; have hcz50_0 : w49.cell? ⟨gb361, 0, none⟩ = some (.slice A0_0 l0_0.length c0_0) := (blk_cell BK361.out 0).trans rfl; have hcz50_1 : w49.cell? ⟨gb361, 1, none⟩ = some (.slice A0_1 l0_1.length c0_1) := (blk_cell BK361.out 1).trans rfl; have hfz50_0 := blk_frozen BK361.out 0; have hfz50_1 := blk_frozen BK361.out 1) | (go_at_call 21; (with_reducible refine (gr6_PolynomialErr.calls k _ _ l0_0 t362 _ ?side1 ?side2 A2.out).mono ?_); (case side1 => repeat (first | exact (Kd.C_below HR0_0.out HB.out) | (with_reducible refine Kd.C_alloc ?_ _) | (with_reducible refine Kd.C_drewN ?_ _) | (with_reducible refine Kd.C_drew ?_))); (case side2 => exact HC0_0.out); rintro e w' ⟨rfl, ⟨nd, rfl⟩⟩; (try first | exact ⟨rfl, _, World.drewN_drewN _ _ _⟩ | exact ⟨rfl, _, Eq.trans (World.drewN_drewN _ _ _) (congrArg (World.drewN _) (Nat.add_assoc _ _ _))⟩)))
  repeat (go_quiet (first | ((with_reducible refine gate_dst (N := 1) rfl ?_); refine box_event ?hg (N := 1) ?hd (cs := #[.slice A0_0 l0_0.length c0_0, .slice A0_1 l0_1.length c0_1]) (t := 63) ?hr ?_; (case hd => rfl); (case hg => rfl); (case hr => first | (go_simp; done) | (go_simp; rfl)); intro gb361 hg w49 hbox hb; have n0_ := Asd.mk (below_step (by repeat (first | (with_reducible first | exact HB.out | apply below_alloc | apply pbN | apply bd1) | exact HB.out)) hb); have n1_ := Asd.mk (hbox); have n2_ := Asd.mk ((by rw [hg]; exact (below_size (by repeat (first | (with_reducible first | exact HB.out | apply below_alloc | apply pbN | apply bd1) | exact HB.out))) : w.heap.size ≤ gb361)); have n3_ := Asd.mk ((by rw [hg]; exact (below_size (by repeat (first | (with_reducible first | exact HB.out | apply below_alloc | apply pbN | apply bd1) | exact HB.out))) : w.heap.size ≤ gb361)); clear HB; have HB := n0_; have BK361 := n1_; have GW361 := n2_; have GE361 := n3_; clear n0_ n1_ n2_ n3_; clear hb hbox hg; have hcz50_0 : w49.cell? ⟨gb361, 0, none⟩ = some (.slice A0_0 l0_0.length c0_0) := (blk_cell BK361.out 0).trans rfl; have hcz50_1 : w49.cell? ⟨gb361, 1, none⟩ = some (.slice A0_1 l0_1.length c0_1) := (blk_cell BK361.out 1).trans rfl; have hfz50_0 := blk_frozen BK361.out 0; have hfz50_1 := blk_frozen BK361.out 1) | (go_at_call 21; (with_reducible refine (gr6_PolynomialErr.calls k _ _ l0_0 t362 _ ?side1 ?side2 A2.out).mono ?_); (case side1 => repeat (first | exact (Kd.C_below HR0_0.out HB.out) | (with_reducible refine Kd.C_alloc ?_ _) | (with_reducible refine Kd.C_drewN ?_ _) | (with_reducible refine Kd.C_drew ?_))); (case side2 => exact HC0_0.out); rintro e w' ⟨rfl, ⟨nd, rfl⟩⟩; (try first | exact ⟨rfl, _, World.drewN_drewN _ _ _⟩ | exact ⟨rfl, _, Eq.trans (World.drewN_drewN _ _ _) (congrArg (World.drewN _) (Nat.add_assoc _ _ _))⟩))); try go_wp2_with (first | ((with_reducible refine gate_dst (N := 1) rfl ?_); refine box_event ?hg (N := 1) ?hd (cs := #[.slice A0_0 l0_0.length c0_0, .slice A0_1 l0_1.length c0_1]) (t := 63) ?hr ?_; (case hd => rfl); (case hg => rfl); (case hr => first | (go_simp; done) | (go_simp; rfl)); intro gb361 hg w49 hbox hb; have n0_ := Asd.mk (below_step (by repeat (first | (with_reducible first | exact HB.out | apply below_alloc | apply pbN | apply bd1) | exact HB.out)) hb); have n1_ := Asd.mk (hbox); have n2_ := Asd.mk ((by rw [hg]; exact (below_size (by repeat (first | (with_reducible first | exact HB.out | apply below_alloc | apply pbN | apply bd1) | exact HB.out))) : w.heap.size ≤ gb361)); have n3_ := Asd.mk ((by rw [hg]; exact (below_size (by repeat (first | (with_reducible first | exact HB.out | apply below_alloc | apply pbN | apply bd1) | exact HB.out))) : w.heap.size ≤ gb361)); clear HB; have HB := n0_; have BK361 := n1_; have GW361 := n2_; have GE361 := n3_; clear n0_ n1_ n2_ n3_; clear hb hbox hg; have hcz50_0 : w49.cell? ⟨gb361, 0, none⟩ = some (.slice A0_0 l0_0.length c0_0) := (blk_cell BK361.out 0).trans rfl; have hcz50_1 : w49.cell? ⟨gb361, 1, none⟩ = some (.slice A0_1 l0_1.length c0_1) := (blk_cell BK361.out 1).trans rfl; have hfz50_0 := blk_frozen BK361.out 0; have hfz50_1 := blk_frozen BK361.out 1) | (go_at_call 21; (with_reducible refine (gr6_PolynomialErr.calls k _ _ l0_0 t362 _ ?side1 ?side2 A2.out).mono ?_); (case side1 => repeat (first | exact (Kd.C_below HR0_0.out HB.out) | (with_reducible refine Kd.C_alloc ?_ _) | (with_reducible refine Kd.C_drewN ?_ _) | (with_reducible refine Kd.C_drew ?_))); (case side2 => exact HC0_0.out); rintro e w' ⟨rfl, ⟨nd, rfl⟩⟩; (try first | exact ⟨rfl, _, World.drewN_drewN _ _ _⟩ | exact ⟨rfl, _, Eq.trans (World.drewN_drewN _ _ _) (congrArg (World.drewN _) (Nat.add_assoc _ _ _))⟩))))
  go_ret2
  exact ⟨by first | rfl | (simp [errW_none, errW_some] <;> rfl) | (simp [*, errW_none, errW_some] <;> rfl), by repeat (first | (with_reducible first | exact HB.out | apply below_alloc | apply pbN | apply bd1 | refine below_set ?_ GE361.out) | exact HB.out)⟩
end Go.Proofs.YtmpondcccbmlhaaGreat.Q
