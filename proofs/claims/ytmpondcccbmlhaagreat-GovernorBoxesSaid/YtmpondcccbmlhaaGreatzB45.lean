/- A part of the claim B: the texts Q26, Rst, PuBox, without what the claim does not lean on. -/
import Derived.ArgAppend
import Derived.Below
import Derived.BigQuiet
import Derived.Deep.AppendLies
import Derived.Deep.CutBlock
import Derived.Deep.DeepCutAuto
import Derived.Deep.Draws
import Derived.Deep.LoopGhost
import Derived.Deep.OwnRows
import Derived.Deep.QuietTactic
import Derived.Deep.RegionHeld3
import Derived.Deep.RegionWith
import Derived.Deep.WholeRow
import Derived.Ground.SlsfProg
import Derived.KernelRfl
import Derived.Laws.BitsLemmas
import Derived.Laws.BytesArg
import Derived.Laws.ComplexArith
import Derived.Laws.IdiomCopy
import Derived.Laws.MakeOwn
import Derived.Laws.OwnMore
import Derived.Laws.Rows
import Derived.Laws.Slices
import Derived.Laws.StructEq
import Derived.Lib.AppendStr
import Derived.Lib.ConvBytes
import Derived.Lib.Hide
import Derived.Lib.LazyBuf
import Derived.LoopIn
import Derived.LoopNIn
import Derived.Maps.AppendAt
import Derived.OrdersHeld
import Derived.Outline
import Derived.OwnWalk
import Derived.OwnWalkIn
import Derived.RangeFuncBound
import Derived.RangeFuncCalls
import Derived.RangeFuncLeaves
import Derived.RangeFuncNested
import Derived.RowKit
import Derived.RowKit3
import Derived.Shelf.Abstract
import Derived.Shelf.RegionOpen
import Derived.Shelf.SlSortCmp.HeapSort1
import Derived.Shelf.SlSortCmp.Insertion
import Derived.Shelf.SlSortCmp.Insertion1
import Derived.Shelf.SlSortCmp.Median1
import Derived.Shelf.SlSortCmp.PartialInsertion1
import Derived.Shelf.SlSortCmp.Partition1
import Derived.Shelf.SlSortCmp.PartitionEqual1
import Derived.Shelf.SlSortCmp.Pdq1
import Derived.Shelf.SlSortCmp.Pivot1
import Derived.Shelf.SlSortCmp.ReverseRange1
import Derived.Shelf.SlSortCmp.SiftDown1
import Derived.Shelf.SlSortCmp.Whole1
import Derived.Shelf.Slices.Empties2
import Derived.Shelf.Slices.Equal
import Derived.Shelf.Slices.In.SortNone
import Derived.Shelf.Small.Bits
import Derived.Shelf.Sort.Plain
import Derived.Shelf.Strconv.Itoa0
import Derived.Sort.CutIn
import Derived.Tactics
import Derived.TacticsInMore
import Derived.WalkKit
import Derived.WalkLawsBesides
import Derived.WideLaws
import Derived.Test.YtmpondcccbmlhaaGreatProg
import Derived.Test.YtmpondcccbmlhaaGreatzB0
import Derived.Test.YtmpondcccbmlhaaGreatzB1
import Derived.Test.YtmpondcccbmlhaaGreatzB2
import Derived.Test.YtmpondcccbmlhaaGreatzB3
import Derived.Test.YtmpondcccbmlhaaGreatzB4
import Derived.Test.YtmpondcccbmlhaaGreatzB5
import Derived.Test.YtmpondcccbmlhaaGreatzB6
import Derived.Test.YtmpondcccbmlhaaGreatzB7
import Derived.Test.YtmpondcccbmlhaaGreatzB8
import Derived.Test.YtmpondcccbmlhaaGreatzB9
import Derived.Test.YtmpondcccbmlhaaGreatzB11
import Derived.Test.YtmpondcccbmlhaaGreatzB12
import Derived.Test.YtmpondcccbmlhaaGreatzB13
import Derived.Test.YtmpondcccbmlhaaGreatzB14
import Derived.Test.YtmpondcccbmlhaaGreatzB15
import Derived.Test.YtmpondcccbmlhaaGreatzB16
import Derived.Test.YtmpondcccbmlhaaGreatzB17
import Derived.Test.YtmpondcccbmlhaaGreatzB18
import Derived.Test.YtmpondcccbmlhaaGreatzB19
import Derived.Test.YtmpondcccbmlhaaGreatzB20
import Derived.Test.YtmpondcccbmlhaaGreatzB21
import Derived.Test.YtmpondcccbmlhaaGreatzB22
import Derived.Test.YtmpondcccbmlhaaGreatzB23
import Derived.Test.YtmpondcccbmlhaaGreatzB24
import Derived.Test.YtmpondcccbmlhaaGreatzB25
import Derived.Test.YtmpondcccbmlhaaGreatzB26
import Derived.Test.YtmpondcccbmlhaaGreatzB27
import Derived.Test.YtmpondcccbmlhaaGreatzB28
import Derived.Test.YtmpondcccbmlhaaGreatzB29
import Derived.Test.YtmpondcccbmlhaaGreatzB30
import Derived.Test.YtmpondcccbmlhaaGreatzB31
import Derived.Test.YtmpondcccbmlhaaGreatzB32
import Derived.Test.YtmpondcccbmlhaaGreatzB33
import Derived.Test.YtmpondcccbmlhaaGreatzB34
import Derived.Test.YtmpondcccbmlhaaGreatzB35
import Derived.Test.YtmpondcccbmlhaaGreatzB36
import Derived.Test.YtmpondcccbmlhaaGreatzB37
import Derived.Test.YtmpondcccbmlhaaGreatzB38
import Derived.Test.YtmpondcccbmlhaaGreatzB39
import Derived.Test.YtmpondcccbmlhaaGreatzB40
import Derived.Test.YtmpondcccbmlhaaGreatzB41
import Derived.Test.YtmpondcccbmlhaaGreatzB42
import Derived.Test.YtmpondcccbmlhaaGreatzB43
import Derived.Test.YtmpondcccbmlhaaGreatzB44
namespace Go.Proofs.YtmpondcccbmlhaaGreat.Q
open Go.RowKit Go.Proofs.YtmpondcccbmlhaaGreatW.PrintWords Go.Proofs.YtmpondcccbmlhaaGreatW.PrintLast Go.Proofs.YtmpondcccbmlhaaGreatW.PrintMore
attribute [local go_sem] max2_int min2_int max_two min_two max_three min_three max_four min_four   
set_option linter.unusedVariables false
set_option linter.unusedSimpArgs false
open Go.Proofs.YtmpondcccbmlhaaGreat.Ext
def guidevaneref06_Stable.f (l0 : List Int) : Option (Bool) := (guidevaneref06_Table.f l0).bind fun t237 => (if (t237.length : Int) = (l0.length : Int) then (if 0 ≤ (wrap64 ((t237.length : Int) - 1)) then (if (wrap64 ((t237.length : Int) - 1)) < (t237.length : Int) then (if 0 < ((rd_L2 t237 (wrap64 ((t237.length : Int) - 1))).length : Int) then (some (decide ((rd (rd_L2 t237 (wrap64 ((t237.length : Int) - 1))) 0) > 0))) else (none)) else (none)) else (none)) else (some false))
set_option maxHeartbeats 8000000 in
set_option maxRecDepth 100000 in
theorem guidevaneref06_Stable.calls (A0 : Option Addr) (c0 : Nat) (l0 : List Int) (r : Bool) (w : World) (hr0 : Kd.C (Kd.int .i64) w A0 l0.length l0) (hc0 : l0.length ≤ c0) (h : guidevaneref06_Stable.f l0 = some r) :
    Calls Tryz.prog 67 #[.slice A0 l0.length c0] w fun e w' => e = .returned (.bool r) ∧ Below w.heap.size w w' := by
  have HR0 := Aside0.mk hr0
  have HC0 := Aside0.mk hc0
  clear hr0 hc0
  have HB := Aside0.mk (Below.refl w.heap.size w)
  have H : ((guidevaneref06_Table.f l0).bind fun t237 => (if (t237.length : Int) = (l0.length : Int) then (if 0 ≤ (wrap64 ((t237.length : Int) - 1)) then (if (wrap64 ((t237.length : Int) - 1)) < (t237.length : Int) then (if 0 < ((rd_L2 t237 (wrap64 ((t237.length : Int) - 1))).length : Int) then (some (decide ((rd (rd_L2 t237 (wrap64 ((t237.length : Int) - 1))) 0) > 0))) else (none)) else (none)) else (none)) else (some false))) = some r := h
  clear h
  replace H := Option.bind_eq_some_iff.mp H
  obtain ⟨t237, A20, H⟩ := H
  replace H : (if (t237.length : Int) = (l0.length : Int) then (if 0 ≤ (wrap64 ((t237.length : Int) - 1)) then (if (wrap64 ((t237.length : Int) - 1)) < (t237.length : Int) then (if 0 < ((rd_L2 t237 (wrap64 ((t237.length : Int) - 1))).length : Int) then (some (decide ((rd (rd_L2 t237 (wrap64 ((t237.length : Int) - 1))) 0) > 0))) else (none)) else (none)) else (none)) else (some false)) = some r := H
  have A2 := Aside0.mk A20
  clear A20
  by_cases c3 : (t237.length : Int) = (l0.length : Int)
  · rw [if_pos c3] at H
    have c3b0 : ((t237.length : Int) == (l0.length : Int)) = true := beq_iff_eq.mpr c3
    have c3b1 : ((t237.length : Int) != (l0.length : Int)) = false := bne_eq_false_iff_eq.mpr c3
    have c3b2 : (t237.length == l0.length) = true := by first | simpa using c3 | (simp at c3 ⊢; omega)
    clear c3
    obtain ⟨ji4, hji4⟩ : ∃ j_ : Int, (wrap64 ((t237.length : Int) - 1)) = j_ := ⟨_, rfl⟩
    replace H : (if 0 ≤ (ji4) then (if (ji4) < (t237.length : Int) then (if 0 < ((rd_L2 t237 (ji4)).length : Int) then (some (decide ((rd (rd_L2 t237 (ji4)) 0) > 0))) else (none)) else (none)) else (none)) = some r := by first | (rw [hji4] at H; exact H) | (simp only [hji4] at H ⊢; exact H)
    (try rw [hji4] at A2)
    have hji4w : (IntKind.i64.wrap ((t237.length : Int) - 1)) = ji4 := (i64_w _).trans hji4
    by_cases c5 : 0 ≤ (ji4)
    · rw [if_pos c5] at H
      have c5b0 : decide (0 ≤ (ji4)) = true := decide_eq_true c5
      clear c5
      by_cases c6 : (ji4) < (t237.length : Int)
      · rw [if_pos c6] at H
        have c6b0 : decide ((ji4) < (t237.length : Int)) = true := decide_eq_true c6
        clear c6
        by_cases c7 : 0 < ((rd_L2 t237 (ji4)).length : Int)
        · rw [if_pos c7] at H
          have c7b0 : decide (0 < ((rd_L2 t237 (ji4)).length : Int)) = true := decide_eq_true c7
          have c7b1 : decide (0 < (rd_L2 t237 (ji4)).length) = true := decide_eq_true (by omega)
          clear c7
          obtain rfl := Option.some.inj H
          go_enter Tryz.func67, Tryz.ntmps67
          go_wp2_with (first | ((with_reducible refine gate_callee (f := 66) rfl ?_); refine goesL_ (some 5) rfl rfl Tryz.func66 (by kernel_rfl) rfl #[.slice A0 l0.length c0] rfl (by (try simp only [List.map_toArray, List.map_cons, List.map_nil]); first | done | rfl | (simp only [List.length_drop, List.length_take]; rfl)) ?_; (with_reducible refine (guidevaneref06_Table.calls _ _ l0 t237 _ ?side1 ?side2 A2.out).mono ?_); (case side1 => repeat (first | exact HR0.out | (with_reducible refine Kd.C_alloc ?_ _) | (with_reducible refine Kd.C_drewN ?_ _) | (with_reducible refine Kd.C_drew ?_))); (case side2 => exact HC0.out); rintro e w8 ⟨v238, rfl, ho0, hb⟩; refine ⟨_, rfl, ?_⟩; have n0_ := Aside0.mk (Kd.N_lower (Kd.N_mono (ok' := fun k_ => True) ho0 (fun k_ hk_ => trivial)) (below_size (by repeat (first | (with_reducible first | exact HB.out | apply below_alloc | apply pw_below_drewN | apply below_drew1) | exact HB.out)))); have n1_ := Aside0.mk (below_step (by repeat (first | (with_reducible first | exact HB.out | apply below_alloc | apply pw_below_drewN | apply below_drew1) | exact HB.out)) hb); clear HB; have HO239 := n0_; have HB := n1_; clear n0_ n1_; (try clear hb); (try clear hb2); (try clear hk); (try clear hi); (try clear ho0); obtain ⟨Ao9, co9, eo9⟩ := Kd.N_slice HO239.out; subst eo9; have p240 : 0 ≤ ((ji4) : Int) := of_decide_eq_true (by first | (with_reducible assumption) | assumption); have q240 : (ji4) < (t237.length : Int) := of_decide_eq_true (by first | (with_reducible assumption) | assumption); obtain ⟨ad240, A240_0, c240_0, e240, hx240_0, hl240_0, hi240_0⟩ := at_L2 (Kd.N_reads' HO239.out).2.2 (ji4) p240 q240; cases e240; obtain ⟨ce240, hce240, hMe240, hcc240⟩ := Kd.N_get HO239.out [] (ji4) p240 (by first | exact q240 | exact of_decide_eq_true (by first | (with_reducible assumption) | assumption) | (have e_ := (Kd.N_reads' HO239.out).1; omega)); obtain ⟨ua240_0, uc240_0, rfl, ul240_0, ge240_0⟩ := Kd.FK_slice_open hMe240; have hv240_0 := hcc240 0 _ rfl; rw [Nat.add_zero, show ((Kd.slice 3 (Kd.int .i64))).sz = 1 from rfl, Nat.mul_one] at hv240_0; replace hv240_0 := Option.some.inj (hv240_0.symm.trans hx240_0); injection hv240_0 with hva_ hvn_ hvc_; rw [hva_] at ge240_0; rw [hvc_] at ul240_0; have HL240_0 := Aside0.mk (show Kd.V (Kd.int .i64) 3 _ w.heap.size _ _ (rd_L2 t237 (ji4)) from Kd.V_mk ul240_0 ge240_0); clear hva_ hvn_ hvc_ ge240_0 ul240_0; clear hcc240 hce240; have HR240_0 := Aside0.mk hi240_0; have HC240_0 := Aside0.mk hl240_0; clear hi240_0 hl240_0; replace p240 := eq_true p240; replace q240 := eq_true q240; have p241 : 0 ≤ (0 : Int) := (by omega); have q241 : 0 < ((rd_L2 t237 (ji4)).length : Int) := of_decide_eq_true (by first | (with_reducible assumption) | assumption); obtain ⟨ad241, e241, hx241_0⟩ := Kd.at_int (by repeat (first | (with_reducible exact HR240_0.out) | (with_reducible refine Kd.C_alloc ?_ _) | (with_reducible refine Kd.C_drewN ?_ _) | (with_reducible refine Kd.C_drew ?_) | exact HR240_0.out)) 0 p241 q241; cases e241; have qi241 : (0 < (rd_L2 t237 (ji4)).length) = True := eq_true (by omega); (try rw [show ((0 : Int)).toNat = 0 from rfl] at hx241_0); (try rw [Addr.add_zero'] at hx241_0); replace p241 := eq_true p241; replace q241 := eq_true q241))
          go_ret
          exact ⟨by first | rfl | (simp [errW_none, errW_some] <;> rfl) | (simp only [← hji4]; first | rfl | (simp [errW_none, errW_some] <;> rfl)) | (simp [*, errW_none, errW_some] <;> rfl), by repeat (first | (with_reducible first | exact HB.out | apply below_alloc | apply pw_below_drewN | apply below_drew1) | exact HB.out)⟩
        · rw [if_neg c7] at H
          exact absurd H (by simp)
      · rw [if_neg c6] at H
        exact absurd H (by simp)
    · rw [if_neg c5] at H
      exact absurd H (by simp)
  · rw [if_neg c3] at H
    have c3b0 : ((t237.length : Int) == (l0.length : Int)) = false := beq_eq_false_iff_ne.mpr c3
    have c3b1 : ((t237.length : Int) != (l0.length : Int)) = true := bne_iff_ne.mpr c3
    have c3b2 : (t237.length == l0.length) = false := by first | simpa using c3 | (simp at c3 ⊢; omega)
    obtain rfl := Option.some.inj H
    go_enter Tryz.func67, Tryz.ntmps67
    go_wp2_with (first | ((with_reducible refine gate_callee (f := 66) rfl ?_); refine goesL_ (some 5) rfl rfl Tryz.func66 (by kernel_rfl) rfl #[.slice A0 l0.length c0] rfl (by (try simp only [List.map_toArray, List.map_cons, List.map_nil]); first | done | rfl | (simp only [List.length_drop, List.length_take]; rfl)) ?_; (with_reducible refine (guidevaneref06_Table.calls _ _ l0 t237 _ ?side1 ?side2 A2.out).mono ?_); (case side1 => repeat (first | exact HR0.out | (with_reducible refine Kd.C_alloc ?_ _) | (with_reducible refine Kd.C_drewN ?_ _) | (with_reducible refine Kd.C_drew ?_))); (case side2 => exact HC0.out); rintro e w10 ⟨v238, rfl, ho0, hb⟩; refine ⟨_, rfl, ?_⟩; have n0_ := Aside0.mk (Kd.N_lower (Kd.N_mono (ok' := fun k_ => True) ho0 (fun k_ hk_ => trivial)) (below_size (by repeat (first | (with_reducible first | exact HB.out | apply below_alloc | apply pw_below_drewN | apply below_drew1) | exact HB.out)))); have n1_ := Aside0.mk (below_step (by repeat (first | (with_reducible first | exact HB.out | apply below_alloc | apply pw_below_drewN | apply below_drew1) | exact HB.out)) hb); clear HB; have HO239 := n0_; have HB := n1_; clear n0_ n1_; (try clear hb); (try clear hb2); (try clear hk); (try clear hi); (try clear ho0); obtain ⟨Ao11, co11, eo11⟩ := Kd.N_slice HO239.out; subst eo11))
    go_ret
    exact ⟨by first | rfl | (simp [errW_none, errW_some] <;> rfl) | (simp [*, errW_none, errW_some] <;> rfl), by repeat (first | (with_reducible first | exact HB.out | apply below_alloc | apply pw_below_drewN | apply below_drew1) | exact HB.out)⟩
def guidevaneref06_Robust.l0 : Nat → List (List Int) → Int → Option (Bool)
  | 0, _, _ => none
  | k + 1, x3, x4 => if x4 < (x3.length : Int) then (if 0 ≤ x4 then ((guidevaneref06_Stable.f (rd_L2 x3 x4)).bind fun t247 => (if t247 = true then (guidevaneref06_Robust.l0 k x3 (wrap64 (x4 + 1))) else (some false))) else (none)) else (some true)
def guidevaneref06_Robust.f (k : Nat) (l0_0 : List (S58)) : Option (Bool) := (guidevaneref06_Corners.f k l0_0).bind fun t243 => (guidevaneref06_Robust.l0 k t243 0)
set_option maxHeartbeats 8000000 in
set_option maxRecDepth 100000 in
theorem guidevaneref06_Robust.calls (k : Nat) (A0_0 : Option Addr) (c0_0 : Nat) (l0_0 : List (S58)) (r : Bool) (w : World) (hr0_0 : Kd.C k58 w A0_0 l0_0.length l0_0) (hc0_0 : l0_0.length ≤ c0_0) (h : guidevaneref06_Robust.f k l0_0 = some r) :
    Calls Tryz.prog 34 #[.agg #[.slice A0_0 l0_0.length c0_0]] w fun e w' => e = .returned (.bool r) ∧ Below w.heap.size w w' := by
  have hu42 := Tryz.underlying42
  have HR0_0 := Aside0.mk hr0_0
  have HC0_0 := Aside0.mk hc0_0
  clear hr0_0 hc0_0
  have HB := Aside0.mk (Below.refl w.heap.size w)
  have H : ((guidevaneref06_Corners.f k l0_0).bind fun t243 => (guidevaneref06_Robust.l0 k t243 0)) = some r := h
  clear h
  replace H := Option.bind_eq_some_iff.mp H
  obtain ⟨t243, A20, H⟩ := H
  replace H : (guidevaneref06_Robust.l0 k t243 0) = some r := H
  have A2 := Aside0.mk A20
  clear A20
  have H' := Aside0.mk H
  clear H
  go_enter Tryz.func34, Tryz.ntmps34
  go_wp2_with (first | ((with_reducible refine gate_dst (N := 1) rfl ?_); refine box_event ?hg (N := 1) ?hd (cs := #[.slice A0_0 l0_0.length c0_0]) (t := 42) ?hr ?_; (case hd => rfl); (case hg => rfl); (case hr => first | (go_simp; done) | (go_simp; rfl)); intro gb242 hg w3 hbox hb; have n0_ := Aside0.mk (below_step (by repeat (first | (with_reducible first | exact HB.out | apply below_alloc | apply pw_below_drewN | apply below_drew1) | exact HB.out)) hb); have n1_ := Aside0.mk (hbox); have n2_ := Aside0.mk ((by rw [hg]; exact (below_size (by repeat (first | (with_reducible first | exact HB.out | apply below_alloc | apply pw_below_drewN | apply below_drew1) | exact HB.out))) : w.heap.size ≤ gb242)); have n3_ := Aside0.mk ((by rw [hg]; exact (below_size (by repeat (first | (with_reducible first | exact HB.out | apply below_alloc | apply pw_below_drewN | apply below_drew1) | exact HB.out))) : w.heap.size ≤ gb242)); clear HB; have HB := n0_; have BK242 := n1_; have GW242 := n2_; have GE242 := n3_; clear n0_ n1_ n2_ n3_; clear hb hbox hg; have hcz4_0 : w3.cell? ⟨gb242, 0, none⟩ = some (.slice A0_0 l0_0.length c0_0) := (blk_cell BK242.out 0).trans rfl; have hfz4_0 := blk_frozen BK242.out 0) | ((with_reducible refine gate_callee (f := 33) rfl ?_); refine goesL_ (some 6) rfl rfl Tryz.func33 (by kernel_rfl) rfl #[.agg #[.slice A0_0 l0_0.length c0_0]] rfl (by (try simp only [List.map_toArray, List.map_cons, List.map_nil]); first | done | rfl | (simp only [List.length_drop, List.length_take]; rfl)) ?_; (with_reducible refine (guidevaneref06_Corners.calls k _ _ l0_0 t243 _ ?side1 ?side2 A2.out).mono ?_); (case side1 => repeat (first | exact (Kd.C_below HR0_0.out HB.out) | (with_reducible refine Kd.C_alloc ?_ _) | (with_reducible refine Kd.C_drewN ?_ _) | (with_reducible refine Kd.C_drew ?_))); (case side2 => exact HC0_0.out); rintro e w5 ⟨v244, rfl, ho0, hb⟩; refine ⟨_, rfl, ?_⟩; have n0_ := Aside0.mk (Kd.N_lower (Kd.N_mono (ok' := fun k_ => k_ ≠ gb242) ho0 (fun k_ hk_ => (Kd.freshB (g := gb242) (o := .cells #[.slice A0_0 l0_0.length c0_0] 42 (0, 0)) (by (with_reducible repeat (first | refine blk_drewN ?_ _ | refine blk_drew ?_ | refine blk_alloc ?_ _)); exact BK242.out) k_ hk_))) (below_size (by repeat (first | (with_reducible first | exact HB.out | apply below_alloc | apply pw_below_drewN | apply below_drew1 | refine below_set ?_ GE242.out) | exact HB.out)))); have n1_ := Aside0.mk (blk_below (g := gb242) (o := .cells #[.slice A0_0 l0_0.length c0_0] 42 (0, 0)) (by (with_reducible repeat (first | refine blk_drewN ?_ _ | refine blk_drew ?_ | refine blk_alloc ?_ _)); exact BK242.out) hb); have n2_ := Aside0.mk (below_step (by repeat (first | (with_reducible first | exact HB.out | apply below_alloc | apply pw_below_drewN | apply below_drew1 | refine below_set ?_ GE242.out) | exact HB.out)) hb); clear BK242; clear HB; have HO245 := n0_; have BK242 := n1_; have HB := n2_; clear n0_ n1_ n2_; (try clear hb); (try clear hb2); (try clear hk); (try clear hi); (try clear ho0)))
  go_loopg [4] k (fun kq v4 w' => ∃ (x4_1 : Int), v4 = .int .i64 x4_1 ∧ Aside0 (guidevaneref06_Robust.l0 kq t243 x4_1 = some r) ∧ Aside0 (kq ≤ k) ∧ Aside0 (Kd.N (Kd.slice 3 (Kd.int .i64)) 22 w' w.heap.size (fun k_ => k_ ≠ gb242) v244 t243) ∧ Aside0 (w'.heap[gb242]? = some (.cells #[(.slice A0_0 l0_0.length c0_0)] 42 (0, 0))) ∧ Aside0 (Below w.heap.size w w'))
  case atStart => exact ⟨(0), (by first | rfl | (simp; done) | (simp [*]; done)), H', ⟨Nat.le_refl _⟩, ⟨by (with_reducible repeat (first | apply Kd.N_alloc | apply Kd.N_drewN | apply Kd.N_drew)); exact HO245.out⟩, ⟨by (with_reducible repeat (first | refine blk_drewN ?_ _ | refine blk_drew ?_ | refine blk_alloc ?_ _)); exact BK242.out⟩, ⟨by repeat (first | (with_reducible first | exact HB.out | apply below_alloc | apply pw_below_drewN | apply below_drew1 | refine below_set ?_ GE242.out) | exact HB.out)⟩⟩
  case round =>
    clear H'
    try clear p2
    try clear c3
    try clear hcz4_0
    try clear hfz4_0
    obtain ⟨x4_1, rfl, HA, HK1, HO_3, BK242, HB⟩ := hrel
    cases gk with
    | zero => exact absurd HA.out (by simp [guidevaneref06_Robust.l0])
    | succ k1 =>
      have H := HA.out
      clear HA
      simp only [guidevaneref06_Robust.l0] at H
      by_cases c6 : x4_1 < (t243.length : Int)
      · rw [if_pos c6] at H
        have c6b0 : decide (x4_1 < (t243.length : Int)) = true := decide_eq_true c6
        clear c6
        by_cases c7 : 0 ≤ x4_1
        · rw [if_pos c7] at H
          have c7b0 : decide (0 ≤ x4_1) = true := decide_eq_true c7
          clear c7
          replace H := Option.bind_eq_some_iff.mp H
          obtain ⟨t247, A80, H⟩ := H
          replace H : (if t247 = true then (guidevaneref06_Robust.l0 k1 t243 (wrap64 (x4_1 + 1))) else (some false)) = some r := H
          have A8 := Aside0.mk A80
          clear A80
          by_cases c9 : t247 = true
          · subst c9
            have H1 : (guidevaneref06_Robust.l0 k1 t243 (wrap64 (x4_1 + 1))) = some r := by rw [if_pos rfl] at H; exact H
            clear H
            have H := H1
            clear H1
            have H' := Aside0.mk H
            clear H
            obtain ⟨Ao10, co10, eo10⟩ := Kd.N_slice HO_3.out
            subst eo10
            have p246 : 0 ≤ (x4_1 : Int) := of_decide_eq_true (by first | (with_reducible assumption) | assumption)
            have q246 : x4_1 < (t243.length : Int) := of_decide_eq_true (by first | (with_reducible assumption) | assumption)
            obtain ⟨ad246, A246_0, c246_0, e246, hx246_0, hl246_0, hi246_0⟩ := at_L2 (Kd.N_reads' HO_3.out).2.2 x4_1 p246 q246
            cases e246
            obtain ⟨ce246, hce246, hMe246, hcc246⟩ := Kd.N_get HO_3.out [] x4_1 p246 (by first | exact q246 | exact of_decide_eq_true (by first | (with_reducible assumption) | assumption) | (have e_ := (Kd.N_reads' HO_3.out).1; omega))
            obtain ⟨ua246_0, uc246_0, rfl, ul246_0, ge246_0⟩ := Kd.FK_slice_open hMe246
            have hv246_0 := hcc246 0 _ rfl
            rw [Nat.add_zero, show ((Kd.slice 3 (Kd.int .i64))).sz = 1 from rfl, Nat.mul_one] at hv246_0
            replace hv246_0 := Option.some.inj (hv246_0.symm.trans hx246_0)
            injection hv246_0 with hva_ hvn_ hvc_
            rw [hva_] at ge246_0
            rw [hvc_] at ul246_0
            have HL246_0 := Aside0.mk (show Kd.V (Kd.int .i64) 3 _ w.heap.size _ _ (rd_L2 t243 x4_1) from Kd.V_mk ul246_0 ge246_0)
            clear hva_ hvn_ hvc_ ge246_0 ul246_0
            clear hcc246 hce246
            have HR246_0 := Aside0.mk hi246_0
            have HC246_0 := Aside0.mk hl246_0
            clear hi246_0 hl246_0
            replace p246 := eq_true p246
            replace q246 := eq_true q246
            go_wp2_with (first | ((with_reducible refine gate_callee (f := 67) rfl ?_); refine goesL_ (some 17) rfl rfl Tryz.func67 (by kernel_rfl) rfl #[.slice A246_0 (rd_L2 t243 x4_1).length c246_0] rfl (by (try simp only [List.map_toArray, List.map_cons, List.map_nil]); first | done | rfl | (simp only [List.length_drop, List.length_take]; rfl)) ?_; (with_reducible refine (guidevaneref06_Stable.calls _ _ (rd_L2 t243 x4_1) true _ ?side1 ?side2 A8.out).mono ?_); (case side1 => repeat (first | exact (by repeat (first | (with_reducible exact HR246_0.out) | (with_reducible refine Kd.C_alloc ?_ _) | (with_reducible refine Kd.C_drewN ?_ _) | (with_reducible refine Kd.C_drew ?_) | exact HR246_0.out)) | (with_reducible refine Kd.C_alloc ?_ _) | (with_reducible refine Kd.C_drewN ?_ _) | (with_reducible refine Kd.C_drew ?_))); (case side2 => exact HC246_0.out); rintro e w11 ⟨rfl, hb⟩; refine ⟨_, rfl, ?_⟩; have n0_ := Aside0.mk (Kd.N_below (by (with_reducible repeat (first | apply Kd.N_alloc | apply Kd.N_drewN | apply Kd.N_drew)); exact HO_3.out) hb); have n1_ := Aside0.mk (Kd.V_below (by (with_reducible repeat (first | apply Kd.V_alloc | apply Kd.V_drewN | apply Kd.V_drew)); exact HL246_0.out) hb); have n2_ := Aside0.mk (blk_below (g := gb242) (o := .cells #[.slice A0_0 l0_0.length c0_0] 42 (0, 0)) (by (with_reducible repeat (first | refine blk_drewN ?_ _ | refine blk_drew ?_ | refine blk_alloc ?_ _)); exact BK242.out) hb); have n3_ := Aside0.mk (Kd.C_below (by repeat (first | (with_reducible exact HR246_0.out) | (with_reducible refine Kd.C_alloc ?_ _) | (with_reducible refine Kd.C_drewN ?_ _) | (with_reducible refine Kd.C_drew ?_) | exact HR246_0.out)) hb); have n4_ := Aside0.mk (below_step (by repeat (first | (with_reducible first | exact HB.out | apply below_alloc | apply pw_below_drewN | apply below_drew1 | refine below_set ?_ GE242.out) | exact HB.out)) hb); clear HO_3; clear HL246_0; clear BK242; clear HR246_0; clear HB; have HO_3 := n0_; have HL246_0 := n1_; have BK242 := n2_; have HR246_0 := n3_; have HB := n4_; clear n0_ n1_ n2_ n3_ n4_; (try clear hb); (try clear hb2); (try clear hk); (try clear hi)))
            go_roundg k1
            case measure => have := HK1.out; omega
            case rel => exact ⟨(wrap64 (x4_1 + 1)), (by first | rfl | (simp; done) | (simp [*]; done)), H', ⟨by have := HK1.out; omega⟩, ⟨by (with_reducible repeat (first | apply Kd.N_alloc | apply Kd.N_drewN | apply Kd.N_drew)); exact HO_3.out⟩, ⟨by (with_reducible repeat (first | refine blk_drewN ?_ _ | refine blk_drew ?_ | refine blk_alloc ?_ _)); exact BK242.out⟩, ⟨by repeat (first | (with_reducible first | exact HB.out | apply below_alloc | apply pw_below_drewN | apply below_drew1 | refine below_set ?_ GE242.out) | exact HB.out)⟩⟩
          · replace c9 := Bool.eq_false_iff.mpr c9
            subst c9
            have H1 : (some false) = some r := by rw [if_neg (show ¬ (false = true) by decide)] at H; exact H
            clear H
            have H := H1
            clear H1
            obtain rfl := Option.some.inj H
            obtain ⟨Ao12, co12, eo12⟩ := Kd.N_slice HO_3.out
            subst eo12
            have p246 : 0 ≤ (x4_1 : Int) := of_decide_eq_true (by first | (with_reducible assumption) | assumption)
            have q246 : x4_1 < (t243.length : Int) := of_decide_eq_true (by first | (with_reducible assumption) | assumption)
            obtain ⟨ad246, A246_0, c246_0, e246, hx246_0, hl246_0, hi246_0⟩ := at_L2 (Kd.N_reads' HO_3.out).2.2 x4_1 p246 q246
            cases e246
            obtain ⟨ce246, hce246, hMe246, hcc246⟩ := Kd.N_get HO_3.out [] x4_1 p246 (by first | exact q246 | exact of_decide_eq_true (by first | (with_reducible assumption) | assumption) | (have e_ := (Kd.N_reads' HO_3.out).1; omega))
            obtain ⟨ua246_0, uc246_0, rfl, ul246_0, ge246_0⟩ := Kd.FK_slice_open hMe246
            have hv246_0 := hcc246 0 _ rfl
            rw [Nat.add_zero, show ((Kd.slice 3 (Kd.int .i64))).sz = 1 from rfl, Nat.mul_one] at hv246_0
            replace hv246_0 := Option.some.inj (hv246_0.symm.trans hx246_0)
            injection hv246_0 with hva_ hvn_ hvc_
            rw [hva_] at ge246_0
            rw [hvc_] at ul246_0
            have HL246_0 := Aside0.mk (show Kd.V (Kd.int .i64) 3 _ w.heap.size _ _ (rd_L2 t243 x4_1) from Kd.V_mk ul246_0 ge246_0)
            clear hva_ hvn_ hvc_ ge246_0 ul246_0
            clear hcc246 hce246
            have HR246_0 := Aside0.mk hi246_0
            have HC246_0 := Aside0.mk hl246_0
            clear hi246_0 hl246_0
            replace p246 := eq_true p246
            replace q246 := eq_true q246
            go_wp2_with (first | ((with_reducible refine gate_callee (f := 67) rfl ?_); refine goesL_ (some 17) rfl rfl Tryz.func67 (by kernel_rfl) rfl #[.slice A246_0 (rd_L2 t243 x4_1).length c246_0] rfl (by (try simp only [List.map_toArray, List.map_cons, List.map_nil]); first | done | rfl | (simp only [List.length_drop, List.length_take]; rfl)) ?_; (with_reducible refine (guidevaneref06_Stable.calls _ _ (rd_L2 t243 x4_1) false _ ?side1 ?side2 A8.out).mono ?_); (case side1 => repeat (first | exact (by repeat (first | (with_reducible exact HR246_0.out) | (with_reducible refine Kd.C_alloc ?_ _) | (with_reducible refine Kd.C_drewN ?_ _) | (with_reducible refine Kd.C_drew ?_) | exact HR246_0.out)) | (with_reducible refine Kd.C_alloc ?_ _) | (with_reducible refine Kd.C_drewN ?_ _) | (with_reducible refine Kd.C_drew ?_))); (case side2 => exact HC246_0.out); rintro e w13 ⟨rfl, hb⟩; refine ⟨_, rfl, ?_⟩; have n0_ := Aside0.mk (Kd.N_below (by (with_reducible repeat (first | apply Kd.N_alloc | apply Kd.N_drewN | apply Kd.N_drew)); exact HO_3.out) hb); have n1_ := Aside0.mk (Kd.V_below (by (with_reducible repeat (first | apply Kd.V_alloc | apply Kd.V_drewN | apply Kd.V_drew)); exact HL246_0.out) hb); have n2_ := Aside0.mk (blk_below (g := gb242) (o := .cells #[.slice A0_0 l0_0.length c0_0] 42 (0, 0)) (by (with_reducible repeat (first | refine blk_drewN ?_ _ | refine blk_drew ?_ | refine blk_alloc ?_ _)); exact BK242.out) hb); have n3_ := Aside0.mk (Kd.C_below (by repeat (first | (with_reducible exact HR246_0.out) | (with_reducible refine Kd.C_alloc ?_ _) | (with_reducible refine Kd.C_drewN ?_ _) | (with_reducible refine Kd.C_drew ?_) | exact HR246_0.out)) hb); have n4_ := Aside0.mk (below_step (by repeat (first | (with_reducible first | exact HB.out | apply below_alloc | apply pw_below_drewN | apply below_drew1 | refine below_set ?_ GE242.out) | exact HB.out)) hb); clear HO_3; clear HL246_0; clear BK242; clear HR246_0; clear HB; have HO_3 := n0_; have HL246_0 := n1_; have BK242 := n2_; have HR246_0 := n3_; have HB := n4_; clear n0_ n1_ n2_ n3_ n4_; (try clear hb); (try clear hb2); (try clear hk); (try clear hi)))
            go_ret
            exact ⟨by first | rfl | (simp [errW_none, errW_some] <;> rfl) | (simp [*, errW_none, errW_some] <;> rfl), by repeat (first | (with_reducible first | exact HB.out | apply below_alloc | apply pw_below_drewN | apply below_drew1 | refine below_set ?_ GE242.out) | exact HB.out)⟩
        · rw [if_neg c7] at H
          exact absurd H (by simp)
      · rw [if_neg c6] at H
        have c6b0 : decide (x4_1 < (t243.length : Int)) = false := decide_eq_false c6
        clear c6
        obtain rfl := Option.some.inj H
        obtain ⟨Ao14, co14, eo14⟩ := Kd.N_slice HO_3.out
        subst eo14
        go_wp2
        go_ret
        exact ⟨by first | rfl | (simp [errW_none, errW_some] <;> rfl) | (simp [*, errW_none, errW_some] <;> rfl), by repeat (first | (with_reducible first | exact HB.out | apply below_alloc | apply pw_below_drewN | apply below_drew1 | refine below_set ?_ GE242.out) | exact HB.out)⟩
def guidevanelaw06_GovernorBoxes.j0 : Nat → List (List Int) → Int → Bool → Int → Int → Bool → List (S58) → Option (Bool)
  | 0, _, _, _, _, _, _, _ => none
  | k + 1, x5, x6, x7, x8, x10, x47, x249000 => if x47 = true then (some false) else (if x10 = 0 then (if x6 = 0 then ((guidevaneref06_Corners.f k x249000).bind fun t269 => ((guidevanebase_Lists.f k x5 t269).bind fun t272 => (if t272 = true then (if x8 = 0 then ((guidevaneref06_Robust.f k x249000).bind fun t273 => (some (x7 == t273))) else (some false)) else (some false)))) else (some false)) else (if x6 = x10 then (if x8 = x10 then (if (x5.length : Int) = 0 then (some (!x7)) else (some false)) else (some false)) else (some false)))
def guidevanelaw06_GovernorBoxes.f (k : Nat) (l0_0 : List (S58)) : Option (Bool) := (guidevanelaw06_awake.f).bind fun t249 => (if t249 = true then (if (l0_0.length : Int) > 7 then (some true) else ((guidevaneref06_CopyBox.f l0_0).bind fun t250 => ((governor_CheckBox.f t250).bind fun bt253 => ((guidevaneref06_CopyBox.f l0_0).bind fun t255 => ((governor_CornersOf.f t255).bind fun bt258 => ((guidevaneref06_CopyBox.f l0_0).bind fun t262 => ((governor_IsRobust.f t262).bind fun bt265 => ((guidevaneref06_CheckBox.f k l0_0).bind fun bt267 => (if bt253.2 = bt267.2 then (guidevanelaw06_GovernorBoxes.j0 k bt258.1 bt258.2 bt265.1 bt265.2 bt267.2 (bt253.1 != bt267.1) l0_0) else (guidevanelaw06_GovernorBoxes.j0 k bt258.1 bt258.2 bt265.1 bt265.2 bt267.2 true l0_0)))))))))) else (some false))
set_option maxHeartbeats 8000000 in
set_option maxRecDepth 100000 in
theorem guidevanelaw06_GovernorBoxes.calls (k : Nat) (A0_0 : Option Addr) (c0_0 : Nat) (l0_0 : List (S58)) (r : Bool) (w : World) (hr0_0 : Kd.C k58 w A0_0 l0_0.length l0_0) (hc0_0 : l0_0.length ≤ c0_0) (h : guidevanelaw06_GovernorBoxes.f k l0_0 = some r) :
    Calls Tryz.prog 4 #[.agg #[.slice A0_0 l0_0.length c0_0]] w fun e w' => e = .returned (.bool r) ∧ Below w.heap.size w w' := by
  have hu42 := Tryz.underlying42
  have HR0_0 := Aside0.mk hr0_0
  have HC0_0 := Aside0.mk hc0_0
  clear hr0_0 hc0_0
  have HB := Aside0.mk (Below.refl w.heap.size w)
  have H : ((guidevanelaw06_awake.f).bind fun t249 => (if t249 = true then (if (l0_0.length : Int) > 7 then (some true) else ((guidevaneref06_CopyBox.f l0_0).bind fun t250 => ((governor_CheckBox.f t250).bind fun bt253 => ((guidevaneref06_CopyBox.f l0_0).bind fun t255 => ((governor_CornersOf.f t255).bind fun bt258 => ((guidevaneref06_CopyBox.f l0_0).bind fun t262 => ((governor_IsRobust.f t262).bind fun bt265 => ((guidevaneref06_CheckBox.f k l0_0).bind fun bt267 => (if bt253.2 = bt267.2 then (guidevanelaw06_GovernorBoxes.j0 k bt258.1 bt258.2 bt265.1 bt265.2 bt267.2 (bt253.1 != bt267.1) l0_0) else (guidevanelaw06_GovernorBoxes.j0 k bt258.1 bt258.2 bt265.1 bt265.2 bt267.2 true l0_0)))))))))) else (some false))) = some r := h
  clear h
  replace H := Option.bind_eq_some_iff.mp H
  obtain ⟨t249, A20, H⟩ := H
  replace H : (if t249 = true then (if (l0_0.length : Int) > 7 then (some true) else ((guidevaneref06_CopyBox.f l0_0).bind fun t250 => ((governor_CheckBox.f t250).bind fun bt253 => ((guidevaneref06_CopyBox.f l0_0).bind fun t255 => ((governor_CornersOf.f t255).bind fun bt258 => ((guidevaneref06_CopyBox.f l0_0).bind fun t262 => ((governor_IsRobust.f t262).bind fun bt265 => ((guidevaneref06_CheckBox.f k l0_0).bind fun bt267 => (if bt253.2 = bt267.2 then (guidevanelaw06_GovernorBoxes.j0 k bt258.1 bt258.2 bt265.1 bt265.2 bt267.2 (bt253.1 != bt267.1) l0_0) else (guidevanelaw06_GovernorBoxes.j0 k bt258.1 bt258.2 bt265.1 bt265.2 bt267.2 true l0_0)))))))))) else (some false)) = some r := H
  have A2 := Aside0.mk A20
  clear A20
  by_cases c3 : t249 = true
  · subst c3
    have H1 : (if (l0_0.length : Int) > 7 then (some true) else ((guidevaneref06_CopyBox.f l0_0).bind fun t250 => ((governor_CheckBox.f t250).bind fun bt253 => ((guidevaneref06_CopyBox.f l0_0).bind fun t255 => ((governor_CornersOf.f t255).bind fun bt258 => ((guidevaneref06_CopyBox.f l0_0).bind fun t262 => ((governor_IsRobust.f t262).bind fun bt265 => ((guidevaneref06_CheckBox.f k l0_0).bind fun bt267 => (if bt253.2 = bt267.2 then (guidevanelaw06_GovernorBoxes.j0 k bt258.1 bt258.2 bt265.1 bt265.2 bt267.2 (bt253.1 != bt267.1) l0_0) else (guidevanelaw06_GovernorBoxes.j0 k bt258.1 bt258.2 bt265.1 bt265.2 bt267.2 true l0_0)))))))))) = some r := by rw [if_pos rfl] at H; exact H
    clear H
    have H := H1
    clear H1
    by_cases c4 : (l0_0.length : Int) > 7
    · rw [if_pos c4] at H
      have c4b0 : decide (7 < (l0_0.length : Int)) = true := decide_eq_true c4
      have c4b1 : decide (7 < l0_0.length) = true := decide_eq_true (by omega)
      clear c4
      obtain rfl := Option.some.inj H
      go_enter Tryz.func4, Tryz.ntmps4
      go_wp2_with (first | ((with_reducible refine gate_dst (N := 1) rfl ?_); (try (refine gate_guard (by rfl) ?_; dsimp only)); refine box_event ?hg (N := 1) ?hd (cs := #[.slice A0_0 l0_0.length c0_0]) (t := 42) ?hr ?_; (case hd => rfl); (case hg => rfl); (case hr => first | (go_simp; done) | (go_simp; rfl)); intro gb248 hg w5 hbox hb; have n0_ := Aside0.mk (below_step (by repeat (first | (with_reducible first | exact HB.out | apply below_alloc | apply pw_below_drewN | apply below_drew1) | exact HB.out)) hb); have n1_ := Aside0.mk (hbox); have n2_ := Aside0.mk ((by rw [hg]; exact (below_size (by repeat (first | (with_reducible first | exact HB.out | apply below_alloc | apply pw_below_drewN | apply below_drew1) | exact HB.out))) : w.heap.size ≤ gb248)); have n3_ := Aside0.mk ((by rw [hg]; exact (below_size (by repeat (first | (with_reducible first | exact HB.out | apply below_alloc | apply pw_below_drewN | apply below_drew1) | exact HB.out))) : w.heap.size ≤ gb248)); clear HB; have HB := n0_; have BK248 := n1_; have GW248 := n2_; have GE248 := n3_; clear n0_ n1_ n2_ n3_; clear hb hbox hg) | ((with_reducible refine gate_callee (f := 16) rfl ?_); refine goesL_ (some 11) rfl rfl Tryz.func16 (by kernel_rfl) rfl #[] rfl (by (try simp only [List.map_toArray, List.map_cons, List.map_nil]); first | done | rfl | (simp only [List.length_drop, List.length_take]; rfl)) ?_; (with_reducible refine (guidevanelaw06_awake.calls  true _ A2.out).mono ?_); rintro e w6 ⟨rfl, hb⟩; refine ⟨_, rfl, ?_⟩; have n0_ := Aside0.mk (blk_below (g := gb248) (o := .cells #[.slice A0_0 l0_0.length c0_0] 42 (0, 0)) (by (with_reducible repeat (first | refine blk_drewN ?_ _ | refine blk_drew ?_ | refine blk_alloc ?_ _)); exact BK248.out) hb); have n1_ := Aside0.mk (below_step (by repeat (first | (with_reducible first | exact HB.out | apply below_alloc | apply pw_below_drewN | apply below_drew1 | refine below_set ?_ GE248.out) | exact HB.out)) hb); clear BK248; clear HB; have BK248 := n0_; have HB := n1_; clear n0_ n1_; (try clear hb); (try clear hb2); (try clear hk); (try clear hi); have hcz7_0 : w6.cell? ⟨gb248, 0, none⟩ = some (.slice A0_0 l0_0.length c0_0) := (blk_cell BK248.out 0).trans rfl; have hfz7_0 := blk_frozen BK248.out 0))
      go_ret
      exact ⟨by first | rfl | (simp [errW_none, errW_some] <;> rfl) | (simp [*, errW_none, errW_some] <;> rfl), by repeat (first | (with_reducible first | exact HB.out | apply below_alloc | apply pw_below_drewN | apply below_drew1 | refine below_set ?_ GE248.out) | exact HB.out)⟩
    · rw [if_neg c4] at H
      have c4b0 : decide (7 < (l0_0.length : Int)) = false := decide_eq_false c4
      have c4b1 : decide (7 < l0_0.length) = false := decide_eq_false (by omega)
      clear c4
      replace H := Option.bind_eq_some_iff.mp H
      obtain ⟨t250, A80, H⟩ := H
      replace H : ((governor_CheckBox.f t250).bind fun bt253 => ((guidevaneref06_CopyBox.f l0_0).bind fun t255 => ((governor_CornersOf.f t255).bind fun bt258 => ((guidevaneref06_CopyBox.f l0_0).bind fun t262 => ((governor_IsRobust.f t262).bind fun bt265 => ((guidevaneref06_CheckBox.f k l0_0).bind fun bt267 => (if bt253.2 = bt267.2 then (guidevanelaw06_GovernorBoxes.j0 k bt258.1 bt258.2 bt265.1 bt265.2 bt267.2 (bt253.1 != bt267.1) l0_0) else (guidevanelaw06_GovernorBoxes.j0 k bt258.1 bt258.2 bt265.1 bt265.2 bt267.2 true l0_0)))))))) = some r := H
      have A8 := Aside0.mk A80
      clear A80
      replace H := Option.bind_eq_some_iff.mp H
      obtain ⟨⟨t253, t254⟩, A90, H⟩ := H
      replace H : ((guidevaneref06_CopyBox.f l0_0).bind fun t255 => ((governor_CornersOf.f t255).bind fun bt258 => ((guidevaneref06_CopyBox.f l0_0).bind fun t262 => ((governor_IsRobust.f t262).bind fun bt265 => ((guidevaneref06_CheckBox.f k l0_0).bind fun bt267 => (if t254 = bt267.2 then (guidevanelaw06_GovernorBoxes.j0 k bt258.1 bt258.2 bt265.1 bt265.2 bt267.2 (t253 != bt267.1) l0_0) else (guidevanelaw06_GovernorBoxes.j0 k bt258.1 bt258.2 bt265.1 bt265.2 bt267.2 true l0_0))))))) = some r := H
      have A9 := Aside0.mk A90
      clear A90
      replace H := Option.bind_eq_some_iff.mp H
      obtain ⟨t255, A100, H⟩ := H
      replace H : ((governor_CornersOf.f t255).bind fun bt258 => ((guidevaneref06_CopyBox.f l0_0).bind fun t262 => ((governor_IsRobust.f t262).bind fun bt265 => ((guidevaneref06_CheckBox.f k l0_0).bind fun bt267 => (if t254 = bt267.2 then (guidevanelaw06_GovernorBoxes.j0 k bt258.1 bt258.2 bt265.1 bt265.2 bt267.2 (t253 != bt267.1) l0_0) else (guidevanelaw06_GovernorBoxes.j0 k bt258.1 bt258.2 bt265.1 bt265.2 bt267.2 true l0_0)))))) = some r := H
      have A10 := Aside0.mk A100
      clear A100
      replace H := Option.bind_eq_some_iff.mp H
      obtain ⟨⟨t258, t261⟩, A110, H⟩ := H
      replace H : ((guidevaneref06_CopyBox.f l0_0).bind fun t262 => ((governor_IsRobust.f t262).bind fun bt265 => ((guidevaneref06_CheckBox.f k l0_0).bind fun bt267 => (if t254 = bt267.2 then (guidevanelaw06_GovernorBoxes.j0 k t258 t261 bt265.1 bt265.2 bt267.2 (t253 != bt267.1) l0_0) else (guidevanelaw06_GovernorBoxes.j0 k t258 t261 bt265.1 bt265.2 bt267.2 true l0_0))))) = some r := H
      have A11 := Aside0.mk A110
      clear A110
      replace H := Option.bind_eq_some_iff.mp H
      obtain ⟨t262, A120, H⟩ := H
      replace H : ((governor_IsRobust.f t262).bind fun bt265 => ((guidevaneref06_CheckBox.f k l0_0).bind fun bt267 => (if t254 = bt267.2 then (guidevanelaw06_GovernorBoxes.j0 k t258 t261 bt265.1 bt265.2 bt267.2 (t253 != bt267.1) l0_0) else (guidevanelaw06_GovernorBoxes.j0 k t258 t261 bt265.1 bt265.2 bt267.2 true l0_0)))) = some r := H
      have A12 := Aside0.mk A120
      clear A120
      replace H := Option.bind_eq_some_iff.mp H
      obtain ⟨⟨t265, t266⟩, A130, H⟩ := H
      replace H : ((guidevaneref06_CheckBox.f k l0_0).bind fun bt267 => (if t254 = bt267.2 then (guidevanelaw06_GovernorBoxes.j0 k t258 t261 t265 t266 bt267.2 (t253 != bt267.1) l0_0) else (guidevanelaw06_GovernorBoxes.j0 k t258 t261 t265 t266 bt267.2 true l0_0))) = some r := H
      have A13 := Aside0.mk A130
      clear A130
      replace H := Option.bind_eq_some_iff.mp H
      obtain ⟨⟨t267, t268⟩, A140, H⟩ := H
      replace H : (if t254 = t268 then (guidevanelaw06_GovernorBoxes.j0 k t258 t261 t265 t266 t268 (t253 != t267) l0_0) else (guidevanelaw06_GovernorBoxes.j0 k t258 t261 t265 t266 t268 true l0_0)) = some r := H
      have A14 := Aside0.mk A140
      clear A140
      have HC15 := Aside0.mk H
      clear H
      go_enter Tryz.func4, Tryz.ntmps4
      go_upto_region 9 with (first | ((with_reducible refine gate_dst (N := 1) rfl ?_); (try (refine gate_guard (by rfl) ?_; dsimp only)); refine box_event ?hg (N := 1) ?hd (cs := #[.slice A0_0 l0_0.length c0_0]) (t := 42) ?hr ?_; (case hd => rfl); (case hg => rfl); (case hr => first | (go_simp; done) | (go_simp; rfl)); intro gb248 hg w16 hbox hb; have n0_ := Aside0.mk (below_step (by repeat (first | (with_reducible first | exact HB.out | apply below_alloc | apply pw_below_drewN | apply below_drew1) | exact HB.out)) hb); have n1_ := Aside0.mk (hbox); have n2_ := Aside0.mk ((by rw [hg]; exact (below_size (by repeat (first | (with_reducible first | exact HB.out | apply below_alloc | apply pw_below_drewN | apply below_drew1) | exact HB.out))) : w.heap.size ≤ gb248)); have n3_ := Aside0.mk ((by rw [hg]; exact (below_size (by repeat (first | (with_reducible first | exact HB.out | apply below_alloc | apply pw_below_drewN | apply below_drew1) | exact HB.out))) : w.heap.size ≤ gb248)); clear HB; have HB := n0_; have BK248 := n1_; have GW248 := n2_; have GE248 := n3_; clear n0_ n1_ n2_ n3_; clear hb hbox hg) | ((with_reducible refine gate_callee (f := 16) rfl ?_); refine goesL_ (some 11) rfl rfl Tryz.func16 (by kernel_rfl) rfl #[] rfl (by (try simp only [List.map_toArray, List.map_cons, List.map_nil]); first | done | rfl | (simp only [List.length_drop, List.length_take]; rfl)) ?_; (with_reducible refine (guidevanelaw06_awake.calls  true _ A2.out).mono ?_); rintro e w17 ⟨rfl, hb⟩; refine ⟨_, rfl, ?_⟩; have n0_ := Aside0.mk (blk_below (g := gb248) (o := .cells #[.slice A0_0 l0_0.length c0_0] 42 (0, 0)) (by (with_reducible repeat (first | refine blk_drewN ?_ _ | refine blk_drew ?_ | refine blk_alloc ?_ _)); exact BK248.out) hb); have n1_ := Aside0.mk (below_step (by repeat (first | (with_reducible first | exact HB.out | apply below_alloc | apply pw_below_drewN | apply below_drew1 | refine below_set ?_ GE248.out) | exact HB.out)) hb); clear BK248; clear HB; have BK248 := n0_; have HB := n1_; clear n0_ n1_; (try clear hb); (try clear hb2); (try clear hk); (try clear hi); have hcz18_0 : w17.cell? ⟨gb248, 0, none⟩ = some (.slice A0_0 l0_0.length c0_0) := (blk_cell BK248.out 0).trans rfl; have hfz18_0 := blk_frozen BK248.out 0) | ((with_reducible refine gate_callee (f := 28) rfl ?_); refine goesL_ (some 19) rfl rfl Tryz.func28 (by kernel_rfl) rfl #[.agg #[.slice A0_0 l0_0.length c0_0]] rfl (by (try simp only [List.map_toArray, List.map_cons, List.map_nil]); first | done | rfl | (simp only [List.length_drop, List.length_take]; rfl)) ?_; (with_reducible refine (guidevaneref06_CopyBox.calls _ _ l0_0 t250 _ ?side1 ?side2 A8.out).mono ?_); (case side1 => repeat (first | exact (Kd.C_below HR0_0.out HB.out) | (with_reducible refine Kd.C_alloc ?_ _) | (with_reducible refine Kd.C_drewN ?_ _) | (with_reducible refine Kd.C_drew ?_))); (case side2 => exact HC0_0.out); rintro e w19 ⟨v251, rfl, ho0, hb⟩; refine ⟨_, rfl, ?_⟩; have n0_ := Aside0.mk (Kd.R_lower ho0 (below_size (by repeat (first | (with_reducible first | exact HB.out | apply below_alloc | apply pw_below_drewN | apply below_drew1 | refine below_set ?_ GE248.out) | exact HB.out)))); have n1_ := Aside0.mk (blk_below (g := gb248) (o := .cells #[.slice A0_0 l0_0.length c0_0] 42 (0, 0)) (by (with_reducible repeat (first | refine blk_drewN ?_ _ | refine blk_drew ?_ | refine blk_alloc ?_ _)); exact BK248.out) hb); have n2_ := Aside0.mk (below_step (by repeat (first | (with_reducible first | exact HB.out | apply below_alloc | apply pw_below_drewN | apply below_drew1 | refine below_set ?_ GE248.out) | exact HB.out)) hb); clear BK248; clear HB; have HO252 := n0_; have BK248 := n1_; have HB := n2_; clear n0_ n1_ n2_; (try clear hb); (try clear hb2); (try clear hk); (try clear hi); (try clear ho0); obtain ⟨Ao20, co20, eo20⟩ := Kd.R_slice HO252.out; subst eo20) | ((with_reducible refine gate_callee (f := 27) rfl ?_); refine goesL_ (some 20) rfl rfl Tryz.func27 (by kernel_rfl) rfl #[.agg #[.slice Ao20 t250.length co20]] rfl (by (try simp only [List.map_toArray, List.map_cons, List.map_nil]); first | done | rfl | (simp only [List.length_drop, List.length_take]; rfl)) ?_; (with_reducible refine (governor_CheckBox.calls _ _ t250 t253 t254 _ ?side1 ?side2 A9.out).mono ?_); (case side1 => repeat (first | exact (Kd.R_reads' HO252.out).2.2 | (with_reducible refine Kd.C_alloc ?_ _) | (with_reducible refine Kd.C_drewN ?_ _) | (with_reducible refine Kd.C_drew ?_))); (case side2 => exact (Kd.R_reads' HO252.out).2.1); rintro e w21 ⟨rfl, hb⟩; refine ⟨_, rfl, ?_⟩; have n0_ := Aside0.mk (Kd.R_below (by (with_reducible repeat (first | apply Kd.R_alloc | apply Kd.R_drewN | apply Kd.R_drew)); exact HO252.out) hb); have n1_ := Aside0.mk (blk_below (g := gb248) (o := .cells #[.slice A0_0 l0_0.length c0_0] 42 (0, 0)) (by (with_reducible repeat (first | refine blk_drewN ?_ _ | refine blk_drew ?_ | refine blk_alloc ?_ _)); exact BK248.out) hb); have n2_ := Aside0.mk (below_step (by repeat (first | (with_reducible first | exact HB.out | apply below_alloc | apply pw_below_drewN | apply below_drew1 | refine below_set ?_ GE248.out) | exact HB.out)) hb); clear HO252; clear BK248; clear HB; have HO252 := n0_; have BK248 := n1_; have HB := n2_; clear n0_ n1_ n2_; (try clear hb); (try clear hb2); (try clear hk); (try clear hi); have hcz22_0 : w21.cell? ⟨gb248, 0, none⟩ = some (.slice A0_0 l0_0.length c0_0) := (blk_cell BK248.out 0).trans rfl; have hfz22_0 := blk_frozen BK248.out 0) | ((with_reducible refine gate_callee (f := 28) rfl ?_); refine goesL_ (some 25) rfl rfl Tryz.func28 (by kernel_rfl) rfl #[.agg #[.slice A0_0 l0_0.length c0_0]] rfl (by (try simp only [List.map_toArray, List.map_cons, List.map_nil]); first | done | rfl | (simp only [List.length_drop, List.length_take]; rfl)) ?_; (with_reducible refine (guidevaneref06_CopyBox.calls _ _ l0_0 t255 _ ?side1 ?side2 A10.out).mono ?_); (case side1 => repeat (first | exact (Kd.C_below HR0_0.out HB.out) | (with_reducible refine Kd.C_alloc ?_ _) | (with_reducible refine Kd.C_drewN ?_ _) | (with_reducible refine Kd.C_drew ?_))); (case side2 => exact HC0_0.out); rintro e w23 ⟨v256, rfl, ho0, hb⟩; refine ⟨_, rfl, ?_⟩; have n0_ := Aside0.mk (Kd.R_elder' (by (with_reducible repeat (first | apply Kd.R_alloc | apply Kd.R_drewN | apply Kd.R_drew)); exact HO252.out) (Kd.R_base ho0) hb); have n1_ := Aside0.mk (Kd.R_lower (Kd.R_new' ho0 (Kd.R_lt (by (with_reducible repeat (first | apply Kd.R_alloc | apply Kd.R_drewN | apply Kd.R_drew)); exact HO252.out))) (below_size (by repeat (first | (with_reducible first | exact HB.out | apply below_alloc | apply pw_below_drewN | apply below_drew1 | refine below_set ?_ GE248.out) | exact HB.out)))); have n2_ := Aside0.mk (blk_below (g := gb248) (o := .cells #[.slice A0_0 l0_0.length c0_0] 42 (0, 0)) (by (with_reducible repeat (first | refine blk_drewN ?_ _ | refine blk_drew ?_ | refine blk_alloc ?_ _)); exact BK248.out) hb); have n3_ := Aside0.mk (below_step (by repeat (first | (with_reducible first | exact HB.out | apply below_alloc | apply pw_below_drewN | apply below_drew1 | refine below_set ?_ GE248.out) | exact HB.out)) hb); clear HO252; clear BK248; clear HB; have HO252 := n0_; have HO257 := n1_; have BK248 := n2_; have HB := n3_; clear n0_ n1_ n2_ n3_; (try clear hb); (try clear hb2); (try clear hk); (try clear hi); (try clear ho0); obtain ⟨Ao24, co24, eo24⟩ := Kd.R_slice HO257.out; subst eo24) | ((with_reducible refine gate_callee (f := 29) rfl ?_); refine goesL_ (some 26) rfl rfl Tryz.func29 (by kernel_rfl) rfl #[.agg #[.slice Ao24 t255.length co24]] rfl (by (try simp only [List.map_toArray, List.map_cons, List.map_nil]); first | done | rfl | (simp only [List.length_drop, List.length_take]; rfl)) ?_; (with_reducible refine (governor_CornersOf.calls _ _ t255 t258 t261 _ ?side1 ?side2 A11.out).mono ?_); (case side1 => repeat (first | exact (Kd.R_reads' HO257.out).2.2 | (with_reducible refine Kd.C_alloc ?_ _) | (with_reducible refine Kd.C_drewN ?_ _) | (with_reducible refine Kd.C_drew ?_))); (case side2 => exact (Kd.R_reads' HO257.out).2.1); rintro e w25 ⟨v259, rfl, ho0, hb⟩; refine ⟨_, rfl, ?_⟩; have n0_ := Aside0.mk (Kd.R_below (by (with_reducible repeat (first | apply Kd.R_alloc | apply Kd.R_drewN | apply Kd.R_drew)); exact HO252.out) hb); have n1_ := Aside0.mk (Kd.R_below (by (with_reducible repeat (first | apply Kd.R_alloc | apply Kd.R_drewN | apply Kd.R_drew)); exact HO257.out) hb); have n2_ := Aside0.mk (Kd.N_lower (Kd.N_mono (ok' := fun k_ => some k_ ≠ (.slice Ao20 t250.length co20 : Value).ownBlock ∧ some k_ ≠ (.slice Ao24 t255.length co24 : Value).ownBlock ∧ k_ ≠ gb248) (Kd.S_N (Kd.S_bound ho0)) (fun k_ hk_ => ⟨(Kd.fresh' (Kd.R_lt (by (with_reducible repeat (first | apply Kd.R_alloc | apply Kd.R_drewN | apply Kd.R_drew)); exact HO252.out)) k_ hk_.2.1), (Kd.fresh' (Kd.R_lt (by (with_reducible repeat (first | apply Kd.R_alloc | apply Kd.R_drewN | apply Kd.R_drew)); exact HO257.out)) k_ hk_.2.1), (Kd.freshB (g := gb248) (o := .cells #[.slice A0_0 l0_0.length c0_0] 42 (0, 0)) (by (with_reducible repeat (first | refine blk_drewN ?_ _ | refine blk_drew ?_ | refine blk_alloc ?_ _)); exact BK248.out) k_ hk_.2.1)⟩)) (below_size (by repeat (first | (with_reducible first | exact HB.out | apply below_alloc | apply pw_below_drewN | apply below_drew1 | refine below_set ?_ GE248.out) | exact HB.out)))); have n3_ := Aside0.mk (blk_below (g := gb248) (o := .cells #[.slice A0_0 l0_0.length c0_0] 42 (0, 0)) (by (with_reducible repeat (first | refine blk_drewN ?_ _ | refine blk_drew ?_ | refine blk_alloc ?_ _)); exact BK248.out) hb); have n4_ := Aside0.mk (below_step (by repeat (first | (with_reducible first | exact HB.out | apply below_alloc | apply pw_below_drewN | apply below_drew1 | refine below_set ?_ GE248.out) | exact HB.out)) hb); clear HO252; clear HO257; clear BK248; clear HB; have HO252 := n0_; have HO257 := n1_; have HO260 := n2_; have BK248 := n3_; have HB := n4_; clear n0_ n1_ n2_ n3_ n4_; (try clear hb); (try clear hb2); (try clear hk); (try clear hi); (try clear ho0); have hcz26_0 : w25.cell? ⟨gb248, 0, none⟩ = some (.slice A0_0 l0_0.length c0_0) := (blk_cell BK248.out 0).trans rfl; have hfz26_0 := blk_frozen BK248.out 0) | ((with_reducible refine gate_callee (f := 28) rfl ?_); refine goesL_ (some 31) rfl rfl Tryz.func28 (by kernel_rfl) rfl #[.agg #[.slice A0_0 l0_0.length c0_0]] rfl (by (try simp only [List.map_toArray, List.map_cons, List.map_nil]); first | done | rfl | (simp only [List.length_drop, List.length_take]; rfl)) ?_; (with_reducible refine (guidevaneref06_CopyBox.calls _ _ l0_0 t262 _ ?side1 ?side2 A12.out).mono ?_); (case side1 => repeat (first | exact (Kd.C_below HR0_0.out HB.out) | (with_reducible refine Kd.C_alloc ?_ _) | (with_reducible refine Kd.C_drewN ?_ _) | (with_reducible refine Kd.C_drew ?_))); (case side2 => exact HC0_0.out); rintro e w27 ⟨v263, rfl, ho0, hb⟩; refine ⟨_, rfl, ?_⟩; have n0_ := Aside0.mk (Kd.R_elder' (by (with_reducible repeat (first | apply Kd.R_alloc | apply Kd.R_drewN | apply Kd.R_drew)); exact HO252.out) (Kd.R_base ho0) hb); have n1_ := Aside0.mk (Kd.R_elder' (by (with_reducible repeat (first | apply Kd.R_alloc | apply Kd.R_drewN | apply Kd.R_drew)); exact HO257.out) (Kd.R_base ho0) hb); have n2_ := Aside0.mk (Kd.N_elder' (by (with_reducible repeat (first | apply Kd.N_alloc | apply Kd.N_drewN | apply Kd.N_drew)); exact HO260.out) (Kd.R_base ho0) hb); have n3_ := Aside0.mk (Kd.R_lower (Kd.R_new' (Kd.R_new' ho0 (Kd.R_lt (by (with_reducible repeat (first | apply Kd.R_alloc | apply Kd.R_drewN | apply Kd.R_drew)); exact HO252.out))) (Kd.R_lt (by (with_reducible repeat (first | apply Kd.R_alloc | apply Kd.R_drewN | apply Kd.R_drew)); exact HO257.out))) (below_size (by repeat (first | (with_reducible first | exact HB.out | apply below_alloc | apply pw_below_drewN | apply below_drew1 | refine below_set ?_ GE248.out) | exact HB.out)))); have n4_ := Aside0.mk (blk_below (g := gb248) (o := .cells #[.slice A0_0 l0_0.length c0_0] 42 (0, 0)) (by (with_reducible repeat (first | refine blk_drewN ?_ _ | refine blk_drew ?_ | refine blk_alloc ?_ _)); exact BK248.out) hb); have n5_ := Aside0.mk (below_step (by repeat (first | (with_reducible first | exact HB.out | apply below_alloc | apply pw_below_drewN | apply below_drew1 | refine below_set ?_ GE248.out) | exact HB.out)) hb); clear HO252; clear HO257; clear HO260; clear BK248; clear HB; have HO252 := n0_; have HO257 := n1_; have HO260 := n2_; have HO264 := n3_; have BK248 := n4_; have HB := n5_; clear n0_ n1_ n2_ n3_ n4_ n5_; (try clear hb); (try clear hb2); (try clear hk); (try clear hi); (try clear ho0); obtain ⟨Ao28, co28, eo28⟩ := Kd.R_slice HO264.out; subst eo28) | ((with_reducible refine gate_callee (f := 30) rfl ?_); refine goesL_ (some 32) rfl rfl Tryz.func30 (by kernel_rfl) rfl #[.agg #[.slice Ao28 t262.length co28]] rfl (by (try simp only [List.map_toArray, List.map_cons, List.map_nil]); first | done | rfl | (simp only [List.length_drop, List.length_take]; rfl)) ?_; (with_reducible refine (governor_IsRobust.calls _ _ t262 t265 t266 _ ?side1 ?side2 A13.out).mono ?_); (case side1 => repeat (first | exact (Kd.R_reads' HO264.out).2.2 | (with_reducible refine Kd.C_alloc ?_ _) | (with_reducible refine Kd.C_drewN ?_ _) | (with_reducible refine Kd.C_drew ?_))); (case side2 => exact (Kd.R_reads' HO264.out).2.1); rintro e w29 ⟨rfl, hb⟩; refine ⟨_, rfl, ?_⟩; have n0_ := Aside0.mk (Kd.R_below (by (with_reducible repeat (first | apply Kd.R_alloc | apply Kd.R_drewN | apply Kd.R_drew)); exact HO252.out) hb); have n1_ := Aside0.mk (Kd.R_below (by (with_reducible repeat (first | apply Kd.R_alloc | apply Kd.R_drewN | apply Kd.R_drew)); exact HO257.out) hb); have n2_ := Aside0.mk (Kd.N_below (by (with_reducible repeat (first | apply Kd.N_alloc | apply Kd.N_drewN | apply Kd.N_drew)); exact HO260.out) hb); have n3_ := Aside0.mk (Kd.R_below (by (with_reducible repeat (first | apply Kd.R_alloc | apply Kd.R_drewN | apply Kd.R_drew)); exact HO264.out) hb); have n4_ := Aside0.mk (blk_below (g := gb248) (o := .cells #[.slice A0_0 l0_0.length c0_0] 42 (0, 0)) (by (with_reducible repeat (first | refine blk_drewN ?_ _ | refine blk_drew ?_ | refine blk_alloc ?_ _)); exact BK248.out) hb); have n5_ := Aside0.mk (below_step (by repeat (first | (with_reducible first | exact HB.out | apply below_alloc | apply pw_below_drewN | apply below_drew1 | refine below_set ?_ GE248.out) | exact HB.out)) hb); clear HO252; clear HO257; clear HO260; clear HO264; clear BK248; clear HB; have HO252 := n0_; have HO257 := n1_; have HO260 := n2_; have HO264 := n3_; have BK248 := n4_; have HB := n5_; clear n0_ n1_ n2_ n3_ n4_ n5_; (try clear hb); (try clear hb2); (try clear hk); (try clear hi); have hcz30_0 : w29.cell? ⟨gb248, 0, none⟩ = some (.slice A0_0 l0_0.length c0_0) := (blk_cell BK248.out 0).trans rfl; have hfz30_0 := blk_frozen BK248.out 0) | ((with_reducible refine gate_callee (f := 31) rfl ?_); refine goesL_ (some 37) rfl rfl Tryz.func31 (by kernel_rfl) rfl #[.agg #[.slice A0_0 l0_0.length c0_0]] rfl (by (try simp only [List.map_toArray, List.map_cons, List.map_nil]); first | done | rfl | (simp only [List.length_drop, List.length_take]; rfl)) ?_; (with_reducible refine (guidevaneref06_CheckBox.calls k _ _ l0_0 t267 t268 _ ?side1 ?side2 A14.out).mono ?_); (case side1 => repeat (first | exact (Kd.C_below HR0_0.out HB.out) | (with_reducible refine Kd.C_alloc ?_ _) | (with_reducible refine Kd.C_drewN ?_ _) | (with_reducible refine Kd.C_drew ?_))); (case side2 => exact HC0_0.out); rintro e w31 ⟨rfl, hb⟩; refine ⟨_, rfl, ?_⟩; have n0_ := Aside0.mk (Kd.R_below (by (with_reducible repeat (first | apply Kd.R_alloc | apply Kd.R_drewN | apply Kd.R_drew)); exact HO252.out) hb); have n1_ := Aside0.mk (Kd.R_below (by (with_reducible repeat (first | apply Kd.R_alloc | apply Kd.R_drewN | apply Kd.R_drew)); exact HO257.out) hb); have n2_ := Aside0.mk (Kd.N_below (by (with_reducible repeat (first | apply Kd.N_alloc | apply Kd.N_drewN | apply Kd.N_drew)); exact HO260.out) hb); have n3_ := Aside0.mk (Kd.R_below (by (with_reducible repeat (first | apply Kd.R_alloc | apply Kd.R_drewN | apply Kd.R_drew)); exact HO264.out) hb); have n4_ := Aside0.mk (blk_below (g := gb248) (o := .cells #[.slice A0_0 l0_0.length c0_0] 42 (0, 0)) (by (with_reducible repeat (first | refine blk_drewN ?_ _ | refine blk_drew ?_ | refine blk_alloc ?_ _)); exact BK248.out) hb); have n5_ := Aside0.mk (below_step (by repeat (first | (with_reducible first | exact HB.out | apply below_alloc | apply pw_below_drewN | apply below_drew1 | refine below_set ?_ GE248.out) | exact HB.out)) hb); clear HO252; clear HO257; clear HO260; clear HO264; clear BK248; clear HB; have HO252 := n0_; have HO257 := n1_; have HO260 := n2_; have HO264 := n3_; have BK248 := n4_; have HB := n5_; clear n0_ n1_ n2_ n3_ n4_ n5_; (try clear hb); (try clear hb2); (try clear hk); (try clear hi)))
      (try simp only [Act.put, List.setIfInBounds_toArray, List.set_cons_zero, List.set_cons_succ])
      go_cut [47] (fun v47 wc => ∃ (kq : Nat) (x47_14 : Bool), v47 = .bool x47_14 ∧ Aside0 (guidevanelaw06_GovernorBoxes.j0 kq t258 t261 t265 t266 t268 x47_14 l0_0 = some r) ∧ Aside0 (kq ≤ k) ∧ Aside0 (Kd.N (Kd.slice 3 (Kd.int .i64)) 22 wc w.heap.size (fun k_ => k_ ≠ gb248) v259 t258) ∧ Aside0 (wc.heap[gb248]? = some (.cells #[(.slice A0_0 l0_0.length c0_0)] 42 (0, 0))) ∧ Aside0 (Below w.heap.size w wc))
      case first =>
        have H := HC15.out
        clear HC15
        by_cases c32 : t254 = t268
        · rw [if_pos c32] at H
          have c32b0 : (t254 == t268) = true := beq_iff_eq.mpr c32
          have c32b1 : (t254 != t268) = false := bne_eq_false_iff_eq.mpr c32
          clear c32
          (first | rw [c32b0] | (simp only [i64_w, i32_w]; rw [c32b0]) | skip)
          have H' := Aside0.mk H
          clear H
          go_wp2
          go_meet
          case rel => exact ⟨_, ((t253 != t267)), (by first | rfl | (simp; done) | (simp [*]; done)), H', ⟨by first | omega | exact Nat.le_refl _⟩, ⟨by (with_reducible repeat (first | apply Kd.N_alloc | apply Kd.N_drewN | apply Kd.N_drew)); exact Kd.N_mono HO260.out (fun _ hk => hk.1.2.2)⟩, ⟨by (with_reducible repeat (first | refine blk_drewN ?_ _ | refine blk_drew ?_ | refine blk_alloc ?_ _)); exact BK248.out⟩, ⟨by repeat (first | (with_reducible first | exact HB.out | apply below_alloc | apply pw_below_drewN | apply below_drew1 | refine below_set ?_ GE248.out) | exact HB.out)⟩⟩
        · rw [if_neg c32] at H
          have c32b0 : (t254 == t268) = false := beq_eq_false_iff_ne.mpr c32
          have c32b1 : (t254 != t268) = true := bne_iff_ne.mpr c32
          (first | rw [c32b0] | (simp only [i64_w, i32_w]; rw [c32b0]) | skip)
          have H' := Aside0.mk H
          clear H
          go_wp2
          go_meet
          case rel => exact ⟨_, (true), (by first | rfl | (simp; done) | (simp [*]; done)), H', ⟨by first | omega | exact Nat.le_refl _⟩, ⟨by (with_reducible repeat (first | apply Kd.N_alloc | apply Kd.N_drewN | apply Kd.N_drew)); exact Kd.N_mono HO260.out (fun _ hk => hk.1.2.2)⟩, ⟨by (with_reducible repeat (first | refine blk_drewN ?_ _ | refine blk_drew ?_ | refine blk_alloc ?_ _)); exact BK248.out⟩, ⟨by repeat (first | (with_reducible first | exact HB.out | apply below_alloc | apply pw_below_drewN | apply below_drew1 | refine below_set ?_ GE248.out) | exact HB.out)⟩⟩
      case rest =>
        clear HC15
        try clear c1
        try clear c2
        try clear p2
        try clear c3
        try clear c4
        try clear c4b0
        try clear c4b1
        try clear c16
        try clear c27
        try clear c28
        try clear c29
        try clear c30
        try clear c31
        try clear c32
        try clear c32b0
        try clear c32b1
        try clear hcz18_0
        try clear hcz22_0
        try clear hcz26_0
        try clear hcz30_0
        try clear hcz7_0
        try clear hfz18_0
        try clear hfz22_0
        try clear hfz26_0
        try clear hfz30_0
        try clear hfz7_0
        obtain ⟨kq, x47_14, rfl, HA, HJ14, HO_5, BK248, HB⟩ := hcut
        cases kq with
        | zero => exact absurd HA.out (by simp [guidevanelaw06_GovernorBoxes.j0])
        | succ kj14 =>
          have H := HA.out
          clear HA
          simp only [guidevanelaw06_GovernorBoxes.j0] at H
          by_cases c33 : x47_14 = true
          · subst c33
            have H1 : (some false) = some r := by rw [if_pos rfl] at H; exact H
            clear H
            have H := H1
            clear H1
            obtain rfl := Option.some.inj H
            go_wp2
            go_ret
            exact ⟨by first | rfl | (simp [errW_none, errW_some] <;> rfl) | (simp [*, errW_none, errW_some] <;> rfl), by repeat (first | (with_reducible first | exact HB.out | apply below_alloc | apply pw_below_drewN | apply below_drew1 | refine below_set ?_ GE248.out) | exact HB.out)⟩
          · replace c33 := Bool.eq_false_iff.mpr c33
            subst c33
            have H1 : (if t268 = 0 then (if t261 = 0 then ((guidevaneref06_Corners.f kj14 l0_0).bind fun t269 => ((guidevanebase_Lists.f kj14 t258 t269).bind fun t272 => (if t272 = true then (if t266 = 0 then ((guidevaneref06_Robust.f kj14 l0_0).bind fun t273 => (some (t265 == t273))) else (some false)) else (some false)))) else (some false)) else (if t261 = t268 then (if t266 = t268 then (if (t258.length : Int) = 0 then (some (!t265)) else (some false)) else (some false)) else (some false))) = some r := by rw [if_neg (show ¬ (false = true) by decide)] at H; exact H
            clear H
            have H := H1
            clear H1
            by_cases c34 : t268 = 0
            · rw [if_pos c34] at H
              have c34b0 : (t268 == 0) = true := beq_iff_eq.mpr c34
              have c34b1 : (t268 != 0) = false := bne_eq_false_iff_eq.mpr c34
              clear c34
              by_cases c35 : t261 = 0
              · rw [if_pos c35] at H
                have c35b0 : (t261 == 0) = true := beq_iff_eq.mpr c35
                have c35b1 : (t261 != 0) = false := bne_eq_false_iff_eq.mpr c35
                clear c35
                replace H := Option.bind_eq_some_iff.mp H
                obtain ⟨t269, A360, H⟩ := H
                replace H : ((guidevanebase_Lists.f kj14 t258 t269).bind fun t272 => (if t272 = true then (if t266 = 0 then ((guidevaneref06_Robust.f kj14 l0_0).bind fun t273 => (some (t265 == t273))) else (some false)) else (some false))) = some r := H
                have A36 := Aside0.mk A360
                clear A360
                replace H := Option.bind_eq_some_iff.mp H
                obtain ⟨t272, A370, H⟩ := H
                replace H : (if t272 = true then (if t266 = 0 then ((guidevaneref06_Robust.f kj14 l0_0).bind fun t273 => (some (t265 == t273))) else (some false)) else (some false)) = some r := H
                have A37 := Aside0.mk A370
                clear A370
                by_cases c38 : t272 = true
                · subst c38
                  have H1 : (if t266 = 0 then ((guidevaneref06_Robust.f kj14 l0_0).bind fun t273 => (some (t265 == t273))) else (some false)) = some r := by rw [if_pos rfl] at H; exact H
                  clear H
                  have H := H1
                  clear H1
                  by_cases c39 : t266 = 0
                  · rw [if_pos c39] at H
                    have c39b0 : (t266 == 0) = true := beq_iff_eq.mpr c39
                    have c39b1 : (t266 != 0) = false := bne_eq_false_iff_eq.mpr c39
                    clear c39
                    replace H := Option.bind_eq_some_iff.mp H
                    obtain ⟨t273, A400, H⟩ := H
                    replace H : (some (t265 == t273)) = some r := H
                    have A40 := Aside0.mk A400
                    clear A400
                    obtain rfl := Option.some.inj H
                    have hcz41_0 : wc.cell? ⟨gb248, 0, none⟩ = some (.slice A0_0 l0_0.length c0_0) := (blk_cell BK248.out 0).trans rfl
                    have hfz41_0 := blk_frozen BK248.out 0
                    go_wp2_with (first | (go_at_call 33; (with_reducible refine (guidevaneref06_Corners.calls kj14 _ _ l0_0 t269 _ ?side1 ?side2 A36.out).mono ?_); (case side1 => repeat (first | exact (Kd.C_below HR0_0.out HB.out) | (with_reducible refine Kd.C_alloc ?_ _) | (with_reducible refine Kd.C_drewN ?_ _) | (with_reducible refine Kd.C_drew ?_))); (case side2 => exact HC0_0.out); rintro e w42 ⟨v270, rfl, ho0, hb⟩; have n0_ := Aside0.mk (Kd.N_elder' (by (with_reducible repeat (first | apply Kd.N_alloc | apply Kd.N_drewN | apply Kd.N_drew)); exact HO_5.out) (Kd.N_base ho0) hb); have n1_ := Aside0.mk (Kd.N_lower (Kd.N_mono (ok' := fun k_ => some k_ ≠ (v259 : Value).ownBlock ∧ k_ ≠ gb248) ho0 (fun k_ hk_ => ⟨(Kd.fresh' (Kd.N_lt (by (with_reducible repeat (first | apply Kd.N_alloc | apply Kd.N_drewN | apply Kd.N_drew)); exact HO_5.out)) k_ hk_), (Kd.freshB (g := gb248) (o := .cells #[.slice A0_0 l0_0.length c0_0] 42 (0, 0)) (by (with_reducible repeat (first | refine blk_drewN ?_ _ | refine blk_drew ?_ | refine blk_alloc ?_ _)); exact BK248.out) k_ hk_)⟩)) (below_size (by repeat (first | (with_reducible first | exact HB.out | apply below_alloc | apply pw_below_drewN | apply below_drew1 | refine below_set ?_ GE248.out) | exact HB.out)))); have n2_ := Aside0.mk (blk_below (g := gb248) (o := .cells #[.slice A0_0 l0_0.length c0_0] 42 (0, 0)) (by (with_reducible repeat (first | refine blk_drewN ?_ _ | refine blk_drew ?_ | refine blk_alloc ?_ _)); exact BK248.out) hb); have n3_ := Aside0.mk (below_step (by repeat (first | (with_reducible first | exact HB.out | apply below_alloc | apply pw_below_drewN | apply below_drew1 | refine below_set ?_ GE248.out) | exact HB.out)) hb); clear HO_5; clear BK248; clear HB; have HO_5 := n0_; have HO271 := n1_; have BK248 := n2_; have HB := n3_; clear n0_ n1_ n2_ n3_; (try clear hb); (try clear hb2); (try clear hk); (try clear hi); (try clear ho0); obtain ⟨Ao43, co43, eo43⟩ := Kd.N_slice HO_5.out; subst eo43; obtain ⟨Ao44, co44, eo44⟩ := Kd.N_slice HO271.out; subst eo44) | (go_at_call 32; (with_reducible refine (guidevanebase_Lists.calls kj14 _ _ t258 _ _ t269 true _ ?side1 ?side2 ?side3 ?side4 A37.out).mono ?_); (case side1 => repeat (first | exact (Kd.N_reads' HO_5.out).2.2 | (with_reducible refine Kd.C_alloc ?_ _) | (with_reducible refine Kd.C_drewN ?_ _) | (with_reducible refine Kd.C_drew ?_))); (case side2 => exact (Kd.N_reads' HO_5.out).2.1); (case side3 => repeat (first | exact (Kd.N_reads' HO271.out).2.2 | (with_reducible refine Kd.C_alloc ?_ _) | (with_reducible refine Kd.C_drewN ?_ _) | (with_reducible refine Kd.C_drew ?_))); (case side4 => exact (Kd.N_reads' HO271.out).2.1); rintro e w' ⟨rfl, ⟨nd, rfl⟩⟩; have hcz45_0 : w42.cell? ⟨gb248, 0, none⟩ = some (.slice A0_0 l0_0.length c0_0) := (blk_cell BK248.out 0).trans rfl; have hfz45_0 := blk_frozen BK248.out 0) | (go_at_call 34; (with_reducible refine (guidevaneref06_Robust.calls kj14 _ _ l0_0 t273 _ ?side1 ?side2 A40.out).mono ?_); (case side1 => repeat (first | exact (Kd.C_below HR0_0.out (by repeat (first | (with_reducible first | exact HB.out | apply below_alloc | apply pw_below_drewN | apply below_drew1 | refine below_set ?_ GE248.out) | exact HB.out))) | (with_reducible refine Kd.C_alloc ?_ _) | (with_reducible refine Kd.C_drewN ?_ _) | (with_reducible refine Kd.C_drew ?_))); (case side2 => exact HC0_0.out); rintro e w46 ⟨rfl, hb⟩; have n0_ := Aside0.mk (Kd.N_below (by (with_reducible repeat (first | apply Kd.N_alloc | apply Kd.N_drewN | apply Kd.N_drew)); exact HO_5.out) hb); have n1_ := Aside0.mk (Kd.N_below (by (with_reducible repeat (first | apply Kd.N_alloc | apply Kd.N_drewN | apply Kd.N_drew)); exact HO271.out) hb); have n2_ := Aside0.mk (blk_below (g := gb248) (o := .cells #[.slice A0_0 l0_0.length c0_0] 42 (0, 0)) (by (with_reducible repeat (first | refine blk_drewN ?_ _ | refine blk_drew ?_ | refine blk_alloc ?_ _)); exact BK248.out) hb); have n3_ := Aside0.mk (below_step (by repeat (first | (with_reducible first | exact HB.out | apply below_alloc | apply pw_below_drewN | apply below_drew1 | refine below_set ?_ GE248.out) | exact HB.out)) hb); clear HO_5; clear HO271; clear BK248; clear HB; have HO_5 := n0_; have HO271 := n1_; have BK248 := n2_; have HB := n3_; clear n0_ n1_ n2_ n3_; (try clear hb); (try clear hb2); (try clear hk); (try clear hi)))
                    go_ret
                    exact ⟨by first | rfl | (simp [errW_none, errW_some] <;> rfl) | (simp [*, errW_none, errW_some] <;> rfl), by repeat (first | (with_reducible first | exact HB.out | apply below_alloc | apply pw_below_drewN | apply below_drew1 | refine below_set ?_ GE248.out) | exact HB.out)⟩
                  · rw [if_neg c39] at H
                    have c39b0 : (t266 == 0) = false := beq_eq_false_iff_ne.mpr c39
                    have c39b1 : (t266 != 0) = true := bne_iff_ne.mpr c39
                    obtain rfl := Option.some.inj H
                    have hcz47_0 : wc.cell? ⟨gb248, 0, none⟩ = some (.slice A0_0 l0_0.length c0_0) := (blk_cell BK248.out 0).trans rfl
                    have hfz47_0 := blk_frozen BK248.out 0
                    go_wp2_with (first | (go_at_call 33; (with_reducible refine (guidevaneref06_Corners.calls kj14 _ _ l0_0 t269 _ ?side1 ?side2 A36.out).mono ?_); (case side1 => repeat (first | exact (Kd.C_below HR0_0.out HB.out) | (with_reducible refine Kd.C_alloc ?_ _) | (with_reducible refine Kd.C_drewN ?_ _) | (with_reducible refine Kd.C_drew ?_))); (case side2 => exact HC0_0.out); rintro e w48 ⟨v270, rfl, ho0, hb⟩; have n0_ := Aside0.mk (Kd.N_elder' (by (with_reducible repeat (first | apply Kd.N_alloc | apply Kd.N_drewN | apply Kd.N_drew)); exact HO_5.out) (Kd.N_base ho0) hb); have n1_ := Aside0.mk (Kd.N_lower (Kd.N_mono (ok' := fun k_ => some k_ ≠ (v259 : Value).ownBlock ∧ k_ ≠ gb248) ho0 (fun k_ hk_ => ⟨(Kd.fresh' (Kd.N_lt (by (with_reducible repeat (first | apply Kd.N_alloc | apply Kd.N_drewN | apply Kd.N_drew)); exact HO_5.out)) k_ hk_), (Kd.freshB (g := gb248) (o := .cells #[.slice A0_0 l0_0.length c0_0] 42 (0, 0)) (by (with_reducible repeat (first | refine blk_drewN ?_ _ | refine blk_drew ?_ | refine blk_alloc ?_ _)); exact BK248.out) k_ hk_)⟩)) (below_size (by repeat (first | (with_reducible first | exact HB.out | apply below_alloc | apply pw_below_drewN | apply below_drew1 | refine below_set ?_ GE248.out) | exact HB.out)))); have n2_ := Aside0.mk (blk_below (g := gb248) (o := .cells #[.slice A0_0 l0_0.length c0_0] 42 (0, 0)) (by (with_reducible repeat (first | refine blk_drewN ?_ _ | refine blk_drew ?_ | refine blk_alloc ?_ _)); exact BK248.out) hb); have n3_ := Aside0.mk (below_step (by repeat (first | (with_reducible first | exact HB.out | apply below_alloc | apply pw_below_drewN | apply below_drew1 | refine below_set ?_ GE248.out) | exact HB.out)) hb); clear HO_5; clear BK248; clear HB; have HO_5 := n0_; have HO271 := n1_; have BK248 := n2_; have HB := n3_; clear n0_ n1_ n2_ n3_; (try clear hb); (try clear hb2); (try clear hk); (try clear hi); (try clear ho0); obtain ⟨Ao49, co49, eo49⟩ := Kd.N_slice HO_5.out; subst eo49; obtain ⟨Ao50, co50, eo50⟩ := Kd.N_slice HO271.out; subst eo50) | (go_at_call 32; (with_reducible refine (guidevanebase_Lists.calls kj14 _ _ t258 _ _ t269 true _ ?side1 ?side2 ?side3 ?side4 A37.out).mono ?_); (case side1 => repeat (first | exact (Kd.N_reads' HO_5.out).2.2 | (with_reducible refine Kd.C_alloc ?_ _) | (with_reducible refine Kd.C_drewN ?_ _) | (with_reducible refine Kd.C_drew ?_))); (case side2 => exact (Kd.N_reads' HO_5.out).2.1); (case side3 => repeat (first | exact (Kd.N_reads' HO271.out).2.2 | (with_reducible refine Kd.C_alloc ?_ _) | (with_reducible refine Kd.C_drewN ?_ _) | (with_reducible refine Kd.C_drew ?_))); (case side4 => exact (Kd.N_reads' HO271.out).2.1); rintro e w' ⟨rfl, ⟨nd, rfl⟩⟩))
                    go_ret
                    exact ⟨by first | rfl | (simp [errW_none, errW_some] <;> rfl) | (simp [*, errW_none, errW_some] <;> rfl), by repeat (first | (with_reducible first | exact HB.out | apply below_alloc | apply pw_below_drewN | apply below_drew1 | refine below_set ?_ GE248.out) | exact HB.out)⟩
                · replace c38 := Bool.eq_false_iff.mpr c38
                  subst c38
                  have H1 : (some false) = some r := by rw [if_neg (show ¬ (false = true) by decide)] at H; exact H
                  clear H
                  have H := H1
                  clear H1
                  obtain rfl := Option.some.inj H
                  have hcz51_0 : wc.cell? ⟨gb248, 0, none⟩ = some (.slice A0_0 l0_0.length c0_0) := (blk_cell BK248.out 0).trans rfl
                  have hfz51_0 := blk_frozen BK248.out 0
                  go_wp2_with (first | (go_at_call 33; (with_reducible refine (guidevaneref06_Corners.calls kj14 _ _ l0_0 t269 _ ?side1 ?side2 A36.out).mono ?_); (case side1 => repeat (first | exact (Kd.C_below HR0_0.out HB.out) | (with_reducible refine Kd.C_alloc ?_ _) | (with_reducible refine Kd.C_drewN ?_ _) | (with_reducible refine Kd.C_drew ?_))); (case side2 => exact HC0_0.out); rintro e w52 ⟨v270, rfl, ho0, hb⟩; have n0_ := Aside0.mk (Kd.N_elder' (by (with_reducible repeat (first | apply Kd.N_alloc | apply Kd.N_drewN | apply Kd.N_drew)); exact HO_5.out) (Kd.N_base ho0) hb); have n1_ := Aside0.mk (Kd.N_lower (Kd.N_mono (ok' := fun k_ => some k_ ≠ (v259 : Value).ownBlock ∧ k_ ≠ gb248) ho0 (fun k_ hk_ => ⟨(Kd.fresh' (Kd.N_lt (by (with_reducible repeat (first | apply Kd.N_alloc | apply Kd.N_drewN | apply Kd.N_drew)); exact HO_5.out)) k_ hk_), (Kd.freshB (g := gb248) (o := .cells #[.slice A0_0 l0_0.length c0_0] 42 (0, 0)) (by (with_reducible repeat (first | refine blk_drewN ?_ _ | refine blk_drew ?_ | refine blk_alloc ?_ _)); exact BK248.out) k_ hk_)⟩)) (below_size (by repeat (first | (with_reducible first | exact HB.out | apply below_alloc | apply pw_below_drewN | apply below_drew1 | refine below_set ?_ GE248.out) | exact HB.out)))); have n2_ := Aside0.mk (blk_below (g := gb248) (o := .cells #[.slice A0_0 l0_0.length c0_0] 42 (0, 0)) (by (with_reducible repeat (first | refine blk_drewN ?_ _ | refine blk_drew ?_ | refine blk_alloc ?_ _)); exact BK248.out) hb); have n3_ := Aside0.mk (below_step (by repeat (first | (with_reducible first | exact HB.out | apply below_alloc | apply pw_below_drewN | apply below_drew1 | refine below_set ?_ GE248.out) | exact HB.out)) hb); clear HO_5; clear BK248; clear HB; have HO_5 := n0_; have HO271 := n1_; have BK248 := n2_; have HB := n3_; clear n0_ n1_ n2_ n3_; (try clear hb); (try clear hb2); (try clear hk); (try clear hi); (try clear ho0); obtain ⟨Ao53, co53, eo53⟩ := Kd.N_slice HO_5.out; subst eo53; obtain ⟨Ao54, co54, eo54⟩ := Kd.N_slice HO271.out; subst eo54) | (go_at_call 32; (with_reducible refine (guidevanebase_Lists.calls kj14 _ _ t258 _ _ t269 false _ ?side1 ?side2 ?side3 ?side4 A37.out).mono ?_); (case side1 => repeat (first | exact (Kd.N_reads' HO_5.out).2.2 | (with_reducible refine Kd.C_alloc ?_ _) | (with_reducible refine Kd.C_drewN ?_ _) | (with_reducible refine Kd.C_drew ?_))); (case side2 => exact (Kd.N_reads' HO_5.out).2.1); (case side3 => repeat (first | exact (Kd.N_reads' HO271.out).2.2 | (with_reducible refine Kd.C_alloc ?_ _) | (with_reducible refine Kd.C_drewN ?_ _) | (with_reducible refine Kd.C_drew ?_))); (case side4 => exact (Kd.N_reads' HO271.out).2.1); rintro e w' ⟨rfl, ⟨nd, rfl⟩⟩))
                  go_ret
                  exact ⟨by first | rfl | (simp [errW_none, errW_some] <;> rfl) | (simp [*, errW_none, errW_some] <;> rfl), by repeat (first | (with_reducible first | exact HB.out | apply below_alloc | apply pw_below_drewN | apply below_drew1 | refine below_set ?_ GE248.out) | exact HB.out)⟩
              · rw [if_neg c35] at H
                have c35b0 : (t261 == 0) = false := beq_eq_false_iff_ne.mpr c35
                have c35b1 : (t261 != 0) = true := bne_iff_ne.mpr c35
                obtain rfl := Option.some.inj H
                go_wp2
                go_ret
                exact ⟨by first | rfl | (simp [errW_none, errW_some] <;> rfl) | (simp [*, errW_none, errW_some] <;> rfl), by repeat (first | (with_reducible first | exact HB.out | apply below_alloc | apply pw_below_drewN | apply below_drew1 | refine below_set ?_ GE248.out) | exact HB.out)⟩
            · rw [if_neg c34] at H
              have c34b0 : (t268 == 0) = false := beq_eq_false_iff_ne.mpr c34
              have c34b1 : (t268 != 0) = true := bne_iff_ne.mpr c34
              by_cases c55 : t261 = t268
              · rw [if_pos c55] at H
                have c55b0 : (t261 == t268) = true := beq_iff_eq.mpr c55
                have c55b1 : (t261 != t268) = false := bne_eq_false_iff_eq.mpr c55
                clear c55
                by_cases c56 : t266 = t268
                · rw [if_pos c56] at H
                  have c56b0 : (t266 == t268) = true := beq_iff_eq.mpr c56
                  have c56b1 : (t266 != t268) = false := bne_eq_false_iff_eq.mpr c56
                  clear c56
                  by_cases c57 : (t258.length : Int) = 0
                  · rw [if_pos c57] at H
                    have c57b0 : ((t258.length : Int) == 0) = true := beq_iff_eq.mpr c57
                    have c57b1 : ((t258.length : Int) != 0) = false := bne_eq_false_iff_eq.mpr c57
                    clear c57
                    obtain rfl := Option.some.inj H
                    obtain ⟨Ao58, co58, eo58⟩ := Kd.N_slice HO_5.out
                    subst eo58
                    go_wp2
                    go_ret
                    exact ⟨by first | rfl | (simp [errW_none, errW_some] <;> rfl) | (simp [*, errW_none, errW_some] <;> rfl), by repeat (first | (with_reducible first | exact HB.out | apply below_alloc | apply pw_below_drewN | apply below_drew1 | refine below_set ?_ GE248.out) | exact HB.out)⟩
                  · rw [if_neg c57] at H
                    have c57b0 : ((t258.length : Int) == 0) = false := beq_eq_false_iff_ne.mpr c57
                    have c57b1 : ((t258.length : Int) != 0) = true := bne_iff_ne.mpr c57
                    have c57b2 : ¬ (t258 = []) := fun h_ => c57 (by rw [h_]; rfl)
                    obtain rfl := Option.some.inj H
                    obtain ⟨Ao59, co59, eo59⟩ := Kd.N_slice HO_5.out
                    subst eo59
                    go_wp2
                    go_ret
                    exact ⟨by first | rfl | (simp [errW_none, errW_some] <;> rfl) | (simp [*, errW_none, errW_some] <;> rfl), by repeat (first | (with_reducible first | exact HB.out | apply below_alloc | apply pw_below_drewN | apply below_drew1 | refine below_set ?_ GE248.out) | exact HB.out)⟩
                · rw [if_neg c56] at H
                  have c56b0 : (t266 == t268) = false := beq_eq_false_iff_ne.mpr c56
                  have c56b1 : (t266 != t268) = true := bne_iff_ne.mpr c56
                  obtain rfl := Option.some.inj H
                  go_wp2
                  go_ret
                  exact ⟨by first | rfl | (simp [errW_none, errW_some] <;> rfl) | (simp [*, errW_none, errW_some] <;> rfl), by repeat (first | (with_reducible first | exact HB.out | apply below_alloc | apply pw_below_drewN | apply below_drew1 | refine below_set ?_ GE248.out) | exact HB.out)⟩
              · rw [if_neg c55] at H
                have c55b0 : (t261 == t268) = false := beq_eq_false_iff_ne.mpr c55
                have c55b1 : (t261 != t268) = true := bne_iff_ne.mpr c55
                obtain rfl := Option.some.inj H
                go_wp2
                go_ret
                exact ⟨by first | rfl | (simp [errW_none, errW_some] <;> rfl) | (simp [*, errW_none, errW_some] <;> rfl), by repeat (first | (with_reducible first | exact HB.out | apply below_alloc | apply pw_below_drewN | apply below_drew1 | refine below_set ?_ GE248.out) | exact HB.out)⟩
  · replace c3 := Bool.eq_false_iff.mpr c3
    subst c3
    have H1 : (some false) = some r := by rw [if_neg (show ¬ (false = true) by decide)] at H; exact H
    clear H
    have H := H1
    clear H1
    obtain rfl := Option.some.inj H
    go_enter Tryz.func4, Tryz.ntmps4
    go_wp2_with (first | ((with_reducible refine gate_dst (N := 1) rfl ?_); (try (refine gate_guard (by rfl) ?_; dsimp only)); refine box_event ?hg (N := 1) ?hd (cs := #[.slice A0_0 l0_0.length c0_0]) (t := 42) ?hr ?_; (case hd => rfl); (case hg => rfl); (case hr => first | (go_simp; done) | (go_simp; rfl)); intro gb248 hg w60 hbox hb; have n0_ := Aside0.mk (below_step (by repeat (first | (with_reducible first | exact HB.out | apply below_alloc | apply pw_below_drewN | apply below_drew1) | exact HB.out)) hb); have n1_ := Aside0.mk (hbox); have n2_ := Aside0.mk ((by rw [hg]; exact (below_size (by repeat (first | (with_reducible first | exact HB.out | apply below_alloc | apply pw_below_drewN | apply below_drew1) | exact HB.out))) : w.heap.size ≤ gb248)); have n3_ := Aside0.mk ((by rw [hg]; exact (below_size (by repeat (first | (with_reducible first | exact HB.out | apply below_alloc | apply pw_below_drewN | apply below_drew1) | exact HB.out))) : w.heap.size ≤ gb248)); clear HB; have HB := n0_; have BK248 := n1_; have GW248 := n2_; have GE248 := n3_; clear n0_ n1_ n2_ n3_; clear hb hbox hg) | ((with_reducible refine gate_callee (f := 16) rfl ?_); refine goesL_ (some 11) rfl rfl Tryz.func16 (by kernel_rfl) rfl #[] rfl (by (try simp only [List.map_toArray, List.map_cons, List.map_nil]); first | done | rfl | (simp only [List.length_drop, List.length_take]; rfl)) ?_; (with_reducible refine (guidevanelaw06_awake.calls  false _ A2.out).mono ?_); rintro e w61 ⟨rfl, hb⟩; refine ⟨_, rfl, ?_⟩; have n0_ := Aside0.mk (blk_below (g := gb248) (o := .cells #[.slice A0_0 l0_0.length c0_0] 42 (0, 0)) (by (with_reducible repeat (first | refine blk_drewN ?_ _ | refine blk_drew ?_ | refine blk_alloc ?_ _)); exact BK248.out) hb); have n1_ := Aside0.mk (below_step (by repeat (first | (with_reducible first | exact HB.out | apply below_alloc | apply pw_below_drewN | apply below_drew1 | refine below_set ?_ GE248.out) | exact HB.out)) hb); clear BK248; clear HB; have BK248 := n0_; have HB := n1_; clear n0_ n1_; (try clear hb); (try clear hb2); (try clear hk); (try clear hi)))
    go_ret
    exact ⟨by first | rfl | (simp [errW_none, errW_some] <;> rfl) | (simp [*, errW_none, errW_some] <;> rfl), by repeat (first | (with_reducible first | exact HB.out | apply below_alloc | apply pw_below_drewN | apply below_drew1 | refine below_set ?_ GE248.out) | exact HB.out)⟩
end Go.Proofs.YtmpondcccbmlhaaGreat.Q
namespace Go.Proofs.YtmpondcccbmlhaaGreat.Ext
open Go.RowKit Go.Proofs.YtmpondcccbmlhaaGreatW.PrintWords Go.Proofs.YtmpondcccbmlhaaGreatW.PrintLast Go.Proofs.YtmpondcccbmlhaaGreatW.PrintMore
open Q (S58 z58 k58)
theorem rtable_eval {p : List Int} (h : PolyOk p) : guidevaneref06_Table.f p = some (tableOf p) := by
  refine if_pos ⟨h.len2, h.len5, fun x hx => ?_⟩
  obtain ⟨i, hil, rfl⟩ := List.getElem_of_mem hx
  have hb := h.pb i
  have e : ent p i = p[i] := by simp [ent, hil]
  rw [e] at hb
  omega
theorem rstable_eval {p : List Int} (h : PolyOk p) : Q.guidevaneref06_Stable.f p = some (stab p) := by
  have h2 := h.len2
  have h5 := h.len5
  unfold Q.guidevaneref06_Stable.f
  rw [rtable_eval h]
  simp only [Option.bind_some]
  obtain ⟨m, -, hm, he, hpos, hneg⟩ := tabGo_spec p p.length 0 (by omega) (by omega)
  have he2 : tableOf p = rowsTo p m := he
  rw [he2, rowsTo_len]
  by_cases hml : m = p.length
  · rw [if_pos (by omega), w64 (by omega) (by omega), if_pos (by omega), if_pos (by omega), show ((m : Int) - 1) = ((m - 1 : Nat) : Int) by omega, rdL2_nat, rowsTo_get _ _ _ (by omega), if_pos (by rw [row_len]; omega)]
    congr 1
    have e0 : rd (row p (m - 1)) 0 = ent (row p (m - 1)) 0 := by have := rd_nat (row p (m - 1)) 0; simpa [ent] using this
    rw [e0]
    unfold stab
    rw [decide_eq_decide]
    constructor
    · intro hl j hj
      by_cases hjm : j + 1 < m
      · exact hpos j (by omega) hjm
      · rw [show j = m - 1 by omega]; exact hl
    · intro ha; exact ha (m - 1) (by omega)
  · rw [if_neg (by omega)]
    congr 1
    unfold stab
    symm
    rw [decide_eq_false_iff_not]
    intro ha
    have := hneg (by omega)
    have := ha (m - 1) (by omega)
    omega
theorem lists_loop (a : List (List Int)) (hl : a.length ≤ 1000) (hx : ∀ i, (a.getD i []).length ≤ 1000) : ∀ (d k i : Nat), a.length - i = d → i ≤ a.length → d + 1001 < k → Q.guidevanebase_Lists.l0 k a a (i : Int) = some true := by
  intro d
  induction d with
  | zero =>
    intro k i hd hi hk
    obtain ⟨k, rfl⟩ : ∃ m, k = m + 1 := ⟨k - 1, by omega⟩
    rw [Q.guidevanebase_Lists.l0, if_neg (by omega)]
  | succ d ih =>
    intro k i hd hi hk
    obtain ⟨k, rfl⟩ : ∃ m, k = m + 1 := ⟨k - 1, by omega⟩
    have hxi := hx i
    rw [Q.guidevanebase_Lists.l0, if_pos (by omega), if_pos (by omega), if_pos (by omega), rdL2_nat, ints_eval _ _ (by omega) k (by omega)]
    simp only [Option.bind_some, decide_true, if_true]
    rw [w64 (by omega) (by omega), show ((i : Int) + 1) = ((i + 1 : Nat) : Int) by omega]
    exact ih k (i + 1) (by omega) (by omega) (by omega)
theorem lists_refl (a : List (List Int)) (hl : a.length ≤ 1000) (hx : ∀ i, (a.getD i []).length ≤ 1000) (k : Nat) (hk : 3000 < k) : Q.guidevanebase_Lists.f k a a = some true := by
  unfold Q.guidevanebase_Lists.f
  rw [if_pos rfl]
  exact lists_loop a hl hx a.length k 0 (by omega) (by omega) (by omega)
theorem rdL4_nat (l : List (List Bool)) (k : Nat) : Q.rd_L4 l (k : Int) = l.getD k [] := by simp [Q.rd_L4]
theorem pats_len (q : Nat) (hq : q < 4) : (pats.getD q []).length = 5 := by
  obtain rfl | rfl | rfl | rfl : q = 0 ∨ q = 1 ∨ q = 2 ∨ q = 3 := by omega
  all_goals rfl
theorem corner_loop (l : List S58) (h2 : 1 ≤ l.length) (h5 : l.length ≤ 5) (q : Nat) (hq : q < 4) (rows : List (List Int)) (hr : rows.length ≤ 4) : ∀ (d k i : Nat), l.length - i = d → i ≤ l.length →
    Q.guidevaneref06_Corners.l1 (k + d + 1) pats (l.length : Int) rows (q : Int) ((corner (pats.getD q []) l).take i) (i : Int) l = Q.guidevaneref06_Corners.l0 k pats (l.length : Int) (rows ++ [corner (pats.getD q []) l]) ((q + 1 : Nat) : Int) l := by
  have hpl := pats_len q hq
  have hp4 : pats.length = 4 := rfl
  generalize hpat : pats.getD q [] = pat at hpl
  intro d
  induction d with
  | zero =>
    intro k i hd hi
    have hil : i = l.length := by omega
    subst hil
    rw [Q.guidevaneref06_Corners.l1, if_neg (by omega), if_pos (by omega), w64 (by omega) (by omega), List.take_of_length_le (by simp [corner])]
    rfl
  | succ d ih =>
    intro k i hd hi
    have hil : i < l.length := by omega
    have ht := corner_take pat l i hil
    have hlen : ((corner pat l).take i).length ≤ 5 := by rw [List.length_take]; omega
    have ih' := ih k (i + 1) (by omega) (by omega)
    rw [ht] at ih'
    rw [show k + (d + 1) + 1 = (k + d + 1) + 1 by omega, Q.guidevaneref06_Corners.l1, if_pos (by omega), if_pos (by omega), if_pos (by omega), w64 (n := (l.length : Int) - 1) (by omega) (by omega), w64 (n := (l.length : Int) - 1 - (i : Int)) (by omega) (by omega), if_pos (by omega), rdL4_nat, hpat, if_pos (by omega),
      show (l.length : Int) - 1 - (i : Int) = ((l.length - 1 - i : Nat) : Int) by omega, w64 (n := (i : Int) + 1) (by omega) (by omega), show ((i : Int) + 1) = ((i + 1 : Nat) : Int) by omega, rdBox_nat]
    have e : rdOf false pat ((l.length - 1 - i : Nat) : Int) = pat.getD (l.length - 1 - i) false := by simp [rdOf]
    rw [e, ← ih']
    unfold cornerAt
    by_cases hb : pat.getD (l.length - 1 - i) false = true
    · rw [if_pos hb, if_pos hb, if_pos (by omega), if_pos (by omega), if_pos (by omega)]
    · rw [if_neg hb, if_neg hb, if_pos (by omega), if_pos (by omega), if_pos (by omega)]
theorem rcorners_eval (l : List S58) (h2 : 1 ≤ l.length) (h5 : l.length ≤ 5) (k : Nat) (hk : 60 < k) : Q.guidevaneref06_Corners.f k l = some (cornersOf l) := by
  have step : ∀ (k q : Nat) (rows : List (List Int)), q < 4 → rows.length ≤ 4 → Q.guidevaneref06_Corners.l0 (k + 7) pats (l.length : Int) rows (q : Int) l = Q.guidevaneref06_Corners.l0 (k + 5 - l.length) pats (l.length : Int) (rows ++ [corner (pats.getD q []) l]) ((q + 1 : Nat) : Int) l := by
    intro k q rows hq hr
    have hp4 : pats.length = 4 := rfl
    have := corner_loop l h2 h5 q hq rows hr l.length (k + 5 - l.length) 0 (by omega) (by omega)
    rw [show k + 5 - l.length + l.length + 1 = k + 6 by omega] at this
    rw [Q.guidevaneref06_Corners.l0, if_pos (by omega)]
    exact this
  show Q.guidevaneref06_Corners.l0 k pats (l.length : Int) [] ((0 : Nat) : Int) l = _
  rw [show k = (k - 7) + 7 by omega, step _ 0 [] (by omega) (by simp), show k - 7 + 5 - l.length = (k - 7 + 5 - l.length - 7) + 7 by omega, step _ 1 _ (by omega) (by simp),
    show k - 7 + 5 - l.length - 7 + 5 - l.length = (k - 7 + 5 - l.length - 7 + 5 - l.length - 7) + 7 by omega, step _ 2 _ (by omega) (by simp),
    show k - 7 + 5 - l.length - 7 + 5 - l.length - 7 + 5 - l.length = (k - 7 + 5 - l.length - 7 + 5 - l.length - 7 + 5 - l.length - 7) + 7 by omega, step _ 3 _ (by omega) (by simp)]
  obtain ⟨m, hm⟩ : ∃ m, k - 7 + 5 - l.length - 7 + 5 - l.length - 7 + 5 - l.length - 7 + 5 - l.length = m + 1 := ⟨_, (Nat.succ_pred_eq_of_pos (by omega)).symm⟩
  rw [hm, Q.guidevaneref06_Corners.l0, if_neg (by decide)]
  rfl
end Go.Proofs.YtmpondcccbmlhaaGreat.Ext
namespace Go.Proofs.YtmpondcccbmlhaaGreat.Ext
open Go.RowKit Go.Proofs.YtmpondcccbmlhaaGreatW.PrintWords Go.Proofs.YtmpondcccbmlhaaGreatW.PrintLast Go.Proofs.YtmpondcccbmlhaaGreatW.PrintMore
open Q (S58 z58 k58)
theorem robust_loop (cs : List (List Int)) (hl : cs.length ≤ 1000) (hc : ∀ c ∈ cs, PolyOk c) : ∀ (d k i : Nat), cs.length - i = d → i ≤ cs.length → d < k → Q.guidevaneref06_Robust.l0 k cs (i : Int) = some ((cs.drop i).all stab) := by
  intro d
  induction d with
  | zero =>
    intro k i hd hi hk
    obtain ⟨k, rfl⟩ : ∃ m, k = m + 1 := ⟨k - 1, by omega⟩
    rw [Q.guidevaneref06_Robust.l0, if_neg (by omega), List.drop_of_length_le (by omega)]; rfl
  | succ d ih =>
    intro k i hd hi hk
    obtain ⟨k, rfl⟩ : ∃ m, k = m + 1 := ⟨k - 1, by omega⟩
    have hil : i < cs.length := by omega
    have e : cs.getD i [] = cs[i] := by simp [List.getD_eq_getElem?_getD, hil]
    rw [Q.guidevaneref06_Robust.l0, if_pos (by omega), if_pos (by omega), rdL2_nat, e, rstable_eval (hc _ (List.getElem_mem hil))]
    simp only [Option.bind_some]
    rw [List.drop_eq_getElem_cons hil, List.all_cons]
    cases hb : stab cs[i] with
    | true =>
      rw [if_pos rfl, w64 (by omega) (by omega), show ((i : Int) + 1) = ((i + 1 : Nat) : Int) by omega, ih k (i + 1) (by omega) (by omega) (by omega)]; simp
    | false => rw [if_neg (by decide)]; simp
theorem rrobust_eval {l : List S58} (h : BoxOk l) (k : Nat) (hk : 60 < k) : Q.guidevaneref06_Robust.f k l = some (robust l) := by
  have h2 := h.len2
  have h5 := h.len5
  unfold Q.guidevaneref06_Robust.f
  rw [rcorners_eval l (by omega) h5 k hk]
  simp only [Option.bind_some]
  exact robust_loop (cornersOf l) (by rw [cornersOf_len]; omega) (fun c hc => by
    obtain ⟨pat, _, rfl⟩ := List.mem_map.1 hc
    exact (in_ok h (corner_in h pat)).1) 4 k 0 (by rw [cornersOf_len]) (by omega) (by omega)
theorem pure_boxes (l : List S58) (k : Nat) (hk : 70000 < k) : Q.guidevanelaw06_GovernorBoxes.f k l = some true := by
  unfold Q.guidevanelaw06_GovernorBoxes.f guidevanelaw06_awake.f
  simp only [Option.bind_some, if_true]
  by_cases h7 : (l.length : Int) > 7
  · rw [if_pos h7]
  · rw [if_neg h7, copyBox_eval l (by omega)]
    simp only [Option.bind_some]
    rw [show governor_CheckBox.f l = some (boxErr l) from rfl, rcheckBox_eval l k (by omega)]
    simp only [Option.bind_some]
    by_cases h0 : (boxErr l).2 = 0
    · have hb := box_of h0
      have h5 := hb.len5
      have h2 := hb.len2
      have e1 : Q.governor_CornersOf.f l = some (cornersOf l, 0) := by
        unfold Q.governor_CornersOf.f
        rw [show governor_CheckBox.f l = some (boxErr l) from rfl]
        simp only [Option.bind_some]
        rw [if_pos h0, show governor_corners.f l = some (cornersOf l) from if_pos ⟨by omega, h5⟩]
        rfl
      rw [e1, isRobust_eval hb]
      simp only [Option.bind_some]
      obtain ⟨k', rfl⟩ : ∃ k', k = k' + 1 := ⟨k - 1, by omega⟩
      rw [if_pos trivial, Q.guidevanelaw06_GovernorBoxes.j0, if_neg (by simp), if_pos h0, if_pos rfl, rcorners_eval l (by omega) h5 k' (by omega)]
      simp only [Option.bind_some]
      rw [lists_refl _ (by rw [cornersOf_len]; omega) (fun i => by
        by_cases hi : i < 4
        · obtain rfl | rfl | rfl | rfl : i = 0 ∨ i = 1 ∨ i = 2 ∨ i = 3 := by omega
          all_goals (simp [cornersOf, pats, corner]; omega)
        · rw [List.getD_eq_getElem?_getD, List.getElem?_eq_none (by rw [cornersOf_len]; omega)]; simp) k' (by omega)]
      simp only [Option.bind_some, if_true]
      rw [rrobust_eval hb k' (by omega)]
      simp
    · have e1 : Q.governor_CornersOf.f l = some ([], (boxErr l).2) := by
        unfold Q.governor_CornersOf.f
        rw [show governor_CheckBox.f l = some (boxErr l) from rfl]
        simp only [Option.bind_some]
        rw [if_neg h0]
      have e2 : governor_IsRobust.f l = some (false, (boxErr l).2) := by
        unfold governor_IsRobust.f
        rw [if_neg h0]
      rw [e1, e2]
      simp only [Option.bind_some]
      obtain ⟨k', rfl⟩ : ∃ k', k = k' + 1 := ⟨k - 1, by omega⟩
      rw [if_pos trivial, Q.guidevanelaw06_GovernorBoxes.j0, if_neg (by simp), if_neg h0, if_pos rfl, if_pos rfl, if_pos (by simp)]
      rfl
end Go.Proofs.YtmpondcccbmlhaaGreat.Ext
