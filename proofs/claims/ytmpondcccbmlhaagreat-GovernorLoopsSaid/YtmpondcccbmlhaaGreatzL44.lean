/- A part of the claim L: the texts Q26, Rst, without what the claim does not lean on. -/
import Derived.ArgAppend
import Derived.Below
import Derived.BigQuiet
import Derived.Deep.AppendLies
import Derived.Deep.CutBlock
import Derived.Deep.DeepCutAuto
import Derived.Deep.Draws
import Derived.Deep.LoopGhost
import Derived.Deep.OwnRows
import Derived.Deep.QuietTactic
import Derived.Deep.RegionHeld3
import Derived.Deep.RegionWith
import Derived.Deep.WholeRow
import Derived.Ground.SlsfProg
import Derived.KernelRfl
import Derived.Laws.BitsLemmas
import Derived.Laws.BytesArg
import Derived.Laws.ComplexArith
import Derived.Laws.IdiomCopy
import Derived.Laws.MakeOwn
import Derived.Laws.OwnMore
import Derived.Laws.Rows
import Derived.Laws.Slices
import Derived.Laws.StructEq
import Derived.Lib.AppendStr
import Derived.Lib.ConvBytes
import Derived.Lib.Hide
import Derived.Lib.LazyBuf
import Derived.LoopIn
import Derived.LoopNIn
import Derived.Maps.AppendAt
import Derived.OrdersHeld
import Derived.Outline
import Derived.OwnWalk
import Derived.OwnWalkIn
import Derived.RangeFuncBound
import Derived.RangeFuncCalls
import Derived.RangeFuncLeaves
import Derived.RangeFuncNested
import Derived.RowKit
import Derived.RowKit3
import Derived.Shelf.Abstract
import Derived.Shelf.RegionOpen
import Derived.Shelf.SlSortCmp.HeapSort1
import Derived.Shelf.SlSortCmp.Insertion
import Derived.Shelf.SlSortCmp.Insertion1
import Derived.Shelf.SlSortCmp.Median1
import Derived.Shelf.SlSortCmp.PartialInsertion1
import Derived.Shelf.SlSortCmp.Partition1
import Derived.Shelf.SlSortCmp.PartitionEqual1
import Derived.Shelf.SlSortCmp.Pdq1
import Derived.Shelf.SlSortCmp.Pivot1
import Derived.Shelf.SlSortCmp.ReverseRange1
import Derived.Shelf.SlSortCmp.SiftDown1
import Derived.Shelf.SlSortCmp.Whole1
import Derived.Shelf.Slices.Empties2
import Derived.Shelf.Slices.Equal
import Derived.Shelf.Slices.In.SortNone
import Derived.Shelf.Small.Bits
import Derived.Shelf.Sort.Plain
import Derived.Shelf.Strconv.Itoa0
import Derived.Sort.CutIn
import Derived.Tactics
import Derived.TacticsInMore
import Derived.WalkKit
import Derived.WalkLawsBesides
import Derived.WideLaws
import Derived.Test.YtmpondcccbmlhaaGreatProg
import Derived.Test.YtmpondcccbmlhaaGreatzL0
import Derived.Test.YtmpondcccbmlhaaGreatzL1
import Derived.Test.YtmpondcccbmlhaaGreatzL2
import Derived.Test.YtmpondcccbmlhaaGreatzL3
import Derived.Test.YtmpondcccbmlhaaGreatzL4
import Derived.Test.YtmpondcccbmlhaaGreatzL5
import Derived.Test.YtmpondcccbmlhaaGreatzL6
import Derived.Test.YtmpondcccbmlhaaGreatzL7
import Derived.Test.YtmpondcccbmlhaaGreatzL8
import Derived.Test.YtmpondcccbmlhaaGreatzL9
import Derived.Test.YtmpondcccbmlhaaGreatzL10
import Derived.Test.YtmpondcccbmlhaaGreatzL12
import Derived.Test.YtmpondcccbmlhaaGreatzL13
import Derived.Test.YtmpondcccbmlhaaGreatzL14
import Derived.Test.YtmpondcccbmlhaaGreatzL15
import Derived.Test.YtmpondcccbmlhaaGreatzL16
import Derived.Test.YtmpondcccbmlhaaGreatzL17
import Derived.Test.YtmpondcccbmlhaaGreatzL18
import Derived.Test.YtmpondcccbmlhaaGreatzL19
import Derived.Test.YtmpondcccbmlhaaGreatzL20
import Derived.Test.YtmpondcccbmlhaaGreatzL21
import Derived.Test.YtmpondcccbmlhaaGreatzL22
import Derived.Test.YtmpondcccbmlhaaGreatzL23
import Derived.Test.YtmpondcccbmlhaaGreatzL24
import Derived.Test.YtmpondcccbmlhaaGreatzL25
import Derived.Test.YtmpondcccbmlhaaGreatzL26
import Derived.Test.YtmpondcccbmlhaaGreatzL27
import Derived.Test.YtmpondcccbmlhaaGreatzL28
import Derived.Test.YtmpondcccbmlhaaGreatzL29
import Derived.Test.YtmpondcccbmlhaaGreatzL30
import Derived.Test.YtmpondcccbmlhaaGreatzL31
import Derived.Test.YtmpondcccbmlhaaGreatzL32
import Derived.Test.YtmpondcccbmlhaaGreatzL33
import Derived.Test.YtmpondcccbmlhaaGreatzL34
import Derived.Test.YtmpondcccbmlhaaGreatzL35
import Derived.Test.YtmpondcccbmlhaaGreatzL36
import Derived.Test.YtmpondcccbmlhaaGreatzL37
import Derived.Test.YtmpondcccbmlhaaGreatzL38
import Derived.Test.YtmpondcccbmlhaaGreatzL39
import Derived.Test.YtmpondcccbmlhaaGreatzL40
import Derived.Test.YtmpondcccbmlhaaGreatzL41
import Derived.Test.YtmpondcccbmlhaaGreatzL42
import Derived.Test.YtmpondcccbmlhaaGreatzL43
namespace Go.Proofs.YtmpondcccbmlhaaGreat.Q
open Go.RowKit Go.Proofs.YtmpondcccbmlhaaGreatW.PrintWords Go.Proofs.YtmpondcccbmlhaaGreatW.PrintLast Go.Proofs.YtmpondcccbmlhaaGreatW.PrintMore
attribute [local go_sem] max2_int min2_int max_two min_two max_three min_three max_four min_four   
set_option linter.unusedVariables false
set_option linter.unusedSimpArgs false
open Go.Proofs.YtmpondcccbmlhaaGreat.Ext
def gr6_Stable.f (l0 : List Int) : Option (Bool) := (gr6_Table.f l0).bind fun t237 => (if (t237.length : Int) = (l0.length : Int) then (if 0 ≤ (wrap64 ((t237.length : Int) - 1)) then (if (wrap64 ((t237.length : Int) - 1)) < (t237.length : Int) then (if 0 < ((rd_L2 t237 (wrap64 ((t237.length : Int) - 1))).length : Int) then (some (decide ((rd (rd_L2 t237 (wrap64 ((t237.length : Int) - 1))) 0) > 0))) else (none)) else (none)) else (none)) else (some false))
set_option maxHeartbeats 8000000 in
set_option maxRecDepth 100000 in
theorem gr6_Stable.calls (A0 : Option Addr) (c0 : Nat) (l0 : List Int) (r : Bool) (w : World) (hr0 : Kd.C (Kd.int .i64) w A0 l0.length l0) (hc0 : l0.length ≤ c0) (h : gr6_Stable.f l0 = some r) :
  Calls Tryz.prog 67 #[.slice A0 l0.length c0] w fun e w' => e = .returned (.bool r) ∧ Below w.heap.size w w' := by
 have HR0 := Asd.mk hr0
 have HC0 := Asd.mk hc0
 clear hr0 hc0
 have HB := Asd.mk (Below.refl w.heap.size w)
 have H : ((gr6_Table.f l0).bind fun t237 => (if (t237.length : Int) = (l0.length : Int) then (if 0 ≤ (wrap64 ((t237.length : Int) - 1)) then (if (wrap64 ((t237.length : Int) - 1)) < (t237.length : Int) then (if 0 < ((rd_L2 t237 (wrap64 ((t237.length : Int) - 1))).length : Int) then (some (decide ((rd (rd_L2 t237 (wrap64 ((t237.length : Int) - 1))) 0) > 0))) else (none)) else (none)) else (none)) else (some false))) = some r := h
 clear h
 replace H := Option.bind_eq_some_iff.mp H
 obtain ⟨t237, A20, H⟩ := H
 replace H : (if (t237.length : Int) = (l0.length : Int) then (if 0 ≤ (wrap64 ((t237.length : Int) - 1)) then (if (wrap64 ((t237.length : Int) - 1)) < (t237.length : Int) then (if 0 < ((rd_L2 t237 (wrap64 ((t237.length : Int) - 1))).length : Int) then (some (decide ((rd (rd_L2 t237 (wrap64 ((t237.length : Int) - 1))) 0) > 0))) else (none)) else (none)) else (none)) else (some false)) = some r := H
 have A2 := Asd.mk A20
 clear A20
 by_cases c3 : (t237.length : Int) = (l0.length : Int)
 ·rw [if_pos c3] at H
  have c3b0 : ((t237.length : Int) == (l0.length : Int)) = true := beq_iff_eq.mpr c3
  have c3b1 : ((t237.length : Int) != (l0.length : Int)) = false := bne_eq_false_iff_eq.mpr c3
  have c3b2 : (t237.length == l0.length) = true := by first | simpa using c3 | (simp at c3 ⊢; omega)
  clear c3
  obtain ⟨ji4, hji4⟩ : ∃ j_ : Int, (wrap64 ((t237.length : Int) - 1)) = j_ := ⟨_, rfl⟩
  replace H : (if 0 ≤ (ji4) then (if (ji4) < (t237.length : Int) then (if 0 < ((rd_L2 t237 (ji4)).length : Int) then (some (decide ((rd (rd_L2 t237 (ji4)) 0) > 0))) else (none)) else (none)) else (none)) = some r := by first | (rw [hji4] at H; exact H) | (simp only [hji4] at H ⊢; exact H)
  (try rw [hji4] at A2)
  have hji4w : (IntKind.i64.wrap ((t237.length : Int) - 1)) = ji4 := (i64_w _).trans hji4
  by_cases c5 : 0 ≤ (ji4)
  ·rw [if_pos c5] at H
   have c5b0 : decide (0 ≤ (ji4)) = true := decide_eq_true c5
   clear c5
   by_cases c6 : (ji4) < (t237.length : Int)
   ·rw [if_pos c6] at H
    have c6b0 : decide ((ji4) < (t237.length : Int)) = true := decide_eq_true c6
    clear c6
    by_cases c7 : 0 < ((rd_L2 t237 (ji4)).length : Int)
    ·rw [if_pos c7] at H
     have c7b0 : decide (0 < ((rd_L2 t237 (ji4)).length : Int)) = true := decide_eq_true c7
     have c7b1 : decide (0 < (rd_L2 t237 (ji4)).length) = true := decide_eq_true (by omega)
     clear c7
     obtain rfl := Option.some.inj H
     go_enter Tryz.func67, Tryz.ntmps67
     go_wp2_with (first | ((with_reducible refine gate_callee (f := 66) rfl ?_); refine goesL_ (some 5) rfl rfl Tryz.func66 (by kernel_rfl) rfl #[.slice A0 l0.length c0] rfl (by (try simp only [List.map_toArray, List.map_cons, List.map_nil]); first | done | rfl | (simp only [List.length_drop, List.length_take]; rfl)) ?_; (with_reducible refine (gr6_Table.calls _ _ l0 t237 _ ?side1 ?side2 A2.out).mono ?_); (case side1 => repeat (first | exact HR0.out | (with_reducible refine Kd.C_alloc ?_ _) | (with_reducible refine Kd.C_drewN ?_ _) | (with_reducible refine Kd.C_drew ?_))); (case side2 => exact HC0.out); rintro e w8 ⟨v238, rfl, ho0, hb⟩; refine ⟨_, rfl, ?_⟩; have n0_ := Asd.mk (Kd.N_lower (Kd.N_mono (ok' := fun k_ => True) ho0 (fun k_ hk_ => trivial)) (below_size (by repeat (first | (with_reducible first | exact HB.out | apply below_alloc | apply pbN | apply bd1) | exact HB.out)))); have n1_ := Asd.mk (below_step (by repeat (first | (with_reducible first | exact HB.out | apply below_alloc | apply pbN | apply bd1) | exact HB.out)) hb); clear HB; have HO239 := n0_; have HB := n1_; clear n0_ n1_; (try clear hb); (try clear hb2); (try clear hk); (try clear hi); (try clear ho0); obtain ⟨Ao9, co9, eo9⟩ := Kd.N_slice HO239.out; subst eo9; have p240 : 0 ≤ ((ji4) : Int) := of_decide_eq_true (by first | (with_reducible assumption) | assumption); have q240 : (ji4) < (t237.length : Int) := of_decide_eq_true (by first | (with_reducible assumption) | assumption); obtain ⟨ad240, A240_0, c240_0, e240, hx240_0, hl240_0, hi240_0⟩ := at_L2 (Kd.N_reads' HO239.out).2.2 (ji4) p240 q240; cases e240; obtain ⟨ce240, hce240, hMe240, hcc240⟩ := Kd.N_get HO239.out [] (ji4) p240 (by first | exact q240 | exact of_decide_eq_true (by first | (with_reducible assumption) | assumption) | (have e_ := (Kd.N_reads' HO239.out).1; omega)); obtain ⟨ua240_0, uc240_0, rfl, ul240_0, ge240_0⟩ := Kd.FK_slice_open hMe240; have hv240_0 := hcc240 0 _ rfl; rw [Nat.add_zero, show ((Kd.slice 3 (Kd.int .i64))).sz = 1 from rfl, Nat.mul_one] at hv240_0; replace hv240_0 := Option.some.inj (hv240_0.symm.trans hx240_0); injection hv240_0 with hva_ hvn_ hvc_; rw [hva_] at ge240_0; rw [hvc_] at ul240_0; have HL240_0 := Asd.mk (show Kd.V (Kd.int .i64) 3 _ w.heap.size _ _ (rd_L2 t237 (ji4)) from Kd.V_mk ul240_0 ge240_0); clear hva_ hvn_ hvc_ ge240_0 ul240_0; clear hcc240 hce240; have HR240_0 := Asd.mk hi240_0; have HC240_0 := Asd.mk hl240_0; clear hi240_0 hl240_0; replace p240 := eq_true p240; replace q240 := eq_true q240; have p241 : 0 ≤ (0 : Int) := (by omega); have q241 : 0 < ((rd_L2 t237 (ji4)).length : Int) := of_decide_eq_true (by first | (with_reducible assumption) | assumption); obtain ⟨ad241, e241, hx241_0⟩ := Kd.at_int (by repeat (first | (with_reducible exact HR240_0.out) | (with_reducible refine Kd.C_alloc ?_ _) | (with_reducible refine Kd.C_drewN ?_ _) | (with_reducible refine Kd.C_drew ?_) | exact HR240_0.out)) 0 p241 q241; cases e241; have qi241 : (0 < (rd_L2 t237 (ji4)).length) = True := eq_true (by omega); (try rw [show ((0 : Int)).toNat = 0 from rfl] at hx241_0); (try rw [Addr.add_zero'] at hx241_0); replace p241 := eq_true p241; replace q241 := eq_true q241))
     go_ret
     exact ⟨by first | rfl | (simp [errW_none, errW_some] <;> rfl) | (simp only [← hji4]; first | rfl | (simp [errW_none, errW_some] <;> rfl)) | (simp [*, errW_none, errW_some] <;> rfl), by repeat (first | (with_reducible first | exact HB.out | apply below_alloc | apply pbN | apply bd1) | exact HB.out)⟩
    ·rw [if_neg c7] at H
     exact absurd H (by simp)
   ·rw [if_neg c6] at H
    exact absurd H (by simp)
  ·rw [if_neg c5] at H
   exact absurd H (by simp)
 ·rw [if_neg c3] at H
  have c3b0 : ((t237.length : Int) == (l0.length : Int)) = false := beq_eq_false_iff_ne.mpr c3
  have c3b1 : ((t237.length : Int) != (l0.length : Int)) = true := bne_iff_ne.mpr c3
  have c3b2 : (t237.length == l0.length) = false := by first | simpa using c3 | (simp at c3 ⊢; omega)
  obtain rfl := Option.some.inj H
  go_enter Tryz.func67, Tryz.ntmps67
  go_wp2_with (first | ((with_reducible refine gate_callee (f := 66) rfl ?_); refine goesL_ (some 5) rfl rfl Tryz.func66 (by kernel_rfl) rfl #[.slice A0 l0.length c0] rfl (by (try simp only [List.map_toArray, List.map_cons, List.map_nil]); first | done | rfl | (simp only [List.length_drop, List.length_take]; rfl)) ?_; (with_reducible refine (gr6_Table.calls _ _ l0 t237 _ ?side1 ?side2 A2.out).mono ?_); (case side1 => repeat (first | exact HR0.out | (with_reducible refine Kd.C_alloc ?_ _) | (with_reducible refine Kd.C_drewN ?_ _) | (with_reducible refine Kd.C_drew ?_))); (case side2 => exact HC0.out); rintro e w10 ⟨v238, rfl, ho0, hb⟩; refine ⟨_, rfl, ?_⟩; have n0_ := Asd.mk (Kd.N_lower (Kd.N_mono (ok' := fun k_ => True) ho0 (fun k_ hk_ => trivial)) (below_size (by repeat (first | (with_reducible first | exact HB.out | apply below_alloc | apply pbN | apply bd1) | exact HB.out)))); have n1_ := Asd.mk (below_step (by repeat (first | (with_reducible first | exact HB.out | apply below_alloc | apply pbN | apply bd1) | exact HB.out)) hb); clear HB; have HO239 := n0_; have HB := n1_; clear n0_ n1_; (try clear hb); (try clear hb2); (try clear hk); (try clear hi); (try clear ho0); obtain ⟨Ao11, co11, eo11⟩ := Kd.N_slice HO239.out; subst eo11))
  go_ret
  exact ⟨by first | rfl | (simp [errW_none, errW_some] <;> rfl) | (simp [*, errW_none, errW_some] <;> rfl), by repeat (first | (with_reducible first | exact HB.out | apply below_alloc | apply pbN | apply bd1) | exact HB.out)⟩
end Go.Proofs.YtmpondcccbmlhaaGreat.Q
namespace Go.Proofs.YtmpondcccbmlhaaGreat.Ext
open Go.RowKit Go.Proofs.YtmpondcccbmlhaaGreatW.PrintWords Go.Proofs.YtmpondcccbmlhaaGreatW.PrintLast Go.Proofs.YtmpondcccbmlhaaGreatW.PrintMore
open Q (S58 z58 k58)
theorem rtable_eval {p : List Int} (h : PolyOk p) : gr6_Table.f p = some (tableOf p) := by
 refine if_pos ⟨h.len2, h.len5, fun x hx => ?_⟩
 obtain ⟨i, hil, rfl⟩ := List.getElem_of_mem hx
 have hb := h.pb i
 have e : ent p i = p[i] := by simp [ent, hil]
 rw [e] at hb
 omega
theorem rstable_eval {p : List Int} (h : PolyOk p) : Q.gr6_Stable.f p = some (stab p) := by
 have h2 := h.len2
 have h5 := h.len5
 unfold Q.gr6_Stable.f
 rw [rtable_eval h]
 simp only [Option.bind_some]
 obtain ⟨m, -, hm, he, hpos, hneg⟩ := tabGo_spec p p.length 0 (by omega) (by omega)
 have he2 : tableOf p = rowsTo p m := he
 rw [he2, rowsTo_len]
 by_cases hml : m = p.length
 ·rw [if_pos (by omega), w64 (by omega) (by omega), if_pos (by omega), if_pos (by omega), show ((m : Int) - 1) = ((m - 1 : Nat) : Int) by omega, rdL2_nat, rowsTo_get _ _ _ (by omega), if_pos (by rw [row_len]; omega)]
  congr 1
  have e0 : rd (row p (m - 1)) 0 = ent (row p (m - 1)) 0 := by have := rd_nat (row p (m - 1)) 0; simpa [ent] using this
  rw [e0]
  unfold stab
  rw [decide_eq_decide]
  constructor
  ·intro hl j hj
   by_cases hjm : j + 1 < m
   ·exact hpos j (by omega) hjm
   ·rw [show j = m - 1 by omega]; exact hl
  ·intro ha; exact ha (m - 1) (by omega)
 ·rw [if_neg (by omega)]
  congr 1
  unfold stab
  symm
  rw [decide_eq_false_iff_not]
  intro ha
  have := hneg (by omega)
  have := ha (m - 1) (by omega)
  omega
end Go.Proofs.YtmpondcccbmlhaaGreat.Ext
