/- A part of the claim T: the texts Q26, Rst, without what the claim does not lean on. -/
import Derived.Test.YtmpondcccbmlhaaGreatzT12
import Derived.Test.YtmpondcccbmlhaaGreatzT23
import Derived.Test.YtmpondcccbmlhaaGreatzT41
import Derived.Test.YtmpondcccbmlhaaGreatzT42
namespace Go.Proofs.YtmpondcccbmlhaaGreat.Q
open Go.RowKit Go.Proofs.YtmpondcccbmlhaaGreatW.PrintWords Go.Proofs.YtmpondcccbmlhaaGreatW.PrintLast Go.Proofs.YtmpondcccbmlhaaGreatW.PrintMore
attribute [local go_sem] max2_int min2_int max_two min_two max_three min_three max_four min_four   
set_option linter.unusedVariables false
set_option linter.unusedSimpArgs false
open Go.Proofs.YtmpondcccbmlhaaGreat.Ext
def gr6_Stable.f (l0 : List Int) : Option (Bool) := (gr6_Table.f l0).bind fun t237 => (if (t237.length : Int) = (l0.length : Int) then (if 0 ≤ (wrap64 ((t237.length : Int) - 1)) then (if (wrap64 ((t237.length : Int) - 1)) < (t237.length : Int) then (if 0 < ((rd_L2 t237 (wrap64 ((t237.length : Int) - 1))).length : Int) then (some (decide ((rd (rd_L2 t237 (wrap64 ((t237.length : Int) - 1))) 0) > 0))) else (none)) else (none)) else (none)) else (some false))
set_option maxHeartbeats 8000000 in
set_option maxRecDepth 100000 in
theorem gr6_Stable.calls (A0 : Option Addr) (c0 : Nat) (l0 : List Int) (r : Bool) (w : World) (hr0 : Kd.C (Kd.int .i64) w A0 l0.length l0) (hc0 : l0.length ≤ c0) (h : gr6_Stable.f l0 = some r) :
  Calls Tryz.prog 67 #[.slice A0 l0.length c0] w fun e w' => e = .returned (.bool r) ∧ Below w.heap.size w w' := by
 have HR0 := Asd.mk hr0
 have HC0 := Asd.mk hc0
 clear hr0 hc0
 have HB := Asd.mk (Below.refl w.heap.size w)
 have H : ((gr6_Table.f l0).bind fun t237 => (if (t237.length : Int) = (l0.length : Int) then (if 0 ≤ (wrap64 ((t237.length : Int) - 1)) then (if (wrap64 ((t237.length : Int) - 1)) < (t237.length : Int) then (if 0 < ((rd_L2 t237 (wrap64 ((t237.length : Int) - 1))).length : Int) then (some (decide ((rd (rd_L2 t237 (wrap64 ((t237.length : Int) - 1))) 0) > 0))) else (none)) else (none)) else (none)) else (some false))) = some r := h
 clear h
 replace H := Option.bind_eq_some_iff.mp H
 obtain ⟨t237, A20, H⟩ := H
 replace H : (if (t237.length : Int) = (l0.length : Int) then (if 0 ≤ (wrap64 ((t237.length : Int) - 1)) then (if (wrap64 ((t237.length : Int) - 1)) < (t237.length : Int) then (if 0 < ((rd_L2 t237 (wrap64 ((t237.length : Int) - 1))).length : Int) then (some (decide ((rd (rd_L2 t237 (wrap64 ((t237.length : Int) - 1))) 0) > 0))) else (none)) else (none)) else (none)) else (some false)) = some r := H
 have A2 := Asd.mk A20
 clear A20
 by_cases c3 : (t237.length : Int) = (l0.length : Int)
 ·rw [if_pos c3] at H
  have c3b0 : ((t237.length : Int) == (l0.length : Int)) = true := beq_iff_eq.mpr c3
  have c3b1 : ((t237.length : Int) != (l0.length : Int)) = false := bne_eq_false_iff_eq.mpr c3
  have c3b2 : (t237.length == l0.length) = true := by first | simpa using c3 | (simp at c3 ⊢; omega)
  clear c3
  obtain ⟨ji4, hji4⟩ : ∃ j_ : Int, (wrap64 ((t237.length : Int) - 1)) = j_ := ⟨_, rfl⟩
  replace H : (if 0 ≤ (ji4) then (if (ji4) < (t237.length : Int) then (if 0 < ((rd_L2 t237 (ji4)).length : Int) then (some (decide ((rd (rd_L2 t237 (ji4)) 0) > 0))) else (none)) else (none)) else (none)) = some r := by first | (rw [hji4] at H; exact H) | (simp only [hji4] at H ⊢; exact H)
  (try rw [hji4] at A2)
  have hji4w : (IntKind.i64.wrap ((t237.length : Int) - 1)) = ji4 := (i64_w _).trans hji4
  by_cases c5 : 0 ≤ (ji4)
  ·rw [if_pos c5] at H
   have c5b0 : decide (0 ≤ (ji4)) = true := decide_eq_true c5
   clear c5
   by_cases c6 : (ji4) < (t237.length : Int)
   ·rw [if_pos c6] at H
    have c6b0 : decide ((ji4) < (t237.length : Int)) = true := decide_eq_true c6
    clear c6
    by_cases c7 : 0 < ((rd_L2 t237 (ji4)).length : Int)
    ·rw [if_pos c7] at H
     have c7b0 : decide (0 < ((rd_L2 t237 (ji4)).length : Int)) = true := decide_eq_true c7
     have c7b1 : decide (0 < (rd_L2 t237 (ji4)).length) = true := decide_eq_true (by omega)
     clear c7
     obtain rfl := Option.some.inj H
     go_enter Tryz.func67, Tryz.ntmps67
     go_wp2_with (first | ((with_reducible refine gate_callee (f := 66) rfl ?_); refine goesL_ (some 5) rfl rfl Tryz.func66 (by kernel_rfl) rfl #[.slice A0 l0.length c0] rfl (by (try simp only [List.map_toArray, List.map_cons, List.map_nil]); first | done | rfl | (simp only [List.length_drop, List.length_take]; rfl)) ?_; (with_reducible refine (gr6_Table.calls _ _ l0 t237 _ ?side1 ?side2 A2.out).mono ?_); (case side1 => repeat (first | exact HR0.out | (with_reducible refine Kd.C_alloc ?_ _) | (with_reducible refine Kd.C_drewN ?_ _) | (with_reducible refine Kd.C_drew ?_))); (case side2 => exact HC0.out); rintro e w8 ⟨v238, rfl, ho0, hb⟩; refine ⟨_, rfl, ?_⟩; have n0_ := Asd.mk (Kd.N_lower (Kd.N_mono (ok' := fun k_ => True) ho0 (fun k_ hk_ => trivial)) (below_size (by repeat (first | (with_reducible first | exact HB.out | apply below_alloc | apply pbN | apply bd1) | exact HB.out)))); have n1_ := Asd.mk (below_step (by repeat (first | (with_reducible first | exact HB.out | apply below_alloc | apply pbN | apply bd1) | exact HB.out)) hb); clear HB; have HO239 := n0_; have HB := n1_; clear n0_ n1_; (try clear hb); (try clear hb2); (try clear hk); (try clear hi); (try clear ho0); obtain ⟨Ao9, co9, eo9⟩ := Kd.N_slice HO239.out; subst eo9; have p240 : 0 ≤ ((ji4) : Int) := of_decide_eq_true (by first | (with_reducible assumption) | assumption); have q240 : (ji4) < (t237.length : Int) := of_decide_eq_true (by first | (with_reducible assumption) | assumption); obtain ⟨ad240, A240_0, c240_0, e240, hx240_0, hl240_0, hi240_0⟩ := at_L2 (Kd.N_reads' HO239.out).2.2 (ji4) p240 q240; cases e240; obtain ⟨ce240, hce240, hMe240, hcc240⟩ := Kd.N_get HO239.out [] (ji4) p240 (by first | exact q240 | exact of_decide_eq_true (by first | (with_reducible assumption) | assumption) | (have e_ := (Kd.N_reads' HO239.out).1; omega)); obtain ⟨ua240_0, uc240_0, rfl, ul240_0, ge240_0⟩ := Kd.FK_slice_open hMe240; have hv240_0 := hcc240 0 _ rfl; rw [Nat.add_zero, show ((Kd.slice 3 (Kd.int .i64))).sz = 1 from rfl, Nat.mul_one] at hv240_0; replace hv240_0 := Option.some.inj (hv240_0.symm.trans hx240_0); injection hv240_0 with hva_ hvn_ hvc_; rw [hva_] at ge240_0; rw [hvc_] at ul240_0; have HL240_0 := Asd.mk (show Kd.V (Kd.int .i64) 3 _ w.heap.size _ _ (rd_L2 t237 (ji4)) from Kd.V_mk ul240_0 ge240_0); clear hva_ hvn_ hvc_ ge240_0 ul240_0; clear hcc240 hce240; have HR240_0 := Asd.mk hi240_0; have HC240_0 := Asd.mk hl240_0; clear hi240_0 hl240_0; replace p240 := eq_true p240; replace q240 := eq_true q240; have p241 : 0 ≤ (0 : Int) := (by omega); have q241 : 0 < ((rd_L2 t237 (ji4)).length : Int) := of_decide_eq_true (by first | (with_reducible assumption) | assumption); obtain ⟨ad241, e241, hx241_0⟩ := Kd.at_int (by repeat (first | (with_reducible exact HR240_0.out) | (with_reducible refine Kd.C_alloc ?_ _) | (with_reducible refine Kd.C_drewN ?_ _) | (with_reducible refine Kd.C_drew ?_) | exact HR240_0.out)) 0 p241 q241; cases e241; have qi241 : (0 < (rd_L2 t237 (ji4)).length) = True := eq_true (by omega); (try rw [show ((0 : Int)).toNat = 0 from rfl] at hx241_0); (try rw [Addr.add_zero'] at hx241_0); replace p241 := eq_true p241; replace q241 := eq_true q241))
     go_ret
     exact ⟨by first | rfl | (simp [errW_none, errW_some] <;> rfl) | (simp only [← hji4]; first | rfl | (simp [errW_none, errW_some] <;> rfl)) | (simp [*, errW_none, errW_some] <;> rfl), by repeat (first | (with_reducible first | exact HB.out | apply below_alloc | apply pbN | apply bd1) | exact HB.out)⟩
    ·rw [if_neg c7] at H
     exact absurd H (by simp)
   ·rw [if_neg c6] at H
    exact absurd H (by simp)
  ·rw [if_neg c5] at H
   exact absurd H (by simp)
 ·rw [if_neg c3] at H
  have c3b0 : ((t237.length : Int) == (l0.length : Int)) = false := beq_eq_false_iff_ne.mpr c3
  have c3b1 : ((t237.length : Int) != (l0.length : Int)) = true := bne_iff_ne.mpr c3
  have c3b2 : (t237.length == l0.length) = false := by first | simpa using c3 | (simp at c3 ⊢; omega)
  obtain rfl := Option.some.inj H
  go_enter Tryz.func67, Tryz.ntmps67
  go_wp2_with (first | ((with_reducible refine gate_callee (f := 66) rfl ?_); refine goesL_ (some 5) rfl rfl Tryz.func66 (by kernel_rfl) rfl #[.slice A0 l0.length c0] rfl (by (try simp only [List.map_toArray, List.map_cons, List.map_nil]); first | done | rfl | (simp only [List.length_drop, List.length_take]; rfl)) ?_; (with_reducible refine (gr6_Table.calls _ _ l0 t237 _ ?side1 ?side2 A2.out).mono ?_); (case side1 => repeat (first | exact HR0.out | (with_reducible refine Kd.C_alloc ?_ _) | (with_reducible refine Kd.C_drewN ?_ _) | (with_reducible refine Kd.C_drew ?_))); (case side2 => exact HC0.out); rintro e w10 ⟨v238, rfl, ho0, hb⟩; refine ⟨_, rfl, ?_⟩; have n0_ := Asd.mk (Kd.N_lower (Kd.N_mono (ok' := fun k_ => True) ho0 (fun k_ hk_ => trivial)) (below_size (by repeat (first | (with_reducible first | exact HB.out | apply below_alloc | apply pbN | apply bd1) | exact HB.out)))); have n1_ := Asd.mk (below_step (by repeat (first | (with_reducible first | exact HB.out | apply below_alloc | apply pbN | apply bd1) | exact HB.out)) hb); clear HB; have HO239 := n0_; have HB := n1_; clear n0_ n1_; (try clear hb); (try clear hb2); (try clear hk); (try clear hi); (try clear ho0); obtain ⟨Ao11, co11, eo11⟩ := Kd.N_slice HO239.out; subst eo11))
  go_ret
  exact ⟨by first | rfl | (simp [errW_none, errW_some] <;> rfl) | (simp [*, errW_none, errW_some] <;> rfl), by repeat (first | (with_reducible first | exact HB.out | apply below_alloc | apply pbN | apply bd1) | exact HB.out)⟩
def gr6_Robust.l0 : Nat → List (List Int) → Int → Option (Bool)
 | 0, _, _ => none
 | k + 1, x3, x4 => if x4 < (x3.length : Int) then (if 0 ≤ x4 then ((gr6_Stable.f (rd_L2 x3 x4)).bind fun t247 => (if t247 = true then (gr6_Robust.l0 k x3 (wrap64 (x4 + 1))) else (some false))) else (none)) else (some true)
def gr6_Robust.f (k : Nat) (l0_0 : List (S58)) : Option (Bool) := (gr6_Corners.f k l0_0).bind fun t243 => (gr6_Robust.l0 k t243 0)
set_option maxHeartbeats 8000000 in
set_option maxRecDepth 100000 in
theorem gr6_Robust.calls (k : Nat) (A0_0 : Option Addr) (c0_0 : Nat) (l0_0 : List (S58)) (r : Bool) (w : World) (hr0_0 : Kd.C k58 w A0_0 l0_0.length l0_0) (hc0_0 : l0_0.length ≤ c0_0) (h : gr6_Robust.f k l0_0 = some r) :
  Calls Tryz.prog 34 #[.agg #[.slice A0_0 l0_0.length c0_0]] w fun e w' => e = .returned (.bool r) ∧ Below w.heap.size w w' := by
 have hu42 := Tryz.underlying42
 have HR0_0 := Asd.mk hr0_0
 have HC0_0 := Asd.mk hc0_0
 clear hr0_0 hc0_0
 have HB := Asd.mk (Below.refl w.heap.size w)
 have H : ((gr6_Corners.f k l0_0).bind fun t243 => (gr6_Robust.l0 k t243 0)) = some r := h
 clear h
 replace H := Option.bind_eq_some_iff.mp H
 obtain ⟨t243, A20, H⟩ := H
 replace H : (gr6_Robust.l0 k t243 0) = some r := H
 have A2 := Asd.mk A20
 clear A20
 have H' := Asd.mk H
 clear H
 go_enter Tryz.func34, Tryz.ntmps34
 go_wp2_with (first | ((with_reducible refine gate_dst (N := 1) rfl ?_); refine box_event ?hg (N := 1) ?hd (cs := #[.slice A0_0 l0_0.length c0_0]) (t := 42) ?hr ?_; (case hd => rfl); (case hg => rfl); (case hr => first | (go_simp; done) | (go_simp; rfl)); intro gb242 hg w3 hbox hb; have n0_ := Asd.mk (below_step (by repeat (first | (with_reducible first | exact HB.out | apply below_alloc | apply pbN | apply bd1) | exact HB.out)) hb); have n1_ := Asd.mk (hbox); have n2_ := Asd.mk ((by rw [hg]; exact (below_size (by repeat (first | (with_reducible first | exact HB.out | apply below_alloc | apply pbN | apply bd1) | exact HB.out))) : w.heap.size ≤ gb242)); have n3_ := Asd.mk ((by rw [hg]; exact (below_size (by repeat (first | (with_reducible first | exact HB.out | apply below_alloc | apply pbN | apply bd1) | exact HB.out))) : w.heap.size ≤ gb242)); clear HB; have HB := n0_; have BK242 := n1_; have GW242 := n2_; have GE242 := n3_; clear n0_ n1_ n2_ n3_; clear hb hbox hg; have hcz4_0 : w3.cell? ⟨gb242, 0, none⟩ = some (.slice A0_0 l0_0.length c0_0) := (blk_cell BK242.out 0).trans rfl; have hfz4_0 := blk_frozen BK242.out 0) | ((with_reducible refine gate_callee (f := 33) rfl ?_); refine goesL_ (some 6) rfl rfl Tryz.func33 (by kernel_rfl) rfl #[.agg #[.slice A0_0 l0_0.length c0_0]] rfl (by (try simp only [List.map_toArray, List.map_cons, List.map_nil]); first | done | rfl | (simp only [List.length_drop, List.length_take]; rfl)) ?_; (with_reducible refine (gr6_Corners.calls k _ _ l0_0 t243 _ ?side1 ?side2 A2.out).mono ?_); (case side1 => repeat (first | exact (Kd.C_below HR0_0.out HB.out) | (with_reducible refine Kd.C_alloc ?_ _) | (with_reducible refine Kd.C_drewN ?_ _) | (with_reducible refine Kd.C_drew ?_))); (case side2 => exact HC0_0.out); rintro e w5 ⟨v244, rfl, ho0, hb⟩; refine ⟨_, rfl, ?_⟩; have n0_ := Asd.mk (Kd.N_lower (Kd.N_mono (ok' := fun k_ => k_ ≠ gb242) ho0 (fun k_ hk_ => (Kd.freshB (g := gb242) (o := .cells #[.slice A0_0 l0_0.length c0_0] 42 (0, 0)) (by (with_reducible repeat (first | refine blk_drewN ?_ _ | refine blk_drew ?_ | refine blk_alloc ?_ _)); exact BK242.out) k_ hk_))) (below_size (by repeat (first | (with_reducible first | exact HB.out | apply below_alloc | apply pbN | apply bd1 | refine below_set ?_ GE242.out) | exact HB.out)))); have n1_ := Asd.mk (blk_below (g := gb242) (o := .cells #[.slice A0_0 l0_0.length c0_0] 42 (0, 0)) (by (with_reducible repeat (first | refine blk_drewN ?_ _ | refine blk_drew ?_ | refine blk_alloc ?_ _)); exact BK242.out) hb); have n2_ := Asd.mk (below_step (by repeat (first | (with_reducible first | exact HB.out | apply below_alloc | apply pbN | apply bd1 | refine below_set ?_ GE242.out) | exact HB.out)) hb); clear BK242; clear HB; have HO245 := n0_; have BK242 := n1_; have HB := n2_; clear n0_ n1_ n2_; (try clear hb); (try clear hb2); (try clear hk); (try clear hi); (try clear ho0)))
 go_loopg [4] k (fun kq v4 w' => ∃ (x4_1 : Int), v4 = .int .i64 x4_1 ∧ Asd (gr6_Robust.l0 kq t243 x4_1 = some r) ∧ Asd (kq ≤ k) ∧ Asd (Kd.N (Kd.slice 3 (Kd.int .i64)) 22 w' w.heap.size (fun k_ => k_ ≠ gb242) v244 t243) ∧ Asd (w'.heap[gb242]? = some (.cells #[(.slice A0_0 l0_0.length c0_0)] 42 (0, 0))) ∧ Asd (Below w.heap.size w w'))
 case atStart => exact ⟨(0), (by first | rfl | (simp; done) | (simp [*]; done)), H', ⟨Nat.le_refl _⟩, ⟨by (with_reducible repeat (first | apply Kd.N_alloc | apply Kd.N_drewN | apply Kd.N_drew)); exact HO245.out⟩, ⟨by (with_reducible repeat (first | refine blk_drewN ?_ _ | refine blk_drew ?_ | refine blk_alloc ?_ _)); exact BK242.out⟩, ⟨by repeat (first | (with_reducible first | exact HB.out | apply below_alloc | apply pbN | apply bd1 | refine below_set ?_ GE242.out) | exact HB.out)⟩⟩
 case round =>
  clear H'
  try clear p2
  try clear c3
  try clear hcz4_0
  try clear hfz4_0
  obtain ⟨x4_1, rfl, HA, HK1, HO_3, BK242, HB⟩ := hrel
  cases gk with
  | zero => exact absurd HA.out (by simp [gr6_Robust.l0])
  | succ k1 =>
   have H := HA.out
   clear HA
   simp only [gr6_Robust.l0] at H
   by_cases c6 : x4_1 < (t243.length : Int)
   ·rw [if_pos c6] at H
    have c6b0 : decide (x4_1 < (t243.length : Int)) = true := decide_eq_true c6
    clear c6
    by_cases c7 : 0 ≤ x4_1
    ·rw [if_pos c7] at H
     have c7b0 : decide (0 ≤ x4_1) = true := decide_eq_true c7
     clear c7
     replace H := Option.bind_eq_some_iff.mp H
     obtain ⟨t247, A80, H⟩ := H
     replace H : (if t247 = true then (gr6_Robust.l0 k1 t243 (wrap64 (x4_1 + 1))) else (some false)) = some r := H
     have A8 := Asd.mk A80
     clear A80
     by_cases c9 : t247 = true
     ·subst c9
      have H1 : (gr6_Robust.l0 k1 t243 (wrap64 (x4_1 + 1))) = some r := by rw [if_pos rfl] at H; exact H
      clear H
      have H := H1
      clear H1
      have H' := Asd.mk H
      clear H
      obtain ⟨Ao10, co10, eo10⟩ := Kd.N_slice HO_3.out
      subst eo10
      have p246 : 0 ≤ (x4_1 : Int) := of_decide_eq_true (by first | (with_reducible assumption) | assumption)
      have q246 : x4_1 < (t243.length : Int) := of_decide_eq_true (by first | (with_reducible assumption) | assumption)
      obtain ⟨ad246, A246_0, c246_0, e246, hx246_0, hl246_0, hi246_0⟩ := at_L2 (Kd.N_reads' HO_3.out).2.2 x4_1 p246 q246
      cases e246
      obtain ⟨ce246, hce246, hMe246, hcc246⟩ := Kd.N_get HO_3.out [] x4_1 p246 (by first | exact q246 | exact of_decide_eq_true (by first | (with_reducible assumption) | assumption) | (have e_ := (Kd.N_reads' HO_3.out).1; omega))
      obtain ⟨ua246_0, uc246_0, rfl, ul246_0, ge246_0⟩ := Kd.FK_slice_open hMe246
      have hv246_0 := hcc246 0 _ rfl
      rw [Nat.add_zero, show ((Kd.slice 3 (Kd.int .i64))).sz = 1 from rfl, Nat.mul_one] at hv246_0
      replace hv246_0 := Option.some.inj (hv246_0.symm.trans hx246_0)
      injection hv246_0 with hva_ hvn_ hvc_
      rw [hva_] at ge246_0
      rw [hvc_] at ul246_0
      have HL246_0 := Asd.mk (show Kd.V (Kd.int .i64) 3 _ w.heap.size _ _ (rd_L2 t243 x4_1) from Kd.V_mk ul246_0 ge246_0)
      clear hva_ hvn_ hvc_ ge246_0 ul246_0
      clear hcc246 hce246
      have HR246_0 := Asd.mk hi246_0
      have HC246_0 := Asd.mk hl246_0
      clear hi246_0 hl246_0
      replace p246 := eq_true p246
      replace q246 := eq_true q246
      go_wp2_with (first | ((with_reducible refine gate_callee (f := 67) rfl ?_); refine goesL_ (some 17) rfl rfl Tryz.func67 (by kernel_rfl) rfl #[.slice A246_0 (rd_L2 t243 x4_1).length c246_0] rfl (by (try simp only [List.map_toArray, List.map_cons, List.map_nil]); first | done | rfl | (simp only [List.length_drop, List.length_take]; rfl)) ?_; (with_reducible refine (gr6_Stable.calls _ _ (rd_L2 t243 x4_1) true _ ?side1 ?side2 A8.out).mono ?_); (case side1 => repeat (first | exact (by repeat (first | (with_reducible exact HR246_0.out) | (with_reducible refine Kd.C_alloc ?_ _) | (with_reducible refine Kd.C_drewN ?_ _) | (with_reducible refine Kd.C_drew ?_) | exact HR246_0.out)) | (with_reducible refine Kd.C_alloc ?_ _) | (with_reducible refine Kd.C_drewN ?_ _) | (with_reducible refine Kd.C_drew ?_))); (case side2 => exact HC246_0.out); rintro e w11 ⟨rfl, hb⟩; refine ⟨_, rfl, ?_⟩; have n0_ := Asd.mk (Kd.N_below (by (with_reducible repeat (first | apply Kd.N_alloc | apply Kd.N_drewN | apply Kd.N_drew)); exact HO_3.out) hb); have n1_ := Asd.mk (Kd.V_below (by (with_reducible repeat (first | apply Kd.V_alloc | apply Kd.V_drewN | apply Kd.V_drew)); exact HL246_0.out) hb); have n2_ := Asd.mk (blk_below (g := gb242) (o := .cells #[.slice A0_0 l0_0.length c0_0] 42 (0, 0)) (by (with_reducible repeat (first | refine blk_drewN ?_ _ | refine blk_drew ?_ | refine blk_alloc ?_ _)); exact BK242.out) hb); have n3_ := Asd.mk (Kd.C_below (by repeat (first | (with_reducible exact HR246_0.out) | (with_reducible refine Kd.C_alloc ?_ _) | (with_reducible refine Kd.C_drewN ?_ _) | (with_reducible refine Kd.C_drew ?_) | exact HR246_0.out)) hb); have n4_ := Asd.mk (below_step (by repeat (first | (with_reducible first | exact HB.out | apply below_alloc | apply pbN | apply bd1 | refine below_set ?_ GE242.out) | exact HB.out)) hb); clear HO_3; clear HL246_0; clear BK242; clear HR246_0; clear HB; have HO_3 := n0_; have HL246_0 := n1_; have BK242 := n2_; have HR246_0 := n3_; have HB := n4_; clear n0_ n1_ n2_ n3_ n4_; (try clear hb); (try clear hb2); (try clear hk); (try clear hi)))
      go_roundg k1
      case measure => have := HK1.out; omega
      case rel => exact ⟨(wrap64 (x4_1 + 1)), (by first | rfl | (simp; done) | (simp [*]; done)), H', ⟨by have := HK1.out; omega⟩, ⟨by (with_reducible repeat (first | apply Kd.N_alloc | apply Kd.N_drewN | apply Kd.N_drew)); exact HO_3.out⟩, ⟨by (with_reducible repeat (first | refine blk_drewN ?_ _ | refine blk_drew ?_ | refine blk_alloc ?_ _)); exact BK242.out⟩, ⟨by repeat (first | (with_reducible first | exact HB.out | apply below_alloc | apply pbN | apply bd1 | refine below_set ?_ GE242.out) | exact HB.out)⟩⟩
     ·replace c9 := Bool.eq_false_iff.mpr c9
      subst c9
      have H1 : (some false) = some r := by rw [if_neg (show ¬ (false = true) by decide)] at H; exact H
      clear H
      have H := H1
      clear H1
      obtain rfl := Option.some.inj H
      obtain ⟨Ao12, co12, eo12⟩ := Kd.N_slice HO_3.out
      subst eo12
      have p246 : 0 ≤ (x4_1 : Int) := of_decide_eq_true (by first | (with_reducible assumption) | assumption)
      have q246 : x4_1 < (t243.length : Int) := of_decide_eq_true (by first | (with_reducible assumption) | assumption)
      obtain ⟨ad246, A246_0, c246_0, e246, hx246_0, hl246_0, hi246_0⟩ := at_L2 (Kd.N_reads' HO_3.out).2.2 x4_1 p246 q246
      cases e246
      obtain ⟨ce246, hce246, hMe246, hcc246⟩ := Kd.N_get HO_3.out [] x4_1 p246 (by first | exact q246 | exact of_decide_eq_true (by first | (with_reducible assumption) | assumption) | (have e_ := (Kd.N_reads' HO_3.out).1; omega))
      obtain ⟨ua246_0, uc246_0, rfl, ul246_0, ge246_0⟩ := Kd.FK_slice_open hMe246
      have hv246_0 := hcc246 0 _ rfl
      rw [Nat.add_zero, show ((Kd.slice 3 (Kd.int .i64))).sz = 1 from rfl, Nat.mul_one] at hv246_0
      replace hv246_0 := Option.some.inj (hv246_0.symm.trans hx246_0)
      injection hv246_0 with hva_ hvn_ hvc_
      rw [hva_] at ge246_0
      rw [hvc_] at ul246_0
      have HL246_0 := Asd.mk (show Kd.V (Kd.int .i64) 3 _ w.heap.size _ _ (rd_L2 t243 x4_1) from Kd.V_mk ul246_0 ge246_0)
      clear hva_ hvn_ hvc_ ge246_0 ul246_0
      clear hcc246 hce246
      have HR246_0 := Asd.mk hi246_0
      have HC246_0 := Asd.mk hl246_0
      clear hi246_0 hl246_0
      replace p246 := eq_true p246
      replace q246 := eq_true q246
      go_wp2_with (first | ((with_reducible refine gate_callee (f := 67) rfl ?_); refine goesL_ (some 17) rfl rfl Tryz.func67 (by kernel_rfl) rfl #[.slice A246_0 (rd_L2 t243 x4_1).length c246_0] rfl (by (try simp only [List.map_toArray, List.map_cons, List.map_nil]); first | done | rfl | (simp only [List.length_drop, List.length_take]; rfl)) ?_; (with_reducible refine (gr6_Stable.calls _ _ (rd_L2 t243 x4_1) false _ ?side1 ?side2 A8.out).mono ?_); (case side1 => repeat (first | exact (by repeat (first | (with_reducible exact HR246_0.out) | (with_reducible refine Kd.C_alloc ?_ _) | (with_reducible refine Kd.C_drewN ?_ _) | (with_reducible refine Kd.C_drew ?_) | exact HR246_0.out)) | (with_reducible refine Kd.C_alloc ?_ _) | (with_reducible refine Kd.C_drewN ?_ _) | (with_reducible refine Kd.C_drew ?_))); (case side2 => exact HC246_0.out); rintro e w13 ⟨rfl, hb⟩; refine ⟨_, rfl, ?_⟩; have n0_ := Asd.mk (Kd.N_below (by (with_reducible repeat (first | apply Kd.N_alloc | apply Kd.N_drewN | apply Kd.N_drew)); exact HO_3.out) hb); have n1_ := Asd.mk (Kd.V_below (by (with_reducible repeat (first | apply Kd.V_alloc | apply Kd.V_drewN | apply Kd.V_drew)); exact HL246_0.out) hb); have n2_ := Asd.mk (blk_below (g := gb242) (o := .cells #[.slice A0_0 l0_0.length c0_0] 42 (0, 0)) (by (with_reducible repeat (first | refine blk_drewN ?_ _ | refine blk_drew ?_ | refine blk_alloc ?_ _)); exact BK242.out) hb); have n3_ := Asd.mk (Kd.C_below (by repeat (first | (with_reducible exact HR246_0.out) | (with_reducible refine Kd.C_alloc ?_ _) | (with_reducible refine Kd.C_drewN ?_ _) | (with_reducible refine Kd.C_drew ?_) | exact HR246_0.out)) hb); have n4_ := Asd.mk (below_step (by repeat (first | (with_reducible first | exact HB.out | apply below_alloc | apply pbN | apply bd1 | refine below_set ?_ GE242.out) | exact HB.out)) hb); clear HO_3; clear HL246_0; clear BK242; clear HR246_0; clear HB; have HO_3 := n0_; have HL246_0 := n1_; have BK242 := n2_; have HR246_0 := n3_; have HB := n4_; clear n0_ n1_ n2_ n3_ n4_; (try clear hb); (try clear hb2); (try clear hk); (try clear hi)))
      go_ret
      exact ⟨by first | rfl | (simp [errW_none, errW_some] <;> rfl) | (simp [*, errW_none, errW_some] <;> rfl), by repeat (first | (with_reducible first | exact HB.out | apply below_alloc | apply pbN | apply bd1 | refine below_set ?_ GE242.out) | exact HB.out)⟩
    ·rw [if_neg c7] at H
     exact absurd H (by simp)
   ·rw [if_neg c6] at H
    have c6b0 : decide (x4_1 < (t243.length : Int)) = false := decide_eq_false c6
    clear c6
    obtain rfl := Option.some.inj H
    obtain ⟨Ao14, co14, eo14⟩ := Kd.N_slice HO_3.out
    subst eo14
    go_wp2
    go_ret
    exact ⟨by first | rfl | (simp [errW_none, errW_some] <;> rfl) | (simp [*, errW_none, errW_some] <;> rfl), by repeat (first | (with_reducible first | exact HB.out | apply below_alloc | apply pbN | apply bd1 | refine below_set ?_ GE242.out) | exact HB.out)⟩
def gr6_CheckTable.l0 : Nat → List (List Int) → List (List Int) → Int → Option (Int × Int)
 | 0, _, _, _ => none
 | k + 1, x1, x6, x7 => if x7 < (x1.length : Int) then (if x7 ≥ (x6.length : Int) then (some (x7, 19)) else (if 0 ≤ x7 then (if x7 < (x6.length : Int) then ((gba_Ints.f k (rd_L2 x1 x7) (rd_L2 x6 x7)).bind fun t582 => (if t582 = true then (if 0 < ((rd_L2 x1 x7).length : Int) then (if (rd (rd_L2 x1 x7) 0) ≤ 0 then (some (x7, 19)) else (gr6_CheckTable.l0 k x1 x6 (wrap64 (x7 + 1)))) else (none)) else (some (x7, 19)))) else (none)) else (none))) else (some (0, 0))
def gr6_CheckTable.f (k : Nat) (l0 : List Int) (l1 : List (List Int)) : Option (Int × Int) := if (l1.length : Int) = (l0.length : Int) then ((gr6_Table.f l0).bind fun t577 => (gr6_CheckTable.l0 k l1 t577 0)) else (some (0, 10))
set_option maxHeartbeats 8000000 in
set_option maxRecDepth 100000 in
theorem gr6_CheckTable.calls (k : Nat) (A0 : Option Addr) (c0 : Nat) (l0 : List Int) (A1 : Option Addr) (c1 : Nat) (l1 : List (List Int)) (r1 : Int) (r2 : Int) (w : World) (hr0 : Kd.C (Kd.int .i64) w A0 l0.length l0) (hc0 : l0.length ≤ c0) (hr1 : Kd.C (Kd.slice 3 (Kd.int .i64)) w A1 l1.length l1) (hc1 : l1.length ≤ c1) (h : gr6_CheckTable.f k l0 l1 = some (r1, r2)) :
  Calls Tryz.prog 65 #[.slice A0 l0.length c0, .slice A1 l1.length c1] w fun e w' => e = .returned (.tuple #[.int .i64 r1, .int .i64 r2]) ∧ Below w.heap.size w w' := by
 have HR0 := Asd.mk hr0
 have HC0 := Asd.mk hc0
 clear hr0 hc0
 have HR1 := Asd.mk hr1
 have HC1 := Asd.mk hc1
 clear hr1 hc1
 have HB := Asd.mk (Below.refl w.heap.size w)
 have H : (if (l1.length : Int) = (l0.length : Int) then ((gr6_Table.f l0).bind fun t577 => (gr6_CheckTable.l0 k l1 t577 0)) else (some (0, 10))) = some (r1, r2) := h
 clear h
 by_cases c3 : (l1.length : Int) = (l0.length : Int)
 ·rw [if_pos c3] at H
  have c3b0 : ((l1.length : Int) == (l0.length : Int)) = true := beq_iff_eq.mpr c3
  have c3b1 : ((l1.length : Int) != (l0.length : Int)) = false := bne_eq_false_iff_eq.mpr c3
  have c3b2 : (l1.length == l0.length) = true := by first | simpa using c3 | (simp at c3 ⊢; omega)
  clear c3
  replace H := Option.bind_eq_some_iff.mp H
  obtain ⟨t577, A40, H⟩ := H
  replace H : (gr6_CheckTable.l0 k l1 t577 0) = some (r1, r2) := H
  have A4 := Asd.mk A40
  clear A40
  have H' := Asd.mk H
  clear H
  go_enter Tryz.func65, Tryz.ntmps65
  go_wp2_with (first | (go_at_call 66; (with_reducible refine (gr6_Table.calls _ _ l0 t577 _ ?side1 ?side2 A4.out).mono ?_); (case side1 => repeat (first | exact HR0.out | (with_reducible refine Kd.C_alloc ?_ _) | (with_reducible refine Kd.C_drewN ?_ _) | (with_reducible refine Kd.C_drew ?_))); (case side2 => exact HC0.out); rintro e w5 ⟨v578, rfl, ho0, hb⟩; have n0_ := Asd.mk (Kd.N_lower (Kd.N_mono (ok' := fun k_ => True) ho0 (fun k_ hk_ => trivial)) (below_size (by repeat (first | (with_reducible first | exact HB.out | apply below_alloc | apply pbN | apply bd1) | exact HB.out)))); have n1_ := Asd.mk (below_step (by repeat (first | (with_reducible first | exact HB.out | apply below_alloc | apply pbN | apply bd1) | exact HB.out)) hb); clear HB; have HO579 := n0_; have HB := n1_; clear n0_ n1_; (try clear hb); (try clear hb2); (try clear hk); (try clear hi); (try clear ho0)))
  repeat (go_quiet (first | (go_at_call 66; (with_reducible refine (gr6_Table.calls _ _ l0 t577 _ ?side1 ?side2 A4.out).mono ?_); (case side1 => repeat (first | exact HR0.out | (with_reducible refine Kd.C_alloc ?_ _) | (with_reducible refine Kd.C_drewN ?_ _) | (with_reducible refine Kd.C_drew ?_))); (case side2 => exact HC0.out); rintro e w5 ⟨v578, rfl, ho0, hb⟩; have n0_ := Asd.mk (Kd.N_lower (Kd.N_mono (ok' := fun k_ => True) ho0 (fun k_ hk_ => trivial)) (below_size (by repeat (first | (with_reducible first | exact HB.out | apply below_alloc | apply pbN | apply bd1) | exact HB.out)))); have n1_ := Asd.mk (below_step (by repeat (first | (with_reducible first | exact HB.out | apply below_alloc | apply pbN | apply bd1) | exact HB.out)) hb); clear HB; have HO579 := n0_; have HB := n1_; clear n0_ n1_; (try clear hb); (try clear hb2); (try clear hk); (try clear hi); (try clear ho0))); try go_wp2_with (first | (go_at_call 66; (with_reducible refine (gr6_Table.calls _ _ l0 t577 _ ?side1 ?side2 A4.out).mono ?_); (case side1 => repeat (first | exact HR0.out | (with_reducible refine Kd.C_alloc ?_ _) | (with_reducible refine Kd.C_drewN ?_ _) | (with_reducible refine Kd.C_drew ?_))); (case side2 => exact HC0.out); rintro e w5 ⟨v578, rfl, ho0, hb⟩; have n0_ := Asd.mk (Kd.N_lower (Kd.N_mono (ok' := fun k_ => True) ho0 (fun k_ hk_ => trivial)) (below_size (by repeat (first | (with_reducible first | exact HB.out | apply below_alloc | apply pbN | apply bd1) | exact HB.out)))); have n1_ := Asd.mk (below_step (by repeat (first | (with_reducible first | exact HB.out | apply below_alloc | apply pbN | apply bd1) | exact HB.out)) hb); clear HB; have HO579 := n0_; have HB := n1_; clear n0_ n1_; (try clear hb); (try clear hb2); (try clear hk); (try clear hi); (try clear ho0))))
  go_loopg [7] k (fun kq v7 w' => ∃ (x7_1 : Int), v7 = .int .i64 x7_1 ∧ Asd (gr6_CheckTable.l0 kq l1 t577 x7_1 = some (r1, r2)) ∧ Asd (kq ≤ k) ∧ Asd (Kd.N (Kd.slice 3 (Kd.int .i64)) 22 w' w.heap.size (fun _ => True) v578 t577) ∧ Asd (Below w.heap.size w w'))
  case atStart => exact ⟨(0), (by first | rfl | (simp; done) | (simp [*]; done)), H', ⟨Nat.le_refl _⟩, ⟨by (with_reducible repeat (first | apply Kd.N_alloc | apply Kd.N_drewN | apply Kd.N_drew)); exact HO579.out⟩, ⟨by repeat (first | (with_reducible first | exact HB.out | apply below_alloc | apply pbN | apply bd1) | exact HB.out)⟩⟩
  case round =>
   clear H'
   try clear c1
   try clear p2
   try clear c3
   try clear c3b0
   try clear c3b1
   try clear c3b2
   obtain ⟨x7_1, rfl, HA, HK1, HO_6, HB⟩ := hrel
   cases gk with
   | zero => exact absurd HA.out (by simp [gr6_CheckTable.l0])
   | succ k1 =>
    have H := HA.out
    clear HA
    simp only [gr6_CheckTable.l0] at H
    by_cases c6 : x7_1 < (l1.length : Int)
    ·rw [if_pos c6] at H
     have c6b0 : decide (x7_1 < (l1.length : Int)) = true := decide_eq_true c6
     clear c6
     by_cases c7 : x7_1 ≥ (t577.length : Int)
     ·rw [if_pos c7] at H
      have c7b0 : decide ((t577.length : Int) ≤ x7_1) = true := decide_eq_true c7
      clear c7
      simp only [Option.some.injEq, Prod.mk.injEq] at H
      obtain ⟨rfl, rfl⟩ := H
      obtain ⟨Ao8, co8, eo8⟩ := Kd.N_slice HO_6.out
      subst eo8
      go_wp2
      repeat (go_quiet (fail); try go_wp2)
      go_ret2
      exact ⟨by first | rfl | (simp [errW_none, errW_some] <;> rfl) | (simp [*, errW_none, errW_some] <;> rfl), by repeat (first | (with_reducible first | exact HB.out | apply below_alloc | apply pbN | apply bd1) | exact HB.out)⟩
     ·rw [if_neg c7] at H
      have c7b0 : decide ((t577.length : Int) ≤ x7_1) = false := decide_eq_false c7
      clear c7
      by_cases c9 : 0 ≤ x7_1
      ·rw [if_pos c9] at H
       have c9b0 : decide (0 ≤ x7_1) = true := decide_eq_true c9
       clear c9
       by_cases c10 : x7_1 < (t577.length : Int)
       ·rw [if_pos c10] at H
        have c10b0 : decide (x7_1 < (t577.length : Int)) = true := decide_eq_true c10
        clear c10
        replace H := Option.bind_eq_some_iff.mp H
        obtain ⟨t582, A110, H⟩ := H
        replace H : (if t582 = true then (if 0 < ((rd_L2 l1 x7_1).length : Int) then (if (rd (rd_L2 l1 x7_1) 0) ≤ 0 then (some (x7_1, 19)) else (gr6_CheckTable.l0 k1 l1 t577 (wrap64 (x7_1 + 1)))) else (none)) else (some (x7_1, 19))) = some (r1, r2) := H
        have A11 := Asd.mk A110
        clear A110
        by_cases c12 : t582 = true
        ·subst c12
         have H1 : (if 0 < ((rd_L2 l1 x7_1).length : Int) then (if (rd (rd_L2 l1 x7_1) 0) ≤ 0 then (some (x7_1, 19)) else (gr6_CheckTable.l0 k1 l1 t577 (wrap64 (x7_1 + 1)))) else (none)) = some (r1, r2) := by rw [if_pos rfl] at H; exact H
         clear H
         have H := H1
         clear H1
         by_cases c13 : 0 < ((rd_L2 l1 x7_1).length : Int)
         ·rw [if_pos c13] at H
          have c13b0 : decide (0 < ((rd_L2 l1 x7_1).length : Int)) = true := decide_eq_true c13
          have c13b1 : decide (0 < (rd_L2 l1 x7_1).length) = true := decide_eq_true (by omega)
          clear c13
          by_cases c14 : (rd (rd_L2 l1 x7_1) 0) ≤ 0
          ·rw [if_pos c14] at H
           have c14b0 : decide ((rd (rd_L2 l1 x7_1) 0) ≤ 0) = true := decide_eq_true c14
           clear c14
           simp only [Option.some.injEq, Prod.mk.injEq] at H
           obtain ⟨rfl, rfl⟩ := H
           obtain ⟨Ao15, co15, eo15⟩ := Kd.N_slice HO_6.out
           subst eo15
           have p580 : 0 ≤ (x7_1 : Int) := of_decide_eq_true (by first | (with_reducible assumption) | assumption)
           have q580 : x7_1 < (l1.length : Int) := of_decide_eq_true (by first | (with_reducible assumption) | assumption)
           obtain ⟨ad580, A580_0, c580_0, e580, hx580_0, hl580_0, hi580_0⟩ := at_L2 HR1.out x7_1 p580 q580
           cases e580
           replace hx580_0 := (HB.out.cell (World.block_lt_of_cell? w _ hx580_0)).trans hx580_0
           have HR580_0 := Asd.mk hi580_0
           have HC580_0 := Asd.mk hl580_0
           clear hi580_0 hl580_0
           replace p580 := eq_true p580
           replace q580 := eq_true q580
           have p581 : 0 ≤ (x7_1 : Int) := of_decide_eq_true (by first | (with_reducible assumption) | assumption)
           have q581 : x7_1 < (t577.length : Int) := of_decide_eq_true (by first | (with_reducible assumption) | assumption)
           obtain ⟨ad581, A581_0, c581_0, e581, hx581_0, hl581_0, hi581_0⟩ := at_L2 (Kd.N_reads' HO_6.out).2.2 x7_1 p581 q581
           cases e581
           obtain ⟨ce581, hce581, hMe581, hcc581⟩ := Kd.N_get HO_6.out [] x7_1 p581 (by first | exact q581 | exact of_decide_eq_true (by first | (with_reducible assumption) | assumption) | (have e_ := (Kd.N_reads' HO_6.out).1; omega))
           obtain ⟨ua581_0, uc581_0, rfl, ul581_0, ge581_0⟩ := Kd.FK_slice_open hMe581
           have hv581_0 := hcc581 0 _ rfl
           rw [Nat.add_zero, show ((Kd.slice 3 (Kd.int .i64))).sz = 1 from rfl, Nat.mul_one] at hv581_0
           replace hv581_0 := Option.some.inj (hv581_0.symm.trans hx581_0)
           injection hv581_0 with hva_ hvn_ hvc_
           rw [hva_] at ge581_0
           rw [hvc_] at ul581_0
           have HL581_0 := Asd.mk (show Kd.V (Kd.int .i64) 3 _ w.heap.size _ _ (rd_L2 t577 x7_1) from Kd.V_mk ul581_0 ge581_0)
           clear hva_ hvn_ hvc_ ge581_0 ul581_0
           clear hcc581 hce581
           have HR581_0 := Asd.mk hi581_0
           have HC581_0 := Asd.mk hl581_0
           clear hi581_0 hl581_0
           replace p581 := eq_true p581
           replace q581 := eq_true q581
           go_wp2_with (first | (go_at_call 26; (with_reducible refine (gba_Ints.calls k1 _ _ (rd_L2 l1 x7_1) _ _ (rd_L2 t577 x7_1) true _ ?side1 ?side2 ?side3 ?side4 A11.out).mono ?_); (case side1 => repeat (first | exact (Kd.C_below HR580_0.out HB.out) | (with_reducible refine Kd.C_alloc ?_ _) | (with_reducible refine Kd.C_drewN ?_ _) | (with_reducible refine Kd.C_drew ?_))); (case side2 => exact HC580_0.out); (case side3 => repeat (first | exact (by repeat (first | (with_reducible exact HR581_0.out) | (with_reducible refine Kd.C_alloc ?_ _) | (with_reducible refine Kd.C_drewN ?_ _) | (with_reducible refine Kd.C_drew ?_) | exact HR581_0.out)) | (with_reducible refine Kd.C_alloc ?_ _) | (with_reducible refine Kd.C_drewN ?_ _) | (with_reducible refine Kd.C_drew ?_))); (case side4 => exact HC581_0.out); rintro e w' ⟨rfl, ⟨nd, rfl⟩⟩; (try first | exact ⟨rfl, _, World.drewN_drewN _ _ _⟩ | exact ⟨rfl, _, Eq.trans (World.drewN_drewN _ _ _) (congrArg (World.drewN _) (Nat.add_assoc _ _ _))⟩); have p583 : 0 ≤ (x7_1 : Int) := of_decide_eq_true (by first | (with_reducible assumption) | assumption); have q583 : x7_1 < (l1.length : Int) := of_decide_eq_true (by first | (with_reducible assumption) | assumption); obtain ⟨ad583, A583_0, c583_0, e583, hx583_0, hl583_0, hi583_0⟩ := at_L2 HR1.out x7_1 p583 q583; obtain rfl : ad580 = ad583 := (by injection e583); replace hx583_0 := (HB.out.cell (World.block_lt_of_cell? w _ hx583_0)).trans hx583_0; have HR583_0 := Asd.mk hi583_0; have HC583_0 := Asd.mk hl583_0; clear hi583_0 hl583_0; replace p583 := eq_true p583; replace q583 := eq_true q583; have ea_ := Option.some.inj (hx580_0.symm.trans hx583_0); injection ea_ with ea_ en_ ec_; subst ea_; subst ec_; clear en_; have p584 : 0 ≤ (0 : Int) := (by omega); have q584 : 0 < ((rd_L2 l1 x7_1).length : Int) := of_decide_eq_true (by first | (with_reducible assumption) | assumption); obtain ⟨ad584, e584, hx584_0⟩ := Kd.at_int HR583_0.out 0 p584 q584; cases e584; have qi584 : (0 < (rd_L2 l1 x7_1).length) = True := eq_true (by omega); (try rw [show ((0 : Int)).toNat = 0 from rfl] at hx584_0); (try rw [Addr.add_zero'] at hx584_0); replace hx584_0 := (HB.out.cell (World.block_lt_of_cell? w _ hx584_0)).trans hx584_0; replace p584 := eq_true p584; replace q584 := eq_true q584))
           repeat (go_quiet (first | (go_at_call 26; (with_reducible refine (gba_Ints.calls k1 _ _ (rd_L2 l1 x7_1) _ _ (rd_L2 t577 x7_1) true _ ?side1 ?side2 ?side3 ?side4 A11.out).mono ?_); (case side1 => repeat (first | exact (Kd.C_below HR580_0.out HB.out) | (with_reducible refine Kd.C_alloc ?_ _) | (with_reducible refine Kd.C_drewN ?_ _) | (with_reducible refine Kd.C_drew ?_))); (case side2 => exact HC580_0.out); (case side3 => repeat (first | exact (by repeat (first | (with_reducible exact HR581_0.out) | (with_reducible refine Kd.C_alloc ?_ _) | (with_reducible refine Kd.C_drewN ?_ _) | (with_reducible refine Kd.C_drew ?_) | exact HR581_0.out)) | (with_reducible refine Kd.C_alloc ?_ _) | (with_reducible refine Kd.C_drewN ?_ _) | (with_reducible refine Kd.C_drew ?_))); (case side4 => exact HC581_0.out); rintro e w' ⟨rfl, ⟨nd, rfl⟩⟩; (try first | exact ⟨rfl, _, World.drewN_drewN _ _ _⟩ | exact ⟨rfl, _, Eq.trans (World.drewN_drewN _ _ _) (congrArg (World.drewN _) (Nat.add_assoc _ _ _))⟩); have p583 : 0 ≤ (x7_1 : Int) := of_decide_eq_true (by first | (with_reducible assumption) | assumption); have q583 : x7_1 < (l1.length : Int) := of_decide_eq_true (by first | (with_reducible assumption) | assumption); obtain ⟨ad583, A583_0, c583_0, e583, hx583_0, hl583_0, hi583_0⟩ := at_L2 HR1.out x7_1 p583 q583; obtain rfl : ad580 = ad583 := (by injection e583); replace hx583_0 := (HB.out.cell (World.block_lt_of_cell? w _ hx583_0)).trans hx583_0; have HR583_0 := Asd.mk hi583_0; have HC583_0 := Asd.mk hl583_0; clear hi583_0 hl583_0; replace p583 := eq_true p583; replace q583 := eq_true q583; have ea_ := Option.some.inj (hx580_0.symm.trans hx583_0); injection ea_ with ea_ en_ ec_; subst ea_; subst ec_; clear en_; have p584 : 0 ≤ (0 : Int) := (by omega); have q584 : 0 < ((rd_L2 l1 x7_1).length : Int) := of_decide_eq_true (by first | (with_reducible assumption) | assumption); obtain ⟨ad584, e584, hx584_0⟩ := Kd.at_int HR583_0.out 0 p584 q584; cases e584; have qi584 : (0 < (rd_L2 l1 x7_1).length) = True := eq_true (by omega); (try rw [show ((0 : Int)).toNat = 0 from rfl] at hx584_0); (try rw [Addr.add_zero'] at hx584_0); replace hx584_0 := (HB.out.cell (World.block_lt_of_cell? w _ hx584_0)).trans hx584_0; replace p584 := eq_true p584; replace q584 := eq_true q584)); try go_wp2_with (first | (go_at_call 26; (with_reducible refine (gba_Ints.calls k1 _ _ (rd_L2 l1 x7_1) _ _ (rd_L2 t577 x7_1) true _ ?side1 ?side2 ?side3 ?side4 A11.out).mono ?_); (case side1 => repeat (first | exact (Kd.C_below HR580_0.out HB.out) | (with_reducible refine Kd.C_alloc ?_ _) | (with_reducible refine Kd.C_drewN ?_ _) | (with_reducible refine Kd.C_drew ?_))); (case side2 => exact HC580_0.out); (case side3 => repeat (first | exact (by repeat (first | (with_reducible exact HR581_0.out) | (with_reducible refine Kd.C_alloc ?_ _) | (with_reducible refine Kd.C_drewN ?_ _) | (with_reducible refine Kd.C_drew ?_) | exact HR581_0.out)) | (with_reducible refine Kd.C_alloc ?_ _) | (with_reducible refine Kd.C_drewN ?_ _) | (with_reducible refine Kd.C_drew ?_))); (case side4 => exact HC581_0.out); rintro e w' ⟨rfl, ⟨nd, rfl⟩⟩; (try first | exact ⟨rfl, _, World.drewN_drewN _ _ _⟩ | exact ⟨rfl, _, Eq.trans (World.drewN_drewN _ _ _) (congrArg (World.drewN _) (Nat.add_assoc _ _ _))⟩); have p583 : 0 ≤ (x7_1 : Int) := of_decide_eq_true (by first | (with_reducible assumption) | assumption); have q583 : x7_1 < (l1.length : Int) := of_decide_eq_true (by first | (with_reducible assumption) | assumption); obtain ⟨ad583, A583_0, c583_0, e583, hx583_0, hl583_0, hi583_0⟩ := at_L2 HR1.out x7_1 p583 q583; obtain rfl : ad580 = ad583 := (by injection e583); replace hx583_0 := (HB.out.cell (World.block_lt_of_cell? w _ hx583_0)).trans hx583_0; have HR583_0 := Asd.mk hi583_0; have HC583_0 := Asd.mk hl583_0; clear hi583_0 hl583_0; replace p583 := eq_true p583; replace q583 := eq_true q583; have ea_ := Option.some.inj (hx580_0.symm.trans hx583_0); injection ea_ with ea_ en_ ec_; subst ea_; subst ec_; clear en_; have p584 : 0 ≤ (0 : Int) := (by omega); have q584 : 0 < ((rd_L2 l1 x7_1).length : Int) := of_decide_eq_true (by first | (with_reducible assumption) | assumption); obtain ⟨ad584, e584, hx584_0⟩ := Kd.at_int HR583_0.out 0 p584 q584; cases e584; have qi584 : (0 < (rd_L2 l1 x7_1).length) = True := eq_true (by omega); (try rw [show ((0 : Int)).toNat = 0 from rfl] at hx584_0); (try rw [Addr.add_zero'] at hx584_0); replace hx584_0 := (HB.out.cell (World.block_lt_of_cell? w _ hx584_0)).trans hx584_0; replace p584 := eq_true p584; replace q584 := eq_true q584)))
           go_ret2
           exact ⟨by first | rfl | (simp [errW_none, errW_some] <;> rfl) | (simp [*, errW_none, errW_some] <;> rfl), by repeat (first | (with_reducible first | exact HB.out | apply below_alloc | apply pbN | apply bd1) | exact HB.out)⟩
          ·rw [if_neg c14] at H
           have c14b0 : decide ((rd (rd_L2 l1 x7_1) 0) ≤ 0) = false := decide_eq_false c14
           clear c14
           have H' := Asd.mk H
           clear H
           obtain ⟨Ao16, co16, eo16⟩ := Kd.N_slice HO_6.out
           subst eo16
           have p580 : 0 ≤ (x7_1 : Int) := of_decide_eq_true (by first | (with_reducible assumption) | assumption)
           have q580 : x7_1 < (l1.length : Int) := of_decide_eq_true (by first | (with_reducible assumption) | assumption)
           obtain ⟨ad580, A580_0, c580_0, e580, hx580_0, hl580_0, hi580_0⟩ := at_L2 HR1.out x7_1 p580 q580
           cases e580
           replace hx580_0 := (HB.out.cell (World.block_lt_of_cell? w _ hx580_0)).trans hx580_0
           have HR580_0 := Asd.mk hi580_0
           have HC580_0 := Asd.mk hl580_0
           clear hi580_0 hl580_0
           replace p580 := eq_true p580
           replace q580 := eq_true q580
           have p581 : 0 ≤ (x7_1 : Int) := of_decide_eq_true (by first | (with_reducible assumption) | assumption)
           have q581 : x7_1 < (t577.length : Int) := of_decide_eq_true (by first | (with_reducible assumption) | assumption)
           obtain ⟨ad581, A581_0, c581_0, e581, hx581_0, hl581_0, hi581_0⟩ := at_L2 (Kd.N_reads' HO_6.out).2.2 x7_1 p581 q581
           cases e581
           obtain ⟨ce581, hce581, hMe581, hcc581⟩ := Kd.N_get HO_6.out [] x7_1 p581 (by first | exact q581 | exact of_decide_eq_true (by first | (with_reducible assumption) | assumption) | (have e_ := (Kd.N_reads' HO_6.out).1; omega))
           obtain ⟨ua581_0, uc581_0, rfl, ul581_0, ge581_0⟩ := Kd.FK_slice_open hMe581
           have hv581_0 := hcc581 0 _ rfl
           rw [Nat.add_zero, show ((Kd.slice 3 (Kd.int .i64))).sz = 1 from rfl, Nat.mul_one] at hv581_0
           replace hv581_0 := Option.some.inj (hv581_0.symm.trans hx581_0)
           injection hv581_0 with hva_ hvn_ hvc_
           rw [hva_] at ge581_0
           rw [hvc_] at ul581_0
           have HL581_0 := Asd.mk (show Kd.V (Kd.int .i64) 3 _ w.heap.size _ _ (rd_L2 t577 x7_1) from Kd.V_mk ul581_0 ge581_0)
           clear hva_ hvn_ hvc_ ge581_0 ul581_0
           clear hcc581 hce581
           have HR581_0 := Asd.mk hi581_0
           have HC581_0 := Asd.mk hl581_0
           clear hi581_0 hl581_0
           replace p581 := eq_true p581
           replace q581 := eq_true q581
           go_wp2_with (first | (go_at_call 26; (with_reducible refine (gba_Ints.calls k1 _ _ (rd_L2 l1 x7_1) _ _ (rd_L2 t577 x7_1) true _ ?side1 ?side2 ?side3 ?side4 A11.out).mono ?_); (case side1 => repeat (first | exact (Kd.C_below HR580_0.out HB.out) | (with_reducible refine Kd.C_alloc ?_ _) | (with_reducible refine Kd.C_drewN ?_ _) | (with_reducible refine Kd.C_drew ?_))); (case side2 => exact HC580_0.out); (case side3 => repeat (first | exact (by repeat (first | (with_reducible exact HR581_0.out) | (with_reducible refine Kd.C_alloc ?_ _) | (with_reducible refine Kd.C_drewN ?_ _) | (with_reducible refine Kd.C_drew ?_) | exact HR581_0.out)) | (with_reducible refine Kd.C_alloc ?_ _) | (with_reducible refine Kd.C_drewN ?_ _) | (with_reducible refine Kd.C_drew ?_))); (case side4 => exact HC581_0.out); rintro e w' ⟨rfl, ⟨nd, rfl⟩⟩; (try first | exact ⟨rfl, _, World.drewN_drewN _ _ _⟩ | exact ⟨rfl, _, Eq.trans (World.drewN_drewN _ _ _) (congrArg (World.drewN _) (Nat.add_assoc _ _ _))⟩); have p583 : 0 ≤ (x7_1 : Int) := of_decide_eq_true (by first | (with_reducible assumption) | assumption); have q583 : x7_1 < (l1.length : Int) := of_decide_eq_true (by first | (with_reducible assumption) | assumption); obtain ⟨ad583, A583_0, c583_0, e583, hx583_0, hl583_0, hi583_0⟩ := at_L2 HR1.out x7_1 p583 q583; obtain rfl : ad580 = ad583 := (by injection e583); replace hx583_0 := (HB.out.cell (World.block_lt_of_cell? w _ hx583_0)).trans hx583_0; have HR583_0 := Asd.mk hi583_0; have HC583_0 := Asd.mk hl583_0; clear hi583_0 hl583_0; replace p583 := eq_true p583; replace q583 := eq_true q583; have ea_ := Option.some.inj (hx580_0.symm.trans hx583_0); injection ea_ with ea_ en_ ec_; subst ea_; subst ec_; clear en_; have p584 : 0 ≤ (0 : Int) := (by omega); have q584 : 0 < ((rd_L2 l1 x7_1).length : Int) := of_decide_eq_true (by first | (with_reducible assumption) | assumption); obtain ⟨ad584, e584, hx584_0⟩ := Kd.at_int HR583_0.out 0 p584 q584; cases e584; have qi584 : (0 < (rd_L2 l1 x7_1).length) = True := eq_true (by omega); (try rw [show ((0 : Int)).toNat = 0 from rfl] at hx584_0); (try rw [Addr.add_zero'] at hx584_0); replace hx584_0 := (HB.out.cell (World.block_lt_of_cell? w _ hx584_0)).trans hx584_0; replace p584 := eq_true p584; replace q584 := eq_true q584))
           repeat (go_quiet (first | (go_at_call 26; (with_reducible refine (gba_Ints.calls k1 _ _ (rd_L2 l1 x7_1) _ _ (rd_L2 t577 x7_1) true _ ?side1 ?side2 ?side3 ?side4 A11.out).mono ?_); (case side1 => repeat (first | exact (Kd.C_below HR580_0.out HB.out) | (with_reducible refine Kd.C_alloc ?_ _) | (with_reducible refine Kd.C_drewN ?_ _) | (with_reducible refine Kd.C_drew ?_))); (case side2 => exact HC580_0.out); (case side3 => repeat (first | exact (by repeat (first | (with_reducible exact HR581_0.out) | (with_reducible refine Kd.C_alloc ?_ _) | (with_reducible refine Kd.C_drewN ?_ _) | (with_reducible refine Kd.C_drew ?_) | exact HR581_0.out)) | (with_reducible refine Kd.C_alloc ?_ _) | (with_reducible refine Kd.C_drewN ?_ _) | (with_reducible refine Kd.C_drew ?_))); (case side4 => exact HC581_0.out); rintro e w' ⟨rfl, ⟨nd, rfl⟩⟩; (try first | exact ⟨rfl, _, World.drewN_drewN _ _ _⟩ | exact ⟨rfl, _, Eq.trans (World.drewN_drewN _ _ _) (congrArg (World.drewN _) (Nat.add_assoc _ _ _))⟩); have p583 : 0 ≤ (x7_1 : Int) := of_decide_eq_true (by first | (with_reducible assumption) | assumption); have q583 : x7_1 < (l1.length : Int) := of_decide_eq_true (by first | (with_reducible assumption) | assumption); obtain ⟨ad583, A583_0, c583_0, e583, hx583_0, hl583_0, hi583_0⟩ := at_L2 HR1.out x7_1 p583 q583; obtain rfl : ad580 = ad583 := (by injection e583); replace hx583_0 := (HB.out.cell (World.block_lt_of_cell? w _ hx583_0)).trans hx583_0; have HR583_0 := Asd.mk hi583_0; have HC583_0 := Asd.mk hl583_0; clear hi583_0 hl583_0; replace p583 := eq_true p583; replace q583 := eq_true q583; have ea_ := Option.some.inj (hx580_0.symm.trans hx583_0); injection ea_ with ea_ en_ ec_; subst ea_; subst ec_; clear en_; have p584 : 0 ≤ (0 : Int) := (by omega); have q584 : 0 < ((rd_L2 l1 x7_1).length : Int) := of_decide_eq_true (by first | (with_reducible assumption) | assumption); obtain ⟨ad584, e584, hx584_0⟩ := Kd.at_int HR583_0.out 0 p584 q584; cases e584; have qi584 : (0 < (rd_L2 l1 x7_1).length) = True := eq_true (by omega); (try rw [show ((0 : Int)).toNat = 0 from rfl] at hx584_0); (try rw [Addr.add_zero'] at hx584_0); replace hx584_0 := (HB.out.cell (World.block_lt_of_cell? w _ hx584_0)).trans hx584_0; replace p584 := eq_true p584; replace q584 := eq_true q584)); try go_wp2_with (first | (go_at_call 26; (with_reducible refine (gba_Ints.calls k1 _ _ (rd_L2 l1 x7_1) _ _ (rd_L2 t577 x7_1) true _ ?side1 ?side2 ?side3 ?side4 A11.out).mono ?_); (case side1 => repeat (first | exact (Kd.C_below HR580_0.out HB.out) | (with_reducible refine Kd.C_alloc ?_ _) | (with_reducible refine Kd.C_drewN ?_ _) | (with_reducible refine Kd.C_drew ?_))); (case side2 => exact HC580_0.out); (case side3 => repeat (first | exact (by repeat (first | (with_reducible exact HR581_0.out) | (with_reducible refine Kd.C_alloc ?_ _) | (with_reducible refine Kd.C_drewN ?_ _) | (with_reducible refine Kd.C_drew ?_) | exact HR581_0.out)) | (with_reducible refine Kd.C_alloc ?_ _) | (with_reducible refine Kd.C_drewN ?_ _) | (with_reducible refine Kd.C_drew ?_))); (case side4 => exact HC581_0.out); rintro e w' ⟨rfl, ⟨nd, rfl⟩⟩; (try first | exact ⟨rfl, _, World.drewN_drewN _ _ _⟩ | exact ⟨rfl, _, Eq.trans (World.drewN_drewN _ _ _) (congrArg (World.drewN _) (Nat.add_assoc _ _ _))⟩); have p583 : 0 ≤ (x7_1 : Int) := of_decide_eq_true (by first | (with_reducible assumption) | assumption); have q583 : x7_1 < (l1.length : Int) := of_decide_eq_true (by first | (with_reducible assumption) | assumption); obtain ⟨ad583, A583_0, c583_0, e583, hx583_0, hl583_0, hi583_0⟩ := at_L2 HR1.out x7_1 p583 q583; obtain rfl : ad580 = ad583 := (by injection e583); replace hx583_0 := (HB.out.cell (World.block_lt_of_cell? w _ hx583_0)).trans hx583_0; have HR583_0 := Asd.mk hi583_0; have HC583_0 := Asd.mk hl583_0; clear hi583_0 hl583_0; replace p583 := eq_true p583; replace q583 := eq_true q583; have ea_ := Option.some.inj (hx580_0.symm.trans hx583_0); injection ea_ with ea_ en_ ec_; subst ea_; subst ec_; clear en_; have p584 : 0 ≤ (0 : Int) := (by omega); have q584 : 0 < ((rd_L2 l1 x7_1).length : Int) := of_decide_eq_true (by first | (with_reducible assumption) | assumption); obtain ⟨ad584, e584, hx584_0⟩ := Kd.at_int HR583_0.out 0 p584 q584; cases e584; have qi584 : (0 < (rd_L2 l1 x7_1).length) = True := eq_true (by omega); (try rw [show ((0 : Int)).toNat = 0 from rfl] at hx584_0); (try rw [Addr.add_zero'] at hx584_0); replace hx584_0 := (HB.out.cell (World.block_lt_of_cell? w _ hx584_0)).trans hx584_0; replace p584 := eq_true p584; replace q584 := eq_true q584)))
           go_roundg k1
           case measure => have := HK1.out; omega
           case rel => exact ⟨(wrap64 (x7_1 + 1)), (by first | rfl | (simp; done) | (simp [*]; done)), H', ⟨by have := HK1.out; omega⟩, ⟨by (with_reducible repeat (first | apply Kd.N_alloc | apply Kd.N_drewN | apply Kd.N_drew)); exact HO_6.out⟩, ⟨by repeat (first | (with_reducible first | exact HB.out | apply below_alloc | apply pbN | apply bd1) | exact HB.out)⟩⟩
         ·rw [if_neg c13] at H
          exact absurd H (by simp)
        ·replace c12 := Bool.eq_false_iff.mpr c12
         subst c12
         have H1 : (some (x7_1, 19)) = some (r1, r2) := by rw [if_neg (show ¬ (false = true) by decide)] at H; exact H
         clear H
         have H := H1
         clear H1
         simp only [Option.some.injEq, Prod.mk.injEq] at H
         obtain ⟨rfl, rfl⟩ := H
         obtain ⟨Ao17, co17, eo17⟩ := Kd.N_slice HO_6.out
         subst eo17
         have p580 : 0 ≤ (x7_1 : Int) := of_decide_eq_true (by first | (with_reducible assumption) | assumption)
         have q580 : x7_1 < (l1.length : Int) := of_decide_eq_true (by first | (with_reducible assumption) | assumption)
         obtain ⟨ad580, A580_0, c580_0, e580, hx580_0, hl580_0, hi580_0⟩ := at_L2 HR1.out x7_1 p580 q580
         cases e580
         replace hx580_0 := (HB.out.cell (World.block_lt_of_cell? w _ hx580_0)).trans hx580_0
         have HR580_0 := Asd.mk hi580_0
         have HC580_0 := Asd.mk hl580_0
         clear hi580_0 hl580_0
         replace p580 := eq_true p580
         replace q580 := eq_true q580
         have p581 : 0 ≤ (x7_1 : Int) := of_decide_eq_true (by first | (with_reducible assumption) | assumption)
         have q581 : x7_1 < (t577.length : Int) := of_decide_eq_true (by first | (with_reducible assumption) | assumption)
         obtain ⟨ad581, A581_0, c581_0, e581, hx581_0, hl581_0, hi581_0⟩ := at_L2 (Kd.N_reads' HO_6.out).2.2 x7_1 p581 q581
         cases e581
         obtain ⟨ce581, hce581, hMe581, hcc581⟩ := Kd.N_get HO_6.out [] x7_1 p581 (by first | exact q581 | exact of_decide_eq_true (by first | (with_reducible assumption) | assumption) | (have e_ := (Kd.N_reads' HO_6.out).1; omega))
         obtain ⟨ua581_0, uc581_0, rfl, ul581_0, ge581_0⟩ := Kd.FK_slice_open hMe581
         have hv581_0 := hcc581 0 _ rfl
         rw [Nat.add_zero, show ((Kd.slice 3 (Kd.int .i64))).sz = 1 from rfl, Nat.mul_one] at hv581_0
         replace hv581_0 := Option.some.inj (hv581_0.symm.trans hx581_0)
         injection hv581_0 with hva_ hvn_ hvc_
         rw [hva_] at ge581_0
         rw [hvc_] at ul581_0
         have HL581_0 := Asd.mk (show Kd.V (Kd.int .i64) 3 _ w.heap.size _ _ (rd_L2 t577 x7_1) from Kd.V_mk ul581_0 ge581_0)
         clear hva_ hvn_ hvc_ ge581_0 ul581_0
         clear hcc581 hce581
         have HR581_0 := Asd.mk hi581_0
         have HC581_0 := Asd.mk hl581_0
         clear hi581_0 hl581_0
         replace p581 := eq_true p581
         replace q581 := eq_true q581
         go_wp2_with (first | (go_at_call 26; (with_reducible refine (gba_Ints.calls k1 _ _ (rd_L2 l1 x7_1) _ _ (rd_L2 t577 x7_1) false _ ?side1 ?side2 ?side3 ?side4 A11.out).mono ?_); (case side1 => repeat (first | exact (Kd.C_below HR580_0.out HB.out) | (with_reducible refine Kd.C_alloc ?_ _) | (with_reducible refine Kd.C_drewN ?_ _) | (with_reducible refine Kd.C_drew ?_))); (case side2 => exact HC580_0.out); (case side3 => repeat (first | exact (by repeat (first | (with_reducible exact HR581_0.out) | (with_reducible refine Kd.C_alloc ?_ _) | (with_reducible refine Kd.C_drewN ?_ _) | (with_reducible refine Kd.C_drew ?_) | exact HR581_0.out)) | (with_reducible refine Kd.C_alloc ?_ _) | (with_reducible refine Kd.C_drewN ?_ _) | (with_reducible refine Kd.C_drew ?_))); (case side4 => exact HC581_0.out); rintro e w' ⟨rfl, ⟨nd, rfl⟩⟩; (try first | exact ⟨rfl, _, World.drewN_drewN _ _ _⟩ | exact ⟨rfl, _, Eq.trans (World.drewN_drewN _ _ _) (congrArg (World.drewN _) (Nat.add_assoc _ _ _))⟩)))
         repeat (go_quiet (first | (go_at_call 26; (with_reducible refine (gba_Ints.calls k1 _ _ (rd_L2 l1 x7_1) _ _ (rd_L2 t577 x7_1) false _ ?side1 ?side2 ?side3 ?side4 A11.out).mono ?_); (case side1 => repeat (first | exact (Kd.C_below HR580_0.out HB.out) | (with_reducible refine Kd.C_alloc ?_ _) | (with_reducible refine Kd.C_drewN ?_ _) | (with_reducible refine Kd.C_drew ?_))); (case side2 => exact HC580_0.out); (case side3 => repeat (first | exact (by repeat (first | (with_reducible exact HR581_0.out) | (with_reducible refine Kd.C_alloc ?_ _) | (with_reducible refine Kd.C_drewN ?_ _) | (with_reducible refine Kd.C_drew ?_) | exact HR581_0.out)) | (with_reducible refine Kd.C_alloc ?_ _) | (with_reducible refine Kd.C_drewN ?_ _) | (with_reducible refine Kd.C_drew ?_))); (case side4 => exact HC581_0.out); rintro e w' ⟨rfl, ⟨nd, rfl⟩⟩; (try first | exact ⟨rfl, _, World.drewN_drewN _ _ _⟩ | exact ⟨rfl, _, Eq.trans (World.drewN_drewN _ _ _) (congrArg (World.drewN _) (Nat.add_assoc _ _ _))⟩))); try go_wp2_with (first | (go_at_call 26; (with_reducible refine (gba_Ints.calls k1 _ _ (rd_L2 l1 x7_1) _ _ (rd_L2 t577 x7_1) false _ ?side1 ?side2 ?side3 ?side4 A11.out).mono ?_); (case side1 => repeat (first | exact (Kd.C_below HR580_0.out HB.out) | (with_reducible refine Kd.C_alloc ?_ _) | (with_reducible refine Kd.C_drewN ?_ _) | (with_reducible refine Kd.C_drew ?_))); (case side2 => exact HC580_0.out); (case side3 => repeat (first | exact (by repeat (first | (with_reducible exact HR581_0.out) | (with_reducible refine Kd.C_alloc ?_ _) | (with_reducible refine Kd.C_drewN ?_ _) | (with_reducible refine Kd.C_drew ?_) | exact HR581_0.out)) | (with_reducible refine Kd.C_alloc ?_ _) | (with_reducible refine Kd.C_drewN ?_ _) | (with_reducible refine Kd.C_drew ?_))); (case side4 => exact HC581_0.out); rintro e w' ⟨rfl, ⟨nd, rfl⟩⟩; (try first | exact ⟨rfl, _, World.drewN_drewN _ _ _⟩ | exact ⟨rfl, _, Eq.trans (World.drewN_drewN _ _ _) (congrArg (World.drewN _) (Nat.add_assoc _ _ _))⟩))))
         go_ret2
         exact ⟨by first | rfl | (simp [errW_none, errW_some] <;> rfl) | (simp [*, errW_none, errW_some] <;> rfl), by repeat (first | (with_reducible first | exact HB.out | apply below_alloc | apply pbN | apply bd1) | exact HB.out)⟩
       ·rw [if_neg c10] at H
        exact absurd H (by simp)
      ·rw [if_neg c9] at H
       exact absurd H (by simp)
    ·rw [if_neg c6] at H
     have c6b0 : decide (x7_1 < (l1.length : Int)) = false := decide_eq_false c6
     clear c6
     simp only [Option.some.injEq, Prod.mk.injEq] at H
     obtain ⟨rfl, rfl⟩ := H
     go_wp2
     repeat (go_quiet (fail); try go_wp2)
     go_ret2
     exact ⟨by first | rfl | (simp [errW_none, errW_some] <;> rfl) | (simp [*, errW_none, errW_some] <;> rfl), by repeat (first | (with_reducible first | exact HB.out | apply below_alloc | apply pbN | apply bd1) | exact HB.out)⟩
 ·rw [if_neg c3] at H
  have c3b0 : ((l1.length : Int) == (l0.length : Int)) = false := beq_eq_false_iff_ne.mpr c3
  have c3b1 : ((l1.length : Int) != (l0.length : Int)) = true := bne_iff_ne.mpr c3
  have c3b2 : (l1.length == l0.length) = false := by first | simpa using c3 | (simp at c3 ⊢; omega)
  simp only [Option.some.injEq, Prod.mk.injEq] at H
  obtain ⟨rfl, rfl⟩ := H
  go_enter Tryz.func65, Tryz.ntmps65
  go_wp2
  repeat (go_quiet (fail); try go_wp2)
  go_ret2
  exact ⟨by first | rfl | (simp [errW_none, errW_some] <;> rfl) | (simp [*, errW_none, errW_some] <;> rfl), by repeat (first | (with_reducible first | exact HB.out | apply below_alloc | apply pbN | apply bd1) | exact HB.out)⟩
end Go.Proofs.YtmpondcccbmlhaaGreat.Q
namespace Go.Proofs.YtmpondcccbmlhaaGreat.Ext
open Go.RowKit Go.Proofs.YtmpondcccbmlhaaGreatW.PrintWords Go.Proofs.YtmpondcccbmlhaaGreatW.PrintLast Go.Proofs.YtmpondcccbmlhaaGreatW.PrintMore
open Q (S58 z58 k58)
theorem rtable_eval {p : List Int} (h : PolyOk p) : gr6_Table.f p = some (tableOf p) := by
 refine if_pos ⟨h.len2, h.len5, fun x hx => ?_⟩
 obtain ⟨i, hil, rfl⟩ := List.getElem_of_mem hx
 have hb := h.pb i
 have e : ent p i = p[i] := by simp [ent, hil]
 rw [e] at hb
 omega
theorem rstable_eval {p : List Int} (h : PolyOk p) : Q.gr6_Stable.f p = some (stab p) := by
 have h2 := h.len2
 have h5 := h.len5
 unfold Q.gr6_Stable.f
 rw [rtable_eval h]
 simp only [Option.bind_some]
 obtain ⟨m, -, hm, he, hpos, hneg⟩ := tabGo_spec p p.length 0 (by omega) (by omega)
 have he2 : tableOf p = rowsTo p m := he
 rw [he2, rowsTo_len]
 by_cases hml : m = p.length
 ·rw [if_pos (by omega), w64 (by omega) (by omega), if_pos (by omega), if_pos (by omega), show ((m : Int) - 1) = ((m - 1 : Nat) : Int) by omega, rdL2_nat, rowsTo_get _ _ _ (by omega), if_pos (by rw [row_len]; omega)]
  congr 1
  have e0 : rd (row p (m - 1)) 0 = ent (row p (m - 1)) 0 := by have := rd_nat (row p (m - 1)) 0; simpa [ent] using this
  rw [e0]
  unfold stab
  rw [decide_eq_decide]
  constructor
  ·intro hl j hj
   by_cases hjm : j + 1 < m
   ·exact hpos j (by omega) hjm
   ·rw [show j = m - 1 by omega]; exact hl
  ·intro ha; exact ha (m - 1) (by omega)
 ·rw [if_neg (by omega)]
  congr 1
  unfold stab
  symm
  rw [decide_eq_false_iff_not]
  intro ha
  have := hneg (by omega)
  have := ha (m - 1) (by omega)
  omega
theorem lists_loop (a : List (List Int)) (hl : a.length ≤ 1000) (hx : ∀ i, (a.getD i []).length ≤ 1000) : ∀ (d k i : Nat), a.length - i = d → i ≤ a.length → d + 1001 < k → Q.gba_Lists.l0 k a a (i : Int) = some true := by
 intro d
 induction d with
 | zero =>
  intro k i hd hi hk
  obtain ⟨k, rfl⟩ : ∃ m, k = m + 1 := ⟨k - 1, by omega⟩
  rw [Q.gba_Lists.l0, if_neg (by omega)]
 | succ d ih =>
  intro k i hd hi hk
  obtain ⟨k, rfl⟩ : ∃ m, k = m + 1 := ⟨k - 1, by omega⟩
  have hxi := hx i
  rw [Q.gba_Lists.l0, if_pos (by omega), if_pos (by omega), if_pos (by omega), rdL2_nat, ints_eval _ _ (by omega) k (by omega)]
  simp only [Option.bind_some, decide_true, if_true]
  rw [w64 (by omega) (by omega), show ((i : Int) + 1) = ((i + 1 : Nat) : Int) by omega]
  exact ih k (i + 1) (by omega) (by omega) (by omega)
theorem lists_refl (a : List (List Int)) (hl : a.length ≤ 1000) (hx : ∀ i, (a.getD i []).length ≤ 1000) (k : Nat) (hk : 3000 < k) : Q.gba_Lists.f k a a = some true := by
 unfold Q.gba_Lists.f
 rw [if_pos rfl]
 exact lists_loop a hl hx a.length k 0 (by omega) (by omega) (by omega)
end Go.Proofs.YtmpondcccbmlhaaGreat.Ext
