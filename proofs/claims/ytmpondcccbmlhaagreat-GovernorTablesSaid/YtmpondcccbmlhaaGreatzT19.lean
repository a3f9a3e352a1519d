/- A part of the claim T: the texts Q6, T0, T1, without what the claim does not lean on. -/
import Derived.Test.YtmpondcccbmlhaaGreatzT11
namespace Go.Proofs.YtmpondcccbmlhaaGreat.Q
open Go.RowKit Go.Proofs.YtmpondcccbmlhaaGreatW.PrintWords Go.Proofs.YtmpondcccbmlhaaGreatW.PrintLast Go.Proofs.YtmpondcccbmlhaaGreatW.PrintMore
attribute [local go_sem] max2_int min2_int max_two min_two max_three min_three max_four min_four   
set_option linter.unusedVariables false
set_option linter.unusedSimpArgs false
def gba_Lists.l0 : Nat → List (List Int) → List (List Int) → Int → Option (Bool)
 | 0, _, _, _ => none
 | k + 1, x0, x1, x5 => if x5 < (x0.length : Int) then (if 0 ≤ x5 then (if x5 < (x1.length : Int) then ((gba_Ints.f k (rd_L2 x0 x5) (rd_L2 x1 x5)).bind fun t207 => (if t207 = true then (gba_Lists.l0 k x0 x1 (wrap64 (x5 + 1))) else (some false))) else (none)) else (none)) else (some true)
def gba_Lists.f (k : Nat) (l0 : List (List Int)) (l1 : List (List Int)) : Option (Bool) := if (l0.length : Int) = (l1.length : Int) then (gba_Lists.l0 k l0 l1 0) else (some false)
set_option maxHeartbeats 8000000 in
set_option maxRecDepth 100000 in
theorem gba_Lists.calls (k : Nat) (A0 : Option Addr) (c0 : Nat) (l0 : List (List Int)) (A1 : Option Addr) (c1 : Nat) (l1 : List (List Int)) (r : Bool) (w : World) (hr0 : Kd.C (Kd.slice 3 (Kd.int .i64)) w A0 l0.length l0) (hc0 : l0.length ≤ c0) (hr1 : Kd.C (Kd.slice 3 (Kd.int .i64)) w A1 l1.length l1) (hc1 : l1.length ≤ c1) (h : gba_Lists.f k l0 l1 = some r) :
  Calls Tryz.prog 32 #[.slice A0 l0.length c0, .slice A1 l1.length c1] w fun e w' => e = .returned (.bool r) ∧ Drawn0 w w' := by
 have HR0 := Asd.mk hr0
 have HC0 := Asd.mk hc0
 clear hr0 hc0
 have HR1 := Asd.mk hr1
 have HC1 := Asd.mk hc1
 clear hr1 hc1
 have H : (if (l0.length : Int) = (l1.length : Int) then (gba_Lists.l0 k l0 l1 0) else (some false)) = some r := h
 clear h
 by_cases c3 : (l0.length : Int) = (l1.length : Int)
 ·rw [if_pos c3] at H
  have c3b0 : ((l0.length : Int) == (l1.length : Int)) = true := beq_iff_eq.mpr c3
  have c3b1 : ((l0.length : Int) != (l1.length : Int)) = false := bne_eq_false_iff_eq.mpr c3
  have c3b2 : (l0.length == l1.length) = true := by first | simpa using c3 | (simp at c3 ⊢; omega)
  clear c3
  have H' := Asd.mk H
  clear H
  go_enter Tryz.func32, Tryz.ntmps32
  go_wp2
  repeat (go_quiet (fail); try go_wp2)
  go_loopg [5] k (fun kq v5 w' => ∃ (x5_1 : Int), v5 = .int .i64 x5_1 ∧ Asd (gba_Lists.l0 kq l0 l1 x5_1 = some r) ∧ Asd (kq ≤ k) ∧ Drawn0 w w')
  case atStart => exact ⟨(0), (by first | rfl | (simp; done) | (simp [*]; done)), H', ⟨Nat.le_refl _⟩, by repeat (first | exact Drawn0.refl _ | apply Drawn0.step)⟩
  case round =>
   clear H'
   try clear c1
   try clear p2
   try clear c3
   try clear c3b0
   try clear c3b1
   try clear c3b2
   obtain ⟨x5_1, rfl, HA, HK1, ⟨m1, rfl⟩⟩ := hrel
   cases gk with
   | zero => exact absurd HA.out (by simp [gba_Lists.l0])
   | succ k1 =>
    have H := HA.out
    clear HA
    simp only [gba_Lists.l0] at H
    by_cases c4 : x5_1 < (l0.length : Int)
    ·rw [if_pos c4] at H
     have c4b0 : decide (x5_1 < (l0.length : Int)) = true := decide_eq_true c4
     clear c4
     by_cases c5 : 0 ≤ x5_1
     ·rw [if_pos c5] at H
      have c5b0 : decide (0 ≤ x5_1) = true := decide_eq_true c5
      clear c5
      by_cases c6 : x5_1 < (l1.length : Int)
      ·rw [if_pos c6] at H
       have c6b0 : decide (x5_1 < (l1.length : Int)) = true := decide_eq_true c6
       clear c6
       replace H := Option.bind_eq_some_iff.mp H
       obtain ⟨t207, A70, H⟩ := H
       replace H : (if t207 = true then (gba_Lists.l0 k1 l0 l1 (wrap64 (x5_1 + 1))) else (some false)) = some r := H
       have A7 := Asd.mk A70
       clear A70
       by_cases c8 : t207 = true
       ·subst c8
        have H1 : (gba_Lists.l0 k1 l0 l1 (wrap64 (x5_1 + 1))) = some r := by rw [if_pos rfl] at H; exact H
        clear H
        have H := H1
        clear H1
        have H' := Asd.mk H
        clear H
        have p205 : 0 ≤ (x5_1 : Int) := of_decide_eq_true (by first | (with_reducible assumption) | assumption)
        have q205 : x5_1 < (l0.length : Int) := of_decide_eq_true (by first | (with_reducible assumption) | assumption)
        obtain ⟨ad205, A205_0, c205_0, e205, hx205_0, hl205_0, hi205_0⟩ := at_L2 HR0.out x5_1 p205 q205
        cases e205
        have HR205_0 := Asd.mk hi205_0
        have HC205_0 := Asd.mk hl205_0
        clear hi205_0 hl205_0
        replace p205 := eq_true p205
        replace q205 := eq_true q205
        have p206 : 0 ≤ (x5_1 : Int) := of_decide_eq_true (by first | (with_reducible assumption) | assumption)
        have q206 : x5_1 < (l1.length : Int) := of_decide_eq_true (by first | (with_reducible assumption) | assumption)
        obtain ⟨ad206, A206_0, c206_0, e206, hx206_0, hl206_0, hi206_0⟩ := at_L2 HR1.out x5_1 p206 q206
        cases e206
        have HR206_0 := Asd.mk hi206_0
        have HC206_0 := Asd.mk hl206_0
        clear hi206_0 hl206_0
        replace p206 := eq_true p206
        replace q206 := eq_true q206
        go_wp2_with (first | (go_at_call 26; (with_reducible refine (gba_Ints.calls k1 _ _ (rd_L2 l0 x5_1) _ _ (rd_L2 l1 x5_1) true _ ?side1 ?side2 ?side3 ?side4 A7.out).mono ?_); (case side1 => repeat (first | exact HR205_0.out | (with_reducible refine Kd.C_alloc ?_ _) | (with_reducible refine Kd.C_drewN ?_ _) | (with_reducible refine Kd.C_drew ?_))); (case side2 => exact HC205_0.out); (case side3 => repeat (first | exact HR206_0.out | (with_reducible refine Kd.C_alloc ?_ _) | (with_reducible refine Kd.C_drewN ?_ _) | (with_reducible refine Kd.C_drew ?_))); (case side4 => exact HC206_0.out); rintro e w' ⟨rfl, ⟨nd, rfl⟩⟩; (try first | exact ⟨rfl, _, World.drewN_drewN _ _ _⟩ | exact ⟨rfl, _, Eq.trans (World.drewN_drewN _ _ _) (congrArg (World.drewN _) (Nat.add_assoc _ _ _))⟩)))
        repeat (go_quiet (first | (go_at_call 26; (with_reducible refine (gba_Ints.calls k1 _ _ (rd_L2 l0 x5_1) _ _ (rd_L2 l1 x5_1) true _ ?side1 ?side2 ?side3 ?side4 A7.out).mono ?_); (case side1 => repeat (first | exact HR205_0.out | (with_reducible refine Kd.C_alloc ?_ _) | (with_reducible refine Kd.C_drewN ?_ _) | (with_reducible refine Kd.C_drew ?_))); (case side2 => exact HC205_0.out); (case side3 => repeat (first | exact HR206_0.out | (with_reducible refine Kd.C_alloc ?_ _) | (with_reducible refine Kd.C_drewN ?_ _) | (with_reducible refine Kd.C_drew ?_))); (case side4 => exact HC206_0.out); rintro e w' ⟨rfl, ⟨nd, rfl⟩⟩; (try first | exact ⟨rfl, _, World.drewN_drewN _ _ _⟩ | exact ⟨rfl, _, Eq.trans (World.drewN_drewN _ _ _) (congrArg (World.drewN _) (Nat.add_assoc _ _ _))⟩))); try go_wp2_with (first | (go_at_call 26; (with_reducible refine (gba_Ints.calls k1 _ _ (rd_L2 l0 x5_1) _ _ (rd_L2 l1 x5_1) true _ ?side1 ?side2 ?side3 ?side4 A7.out).mono ?_); (case side1 => repeat (first | exact HR205_0.out | (with_reducible refine Kd.C_alloc ?_ _) | (with_reducible refine Kd.C_drewN ?_ _) | (with_reducible refine Kd.C_drew ?_))); (case side2 => exact HC205_0.out); (case side3 => repeat (first | exact HR206_0.out | (with_reducible refine Kd.C_alloc ?_ _) | (with_reducible refine Kd.C_drewN ?_ _) | (with_reducible refine Kd.C_drew ?_))); (case side4 => exact HC206_0.out); rintro e w' ⟨rfl, ⟨nd, rfl⟩⟩; (try first | exact ⟨rfl, _, World.drewN_drewN _ _ _⟩ | exact ⟨rfl, _, Eq.trans (World.drewN_drewN _ _ _) (congrArg (World.drewN _) (Nat.add_assoc _ _ _))⟩))))
        go_roundg k1
        case measure => have := HK1.out; omega
        case rel => exact ⟨(wrap64 (x5_1 + 1)), (by first | rfl | (simp; done) | (simp [*]; done)), H', ⟨by have := HK1.out; omega⟩, by repeat (first | exact Drawn0.refl _ | apply Drawn0.step)⟩
       ·replace c8 := Bool.eq_false_iff.mpr c8
        subst c8
        have H1 : (some false) = some r := by rw [if_neg (show ¬ (false = true) by decide)] at H; exact H
        clear H
        have H := H1
        clear H1
        obtain rfl := Option.some.inj H
        have p205 : 0 ≤ (x5_1 : Int) := of_decide_eq_true (by first | (with_reducible assumption) | assumption)
        have q205 : x5_1 < (l0.length : Int) := of_decide_eq_true (by first | (with_reducible assumption) | assumption)
        obtain ⟨ad205, A205_0, c205_0, e205, hx205_0, hl205_0, hi205_0⟩ := at_L2 HR0.out x5_1 p205 q205
        cases e205
        have HR205_0 := Asd.mk hi205_0
        have HC205_0 := Asd.mk hl205_0
        clear hi205_0 hl205_0
        replace p205 := eq_true p205
        replace q205 := eq_true q205
        have p206 : 0 ≤ (x5_1 : Int) := of_decide_eq_true (by first | (with_reducible assumption) | assumption)
        have q206 : x5_1 < (l1.length : Int) := of_decide_eq_true (by first | (with_reducible assumption) | assumption)
        obtain ⟨ad206, A206_0, c206_0, e206, hx206_0, hl206_0, hi206_0⟩ := at_L2 HR1.out x5_1 p206 q206
        cases e206
        have HR206_0 := Asd.mk hi206_0
        have HC206_0 := Asd.mk hl206_0
        clear hi206_0 hl206_0
        replace p206 := eq_true p206
        replace q206 := eq_true q206
        go_wp2_with (first | (go_at_call 26; (with_reducible refine (gba_Ints.calls k1 _ _ (rd_L2 l0 x5_1) _ _ (rd_L2 l1 x5_1) false _ ?side1 ?side2 ?side3 ?side4 A7.out).mono ?_); (case side1 => repeat (first | exact HR205_0.out | (with_reducible refine Kd.C_alloc ?_ _) | (with_reducible refine Kd.C_drewN ?_ _) | (with_reducible refine Kd.C_drew ?_))); (case side2 => exact HC205_0.out); (case side3 => repeat (first | exact HR206_0.out | (with_reducible refine Kd.C_alloc ?_ _) | (with_reducible refine Kd.C_drewN ?_ _) | (with_reducible refine Kd.C_drew ?_))); (case side4 => exact HC206_0.out); rintro e w' ⟨rfl, ⟨nd, rfl⟩⟩; (try first | exact ⟨rfl, _, World.drewN_drewN _ _ _⟩ | exact ⟨rfl, _, Eq.trans (World.drewN_drewN _ _ _) (congrArg (World.drewN _) (Nat.add_assoc _ _ _))⟩)))
        repeat (go_quiet (first | (go_at_call 26; (with_reducible refine (gba_Ints.calls k1 _ _ (rd_L2 l0 x5_1) _ _ (rd_L2 l1 x5_1) false _ ?side1 ?side2 ?side3 ?side4 A7.out).mono ?_); (case side1 => repeat (first | exact HR205_0.out | (with_reducible refine Kd.C_alloc ?_ _) | (with_reducible refine Kd.C_drewN ?_ _) | (with_reducible refine Kd.C_drew ?_))); (case side2 => exact HC205_0.out); (case side3 => repeat (first | exact HR206_0.out | (with_reducible refine Kd.C_alloc ?_ _) | (with_reducible refine Kd.C_drewN ?_ _) | (with_reducible refine Kd.C_drew ?_))); (case side4 => exact HC206_0.out); rintro e w' ⟨rfl, ⟨nd, rfl⟩⟩; (try first | exact ⟨rfl, _, World.drewN_drewN _ _ _⟩ | exact ⟨rfl, _, Eq.trans (World.drewN_drewN _ _ _) (congrArg (World.drewN _) (Nat.add_assoc _ _ _))⟩))); try go_wp2_with (first | (go_at_call 26; (with_reducible refine (gba_Ints.calls k1 _ _ (rd_L2 l0 x5_1) _ _ (rd_L2 l1 x5_1) false _ ?side1 ?side2 ?side3 ?side4 A7.out).mono ?_); (case side1 => repeat (first | exact HR205_0.out | (with_reducible refine Kd.C_alloc ?_ _) | (with_reducible refine Kd.C_drewN ?_ _) | (with_reducible refine Kd.C_drew ?_))); (case side2 => exact HC205_0.out); (case side3 => repeat (first | exact HR206_0.out | (with_reducible refine Kd.C_alloc ?_ _) | (with_reducible refine Kd.C_drewN ?_ _) | (with_reducible refine Kd.C_drew ?_))); (case side4 => exact HC206_0.out); rintro e w' ⟨rfl, ⟨nd, rfl⟩⟩; (try first | exact ⟨rfl, _, World.drewN_drewN _ _ _⟩ | exact ⟨rfl, _, Eq.trans (World.drewN_drewN _ _ _) (congrArg (World.drewN _) (Nat.add_assoc _ _ _))⟩))))
        go_ret
        exact ⟨by first | rfl | (simp; done) | (simp [*]; done), by repeat (first | exact Drawn0.refl _ | apply Drawn0.step)⟩
      ·rw [if_neg c6] at H
       exact absurd H (by simp)
     ·rw [if_neg c5] at H
      exact absurd H (by simp)
    ·rw [if_neg c4] at H
     have c4b0 : decide (x5_1 < (l0.length : Int)) = false := decide_eq_false c4
     clear c4
     obtain rfl := Option.some.inj H
     go_wp2
     repeat (go_quiet (fail); try go_wp2)
     go_ret
     exact ⟨by first | rfl | (simp; done) | (simp [*]; done), by repeat (first | exact Drawn0.refl _ | apply Drawn0.step)⟩
 ·rw [if_neg c3] at H
  have c3b0 : ((l0.length : Int) == (l1.length : Int)) = false := beq_eq_false_iff_ne.mpr c3
  have c3b1 : ((l0.length : Int) != (l1.length : Int)) = true := bne_iff_ne.mpr c3
  have c3b2 : (l0.length == l1.length) = false := by first | simpa using c3 | (simp at c3 ⊢; omega)
  obtain rfl := Option.some.inj H
  go_enter Tryz.func32, Tryz.ntmps32
  go_wp2
  repeat (go_quiet (fail); try go_wp2)
  go_ret
  exact ⟨by first | rfl | (simp; done) | (simp [*]; done), by repeat (first | exact Drawn0.refl _ | apply Drawn0.step)⟩
mutual
def gr6_Corners.l0 : Nat → List (List Bool) → Int → List (List Int) → Int → List (S58) → Option ((List (List Int)))
 | 0, _, _, _, _, _ => none
 | k + 1, x3, x4, x5, x6, x209000 => if x6 < (x3.length : Int) then (gr6_Corners.l1 k x3 x4 x5 x6 ([] : List Int) 0 x209000) else (some x5)
def gr6_Corners.l1 : Nat → List (List Bool) → Int → List (List Int) → Int → List Int → Int → List (S58) → Option ((List (List Int)))
 | 0, _, _, _, _, _, _, _ => none
 | k + 1, x3, x4, x5, x6, x7, x8, x209000 => if x8 < x4 then (if 0 ≤ x6 then (if x6 < (x3.length : Int) then (if 0 ≤ (wrap64 ((wrap64 (x4 - 1)) - x8)) then (if (wrap64 ((wrap64 (x4 - 1)) - x8)) < ((rd_L4 x3 x6).length : Int) then (if rdOf false (rd_L4 x3 x6) (wrap64 ((wrap64 (x4 - 1)) - x8)) = true then (if 0 ≤ x8 then (if x8 < (x209000.length : Int) then (if x7.length < 17592186044416 then (gr6_Corners.l1 k x3 x4 x5 x6 (x7 ++ [(rd_T58 x209000 x8).f1]) (wrap64 (x8 + 1)) x209000) else (none)) else (none)) else (none)) else (if 0 ≤ x8 then (if x8 < (x209000.length : Int) then (if x7.length < 17592186044416 then (gr6_Corners.l1 k x3 x4 x5 x6 (x7 ++ [(rd_T58 x209000 x8).f0]) (wrap64 (x8 + 1)) x209000) else (none)) else (none)) else (none))) else (none)) else (none)) else (none)) else (none)) else (if x5.length < 5864062014805 then (gr6_Corners.l0 k x3 x4 (x5 ++ [x7]) (wrap64 (x6 + 1)) x209000) else (none))
end
def gr6_Corners.f (k : Nat) (l0_0 : List (S58)) : Option ((List (List Int))) := gr6_Corners.l0 k (([(([false, false, true, true, false] : List Bool)), (([true, true, false, false, true] : List Bool)), (([true, false, false, true, true] : List Bool)), (([false, true, true, false, false] : List Bool))] : List (List Bool))) (l0_0.length : Int) ([] : List (List Int)) 0 l0_0
set_option maxHeartbeats 8000000 in
set_option maxRecDepth 100000 in
theorem gr6_Corners.calls (k : Nat) (A0_0 : Option Addr) (c0_0 : Nat) (l0_0 : List (S58)) (r : List (List Int)) (w : World) (hr0_0 : Kd.C k58 w A0_0 l0_0.length l0_0) (hc0_0 : l0_0.length ≤ c0_0) (h : gr6_Corners.f k l0_0 = some r) :
  Calls Tryz.prog 33 #[.agg #[.slice A0_0 l0_0.length c0_0]] w fun e w' => ∃ v0_ : Value, e = .returned (v0_) ∧ Kd.N (Kd.slice 3 (Kd.int .i64)) 22 w' w.heap.size (fun k_ => (w.heap.size ≤ k_)) v0_ r ∧ Below w.heap.size w w' := by
 have hu42 := Tryz.underlying42
 have HR0_0 := Asd.mk hr0_0
 have HC0_0 := Asd.mk hc0_0
 clear hr0_0 hc0_0
 have HB := Asd.mk (Below.refl w.heap.size w)
 have H : (gr6_Corners.l0 k (([(([false, false, true, true, false] : List Bool)), (([true, true, false, false, true] : List Bool)), (([true, false, false, true, true] : List Bool)), (([false, true, true, false, false] : List Bool))] : List (List Bool))) (l0_0.length : Int) ([] : List (List Int)) 0 l0_0) = some r := h
 clear h
 obtain ⟨y209, hy209⟩ : ∃ y_ : List Bool, y_ = (([false, false, true, true, false] : List Bool)) := ⟨_, rfl⟩
 replace H : (gr6_Corners.l0 k (([y209, (([true, true, false, false, true] : List Bool)), (([true, false, false, true, true] : List Bool)), (([false, true, true, false, false] : List Bool))] : List (List Bool))) (l0_0.length : Int) ([] : List (List Int)) 0 l0_0) = some r := by first | (rw [hy209]; with_reducible exact H) | (have H2_ := (Option.bind_some _ _).symm.trans H; rw [hy209]; with_reducible exact H2_) | (have H2_ := (Option.bind_some _ _).symm.trans H; with_reducible exact H2_) | with_reducible exact H | (rw [hy209]; exact H) | exact H
 have Ny209 := Asd.mk hy209
 clear hy209
 obtain ⟨y212, hy212⟩ : ∃ y_ : List Bool, y_ = (([true, true, false, false, true] : List Bool)) := ⟨_, rfl⟩
 replace H : (gr6_Corners.l0 k (([y209, y212, (([true, false, false, true, true] : List Bool)), (([false, true, true, false, false] : List Bool))] : List (List Bool))) (l0_0.length : Int) ([] : List (List Int)) 0 l0_0) = some r := by first | (rw [hy212]; with_reducible exact H) | (have H2_ := (Option.bind_some _ _).symm.trans H; rw [hy212]; with_reducible exact H2_) | (have H2_ := (Option.bind_some _ _).symm.trans H; with_reducible exact H2_) | with_reducible exact H | (rw [hy212]; exact H) | exact H
 have Ny212 := Asd.mk hy212
 clear hy212
 obtain ⟨y215, hy215⟩ : ∃ y_ : List Bool, y_ = (([true, false, false, true, true] : List Bool)) := ⟨_, rfl⟩
 replace H : (gr6_Corners.l0 k (([y209, y212, y215, (([false, true, true, false, false] : List Bool))] : List (List Bool))) (l0_0.length : Int) ([] : List (List Int)) 0 l0_0) = some r := by first | (rw [hy215]; with_reducible exact H) | (have H2_ := (Option.bind_some _ _).symm.trans H; rw [hy215]; with_reducible exact H2_) | (have H2_ := (Option.bind_some _ _).symm.trans H; with_reducible exact H2_) | with_reducible exact H | (rw [hy215]; exact H) | exact H
 have Ny215 := Asd.mk hy215
 clear hy215
 obtain ⟨y218, hy218⟩ : ∃ y_ : List Bool, y_ = (([false, true, true, false, false] : List Bool)) := ⟨_, rfl⟩
 replace H : (gr6_Corners.l0 k (([y209, y212, y215, y218] : List (List Bool))) (l0_0.length : Int) ([] : List (List Int)) 0 l0_0) = some r := by first | (rw [hy218]; with_reducible exact H) | (have H2_ := (Option.bind_some _ _).symm.trans H; rw [hy218]; with_reducible exact H2_) | (have H2_ := (Option.bind_some _ _).symm.trans H; with_reducible exact H2_) | with_reducible exact H | (rw [hy218]; exact H) | exact H
 have Ny218 := Asd.mk hy218
 clear hy218
 obtain ⟨y221, hy221⟩ : ∃ y_ : List (List Bool), y_ = (([y209, y212, y215, y218] : List (List Bool))) := ⟨_, rfl⟩
 replace H : (gr6_Corners.l0 k y221 (l0_0.length : Int) ([] : List (List Int)) 0 l0_0) = some r := by first | (rw [hy221]; with_reducible exact H) | (have H2_ := (Option.bind_some _ _).symm.trans H; rw [hy221]; with_reducible exact H2_) | (have H2_ := (Option.bind_some _ _).symm.trans H; with_reducible exact H2_) | with_reducible exact H | (rw [hy221]; exact H) | exact H
 have Ny221 := Asd.mk hy221
 clear hy221
 have H' := Asd.mk H
 clear H
 go_enter Tryz.func33, Tryz.ntmps33
 go_wp2_with (first | ((with_reducible refine gate_dst (N := 1) rfl ?_); refine box_event ?hg (N := 1) ?hd (cs := #[.slice A0_0 l0_0.length c0_0]) (t := 42) ?hr ?_; (case hd => rfl); (case hg => rfl); (case hr => first | (go_simp; done) | (go_simp; rfl)); intro gb208 hg w2 hbox hb; have n0_ := Asd.mk (below_step (by repeat (first | (with_reducible first | exact HB.out | apply below_alloc | apply pbN | apply bd1) | exact HB.out)) hb); have n1_ := Asd.mk (hbox); have n2_ := Asd.mk ((by rw [hg]; exact (below_size (by repeat (first | (with_reducible first | exact HB.out | apply below_alloc | apply pbN | apply bd1) | exact HB.out))) : w.heap.size ≤ gb208)); have n3_ := Asd.mk ((by rw [hg]; exact (below_size (by repeat (first | (with_reducible first | exact HB.out | apply below_alloc | apply pbN | apply bd1) | exact HB.out))) : w.heap.size ≤ gb208)); clear HB; have HB := n0_; have BK208 := n1_; have GW208 := n2_; have GE208 := n3_; clear n0_ n1_ n2_ n3_; clear hb hbox hg) | ((with_reducible refine gate_dst (N := 9) rfl ?_); refine Kd.R_lit Kd.bool _ 4 ?hg (N := 9) ?hd (xs := ([false, false, true, true, false] : List Bool)) (inner := [.bool false, .bool false, .bool true, .bool true, .bool false]) (ok := fun _ => True) (okp := fun _ => True) ?hr ?hp (fun _ hk => hk) trivial (Below.refl _ _) (Nat.le_refl _) (by simp) ?_; (case hd => rfl); (case hg => rfl); (case hr => first | (go_simp; done) | (go_simp; rfl)); (case hp => exact (Reps.one (show Kd.M Kd.bool _ _ _ false [.bool false] from rfl) (Reps.one (show Kd.M Kd.bool _ _ _ false [.bool false] from rfl) (Reps.one (show Kd.M Kd.bool _ _ _ true [.bool true] from rfl) (Reps.one (show Kd.M Kd.bool _ _ _ true [.bool true] from rfl) (Reps.one (show Kd.M Kd.bool _ _ _ false [.bool false] from rfl) (Reps.none _ _))))))); intro v210 w3 ho4 hb hg_ hnew_; clear hg_ hnew_; (first | rw [← Ny209.out] at ho4 | (simp only [Int.reduceToNat] at ho4; rw [← Ny209.out] at ho4)); have n0_ := Asd.mk (Kd.R_lower (Kd.R_newM (M := fun k_ => (w.heap.size ≤ k_)) ho4 (below_size (by repeat (first | (with_reducible first | exact HB.out | apply below_alloc | apply pbN | apply bd1 | refine below_set ?_ GE208.out) | exact HB.out))) (fun k_ h_ => h_)) (below_size (by repeat (first | (with_reducible first | exact HB.out | apply below_alloc | apply pbN | apply bd1 | refine below_set ?_ GE208.out) | exact HB.out)))); have n1_ := Asd.mk (blk_below (g := gb208) (o := .cells #[.slice A0_0 l0_0.length c0_0] 42 (0, 0)) (by (with_reducible repeat (first | refine blk_drewN ?_ _ | refine blk_drew ?_ | refine blk_alloc ?_ _)); exact BK208.out) hb); have n2_ := Asd.mk (below_step (by repeat (first | (with_reducible first | exact HB.out | apply below_alloc | apply pbN | apply bd1 | refine below_set ?_ GE208.out) | exact HB.out)) hb); clear BK208; clear HB; have HO211 := n0_; have BK208 := n1_; have HB := n2_; clear n0_ n1_ n2_; clear hb ho4) | ((with_reducible refine gate_dst (N := 10) rfl ?_); refine Kd.R_lit Kd.bool _ 4 ?hg (N := 10) ?hd (xs := ([true, true, false, false, true] : List Bool)) (inner := [.bool true, .bool true, .bool false, .bool false, .bool true]) (ok := fun _ => True) (okp := fun _ => True) ?hr ?hp (fun _ hk => hk) trivial (Below.refl _ _) (Nat.le_refl _) (by simp) ?_; (case hd => rfl); (case hg => rfl); (case hr => first | (go_simp; done) | (go_simp; rfl)); (case hp => exact (Reps.one (show Kd.M Kd.bool _ _ _ true [.bool true] from rfl) (Reps.one (show Kd.M Kd.bool _ _ _ true [.bool true] from rfl) (Reps.one (show Kd.M Kd.bool _ _ _ false [.bool false] from rfl) (Reps.one (show Kd.M Kd.bool _ _ _ false [.bool false] from rfl) (Reps.one (show Kd.M Kd.bool _ _ _ true [.bool true] from rfl) (Reps.none _ _))))))); intro v213 w5 ho6 hb hg_ hnew_; clear hg_ hnew_; (first | rw [← Ny212.out] at ho6 | (simp only [Int.reduceToNat] at ho6; rw [← Ny212.out] at ho6)); have n0_ := Asd.mk (Kd.R_elder' (by (with_reducible repeat (first | apply Kd.R_alloc | apply Kd.R_drewN | apply Kd.R_drew)); exact HO211.out) (Kd.R_base ho6) hb); have n1_ := Asd.mk (Kd.R_lower (Kd.R_new' (Kd.R_newM (M := fun k_ => (w.heap.size ≤ k_)) ho6 (below_size (by repeat (first | (with_reducible first | exact HB.out | apply below_alloc | apply pbN | apply bd1 | refine below_set ?_ GE208.out) | exact HB.out))) (fun k_ h_ => h_)) (Kd.R_lt (by (with_reducible repeat (first | apply Kd.R_alloc | apply Kd.R_drewN | apply Kd.R_drew)); exact HO211.out))) (below_size (by repeat (first | (with_reducible first | exact HB.out | apply below_alloc | apply pbN | apply bd1 | refine below_set ?_ GE208.out) | exact HB.out)))); have n2_ := Asd.mk (blk_below (g := gb208) (o := .cells #[.slice A0_0 l0_0.length c0_0] 42 (0, 0)) (by (with_reducible repeat (first | refine blk_drewN ?_ _ | refine blk_drew ?_ | refine blk_alloc ?_ _)); exact BK208.out) hb); have n3_ := Asd.mk (below_step (by repeat (first | (with_reducible first | exact HB.out | apply below_alloc | apply pbN | apply bd1 | refine below_set ?_ GE208.out) | exact HB.out)) hb); clear HO211; clear BK208; clear HB; have HO211 := n0_; have HO214 := n1_; have BK208 := n2_; have HB := n3_; clear n0_ n1_ n2_ n3_; clear hb ho6) | ((with_reducible refine gate_dst (N := 11) rfl ?_); refine Kd.R_lit Kd.bool _ 4 ?hg (N := 11) ?hd (xs := ([true, false, false, true, true] : List Bool)) (inner := [.bool true, .bool false, .bool false, .bool true, .bool true]) (ok := fun _ => True) (okp := fun _ => True) ?hr ?hp (fun _ hk => hk) trivial (Below.refl _ _) (Nat.le_refl _) (by simp) ?_; (case hd => rfl); (case hg => rfl); (case hr => first | (go_simp; done) | (go_simp; rfl)); (case hp => exact (Reps.one (show Kd.M Kd.bool _ _ _ true [.bool true] from rfl) (Reps.one (show Kd.M Kd.bool _ _ _ false [.bool false] from rfl) (Reps.one (show Kd.M Kd.bool _ _ _ false [.bool false] from rfl) (Reps.one (show Kd.M Kd.bool _ _ _ true [.bool true] from rfl) (Reps.one (show Kd.M Kd.bool _ _ _ true [.bool true] from rfl) (Reps.none _ _))))))); intro v216 w7 ho8 hb hg_ hnew_; clear hg_ hnew_; (first | rw [← Ny215.out] at ho8 | (simp only [Int.reduceToNat] at ho8; rw [← Ny215.out] at ho8)); have n0_ := Asd.mk (Kd.R_elder' (by (with_reducible repeat (first | apply Kd.R_alloc | apply Kd.R_drewN | apply Kd.R_drew)); exact HO211.out) (Kd.R_base ho8) hb); have n1_ := Asd.mk (Kd.R_elder' (by (with_reducible repeat (first | apply Kd.R_alloc | apply Kd.R_drewN | apply Kd.R_drew)); exact HO214.out) (Kd.R_base ho8) hb); have n2_ := Asd.mk (Kd.R_lower (Kd.R_new' (Kd.R_new' (Kd.R_newM (M := fun k_ => (w.heap.size ≤ k_)) ho8 (below_size (by repeat (first | (with_reducible first | exact HB.out | apply below_alloc | apply pbN | apply bd1 | refine below_set ?_ GE208.out) | exact HB.out))) (fun k_ h_ => h_)) (Kd.R_lt (by (with_reducible repeat (first | apply Kd.R_alloc | apply Kd.R_drewN | apply Kd.R_drew)); exact HO211.out))) (Kd.R_lt (by (with_reducible repeat (first | apply Kd.R_alloc | apply Kd.R_drewN | apply Kd.R_drew)); exact HO214.out))) (below_size (by repeat (first | (with_reducible first | exact HB.out | apply below_alloc | apply pbN | apply bd1 | refine below_set ?_ GE208.out) | exact HB.out)))); have n3_ := Asd.mk (blk_below (g := gb208) (o := .cells #[.slice A0_0 l0_0.length c0_0] 42 (0, 0)) (by (with_reducible repeat (first | refine blk_drewN ?_ _ | refine blk_drew ?_ | refine blk_alloc ?_ _)); exact BK208.out) hb); have n4_ := Asd.mk (below_step (by repeat (first | (with_reducible first | exact HB.out | apply below_alloc | apply pbN | apply bd1 | refine below_set ?_ GE208.out) | exact HB.out)) hb); clear HO211; clear HO214; clear BK208; clear HB; have HO211 := n0_; have HO214 := n1_; have HO217 := n2_; have BK208 := n3_; have HB := n4_; clear n0_ n1_ n2_ n3_ n4_; clear hb ho8) | ((with_reducible refine gate_dst (N := 12) rfl ?_); refine Kd.R_lit Kd.bool _ 4 ?hg (N := 12) ?hd (xs := ([false, true, true, false, false] : List Bool)) (inner := [.bool false, .bool true, .bool true, .bool false, .bool false]) (ok := fun _ => True) (okp := fun _ => True) ?hr ?hp (fun _ hk => hk) trivial (Below.refl _ _) (Nat.le_refl _) (by simp) ?_; (case hd => rfl); (case hg => rfl); (case hr => first | (go_simp; done) | (go_simp; rfl)); (case hp => exact (Reps.one (show Kd.M Kd.bool _ _ _ false [.bool false] from rfl) (Reps.one (show Kd.M Kd.bool _ _ _ true [.bool true] from rfl) (Reps.one (show Kd.M Kd.bool _ _ _ true [.bool true] from rfl) (Reps.one (show Kd.M Kd.bool _ _ _ false [.bool false] from rfl) (Reps.one (show Kd.M Kd.bool _ _ _ false [.bool false] from rfl) (Reps.none _ _))))))); intro v219 w9 ho10 hb hg_ hnew_; clear hg_ hnew_; (first | rw [← Ny218.out] at ho10 | (simp only [Int.reduceToNat] at ho10; rw [← Ny218.out] at ho10)); have n0_ := Asd.mk (Kd.R_elder' (by (with_reducible repeat (first | apply Kd.R_alloc | apply Kd.R_drewN | apply Kd.R_drew)); exact HO211.out) (Kd.R_base ho10) hb); have n1_ := Asd.mk (Kd.R_elder' (by (with_reducible repeat (first | apply Kd.R_alloc | apply Kd.R_drewN | apply Kd.R_drew)); exact HO214.out) (Kd.R_base ho10) hb); have n2_ := Asd.mk (Kd.R_elder' (by (with_reducible repeat (first | apply Kd.R_alloc | apply Kd.R_drewN | apply Kd.R_drew)); exact HO217.out) (Kd.R_base ho10) hb); have n3_ := Asd.mk (Kd.R_lower (Kd.R_new' (Kd.R_new' (Kd.R_new' (Kd.R_newM (M := fun k_ => (w.heap.size ≤ k_)) ho10 (below_size (by repeat (first | (with_reducible first | exact HB.out | apply below_alloc | apply pbN | apply bd1 | refine below_set ?_ GE208.out) | exact HB.out))) (fun k_ h_ => h_)) (Kd.R_lt (by (with_reducible repeat (first | apply Kd.R_alloc | apply Kd.R_drewN | apply Kd.R_drew)); exact HO211.out))) (Kd.R_lt (by (with_reducible repeat (first | apply Kd.R_alloc | apply Kd.R_drewN | apply Kd.R_drew)); exact HO214.out))) (Kd.R_lt (by (with_reducible repeat (first | apply Kd.R_alloc | apply Kd.R_drewN | apply Kd.R_drew)); exact HO217.out))) (below_size (by repeat (first | (with_reducible first | exact HB.out | apply below_alloc | apply pbN | apply bd1 | refine below_set ?_ GE208.out) | exact HB.out)))); have n4_ := Asd.mk (blk_below (g := gb208) (o := .cells #[.slice A0_0 l0_0.length c0_0] 42 (0, 0)) (by (with_reducible repeat (first | refine blk_drewN ?_ _ | refine blk_drew ?_ | refine blk_alloc ?_ _)); exact BK208.out) hb); have n5_ := Asd.mk (below_step (by repeat (first | (with_reducible first | exact HB.out | apply below_alloc | apply pbN | apply bd1 | refine below_set ?_ GE208.out) | exact HB.out)) hb); clear HO211; clear HO214; clear HO217; clear BK208; clear HB; have HO211 := n0_; have HO214 := n1_; have HO217 := n2_; have HO220 := n3_; have BK208 := n4_; have HB := n5_; clear n0_ n1_ n2_ n3_ n4_ n5_; clear hb ho10; obtain ⟨Ao11, co11, eo11⟩ := Kd.R_slice HO211.out; subst eo11; obtain ⟨Ao12, co12, eo12⟩ := Kd.R_slice HO214.out; subst eo12; obtain ⟨Ao13, co13, eo13⟩ := Kd.R_slice HO217.out; subst eo13; obtain ⟨Ao14, co14, eo14⟩ := Kd.R_slice HO220.out; subst eo14) | ((with_reducible refine gate_dst (N := 13) rfl ?_); refine Kd.N_lit (Kd.slice 4 Kd.bool) _ 154 ?hg (N' := 13) ?hd (xs := ([y209, y212, y215, y218] : List (List Bool))) (inner := [.slice Ao11 y209.length co11, .slice Ao12 y212.length co12, .slice Ao13 y215.length co13, .slice Ao14 y218.length co14]) (ok := (fun k_ => (w.heap.size ≤ k_) ∧ k_ ≠ gb208)) (okp := (fun k_ => (w.heap.size ≤ k_) ∧ k_ ≠ gb208)) ?hr ?hp (fun _ hk => hk) ((show ∀ k_, w9.heap.size ≤ k_ → (fun k_ => (w.heap.size ≤ k_) ∧ k_ ≠ gb208) k_ from fun k_ hk => ⟨(Nat.le_trans (below_size (by repeat (first | (with_reducible first | exact HB.out | apply below_alloc | apply pbN | apply bd1 | refine below_set ?_ GE208.out) | exact HB.out))) hk), Kd.freshB (g := gb208) (o := .cells #[.slice A0_0 l0_0.length c0_0] 42 (0, 0)) (by (with_reducible repeat (first | refine blk_drewN ?_ _ | refine blk_drew ?_ | refine blk_alloc ?_ _)); exact BK208.out) k_ hk⟩) _ (Nat.le_refl _)) (Below.refl _ _) (Nat.le_refl _) (by simp) ?_; (case hd => rfl); (case hg => rfl); (case hr => first | (go_simp; done) | (go_simp; rfl)); (case hp => exact (Reps.one (show Kd.FK (Kd.slice 4 Kd.bool) _ _ y209 [.slice Ao11 y209.length co11] from (Kd.FK_slice_mk (Kd.R_reads' (Kd.R_mono (ok' := (fun k_ => (w.heap.size ≤ k_) ∧ k_ ≠ gb208)) (Kd.R_types (HO211.out) BK208.out (by decide)) (fun k_ hk => ⟨hk.1.1.1.1.1, hk.2⟩))).2.1 (Kd.R_F (Kd.R_mono (ok' := (fun k_ => (w.heap.size ≤ k_) ∧ k_ ≠ gb208)) (Kd.R_types (HO211.out) BK208.out (by decide)) (fun k_ hk => ⟨hk.1.1.1.1.1, hk.2⟩))))) (Reps.one (show Kd.FK (Kd.slice 4 Kd.bool) _ _ y212 [.slice Ao12 y212.length co12] from (Kd.FK_slice_mk (Kd.R_reads' (Kd.R_mono (ok' := (fun k_ => (w.heap.size ≤ k_) ∧ k_ ≠ gb208)) (Kd.R_types (HO214.out) BK208.out (by decide)) (fun k_ hk => ⟨hk.1.1.1.1.1, hk.2⟩))).2.1 (Kd.R_F (Kd.R_mono (ok' := (fun k_ => (w.heap.size ≤ k_) ∧ k_ ≠ gb208)) (Kd.R_types (HO214.out) BK208.out (by decide)) (fun k_ hk => ⟨hk.1.1.1.1.1, hk.2⟩))))) (Reps.one (show Kd.FK (Kd.slice 4 Kd.bool) _ _ y215 [.slice Ao13 y215.length co13] from (Kd.FK_slice_mk (Kd.R_reads' (Kd.R_mono (ok' := (fun k_ => (w.heap.size ≤ k_) ∧ k_ ≠ gb208)) (Kd.R_types (HO217.out) BK208.out (by decide)) (fun k_ hk => ⟨hk.1.1.1.1.1, hk.2⟩))).2.1 (Kd.R_F (Kd.R_mono (ok' := (fun k_ => (w.heap.size ≤ k_) ∧ k_ ≠ gb208)) (Kd.R_types (HO217.out) BK208.out (by decide)) (fun k_ hk => ⟨hk.1.1.1.1.1, hk.2⟩))))) (Reps.one (show Kd.FK (Kd.slice 4 Kd.bool) _ _ y218 [.slice Ao14 y218.length co14] from (Kd.FK_slice_mk (Kd.R_reads' (Kd.R_mono (ok' := (fun k_ => (w.heap.size ≤ k_) ∧ k_ ≠ gb208)) (Kd.R_types (HO220.out) BK208.out (by decide)) (fun k_ hk => ⟨hk.1.1.1.1.1, hk.2⟩))).2.1 (Kd.R_F (Kd.R_mono (ok' := (fun k_ => (w.heap.size ≤ k_) ∧ k_ ≠ gb208)) (Kd.R_types (HO220.out) BK208.out (by decide)) (fun k_ hk => ⟨hk.1.1.1.1.1, hk.2⟩))))) (Reps.none _ _)))))); intro v222 w15 ho16 hb hg_ hnew_; clear hg_ hnew_; (first | rw [← Ny221.out] at ho16 | (simp only [Int.reduceToNat] at ho16; rw [← Ny221.out] at ho16)); have n0_ := Asd.mk (Kd.N_lower ho16 (below_size (by repeat (first | (with_reducible first | exact HB.out | apply below_alloc | apply pbN | apply bd1 | refine below_set ?_ GE208.out) | exact HB.out)))); have n1_ := Asd.mk (blk_below (g := gb208) (o := .cells #[.slice A0_0 l0_0.length c0_0] 42 (0, 0)) (by (with_reducible repeat (first | refine blk_drewN ?_ _ | refine blk_drew ?_ | refine blk_alloc ?_ _)); exact BK208.out) hb); have n2_ := Asd.mk (below_step (by repeat (first | (with_reducible first | exact HB.out | apply below_alloc | apply pbN | apply bd1 | refine below_set ?_ GE208.out) | exact HB.out)) hb); clear BK208; clear HB; clear HO211; clear HO214; clear HO217; clear HO220; have HO223 := n0_; have BK208 := n1_; have HB := n2_; clear n0_ n1_ n2_; clear hb ho16; have hcz17_0 : w15.cell? ⟨gb208, 0, none⟩ = some (.slice A0_0 l0_0.length c0_0) := (blk_cell BK208.out 0).trans rfl; have hfz17_0 := blk_frozen BK208.out 0))
 go_loopg [5, 6] k (fun kq v5 v6 w' => ∃ (x5_1 : List (List Int)) (x6_1 : Int), v6 = .int .i64 x6_1 ∧ Asd (gr6_Corners.l0 kq y221 (l0_0.length : Int) x5_1 x6_1 l0_0 = some r) ∧ Asd (kq ≤ k) ∧ Asd (Kd.N (Kd.slice 4 Kd.bool) 154 w' w.heap.size (fun k_ => (w.heap.size ≤ k_) ∧ some k_ ≠ (v5 : Value).ownBlock ∧ k_ ≠ gb208) v222 y221) ∧ Asd (Kd.N (Kd.slice 3 (Kd.int .i64)) 22 w' w.heap.size (fun k_ => (w.heap.size ≤ k_) ∧ some k_ ≠ (v222 : Value).ownBlock ∧ k_ ≠ gb208) v5 x5_1) ∧ Asd (w'.heap[gb208]? = some (.cells #[(.slice A0_0 l0_0.length c0_0)] 42 (0, 0))) ∧ Asd (Below w.heap.size w w'))
 case atStart => exact ⟨(([] : List (List Int))), (0), (by first | rfl | (simp; done) | (simp [*]; done)), H', ⟨Nat.le_refl _⟩, ⟨by (with_reducible repeat (first | apply Kd.N_alloc | apply Kd.N_drewN | apply Kd.N_drew)); exact Kd.N_mono HO223.out (fun _ hk => ⟨hk.1, ⟨(by simp [Value.ownBlock]), hk.2⟩⟩)⟩, ⟨by first | exact Kd.S_nil _ _ _ _ _ | exact Kd.N_nil _ _ _ _ _ | exact Kd.V_nil _ _ _ _ _ | exact Kd.Q_nil _ _ _ _ _ | exact Kd.R_nil _ _ _ _ _⟩, ⟨by (with_reducible repeat (first | refine blk_drewN ?_ _ | refine blk_drew ?_ | refine blk_alloc ?_ _)); exact BK208.out⟩, ⟨by repeat (first | (with_reducible first | exact HB.out | apply below_alloc | apply pbN | apply bd1 | refine below_set ?_ GE208.out) | exact HB.out)⟩⟩
 case round =>
  clear H'
  try clear p2
  try clear c3
  try clear hcz17_0
  try clear hfz17_0
  obtain ⟨x5_1, x6_1, rfl, HA, HK1, HO_3, HO_5, BK208, HB⟩ := hrel
  cases gk with
  | zero => exact absurd HA.out (by simp [gr6_Corners.l0])
  | succ k1 =>
   have H := HA.out
   clear HA
   simp only [gr6_Corners.l0] at H
   by_cases c18 : x6_1 < (y221.length : Int)
   ·rw [if_pos c18] at H
    have c18b0 : decide (x6_1 < (y221.length : Int)) = true := decide_eq_true c18
    clear c18
    have H' := Asd.mk H
    clear H
    obtain ⟨Ao19, co19, eo19⟩ := Kd.N_slice HO_3.out
    subst eo19
    go_wp2
    go_loopg [7, 8] k1 (fun kq v7 v8 w' => ∃ (x7_2 : List Int) (x8_2 : Int), v8 = .int .i64 x8_2 ∧ Asd (gr6_Corners.l1 kq y221 (l0_0.length : Int) x5_1 x6_1 x7_2 x8_2 l0_0 = some r) ∧ Asd (kq ≤ k1) ∧ Asd (Kd.N (Kd.slice 4 Kd.bool) 154 w' w.heap.size (fun k_ => (w.heap.size ≤ k_) ∧ some k_ ≠ (u5 : Value).ownBlock ∧ some k_ ≠ (v7 : Value).ownBlock ∧ k_ ≠ gb208) (.slice Ao19 y221.length co19) y221) ∧ Asd (Kd.N (Kd.slice 3 (Kd.int .i64)) 22 w' w.heap.size (fun k_ => (w.heap.size ≤ k_) ∧ some k_ ≠ ((.slice Ao19 y221.length co19) : Value).ownBlock ∧ some k_ ≠ (v7 : Value).ownBlock ∧ k_ ≠ gb208) u5 x5_1) ∧ Asd (Kd.R (Kd.int .i64) 3 w' w.heap.size (fun k_ => (w.heap.size ≤ k_)) v7 x7_2) ∧ Asd (w'.heap[gb208]? = some (.cells #[(.slice A0_0 l0_0.length c0_0)] 42 (0, 0))) ∧ Asd (Below w.heap.size w w'))
    case atStart => exact ⟨(([] : List Int)), (0), (by first | rfl | (simp; done) | (simp [*]; done)), H', ⟨Nat.le_refl _⟩, ⟨by (with_reducible repeat (first | apply Kd.N_alloc | apply Kd.N_drewN | apply Kd.N_drew)); exact Kd.N_mono HO_3.out (fun _ hk => ⟨hk.1, ⟨hk.2.1, ⟨(by simp [Value.ownBlock]), hk.2.2⟩⟩⟩)⟩, ⟨by (with_reducible repeat (first | apply Kd.N_alloc | apply Kd.N_drewN | apply Kd.N_drew)); exact Kd.N_mono HO_5.out (fun _ hk => ⟨hk.1, ⟨hk.2.1, ⟨(by simp [Value.ownBlock]), hk.2.2⟩⟩⟩)⟩, ⟨by first | exact Kd.R_nil _ _ _ _ _ | exact Kd.N_nil _ _ _ _ _ | exact Kd.V_nil _ _ _ _ _ | exact Kd.Q_nil _ _ _ _ _ | exact Kd.S_nil _ _ _ _ _⟩, ⟨by (with_reducible repeat (first | refine blk_drewN ?_ _ | refine blk_drew ?_ | refine blk_alloc ?_ _)); exact BK208.out⟩, ⟨by repeat (first | (with_reducible first | exact HB.out | apply below_alloc | apply pbN | apply bd1 | refine below_set ?_ GE208.out) | exact HB.out)⟩⟩
    case round =>
     clear H'
     try clear c1
     try clear p2
     try clear c3
     try clear c18
     try clear c18b0
     try clear hcz17_0
     try clear hfz17_0
     try clear p2
     obtain ⟨x7_2, x8_2, rfl, HA, HK2, HO_3, HO_5, HO_7, BK208, HB⟩ := hrel
     cases gk with
     | zero => exact absurd HA.out (by simp [gr6_Corners.l1])
     | succ k2 =>
      have H := HA.out
      clear HA
      simp only [gr6_Corners.l1] at H
      by_cases c20 : x8_2 < (l0_0.length : Int)
      ·rw [if_pos c20] at H
       have c20b0 : decide (x8_2 < (l0_0.length : Int)) = true := decide_eq_true c20
       clear c20
       by_cases c21 : 0 ≤ x6_1
       ·rw [if_pos c21] at H
        have c21b0 : decide (0 ≤ x6_1) = true := decide_eq_true c21
        clear c21
        by_cases c22 : x6_1 < (y221.length : Int)
        ·rw [if_pos c22] at H
         have c22b0 : decide (x6_1 < (y221.length : Int)) = true := decide_eq_true c22
         clear c22
         obtain ⟨ji23, hji23⟩ : ∃ j_ : Int, (wrap64 ((wrap64 ((l0_0.length : Int) - 1)) - x8_2)) = j_ := ⟨_, rfl⟩
         replace H : (if 0 ≤ (ji23) then (if (ji23) < ((rd_L4 y221 x6_1).length : Int) then (if rdOf false (rd_L4 y221 x6_1) (ji23) = true then (if 0 ≤ x8_2 then (if x8_2 < (l0_0.length : Int) then (if x7_2.length < 17592186044416 then (gr6_Corners.l1 k2 y221 (l0_0.length : Int) x5_1 x6_1 (x7_2 ++ [(rd_T58 l0_0 x8_2).f1]) (wrap64 (x8_2 + 1)) l0_0) else (none)) else (none)) else (none)) else (if 0 ≤ x8_2 then (if x8_2 < (l0_0.length : Int) then (if x7_2.length < 17592186044416 then (gr6_Corners.l1 k2 y221 (l0_0.length : Int) x5_1 x6_1 (x7_2 ++ [(rd_T58 l0_0 x8_2).f0]) (wrap64 (x8_2 + 1)) l0_0) else (none)) else (none)) else (none))) else (none)) else (none)) = some r := by first | (rw [hji23] at H; exact H) | (simp only [hji23] at H ⊢; exact H)
         have hji23w : (IntKind.i64.wrap ((wrap64 ((l0_0.length : Int) - 1)) - x8_2)) = ji23 := (i64_w _).trans hji23
         by_cases c24 : 0 ≤ (ji23)
         ·rw [if_pos c24] at H
          have c24b0 : decide (0 ≤ (ji23)) = true := decide_eq_true c24
          clear c24
          by_cases c25 : (ji23) < ((rd_L4 y221 x6_1).length : Int)
          ·rw [if_pos c25] at H
           have c25b0 : decide ((ji23) < ((rd_L4 y221 x6_1).length : Int)) = true := decide_eq_true c25
           clear c25
           obtain ⟨bq26, hbq26⟩ : ∃ b_ : Bool, b_ = (rdOf false (rd_L4 y221 x6_1) (ji23)) := ⟨_, rfl⟩
           replace H : (if bq26 = true then (if 0 ≤ x8_2 then (if x8_2 < (l0_0.length : Int) then (if x7_2.length < 17592186044416 then (gr6_Corners.l1 k2 y221 (l0_0.length : Int) x5_1 x6_1 (x7_2 ++ [(rd_T58 l0_0 x8_2).f1]) (wrap64 (x8_2 + 1)) l0_0) else (none)) else (none)) else (none)) else (if 0 ≤ x8_2 then (if x8_2 < (l0_0.length : Int) then (if x7_2.length < 17592186044416 then (gr6_Corners.l1 k2 y221 (l0_0.length : Int) x5_1 x6_1 (x7_2 ++ [(rd_T58 l0_0 x8_2).f0]) (wrap64 (x8_2 + 1)) l0_0) else (none)) else (none)) else (none))) = some r := by rw [← hbq26] at H; exact H
           have Nbq26 := Asd.mk hbq26
           clear hbq26
           by_cases c27 : bq26 = true
           ·subst c27
            have H1 : (if 0 ≤ x8_2 then (if x8_2 < (l0_0.length : Int) then (if x7_2.length < 17592186044416 then (gr6_Corners.l1 k2 y221 (l0_0.length : Int) x5_1 x6_1 (x7_2 ++ [(rd_T58 l0_0 x8_2).f1]) (wrap64 (x8_2 + 1)) l0_0) else (none)) else (none)) else (none)) = some r := by rw [if_pos rfl] at H; exact H
            clear H
            have H := H1
            clear H1
            by_cases c28 : 0 ≤ x8_2
            ·rw [if_pos c28] at H
             have c28b0 : decide (0 ≤ x8_2) = true := decide_eq_true c28
             clear c28
             by_cases c29 : x8_2 < (l0_0.length : Int)
             ·rw [if_pos c29] at H
              have c29b0 : decide (x8_2 < (l0_0.length : Int)) = true := decide_eq_true c29
              clear c29
              by_cases c30 : x7_2.length < 17592186044416
              ·rw [if_pos c30] at H
               have LMc30 := Asd.mk c30
               clear c30
               obtain ⟨y227, hy227⟩ : ∃ y_ : List Int, y_ = (x7_2 ++ [(rd_T58 l0_0 x8_2).f1]) := ⟨_, rfl⟩
               replace H : (gr6_Corners.l1 k2 y221 (l0_0.length : Int) x5_1 x6_1 y227 (wrap64 (x8_2 + 1)) l0_0) = some r := by first | (rw [hy227]; with_reducible exact H) | (have H2_ := (Option.bind_some _ _).symm.trans H; rw [hy227]; with_reducible exact H2_) | (have H2_ := (Option.bind_some _ _).symm.trans H; with_reducible exact H2_) | with_reducible exact H | (rw [hy227]; exact H) | exact H
               have Ny227 := Asd.mk hy227
               clear hy227
               have H' := Asd.mk H
               clear H
               have p224 : 0 ≤ (x6_1 : Int) := of_decide_eq_true (by first | (with_reducible assumption) | assumption)
               have q224 : x6_1 < (y221.length : Int) := of_decide_eq_true (by first | (with_reducible assumption) | assumption)
               obtain ⟨ad224, A224_0, c224_0, e224, hx224_0, hl224_0, hi224_0⟩ := at_L4 (Kd.N_reads' HO_3.out).2.2 x6_1 p224 q224
               cases e224
               obtain ⟨ce224, hce224, hMe224, hcc224⟩ := Kd.N_get HO_3.out [] x6_1 p224 (by first | exact q224 | exact of_decide_eq_true (by first | (with_reducible assumption) | assumption) | (have e_ := (Kd.N_reads' HO_3.out).1; omega))
               obtain ⟨ua224_0, uc224_0, rfl, ul224_0, ge224_0⟩ := Kd.FK_slice_open hMe224
               have hv224_0 := hcc224 0 _ rfl
               rw [Nat.add_zero, show ((Kd.slice 4 Kd.bool)).sz = 1 from rfl, Nat.mul_one] at hv224_0
               replace hv224_0 := Option.some.inj (hv224_0.symm.trans hx224_0)
               injection hv224_0 with hva_ hvn_ hvc_
               rw [hva_] at ge224_0
               rw [hvc_] at ul224_0
               have HL224_0 := Asd.mk (show Kd.V Kd.bool 4 _ w.heap.size _ _ (rd_L4 y221 x6_1) from Kd.V_mk ul224_0 ge224_0)
               clear hva_ hvn_ hvc_ ge224_0 ul224_0
               clear hcc224 hce224
               have HR224_0 := Asd.mk hi224_0
               have HC224_0 := Asd.mk hl224_0
               clear hi224_0 hl224_0
               replace p224 := eq_true p224
               replace q224 := eq_true q224
               have p225 : 0 ≤ ((ji23) : Int) := of_decide_eq_true (by first | (with_reducible assumption) | assumption)
               have q225 : (ji23) < ((rd_L4 y221 x6_1).length : Int) := of_decide_eq_true (by first | (with_reducible assumption) | assumption)
               obtain ⟨ad225, e225, hx225_0⟩ := Kd.at_bool (by repeat (first | (with_reducible exact HR224_0.out) | (with_reducible refine Kd.C_alloc ?_ _) | (with_reducible refine Kd.C_drewN ?_ _) | (with_reducible refine Kd.C_drew ?_) | exact HR224_0.out)) (ji23) p225 q225
               (try rw [← Nbq26.out] at hx225_0)
               cases e225
               replace p225 := eq_true p225
               replace q225 := eq_true q225
               have hcz31_0 : wr.cell? ⟨gb208, 0, none⟩ = some (.slice A0_0 l0_0.length c0_0) := (blk_cell BK208.out 0).trans rfl
               have hfz31_0 := blk_frozen BK208.out 0
               have p226 : 0 ≤ (x8_2 : Int) := of_decide_eq_true (by first | (with_reducible assumption) | assumption)
               have q226 : x8_2 < (l0_0.length : Int) := of_decide_eq_true (by first | (with_reducible assumption) | assumption)
               obtain ⟨ad226, e226, hx226_0, hx226_1⟩ := at_T58 HR0_0.out x8_2 p226 q226
               cases e226
               replace hx226_0 := (HB.out.cell (World.block_lt_of_cell? w _ hx226_0)).trans hx226_0
               replace hx226_1 := (HB.out.cell (World.block_lt_of_cell? w _ hx226_1)).trans hx226_1
               replace p226 := eq_true p226
               replace q226 := eq_true q226
               go_wp2_with (first | ((with_reducible refine gate_builtin (b := .append) (xs := #[.tmp 38, .tmp 45]) rfl ?_); at_builtin; refine Kd.R_append (Kd.int .i64) (w0 := w) w.heap.size rfl (.tmp 38) (.tmp 45) 22 3 (.int .i64 0) 8 rfl Tryz.underlying22 info3 rfl (by decide) (by omega) u7 x7_2 ((rd_T58 l0_0 x8_2).f1) [.int .i64 ((rd_T58 l0_0 x8_2).f1)] (fun k_ => (w.heap.size ≤ k_)) (fun _ => False) rfl rfl ?aP (fun _ hk => hk.elim) ?aF ?aO ?aB ?aS ?aL ?_; (case aP => exact rfl); (case aB => exact (by repeat (first | (with_reducible first | exact HB.out | apply below_alloc | apply pbN | apply bd1 | refine below_set ?_ GE208.out) | exact HB.out))); (case aF => exact (fun k_ hk => (Nat.le_trans (below_size (by repeat (first | (with_reducible first | exact HB.out | apply below_alloc | apply pbN | apply bd1 | refine below_set ?_ GE208.out) | exact HB.out))) hk))); (case aO => exact (by (with_reducible repeat (first | apply Kd.R_alloc | apply Kd.R_drewN | apply Kd.R_drew)); exact HO_7.out)); (case aS => exact (below_size (by repeat (first | (with_reducible first | exact HB.out | apply below_alloc | apply pbN | apply bd1 | refine below_set ?_ GE208.out) | exact HB.out)))); (case aL => have := LMc30.out; omega); intro v228 w32 ho hb hg hat; rw [← Ny227.out] at ho; have n0_ := Asd.mk (Kd.N_afterv (ok := (fun k_ => (w.heap.size ≤ k_) ∧ some k_ ≠ (u5 : Value).ownBlock ∧ k_ ≠ gb208)) (by (with_reducible repeat (first | apply Kd.N_alloc | apply Kd.N_drewN | apply Kd.N_drew)); exact Kd.N_mono HO_3.out (fun _ hk => ⟨⟨hk.1, ⟨hk.2.1, hk.2.2.2⟩⟩, hk.2.2.1⟩)) hg hat); have n1_ := Asd.mk (Kd.N_afterv (ok := (fun k_ => (w.heap.size ≤ k_) ∧ some k_ ≠ (.slice (some ad224) y221.length co19 : Value).ownBlock ∧ k_ ≠ gb208)) (by (with_reducible repeat (first | apply Kd.N_alloc | apply Kd.N_drewN | apply Kd.N_drew)); exact Kd.N_mono HO_5.out (fun _ hk => ⟨⟨hk.1, ⟨hk.2.1, hk.2.2.2⟩⟩, hk.2.2.1⟩)) hg hat); have n2_ := Asd.mk (blk_grown (g := gb208) (o := .cells #[.slice (some ad226) l0_0.length c0_0] 42 (0, 0)) (by (with_reducible repeat (first | refine blk_drewN ?_ _ | refine blk_drew ?_ | refine blk_alloc ?_ _)); exact BK208.out) hg (Kd.R_ne HO_7.out BK208.out (by decide))); have n3_ := Asd.mk (Kd.V_afterv (ok := (fun k_ => (w.heap.size ≤ k_) ∧ some k_ ≠ (.slice (some ad224) y221.length co19 : Value).ownBlock ∧ some k_ ≠ (u5 : Value).ownBlock ∧ k_ ≠ gb208)) (by (with_reducible repeat (first | apply Kd.V_alloc | apply Kd.V_drewN | apply Kd.V_drew)); exact Kd.V_mono HL224_0.out (fun _ hk => ⟨⟨hk.1.1, ⟨hk.2, ⟨hk.1.2.1, hk.1.2.2.2⟩⟩⟩, hk.1.2.2.1⟩)) hg hat); have n4_ := Asd.mk (hb); have n5_ := Asd.mk (ho); clear HO_3; clear HO_5; clear BK208; clear HL224_0; clear HB; clear HO_7; have HO_3 := n0_; have HO_5 := n1_; have BK208 := n2_; have HL224_0 := n3_; have HB := n4_; have HO229 := n5_; clear n0_ n1_ n2_ n3_ n4_ n5_; clear ho hb hg hat))
               go_roundg k2
               case measure => have := HK1.out; have := HK2.out; omega
               case rel => exact ⟨(y227), (wrap64 (x8_2 + 1)), (by first | rfl | (simp; done) | (simp [*]; done)), H', ⟨by have := HK1.out; have := HK2.out; omega⟩, ⟨by (with_reducible repeat (first | apply Kd.N_alloc | apply Kd.N_drewN | apply Kd.N_drew)); exact Kd.N_mono HO_3.out (fun _ hk => ⟨hk.1.1, ⟨hk.1.2.1, ⟨hk.2, hk.1.2.2⟩⟩⟩)⟩, ⟨by (with_reducible repeat (first | apply Kd.N_alloc | apply Kd.N_drewN | apply Kd.N_drew)); exact Kd.N_mono HO_5.out (fun _ hk => ⟨hk.1.1, ⟨hk.1.2.1, ⟨hk.2, hk.1.2.2⟩⟩⟩)⟩, ⟨by (with_reducible repeat (first | apply Kd.R_alloc | apply Kd.R_drewN | apply Kd.R_drew)); exact HO229.out⟩, ⟨by (with_reducible repeat (first | refine blk_drewN ?_ _ | refine blk_drew ?_ | refine blk_alloc ?_ _)); exact BK208.out⟩, ⟨by repeat (first | (with_reducible first | exact HB.out | apply below_alloc | apply pbN | apply bd1 | refine below_set ?_ GE208.out) | exact HB.out)⟩⟩
              ·rw [if_neg c30] at H
               exact absurd H (by simp)
             ·rw [if_neg c29] at H
              exact absurd H (by simp)
            ·rw [if_neg c28] at H
             exact absurd H (by simp)
           ·replace c27 := Bool.eq_false_iff.mpr c27
            subst c27
            have H1 : (if 0 ≤ x8_2 then (if x8_2 < (l0_0.length : Int) then (if x7_2.length < 17592186044416 then (gr6_Corners.l1 k2 y221 (l0_0.length : Int) x5_1 x6_1 (x7_2 ++ [(rd_T58 l0_0 x8_2).f0]) (wrap64 (x8_2 + 1)) l0_0) else (none)) else (none)) else (none)) = some r := by rw [if_neg (show ¬ (false = true) by decide)] at H; exact H
            clear H
            have H := H1
            clear H1
            by_cases c33 : 0 ≤ x8_2
            ·rw [if_pos c33] at H
             have c33b0 : decide (0 ≤ x8_2) = true := decide_eq_true c33
             clear c33
             by_cases c34 : x8_2 < (l0_0.length : Int)
             ·rw [if_pos c34] at H
              have c34b0 : decide (x8_2 < (l0_0.length : Int)) = true := decide_eq_true c34
              clear c34
              by_cases c35 : x7_2.length < 17592186044416
              ·rw [if_pos c35] at H
               have LMc35 := Asd.mk c35
               clear c35
               obtain ⟨y231, hy231⟩ : ∃ y_ : List Int, y_ = (x7_2 ++ [(rd_T58 l0_0 x8_2).f0]) := ⟨_, rfl⟩
               replace H : (gr6_Corners.l1 k2 y221 (l0_0.length : Int) x5_1 x6_1 y231 (wrap64 (x8_2 + 1)) l0_0) = some r := by first | (rw [hy231]; with_reducible exact H) | (have H2_ := (Option.bind_some _ _).symm.trans H; rw [hy231]; with_reducible exact H2_) | (have H2_ := (Option.bind_some _ _).symm.trans H; with_reducible exact H2_) | with_reducible exact H | (rw [hy231]; exact H) | exact H
               have Ny231 := Asd.mk hy231
               clear hy231
               have H' := Asd.mk H
               clear H
               have p224 : 0 ≤ (x6_1 : Int) := of_decide_eq_true (by first | (with_reducible assumption) | assumption)
               have q224 : x6_1 < (y221.length : Int) := of_decide_eq_true (by first | (with_reducible assumption) | assumption)
               obtain ⟨ad224, A224_0, c224_0, e224, hx224_0, hl224_0, hi224_0⟩ := at_L4 (Kd.N_reads' HO_3.out).2.2 x6_1 p224 q224
               cases e224
               obtain ⟨ce224, hce224, hMe224, hcc224⟩ := Kd.N_get HO_3.out [] x6_1 p224 (by first | exact q224 | exact of_decide_eq_true (by first | (with_reducible assumption) | assumption) | (have e_ := (Kd.N_reads' HO_3.out).1; omega))
               obtain ⟨ua224_0, uc224_0, rfl, ul224_0, ge224_0⟩ := Kd.FK_slice_open hMe224
               have hv224_0 := hcc224 0 _ rfl
               rw [Nat.add_zero, show ((Kd.slice 4 Kd.bool)).sz = 1 from rfl, Nat.mul_one] at hv224_0
               replace hv224_0 := Option.some.inj (hv224_0.symm.trans hx224_0)
               injection hv224_0 with hva_ hvn_ hvc_
               rw [hva_] at ge224_0
               rw [hvc_] at ul224_0
               have HL224_0 := Asd.mk (show Kd.V Kd.bool 4 _ w.heap.size _ _ (rd_L4 y221 x6_1) from Kd.V_mk ul224_0 ge224_0)
               clear hva_ hvn_ hvc_ ge224_0 ul224_0
               clear hcc224 hce224
               have HR224_0 := Asd.mk hi224_0
               have HC224_0 := Asd.mk hl224_0
               clear hi224_0 hl224_0
               replace p224 := eq_true p224
               replace q224 := eq_true q224
               have p225 : 0 ≤ ((ji23) : Int) := of_decide_eq_true (by first | (with_reducible assumption) | assumption)
               have q225 : (ji23) < ((rd_L4 y221 x6_1).length : Int) := of_decide_eq_true (by first | (with_reducible assumption) | assumption)
               obtain ⟨ad225, e225, hx225_0⟩ := Kd.at_bool (by repeat (first | (with_reducible exact HR224_0.out) | (with_reducible refine Kd.C_alloc ?_ _) | (with_reducible refine Kd.C_drewN ?_ _) | (with_reducible refine Kd.C_drew ?_) | exact HR224_0.out)) (ji23) p225 q225
               (try rw [← Nbq26.out] at hx225_0)
               cases e225
               replace p225 := eq_true p225
               replace q225 := eq_true q225
               have hcz36_0 : wr.cell? ⟨gb208, 0, none⟩ = some (.slice A0_0 l0_0.length c0_0) := (blk_cell BK208.out 0).trans rfl
               have hfz36_0 := blk_frozen BK208.out 0
               have p230 : 0 ≤ (x8_2 : Int) := of_decide_eq_true (by first | (with_reducible assumption) | assumption)
               have q230 : x8_2 < (l0_0.length : Int) := of_decide_eq_true (by first | (with_reducible assumption) | assumption)
               obtain ⟨ad230, e230, hx230_0, hx230_1⟩ := at_T58 HR0_0.out x8_2 p230 q230
               cases e230
               replace hx230_0 := (HB.out.cell (World.block_lt_of_cell? w _ hx230_0)).trans hx230_0
               replace hx230_1 := (HB.out.cell (World.block_lt_of_cell? w _ hx230_1)).trans hx230_1
               replace p230 := eq_true p230
               replace q230 := eq_true q230
               go_wp2_with (first | ((with_reducible refine gate_builtin (b := .append) (xs := #[.tmp 47, .tmp 54]) rfl ?_); at_builtin; refine Kd.R_append (Kd.int .i64) (w0 := w) w.heap.size rfl (.tmp 47) (.tmp 54) 22 3 (.int .i64 0) 8 rfl Tryz.underlying22 info3 rfl (by decide) (by omega) u7 x7_2 ((rd_T58 l0_0 x8_2).f0) [.int .i64 ((rd_T58 l0_0 x8_2).f0)] (fun k_ => (w.heap.size ≤ k_)) (fun _ => False) rfl rfl ?aP (fun _ hk => hk.elim) ?aF ?aO ?aB ?aS ?aL ?_; (case aP => exact rfl); (case aB => exact (by repeat (first | (with_reducible first | exact HB.out | apply below_alloc | apply pbN | apply bd1 | refine below_set ?_ GE208.out) | exact HB.out))); (case aF => exact (fun k_ hk => (Nat.le_trans (below_size (by repeat (first | (with_reducible first | exact HB.out | apply below_alloc | apply pbN | apply bd1 | refine below_set ?_ GE208.out) | exact HB.out))) hk))); (case aO => exact (by (with_reducible repeat (first | apply Kd.R_alloc | apply Kd.R_drewN | apply Kd.R_drew)); exact HO_7.out)); (case aS => exact (below_size (by repeat (first | (with_reducible first | exact HB.out | apply below_alloc | apply pbN | apply bd1 | refine below_set ?_ GE208.out) | exact HB.out)))); (case aL => have := LMc35.out; omega); intro v232 w37 ho hb hg hat; rw [← Ny231.out] at ho; have n0_ := Asd.mk (Kd.N_afterv (ok := (fun k_ => (w.heap.size ≤ k_) ∧ some k_ ≠ (u5 : Value).ownBlock ∧ k_ ≠ gb208)) (by (with_reducible repeat (first | apply Kd.N_alloc | apply Kd.N_drewN | apply Kd.N_drew)); exact Kd.N_mono HO_3.out (fun _ hk => ⟨⟨hk.1, ⟨hk.2.1, hk.2.2.2⟩⟩, hk.2.2.1⟩)) hg hat); have n1_ := Asd.mk (Kd.N_afterv (ok := (fun k_ => (w.heap.size ≤ k_) ∧ some k_ ≠ (.slice (some ad224) y221.length co19 : Value).ownBlock ∧ k_ ≠ gb208)) (by (with_reducible repeat (first | apply Kd.N_alloc | apply Kd.N_drewN | apply Kd.N_drew)); exact Kd.N_mono HO_5.out (fun _ hk => ⟨⟨hk.1, ⟨hk.2.1, hk.2.2.2⟩⟩, hk.2.2.1⟩)) hg hat); have n2_ := Asd.mk (blk_grown (g := gb208) (o := .cells #[.slice (some ad230) l0_0.length c0_0] 42 (0, 0)) (by (with_reducible repeat (first | refine blk_drewN ?_ _ | refine blk_drew ?_ | refine blk_alloc ?_ _)); exact BK208.out) hg (Kd.R_ne HO_7.out BK208.out (by decide))); have n3_ := Asd.mk (Kd.V_afterv (ok := (fun k_ => (w.heap.size ≤ k_) ∧ some k_ ≠ (.slice (some ad224) y221.length co19 : Value).ownBlock ∧ some k_ ≠ (u5 : Value).ownBlock ∧ k_ ≠ gb208)) (by (with_reducible repeat (first | apply Kd.V_alloc | apply Kd.V_drewN | apply Kd.V_drew)); exact Kd.V_mono HL224_0.out (fun _ hk => ⟨⟨hk.1.1, ⟨hk.2, ⟨hk.1.2.1, hk.1.2.2.2⟩⟩⟩, hk.1.2.2.1⟩)) hg hat); have n4_ := Asd.mk (hb); have n5_ := Asd.mk (ho); clear HO_3; clear HO_5; clear BK208; clear HL224_0; clear HB; clear HO_7; have HO_3 := n0_; have HO_5 := n1_; have BK208 := n2_; have HL224_0 := n3_; have HB := n4_; have HO233 := n5_; clear n0_ n1_ n2_ n3_ n4_ n5_; clear ho hb hg hat))
               go_roundg k2
               case measure => have := HK1.out; have := HK2.out; omega
               case rel => exact ⟨(y231), (wrap64 (x8_2 + 1)), (by first | rfl | (simp; done) | (simp [*]; done)), H', ⟨by have := HK1.out; have := HK2.out; omega⟩, ⟨by (with_reducible repeat (first | apply Kd.N_alloc | apply Kd.N_drewN | apply Kd.N_drew)); exact Kd.N_mono HO_3.out (fun _ hk => ⟨hk.1.1, ⟨hk.1.2.1, ⟨hk.2, hk.1.2.2⟩⟩⟩)⟩, ⟨by (with_reducible repeat (first | apply Kd.N_alloc | apply Kd.N_drewN | apply Kd.N_drew)); exact Kd.N_mono HO_5.out (fun _ hk => ⟨hk.1.1, ⟨hk.1.2.1, ⟨hk.2, hk.1.2.2⟩⟩⟩)⟩, ⟨by (with_reducible repeat (first | apply Kd.R_alloc | apply Kd.R_drewN | apply Kd.R_drew)); exact HO233.out⟩, ⟨by (with_reducible repeat (first | refine blk_drewN ?_ _ | refine blk_drew ?_ | refine blk_alloc ?_ _)); exact BK208.out⟩, ⟨by repeat (first | (with_reducible first | exact HB.out | apply below_alloc | apply pbN | apply bd1 | refine below_set ?_ GE208.out) | exact HB.out)⟩⟩
              ·rw [if_neg c35] at H
               exact absurd H (by simp)
             ·rw [if_neg c34] at H
              exact absurd H (by simp)
            ·rw [if_neg c33] at H
             exact absurd H (by simp)
          ·rw [if_neg c25] at H
           exact absurd H (by simp)
         ·rw [if_neg c24] at H
          exact absurd H (by simp)
        ·rw [if_neg c22] at H
         exact absurd H (by simp)
       ·rw [if_neg c21] at H
        exact absurd H (by simp)
      ·rw [if_neg c20] at H
       have c20b0 : decide (x8_2 < (l0_0.length : Int)) = false := decide_eq_false c20
       clear c20
       by_cases c38 : x5_1.length < 5864062014805
       ·rw [if_pos c38] at H
        have LMc38 := Asd.mk c38
        clear c38
        obtain ⟨y234, hy234⟩ : ∃ y_ : List (List Int), y_ = (x5_1 ++ [x7_2]) := ⟨_, rfl⟩
        replace H : (gr6_Corners.l0 k2 y221 (l0_0.length : Int) y234 (wrap64 (x6_1 + 1)) l0_0) = some r := by first | (rw [hy234]; with_reducible exact H) | (have H2_ := (Option.bind_some _ _).symm.trans H; rw [hy234]; with_reducible exact H2_) | (have H2_ := (Option.bind_some _ _).symm.trans H; with_reducible exact H2_) | with_reducible exact H | (rw [hy234]; exact H) | exact H
        have Ny234 := Asd.mk hy234
        clear hy234
        have H' := Asd.mk H
        clear H
        obtain ⟨Ao40, co40, eo40⟩ := Kd.R_slice HO_7.out
        subst eo40
        go_wp2_with (first | ((with_reducible refine gate_builtin (b := .append) (xs := #[.tmp 56, .tmp 58]) rfl ?_); at_builtin; refine Kd.N_append (Kd.slice 3 (Kd.int .i64)) (w0 := w) w.heap.size rfl (.tmp 56) (.tmp 58) 46 22 (.slice none 0 0) 24 rfl Tryz.underlying46 info22 rfl (by decide) (by omega) u5 x5_1 x7_2 [.slice Ao40 x7_2.length co40] (fun k_ => (w.heap.size ≤ k_) ∧ some k_ ≠ (.slice Ao19 y221.length co19 : Value).ownBlock ∧ k_ ≠ gb208) (fun k_ => ((fun k_ => (w.heap.size ≤ k_) ∧ some k_ ≠ (.slice Ao19 y221.length co19 : Value).ownBlock ∧ k_ ≠ gb208)) k_ ∧ some k_ ≠ (u5 : Value).ownBlock) rfl rfl ?aP (fun _ hk => hk) ?aF ?aO ?aB ?aS ?aL ?_; (case aP => exact (Kd.FK_slice_mk (Kd.R_reads' (Kd.R_mono (ok' := (fun k_ => ((fun k_ => (w.heap.size ≤ k_) ∧ some k_ ≠ (.slice Ao19 y221.length co19 : Value).ownBlock ∧ k_ ≠ gb208)) k_ ∧ some k_ ≠ (u5 : Value).ownBlock)) (Kd.R_types (Kd.R_apart' (Kd.R_apart' (HO_7.out) (Kd.N_typed HO_3.out) (by decide)) (Kd.N_typed HO_5.out) (by decide)) BK208.out (by decide)) (fun k_ hk => ⟨⟨hk.1.1.1, ⟨hk.1.1.2, hk.2⟩⟩, hk.1.2⟩))).2.1 (Kd.R_F (Kd.R_mono (ok' := (fun k_ => ((fun k_ => (w.heap.size ≤ k_) ∧ some k_ ≠ (.slice Ao19 y221.length co19 : Value).ownBlock ∧ k_ ≠ gb208)) k_ ∧ some k_ ≠ (u5 : Value).ownBlock)) (Kd.R_types (Kd.R_apart' (Kd.R_apart' (HO_7.out) (Kd.N_typed HO_3.out) (by decide)) (Kd.N_typed HO_5.out) (by decide)) BK208.out (by decide)) (fun k_ hk => ⟨⟨hk.1.1.1, ⟨hk.1.1.2, hk.2⟩⟩, hk.1.2⟩))))); (case aB => exact (by repeat (first | (with_reducible first | exact HB.out | apply below_alloc | apply pbN | apply bd1 | refine below_set ?_ GE208.out) | exact HB.out))); (case aF => exact (fun k_ hk => ⟨(Nat.le_trans (below_size (by repeat (first | (with_reducible first | exact HB.out | apply below_alloc | apply pbN | apply bd1 | refine below_set ?_ GE208.out) | exact HB.out))) hk), Kd.fresh' (Kd.N_lt (by (with_reducible repeat (first | apply Kd.N_alloc | apply Kd.N_drewN | apply Kd.N_drew)); exact HO_3.out)) k_ hk, Kd.freshB (g := gb208) (o := .cells #[.slice A0_0 l0_0.length c0_0] 42 (0, 0)) (by (with_reducible repeat (first | refine blk_drewN ?_ _ | refine blk_drew ?_ | refine blk_alloc ?_ _)); exact BK208.out) k_ hk⟩)); (case aO => exact (by (with_reducible repeat (first | apply Kd.N_alloc | apply Kd.N_drewN | apply Kd.N_drew)); exact Kd.N_mono HO_5.out (fun _ hk => ⟨hk.1, ⟨hk.2.1, hk.2.2.2⟩⟩))); (case aS => exact (below_size (by repeat (first | (with_reducible first | exact HB.out | apply below_alloc | apply pbN | apply bd1 | refine below_set ?_ GE208.out) | exact HB.out)))); (case aL => have := LMc38.out; omega); intro v235 w39 ho hb hg hat; rw [← Ny234.out] at ho; have n0_ := Asd.mk (Kd.N_afterv (ok := (fun k_ => (w.heap.size ≤ k_) ∧ some k_ ≠ (.slice Ao40 x7_2.length co40 : Value).ownBlock ∧ k_ ≠ gb208)) (by (with_reducible repeat (first | apply Kd.N_alloc | apply Kd.N_drewN | apply Kd.N_drew)); exact Kd.N_mono HO_3.out (fun _ hk => ⟨⟨hk.1, ⟨hk.2.2.1, hk.2.2.2⟩⟩, hk.2.1⟩)) hg hat); have n1_ := Asd.mk (blk_grown (g := gb208) (o := .cells #[.slice A0_0 l0_0.length c0_0] 42 (0, 0)) (by (with_reducible repeat (first | refine blk_drewN ?_ _ | refine blk_drew ?_ | refine blk_alloc ?_ _)); exact BK208.out) hg (Kd.N_ne HO_5.out BK208.out (by decide))); have n2_ := Asd.mk (hb); have n3_ := Asd.mk (ho); clear HO_3; clear BK208; clear HB; clear HO_5; clear HO_7; have HO_3 := n0_; have BK208 := n1_; have HB := n2_; have HO236 := n3_; clear n0_ n1_ n2_ n3_; clear ho hb hg hat))
        go_roundg k2
        case measure => have := HK1.out; have := HK2.out; omega
        case rel => exact ⟨(y234), (wrap64 (x6_1 + 1)), (by first | rfl | (simp; done) | (simp [*]; done)), H', ⟨by have := HK1.out; have := HK2.out; omega⟩, ⟨by (with_reducible repeat (first | apply Kd.N_alloc | apply Kd.N_drewN | apply Kd.N_drew)); exact Kd.N_mono HO_3.out (fun _ hk => ⟨hk.1.1, ⟨hk.2, hk.1.2.2⟩⟩)⟩, ⟨by (with_reducible repeat (first | apply Kd.N_alloc | apply Kd.N_drewN | apply Kd.N_drew)); exact HO236.out⟩, ⟨by (with_reducible repeat (first | refine blk_drewN ?_ _ | refine blk_drew ?_ | refine blk_alloc ?_ _)); exact BK208.out⟩, ⟨by repeat (first | (with_reducible first | exact HB.out | apply below_alloc | apply pbN | apply bd1 | refine below_set ?_ GE208.out) | exact HB.out)⟩⟩
       ·rw [if_neg c38] at H
        exact absurd H (by simp)
   ·rw [if_neg c18] at H
    have c18b0 : decide (x6_1 < (y221.length : Int)) = false := decide_eq_false c18
    clear c18
    obtain rfl := Option.some.inj H
    obtain ⟨Ao41, co41, eo41⟩ := Kd.N_slice HO_3.out
    subst eo41
    go_wp2
    go_ret
    exact ⟨_, by first | rfl | (simp [errW_none, errW_some] <;> rfl) | (simp [*, errW_none, errW_some] <;> rfl), by (with_reducible repeat (first | apply Kd.N_alloc | apply Kd.N_drewN | apply Kd.N_drew)); exact Kd.N_mono HO_5.out (fun _ hk => hk.1), by repeat (first | (with_reducible first | exact HB.out | apply below_alloc | apply pbN | apply bd1 | refine below_set ?_ GE208.out) | exact HB.out)⟩
end Go.Proofs.YtmpondcccbmlhaaGreat.Q
namespace Go.Proofs.YtmpondcccbmlhaaGreat.T
open Go.RowKit Go.Proofs.YtmpondcccbmlhaaGreatW.PrintWords Go.Proofs.YtmpondcccbmlhaaGreatW.PrintLast Go.Proofs.YtmpondcccbmlhaaGreatW.PrintMore
attribute [local go_sem] max2_int min2_int max_two min_two max_three min_three max_four min_four   
set_option linter.unusedVariables false
set_option linter.unusedSimpArgs false
def errW : Option Int → Value
 | none => .nilIface
 | some c => .iface 0 (.int .i64 c)
theorem errW_none : errW none = .nilIface := rfl
theorem errW_some (c : Int) : errW (some c) = .iface 0 (.int .i64 c) := rfl
theorem info3 : (Tryz.prog.info? 3).map (fun i => (i.zero, i.size, i.bytes)) = some (some (.int .i64 0), 1, 8) := by kernel_rfl
end Go.Proofs.YtmpondcccbmlhaaGreat.T
namespace Go.Proofs.YtmpondcccbmlhaaGreat.T
open Go.RowKit Go.Proofs.YtmpondcccbmlhaaGreatW.PrintWords Go.Proofs.YtmpondcccbmlhaaGreatW.PrintLast Go.Proofs.YtmpondcccbmlhaaGreatW.PrintMore
attribute [local go_sem] max2_int min2_int max_two min_two max_three min_three max_four min_four   
set_option linter.unusedVariables false
set_option linter.unusedSimpArgs false
def gba_Size.f (a0 : Int) : Option (Int) := some (mx a0 (wrap64 (-a0)))
set_option maxHeartbeats 8000000 in
set_option maxRecDepth 100000 in
theorem gba_Size.calls (a0 : Int) (r : Int) (w : World) (h : gba_Size.f a0 = some r) :
  Calls Tryz.prog 82 #[.int .i64 a0] w fun e w' => e = .returned (.int .i64 r) ∧ Below w.heap.size w w' := by
 have HB := Asd.mk (Below.refl w.heap.size w)
 have H : (some (mx a0 (wrap64 (-a0)))) = some r := h
 clear h
 obtain ⟨ji2, hji2⟩ : ∃ j_ : Int, (mx a0 (wrap64 (-a0))) = j_ := ⟨_, rfl⟩
 replace H : (some ji2) = some r := by first | (rw [hji2] at H; exact H) | (simp only [hji2] at H ⊢; exact H)
 have hji2_ : (if a0 < (wrap64 (-a0)) then (wrap64 (-a0)) else a0) = ji2 := hji2
 obtain rfl := Option.some.inj H
 go_enter Tryz.func82, Tryz.ntmps82
 go_wp2
 go_ret
 exact ⟨by first | rfl | (simp [errW_none, errW_some] <;> rfl) | (simp only [← hji2]; first | rfl | (simp [errW_none, errW_some] <;> rfl)) | (simp [*, errW_none, errW_some] <;> rfl), by repeat (first | (with_reducible first | exact HB.out | apply below_alloc | apply pbN | apply bd1) | exact HB.out)⟩
def gba_Gcd.l0 : Nat → Int → Int → Option (Int)
 | 0, _, _ => none
 | k + 1, x0, x1 => if x1 = 0 then ((gba_Size.f x0).bind fun t101 => (some t101)) else (gba_Gcd.l0 k x1 (Int.tmod x0 x1))
def gba_Gcd.f (k : Nat) (a0 : Int) (a1 : Int) : Option (Int) := gba_Gcd.l0 k a0 a1
set_option maxHeartbeats 8000000 in
set_option maxRecDepth 100000 in
theorem gba_Gcd.calls (k : Nat) (a0 : Int) (a1 : Int) (r : Int) (w : World) (h : gba_Gcd.f k a0 a1 = some r) :
  Calls Tryz.prog 143 #[.int .i64 a0, .int .i64 a1] w fun e w' => e = .returned (.int .i64 r) ∧ Below w.heap.size w w' := by
 have HB := Asd.mk (Below.refl w.heap.size w)
 have H : (gba_Gcd.l0 k a0 a1) = some r := h
 clear h
 have H' := Asd.mk H
 clear H
 go_enter Tryz.func143, Tryz.ntmps143
 go_wp2
 repeat (go_quiet (fail); try go_wp2)
 go_loopg [0, 1] k (fun kq v0 v1 w' => ∃ (x0_1 : Int) (x1_1 : Int), v0 = .int .i64 x0_1 ∧ v1 = .int .i64 x1_1 ∧ Asd (gba_Gcd.l0 kq x0_1 x1_1 = some r) ∧ Asd (kq ≤ k) ∧ Asd (Below w.heap.size w w'))
 case atStart => exact ⟨(a0), (a1), (by first | rfl | (simp; done) | (simp [*]; done)), (by first | rfl | (simp; done) | (simp [*]; done)), H', ⟨Nat.le_refl _⟩, ⟨by repeat (first | (with_reducible first | exact HB.out | apply below_alloc | apply pbN | apply bd1) | exact HB.out)⟩⟩
 case round =>
  clear H'
  try clear c1
  try clear p2
  obtain ⟨x0_1, x1_1, rfl, rfl, HA, HK1, HB⟩ := hrel
  cases gk with
  | zero => exact absurd HA.out (by simp [gba_Gcd.l0])
  | succ k1 =>
   have H := HA.out
   clear HA
   simp only [gba_Gcd.l0] at H
   by_cases c3 : x1_1 = 0
   ·rw [if_pos c3] at H
    have c3b0 : (x1_1 == 0) = true := beq_iff_eq.mpr c3
    have c3b1 : (x1_1 != 0) = false := bne_eq_false_iff_eq.mpr c3
    clear c3
    replace H := Option.bind_eq_some_iff.mp H
    obtain ⟨t101, A40, H⟩ := H
    replace H : (some t101) = some r := H
    have A4 := Asd.mk A40
    clear A40
    obtain rfl := Option.some.inj H
    go_wp2_with (first | (go_at_call 82; (with_reducible refine (gba_Size.calls x0_1 t101 _ A4.out).mono ?_); rintro e w5 ⟨rfl, hb⟩; have n0_ := Asd.mk (below_step (by repeat (first | (with_reducible first | exact HB.out | apply below_alloc | apply pbN | apply bd1) | exact HB.out)) hb); clear HB; have HB := n0_; clear n0_; (try clear hb); (try clear hb2); (try clear hk); (try clear hi)))
    repeat (go_quiet (first | (go_at_call 82; (with_reducible refine (gba_Size.calls x0_1 t101 _ A4.out).mono ?_); rintro e w5 ⟨rfl, hb⟩; have n0_ := Asd.mk (below_step (by repeat (first | (with_reducible first | exact HB.out | apply below_alloc | apply pbN | apply bd1) | exact HB.out)) hb); clear HB; have HB := n0_; clear n0_; (try clear hb); (try clear hb2); (try clear hk); (try clear hi))); try go_wp2_with (first | (go_at_call 82; (with_reducible refine (gba_Size.calls x0_1 t101 _ A4.out).mono ?_); rintro e w5 ⟨rfl, hb⟩; have n0_ := Asd.mk (below_step (by repeat (first | (with_reducible first | exact HB.out | apply below_alloc | apply pbN | apply bd1) | exact HB.out)) hb); clear HB; have HB := n0_; clear n0_; (try clear hb); (try clear hb2); (try clear hk); (try clear hi))))
    go_ret
    exact ⟨by first | rfl | (simp [errW_none, errW_some] <;> rfl) | (simp [*, errW_none, errW_some] <;> rfl), by repeat (first | (with_reducible first | exact HB.out | apply below_alloc | apply pbN | apply bd1) | exact HB.out)⟩
   ·rw [if_neg c3] at H
    have c3b0 : (x1_1 == 0) = false := beq_eq_false_iff_ne.mpr c3
    have c3b1 : (x1_1 != 0) = true := bne_iff_ne.mpr c3
    have H' := Asd.mk H
    clear H
    go_wp2
    repeat (go_quiet (fail); try go_wp2)
    go_roundg k1
    case measure => have := HK1.out; omega
    case rel => exact ⟨(x1_1), (Int.tmod x0_1 x1_1), (by first | rfl | (simp; done) | (simp [*]; done)), (by first | rfl | (simp; done) | (simp [*]; done)), H', ⟨by have := HK1.out; omega⟩, ⟨by repeat (first | (with_reducible first | exact HB.out | apply below_alloc | apply pbN | apply bd1) | exact HB.out)⟩⟩
mutual
def gr6_reduced.l0 : Nat → List Int → Int → Int → Option (List Int)
 | 0, _, _, _ => none
 | k + 1, x0, x3, x4 => if x4 < (x0.length : Int) then (if 0 ≤ x4 then ((gba_Gcd.f k x3 (rd x0 x4)).bind fun t103 => (gr6_reduced.l0 k x0 t103 (wrap64 (x4 + 1)))) else (none)) else (if x3 = 0 then (some x0) else (gr6_reduced.l1 k x0 x3 ([] : List Int) 0))
def gr6_reduced.l1 : Nat → List Int → Int → List Int → Int → Option (List Int)
 | 0, _, _, _, _ => none
 | k + 1, x0, x3, x5, x6 => if x6 < (x0.length : Int) then (if 0 ≤ x6 then (if x3 = 0 then (none) else (if x5.length < 17592186044416 then (gr6_reduced.l1 k x0 x3 (x5 ++ [wrap64 (Int.tdiv (rd x0 x6) x3)]) (wrap64 (x6 + 1))) else (none))) else (none)) else (some x5)
end
def gr6_reduced.f (k : Nat) (l0 : List Int) : Option (List Int) := gr6_reduced.l0 k l0 0 0
set_option maxHeartbeats 8000000 in
set_option maxRecDepth 100000 in
theorem gr6_reduced.calls (k : Nat) (P0_ : Nat → Prop) (u9000_ : Value) (l0 : List Int) (r : List Int) (w0 w : World) (hB : Below w0.heap.size w0 w) (ho0 : Kd.R (Kd.int .i64) 3 w w0.heap.size P0_ u9000_ l0) (h : gr6_reduced.f k l0 = some r) :
  Calls Tryz.prog 133 #[u9000_] w fun e w' => ∃ v0_ : Value, e = .returned (v0_) ∧ Kd.R (Kd.int .i64) 3 w' w0.heap.size (fun k_ => (P0_ k_ ∨ w.heap.size ≤ k_)) v0_ r ∧ Below w0.heap.size w0 w' ∧ Kept w w' (fun k_ => P0_ k_) := by
 have HO0 := Asd.mk (show Kd.R (Kd.int .i64) 3 w w0.heap.size (fun k_ => (P0_ k_ ∨ w.heap.size ≤ k_)) u9000_ l0 from Kd.R_mono ho0 (fun k_ hk => (.inl hk)))
 have HK := Asd.mk (Kept.refl w (fun k_ => P0_ k_))
 have HW0 := Asd.mk hB.size
 have HB := Asd.mk hB
 clear hB
 have H : (gr6_reduced.l0 k l0 0 0) = some r := h
 clear h
 have H' := Asd.mk H
 clear H
 go_enter Tryz.func133, Tryz.ntmps133
 go_wp2
 go_loopg [3, 4] k (fun kq v3 v4 w' => ∃ (x3_1 : Int) (x4_1 : Int), v3 = .int .i64 x3_1 ∧ v4 = .int .i64 x4_1 ∧ Asd (gr6_reduced.l0 kq l0 x3_1 x4_1 = some r) ∧ Asd (kq ≤ k) ∧ Asd (Kd.R (Kd.int .i64) 3 w' w0.heap.size (fun k_ => (P0_ k_ ∨ w.heap.size ≤ k_)) u9000_ l0) ∧ Asd (Kept w w' (fun k_ => P0_ k_)) ∧ Asd (Below w0.heap.size w0 w'))
 case atStart => exact ⟨(0), (0), (by first | rfl | (simp; done) | (simp [*]; done)), (by first | rfl | (simp; done) | (simp [*]; done)), H', ⟨Nat.le_refl _⟩, ⟨by (with_reducible repeat (first | apply Kd.R_alloc | apply Kd.R_drewN | apply Kd.R_drew)); exact HO0.out⟩, ⟨by repeat (first | (with_reducible first | exact HK.out | apply Kept.alloc | apply Kept.drewN | apply Kept.drew) | exact HK.out)⟩, ⟨by repeat (first | (with_reducible first | exact HB.out | apply below_alloc | apply pbN | apply bd1) | exact HB.out)⟩⟩
 case round =>
  clear H'
  try clear c1
  obtain ⟨x3_1, x4_1, rfl, rfl, HA, HK1, HO_0, HK, HB⟩ := hrel
  cases gk with
  | zero => exact absurd HA.out (by simp [gr6_reduced.l0])
  | succ k1 =>
   have H := HA.out
   clear HA
   simp only [gr6_reduced.l0] at H
   by_cases c2 : x4_1 < (l0.length : Int)
   ·rw [if_pos c2] at H
    have c2b0 : decide (x4_1 < (l0.length : Int)) = true := decide_eq_true c2
    clear c2
    by_cases c3 : 0 ≤ x4_1
    ·rw [if_pos c3] at H
     have c3b0 : decide (0 ≤ x4_1) = true := decide_eq_true c3
     clear c3
     replace H := Option.bind_eq_some_iff.mp H
     obtain ⟨t103, A40, H⟩ := H
     replace H : (gr6_reduced.l0 k1 l0 t103 (wrap64 (x4_1 + 1))) = some r := H
     have A4 := Asd.mk A40
     clear A40
     have H' := Asd.mk H
     clear H
     obtain ⟨Ao5, co5, eo5⟩ := Kd.R_slice HO_0.out
     subst eo5
     have p102 : 0 ≤ (x4_1 : Int) := of_decide_eq_true (by first | (with_reducible assumption) | assumption)
     have q102 : x4_1 < (l0.length : Int) := of_decide_eq_true (by first | (with_reducible assumption) | assumption)
     obtain ⟨ad102, e102, hx102_0⟩ := Kd.at_int (Kd.R_reads' HO_0.out).2.2 x4_1 p102 q102
     cases e102
     replace p102 := eq_true p102
     replace q102 := eq_true q102
     go_wp2_with (first | ((with_reducible refine gate_callee (f := 143) rfl ?_); refine goesL_ (some 18) rfl rfl Tryz.func143 (by kernel_rfl) rfl #[.int .i64 x3_1, .int .i64 (rd l0 x4_1)] rfl (by (try simp only [List.map_toArray, List.map_cons, List.map_nil]); first | done | rfl | (simp only [List.length_drop, List.length_take]; rfl)) ?_; (with_reducible refine (gba_Gcd.calls k1 x3_1 (rd l0 x4_1) t103 _ A4.out).mono ?_); rintro e w6 ⟨rfl, hb⟩; refine ⟨_, rfl, ?_⟩; have n0_ := Asd.mk (Kd.R_below (by (with_reducible repeat (first | apply Kd.R_alloc | apply Kd.R_drewN | apply Kd.R_drew)); exact HO_0.out) hb); have n1_ := Asd.mk (Kept.below (S := (fun k_ => P0_ k_)) (by repeat (first | (with_reducible first | exact HK.out | apply Kept.alloc | apply Kept.drewN | apply Kept.drew) | exact HK.out)) hb); have n2_ := Asd.mk (below_step (by repeat (first | (with_reducible first | exact HB.out | apply below_alloc | apply pbN | apply bd1) | exact HB.out)) hb); clear HO_0; clear HK; clear HB; have HO_0 := n0_; have HK := n1_; have HB := n2_; clear n0_ n1_ n2_; (try clear hb); (try clear hb2); (try clear hk); (try clear hi)))
     go_roundg k1
     case measure => have := HK1.out; omega
     case rel => exact ⟨(t103), (wrap64 (x4_1 + 1)), (by first | rfl | (simp; done) | (simp [*]; done)), (by first | rfl | (simp; done) | (simp [*]; done)), H', ⟨by have := HK1.out; omega⟩, ⟨by (with_reducible repeat (first | apply Kd.R_alloc | apply Kd.R_drewN | apply Kd.R_drew)); exact HO_0.out⟩, ⟨by repeat (first | (with_reducible first | exact HK.out | apply Kept.alloc | apply Kept.drewN | apply Kept.drew) | exact HK.out)⟩, ⟨by repeat (first | (with_reducible first | exact HB.out | apply below_alloc | apply pbN | apply bd1) | exact HB.out)⟩⟩
    ·rw [if_neg c3] at H
     exact absurd H (by simp)
   ·rw [if_neg c2] at H
    have c2b0 : decide (x4_1 < (l0.length : Int)) = false := decide_eq_false c2
    clear c2
    by_cases c7 : x3_1 = 0
    ·rw [if_pos c7] at H
     have c7b0 : (x3_1 == 0) = true := beq_iff_eq.mpr c7
     have c7b1 : (x3_1 != 0) = false := bne_eq_false_iff_eq.mpr c7
     clear c7
     obtain rfl := Option.some.inj H
     obtain ⟨Ao8, co8, eo8⟩ := Kd.R_slice HO_0.out
     subst eo8
     go_wp2
     go_ret
     exact ⟨_, by first | rfl | (simp [errW_none, errW_some] <;> rfl) | (simp [*, errW_none, errW_some] <;> rfl), by (with_reducible repeat (first | apply Kd.R_alloc | apply Kd.R_drewN | apply Kd.R_drew)); exact HO_0.out, by repeat (first | (with_reducible first | exact HB.out | apply below_alloc | apply pbN | apply bd1) | exact HB.out), by repeat (first | (with_reducible first | exact HK.out | apply Kept.alloc | apply Kept.drewN | apply Kept.drew) | exact HK.out)⟩
    ·rw [if_neg c7] at H
     have c7b0 : (x3_1 == 0) = false := beq_eq_false_iff_ne.mpr c7
     have c7b1 : (x3_1 != 0) = true := bne_iff_ne.mpr c7
     have H' := Asd.mk H
     clear H
     obtain ⟨Ao9, co9, eo9⟩ := Kd.R_slice HO_0.out
     subst eo9
     go_wp2
     go_loopg [5, 6] k1 (fun kq v5 v6 w' => ∃ (x5_2 : List Int) (x6_2 : Int), v6 = .int .i64 x6_2 ∧ Asd (gr6_reduced.l1 kq l0 x3_1 x5_2 x6_2 = some r) ∧ Asd (kq ≤ k1) ∧ Asd (Kd.R (Kd.int .i64) 3 w' w0.heap.size (fun k_ => (P0_ k_ ∨ w.heap.size ≤ k_) ∧ some k_ ≠ (v5 : Value).ownBlock) (.slice Ao9 l0.length co9) l0) ∧ Asd (Kd.R (Kd.int .i64) 3 w' w0.heap.size (fun k_ => (P0_ k_ ∨ w.heap.size ≤ k_) ∧ some k_ ≠ ((.slice Ao9 l0.length co9) : Value).ownBlock) v5 x5_2) ∧ Asd (Kept w w' (fun k_ => P0_ k_)) ∧ Asd (Below w0.heap.size w0 w'))
     case atStart => exact ⟨(([] : List Int)), (0), (by first | rfl | (simp; done) | (simp [*]; done)), H', ⟨Nat.le_refl _⟩, ⟨by (with_reducible repeat (first | apply Kd.R_alloc | apply Kd.R_drewN | apply Kd.R_drew)); exact Kd.R_mono HO_0.out (fun _ hk => ⟨hk, (by simp [Value.ownBlock])⟩)⟩, ⟨by first | exact Kd.R_nil _ _ _ _ _ | exact Kd.N_nil _ _ _ _ _ | exact Kd.V_nil _ _ _ _ _ | exact Kd.Q_nil _ _ _ _ _ | exact Kd.S_nil _ _ _ _ _⟩, ⟨by repeat (first | (with_reducible first | exact HK.out | apply Kept.alloc | apply Kept.drewN | apply Kept.drew) | exact HK.out)⟩, ⟨by repeat (first | (with_reducible first | exact HB.out | apply below_alloc | apply pbN | apply bd1) | exact HB.out)⟩⟩
     case round =>
      clear H'
      try clear c1
      try clear p1
      try clear q1
      try clear hx1
      try clear c2
      try clear c2b0
      try clear p2
      try clear c3
      try clear c3b0
      try clear p6
      try clear c7
      try clear c7b0
      try clear c7b1
      try clear hx102_0
      try clear p102
      try clear q102
      obtain ⟨x5_2, x6_2, rfl, HA, HK2, HO_0, HO_5, HK, HB⟩ := hrel
      cases gk with
      | zero => exact absurd HA.out (by simp [gr6_reduced.l1])
      | succ k2 =>
       have H := HA.out
       clear HA
       simp only [gr6_reduced.l1] at H
       by_cases c10 : x6_2 < (l0.length : Int)
       ·rw [if_pos c10] at H
        have c10b0 : decide (x6_2 < (l0.length : Int)) = true := decide_eq_true c10
        clear c10
        by_cases c11 : 0 ≤ x6_2
        ·rw [if_pos c11] at H
         have c11b0 : decide (0 ≤ x6_2) = true := decide_eq_true c11
         clear c11
         by_cases c12 : x3_1 = 0
         ·rw [if_pos c12] at H
          exact absurd H (by simp)
         ·rw [if_neg c12] at H
          have c12b0 : (x3_1 == 0) = false := beq_eq_false_iff_ne.mpr c12
          have c12b1 : (x3_1 != 0) = true := bne_iff_ne.mpr c12
          by_cases c13 : x5_2.length < 17592186044416
          ·rw [if_pos c13] at H
           have LMc13 := Asd.mk c13
           clear c13
           obtain ⟨y105, hy105⟩ : ∃ y_ : List Int, y_ = (x5_2 ++ [wrap64 (Int.tdiv (rd l0 x6_2) x3_1)]) := ⟨_, rfl⟩
           replace H : (gr6_reduced.l1 k2 l0 x3_1 y105 (wrap64 (x6_2 + 1))) = some r := by first | (rw [hy105]; with_reducible exact H) | (have H2_ := (Option.bind_some _ _).symm.trans H; rw [hy105]; with_reducible exact H2_) | (have H2_ := (Option.bind_some _ _).symm.trans H; with_reducible exact H2_) | with_reducible exact H | (rw [hy105]; exact H) | exact H
           have Ny105 := Asd.mk hy105
           clear hy105
           have H' := Asd.mk H
           clear H
           have p104 : 0 ≤ (x6_2 : Int) := of_decide_eq_true (by first | (with_reducible assumption) | assumption)
           have q104 : x6_2 < (l0.length : Int) := of_decide_eq_true (by first | (with_reducible assumption) | assumption)
           obtain ⟨ad104, e104, hx104_0⟩ := Kd.at_int (Kd.R_reads' HO_0.out).2.2 x6_2 p104 q104
           cases e104
           replace p104 := eq_true p104
           replace q104 := eq_true q104
           go_wp2_with (first | ((with_reducible refine gate_builtin (b := .append) (xs := #[.tmp 28, .tmp 35]) rfl ?_); at_builtin; refine Kd.R_append (Kd.int .i64) (w0 := w0) w0.heap.size rfl (.tmp 28) (.tmp 35) 22 3 (.int .i64 0) 8 rfl Tryz.underlying22 info3 rfl (by decide) (by omega) u5 x5_2 (wrap64 (Int.tdiv (rd l0 x6_2) x3_1)) [.int .i64 (wrap64 (Int.tdiv (rd l0 x6_2) x3_1))] (fun k_ => (P0_ k_ ∨ w.heap.size ≤ k_) ∧ some k_ ≠ (.slice (some ad104) l0.length co9 : Value).ownBlock) (fun _ => False) rfl rfl ?aP (fun _ hk => hk.elim) ?aF ?aO ?aB ?aS ?aL ?_; (case aP => exact rfl); (case aB => exact (by repeat (first | (with_reducible first | exact HB.out | apply below_alloc | apply pbN | apply bd1) | exact HB.out))); (case aF => exact (fun k_ hk => ⟨(.inr (Nat.le_trans (by first | exact HK.out.1 | exact (show Kept w _ (fun k_ => P0_ k_) from by repeat (first | (with_reducible first | exact HK.out | apply Kept.alloc | apply Kept.drewN | apply Kept.drew) | exact HK.out)).1) hk)), Kd.fresh' (Kd.R_lt (by (with_reducible repeat (first | apply Kd.R_alloc | apply Kd.R_drewN | apply Kd.R_drew)); exact HO_0.out)) k_ hk⟩)); (case aO => exact (by (with_reducible repeat (first | apply Kd.R_alloc | apply Kd.R_drewN | apply Kd.R_drew)); exact HO_5.out)); (case aS => exact (below_size (by repeat (first | (with_reducible first | exact HB.out | apply below_alloc | apply pbN | apply bd1) | exact HB.out)))); (case aL => have := LMc13.out; omega); intro v106 w14 ho hb hg hat; rw [← Ny105.out] at ho; have n0_ := Asd.mk (Kd.R_after (ok := (fun k_ => (P0_ k_ ∨ w.heap.size ≤ k_))) (by (with_reducible repeat (first | apply Kd.R_alloc | apply Kd.R_drewN | apply Kd.R_drew)); exact HO_0.out) hg hat); have n1_ := Asd.mk (hb); have n2_ := Asd.mk (Kept.of_grown (S := (fun k_ => P0_ k_)) hg (by repeat (first | (with_reducible first | exact HK.out | apply Kept.alloc | apply Kept.drewN | apply Kept.drew) | exact HK.out)) (fun k_ e_ => (HO_5.out.1 k_ e_).1)); have n3_ := Asd.mk (ho); clear HO_0; clear HB; clear HK; clear HO_5; have HO_0 := n0_; have HB := n1_; have HK := n2_; have HO107 := n3_; clear n0_ n1_ n2_ n3_; clear ho hb hg hat))
           go_roundg k2
           case measure => have := HK1.out; have := HK2.out; omega
           case rel => exact ⟨(y105), (wrap64 (x6_2 + 1)), (by first | rfl | (simp; done) | (simp [*]; done)), H', ⟨by have := HK1.out; have := HK2.out; omega⟩, ⟨by (with_reducible repeat (first | apply Kd.R_alloc | apply Kd.R_drewN | apply Kd.R_drew)); exact HO_0.out⟩, ⟨by (with_reducible repeat (first | apply Kd.R_alloc | apply Kd.R_drewN | apply Kd.R_drew)); exact HO107.out⟩, ⟨by repeat (first | (with_reducible first | exact HK.out | apply Kept.alloc | apply Kept.drewN | apply Kept.drew) | exact HK.out)⟩, ⟨by repeat (first | (with_reducible first | exact HB.out | apply below_alloc | apply pbN | apply bd1) | exact HB.out)⟩⟩
          ·rw [if_neg c13] at H
           exact absurd H (by simp)
        ·rw [if_neg c11] at H
         exact absurd H (by simp)
       ·rw [if_neg c10] at H
        have c10b0 : decide (x6_2 < (l0.length : Int)) = false := decide_eq_false c10
        clear c10
        obtain rfl := Option.some.inj H
        go_wp2
        go_ret
        exact ⟨_, by first | rfl | (simp [errW_none, errW_some] <;> rfl) | (simp [*, errW_none, errW_some] <;> rfl), by (with_reducible repeat (first | apply Kd.R_alloc | apply Kd.R_drewN | apply Kd.R_drew)); exact Kd.R_mono HO_5.out (fun _ hk => hk.1), by repeat (first | (with_reducible first | exact HB.out | apply below_alloc | apply pbN | apply bd1) | exact HB.out), by repeat (first | (with_reducible first | exact HK.out | apply Kept.alloc | apply Kept.drewN | apply Kept.drew) | exact HK.out)⟩
def gr6_entry.f (l0 : List Int) (a1 : Int) : Option (Int) := if a1 < (l0.length : Int) then (if 0 ≤ a1 then (some (rd l0 a1)) else (none)) else (some 0)
set_option maxHeartbeats 8000000 in
set_option maxRecDepth 100000 in
theorem gr6_entry.calls (A0 : Option Addr) (c0 : Nat) (l0 : List Int) (a1 : Int) (r : Int) (w : World) (hr0 : Kd.C (Kd.int .i64) w A0 l0.length l0) (hc0 : l0.length ≤ c0) (h : gr6_entry.f l0 a1 = some r) :
  Calls Tryz.prog 134 #[.slice A0 l0.length c0, .int .i64 a1] w fun e w' => e = .returned (.int .i64 r) ∧ Drawn0 w w' := by
 have HR0 := Asd.mk hr0
 have HC0 := Asd.mk hc0
 clear hr0 hc0
 have H : (if a1 < (l0.length : Int) then (if 0 ≤ a1 then (some (rd l0 a1)) else (none)) else (some 0)) = some r := h
 clear h
 by_cases c3 : a1 < (l0.length : Int)
 ·rw [if_pos c3] at H
  have c3b0 : decide (a1 < (l0.length : Int)) = true := decide_eq_true c3
  clear c3
  by_cases c4 : 0 ≤ a1
  ·rw [if_pos c4] at H
   have c4b0 : decide (0 ≤ a1) = true := decide_eq_true c4
   clear c4
   obtain rfl := Option.some.inj H
   have p108 : 0 ≤ (a1 : Int) := of_decide_eq_true (by first | (with_reducible assumption) | assumption)
   have q108 : a1 < (l0.length : Int) := of_decide_eq_true (by first | (with_reducible assumption) | assumption)
   obtain ⟨ad108, e108, hx108_0⟩ := Kd.at_int HR0.out a1 p108 q108
   cases e108
   replace p108 := eq_true p108
   replace q108 := eq_true q108
   go_enter Tryz.func134, Tryz.ntmps134
   go_wp2
   go_ret
   exact ⟨by first | rfl | (simp; done) | (simp [*]; done), by repeat (first | exact Drawn0.refl _ | apply Drawn0.step)⟩
  ·rw [if_neg c4] at H
   exact absurd H (by simp)
 ·rw [if_neg c3] at H
  have c3b0 : decide (a1 < (l0.length : Int)) = false := decide_eq_false c3
  clear c3
  obtain rfl := Option.some.inj H
  go_enter Tryz.func134, Tryz.ntmps134
  go_wp2
  go_ret
  exact ⟨by first | rfl | (simp; done) | (simp [*]; done), by repeat (first | exact Drawn0.refl _ | apply Drawn0.step)⟩
end Go.Proofs.YtmpondcccbmlhaaGreat.T
