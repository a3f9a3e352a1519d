/- A part of the claim H: the texts Q17, Q22, without what the claim does not lean on. -/
import Derived.Test.YtmpondcccbmlhaaGreatzH6
namespace Go.Proofs.YtmpondcccbmlhaaGreat.Q
open Go.RowKit Go.Proofs.YtmpondcccbmlhaaGreatW.PrintWords Go.Proofs.YtmpondcccbmlhaaGreatW.PrintLast Go.Proofs.YtmpondcccbmlhaaGreatW.PrintMore
attribute [local go_sem] max2_int min2_int max_two min_two max_three min_three max_four min_four   
set_option linter.unusedVariables false
set_option linter.unusedSimpArgs false
def gba_Lowest.f (k : Nat) (a0 : Int) (a1 : Int) : Option (Int × Int) := (gba_Gcd.f k a0 a1).bind fun t838 => (if a1 < 0 then (if (wrap64 (-t838)) = 0 then (none) else (some (wrap64 (Int.tdiv a0 (wrap64 (-t838))), wrap64 (Int.tdiv a1 (wrap64 (-t838)))))) else (if t838 = 0 then (none) else (some (wrap64 (Int.tdiv a0 t838), wrap64 (Int.tdiv a1 t838)))))
def gba_Lowest.T4 : Bool × List (List Nat × List Nat) := (true, [([], []), ([], []), ([0, 1], [0, 1]), ([], []), ([], []), ([3, 4], [3, 4]), ([2, 5], [2, 5]), ([6, 0, 1, 2, 3, 4, 5, 6], [6])])
def gba_Lowest.B4 : List Nat := [0, 0, 3, 0, 0, 24, 63, 127]
theorem gba_Lowest.tab4 : rtab .any (opsOf Tryz.f141 4) = gba_Lowest.T4 := by kernel_rfl
theorem gba_Lowest.bits4 : waitsOk gba_Lowest.T4.2 gba_Lowest.B4 = true := by kernel_rfl
set_option maxHeartbeats 8000000 in
set_option maxRecDepth 100000 in
theorem gba_Lowest.calls (k : Nat) (a0 : Int) (a1 : Int) (r1 : Int) (r2 : Int) (w : World) (h : gba_Lowest.f k a0 a1 = some (r1, r2)) :
  Calls Tryz.prog 141 #[.int .i64 a0, .int .i64 a1] w fun e w' => e = .returned (.agg #[.int .i64 r1, .int .i64 r2]) ∧ Below w.heap.size w w' := by
 have hu129 := Tryz.underlying129
 have HB := Asd.mk (Below.refl w.heap.size w)
 have H : ((gba_Gcd.f k a0 a1).bind fun t838 => (if a1 < 0 then (if (wrap64 (-t838)) = 0 then (none) else (some (wrap64 (Int.tdiv a0 (wrap64 (-t838))), wrap64 (Int.tdiv a1 (wrap64 (-t838)))))) else (if t838 = 0 then (none) else (some (wrap64 (Int.tdiv a0 t838), wrap64 (Int.tdiv a1 t838)))))) = some (r1, r2) := h
 clear h
 replace H := Option.bind_eq_some_iff.mp H
 obtain ⟨t838, A30, H⟩ := H
 replace H : (if a1 < 0 then (if (wrap64 (-t838)) = 0 then (none) else (some (wrap64 (Int.tdiv a0 (wrap64 (-t838))), wrap64 (Int.tdiv a1 (wrap64 (-t838)))))) else (if t838 = 0 then (none) else (some (wrap64 (Int.tdiv a0 t838), wrap64 (Int.tdiv a1 t838))))) = some (r1, r2) := H
 have A3 := Asd.mk A30
 clear A30
 by_cases c4 : a1 < 0
 ·rw [if_pos c4] at H
  have c4b0 : decide (a1 < 0) = true := decide_eq_true c4
  clear c4
  by_cases c5 : (wrap64 (-t838)) = 0
  ·rw [if_pos c5] at H
   exact absurd H (by simp)
  ·rw [if_neg c5] at H
   have c5b0 : ((wrap64 (-t838)) == 0) = false := beq_eq_false_iff_ne.mpr c5
   have c5b1 : ((wrap64 (-t838)) != 0) = true := bne_iff_ne.mpr c5
   simp only [Option.some.injEq, Prod.mk.injEq] at H
   obtain ⟨rfl, rfl⟩ := H
   go_enter Tryz.func141, Tryz.ntmps141
   try go_wp2_with (first | ((with_reducible refine gate_dst (N := 4) rfl ?_); refine box_event ?hg (N := 4) ?hd (cs := #[.int .i64 0, .int .i64 0]) (t := 129) ?hr ?_; (case hd => rfl); (case hg => rfl); (case hr => first | (go_simp; done) | (go_simp; rfl)); intro gb837 hg w6 hbox hb; have n0_ := Asd.mk (below_step (by repeat (first | (with_reducible first | exact HB.out | apply below_alloc | apply pbN | apply bd1) | exact HB.out)) hb); have n1_ := Asd.mk (hbox); have n2_ := Asd.mk ((by rw [hg]; exact (below_size (by repeat (first | (with_reducible first | exact HB.out | apply below_alloc | apply pbN | apply bd1) | exact HB.out))) : w.heap.size ≤ gb837)); have n3_ := Asd.mk ((by rw [hg]; exact (below_size (by repeat (first | (with_reducible first | exact HB.out | apply below_alloc | apply pbN | apply bd1) | exact HB.out))) : w.heap.size ≤ gb837)); clear HB; have HB := n0_; have BK837 := n1_; have GW837 := n2_; have GE837 := n3_; clear n0_ n1_ n2_ n3_; clear hb hbox hg) | ((with_reducible refine gate_callee (f := 143) rfl ?_); refine goesL_ (some 8) rfl rfl Tryz.func143 (by kernel_rfl) rfl #[.int .i64 a0, .int .i64 a1] rfl (by (try simp only [List.map_toArray, List.map_cons, List.map_nil]); first | done | rfl | (simp only [List.length_drop, List.length_take]; rfl)) ?_; (with_reducible refine (gba_Gcd.calls k a0 a1 t838 _ A3.out).mono ?_); rintro e w7 ⟨rfl, hb⟩; refine ⟨_, rfl, ?_⟩; have n0_ := Asd.mk (blk_below (g := gb837) (o := .cells #[.int .i64 0, .int .i64 0] 129 (0, 0)) (by (with_reducible repeat (first | refine blk_drewN ?_ _ | refine blk_drew ?_ | refine blk_alloc ?_ _)); exact BK837.out) hb); have n1_ := Asd.mk (below_step (by repeat (first | (with_reducible first | exact HB.out | apply below_alloc | apply pbN | apply bd1 | refine below_set ?_ GE837.out) | exact HB.out)) hb); clear BK837; clear HB; have BK837 := n0_; have HB := n1_; clear n0_ n1_; (try clear hb); (try clear hb2); (try clear hk); (try clear hi)))
   have n0_ := Asd.mk (blk_drew BK837.out)
   have n1_ := Asd.mk (bd1 HB.out)
   clear BK837
   clear HB
   have BK837 := n0_
   have HB := n1_
   clear n0_ n1_
   refine start_ (n := 8) (S := fun w' => True) (ds := []) #[false, false, false, false, false, false, false, false] (by kernel_rfl) rfl rfl trivial (fun hHeld => ?_); refine with_tabW gba_Lowest.tab4 gba_Lowest.bits4 (fun HT_ HW_ => ?_)
   generalize w7.drew = w8 at BK837 HB hHeld ⊢
   refine pure_ (i := 0) (N := some 13) (v := ?_) (a' := ?_) #[true, false, false, false, false, false, false, false] rfl rfl (any_of HT_.out (by kernel_rfl)) (fun _ _ _ h => h) (Or.inl ⟨by rfl, ?_⟩) ?_ ?_
   rotate_left
   ·intro w'
    go_simp
    with_reducible rfl
   rotate_left
   ·simp only [Act.put, List.setIfInBounds_toArray, List.set_cons_zero, List.set_cons_succ, i64_w, i32_w]
    rfl
   refine pure_ (i := 1) (N := some 14) (v := ?_) (a' := ?_) #[true, true, false, false, false, false, false, false] rfl rfl (any_of HT_.out (by kernel_rfl)) (fun _ _ _ h => h) (Or.inl ⟨by rfl, ?_⟩) ?_ ?_
   rotate_left
   ·intro w'
    go_simp
    with_reducible rfl
   rotate_left
   ·simp only [Act.put, List.setIfInBounds_toArray, List.set_cons_zero, List.set_cons_succ, i64_w, i32_w]
    rfl
   refine pure_ (i := 2) (N := some 15) (v := ?_) (a' := ?_) #[true, true, true, false, false, false, false, false] rfl rfl (any_of HT_.out (by kernel_rfl)) (fun _ _ _ h => h) (Or.inl ⟨by rfl, ?_⟩) ?_ ?_
   rotate_left
   ·intro w'
    go_simp
    with_reducible rfl
   rotate_left
   ·simp only [Act.put, List.setIfInBounds_toArray, List.set_cons_zero, List.set_cons_succ, i64_w, i32_w]
    rfl
   refine pure_ (i := 3) (N := some 16) (v := ?_) (a' := ?_) #[true, true, true, true, false, false, false, false] rfl rfl (any_of HT_.out (by kernel_rfl)) (fun _ _ _ h => h) (Or.inl ⟨by rfl, ?_⟩) ?_ ?_
   rotate_left
   ·intro w'
    go_simp
    with_reducible rfl
   rotate_left
   ·simp only [Act.put, List.setIfInBounds_toArray, List.set_cons_zero, List.set_cons_succ, i64_w, i32_w]
    rfl
   refine pure_ (i := 4) (N := some 17) (v := ?_) (a' := ?_) #[true, true, true, true, true, false, false, false] rfl rfl (any_of HT_.out (by kernel_rfl)) (fun _ _ _ h => h) (Or.inl ⟨by rfl, ?_⟩) ?_ ?_
   rotate_left
   ·intro w'
    go_simp
    with_reducible rfl
   rotate_left
   ·simp only [Act.put, List.setIfInBounds_toArray, List.set_cons_zero, List.set_cons_succ, i64_w, i32_w]
    rfl
   refine pure_ (i := 5) (N := some 18) (v := ?_) (a' := ?_) #[true, true, true, true, true, true, false, false] rfl rfl (any_of HT_.out (by kernel_rfl)) (fun _ _ _ h => h) (Or.inl ⟨by rfl, ?_⟩) ?_ ?_
   rotate_left
   ·intro w'
    go_simp
    with_reducible rfl
   rotate_left
   ·simp only [Act.put, List.setIfInBounds_toArray, List.set_cons_zero, List.set_cons_succ, i64_w, i32_w]
    rfl
   refine pure_ (i := 6) (N := some 19) (v := ?_) (a' := ?_) #[true, true, true, true, true, true, true, false] rfl rfl (any_of HT_.out (by kernel_rfl)) (fun _ _ _ h => h) (Or.inl ⟨by rfl, ?_⟩) ?_ ?_
   rotate_left
   ·intro w'
    go_simp
    with_reducible rfl
   rotate_left
   ·simp only [Act.put, List.setIfInBounds_toArray, List.set_cons_zero, List.set_cons_succ, i64_w, i32_w]
    rfl
   refine one_ (i := 7) (N := none) #[true, true, true, true, true, true, true, true] rfl rfl (one_of HT_.out (by kernel_rfl)) (by decide) (fun K hK => ?_)
   have hs9 : w8.cell? ⟨gb837, 0, none⟩ = some (.int .i64 0) := (blk_cell BK837.out 0).trans rfl
   have hfs9 := blk_frozen BK837.out 0
   have hs10 : w8.cell? ⟨gb837, 1, none⟩ = some (.int .i64 0) := (blk_cell BK837.out 1).trans rfl
   have hfs10 := blk_frozen BK837.out 1
   refine skip_ (w1 := ?_) (by rfl) rfl ?_ ?_
   rotate_left
   ·go_simp
    rfl
   refine hK.out _ _ trivial (fun hHeld => ?_)
   clear hK K
   refine done_ (done_of HT_.out (by kernel_rfl)) ?_
   try go_wp2
   refine bodyPost_ret (results_cell_row rfl _ _ gb837 129 #[.int .i64 (wrap64 (Int.tdiv a0 (wrap64 (-t838)))), .int .i64 (wrap64 (Int.tdiv a1 (wrap64 (-t838))))] (0, 0) _ rfl (by (with_reducible repeat (first | refine blk_drewN ?_ _ | refine blk_drew ?_ | refine blk_alloc ?_ _)); refine blk_put (cs := #[.int .i64 (wrap64 (Int.tdiv a0 (wrap64 (-t838)))), .int .i64 0]) ?_ 1 _ rfl; (with_reducible repeat (first | refine blk_drewN ?_ _ | refine blk_drew ?_ | refine blk_alloc ?_ _)); refine blk_put (cs := #[.int .i64 0, .int .i64 0]) ?_ 0 _ rfl; (with_reducible repeat (first | refine blk_drewN ?_ _ | refine blk_drew ?_ | refine blk_alloc ?_ _)); exact BK837.out) Tryz.underlying129 rfl (by kernel_rfl)) rfl ?_
   exact ⟨by first | rfl | (simp [errW_none, errW_some] <;> rfl) | (simp [*, errW_none, errW_some] <;> rfl), by repeat (first | (with_reducible first | exact HB.out | apply below_alloc | apply pbN | apply bd1 | refine below_set ?_ GE837.out) | exact HB.out)⟩
 ·rw [if_neg c4] at H
  have c4b0 : decide (a1 < 0) = false := decide_eq_false c4
  clear c4
  by_cases c11 : t838 = 0
  ·rw [if_pos c11] at H
   exact absurd H (by simp)
  ·rw [if_neg c11] at H
   have c11b0 : (t838 == 0) = false := beq_eq_false_iff_ne.mpr c11
   have c11b1 : (t838 != 0) = true := bne_iff_ne.mpr c11
   simp only [Option.some.injEq, Prod.mk.injEq] at H
   obtain ⟨rfl, rfl⟩ := H
   go_enter Tryz.func141, Tryz.ntmps141
   try go_wp2_with (first | ((with_reducible refine gate_dst (N := 4) rfl ?_); refine box_event ?hg (N := 4) ?hd (cs := #[.int .i64 0, .int .i64 0]) (t := 129) ?hr ?_; (case hd => rfl); (case hg => rfl); (case hr => first | (go_simp; done) | (go_simp; rfl)); intro gb837 hg w12 hbox hb; have n0_ := Asd.mk (below_step (by repeat (first | (with_reducible first | exact HB.out | apply below_alloc | apply pbN | apply bd1) | exact HB.out)) hb); have n1_ := Asd.mk (hbox); have n2_ := Asd.mk ((by rw [hg]; exact (below_size (by repeat (first | (with_reducible first | exact HB.out | apply below_alloc | apply pbN | apply bd1) | exact HB.out))) : w.heap.size ≤ gb837)); have n3_ := Asd.mk ((by rw [hg]; exact (below_size (by repeat (first | (with_reducible first | exact HB.out | apply below_alloc | apply pbN | apply bd1) | exact HB.out))) : w.heap.size ≤ gb837)); clear HB; have HB := n0_; have BK837 := n1_; have GW837 := n2_; have GE837 := n3_; clear n0_ n1_ n2_ n3_; clear hb hbox hg) | ((with_reducible refine gate_callee (f := 143) rfl ?_); refine goesL_ (some 8) rfl rfl Tryz.func143 (by kernel_rfl) rfl #[.int .i64 a0, .int .i64 a1] rfl (by (try simp only [List.map_toArray, List.map_cons, List.map_nil]); first | done | rfl | (simp only [List.length_drop, List.length_take]; rfl)) ?_; (with_reducible refine (gba_Gcd.calls k a0 a1 t838 _ A3.out).mono ?_); rintro e w13 ⟨rfl, hb⟩; refine ⟨_, rfl, ?_⟩; have n0_ := Asd.mk (blk_below (g := gb837) (o := .cells #[.int .i64 0, .int .i64 0] 129 (0, 0)) (by (with_reducible repeat (first | refine blk_drewN ?_ _ | refine blk_drew ?_ | refine blk_alloc ?_ _)); exact BK837.out) hb); have n1_ := Asd.mk (below_step (by repeat (first | (with_reducible first | exact HB.out | apply below_alloc | apply pbN | apply bd1 | refine below_set ?_ GE837.out) | exact HB.out)) hb); clear BK837; clear HB; have BK837 := n0_; have HB := n1_; clear n0_ n1_; (try clear hb); (try clear hb2); (try clear hk); (try clear hi)))
   have n0_ := Asd.mk (blk_drew BK837.out)
   have n1_ := Asd.mk (bd1 HB.out)
   clear BK837
   clear HB
   have BK837 := n0_
   have HB := n1_
   clear n0_ n1_
   refine start_ (n := 8) (S := fun w' => True) (ds := []) #[false, false, false, false, false, false, false, false] (by kernel_rfl) rfl rfl trivial (fun hHeld => ?_); refine with_tabW gba_Lowest.tab4 gba_Lowest.bits4 (fun HT_ HW_ => ?_)
   generalize w13.drew = w14 at BK837 HB hHeld ⊢
   refine pure_ (i := 0) (N := some 13) (v := ?_) (a' := ?_) #[true, false, false, false, false, false, false, false] rfl rfl (any_of HT_.out (by kernel_rfl)) (fun _ _ _ h => h) (Or.inl ⟨by rfl, ?_⟩) ?_ ?_
   rotate_left
   ·intro w'
    go_simp
    with_reducible rfl
   rotate_left
   ·simp only [Act.put, List.setIfInBounds_toArray, List.set_cons_zero, List.set_cons_succ, i64_w, i32_w]
    rfl
   refine pure_ (i := 1) (N := some 14) (v := ?_) (a' := ?_) #[true, true, false, false, false, false, false, false] rfl rfl (any_of HT_.out (by kernel_rfl)) (fun _ _ _ h => h) (Or.inl ⟨by rfl, ?_⟩) ?_ ?_
   rotate_left
   ·intro w'
    go_simp
    with_reducible rfl
   rotate_left
   ·simp only [Act.put, List.setIfInBounds_toArray, List.set_cons_zero, List.set_cons_succ, i64_w, i32_w]
    rfl
   refine pure_ (i := 2) (N := some 15) (v := ?_) (a' := ?_) #[true, true, true, false, false, false, false, false] rfl rfl (any_of HT_.out (by kernel_rfl)) (fun _ _ _ h => h) (Or.inl ⟨by rfl, ?_⟩) ?_ ?_
   rotate_left
   ·intro w'
    go_simp
    with_reducible rfl
   rotate_left
   ·simp only [Act.put, List.setIfInBounds_toArray, List.set_cons_zero, List.set_cons_succ, i64_w, i32_w]
    rfl
   refine pure_ (i := 3) (N := some 16) (v := ?_) (a' := ?_) #[true, true, true, true, false, false, false, false] rfl rfl (any_of HT_.out (by kernel_rfl)) (fun _ _ _ h => h) (Or.inl ⟨by rfl, ?_⟩) ?_ ?_
   rotate_left
   ·intro w'
    go_simp
    with_reducible rfl
   rotate_left
   ·simp only [Act.put, List.setIfInBounds_toArray, List.set_cons_zero, List.set_cons_succ, i64_w, i32_w]
    rfl
   refine pure_ (i := 4) (N := some 17) (v := ?_) (a' := ?_) #[true, true, true, true, true, false, false, false] rfl rfl (any_of HT_.out (by kernel_rfl)) (fun _ _ _ h => h) (Or.inl ⟨by rfl, ?_⟩) ?_ ?_
   rotate_left
   ·intro w'
    go_simp
    with_reducible rfl
   rotate_left
   ·simp only [Act.put, List.setIfInBounds_toArray, List.set_cons_zero, List.set_cons_succ, i64_w, i32_w]
    rfl
   refine pure_ (i := 5) (N := some 18) (v := ?_) (a' := ?_) #[true, true, true, true, true, true, false, false] rfl rfl (any_of HT_.out (by kernel_rfl)) (fun _ _ _ h => h) (Or.inl ⟨by rfl, ?_⟩) ?_ ?_
   rotate_left
   ·intro w'
    go_simp
    with_reducible rfl
   rotate_left
   ·simp only [Act.put, List.setIfInBounds_toArray, List.set_cons_zero, List.set_cons_succ, i64_w, i32_w]
    rfl
   refine pure_ (i := 6) (N := some 19) (v := ?_) (a' := ?_) #[true, true, true, true, true, true, true, false] rfl rfl (any_of HT_.out (by kernel_rfl)) (fun _ _ _ h => h) (Or.inl ⟨by rfl, ?_⟩) ?_ ?_
   rotate_left
   ·intro w'
    go_simp
    with_reducible rfl
   rotate_left
   ·simp only [Act.put, List.setIfInBounds_toArray, List.set_cons_zero, List.set_cons_succ, i64_w, i32_w]
    rfl
   refine one_ (i := 7) (N := none) #[true, true, true, true, true, true, true, true] rfl rfl (one_of HT_.out (by kernel_rfl)) (by decide) (fun K hK => ?_)
   have hs15 : w14.cell? ⟨gb837, 0, none⟩ = some (.int .i64 0) := (blk_cell BK837.out 0).trans rfl
   have hfs15 := blk_frozen BK837.out 0
   have hs16 : w14.cell? ⟨gb837, 1, none⟩ = some (.int .i64 0) := (blk_cell BK837.out 1).trans rfl
   have hfs16 := blk_frozen BK837.out 1
   refine skip_ (w1 := ?_) (by rfl) rfl ?_ ?_
   rotate_left
   ·go_simp
    rfl
   refine hK.out _ _ trivial (fun hHeld => ?_)
   clear hK K
   refine done_ (done_of HT_.out (by kernel_rfl)) ?_
   try go_wp2
   refine bodyPost_ret (results_cell_row rfl _ _ gb837 129 #[.int .i64 (wrap64 (Int.tdiv a0 t838)), .int .i64 (wrap64 (Int.tdiv a1 t838))] (0, 0) _ rfl (by (with_reducible repeat (first | refine blk_drewN ?_ _ | refine blk_drew ?_ | refine blk_alloc ?_ _)); refine blk_put (cs := #[.int .i64 (wrap64 (Int.tdiv a0 t838)), .int .i64 0]) ?_ 1 _ rfl; (with_reducible repeat (first | refine blk_drewN ?_ _ | refine blk_drew ?_ | refine blk_alloc ?_ _)); refine blk_put (cs := #[.int .i64 0, .int .i64 0]) ?_ 0 _ rfl; (with_reducible repeat (first | refine blk_drewN ?_ _ | refine blk_drew ?_ | refine blk_alloc ?_ _)); exact BK837.out) Tryz.underlying129 rfl (by kernel_rfl)) rfl ?_
   exact ⟨by first | rfl | (simp [errW_none, errW_some] <;> rfl) | (simp [*, errW_none, errW_some] <;> rfl), by repeat (first | (with_reducible first | exact HB.out | apply below_alloc | apply pbN | apply bd1 | refine below_set ?_ GE837.out) | exact HB.out)⟩
def gba_IsSmall.f (a0_0 : Int) (a0_1 : Int) : Option (Bool) := (gba_Within.f a0_0 (-1000000000) 1000000000).bind fun t842 => (if t842 = true then ((gba_Within.f a0_1 1 1000000000).bind fun t843 => (some t843)) else (some false))
set_option maxHeartbeats 8000000 in
set_option maxRecDepth 100000 in
theorem gba_IsSmall.calls (a0_0 : Int) (a0_1 : Int) (r : Bool) (w : World) (h : gba_IsSmall.f a0_0 a0_1 = some r) :
  Calls Tryz.prog 77 #[.agg #[.int .i64 a0_0, .int .i64 a0_1]] w fun e w' => e = .returned (.bool r) ∧ Below w.heap.size w w' := by
 have hu129 := Tryz.underlying129
 have HB := Asd.mk (Below.refl w.heap.size w)
 have H : ((gba_Within.f a0_0 (-1000000000) 1000000000).bind fun t842 => (if t842 = true then ((gba_Within.f a0_1 1 1000000000).bind fun t843 => (some t843)) else (some false))) = some r := h
 clear h
 replace H := Option.bind_eq_some_iff.mp H
 obtain ⟨t842, A20, H⟩ := H
 replace H : (if t842 = true then ((gba_Within.f a0_1 1 1000000000).bind fun t843 => (some t843)) else (some false)) = some r := H
 have A2 := Asd.mk A20
 clear A20
 by_cases c3 : t842 = true
 ·subst c3
  have H1 : ((gba_Within.f a0_1 1 1000000000).bind fun t843 => (some t843)) = some r := by rw [if_pos rfl] at H; exact H
  clear H
  have H := H1
  clear H1
  replace H := Option.bind_eq_some_iff.mp H
  obtain ⟨t843, A40, H⟩ := H
  replace H : (some t843) = some r := H
  have A4 := Asd.mk A40
  clear A40
  obtain rfl := Option.some.inj H
  go_enter Tryz.func77, Tryz.ntmps77
  go_wp2_with (first | ((with_reducible refine gate_dst (N := 1) rfl ?_); refine box_event ?hg (N := 1) ?hd (cs := #[.int .i64 a0_0, .int .i64 a0_1]) (t := 129) ?hr ?_; (case hd => rfl); (case hg => rfl); (case hr => first | (go_simp; done) | (go_simp; rfl)); intro gb841 hg w5 hbox hb; have n0_ := Asd.mk (below_step (by repeat (first | (with_reducible first | exact HB.out | apply below_alloc | apply pbN | apply bd1) | exact HB.out)) hb); have n1_ := Asd.mk (hbox); have n2_ := Asd.mk ((by rw [hg]; exact (below_size (by repeat (first | (with_reducible first | exact HB.out | apply below_alloc | apply pbN | apply bd1) | exact HB.out))) : w.heap.size ≤ gb841)); have n3_ := Asd.mk ((by rw [hg]; exact (below_size (by repeat (first | (with_reducible first | exact HB.out | apply below_alloc | apply pbN | apply bd1) | exact HB.out))) : w.heap.size ≤ gb841)); clear HB; have HB := n0_; have BK841 := n1_; have GW841 := n2_; have GE841 := n3_; clear n0_ n1_ n2_ n3_; clear hb hbox hg; have hcz6_0 : w5.cell? ⟨gb841, 0, none⟩ = some (.int .i64 a0_0) := (blk_cell BK841.out 0).trans rfl; have hcz6_1 : w5.cell? ⟨gb841, 1, none⟩ = some (.int .i64 a0_1) := (blk_cell BK841.out 1).trans rfl; have hfz6_0 := blk_frozen BK841.out 0; have hfz6_1 := blk_frozen BK841.out 1) | ((with_reducible refine gate_callee (f := 68) rfl ?_); refine goesL_ (some 5) rfl rfl Tryz.func68 (by kernel_rfl) rfl #[.int .i64 a0_0, .int .i64 (-1000000000), .int .i64 1000000000] rfl (by (try simp only [List.map_toArray, List.map_cons, List.map_nil]); first | done | rfl | (simp only [List.length_drop, List.length_take]; rfl)) ?_; (with_reducible refine (gba_Within.calls a0_0 (-1000000000) 1000000000 true _ A2.out).mono ?_); rintro e w' ⟨rfl, ⟨nd, rfl⟩⟩; refine ⟨_, rfl, ?_⟩) | (go_at_call 68; (with_reducible refine (gba_Within.calls a0_1 1 1000000000 t843 _ A4.out).mono ?_); rintro e w' ⟨rfl, ⟨nd, rfl⟩⟩))
  go_ret
  exact ⟨by first | rfl | (simp [errW_none, errW_some] <;> rfl) | (simp [*, errW_none, errW_some] <;> rfl), by repeat (first | (with_reducible first | exact HB.out | apply below_alloc | apply pbN | apply bd1 | refine below_set ?_ GE841.out) | exact HB.out)⟩
 ·replace c3 := Bool.eq_false_iff.mpr c3
  subst c3
  have H1 : (some false) = some r := by rw [if_neg (show ¬ (false = true) by decide)] at H; exact H
  clear H
  have H := H1
  clear H1
  obtain rfl := Option.some.inj H
  go_enter Tryz.func77, Tryz.ntmps77
  go_wp2_with (first | ((with_reducible refine gate_dst (N := 1) rfl ?_); refine box_event ?hg (N := 1) ?hd (cs := #[.int .i64 a0_0, .int .i64 a0_1]) (t := 129) ?hr ?_; (case hd => rfl); (case hg => rfl); (case hr => first | (go_simp; done) | (go_simp; rfl)); intro gb841 hg w7 hbox hb; have n0_ := Asd.mk (below_step (by repeat (first | (with_reducible first | exact HB.out | apply below_alloc | apply pbN | apply bd1) | exact HB.out)) hb); have n1_ := Asd.mk (hbox); have n2_ := Asd.mk ((by rw [hg]; exact (below_size (by repeat (first | (with_reducible first | exact HB.out | apply below_alloc | apply pbN | apply bd1) | exact HB.out))) : w.heap.size ≤ gb841)); have n3_ := Asd.mk ((by rw [hg]; exact (below_size (by repeat (first | (with_reducible first | exact HB.out | apply below_alloc | apply pbN | apply bd1) | exact HB.out))) : w.heap.size ≤ gb841)); clear HB; have HB := n0_; have BK841 := n1_; have GW841 := n2_; have GE841 := n3_; clear n0_ n1_ n2_ n3_; clear hb hbox hg; have hcz8_0 : w7.cell? ⟨gb841, 0, none⟩ = some (.int .i64 a0_0) := (blk_cell BK841.out 0).trans rfl; have hcz8_1 : w7.cell? ⟨gb841, 1, none⟩ = some (.int .i64 a0_1) := (blk_cell BK841.out 1).trans rfl; have hfz8_0 := blk_frozen BK841.out 0; have hfz8_1 := blk_frozen BK841.out 1) | ((with_reducible refine gate_callee (f := 68) rfl ?_); refine goesL_ (some 5) rfl rfl Tryz.func68 (by kernel_rfl) rfl #[.int .i64 a0_0, .int .i64 (-1000000000), .int .i64 1000000000] rfl (by (try simp only [List.map_toArray, List.map_cons, List.map_nil]); first | done | rfl | (simp only [List.length_drop, List.length_take]; rfl)) ?_; (with_reducible refine (gba_Within.calls a0_0 (-1000000000) 1000000000 false _ A2.out).mono ?_); rintro e w' ⟨rfl, ⟨nd, rfl⟩⟩; refine ⟨_, rfl, ?_⟩))
  go_ret
  exact ⟨by first | rfl | (simp [errW_none, errW_some] <;> rfl) | (simp [*, errW_none, errW_some] <;> rfl), by repeat (first | (with_reducible first | exact HB.out | apply below_alloc | apply pbN | apply bd1 | refine below_set ?_ GE841.out) | exact HB.out)⟩
end Go.Proofs.YtmpondcccbmlhaaGreat.Q
namespace Go.Proofs.YtmpondcccbmlhaaGreat.Q
open Go.RowKit Go.Proofs.YtmpondcccbmlhaaGreatW.PrintWords Go.Proofs.YtmpondcccbmlhaaGreatW.PrintLast Go.Proofs.YtmpondcccbmlhaaGreatW.PrintMore
attribute [local go_sem] max2_int min2_int max_two min_two max_three min_three max_four min_four   
set_option linter.unusedVariables false
set_option linter.unusedSimpArgs false
mutual
def gr6_Shares.l0 : Nat → List Int → Int → Int → Int → Option ((List (S129)) × Bool)
 | 0, _, _, _, _ => none
 | k + 1, x0, x1, x6, x7 => if x7 < (x0.length : Int) then (if 0 ≤ x7 then (gr6_Shares.l0 k x0 x1 (wrap64 (x6 * (rd x0 x7))) (wrap64 (x7 + 1))) else (none)) else (gr6_Shares.l1 k x0 x1 x6 0 0)
def gr6_Shares.l1 : Nat → List Int → Int → Int → Int → Int → Option ((List (S129)) × Bool)
 | 0, _, _, _, _, _ => none
 | k + 1, x0, x1, x6, x8, x9 => if x9 < (x0.length : Int) then (if 0 ≤ x9 then (if (rd x0 x9) = 0 then (none) else (gr6_Shares.l1 k x0 x1 x6 (wrap64 (x8 + (wrap64 (Int.tdiv x6 (rd x0 x9))))) (wrap64 (x9 + 1)))) else (none)) else (gr6_Shares.l2 k x0 x1 x6 x8 ([] : List (S129)) 0)
def gr6_Shares.l2 : Nat → List Int → Int → Int → Int → List (S129) → Int → Option ((List (S129)) × Bool)
 | 0, _, _, _, _, _, _ => none
 | k + 1, x0, x1, x6, x8, x10, x11 => if x11 < (x0.length : Int) then (if 0 ≤ x11 then (if (rd x0 x11) = 0 then (none) else ((gba_Lowest.f k (wrap64 (x1 * (wrap64 (Int.tdiv x6 (rd x0 x11))))) x8).bind fun bt971 => ((gba_IsSmall.f bt971.1 bt971.2).bind fun t974 => (if t974 = true then (if x10.length < 8796093022208 then (gr6_Shares.l2 k x0 x1 x6 x8 (x10 ++ [(⟨bt971.1, bt971.2⟩ : S129)]) (wrap64 (x11 + 1))) else (none)) else (some (([] : List (S129)), false)))))) else (none)) else (some (x10, true))
end
def gr6_Shares.f (k : Nat) (l0 : List Int) (a1 : Int) : Option ((List (S129)) × Bool) := gr6_Shares.l0 k l0 a1 1 0
set_option maxHeartbeats 8000000 in
set_option maxRecDepth 100000 in
theorem gr6_Shares.calls (k : Nat) (A0 : Option Addr) (c0 : Nat) (l0 : List Int) (a1 : Int) (r1 : List (S129)) (r2 : Bool) (w : World) (hr0 : Kd.C (Kd.int .i64) w A0 l0.length l0) (hc0 : l0.length ≤ c0) (h : gr6_Shares.f k l0 a1 = some (r1, r2)) :
  Calls Tryz.prog 73 #[.slice A0 l0.length c0, .int .i64 a1] w fun e w' => ∃ v0_ : Value, e = .returned (.tuple #[v0_, .bool r2]) ∧ Kd.R k129 129 w' w.heap.size (fun _ => True) v0_ r1 ∧ Below w.heap.size w w' := by
 have hu129 := Tryz.underlying129
 have HR0 := Asd.mk hr0
 have HC0 := Asd.mk hc0
 clear hr0 hc0
 have HB := Asd.mk (Below.refl w.heap.size w)
 have H : (gr6_Shares.l0 k l0 a1 1 0) = some (r1, r2) := h
 clear h
 have H' := Asd.mk H
 clear H
 go_enter Tryz.func73, Tryz.ntmps73
 go_wp2
 go_loopg [6, 7] k (fun kq v6 v7 w' => ∃ (x6_1 : Int) (x7_1 : Int), v6 = .int .i64 x6_1 ∧ v7 = .int .i64 x7_1 ∧ Asd (gr6_Shares.l0 kq l0 a1 x6_1 x7_1 = some (r1, r2)) ∧ Asd (kq ≤ k) ∧ Asd (Below w.heap.size w w'))
 case atStart => exact ⟨(1), (0), (by first | rfl | (simp; done) | (simp [*]; done)), (by first | rfl | (simp; done) | (simp [*]; done)), H', ⟨Nat.le_refl _⟩, ⟨by repeat (first | (with_reducible first | exact HB.out | apply below_alloc | apply pbN | apply bd1) | exact HB.out)⟩⟩
 case round =>
  clear H'
  try clear p2
  obtain ⟨x6_1, x7_1, rfl, rfl, HA, HK1, HB⟩ := hrel
  cases gk with
  | zero => exact absurd HA.out (by simp [gr6_Shares.l0])
  | succ k1 =>
   have H := HA.out
   clear HA
   simp only [gr6_Shares.l0] at H
   by_cases c3 : x7_1 < (l0.length : Int)
   ·rw [if_pos c3] at H
    have c3b0 : decide (x7_1 < (l0.length : Int)) = true := decide_eq_true c3
    clear c3
    by_cases c4 : 0 ≤ x7_1
    ·rw [if_pos c4] at H
     have c4b0 : decide (0 ≤ x7_1) = true := decide_eq_true c4
     clear c4
     have H' := Asd.mk H
     clear H
     have p968 : 0 ≤ (x7_1 : Int) := of_decide_eq_true (by first | (with_reducible assumption) | assumption)
     have q968 : x7_1 < (l0.length : Int) := of_decide_eq_true (by first | (with_reducible assumption) | assumption)
     obtain ⟨ad968, e968, hx968_0⟩ := Kd.at_int HR0.out x7_1 p968 q968
     cases e968
     replace hx968_0 := (HB.out.cell (World.block_lt_of_cell? w _ hx968_0)).trans hx968_0
     replace p968 := eq_true p968
     replace q968 := eq_true q968
     go_wp2
     go_roundg k1
     case measure => have := HK1.out; omega
     case rel => exact ⟨(wrap64 (x6_1 * (rd l0 x7_1))), (wrap64 (x7_1 + 1)), (by first | rfl | (simp; done) | (simp [*]; done)), (by first | rfl | (simp; done) | (simp [*]; done)), H', ⟨by have := HK1.out; omega⟩, ⟨by repeat (first | (with_reducible first | exact HB.out | apply below_alloc | apply pbN | apply bd1) | exact HB.out)⟩⟩
    ·rw [if_neg c4] at H
     exact absurd H (by simp)
   ·rw [if_neg c3] at H
    have c3b0 : decide (x7_1 < (l0.length : Int)) = false := decide_eq_false c3
    clear c3
    have H' := Asd.mk H
    clear H
    go_wp2
    go_loopg [8, 9] k1 (fun kq v8 v9 w' => ∃ (x8_2 : Int) (x9_2 : Int), v8 = .int .i64 x8_2 ∧ v9 = .int .i64 x9_2 ∧ Asd (gr6_Shares.l1 kq l0 a1 x6_1 x8_2 x9_2 = some (r1, r2)) ∧ Asd (kq ≤ k1) ∧ Asd (Below w.heap.size w w'))
    case atStart => exact ⟨(0), (0), (by first | rfl | (simp; done) | (simp [*]; done)), (by first | rfl | (simp; done) | (simp [*]; done)), H', ⟨Nat.le_refl _⟩, ⟨by repeat (first | (with_reducible first | exact HB.out | apply below_alloc | apply pbN | apply bd1) | exact HB.out)⟩⟩
    case round =>
     clear H'
     try clear p2
     try clear c3
     try clear c3b0
     try clear c4
     try clear c4b0
     try clear hx968_0
     try clear p2
     try clear p968
     try clear q968
     obtain ⟨x8_2, x9_2, rfl, rfl, HA, HK2, HB⟩ := hrel
     cases gk with
     | zero => exact absurd HA.out (by simp [gr6_Shares.l1])
     | succ k2 =>
      have H := HA.out
      clear HA
      simp only [gr6_Shares.l1] at H
      by_cases c5 : x9_2 < (l0.length : Int)
      ·rw [if_pos c5] at H
       have c5b0 : decide (x9_2 < (l0.length : Int)) = true := decide_eq_true c5
       clear c5
       by_cases c6 : 0 ≤ x9_2
       ·rw [if_pos c6] at H
        have c6b0 : decide (0 ≤ x9_2) = true := decide_eq_true c6
        clear c6
        by_cases c7 : (rd l0 x9_2) = 0
        ·rw [if_pos c7] at H
         exact absurd H (by simp)
        ·rw [if_neg c7] at H
         have c7b0 : ((rd l0 x9_2) == 0) = false := beq_eq_false_iff_ne.mpr c7
         have c7b1 : ((rd l0 x9_2) != 0) = true := bne_iff_ne.mpr c7
         have H' := Asd.mk H
         clear H
         have p969 : 0 ≤ (x9_2 : Int) := of_decide_eq_true (by first | (with_reducible assumption) | assumption)
         have q969 : x9_2 < (l0.length : Int) := of_decide_eq_true (by first | (with_reducible assumption) | assumption)
         obtain ⟨ad969, e969, hx969_0⟩ := Kd.at_int HR0.out x9_2 p969 q969
         cases e969
         replace hx969_0 := (HB.out.cell (World.block_lt_of_cell? w _ hx969_0)).trans hx969_0
         replace p969 := eq_true p969
         replace q969 := eq_true q969
         go_wp2
         go_roundg k2
         case measure => have := HK1.out; have := HK2.out; omega
         case rel => exact ⟨(wrap64 (x8_2 + (wrap64 (Int.tdiv x6_1 (rd l0 x9_2))))), (wrap64 (x9_2 + 1)), (by first | rfl | (simp; done) | (simp [*]; done)), (by first | rfl | (simp; done) | (simp [*]; done)), H', ⟨by have := HK1.out; have := HK2.out; omega⟩, ⟨by repeat (first | (with_reducible first | exact HB.out | apply below_alloc | apply pbN | apply bd1) | exact HB.out)⟩⟩
       ·rw [if_neg c6] at H
        exact absurd H (by simp)
      ·rw [if_neg c5] at H
       have c5b0 : decide (x9_2 < (l0.length : Int)) = false := decide_eq_false c5
       clear c5
       have H' := Asd.mk H
       clear H
       go_wp2
       go_loopg [10, 11] k2 (fun kq v10 v11 w' => ∃ (x10_3 : List (S129)) (x11_3 : Int), v11 = .int .i64 x11_3 ∧ Asd (gr6_Shares.l2 kq l0 a1 x6_1 x8_2 x10_3 x11_3 = some (r1, r2)) ∧ Asd (kq ≤ k2) ∧ Asd (Kd.R k129 129 w' w.heap.size (fun _ => True) v10 x10_3) ∧ Asd (Below w.heap.size w w'))
       case atStart => exact ⟨(([] : List (S129))), (0), (by first | rfl | (simp; done) | (simp [*]; done)), H', ⟨Nat.le_refl _⟩, ⟨by first | exact Kd.R_nil _ _ _ _ _ | exact Kd.N_nil _ _ _ _ _ | exact Kd.V_nil _ _ _ _ _ | exact Kd.Q_nil _ _ _ _ _ | exact Kd.S_nil _ _ _ _ _⟩, ⟨by repeat (first | (with_reducible first | exact HB.out | apply below_alloc | apply pbN | apply bd1) | exact HB.out)⟩⟩
       case round =>
        clear H'
        try clear p2
        try clear c3
        try clear c3b0
        try clear c4
        try clear c4b0
        try clear c5
        try clear c5b0
        try clear c6
        try clear c6b0
        try clear p6
        try clear c7
        try clear c7b0
        try clear c7b1
        try clear hx968_0
        try clear hx969_0
        try clear p2
        try clear p968
        try clear p969
        try clear q968
        try clear q969
        obtain ⟨x10_3, x11_3, rfl, HA, HK3, HO_10, HB⟩ := hrel
        cases gk with
        | zero => exact absurd HA.out (by simp [gr6_Shares.l2])
        | succ k3 =>
         have H := HA.out
         clear HA
         simp only [gr6_Shares.l2] at H
         by_cases c8 : x11_3 < (l0.length : Int)
         ·rw [if_pos c8] at H
          have c8b0 : decide (x11_3 < (l0.length : Int)) = true := decide_eq_true c8
          clear c8
          by_cases c9 : 0 ≤ x11_3
          ·rw [if_pos c9] at H
           have c9b0 : decide (0 ≤ x11_3) = true := decide_eq_true c9
           clear c9
           by_cases c10 : (rd l0 x11_3) = 0
           ·rw [if_pos c10] at H
            exact absurd H (by simp)
           ·rw [if_neg c10] at H
            have c10b0 : ((rd l0 x11_3) == 0) = false := beq_eq_false_iff_ne.mpr c10
            have c10b1 : ((rd l0 x11_3) != 0) = true := bne_iff_ne.mpr c10
            replace H := Option.bind_eq_some_iff.mp H
            obtain ⟨⟨t971, t972⟩, A110, H⟩ := H
            replace H : ((gba_IsSmall.f t971 t972).bind fun t974 => (if t974 = true then (if x10_3.length < 8796093022208 then (gr6_Shares.l2 k3 l0 a1 x6_1 x8_2 (x10_3 ++ [(⟨t971, t972⟩ : S129)]) (wrap64 (x11_3 + 1))) else (none)) else (some (([] : List (S129)), false)))) = some (r1, r2) := H
            have A11 := Asd.mk A110
            clear A110
            replace H := Option.bind_eq_some_iff.mp H
            obtain ⟨t974, A120, H⟩ := H
            replace H : (if t974 = true then (if x10_3.length < 8796093022208 then (gr6_Shares.l2 k3 l0 a1 x6_1 x8_2 (x10_3 ++ [(⟨t971, t972⟩ : S129)]) (wrap64 (x11_3 + 1))) else (none)) else (some (([] : List (S129)), false))) = some (r1, r2) := H
            have A12 := Asd.mk A120
            clear A120
            by_cases c13 : t974 = true
            ·subst c13
             have H1 : (if x10_3.length < 8796093022208 then (gr6_Shares.l2 k3 l0 a1 x6_1 x8_2 (x10_3 ++ [(⟨t971, t972⟩ : S129)]) (wrap64 (x11_3 + 1))) else (none)) = some (r1, r2) := by rw [if_pos rfl] at H; exact H
             clear H
             have H := H1
             clear H1
             by_cases c14 : x10_3.length < 8796093022208
             ·rw [if_pos c14] at H
              have LMc14 := Asd.mk c14
              clear c14
              obtain ⟨y975, hy975⟩ : ∃ y_ : List (S129), y_ = (x10_3 ++ [(⟨t971, t972⟩ : S129)]) := ⟨_, rfl⟩
              replace H : (gr6_Shares.l2 k3 l0 a1 x6_1 x8_2 y975 (wrap64 (x11_3 + 1))) = some (r1, r2) := by first | (rw [hy975]; with_reducible exact H) | (have H2_ := (Option.bind_some _ _).symm.trans H; rw [hy975]; with_reducible exact H2_) | (have H2_ := (Option.bind_some _ _).symm.trans H; with_reducible exact H2_) | with_reducible exact H | (rw [hy975]; exact H) | exact H
              have Ny975 := Asd.mk hy975
              clear hy975
              have H' := Asd.mk H
              clear H
              have p970 : 0 ≤ (x11_3 : Int) := of_decide_eq_true (by first | (with_reducible assumption) | assumption)
              have q970 : x11_3 < (l0.length : Int) := of_decide_eq_true (by first | (with_reducible assumption) | assumption)
              obtain ⟨ad970, e970, hx970_0⟩ := Kd.at_int HR0.out x11_3 p970 q970
              cases e970
              replace hx970_0 := (HB.out.cell (World.block_lt_of_cell? w _ hx970_0)).trans hx970_0
              replace p970 := eq_true p970
              replace q970 := eq_true q970
              go_wp2_with (first | ((with_reducible refine gate_callee (f := 141) rfl ?_); refine goesL_ (some 54) rfl rfl Tryz.func141 (by kernel_rfl) rfl #[.int .i64 (wrap64 (a1 * (wrap64 (Int.tdiv x6_1 (rd l0 x11_3))))), .int .i64 x8_2] rfl (by (try simp only [List.map_toArray, List.map_cons, List.map_nil]); first | done | rfl | (simp only [List.length_drop, List.length_take]; rfl)) ?_; (with_reducible refine (gba_Lowest.calls k3 (wrap64 (a1 * (wrap64 (Int.tdiv x6_1 (rd l0 x11_3))))) x8_2 t971 t972 _ A11.out).mono ?_); rintro e w15 ⟨rfl, hb⟩; refine ⟨_, rfl, ?_⟩; have n0_ := Asd.mk (Kd.R_below (by (with_reducible repeat (first | apply Kd.R_alloc | apply Kd.R_drewN | apply Kd.R_drew)); exact HO_10.out) hb); have n1_ := Asd.mk (below_step (by repeat (first | (with_reducible first | exact HB.out | apply below_alloc | apply pbN | apply bd1) | exact HB.out)) hb); clear HO_10; clear HB; have HO_10 := n0_; have HB := n1_; clear n0_ n1_; (try clear hb); (try clear hb2); (try clear hk); (try clear hi)) | ((with_reducible refine gate_dst (N := 12) rfl ?_); refine box_event ?hg (N := 12) ?hd (cs := #[.int .i64 0, .int .i64 0]) (t := 129) ?hr ?_; (case hd => rfl); (case hg => rfl); (case hr => first | (go_simp; done) | (go_simp; rfl)); intro gb973 hg w16 hbox hb; have n0_ := Asd.mk (Kd.R_below (Kd.R_elderB (by (with_reducible repeat (first | apply Kd.R_alloc | apply Kd.R_drewN | apply Kd.R_drew)); exact HO_10.out) gb973 (Nat.le_of_eq hg.symm)) hb); have n1_ := Asd.mk (below_step (by repeat (first | (with_reducible first | exact HB.out | apply below_alloc | apply pbN | apply bd1) | exact HB.out)) hb); have n2_ := Asd.mk (hbox); have n3_ := Asd.mk ((by rw [hg]; exact (below_size (by repeat (first | (with_reducible first | exact HB.out | apply below_alloc | apply pbN | apply bd1) | exact HB.out))) : w.heap.size ≤ gb973)); have n4_ := Asd.mk ((by rw [hg]; exact (below_size (by repeat (first | (with_reducible first | exact HB.out | apply below_alloc | apply pbN | apply bd1) | exact HB.out))) : w.heap.size ≤ gb973)); clear HO_10; clear HB; have HO_10 := n0_; have HB := n1_; have BK973 := n2_; have GW973 := n3_; have GE973 := n4_; clear n0_ n1_ n2_ n3_ n4_; clear hb hbox hg; have hcz17_0 : w16.cell? ⟨gb973, 0, none⟩ = some (.int .i64 0) := (blk_cell BK973.out 0).trans rfl; have hcz17_1 : w16.cell? ⟨gb973, 1, none⟩ = some (.int .i64 0) := (blk_cell BK973.out 1).trans rfl; have hfz17_0 := blk_frozen BK973.out 0; have hfz17_1 := blk_frozen BK973.out 1) | ((with_reducible refine gate_callee (f := 77) rfl ?_); refine goesL_ (some 56) rfl rfl Tryz.func77 (by kernel_rfl) rfl #[.agg #[.int .i64 t971, .int .i64 t972]] rfl (by (try simp only [List.map_toArray, List.map_cons, List.map_nil]); first | done | rfl | (simp only [List.length_drop, List.length_take]; rfl)) ?_; (with_reducible refine (gba_IsSmall.calls t971 t972 true _ A12.out).mono ?_); rintro e w18 ⟨rfl, hb⟩; refine ⟨_, rfl, ?_⟩; have n0_ := Asd.mk (Kd.R_below (by (with_reducible repeat (first | apply Kd.R_alloc | apply Kd.R_drewN | apply Kd.R_drew)); exact (Kd.R_mono (Kd.R_far (p := ⟨gb973, 1, none⟩) (Kd.R_far (p := ⟨gb973, 0, none⟩) (Kd.R_mono HO_10.out (fun k_ hk => (⟨hk, hk.2⟩ : _ ∧ k_ ≠ gb973))) (fun _ hk => hk.2) (.int .i64 t971)) (fun _ hk => hk.2) (.int .i64 t972)) (fun _ h_ => h_.1))) hb); have n1_ := Asd.mk (blk_below (g := gb973) (o := .cells #[.int .i64 t971, .int .i64 t972] 129 (0, 0)) (by (with_reducible repeat (first | refine blk_drewN ?_ _ | refine blk_drew ?_ | refine blk_alloc ?_ _)); refine blk_put (cs := #[.int .i64 t971, .int .i64 0]) ?_ 1 _ rfl; (with_reducible repeat (first | refine blk_drewN ?_ _ | refine blk_drew ?_ | refine blk_alloc ?_ _)); refine blk_put (cs := #[.int .i64 0, .int .i64 0]) ?_ 0 _ rfl; (with_reducible repeat (first | refine blk_drewN ?_ _ | refine blk_drew ?_ | refine blk_alloc ?_ _)); exact BK973.out) hb); have n2_ := Asd.mk (below_step (by repeat (first | (with_reducible first | exact HB.out | apply below_alloc | apply pbN | apply bd1 | refine below_set ?_ GE973.out) | exact HB.out)) hb); clear HO_10; clear BK973; clear HB; have HO_10 := n0_; have BK973 := n1_; have HB := n2_; clear n0_ n1_ n2_; (try clear hb); (try clear hb2); (try clear hk); (try clear hi); have hcz19_0 : w18.cell? ⟨gb973, 0, none⟩ = some (.int .i64 t971) := (blk_cell BK973.out 0).trans rfl; have hcz19_1 : w18.cell? ⟨gb973, 1, none⟩ = some (.int .i64 t972) := (blk_cell BK973.out 1).trans rfl; have hfz19_0 := blk_frozen BK973.out 0; have hfz19_1 := blk_frozen BK973.out 1) | ((with_reducible refine gate_builtin (b := .append) (xs := #[.tmp 58, .tmp 60]) rfl ?_); at_builtin; refine Kd.R_append k129 (w0 := w) w.heap.size rfl (.tmp 58) (.tmp 60) 107 129 (.agg #[(.int .i64 0), (.int .i64 0)]) 16 rfl Tryz.underlying107 info129 rfl (by decide) (by omega) u10 x10_3 (⟨t971, t972⟩ : S129) [.int .i64 t971, .int .i64 t972] (fun k_ => k_ ≠ gb973) (fun _ => False) rfl rfl ?aP (fun _ hk => hk.elim) ?aF ?aO ?aB ?aS ?aL ?_; (case aP => exact k129_mkM _ _ _ (⟨t971, t972⟩ : S129)); (case aB => exact (by repeat (first | (with_reducible first | exact HB.out | apply below_alloc | apply pbN | apply bd1 | refine below_set ?_ GE973.out) | exact HB.out))); (case aF => exact (fun k_ hk => Kd.freshB (g := gb973) (o := .cells #[.int .i64 t971, .int .i64 t972] 129 (0, 0)) (by (with_reducible repeat (first | refine blk_drewN ?_ _ | refine blk_drew ?_ | refine blk_alloc ?_ _)); exact BK973.out) k_ hk)); (case aO => exact (by (with_reducible repeat (first | apply Kd.R_alloc | apply Kd.R_drewN | apply Kd.R_drew)); exact Kd.R_mono HO_10.out (fun _ hk => hk.2))); (case aS => exact (below_size (by repeat (first | (with_reducible first | exact HB.out | apply below_alloc | apply pbN | apply bd1 | refine below_set ?_ GE973.out) | exact HB.out)))); (case aL => have := LMc14.out; omega); intro v976 w20 ho hb hg hat; rw [← Ny975.out] at ho; have n0_ := Asd.mk (blk_grown (g := gb973) (o := .cells #[.int .i64 t971, .int .i64 t972] 129 (0, 0)) (by (with_reducible repeat (first | refine blk_drewN ?_ _ | refine blk_drew ?_ | refine blk_alloc ?_ _)); exact BK973.out) hg (Kd.R_away HO_10.out (fun _ hk => hk.2))); have n1_ := Asd.mk (hb); have n2_ := Asd.mk (ho); clear BK973; clear HB; clear HO_10; have BK973 := n0_; have HB := n1_; have HO977 := n2_; clear n0_ n1_ n2_; clear ho hb hg hat))
              go_roundg k3
              case measure => have := HK1.out; have := HK2.out; have := HK3.out; omega
              case rel => exact ⟨(y975), (wrap64 (x11_3 + 1)), (by first | rfl | (simp; done) | (simp [*]; done)), H', ⟨by have := HK1.out; have := HK2.out; have := HK3.out; omega⟩, ⟨by (with_reducible repeat (first | apply Kd.R_alloc | apply Kd.R_drewN | apply Kd.R_drew)); exact Kd.R_mono HO977.out (fun _ hk => trivial)⟩, ⟨by repeat (first | (with_reducible first | exact HB.out | apply below_alloc | apply pbN | apply bd1 | refine below_set ?_ GE973.out) | exact HB.out)⟩⟩
             ·rw [if_neg c14] at H
              exact absurd H (by simp)
            ·replace c13 := Bool.eq_false_iff.mpr c13
             subst c13
             have H1 : (some (([] : List (S129)), false)) = some (r1, r2) := by rw [if_neg (show ¬ (false = true) by decide)] at H; exact H
             clear H
             have H := H1
             clear H1
             simp only [Option.some.injEq, Prod.mk.injEq] at H
             obtain ⟨rfl, rfl⟩ := H
             have p970 : 0 ≤ (x11_3 : Int) := of_decide_eq_true (by first | (with_reducible assumption) | assumption)
             have q970 : x11_3 < (l0.length : Int) := of_decide_eq_true (by first | (with_reducible assumption) | assumption)
             obtain ⟨ad970, e970, hx970_0⟩ := Kd.at_int HR0.out x11_3 p970 q970
             cases e970
             replace hx970_0 := (HB.out.cell (World.block_lt_of_cell? w _ hx970_0)).trans hx970_0
             replace p970 := eq_true p970
             replace q970 := eq_true q970
             go_wp2_with (first | ((with_reducible refine gate_callee (f := 141) rfl ?_); refine goesL_ (some 54) rfl rfl Tryz.func141 (by kernel_rfl) rfl #[.int .i64 (wrap64 (a1 * (wrap64 (Int.tdiv x6_1 (rd l0 x11_3))))), .int .i64 x8_2] rfl (by (try simp only [List.map_toArray, List.map_cons, List.map_nil]); first | done | rfl | (simp only [List.length_drop, List.length_take]; rfl)) ?_; (with_reducible refine (gba_Lowest.calls k3 (wrap64 (a1 * (wrap64 (Int.tdiv x6_1 (rd l0 x11_3))))) x8_2 t971 t972 _ A11.out).mono ?_); rintro e w21 ⟨rfl, hb⟩; refine ⟨_, rfl, ?_⟩; have n0_ := Asd.mk (Kd.R_below (by (with_reducible repeat (first | apply Kd.R_alloc | apply Kd.R_drewN | apply Kd.R_drew)); exact HO_10.out) hb); have n1_ := Asd.mk (below_step (by repeat (first | (with_reducible first | exact HB.out | apply below_alloc | apply pbN | apply bd1) | exact HB.out)) hb); clear HO_10; clear HB; have HO_10 := n0_; have HB := n1_; clear n0_ n1_; (try clear hb); (try clear hb2); (try clear hk); (try clear hi)) | ((with_reducible refine gate_dst (N := 12) rfl ?_); refine box_event ?hg (N := 12) ?hd (cs := #[.int .i64 0, .int .i64 0]) (t := 129) ?hr ?_; (case hd => rfl); (case hg => rfl); (case hr => first | (go_simp; done) | (go_simp; rfl)); intro gb973 hg w22 hbox hb; have n0_ := Asd.mk (Kd.R_below (Kd.R_elderB (by (with_reducible repeat (first | apply Kd.R_alloc | apply Kd.R_drewN | apply Kd.R_drew)); exact HO_10.out) gb973 (Nat.le_of_eq hg.symm)) hb); have n1_ := Asd.mk (below_step (by repeat (first | (with_reducible first | exact HB.out | apply below_alloc | apply pbN | apply bd1) | exact HB.out)) hb); have n2_ := Asd.mk (hbox); have n3_ := Asd.mk ((by rw [hg]; exact (below_size (by repeat (first | (with_reducible first | exact HB.out | apply below_alloc | apply pbN | apply bd1) | exact HB.out))) : w.heap.size ≤ gb973)); have n4_ := Asd.mk ((by rw [hg]; exact (below_size (by repeat (first | (with_reducible first | exact HB.out | apply below_alloc | apply pbN | apply bd1) | exact HB.out))) : w.heap.size ≤ gb973)); clear HO_10; clear HB; have HO_10 := n0_; have HB := n1_; have BK973 := n2_; have GW973 := n3_; have GE973 := n4_; clear n0_ n1_ n2_ n3_ n4_; clear hb hbox hg; have hcz23_0 : w22.cell? ⟨gb973, 0, none⟩ = some (.int .i64 0) := (blk_cell BK973.out 0).trans rfl; have hcz23_1 : w22.cell? ⟨gb973, 1, none⟩ = some (.int .i64 0) := (blk_cell BK973.out 1).trans rfl; have hfz23_0 := blk_frozen BK973.out 0; have hfz23_1 := blk_frozen BK973.out 1) | ((with_reducible refine gate_callee (f := 77) rfl ?_); refine goesL_ (some 56) rfl rfl Tryz.func77 (by kernel_rfl) rfl #[.agg #[.int .i64 t971, .int .i64 t972]] rfl (by (try simp only [List.map_toArray, List.map_cons, List.map_nil]); first | done | rfl | (simp only [List.length_drop, List.length_take]; rfl)) ?_; (with_reducible refine (gba_IsSmall.calls t971 t972 false _ A12.out).mono ?_); rintro e w24 ⟨rfl, hb⟩; refine ⟨_, rfl, ?_⟩; have n0_ := Asd.mk (Kd.R_below (by (with_reducible repeat (first | apply Kd.R_alloc | apply Kd.R_drewN | apply Kd.R_drew)); exact (Kd.R_mono (Kd.R_far (p := ⟨gb973, 1, none⟩) (Kd.R_far (p := ⟨gb973, 0, none⟩) (Kd.R_mono HO_10.out (fun k_ hk => (⟨hk, hk.2⟩ : _ ∧ k_ ≠ gb973))) (fun _ hk => hk.2) (.int .i64 t971)) (fun _ hk => hk.2) (.int .i64 t972)) (fun _ h_ => h_.1))) hb); have n1_ := Asd.mk (blk_below (g := gb973) (o := .cells #[.int .i64 t971, .int .i64 t972] 129 (0, 0)) (by (with_reducible repeat (first | refine blk_drewN ?_ _ | refine blk_drew ?_ | refine blk_alloc ?_ _)); refine blk_put (cs := #[.int .i64 t971, .int .i64 0]) ?_ 1 _ rfl; (with_reducible repeat (first | refine blk_drewN ?_ _ | refine blk_drew ?_ | refine blk_alloc ?_ _)); refine blk_put (cs := #[.int .i64 0, .int .i64 0]) ?_ 0 _ rfl; (with_reducible repeat (first | refine blk_drewN ?_ _ | refine blk_drew ?_ | refine blk_alloc ?_ _)); exact BK973.out) hb); have n2_ := Asd.mk (below_step (by repeat (first | (with_reducible first | exact HB.out | apply below_alloc | apply pbN | apply bd1 | refine below_set ?_ GE973.out) | exact HB.out)) hb); clear HO_10; clear BK973; clear HB; have HO_10 := n0_; have BK973 := n1_; have HB := n2_; clear n0_ n1_ n2_; (try clear hb); (try clear hb2); (try clear hk); (try clear hi)))
             go_ret2
             exact ⟨_, by first | rfl | (simp [errW_none, errW_some] <;> rfl) | (simp [*, errW_none, errW_some] <;> rfl), by first | exact Kd.R_nil _ _ _ _ _ | exact Kd.N_nil _ _ _ _ _ | exact Kd.V_nil _ _ _ _ _ | exact Kd.Q_nil _ _ _ _ _ | exact Kd.S_nil _ _ _ _ _, by repeat (first | (with_reducible first | exact HB.out | apply below_alloc | apply pbN | apply bd1 | refine below_set ?_ GE973.out) | exact HB.out)⟩
          ·rw [if_neg c9] at H
           exact absurd H (by simp)
         ·rw [if_neg c8] at H
          have c8b0 : decide (x11_3 < (l0.length : Int)) = false := decide_eq_false c8
          clear c8
          simp only [Option.some.injEq, Prod.mk.injEq] at H
          obtain ⟨rfl, rfl⟩ := H
          go_wp2
          go_ret2
          exact ⟨_, by first | rfl | (simp [errW_none, errW_some] <;> rfl) | (simp [*, errW_none, errW_some] <;> rfl), by (with_reducible repeat (first | apply Kd.R_alloc | apply Kd.R_drewN | apply Kd.R_drew)); exact HO_10.out, by repeat (first | (with_reducible first | exact HB.out | apply below_alloc | apply pbN | apply bd1) | exact HB.out)⟩
def gl6_Box.f  : Option ((List (S58))) := some (([(⟨1, 1⟩ : S58), (⟨2, 3⟩ : S58), (⟨3, 4⟩ : S58), (⟨1, 2⟩ : S58)] : List (S58)))
set_option maxHeartbeats 8000000 in
set_option maxRecDepth 100000 in
theorem gl6_Box.calls  (r : List (S58)) (w : World) (h : gl6_Box.f  = some r) :
  Calls Tryz.prog 88 #[] w fun e w' => ∃ v0_ : Value, e = .returned (.agg #[v0_]) ∧ Kd.R k58 58 w' w.heap.size (fun _ => True) v0_ r ∧ Below w.heap.size w w' := by
 have hu42 := Tryz.underlying42
 have hu58 := Tryz.underlying58
 have HB := Asd.mk (Below.refl w.heap.size w)
 have H : (some (([(⟨1, 1⟩ : S58), (⟨2, 3⟩ : S58), (⟨3, 4⟩ : S58), (⟨1, 2⟩ : S58)] : List (S58)))) = some r := h
 clear h
 obtain ⟨y979, hy979⟩ : ∃ y_ : List (S58), y_ = (([(⟨1, 1⟩ : S58), (⟨2, 3⟩ : S58), (⟨3, 4⟩ : S58), (⟨1, 2⟩ : S58)] : List (S58))) := ⟨_, rfl⟩
 replace H : (some y979) = some r := by first | (rw [hy979]; with_reducible exact H) | (have H2_ := (Option.bind_some _ _).symm.trans H; rw [hy979]; with_reducible exact H2_) | (have H2_ := (Option.bind_some _ _).symm.trans H; with_reducible exact H2_) | with_reducible exact H | (rw [hy979]; exact H) | exact H
 have Ny979 := Asd.mk hy979
 clear hy979
 obtain rfl := Option.some.inj H
 go_enter Tryz.func88, Tryz.ntmps88
 go_wp2_with (first | ((with_reducible refine gate_dst (N := 0) rfl ?_); refine box_event ?hg (N := 0) ?hd (cs := #[.slice none 0 0]) (t := 42) ?hr ?_; (case hd => rfl); (case hg => rfl); (case hr => first | (go_simp; done) | (go_simp; rfl)); intro gb978 hg w1 hbox hb; have n0_ := Asd.mk (below_step (by repeat (first | (with_reducible first | exact HB.out | apply below_alloc | apply pbN | apply bd1) | exact HB.out)) hb); have n1_ := Asd.mk (hbox); have n2_ := Asd.mk ((by rw [hg]; exact (below_size (by repeat (first | (with_reducible first | exact HB.out | apply below_alloc | apply pbN | apply bd1) | exact HB.out))) : w.heap.size ≤ gb978)); have n3_ := Asd.mk ((by rw [hg]; exact (below_size (by repeat (first | (with_reducible first | exact HB.out | apply below_alloc | apply pbN | apply bd1) | exact HB.out))) : w.heap.size ≤ gb978)); clear HB; have HB := n0_; have BK978 := n1_; have GW978 := n2_; have GE978 := n3_; clear n0_ n1_ n2_ n3_; clear hb hbox hg) | ((with_reducible refine gate_dst (N := 5) rfl ?_); refine Kd.R_lit k58 _ 58 ?hg (N := 5) ?hd (xs := ([(⟨1, 1⟩ : S58), (⟨2, 3⟩ : S58), (⟨3, 4⟩ : S58), (⟨1, 2⟩ : S58)] : List (S58))) (inner := [.int .i64 1, .int .i64 1, .int .i64 2, .int .i64 3, .int .i64 3, .int .i64 4, .int .i64 1, .int .i64 2]) (ok := fun _ => True) (okp := fun _ => True) ?hr ?hp (fun _ hk => hk) trivial (Below.refl _ _) (Nat.le_refl _) (by simp) ?_; (case hd => rfl); (case hg => rfl); (case hr => first | (go_simp; done) | (go_simp; rfl)); (case hp => exact (Reps.c2 (show Kd.M k58 _ _ _ (⟨1, 1⟩ : S58) [.int .i64 1, .int .i64 1] from (k58_mkM _ _ _ (⟨1, 1⟩ : S58) )) (Reps.c2 (show Kd.M k58 _ _ _ (⟨2, 3⟩ : S58) [.int .i64 2, .int .i64 3] from (k58_mkM _ _ _ (⟨2, 3⟩ : S58) )) (Reps.c2 (show Kd.M k58 _ _ _ (⟨3, 4⟩ : S58) [.int .i64 3, .int .i64 4] from (k58_mkM _ _ _ (⟨3, 4⟩ : S58) )) (Reps.c2 (show Kd.M k58 _ _ _ (⟨1, 2⟩ : S58) [.int .i64 1, .int .i64 2] from (k58_mkM _ _ _ (⟨1, 2⟩ : S58) )) (Reps.none _ _)))))); intro v980 w2 ho3 hb hg_ hnew_; clear hg_ hnew_; (first | rw [← Ny979.out] at ho3 | (simp only [Int.reduceToNat] at ho3; rw [← Ny979.out] at ho3)); have n0_ := Asd.mk (Kd.R_lower ho3 (below_size (by repeat (first | (with_reducible first | exact HB.out | apply below_alloc | apply pbN | apply bd1 | refine below_set ?_ GE978.out) | exact HB.out)))); have n1_ := Asd.mk (blk_below (g := gb978) (o := .cells #[.slice none 0 0] 42 (0, 0)) (by (with_reducible repeat (first | refine blk_drewN ?_ _ | refine blk_drew ?_ | refine blk_alloc ?_ _)); exact BK978.out) hb); have n2_ := Asd.mk (below_step (by repeat (first | (with_reducible first | exact HB.out | apply below_alloc | apply pbN | apply bd1 | refine below_set ?_ GE978.out) | exact HB.out)) hb); clear BK978; clear HB; have HO981 := n0_; have BK978 := n1_; have HB := n2_; clear n0_ n1_ n2_; clear hb ho3; obtain ⟨Ao4, co4, eo4⟩ := Kd.R_slice HO981.out; subst eo4; have hcz5_0 : w2.cell? ⟨gb978, 0, none⟩ = some (.slice none 0 0) := (blk_cell BK978.out 0).trans rfl; have hfz5_0 := blk_frozen BK978.out 0))
 refine bodyPost_ret (results_cell_row rfl _ _ gb978 42 #[.slice Ao4 y979.length co4] (0, 0) _ rfl (by (with_reducible repeat (first | refine blk_drewN ?_ _ | refine blk_drew ?_ | refine blk_alloc ?_ _)); refine blk_put (cs := #[.slice none 0 0]) ?_ 0 _ rfl; (with_reducible repeat (first | refine blk_drewN ?_ _ | refine blk_drew ?_ | refine blk_alloc ?_ _)); exact BK978.out) Tryz.underlying42 rfl (by kernel_rfl)) rfl ?_
 exact ⟨_, by first | rfl | (simp [errW_none, errW_some] <;> rfl) | (simp [*, errW_none, errW_some] <;> rfl), by (with_reducible repeat (first | apply Kd.R_alloc | apply Kd.R_drewN | apply Kd.R_drew)); exact Kd.R_mono (Kd.R_far (p := ⟨gb978, 0, none⟩) (Kd.R_types HO981.out BK978.out (by decide)) (fun _ hk => hk.2) (.slice Ao4 y979.length co4)) (fun _ hk => trivial), by repeat (first | (with_reducible first | exact HB.out | apply below_alloc | apply pbN | apply bd1 | refine below_set ?_ GE978.out) | exact HB.out)⟩
def gl6_Loop.f  : Option (List Int × (List (List Int))) := some ((([1, 1, 2, 1] : List Int)), (([(([0, 0, 0, 2] : List Int))] : List (List Int))))
set_option maxHeartbeats 8000000 in
set_option maxRecDepth 100000 in
theorem gl6_Loop.calls  (r1 : List Int) (r2 : List (List Int)) (w : World) (h : gl6_Loop.f  = some (r1, r2)) :
  Calls Tryz.prog 89 #[] w fun e w' => ∃ v0_ v1_ : Value, e = .returned (.agg #[v0_, v1_]) ∧ Kd.R (Kd.int .i64) 3 w' w.heap.size (fun k_ => (w.heap.size ≤ k_)) v0_ r1 ∧ Kd.N (Kd.slice 3 (Kd.int .i64)) 22 w' w.heap.size (fun k_ => (w.heap.size ≤ k_) ∧ some k_ ≠ (v0_ : Value).ownBlock) v1_ r2 ∧ Below w.heap.size w w' := by
 have hu63 := Tryz.underlying63
 have HB := Asd.mk (Below.refl w.heap.size w)
 have H : (some ((([1, 1, 2, 1] : List Int)), (([(([0, 0, 0, 2] : List Int))] : List (List Int))))) = some (r1, r2) := h
 clear h
 obtain ⟨y983, hy983⟩ : ∃ y_ : List Int, y_ = (([1, 1, 2, 1] : List Int)) := ⟨_, rfl⟩
 replace H : (some (y983, (([(([0, 0, 0, 2] : List Int))] : List (List Int))))) = some (r1, r2) := by first | (rw [hy983]; with_reducible exact H) | (have H2_ := (Option.bind_some _ _).symm.trans H; rw [hy983]; with_reducible exact H2_) | (have H2_ := (Option.bind_some _ _).symm.trans H; with_reducible exact H2_) | with_reducible exact H | (rw [hy983]; exact H) | exact H
 have Ny983 := Asd.mk hy983
 clear hy983
 obtain ⟨y986, hy986⟩ : ∃ y_ : List Int, y_ = (([0, 0, 0, 2] : List Int)) := ⟨_, rfl⟩
 replace H : (some (y983, (([y986] : List (List Int))))) = some (r1, r2) := by first | (rw [hy986]; with_reducible exact H) | (have H2_ := (Option.bind_some _ _).symm.trans H; rw [hy986]; with_reducible exact H2_) | (have H2_ := (Option.bind_some _ _).symm.trans H; with_reducible exact H2_) | with_reducible exact H | (rw [hy986]; exact H) | exact H
 have Ny986 := Asd.mk hy986
 clear hy986
 obtain ⟨y989, hy989⟩ : ∃ y_ : List (List Int), y_ = (([y986] : List (List Int))) := ⟨_, rfl⟩
 replace H : (some (y983, y989)) = some (r1, r2) := by first | (rw [hy989]; with_reducible exact H) | (have H2_ := (Option.bind_some _ _).symm.trans H; rw [hy989]; with_reducible exact H2_) | (have H2_ := (Option.bind_some _ _).symm.trans H; with_reducible exact H2_) | with_reducible exact H | (rw [hy989]; exact H) | exact H
 have Ny989 := Asd.mk hy989
 clear hy989
 simp only [Option.some.injEq, Prod.mk.injEq] at H
 obtain ⟨rfl, rfl⟩ := H
 go_enter Tryz.func89, Tryz.ntmps89
 go_wp2_with (first | ((with_reducible refine gate_dst (N := 0) rfl ?_); refine box_event ?hg (N := 0) ?hd (cs := #[.slice none 0 0, .slice none 0 0]) (t := 63) ?hr ?_; (case hd => rfl); (case hg => rfl); (case hr => first | (go_simp; done) | (go_simp; rfl)); intro gb982 hg w1 hbox hb; have n0_ := Asd.mk (below_step (by repeat (first | (with_reducible first | exact HB.out | apply below_alloc | apply pbN | apply bd1) | exact HB.out)) hb); have n1_ := Asd.mk (hbox); have n2_ := Asd.mk ((by rw [hg]; exact (below_size (by repeat (first | (with_reducible first | exact HB.out | apply below_alloc | apply pbN | apply bd1) | exact HB.out))) : w.heap.size ≤ gb982)); have n3_ := Asd.mk ((by rw [hg]; exact (below_size (by repeat (first | (with_reducible first | exact HB.out | apply below_alloc | apply pbN | apply bd1) | exact HB.out))) : w.heap.size ≤ gb982)); clear HB; have HB := n0_; have BK982 := n1_; have GW982 := n2_; have GE982 := n3_; clear n0_ n1_ n2_ n3_; clear hb hbox hg) | ((with_reducible refine gate_dst (N := 1) rfl ?_); refine Kd.R_lit (Kd.int .i64) _ 3 ?hg (N := 1) ?hd (xs := ([1, 1, 2, 1] : List Int)) (inner := [.int .i64 1, .int .i64 1, .int .i64 2, .int .i64 1]) (ok := fun _ => True) (okp := fun _ => True) ?hr ?hp (fun _ hk => hk) trivial (Below.refl _ _) (Nat.le_refl _) (by simp) ?_; (case hd => rfl); (case hg => rfl); (case hr => first | (go_simp; done) | (go_simp; rfl)); (case hp => exact (Reps.one (show Kd.M (Kd.int .i64) _ _ _ 1 [.int .i64 1] from rfl) (Reps.one (show Kd.M (Kd.int .i64) _ _ _ 1 [.int .i64 1] from rfl) (Reps.one (show Kd.M (Kd.int .i64) _ _ _ 2 [.int .i64 2] from rfl) (Reps.one (show Kd.M (Kd.int .i64) _ _ _ 1 [.int .i64 1] from rfl) (Reps.none _ _)))))); intro v984 w2 ho3 hb hg_ hnew_; clear hg_ hnew_; (first | rw [← Ny983.out] at ho3 | (simp only [Int.reduceToNat] at ho3; rw [← Ny983.out] at ho3)); have n0_ := Asd.mk (Kd.R_lower (Kd.R_newM (M := fun k_ => (w.heap.size ≤ k_)) ho3 (below_size (by repeat (first | (with_reducible first | exact HB.out | apply below_alloc | apply pbN | apply bd1 | refine below_set ?_ GE982.out) | exact HB.out))) (fun k_ h_ => h_)) (below_size (by repeat (first | (with_reducible first | exact HB.out | apply below_alloc | apply pbN | apply bd1 | refine below_set ?_ GE982.out) | exact HB.out)))); have n1_ := Asd.mk (blk_below (g := gb982) (o := .cells #[.slice none 0 0, .slice none 0 0] 63 (0, 0)) (by (with_reducible repeat (first | refine blk_drewN ?_ _ | refine blk_drew ?_ | refine blk_alloc ?_ _)); exact BK982.out) hb); have n2_ := Asd.mk (below_step (by repeat (first | (with_reducible first | exact HB.out | apply below_alloc | apply pbN | apply bd1 | refine below_set ?_ GE982.out) | exact HB.out)) hb); clear BK982; clear HB; have HO985 := n0_; have BK982 := n1_; have HB := n2_; clear n0_ n1_ n2_; clear hb ho3) | ((with_reducible refine gate_dst (N := 2) rfl ?_); refine Kd.R_lit (Kd.int .i64) _ 3 ?hg (N := 2) ?hd (xs := ([0, 0, 0, 2] : List Int)) (inner := [.int .i64 0, .int .i64 0, .int .i64 0, .int .i64 2]) (ok := fun _ => True) (okp := fun _ => True) ?hr ?hp (fun _ hk => hk) trivial (Below.refl _ _) (Nat.le_refl _) (by simp) ?_; (case hd => rfl); (case hg => rfl); (case hr => first | (go_simp; done) | (go_simp; rfl)); (case hp => exact (Reps.one (show Kd.M (Kd.int .i64) _ _ _ 0 [.int .i64 0] from rfl) (Reps.one (show Kd.M (Kd.int .i64) _ _ _ 0 [.int .i64 0] from rfl) (Reps.one (show Kd.M (Kd.int .i64) _ _ _ 0 [.int .i64 0] from rfl) (Reps.one (show Kd.M (Kd.int .i64) _ _ _ 2 [.int .i64 2] from rfl) (Reps.none _ _)))))); intro v987 w4 ho5 hb hg_ hnew_; clear hg_ hnew_; (first | rw [← Ny986.out] at ho5 | (simp only [Int.reduceToNat] at ho5; rw [← Ny986.out] at ho5)); have n0_ := Asd.mk (Kd.R_elder' (by (with_reducible repeat (first | apply Kd.R_alloc | apply Kd.R_drewN | apply Kd.R_drew)); exact HO985.out) (Kd.R_base ho5) hb); have n1_ := Asd.mk (Kd.R_lower (Kd.R_new' (Kd.R_newM (M := fun k_ => (w.heap.size ≤ k_)) ho5 (below_size (by repeat (first | (with_reducible first | exact HB.out | apply below_alloc | apply pbN | apply bd1 | refine below_set ?_ GE982.out) | exact HB.out))) (fun k_ h_ => h_)) (Kd.R_lt (by (with_reducible repeat (first | apply Kd.R_alloc | apply Kd.R_drewN | apply Kd.R_drew)); exact HO985.out))) (below_size (by repeat (first | (with_reducible first | exact HB.out | apply below_alloc | apply pbN | apply bd1 | refine below_set ?_ GE982.out) | exact HB.out)))); have n2_ := Asd.mk (blk_below (g := gb982) (o := .cells #[.slice none 0 0, .slice none 0 0] 63 (0, 0)) (by (with_reducible repeat (first | refine blk_drewN ?_ _ | refine blk_drew ?_ | refine blk_alloc ?_ _)); exact BK982.out) hb); have n3_ := Asd.mk (below_step (by repeat (first | (with_reducible first | exact HB.out | apply below_alloc | apply pbN | apply bd1 | refine below_set ?_ GE982.out) | exact HB.out)) hb); clear HO985; clear BK982; clear HB; have HO985 := n0_; have HO988 := n1_; have BK982 := n2_; have HB := n3_; clear n0_ n1_ n2_ n3_; clear hb ho5; obtain ⟨Ao6, co6, eo6⟩ := Kd.R_slice HO988.out; subst eo6) | ((with_reducible refine gate_dst (N := 3) rfl ?_); refine Kd.N_lit (Kd.slice 3 (Kd.int .i64)) _ 22 ?hg (N' := 3) ?hd (xs := ([y986] : List (List Int))) (inner := [.slice Ao6 y986.length co6]) (ok := (fun k_ => (w.heap.size ≤ k_) ∧ some k_ ≠ (v984 : Value).ownBlock ∧ k_ ≠ gb982)) (okp := (fun k_ => (w.heap.size ≤ k_) ∧ some k_ ≠ (v984 : Value).ownBlock ∧ k_ ≠ gb982)) ?hr ?hp (fun _ hk => hk) ((show ∀ k_, w4.heap.size ≤ k_ → (fun k_ => (w.heap.size ≤ k_) ∧ some k_ ≠ (v984 : Value).ownBlock ∧ k_ ≠ gb982) k_ from fun k_ hk => ⟨(Nat.le_trans (below_size (by repeat (first | (with_reducible first | exact HB.out | apply below_alloc | apply pbN | apply bd1 | refine below_set ?_ GE982.out) | exact HB.out))) hk), Kd.fresh' (Kd.R_lt (by (with_reducible repeat (first | apply Kd.R_alloc | apply Kd.R_drewN | apply Kd.R_drew)); exact HO985.out)) k_ hk, Kd.freshB (g := gb982) (o := .cells #[.slice none 0 0, .slice none 0 0] 63 (0, 0)) (by (with_reducible repeat (first | refine blk_drewN ?_ _ | refine blk_drew ?_ | refine blk_alloc ?_ _)); exact BK982.out) k_ hk⟩) _ (Nat.le_refl _)) (Below.refl _ _) (Nat.le_refl _) (by simp) ?_; (case hd => rfl); (case hg => rfl); (case hr => first | (go_simp; done) | (go_simp; rfl)); (case hp => exact (Reps.one (show Kd.FK (Kd.slice 3 (Kd.int .i64)) _ _ y986 [.slice Ao6 y986.length co6] from (Kd.FK_slice_mk (Kd.R_reads' (Kd.R_mono (ok' := (fun k_ => (w.heap.size ≤ k_) ∧ some k_ ≠ (v984 : Value).ownBlock ∧ k_ ≠ gb982)) (Kd.R_types (HO988.out) BK982.out (by decide)) (fun k_ hk => ⟨hk.1.1.1, ⟨hk.1.2, hk.2⟩⟩))).2.1 (Kd.R_F (Kd.R_mono (ok' := (fun k_ => (w.heap.size ≤ k_) ∧ some k_ ≠ (v984 : Value).ownBlock ∧ k_ ≠ gb982)) (Kd.R_types (HO988.out) BK982.out (by decide)) (fun k_ hk => ⟨hk.1.1.1, ⟨hk.1.2, hk.2⟩⟩))))) (Reps.none _ _))); intro v990 w7 ho8 hb hg_ hnew_; clear hg_ hnew_; (first | rw [← Ny989.out] at ho8 | (simp only [Int.reduceToNat] at ho8; rw [← Ny989.out] at ho8)); have n0_ := Asd.mk (Kd.R_below (by (with_reducible repeat (first | apply Kd.R_alloc | apply Kd.R_drewN | apply Kd.R_drew)); exact HO985.out) hb); have n1_ := Asd.mk (Kd.N_lower ho8 (below_size (by repeat (first | (with_reducible first | exact HB.out | apply below_alloc | apply pbN | apply bd1 | refine below_set ?_ GE982.out) | exact HB.out)))); have n2_ := Asd.mk (blk_below (g := gb982) (o := .cells #[.slice none 0 0, .slice none 0 0] 63 (0, 0)) (by (with_reducible repeat (first | refine blk_drewN ?_ _ | refine blk_drew ?_ | refine blk_alloc ?_ _)); exact BK982.out) hb); have n3_ := Asd.mk (below_step (by repeat (first | (with_reducible first | exact HB.out | apply below_alloc | apply pbN | apply bd1 | refine below_set ?_ GE982.out) | exact HB.out)) hb); clear HO985; clear BK982; clear HB; clear HO988; have HO985 := n0_; have HO991 := n1_; have BK982 := n2_; have HB := n3_; clear n0_ n1_ n2_ n3_; clear hb ho8; obtain ⟨Ao9, co9, eo9⟩ := Kd.N_slice HO991.out; subst eo9; obtain ⟨Ao10, co10, eo10⟩ := Kd.R_slice HO985.out; subst eo10; have hcz11_0 : w7.cell? ⟨gb982, 0, none⟩ = some (.slice none 0 0) := (blk_cell BK982.out 0).trans rfl; have hcz11_1 : w7.cell? ⟨gb982, 1, none⟩ = some (.slice none 0 0) := (blk_cell BK982.out 1).trans rfl; have hfz11_0 := blk_frozen BK982.out 0; have hfz11_1 := blk_frozen BK982.out 1))
 refine bodyPost_ret (results_cell_row rfl _ _ gb982 63 #[.slice Ao10 y983.length co10, .slice Ao9 y989.length co9] (0, 0) _ rfl (by (with_reducible repeat (first | refine blk_drewN ?_ _ | refine blk_drew ?_ | refine blk_alloc ?_ _)); refine blk_put (cs := #[.slice Ao10 y983.length co10, .slice none 0 0]) ?_ 1 _ rfl; (with_reducible repeat (first | refine blk_drewN ?_ _ | refine blk_drew ?_ | refine blk_alloc ?_ _)); refine blk_put (cs := #[.slice none 0 0, .slice none 0 0]) ?_ 0 _ rfl; (with_reducible repeat (first | refine blk_drewN ?_ _ | refine blk_drew ?_ | refine blk_alloc ?_ _)); exact BK982.out) Tryz.underlying63 rfl (by kernel_rfl)) rfl ?_
 exact ⟨_, _, by first | rfl | (simp [errW_none, errW_some] <;> rfl) | (simp [*, errW_none, errW_some] <;> rfl), by (with_reducible repeat (first | apply Kd.R_alloc | apply Kd.R_drewN | apply Kd.R_drew)); exact Kd.R_mono (Kd.R_far (p := ⟨gb982, 1, none⟩) (Kd.R_far (p := ⟨gb982, 0, none⟩) (Kd.R_types HO985.out BK982.out (by decide)) (fun _ hk => hk.2) (.slice Ao10 y983.length co10)) (fun _ hk => hk.2) (.slice Ao9 y989.length co9)) (fun _ hk => hk.1.1.1), by (with_reducible repeat (first | apply Kd.N_alloc | apply Kd.N_drewN | apply Kd.N_drew)); exact Kd.N_mono (Kd.N_far (p := ⟨gb982, 1, none⟩) (Kd.N_far (p := ⟨gb982, 0, none⟩) (Kd.N_mono HO991.out (fun k_ hk => (⟨hk, hk.2.2⟩ : _ ∧ k_ ≠ gb982))) (fun _ hk => hk.2) (.slice Ao10 y983.length co10)) (fun _ hk => hk.2) (.slice Ao9 y989.length co9)) (fun _ hk => ⟨hk.1.1, hk.1.2.1⟩), by repeat (first | (with_reducible first | exact HB.out | apply below_alloc | apply pbN | apply bd1 | refine below_set ?_ GE982.out) | exact HB.out)⟩
def gl6_Rules.f  : Option (Int × Int × Int × Int) := some (2, 1, 2, 50)
set_option maxHeartbeats 8000000 in
set_option maxRecDepth 100000 in
theorem gl6_Rules.calls  (r1 : Int) (r2 : Int) (r3 : Int) (r4 : Int) (w : World) (h : gl6_Rules.f  = some (r1, r2, r3, r4)) :
  Calls Tryz.prog 87 #[] w fun e w' => e = .returned (.agg #[.int .i64 r1, .int .i64 r2, .int .i64 r3, .int .i64 r4]) ∧ Below w.heap.size w w' := by
 have hu77 := Tryz.underlying77
 have HB := Asd.mk (Below.refl w.heap.size w)
 have H : (some (2, 1, 2, 50)) = some (r1, r2, r3, r4) := h
 clear h
 simp only [Option.some.injEq, Prod.mk.injEq] at H
 obtain ⟨rfl, rfl, rfl, rfl⟩ := H
 go_enter Tryz.func87, Tryz.ntmps87
 go_wp2_with (first | ((with_reducible refine gate_dst (N := 0) rfl ?_); refine box_event ?hg (N := 0) ?hd (cs := #[.int .i64 0, .int .i64 0, .int .i64 0, .int .i64 0]) (t := 77) ?hr ?_; (case hd => rfl); (case hg => rfl); (case hr => first | (go_simp; done) | (go_simp; rfl)); intro gb992 hg w1 hbox hb; have n0_ := Asd.mk (below_step (by repeat (first | (with_reducible first | exact HB.out | apply below_alloc | apply pbN | apply bd1) | exact HB.out)) hb); have n1_ := Asd.mk (hbox); have n2_ := Asd.mk ((by rw [hg]; exact (below_size (by repeat (first | (with_reducible first | exact HB.out | apply below_alloc | apply pbN | apply bd1) | exact HB.out))) : w.heap.size ≤ gb992)); have n3_ := Asd.mk ((by rw [hg]; exact (below_size (by repeat (first | (with_reducible first | exact HB.out | apply below_alloc | apply pbN | apply bd1) | exact HB.out))) : w.heap.size ≤ gb992)); clear HB; have HB := n0_; have BK992 := n1_; have GW992 := n2_; have GE992 := n3_; clear n0_ n1_ n2_ n3_; clear hb hbox hg; have hcz2_0 : w1.cell? ⟨gb992, 0, none⟩ = some (.int .i64 0) := (blk_cell BK992.out 0).trans rfl; have hcz2_1 : w1.cell? ⟨gb992, 1, none⟩ = some (.int .i64 0) := (blk_cell BK992.out 1).trans rfl; have hcz2_2 : w1.cell? ⟨gb992, 2, none⟩ = some (.int .i64 0) := (blk_cell BK992.out 2).trans rfl; have hcz2_3 : w1.cell? ⟨gb992, 3, none⟩ = some (.int .i64 0) := (blk_cell BK992.out 3).trans rfl; have hfz2_0 := blk_frozen BK992.out 0; have hfz2_1 := blk_frozen BK992.out 1; have hfz2_2 := blk_frozen BK992.out 2; have hfz2_3 := blk_frozen BK992.out 3))
 refine bodyPost_ret (results_cell_row rfl _ _ gb992 77 #[.int .i64 2, .int .i64 1, .int .i64 2, .int .i64 50] (0, 0) _ rfl (by (with_reducible repeat (first | refine blk_drewN ?_ _ | refine blk_drew ?_ | refine blk_alloc ?_ _)); refine blk_put (cs := #[.int .i64 2, .int .i64 1, .int .i64 2, .int .i64 0]) ?_ 3 _ rfl; (with_reducible repeat (first | refine blk_drewN ?_ _ | refine blk_drew ?_ | refine blk_alloc ?_ _)); refine blk_put (cs := #[.int .i64 2, .int .i64 1, .int .i64 0, .int .i64 0]) ?_ 2 _ rfl; (with_reducible repeat (first | refine blk_drewN ?_ _ | refine blk_drew ?_ | refine blk_alloc ?_ _)); refine blk_put (cs := #[.int .i64 2, .int .i64 0, .int .i64 0, .int .i64 0]) ?_ 1 _ rfl; (with_reducible repeat (first | refine blk_drewN ?_ _ | refine blk_drew ?_ | refine blk_alloc ?_ _)); refine blk_put (cs := #[.int .i64 0, .int .i64 0, .int .i64 0, .int .i64 0]) ?_ 0 _ rfl; (with_reducible repeat (first | refine blk_drewN ?_ _ | refine blk_drew ?_ | refine blk_alloc ?_ _)); exact BK992.out) Tryz.underlying77 rfl (by kernel_rfl)) rfl ?_
 exact ⟨by first | rfl | (simp [errW_none, errW_some] <;> rfl) | (simp [*, errW_none, errW_some] <;> rfl), by repeat (first | (with_reducible first | exact HB.out | apply below_alloc | apply pbN | apply bd1 | refine below_set ?_ GE992.out) | exact HB.out)⟩
end Go.Proofs.YtmpondcccbmlhaaGreat.Q
