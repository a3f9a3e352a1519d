/- A part of the claim H: the texts ExW, Q40, without what the claim does not lean on. -/
import Derived.Test.YtmpondcccbmlhaaGreatzH19
import Derived.Test.YtmpondcccbmlhaaGreatzH22
import Derived.Test.YtmpondcccbmlhaaGreatzH35
import Derived.Test.YtmpondcccbmlhaaGreatzH36
import Derived.Test.YtmpondcccbmlhaaGreatzH38
import Derived.Test.YtmpondcccbmlhaaGreatzH39
import Derived.Test.YtmpondcccbmlhaaGreatzH40
namespace Go.Proofs.YtmpondcccbmlhaaGreat.Ext
open Go.RowKit Go.Shelf Go.Proofs.YtmpondcccbmlhaaGreatW.PrintWords Go.Proofs.YtmpondcccbmlhaaGreatW.PrintLast Go.Proofs.YtmpondcccbmlhaaGreatW.PrintMore
open Q (S58 z58 k58)
theorem stab4 (a b c d : Int) (ha : 0 < a) : stab [a, b, c, d] = decide (0 < b ∧ 0 < d ∧ 0 < b * c - a * d) := by
 unfold stab
 rw [decide_eq_decide]; exact hur4 a b c d ha
theorem K0_big : 60000000000000010 < K0 := by unfold K0; omega
theorem ok_of {p : List Int} (h2 : 2 ≤ p.length) (h5 : p.length ≤ 5) (hb : ∀ i, i < p.length → (ent p i).natAbs ≤ 1000) : PolyOk p :=
 ⟨h2, h5, fun i => by
  by_cases h : i < p.length
  ·exact hb i h
  ·rw [ent_over (by omega)]; decide⟩
theorem ex_stable (a b c d : Int) (ha : 0 < a) (h1 : a ≤ 10) (h2 : b.natAbs ≤ 10) (h3 : c.natAbs ≤ 10) (h4 : d.natAbs ≤ 10) : Q.gov_isStable.f K0 [a, b, c, d] = some (decide (0 < b ∧ 0 < d ∧ 0 < b * c - a * d)) := by
 rw [stable_eval (ok_of (by simp) (by simp) (fun i hi => ?_)) K0 K0_big, stab4 a b c d ha]
 simp at hi
 obtain rfl | rfl | rfl | rfl : i = 0 ∨ i = 1 ∨ i = 2 ∨ i = 3 := by omega
 ·show a.natAbs ≤ 1000; omega
 ·show b.natAbs ≤ 1000; omega
 ·show c.natAbs ≤ 1000; omega
 ·show d.natAbs ≤ 1000; omega
theorem ex_wanted : Q.gov_WantedFor.f 10 2 1 2 50 7 = some (48, 0) := by decide +kernel
theorem ex_quads : gov_QuadrantsOf.f [1, 2, 3, 1] [0, 1, 2, 3] = some ([0, 1, 2, 2], 0) := by decide +kernel
theorem ex_robust : gov_IsRobust.f [⟨1, 1⟩, ⟨2, 3⟩, ⟨3, 4⟩, ⟨1, 2⟩] = some (true, 0) := by
 unfold gov_IsRobust.f
 rw [if_pos (by decide +kernel)]
 have e : cornersOf [⟨1, 1⟩, ⟨2, 3⟩, ⟨3, 4⟩, ⟨1, 2⟩] = [[1, 3, 3, 1], [1, 2, 4, 2], [1, 2, 3, 2], [1, 3, 4, 1]] := by decide +kernel
 rw [e]
 simp only [allStable]
 rw [ex_stable 1 3 3 1 (by omega) (by omega) (by decide) (by decide) (by decide), ex_stable 1 2 4 2 (by omega) (by omega) (by decide) (by decide) (by decide), ex_stable 1 2 3 2 (by omega) (by omega) (by decide) (by decide) (by decide), ex_stable 1 3 4 1 (by omega) (by omega) (by decide) (by decide) (by decide)]
 decide
theorem ex_unstable : gov_UnstableSet.f [1, 1, 2, 1] [[0, 0, 0, 2]] = some ([0], 0) := by
 unfold gov_UnstableSet.f
 rw [if_pos (by decide +kernel), show setsTo [[(0 : Int), 0, 0, 2]].length ([[(0 : Int), 0, 0, 2]].length + 1) = [[], [0]] from by decide +kernel]
 simp only [firstUnstable]
 rw [show sumTo [1, 1, 2, 1] [[0, 0, 0, 2]] [] ([] : List Int).length = [1, 1, 2, 1] from rfl, show sumTo [1, 1, 2, 1] [[0, 0, 0, 2]] [0] [(0 : Int)].length = [1, 1, 2, 3] from by decide +kernel]
 rw [ex_stable 1 1 2 1 (by omega) (by omega) (by decide) (by decide) (by decide), ex_stable 1 1 2 3 (by omega) (by omega) (by decide) (by decide) (by decide)]
 decide
def exV (i : Nat) : Int := if i = 0 then 100 else if i = 1 then 103 else 200
def exM (_ : Nat) : Bool := false
theorem srt3 (a b c : Int) : (srt [a, b, c]).getD 1 0 = max (min a b) (min (max a b) c) := by
 unfold srt
 simp [List.mergeSort, List.MergeSort.Internal.splitInTwo, List.merge]
 by_cases h1 : a ≤ b <;> by_cases h2 : a ≤ c <;> by_cases h3 : b ≤ c <;> simp [h1, h2, h3] <;> omega
theorem ex_vote : (voteOf exV exM 5).1 = 103 ∧ (voteOf exV exM 5).2.1 0 = false ∧ (voteOf exV exM 5).2.1 1 = false ∧ (voteOf exV exM 5).2.1 2 = true ∧ (voteOf exV exM 5).2.2 = 0 := by
 have e1 : voteErr exV exM 5 = 0 := by decide +kernel
 have e2 : thereTo exV exM 3 = [100, 103, 200] := by decide +kernel
 have e3 : (srt [100, 103, 200]).getD 1 0 = 103 := by rw [srt3]; decide
 have e4 : ¬ 1 < oddTo exV 103 5 3 := by decide +kernel
 unfold voteOf
 rw [if_pos e1, e2, if_neg (by decide), e3, if_neg e4]
 decide +kernel
theorem ex_ints4 : Q.gba_Ints.f 10 [0, 1, 2, 2] [0, 1, 2, 2] = some true := by decide +kernel
theorem ex_ints1 : Q.gba_Ints.f 10 [0] [0] = some true := by decide +kernel
set_option maxHeartbeats 8000000 in
set_option maxRecDepth 100000 in
theorem awake_walk (w : World) : Calls Tryz.prog 16 #[] w fun e w' => e = .returned (.bool true) ∧ Below w.heap.size w w' := by
 go_enter Tryz.func16, Tryz.ntmps16
 go_wp2_with fail
 refine (Q.gl6_Rules.calls 2 1 2 50 _ rfl).mono ?_
 rintro e w1 ⟨rfl, hb1⟩
 have HB1 := Lib.hid hb1
 clear hb1
 go_wp2_with fail
 refine (Q.gov_WantedFor.calls 10 2 1 2 50 7 48 0 _ ex_wanted).mono ?_
 rintro e w2 ⟨rfl, hb2⟩
 have HB2 := Lib.hid (bl_next HB1.out hb2)
 clear hb2
 go_upto_region 2 with fail
 go_wp2_with fail
 have hl2 : Below w2.heap.size w2 ((w2.alloc (Obj.cells #[Value.int IntKind.i64 1, Value.int IntKind.i64 2, Value.int IntKind.i64 3, Value.int IntKind.i64 1] 3)).alloc (Obj.cells #[Value.int IntKind.i64 0, Value.int IntKind.i64 1, Value.int IntKind.i64 2, Value.int IntKind.i64 3] 3)) := bl_alloc (bl_alloc (Below.refl _ _) _) _
 have hC1 := Kd.C_alloc (C_new w2 3 [1, 2, 3, 1] (by simp)) (Obj.cells #[Value.int IntKind.i64 0, Value.int IntKind.i64 1, Value.int IntKind.i64 2, Value.int IntKind.i64 3] 3)
 have hC2 := C_new (w2.alloc (Obj.cells #[Value.int IntKind.i64 1, Value.int IntKind.i64 2, Value.int IntKind.i64 3, Value.int IntKind.i64 1] 3)) 3 [0, 1, 2, 3] (by simp)
 rw [World.size_alloc] at hC2
 refine (gov_QuadrantsOf.calls _ 4 [1, 2, 3, 1] _ 4 [0, 1, 2, 3] [0, 1, 2, 2] 0 _ hC1 (by simp) hC2 (by simp) ex_quads).mono ?_
 rintro e w3 ⟨v3, rfl, hR3, hb3⟩
 obtain ⟨A3, c3, rfl, hl3, hC3⟩ := Kd.R_reads hR3
 have HC3 := Lib.hid hC3
 have HB3 := Lib.hid (bl_next (bl_next HB2.out hl2) hb3)
 clear hl2 hC1 hC2 hR3 hC3 hb3
 go_wp2_with fail
 refine (Q.gl6_Box.calls [⟨1, 1⟩, ⟨2, 3⟩, ⟨3, 4⟩, ⟨1, 2⟩] _ rfl).mono ?_
 rintro e w4 ⟨v4, rfl, hR4, hb4⟩
 obtain ⟨A4, c4, rfl, hl4, hC4⟩ := Kd.R_reads hR4
 have HC4 := Lib.hid hC4
 have HB4 := Lib.hid (bl_next HB3.out hb4)
 have HC3 := Lib.hid (Kd.C_below HC3.out hb4)
 clear hR4 hC4 hb4
 go_wp2_with fail
 refine (gov_IsRobust.calls A4 c4 [⟨1, 1⟩, ⟨2, 3⟩, ⟨3, 4⟩, ⟨1, 2⟩] true 0 _ HC4.out hl4 ex_robust).mono ?_
 rintro e w5 ⟨rfl, hb5⟩
 have HB5 := Lib.hid (bl_next HB4.out hb5)
 have HC3 := Lib.hid (Kd.C_below HC3.out hb5)
 clear hb5
 go_wp2_with fail
 refine (Q.gl6_Loop.calls [1, 1, 2, 1] [[0, 0, 0, 2]] _ rfl).mono ?_
 rintro e w6 ⟨v6, u6, rfl, hR6, hN6, hb6⟩
 obtain ⟨A6, c6, rfl, hl6, hC6⟩ := Kd.R_reads hR6
 obtain ⟨A7, c7, rfl, hl7, hC7⟩ := Kd.N_reads hN6
 have HC6 := Lib.hid hC6
 have HC7 := Lib.hid hC7
 have HB6 := Lib.hid (bl_next HB5.out hb6)
 have HC3 := Lib.hid (Kd.C_below HC3.out hb6)
 clear hR6 hN6 hC6 hC7 hb6
 go_wp2_with fail
 refine (gov_UnstableSet.calls A6 c6 [1, 1, 2, 1] A7 c7 [[0, 0, 0, 2]] [0] 0 _ HC6.out hl6 HC7.out hl7 ex_unstable).mono ?_
 rintro e w7 ⟨v7, rfl, hR7, hb7⟩
 obtain ⟨A8, c8, rfl, hl8, hC8⟩ := Kd.R_reads hR7
 have HC8 := Lib.hid hC8
 have HB7 := Lib.hid (bl_next HB6.out hb7)
 have HC3 := Lib.hid (Kd.C_below HC3.out hb7)
 clear hR7 hC8 hb7
 go_wp2_with fail
 have hv := gov_VoteOf.calls exV exM 5 w7
 obtain ⟨x0, x1, x2, x3, x4⟩ := ex_vote
 rw [x0, x1, x2, x3, x4] at hv
 refine hv.mono ?_
 clear hv x0 x1 x2 x3 x4
 rintro e w8 ⟨rfl, hb8⟩
 have HB8 := Lib.hid (bl_next HB7.out hb8)
 have HC3 := Lib.hid (Kd.C_below HC3.out hb8)
 have HC8 := Lib.hid (Kd.C_below HC8.out hb8)
 clear hb8
 go_wp2_with fail
 have hnew := blk_new w8 (Obj.cells #[Value.int IntKind.i64 103, Value.bool false, Value.bool false, Value.bool true] 112)
 have hb9 : Below w8.heap.size w8 (w8.alloc (Obj.cells #[Value.int IntKind.i64 103, Value.bool false, Value.bool false, Value.bool true] 112)) := bl_alloc (Below.refl _ _) _
 have hC4 := C_new (w8.alloc (Obj.cells #[Value.int IntKind.i64 103, Value.bool false, Value.bool false, Value.bool true] 112)) 3 [0, 1, 2, 2] (by simp)
 rw [World.size_alloc] at hC4
 have hb10 : Below w8.heap.size w8 ((w8.alloc (Obj.cells #[Value.int IntKind.i64 103, Value.bool false, Value.bool false, Value.bool true] 112)).alloc (Obj.cells #[Value.int IntKind.i64 0, Value.int IntKind.i64 1, Value.int IntKind.i64 2, Value.int IntKind.i64 2] 3)) := bl_alloc hb9 _
 refine (Q.gba_Ints.calls 10 A3 c3 [0, 1, 2, 2] _ 4 [0, 1, 2, 2] true _ (Kd.C_below HC3.out hb10) hl3 hC4 (by simp) ex_ints4).mono ?_
 rintro e w9 ⟨rfl, hd9⟩
 have hb11 := bl_drawn hb10 hd9
 have hn9 := (bl_drawn (bl_alloc (Below.refl _ (w8.alloc (Obj.cells #[Value.int IntKind.i64 103, Value.bool false, Value.bool false, Value.bool true] 112))) _) hd9).block _ (Array.getElem?_eq_some_iff.1 hnew).1
 have hnew9 := hn9.trans hnew
 have HB9 := Lib.hid (bl_next HB8.out hb11)
 have HC8 := Lib.hid (Kd.C_below HC8.out hb11)
 have HN9 := Lib.hid hnew9
 have x0 := (blk_cell hnew9 0).trans (rfl : _ = some (Value.int .i64 103))
 have x1 := (blk_cell hnew9 1).trans (rfl : _ = some (Value.bool false))
 have x2 := (blk_cell hnew9 2).trans (rfl : _ = some (Value.bool false))
 have x3 := (blk_cell hnew9 3).trans (rfl : _ = some (Value.bool true))
 clear hnew hb9 hC4 hb10 hd9 hb11 hn9 hnew9 HC3
 have hlt8 : w8.heap.size < w9.heap.size := block_lt_of_cell x0
 generalize w8.heap.size = b8 at *
 go_wp2_with fail
 have hC5 := C_new w9 3 [0] (by simp)
 have hb12 : Below w9.heap.size w9 (w9.alloc (Obj.cells #[Value.int IntKind.i64 0] 3)) := bl_alloc (Below.refl _ _) _
 refine (Q.gba_Ints.calls 10 A8 c8 [0] _ 1 [0] true _ (Kd.C_below HC8.out hb12) hl8 hC5 (by simp) ex_ints1).mono ?_
 rintro e w10 ⟨rfl, hd10⟩
 have hb13 := bl_drawn hb12 hd10
 have HB10 := Lib.hid (bl_next HB9.out hb13)
 have x0 := pw_cell_below hb13 x0
 have x1 := pw_cell_below hb13 x1
 have x2 := pw_cell_below hb13 x2
 have x3 := pw_cell_below hb13 x3
 clear hC5 hb12 hd10 hb13 HC8 hlt8
 have heq := fun w => eq_odd 9997 w false false true false false true
 simp only [Nat.reduceAdd] at heq
 go_wp2_with fail
 go_ret
 exact ⟨rfl, HB10.out⟩
def gl6_awake.f : Option Bool := some true
theorem gl6_awake.calls (r : Bool) (w : World) (h : gl6_awake.f = some r) : Calls Tryz.prog 16 #[] w fun e w' => e = .returned (.bool r) ∧ Below w.heap.size w w' := by
 obtain rfl := Option.some.inj h
 exact awake_walk w
end Go.Proofs.YtmpondcccbmlhaaGreat.Ext
namespace Go.Proofs.YtmpondcccbmlhaaGreat.Q
open Go.RowKit Go.Proofs.YtmpondcccbmlhaaGreatW.PrintWords Go.Proofs.YtmpondcccbmlhaaGreatW.PrintLast Go.Proofs.YtmpondcccbmlhaaGreatW.PrintMore
attribute [local go_sem] max2_int min2_int max_two min_two max_three min_three max_four min_four   
set_option linter.unusedVariables false
set_option linter.unusedSimpArgs false
open Go.Proofs.YtmpondcccbmlhaaGreat.Ext
mutual
def gl6_GovernorShifts.j2 : Nat → List Int → Option (Bool)
 | 0, _ => none
 | k + 1, x2 => if (x2.length : Int) = 0 then (gl6_GovernorShifts.j3 k x2 true) else (gl6_GovernorShifts.j3 k x2 (decide ((x2.length : Int) > 3)))
def gl6_GovernorShifts.j3 : Nat → List Int → Bool → Option (Bool)
 | 0, _, _ => none
 | k + 1, x2, x99 => if x99 = true then (some true) else (gl6_GovernorShifts.l1 k x2 (([1] : List Int)) (-8) 0)
def gl6_GovernorShifts.l1 : Nat → List Int → List Int → Int → Int → Option (Bool)
 | 0, _, _, _, _ => none
 | k + 1, x2, x13, x14, x15 => if x15 < (x2.length : Int) then (if 0 ≤ x15 then ((gba_Within.f (rd x2 x15) (-8) (-1)).bind fun t816 => (if t816 = true then ((gba_CopyInts.f x13).bind fun t818 => (if t818.length < 17592186044416 then (gl6_GovernorShifts.l2 k x2 x13 (mx x14 (rd x2 x15)) x15 (t818 ++ [0]) 0) else (none))) else (some true))) else (none)) else ((gba_CopyInts.f x13).bind fun t808 => ((gov_MarginOf.f k t808).bind fun bt811 => ((gov_IsStable.f k x13).bind fun bt813 => (if bt811.2 = 0 then (if bt813.2 = 0 then (if bt813.1 = true then (some (bt811.1 == (wrap64 ((wrap64 (-x14)) - 1)))) else (some false)) else (some false)) else (some false)))))
def gl6_GovernorShifts.l2 : Nat → List Int → List Int → Int → Int → List Int → Int → Option (Bool)
 | 0, _, _, _, _, _, _ => none
 | k + 1, x2, x13, x14, x15, x16, x17 => if x17 < (x13.length : Int) then (if 0 ≤ (wrap64 (x17 + 1)) then (if (wrap64 (x17 + 1)) < (x16.length : Int) then (if 0 ≤ x15 then (if x15 < (x2.length : Int) then (if 0 ≤ x17 then (gl6_GovernorShifts.l2 k x2 x13 x14 x15 (x16.set ((wrap64 (x17 + 1)) : Int).toNat (wrap64 ((rd x16 (wrap64 (x17 + 1))) - (wrap64 ((rd x2 x15) * (rd x13 x17)))))) (wrap64 (x17 + 1))) else (none)) else (none)) else (none)) else (none)) else (none)) else (gl6_GovernorShifts.l1 k x2 x16 x14 (wrap64 (x15 + 1)))
def gl6_GovernorShifts.j0 : Nat → List Int → Int → List Int → List Int → Bool → Option (Bool)
 | 0, _, _, _, _, _ => none
 | k + 1, x0, x1, x2, x7, x45 => if x45 = true then (some false) else (gl6_GovernorShifts.l0 k x0 x1 x2 x7 0 0)
def gl6_GovernorShifts.l0 : Nat → List Int → Int → List Int → List Int → Int → Int → Option (Bool)
 | 0, _, _, _, _, _, _ => none
 | k + 1, x0, x1, x2, x7, x9, x10 => if x10 < (x0.length : Int) then (if 0 ≤ x10 then (gl6_GovernorShifts.l0 k x0 x1 x2 x7 (wrap64 ((wrap64 (x9 * x1)) + (rd x0 x10))) (wrap64 (x10 + 1))) else (none)) else ((gba_CopyInts.f x7).bind fun t796 => ((gov_Shifted.f t796 (wrap64 (-x1))).bind fun bt799 => (if bt799.2 = 0 then ((gba_Ints.f k bt799.1 x0).bind fun t803 => (if t803 = true then (if 0 ≤ (wrap64 ((x7.length : Int) - 1)) then (if (wrap64 ((x7.length : Int) - 1)) < (x7.length : Int) then (if (rd x7 (wrap64 ((x7.length : Int) - 1))) = x9 then (gl6_GovernorShifts.j2 k x2) else (some false)) else (none)) else (none)) else (some false))) else (some false))))
end
def gl6_GovernorShifts.f (k : Nat) (l0 : List Int) (a1 : Int) (l2 : List Int) : Option (Bool) := (gl6_awake.f).bind fun t785 => (if t785 = true then ((gr6_PolynomialErr.f k l0).bind fun t786 => (if t786 = 0 then ((gba_CopyInts.f l0).bind fun t787 => ((gov_Shifted.f t787 a1).bind fun bt790 => (if bt790.2 = 0 then ((gr6_PolynomialErr.f k bt790.1).bind fun t794 => (if t794 = 0 then (gl6_GovernorShifts.j0 k l0 a1 l2 bt790.1 ((bt790.1.length : Int) != (l0.length : Int))) else (gl6_GovernorShifts.j0 k l0 a1 l2 bt790.1 true))) else (if bt790.2 = 2 then (gl6_GovernorShifts.j2 k l2) else (if bt790.2 = 8 then (gl6_GovernorShifts.j2 k l2) else (some false)))))) else (some true))) else (some false))
def gl6_GovernorShifts.T32 : Bool × List (List Nat × List Nat) := (true, [([], []), ([], []), ([1], [1]), ([], []), ([], []), ([4], [4]), ([3, 5], [3, 5]), ([6], [6]), ([], []), ([], []), ([8, 9], [8, 9]), ([10], [10]), ([], []), ([], []), ([12, 13], [12, 13]), ([14], [14]), ([11, 15], [11, 15]), ([7, 16], [7, 16]), ([0, 2, 0, 1, 2, 3, 4, 5, 6, 7, 8, 9, 10, 11, 12, 13, 14, 15, 16, 17], [0, 2]), ([18, 17, 0, 1, 2, 3, 4, 5, 6, 7, 8, 9, 10, 11, 12, 13, 14, 15, 16, 17], [17, 18])])
def gl6_GovernorShifts.B32 : List Nat := [0, 0, 2, 0, 0, 16, 56, 120, 0, 0, 768, 1792, 0, 0, 12288, 28672, 65280, 131064, 262143, 524287]
theorem gl6_GovernorShifts.tab32 : rtab .any (opsOf Tryz.f15 32) = gl6_GovernorShifts.T32 := by kernel_rfl
theorem gl6_GovernorShifts.bits32 : waitsOk gl6_GovernorShifts.T32.2 gl6_GovernorShifts.B32 = true := by kernel_rfl
set_option maxHeartbeats 8000000 in
set_option maxRecDepth 100000 in
theorem gl6_GovernorShifts.calls (k : Nat) (A0 : Option Addr) (c0 : Nat) (l0 : List Int) (a1 : Int) (A2 : Option Addr) (c2 : Nat) (l2 : List Int) (r : Bool) (w : World) (hr0 : Kd.C (Kd.int .i64) w A0 l0.length l0) (hc0 : l0.length ≤ c0) (hr2 : Kd.C (Kd.int .i64) w A2 l2.length l2) (hc2 : l2.length ≤ c2) (h : gl6_GovernorShifts.f k l0 a1 l2 = some r) :
  Calls Tryz.prog 15 #[.slice A0 l0.length c0, .int .i64 a1, .slice A2 l2.length c2] w fun e w' => e = .returned (.bool r) ∧ Below w.heap.size w w' := by
 have HR0 := Asd.mk hr0
 have HC0 := Asd.mk hc0
 clear hr0 hc0
 have HR2 := Asd.mk hr2
 have HC2 := Asd.mk hc2
 clear hr2 hc2
 have HB := Asd.mk (Below.refl w.heap.size w)
 have H : ((gl6_awake.f).bind fun t785 => (if t785 = true then ((gr6_PolynomialErr.f k l0).bind fun t786 => (if t786 = 0 then ((gba_CopyInts.f l0).bind fun t787 => ((gov_Shifted.f t787 a1).bind fun bt790 => (if bt790.2 = 0 then ((gr6_PolynomialErr.f k bt790.1).bind fun t794 => (if t794 = 0 then (gl6_GovernorShifts.j0 k l0 a1 l2 bt790.1 ((bt790.1.length : Int) != (l0.length : Int))) else (gl6_GovernorShifts.j0 k l0 a1 l2 bt790.1 true))) else (if bt790.2 = 2 then (gl6_GovernorShifts.j2 k l2) else (if bt790.2 = 8 then (gl6_GovernorShifts.j2 k l2) else (some false)))))) else (some true))) else (some false))) = some r := h
 clear h
 replace H := Option.bind_eq_some_iff.mp H
 obtain ⟨t785, A40, H⟩ := H
 replace H : (if t785 = true then ((gr6_PolynomialErr.f k l0).bind fun t786 => (if t786 = 0 then ((gba_CopyInts.f l0).bind fun t787 => ((gov_Shifted.f t787 a1).bind fun bt790 => (if bt790.2 = 0 then ((gr6_PolynomialErr.f k bt790.1).bind fun t794 => (if t794 = 0 then (gl6_GovernorShifts.j0 k l0 a1 l2 bt790.1 ((bt790.1.length : Int) != (l0.length : Int))) else (gl6_GovernorShifts.j0 k l0 a1 l2 bt790.1 true))) else (if bt790.2 = 2 then (gl6_GovernorShifts.j2 k l2) else (if bt790.2 = 8 then (gl6_GovernorShifts.j2 k l2) else (some false)))))) else (some true))) else (some false)) = some r := H
 have A4 := Asd.mk A40
 clear A40
 by_cases c5 : t785 = true
 ·subst c5
  have H1 : ((gr6_PolynomialErr.f k l0).bind fun t786 => (if t786 = 0 then ((gba_CopyInts.f l0).bind fun t787 => ((gov_Shifted.f t787 a1).bind fun bt790 => (if bt790.2 = 0 then ((gr6_PolynomialErr.f k bt790.1).bind fun t794 => (if t794 = 0 then (gl6_GovernorShifts.j0 k l0 a1 l2 bt790.1 ((bt790.1.length : Int) != (l0.length : Int))) else (gl6_GovernorShifts.j0 k l0 a1 l2 bt790.1 true))) else (if bt790.2 = 2 then (gl6_GovernorShifts.j2 k l2) else (if bt790.2 = 8 then (gl6_GovernorShifts.j2 k l2) else (some false)))))) else (some true))) = some r := by rw [if_pos rfl] at H; exact H
  clear H
  have H := H1
  clear H1
  replace H := Option.bind_eq_some_iff.mp H
  obtain ⟨t786, A60, H⟩ := H
  replace H : (if t786 = 0 then ((gba_CopyInts.f l0).bind fun t787 => ((gov_Shifted.f t787 a1).bind fun bt790 => (if bt790.2 = 0 then ((gr6_PolynomialErr.f k bt790.1).bind fun t794 => (if t794 = 0 then (gl6_GovernorShifts.j0 k l0 a1 l2 bt790.1 ((bt790.1.length : Int) != (l0.length : Int))) else (gl6_GovernorShifts.j0 k l0 a1 l2 bt790.1 true))) else (if bt790.2 = 2 then (gl6_GovernorShifts.j2 k l2) else (if bt790.2 = 8 then (gl6_GovernorShifts.j2 k l2) else (some false)))))) else (some true)) = some r := H
  have A6 := Asd.mk A60
  clear A60
  by_cases c7 : t786 = 0
  ·rw [if_pos c7] at H
   have c7b0 : (t786 == 0) = true := beq_iff_eq.mpr c7
   have c7b1 : (t786 != 0) = false := bne_eq_false_iff_eq.mpr c7
   clear c7
   replace H := Option.bind_eq_some_iff.mp H
   obtain ⟨t787, A80, H⟩ := H
   replace H : ((gov_Shifted.f t787 a1).bind fun bt790 => (if bt790.2 = 0 then ((gr6_PolynomialErr.f k bt790.1).bind fun t794 => (if t794 = 0 then (gl6_GovernorShifts.j0 k l0 a1 l2 bt790.1 ((bt790.1.length : Int) != (l0.length : Int))) else (gl6_GovernorShifts.j0 k l0 a1 l2 bt790.1 true))) else (if bt790.2 = 2 then (gl6_GovernorShifts.j2 k l2) else (if bt790.2 = 8 then (gl6_GovernorShifts.j2 k l2) else (some false))))) = some r := H
   have A8 := Asd.mk A80
   clear A80
   replace H := Option.bind_eq_some_iff.mp H
   obtain ⟨⟨t790, t791⟩, A90, H⟩ := H
   replace H : (if t791 = 0 then ((gr6_PolynomialErr.f k t790).bind fun t794 => (if t794 = 0 then (gl6_GovernorShifts.j0 k l0 a1 l2 t790 ((t790.length : Int) != (l0.length : Int))) else (gl6_GovernorShifts.j0 k l0 a1 l2 t790 true))) else (if t791 = 2 then (gl6_GovernorShifts.j2 k l2) else (if t791 = 8 then (gl6_GovernorShifts.j2 k l2) else (some false)))) = some r := H
   have A9 := Asd.mk A90
   clear A90
   have HC10 := Asd.mk H
   clear H
   go_enter Tryz.func15, Tryz.ntmps15
   go_upto_if 35 with (first | ((with_reducible refine gate_callee (f := 16) rfl ?_); refine goesL_ (some 22) rfl rfl Tryz.func16 (by kernel_rfl) rfl #[] rfl (by (try simp only [List.map_toArray, List.map_cons, List.map_nil]); first | done | rfl | (simp only [List.length_drop, List.length_take]; rfl)) ?_; (with_reducible refine (gl6_awake.calls  true _ A4.out).mono ?_); rintro e w11 ⟨rfl, hb⟩; refine ⟨_, rfl, ?_⟩; have n0_ := Asd.mk (below_step (by repeat (first | (with_reducible first | exact HB.out | apply below_alloc | apply pbN | apply bd1) | exact HB.out)) hb); clear HB; have HB := n0_; clear n0_; (try clear hb); (try clear hb2); (try clear hk); (try clear hi)) | ((with_reducible refine gate_callee (f := 21) rfl ?_); refine goesL_ (some 25) rfl rfl Tryz.func21 (by kernel_rfl) rfl #[.slice A0 l0.length c0] rfl (by (try simp only [List.map_toArray, List.map_cons, List.map_nil]); first | done | rfl | (simp only [List.length_drop, List.length_take]; rfl)) ?_; (with_reducible refine (gr6_PolynomialErr.calls k _ _ l0 t786 _ ?side1 ?side2 A6.out).mono ?_); (case side1 => repeat (first | exact (Kd.C_below HR0.out HB.out) | (with_reducible refine Kd.C_alloc ?_ _) | (with_reducible refine Kd.C_drewN ?_ _) | (with_reducible refine Kd.C_drew ?_))); (case side2 => exact HC0.out); rintro e w' ⟨rfl, ⟨nd, rfl⟩⟩; refine ⟨_, rfl, ?_⟩) | ((with_reducible refine gate_callee (f := 19) rfl ?_); refine goesL_ (some 29) rfl rfl Tryz.func19 (by kernel_rfl) rfl #[.slice A0 l0.length c0] rfl (by (try simp only [List.map_toArray, List.map_cons, List.map_nil]); first | done | rfl | (simp only [List.length_drop, List.length_take]; rfl)) ?_; (with_reducible refine (gba_CopyInts.calls _ _ l0 t787 _ ?side1 ?side2 A8.out).mono ?_); (case side1 => repeat (first | exact (Kd.C_below HR0.out (by repeat (first | (with_reducible first | exact HB.out | apply below_alloc | apply pbN | apply bd1) | exact HB.out))) | (with_reducible refine Kd.C_alloc ?_ _) | (with_reducible refine Kd.C_drewN ?_ _) | (with_reducible refine Kd.C_drew ?_))); (case side2 => exact HC0.out); rintro e w12 ⟨v788, rfl, ho0, hb⟩; refine ⟨_, rfl, ?_⟩; have n0_ := Asd.mk (Kd.R_lower ho0 (below_size (by repeat (first | (with_reducible first | exact HB.out | apply below_alloc | apply pbN | apply bd1) | exact HB.out)))); have n1_ := Asd.mk (below_step (by repeat (first | (with_reducible first | exact HB.out | apply below_alloc | apply pbN | apply bd1) | exact HB.out)) hb); clear HB; have HO789 := n0_; have HB := n1_; clear n0_ n1_; (try clear hb); (try clear hb2); (try clear hk); (try clear hi); (try clear ho0); obtain ⟨Ao13, co13, eo13⟩ := Kd.R_slice HO789.out; subst eo13) | ((with_reducible refine gate_callee (f := 83) rfl ?_); refine goesL_ (some 31) rfl rfl Tryz.func83 (by kernel_rfl) rfl #[.slice Ao13 t787.length co13, .int .i64 a1] rfl (by (try simp only [List.map_toArray, List.map_cons, List.map_nil]); first | done | rfl | (simp only [List.length_drop, List.length_take]; rfl)) ?_; (with_reducible refine (gov_Shifted.calls _ _ t787 a1 t790 t791 _ ?side1 ?side2 A9.out).mono ?_); (case side1 => repeat (first | exact (Kd.R_reads' HO789.out).2.2 | (with_reducible refine Kd.C_alloc ?_ _) | (with_reducible refine Kd.C_drewN ?_ _) | (with_reducible refine Kd.C_drew ?_))); (case side2 => exact (Kd.R_reads' HO789.out).2.1); rintro e w14 ⟨v792, rfl, ho0, hb⟩; refine ⟨_, rfl, ?_⟩; have n0_ := Asd.mk (Kd.R_elder' (by (with_reducible repeat (first | apply Kd.R_alloc | apply Kd.R_drewN | apply Kd.R_drew)); exact HO789.out) (Kd.R_base ho0) hb); have n1_ := Asd.mk (Kd.R_lower (Kd.R_new' ho0 (Kd.R_lt (by (with_reducible repeat (first | apply Kd.R_alloc | apply Kd.R_drewN | apply Kd.R_drew)); exact HO789.out))) (below_size (by repeat (first | (with_reducible first | exact HB.out | apply below_alloc | apply pbN | apply bd1) | exact HB.out)))); have n2_ := Asd.mk (below_step (by repeat (first | (with_reducible first | exact HB.out | apply below_alloc | apply pbN | apply bd1) | exact HB.out)) hb); clear HO789; clear HB; have HO789 := n0_; have HO793 := n1_; have HB := n2_; clear n0_ n1_ n2_; (try clear hb); (try clear hb2); (try clear hk); (try clear hi); (try clear ho0)))
   (try simp only [Act.put, List.setIfInBounds_toArray, List.set_cons_zero, List.set_cons_succ])
   go_cut [] (fun wc => ∃ (kq : Nat), Asd (gl6_GovernorShifts.j2 kq l2 = some r) ∧ Asd (kq ≤ k) ∧ Asd (Below w.heap.size w wc))
   case first =>
    have H := HC10.out
    clear HC10
    by_cases c15 : t791 = 0
    ·rw [if_pos c15] at H
     have c15b0 : (t791 == 0) = true := beq_iff_eq.mpr c15
     have c15b1 : (t791 != 0) = false := bne_eq_false_iff_eq.mpr c15
     clear c15
     (first | rw [c15b0] | (simp only [i64_w, i32_w]; rw [c15b0]) | skip)
     have HC16 := Asd.mk H
     clear H
     go_upto_region 7 with (fail)
     go_cut [45] (fun v45 wc => ∃ (kq : Nat) (x45_15 : Bool), v45 = .bool x45_15 ∧ Asd (gl6_GovernorShifts.j0 kq l0 a1 l2 t790 x45_15 = some r) ∧ Asd (kq ≤ k) ∧ Asd (Kd.R (Kd.int .i64) 3 wc w.heap.size (fun _ => True) v792 t790) ∧ Asd (Below w.heap.size w wc))
     case first =>
      have H := HC16.out
      clear HC16
      replace H := Option.bind_eq_some_iff.mp H
      obtain ⟨t794, A170, H⟩ := H
      replace H : (if t794 = 0 then (gl6_GovernorShifts.j0 k l0 a1 l2 t790 ((t790.length : Int) != (l0.length : Int))) else (gl6_GovernorShifts.j0 k l0 a1 l2 t790 true)) = some r := H
      have A17 := Asd.mk A170
      clear A170
      by_cases c18 : t794 = 0
      ·rw [if_pos c18] at H
       have c18b0 : (t794 == 0) = true := beq_iff_eq.mpr c18
       have c18b1 : (t794 != 0) = false := bne_eq_false_iff_eq.mpr c18
       clear c18
       (first | rw [c18b0] | (simp only [i64_w, i32_w]; rw [c18b0]) | skip)
       have H' := Asd.mk H
       clear H
       obtain ⟨Ao19, co19, eo19⟩ := Kd.R_slice HO793.out
       subst eo19
       go_wp2_with (first | ((with_reducible refine gate_callee (f := 21) rfl ?_); refine goesL_ (some 37) rfl rfl Tryz.func21 (by kernel_rfl) rfl #[.slice Ao19 t790.length co19] rfl (by (try simp only [List.map_toArray, List.map_cons, List.map_nil]); first | done | rfl | (simp only [List.length_drop, List.length_take]; rfl)) ?_; (with_reducible refine (gr6_PolynomialErr.calls k _ _ t790 t794 _ ?side1 ?side2 A17.out).mono ?_); (case side1 => repeat (first | exact (Kd.R_reads' HO793.out).2.2 | (with_reducible refine Kd.C_alloc ?_ _) | (with_reducible refine Kd.C_drewN ?_ _) | (with_reducible refine Kd.C_drew ?_))); (case side2 => exact (Kd.R_reads' HO793.out).2.1); rintro e w' ⟨rfl, ⟨nd, rfl⟩⟩; refine ⟨_, rfl, ?_⟩))
       go_meet
       case rel => exact ⟨_, (((t790.length : Int) != (l0.length : Int))), (by first | rfl | (simp; done) | (simp [*]; done)), H', ⟨by first | omega | exact Nat.le_refl _⟩, ⟨by (with_reducible repeat (first | apply Kd.R_alloc | apply Kd.R_drewN | apply Kd.R_drew)); exact Kd.R_mono HO793.out (fun _ hk => trivial)⟩, ⟨by repeat (first | (with_reducible first | exact HB.out | apply below_alloc | apply pbN | apply bd1) | exact HB.out)⟩⟩
      ·rw [if_neg c18] at H
       have c18b0 : (t794 == 0) = false := beq_eq_false_iff_ne.mpr c18
       have c18b1 : (t794 != 0) = true := bne_iff_ne.mpr c18
       (first | rw [c18b0] | (simp only [i64_w, i32_w]; rw [c18b0]) | skip)
       have H' := Asd.mk H
       clear H
       obtain ⟨Ao20, co20, eo20⟩ := Kd.R_slice HO793.out
       subst eo20
       go_wp2_with (first | ((with_reducible refine gate_callee (f := 21) rfl ?_); refine goesL_ (some 37) rfl rfl Tryz.func21 (by kernel_rfl) rfl #[.slice Ao20 t790.length co20] rfl (by (try simp only [List.map_toArray, List.map_cons, List.map_nil]); first | done | rfl | (simp only [List.length_drop, List.length_take]; rfl)) ?_; (with_reducible refine (gr6_PolynomialErr.calls k _ _ t790 t794 _ ?side1 ?side2 A17.out).mono ?_); (case side1 => repeat (first | exact (Kd.R_reads' HO793.out).2.2 | (with_reducible refine Kd.C_alloc ?_ _) | (with_reducible refine Kd.C_drewN ?_ _) | (with_reducible refine Kd.C_drew ?_))); (case side2 => exact (Kd.R_reads' HO793.out).2.1); rintro e w' ⟨rfl, ⟨nd, rfl⟩⟩; refine ⟨_, rfl, ?_⟩))
       go_meet
       case rel => exact ⟨_, (true), (by first | rfl | (simp; done) | (simp [*]; done)), H', ⟨by first | omega | exact Nat.le_refl _⟩, ⟨by (with_reducible repeat (first | apply Kd.R_alloc | apply Kd.R_drewN | apply Kd.R_drew)); exact Kd.R_mono HO793.out (fun _ hk => trivial)⟩, ⟨by repeat (first | (with_reducible first | exact HB.out | apply below_alloc | apply pbN | apply bd1) | exact HB.out)⟩⟩
     case rest =>
      clear HC16
      try clear c1
      try clear c2
      try clear p2
      try clear c5
      try clear c7
      try clear c7b0
      try clear c7b1
      try clear c8
      try clear c15
      try clear c15b0
      try clear c15b1
      try clear c16
      try clear c18
      try clear c18b0
      try clear c18b1
      try clear c19
      obtain ⟨kq, x45_15, rfl, HA, HJ15, HO_7, HB⟩ := hcut
      cases kq with
      | zero => exact absurd HA.out (by simp [gl6_GovernorShifts.j0])
      | succ kj15 =>
       have H := HA.out
       clear HA
       simp only [gl6_GovernorShifts.j0] at H
       by_cases c21 : x45_15 = true
       ·subst c21
        have H1 : (some false) = some r := by rw [if_pos rfl] at H; exact H
        clear H
        have H := H1
        clear H1
        obtain rfl := Option.some.inj H
        go_wp2
        go_ret
        exact ⟨by first | rfl | (simp [errW_none, errW_some] <;> rfl) | (simp [*, errW_none, errW_some] <;> rfl), by repeat (first | (with_reducible first | exact HB.out | apply below_alloc | apply pbN | apply bd1) | exact HB.out)⟩
       ·replace c21 := Bool.eq_false_iff.mpr c21
        subst c21
        have H1 : (gl6_GovernorShifts.l0 kj15 l0 a1 l2 t790 0 0) = some r := by rw [if_neg (show ¬ (false = true) by decide)] at H; exact H
        clear H
        have H := H1
        clear H1
        have H' := Asd.mk H
        clear H
        go_wp2
        go_loopg [9, 10] kj15 (fun kq v9 v10 w' => ∃ (x9_2 : Int) (x10_2 : Int), v9 = .int .i64 x9_2 ∧ v10 = .int .i64 x10_2 ∧ Asd (gl6_GovernorShifts.l0 kq l0 a1 l2 t790 x9_2 x10_2 = some r) ∧ Asd (kq ≤ kj15) ∧ Asd (Kd.R (Kd.int .i64) 3 w' w.heap.size (fun _ => True) v792 t790) ∧ Asd (Below w.heap.size w w'))
        case atStart => exact ⟨(0), (0), (by first | rfl | (simp; done) | (simp [*]; done)), (by first | rfl | (simp; done) | (simp [*]; done)), H', ⟨Nat.le_refl _⟩, ⟨by (with_reducible repeat (first | apply Kd.R_alloc | apply Kd.R_drewN | apply Kd.R_drew)); exact HO_7.out⟩, ⟨by repeat (first | (with_reducible first | exact HB.out | apply below_alloc | apply pbN | apply bd1) | exact HB.out)⟩⟩
        case round =>
         clear H'
         try clear c1
         try clear c2
         try clear p2
         try clear c5
         try clear c7
         try clear c7b0
         try clear c7b1
         try clear c8
         try clear c15
         try clear c15b0
         try clear c15b1
         try clear c16
         try clear c18
         try clear c18b0
         try clear c18b1
         try clear c19
         try clear c21
         try clear p2
         obtain ⟨x9_2, x10_2, rfl, rfl, HA, HK2, HO_7, HB⟩ := hrel
         cases gk with
         | zero => exact absurd HA.out (by simp [gl6_GovernorShifts.l0])
         | succ k2 =>
          have H := HA.out
          clear HA
          simp only [gl6_GovernorShifts.l0] at H
          by_cases c22 : x10_2 < (l0.length : Int)
          ·rw [if_pos c22] at H
           have c22b0 : decide (x10_2 < (l0.length : Int)) = true := decide_eq_true c22
           clear c22
           by_cases c23 : 0 ≤ x10_2
           ·rw [if_pos c23] at H
            have c23b0 : decide (0 ≤ x10_2) = true := decide_eq_true c23
            clear c23
            have H' := Asd.mk H
            clear H
            have p795 : 0 ≤ (x10_2 : Int) := of_decide_eq_true (by first | (with_reducible assumption) | assumption)
            have q795 : x10_2 < (l0.length : Int) := of_decide_eq_true (by first | (with_reducible assumption) | assumption)
            obtain ⟨ad795, e795, hx795_0⟩ := Kd.at_int HR0.out x10_2 p795 q795
            cases e795
            replace hx795_0 := (HB.out.cell (World.block_lt_of_cell? w _ hx795_0)).trans hx795_0
            replace p795 := eq_true p795
            replace q795 := eq_true q795
            go_wp2
            go_roundg k2
            case measure => have := HJ15.out; have := HK2.out; omega
            case rel => exact ⟨(wrap64 ((wrap64 (x9_2 * a1)) + (rd l0 x10_2))), (wrap64 (x10_2 + 1)), (by first | rfl | (simp; done) | (simp [*]; done)), (by first | rfl | (simp; done) | (simp [*]; done)), H', ⟨by have := HJ15.out; have := HK2.out; omega⟩, ⟨by (with_reducible repeat (first | apply Kd.R_alloc | apply Kd.R_drewN | apply Kd.R_drew)); exact HO_7.out⟩, ⟨by repeat (first | (with_reducible first | exact HB.out | apply below_alloc | apply pbN | apply bd1) | exact HB.out)⟩⟩
           ·rw [if_neg c23] at H
            exact absurd H (by simp)
          ·rw [if_neg c22] at H
           have c22b0 : decide (x10_2 < (l0.length : Int)) = false := decide_eq_false c22
           clear c22
           replace H := Option.bind_eq_some_iff.mp H
           obtain ⟨t796, A240, H⟩ := H
           replace H : ((gov_Shifted.f t796 (wrap64 (-a1))).bind fun bt799 => (if bt799.2 = 0 then ((gba_Ints.f k2 bt799.1 l0).bind fun t803 => (if t803 = true then (if 0 ≤ (wrap64 ((t790.length : Int) - 1)) then (if (wrap64 ((t790.length : Int) - 1)) < (t790.length : Int) then (if (rd t790 (wrap64 ((t790.length : Int) - 1))) = x9_2 then (gl6_GovernorShifts.j2 k2 l2) else (some false)) else (none)) else (none)) else (some false))) else (some false))) = some r := H
           have A24 := Asd.mk A240
           clear A240
           replace H := Option.bind_eq_some_iff.mp H
           obtain ⟨⟨t799, t800⟩, A250, H⟩ := H
           replace H : (if t800 = 0 then ((gba_Ints.f k2 t799 l0).bind fun t803 => (if t803 = true then (if 0 ≤ (wrap64 ((t790.length : Int) - 1)) then (if (wrap64 ((t790.length : Int) - 1)) < (t790.length : Int) then (if (rd t790 (wrap64 ((t790.length : Int) - 1))) = x9_2 then (gl6_GovernorShifts.j2 k2 l2) else (some false)) else (none)) else (none)) else (some false))) else (some false)) = some r := H
           have A25 := Asd.mk A250
           clear A250
           by_cases c26 : t800 = 0
           ·rw [if_pos c26] at H
            have c26b0 : (t800 == 0) = true := beq_iff_eq.mpr c26
            have c26b1 : (t800 != 0) = false := bne_eq_false_iff_eq.mpr c26
            clear c26
            replace H := Option.bind_eq_some_iff.mp H
            obtain ⟨t803, A270, H⟩ := H
            replace H : (if t803 = true then (if 0 ≤ (wrap64 ((t790.length : Int) - 1)) then (if (wrap64 ((t790.length : Int) - 1)) < (t790.length : Int) then (if (rd t790 (wrap64 ((t790.length : Int) - 1))) = x9_2 then (gl6_GovernorShifts.j2 k2 l2) else (some false)) else (none)) else (none)) else (some false)) = some r := H
            have A27 := Asd.mk A270
            clear A270
            by_cases c28 : t803 = true
            ·subst c28
             have H1 : (if 0 ≤ (wrap64 ((t790.length : Int) - 1)) then (if (wrap64 ((t790.length : Int) - 1)) < (t790.length : Int) then (if (rd t790 (wrap64 ((t790.length : Int) - 1))) = x9_2 then (gl6_GovernorShifts.j2 k2 l2) else (some false)) else (none)) else (none)) = some r := by rw [if_pos rfl] at H; exact H
             clear H
             have H := H1
             clear H1
             obtain ⟨ji29, hji29⟩ : ∃ j_ : Int, (wrap64 ((t790.length : Int) - 1)) = j_ := ⟨_, rfl⟩
             replace H : (if 0 ≤ (ji29) then (if (ji29) < (t790.length : Int) then (if (rd t790 (ji29)) = x9_2 then (gl6_GovernorShifts.j2 k2 l2) else (some false)) else (none)) else (none)) = some r := by first | (rw [hji29] at H; exact H) | (simp only [hji29] at H ⊢; exact H)
             (try rw [hji29] at A24)
             (try rw [hji29] at A25)
             (try rw [hji29] at A27)
             have hji29w : (IntKind.i64.wrap ((t790.length : Int) - 1)) = ji29 := (i64_w _).trans hji29
             by_cases c30 : 0 ≤ (ji29)
             ·rw [if_pos c30] at H
              have c30b0 : decide (0 ≤ (ji29)) = true := decide_eq_true c30
              clear c30
              by_cases c31 : (ji29) < (t790.length : Int)
              ·rw [if_pos c31] at H
               have c31b0 : decide ((ji29) < (t790.length : Int)) = true := decide_eq_true c31
               clear c31
               by_cases c32 : (rd t790 (ji29)) = x9_2
               ·rw [if_pos c32] at H
                have c32b0 : ((rd t790 (ji29)) == x9_2) = true := beq_iff_eq.mpr c32
                have c32b1 : ((rd t790 (ji29)) != x9_2) = false := bne_eq_false_iff_eq.mpr c32
                clear c32
                have H' := Asd.mk H
                clear H
                obtain ⟨Ao33, co33, eo33⟩ := Kd.R_slice HO_7.out
                subst eo33
                go_wp2_with (first | ((with_reducible refine gate_callee (f := 19) rfl ?_); refine goesL_ (some 62) rfl rfl Tryz.func19 (by kernel_rfl) rfl #[.slice Ao33 t790.length co33] rfl (by (try simp only [List.map_toArray, List.map_cons, List.map_nil]); first | done | rfl | (simp only [List.length_drop, List.length_take]; rfl)) ?_; (with_reducible refine (gba_CopyInts.calls _ _ t790 t796 _ ?side1 ?side2 A24.out).mono ?_); (case side1 => repeat (first | exact (Kd.R_reads' HO_7.out).2.2 | (with_reducible refine Kd.C_alloc ?_ _) | (with_reducible refine Kd.C_drewN ?_ _) | (with_reducible refine Kd.C_drew ?_))); (case side2 => exact (Kd.R_reads' HO_7.out).2.1); rintro e w34 ⟨v797, rfl, ho0, hb⟩; refine ⟨_, rfl, ?_⟩; have n0_ := Asd.mk (Kd.R_elder' (by (with_reducible repeat (first | apply Kd.R_alloc | apply Kd.R_drewN | apply Kd.R_drew)); exact HO_7.out) (Kd.R_base ho0) hb); have n1_ := Asd.mk (Kd.R_lower (Kd.R_new' ho0 (Kd.R_lt (by (with_reducible repeat (first | apply Kd.R_alloc | apply Kd.R_drewN | apply Kd.R_drew)); exact HO_7.out))) (below_size (by repeat (first | (with_reducible first | exact HB.out | apply below_alloc | apply pbN | apply bd1) | exact HB.out)))); have n2_ := Asd.mk (below_step (by repeat (first | (with_reducible first | exact HB.out | apply below_alloc | apply pbN | apply bd1) | exact HB.out)) hb); clear HO_7; clear HB; have HO_7 := n0_; have HO798 := n1_; have HB := n2_; clear n0_ n1_ n2_; (try clear hb); (try clear hb2); (try clear hk); (try clear hi); (try clear ho0); obtain ⟨Ao35, co35, eo35⟩ := Kd.R_slice HO798.out; subst eo35) | ((with_reducible refine gate_callee (f := 83) rfl ?_); refine goesL_ (some 65) rfl rfl Tryz.func83 (by kernel_rfl) rfl #[.slice Ao35 t796.length co35, .int .i64 (wrap64 (-a1))] rfl (by (try simp only [List.map_toArray, List.map_cons, List.map_nil]); first | done | rfl | (simp only [List.length_drop, List.length_take]; rfl)) ?_; (with_reducible refine (gov_Shifted.calls _ _ t796 (wrap64 (-a1)) t799 t800 _ ?side1 ?side2 A25.out).mono ?_); (case side1 => repeat (first | exact (Kd.R_reads' HO798.out).2.2 | (with_reducible refine Kd.C_alloc ?_ _) | (with_reducible refine Kd.C_drewN ?_ _) | (with_reducible refine Kd.C_drew ?_))); (case side2 => exact (Kd.R_reads' HO798.out).2.1); rintro e w36 ⟨v801, rfl, ho0, hb⟩; refine ⟨_, rfl, ?_⟩; have n0_ := Asd.mk (Kd.R_elder' (by (with_reducible repeat (first | apply Kd.R_alloc | apply Kd.R_drewN | apply Kd.R_drew)); exact HO_7.out) (Kd.R_base ho0) hb); have n1_ := Asd.mk (Kd.R_elder' (by (with_reducible repeat (first | apply Kd.R_alloc | apply Kd.R_drewN | apply Kd.R_drew)); exact HO798.out) (Kd.R_base ho0) hb); have n2_ := Asd.mk (Kd.R_lower (Kd.R_new' (Kd.R_new' ho0 (Kd.R_lt (by (with_reducible repeat (first | apply Kd.R_alloc | apply Kd.R_drewN | apply Kd.R_drew)); exact HO_7.out))) (Kd.R_lt (by (with_reducible repeat (first | apply Kd.R_alloc | apply Kd.R_drewN | apply Kd.R_drew)); exact HO798.out))) (below_size (by repeat (first | (with_reducible first | exact HB.out | apply below_alloc | apply pbN | apply bd1) | exact HB.out)))); have n3_ := Asd.mk (below_step (by repeat (first | (with_reducible first | exact HB.out | apply below_alloc | apply pbN | apply bd1) | exact HB.out)) hb); clear HO_7; clear HO798; clear HB; have HO_7 := n0_; have HO798 := n1_; have HO802 := n2_; have HB := n3_; clear n0_ n1_ n2_ n3_; (try clear hb); (try clear hb2); (try clear hk); (try clear hi); (try clear ho0); obtain ⟨Ao37, co37, eo37⟩ := Kd.R_slice HO802.out; subst eo37) | (go_at_call 26; (with_reducible refine (gba_Ints.calls k2 _ _ t799 _ _ l0 true _ ?side1 ?side2 ?side3 ?side4 A27.out).mono ?_); (case side1 => repeat (first | exact (Kd.R_reads' HO802.out).2.2 | (with_reducible refine Kd.C_alloc ?_ _) | (with_reducible refine Kd.C_drewN ?_ _) | (with_reducible refine Kd.C_drew ?_))); (case side2 => exact (Kd.R_reads' HO802.out).2.1); (case side3 => repeat (first | exact (Kd.C_below HR0.out HB.out) | (with_reducible refine Kd.C_alloc ?_ _) | (with_reducible refine Kd.C_drewN ?_ _) | (with_reducible refine Kd.C_drew ?_))); (case side4 => exact HC0.out); rintro e w' ⟨rfl, ⟨nd, rfl⟩⟩; have p804 : 0 ≤ ((ji29) : Int) := of_decide_eq_true (by first | (with_reducible assumption) | assumption); have q804 : (ji29) < (t790.length : Int) := of_decide_eq_true (by first | (with_reducible assumption) | assumption); obtain ⟨ad804, e804, hx804_0⟩ := Kd.at_int (Kd.R_reads' HO_7.out).2.2 (ji29) p804 q804; cases e804; replace p804 := eq_true p804; replace q804 := eq_true q804))
                go_meet
                case rel => exact ⟨_, H', ⟨by have := HJ15.out; have := HK2.out; first | omega | exact Nat.le_refl _⟩, ⟨by repeat (first | (with_reducible first | exact HB.out | apply below_alloc | apply pbN | apply bd1) | exact HB.out)⟩⟩
               ·rw [if_neg c32] at H
                have c32b0 : ((rd t790 (ji29)) == x9_2) = false := beq_eq_false_iff_ne.mpr c32
                have c32b1 : ((rd t790 (ji29)) != x9_2) = true := bne_iff_ne.mpr c32
                obtain rfl := Option.some.inj H
                obtain ⟨Ao38, co38, eo38⟩ := Kd.R_slice HO_7.out
                subst eo38
                go_wp2_with (first | ((with_reducible refine gate_callee (f := 19) rfl ?_); refine goesL_ (some 62) rfl rfl Tryz.func19 (by kernel_rfl) rfl #[.slice Ao38 t790.length co38] rfl (by (try simp only [List.map_toArray, List.map_cons, List.map_nil]); first | done | rfl | (simp only [List.length_drop, List.length_take]; rfl)) ?_; (with_reducible refine (gba_CopyInts.calls _ _ t790 t796 _ ?side1 ?side2 A24.out).mono ?_); (case side1 => repeat (first | exact (Kd.R_reads' HO_7.out).2.2 | (with_reducible refine Kd.C_alloc ?_ _) | (with_reducible refine Kd.C_drewN ?_ _) | (with_reducible refine Kd.C_drew ?_))); (case side2 => exact (Kd.R_reads' HO_7.out).2.1); rintro e w39 ⟨v797, rfl, ho0, hb⟩; refine ⟨_, rfl, ?_⟩; have n0_ := Asd.mk (Kd.R_elder' (by (with_reducible repeat (first | apply Kd.R_alloc | apply Kd.R_drewN | apply Kd.R_drew)); exact HO_7.out) (Kd.R_base ho0) hb); have n1_ := Asd.mk (Kd.R_lower (Kd.R_new' ho0 (Kd.R_lt (by (with_reducible repeat (first | apply Kd.R_alloc | apply Kd.R_drewN | apply Kd.R_drew)); exact HO_7.out))) (below_size (by repeat (first | (with_reducible first | exact HB.out | apply below_alloc | apply pbN | apply bd1) | exact HB.out)))); have n2_ := Asd.mk (below_step (by repeat (first | (with_reducible first | exact HB.out | apply below_alloc | apply pbN | apply bd1) | exact HB.out)) hb); clear HO_7; clear HB; have HO_7 := n0_; have HO798 := n1_; have HB := n2_; clear n0_ n1_ n2_; (try clear hb); (try clear hb2); (try clear hk); (try clear hi); (try clear ho0); obtain ⟨Ao40, co40, eo40⟩ := Kd.R_slice HO798.out; subst eo40) | ((with_reducible refine gate_callee (f := 83) rfl ?_); refine goesL_ (some 65) rfl rfl Tryz.func83 (by kernel_rfl) rfl #[.slice Ao40 t796.length co40, .int .i64 (wrap64 (-a1))] rfl (by (try simp only [List.map_toArray, List.map_cons, List.map_nil]); first | done | rfl | (simp only [List.length_drop, List.length_take]; rfl)) ?_; (with_reducible refine (gov_Shifted.calls _ _ t796 (wrap64 (-a1)) t799 t800 _ ?side1 ?side2 A25.out).mono ?_); (case side1 => repeat (first | exact (Kd.R_reads' HO798.out).2.2 | (with_reducible refine Kd.C_alloc ?_ _) | (with_reducible refine Kd.C_drewN ?_ _) | (with_reducible refine Kd.C_drew ?_))); (case side2 => exact (Kd.R_reads' HO798.out).2.1); rintro e w41 ⟨v801, rfl, ho0, hb⟩; refine ⟨_, rfl, ?_⟩; have n0_ := Asd.mk (Kd.R_elder' (by (with_reducible repeat (first | apply Kd.R_alloc | apply Kd.R_drewN | apply Kd.R_drew)); exact HO_7.out) (Kd.R_base ho0) hb); have n1_ := Asd.mk (Kd.R_elder' (by (with_reducible repeat (first | apply Kd.R_alloc | apply Kd.R_drewN | apply Kd.R_drew)); exact HO798.out) (Kd.R_base ho0) hb); have n2_ := Asd.mk (Kd.R_lower (Kd.R_new' (Kd.R_new' ho0 (Kd.R_lt (by (with_reducible repeat (first | apply Kd.R_alloc | apply Kd.R_drewN | apply Kd.R_drew)); exact HO_7.out))) (Kd.R_lt (by (with_reducible repeat (first | apply Kd.R_alloc | apply Kd.R_drewN | apply Kd.R_drew)); exact HO798.out))) (below_size (by repeat (first | (with_reducible first | exact HB.out | apply below_alloc | apply pbN | apply bd1) | exact HB.out)))); have n3_ := Asd.mk (below_step (by repeat (first | (with_reducible first | exact HB.out | apply below_alloc | apply pbN | apply bd1) | exact HB.out)) hb); clear HO_7; clear HO798; clear HB; have HO_7 := n0_; have HO798 := n1_; have HO802 := n2_; have HB := n3_; clear n0_ n1_ n2_ n3_; (try clear hb); (try clear hb2); (try clear hk); (try clear hi); (try clear ho0); obtain ⟨Ao42, co42, eo42⟩ := Kd.R_slice HO802.out; subst eo42) | (go_at_call 26; (with_reducible refine (gba_Ints.calls k2 _ _ t799 _ _ l0 true _ ?side1 ?side2 ?side3 ?side4 A27.out).mono ?_); (case side1 => repeat (first | exact (Kd.R_reads' HO802.out).2.2 | (with_reducible refine Kd.C_alloc ?_ _) | (with_reducible refine Kd.C_drewN ?_ _) | (with_reducible refine Kd.C_drew ?_))); (case side2 => exact (Kd.R_reads' HO802.out).2.1); (case side3 => repeat (first | exact (Kd.C_below HR0.out HB.out) | (with_reducible refine Kd.C_alloc ?_ _) | (with_reducible refine Kd.C_drewN ?_ _) | (with_reducible refine Kd.C_drew ?_))); (case side4 => exact HC0.out); rintro e w' ⟨rfl, ⟨nd, rfl⟩⟩; have p804 : 0 ≤ ((ji29) : Int) := of_decide_eq_true (by first | (with_reducible assumption) | assumption); have q804 : (ji29) < (t790.length : Int) := of_decide_eq_true (by first | (with_reducible assumption) | assumption); obtain ⟨ad804, e804, hx804_0⟩ := Kd.at_int (Kd.R_reads' HO_7.out).2.2 (ji29) p804 q804; cases e804; replace p804 := eq_true p804; replace q804 := eq_true q804))
                go_ret
                exact ⟨by first | rfl | (simp [errW_none, errW_some] <;> rfl) | (simp only [← hji29]; first | rfl | (simp [errW_none, errW_some] <;> rfl)) | (simp [*, errW_none, errW_some] <;> rfl), by repeat (first | (with_reducible first | exact HB.out | apply below_alloc | apply pbN | apply bd1) | exact HB.out)⟩
              ·rw [if_neg c31] at H
               exact absurd H (by simp)
             ·rw [if_neg c30] at H
              exact absurd H (by simp)
            ·replace c28 := Bool.eq_false_iff.mpr c28
             subst c28
             have H1 : (some false) = some r := by rw [if_neg (show ¬ (false = true) by decide)] at H; exact H
             clear H
             have H := H1
             clear H1
             obtain rfl := Option.some.inj H
             obtain ⟨Ao43, co43, eo43⟩ := Kd.R_slice HO_7.out
             subst eo43
             go_wp2_with (first | ((with_reducible refine gate_callee (f := 19) rfl ?_); refine goesL_ (some 62) rfl rfl Tryz.func19 (by kernel_rfl) rfl #[.slice Ao43 t790.length co43] rfl (by (try simp only [List.map_toArray, List.map_cons, List.map_nil]); first | done | rfl | (simp only [List.length_drop, List.length_take]; rfl)) ?_; (with_reducible refine (gba_CopyInts.calls _ _ t790 t796 _ ?side1 ?side2 A24.out).mono ?_); (case side1 => repeat (first | exact (Kd.R_reads' HO_7.out).2.2 | (with_reducible refine Kd.C_alloc ?_ _) | (with_reducible refine Kd.C_drewN ?_ _) | (with_reducible refine Kd.C_drew ?_))); (case side2 => exact (Kd.R_reads' HO_7.out).2.1); rintro e w44 ⟨v797, rfl, ho0, hb⟩; refine ⟨_, rfl, ?_⟩; have n0_ := Asd.mk (Kd.R_elder' (by (with_reducible repeat (first | apply Kd.R_alloc | apply Kd.R_drewN | apply Kd.R_drew)); exact HO_7.out) (Kd.R_base ho0) hb); have n1_ := Asd.mk (Kd.R_lower (Kd.R_new' ho0 (Kd.R_lt (by (with_reducible repeat (first | apply Kd.R_alloc | apply Kd.R_drewN | apply Kd.R_drew)); exact HO_7.out))) (below_size (by repeat (first | (with_reducible first | exact HB.out | apply below_alloc | apply pbN | apply bd1) | exact HB.out)))); have n2_ := Asd.mk (below_step (by repeat (first | (with_reducible first | exact HB.out | apply below_alloc | apply pbN | apply bd1) | exact HB.out)) hb); clear HO_7; clear HB; have HO_7 := n0_; have HO798 := n1_; have HB := n2_; clear n0_ n1_ n2_; (try clear hb); (try clear hb2); (try clear hk); (try clear hi); (try clear ho0); obtain ⟨Ao45, co45, eo45⟩ := Kd.R_slice HO798.out; subst eo45) | ((with_reducible refine gate_callee (f := 83) rfl ?_); refine goesL_ (some 65) rfl rfl Tryz.func83 (by kernel_rfl) rfl #[.slice Ao45 t796.length co45, .int .i64 (wrap64 (-a1))] rfl (by (try simp only [List.map_toArray, List.map_cons, List.map_nil]); first | done | rfl | (simp only [List.length_drop, List.length_take]; rfl)) ?_; (with_reducible refine (gov_Shifted.calls _ _ t796 (wrap64 (-a1)) t799 t800 _ ?side1 ?side2 A25.out).mono ?_); (case side1 => repeat (first | exact (Kd.R_reads' HO798.out).2.2 | (with_reducible refine Kd.C_alloc ?_ _) | (with_reducible refine Kd.C_drewN ?_ _) | (with_reducible refine Kd.C_drew ?_))); (case side2 => exact (Kd.R_reads' HO798.out).2.1); rintro e w46 ⟨v801, rfl, ho0, hb⟩; refine ⟨_, rfl, ?_⟩; have n0_ := Asd.mk (Kd.R_elder' (by (with_reducible repeat (first | apply Kd.R_alloc | apply Kd.R_drewN | apply Kd.R_drew)); exact HO_7.out) (Kd.R_base ho0) hb); have n1_ := Asd.mk (Kd.R_elder' (by (with_reducible repeat (first | apply Kd.R_alloc | apply Kd.R_drewN | apply Kd.R_drew)); exact HO798.out) (Kd.R_base ho0) hb); have n2_ := Asd.mk (Kd.R_lower (Kd.R_new' (Kd.R_new' ho0 (Kd.R_lt (by (with_reducible repeat (first | apply Kd.R_alloc | apply Kd.R_drewN | apply Kd.R_drew)); exact HO_7.out))) (Kd.R_lt (by (with_reducible repeat (first | apply Kd.R_alloc | apply Kd.R_drewN | apply Kd.R_drew)); exact HO798.out))) (below_size (by repeat (first | (with_reducible first | exact HB.out | apply below_alloc | apply pbN | apply bd1) | exact HB.out)))); have n3_ := Asd.mk (below_step (by repeat (first | (with_reducible first | exact HB.out | apply below_alloc | apply pbN | apply bd1) | exact HB.out)) hb); clear HO_7; clear HO798; clear HB; have HO_7 := n0_; have HO798 := n1_; have HO802 := n2_; have HB := n3_; clear n0_ n1_ n2_ n3_; (try clear hb); (try clear hb2); (try clear hk); (try clear hi); (try clear ho0); obtain ⟨Ao47, co47, eo47⟩ := Kd.R_slice HO802.out; subst eo47) | (go_at_call 26; (with_reducible refine (gba_Ints.calls k2 _ _ t799 _ _ l0 false _ ?side1 ?side2 ?side3 ?side4 A27.out).mono ?_); (case side1 => repeat (first | exact (Kd.R_reads' HO802.out).2.2 | (with_reducible refine Kd.C_alloc ?_ _) | (with_reducible refine Kd.C_drewN ?_ _) | (with_reducible refine Kd.C_drew ?_))); (case side2 => exact (Kd.R_reads' HO802.out).2.1); (case side3 => repeat (first | exact (Kd.C_below HR0.out HB.out) | (with_reducible refine Kd.C_alloc ?_ _) | (with_reducible refine Kd.C_drewN ?_ _) | (with_reducible refine Kd.C_drew ?_))); (case side4 => exact HC0.out); rintro e w' ⟨rfl, ⟨nd, rfl⟩⟩))
             go_ret
             exact ⟨by first | rfl | (simp [errW_none, errW_some] <;> rfl) | (simp [*, errW_none, errW_some] <;> rfl), by repeat (first | (with_reducible first | exact HB.out | apply below_alloc | apply pbN | apply bd1) | exact HB.out)⟩
           ·rw [if_neg c26] at H
            have c26b0 : (t800 == 0) = false := beq_eq_false_iff_ne.mpr c26
            have c26b1 : (t800 != 0) = true := bne_iff_ne.mpr c26
            obtain rfl := Option.some.inj H
            obtain ⟨Ao48, co48, eo48⟩ := Kd.R_slice HO_7.out
            subst eo48
            go_wp2_with (first | ((with_reducible refine gate_callee (f := 19) rfl ?_); refine goesL_ (some 62) rfl rfl Tryz.func19 (by kernel_rfl) rfl #[.slice Ao48 t790.length co48] rfl (by (try simp only [List.map_toArray, List.map_cons, List.map_nil]); first | done | rfl | (simp only [List.length_drop, List.length_take]; rfl)) ?_; (with_reducible refine (gba_CopyInts.calls _ _ t790 t796 _ ?side1 ?side2 A24.out).mono ?_); (case side1 => repeat (first | exact (Kd.R_reads' HO_7.out).2.2 | (with_reducible refine Kd.C_alloc ?_ _) | (with_reducible refine Kd.C_drewN ?_ _) | (with_reducible refine Kd.C_drew ?_))); (case side2 => exact (Kd.R_reads' HO_7.out).2.1); rintro e w49 ⟨v797, rfl, ho0, hb⟩; refine ⟨_, rfl, ?_⟩; have n0_ := Asd.mk (Kd.R_elder' (by (with_reducible repeat (first | apply Kd.R_alloc | apply Kd.R_drewN | apply Kd.R_drew)); exact HO_7.out) (Kd.R_base ho0) hb); have n1_ := Asd.mk (Kd.R_lower (Kd.R_new' ho0 (Kd.R_lt (by (with_reducible repeat (first | apply Kd.R_alloc | apply Kd.R_drewN | apply Kd.R_drew)); exact HO_7.out))) (below_size (by repeat (first | (with_reducible first | exact HB.out | apply below_alloc | apply pbN | apply bd1) | exact HB.out)))); have n2_ := Asd.mk (below_step (by repeat (first | (with_reducible first | exact HB.out | apply below_alloc | apply pbN | apply bd1) | exact HB.out)) hb); clear HO_7; clear HB; have HO_7 := n0_; have HO798 := n1_; have HB := n2_; clear n0_ n1_ n2_; (try clear hb); (try clear hb2); (try clear hk); (try clear hi); (try clear ho0); obtain ⟨Ao50, co50, eo50⟩ := Kd.R_slice HO798.out; subst eo50) | ((with_reducible refine gate_callee (f := 83) rfl ?_); refine goesL_ (some 65) rfl rfl Tryz.func83 (by kernel_rfl) rfl #[.slice Ao50 t796.length co50, .int .i64 (wrap64 (-a1))] rfl (by (try simp only [List.map_toArray, List.map_cons, List.map_nil]); first | done | rfl | (simp only [List.length_drop, List.length_take]; rfl)) ?_; (with_reducible refine (gov_Shifted.calls _ _ t796 (wrap64 (-a1)) t799 t800 _ ?side1 ?side2 A25.out).mono ?_); (case side1 => repeat (first | exact (Kd.R_reads' HO798.out).2.2 | (with_reducible refine Kd.C_alloc ?_ _) | (with_reducible refine Kd.C_drewN ?_ _) | (with_reducible refine Kd.C_drew ?_))); (case side2 => exact (Kd.R_reads' HO798.out).2.1); rintro e w51 ⟨v801, rfl, ho0, hb⟩; refine ⟨_, rfl, ?_⟩; have n0_ := Asd.mk (Kd.R_elder' (by (with_reducible repeat (first | apply Kd.R_alloc | apply Kd.R_drewN | apply Kd.R_drew)); exact HO_7.out) (Kd.R_base ho0) hb); have n1_ := Asd.mk (Kd.R_elder' (by (with_reducible repeat (first | apply Kd.R_alloc | apply Kd.R_drewN | apply Kd.R_drew)); exact HO798.out) (Kd.R_base ho0) hb); have n2_ := Asd.mk (Kd.R_lower (Kd.R_new' (Kd.R_new' ho0 (Kd.R_lt (by (with_reducible repeat (first | apply Kd.R_alloc | apply Kd.R_drewN | apply Kd.R_drew)); exact HO_7.out))) (Kd.R_lt (by (with_reducible repeat (first | apply Kd.R_alloc | apply Kd.R_drewN | apply Kd.R_drew)); exact HO798.out))) (below_size (by repeat (first | (with_reducible first | exact HB.out | apply below_alloc | apply pbN | apply bd1) | exact HB.out)))); have n3_ := Asd.mk (below_step (by repeat (first | (with_reducible first | exact HB.out | apply below_alloc | apply pbN | apply bd1) | exact HB.out)) hb); clear HO_7; clear HO798; clear HB; have HO_7 := n0_; have HO798 := n1_; have HO802 := n2_; have HB := n3_; clear n0_ n1_ n2_ n3_; (try clear hb); (try clear hb2); (try clear hk); (try clear hi); (try clear ho0)))
            go_ret
            exact ⟨by first | rfl | (simp [errW_none, errW_some] <;> rfl) | (simp [*, errW_none, errW_some] <;> rfl), by repeat (first | (with_reducible first | exact HB.out | apply below_alloc | apply pbN | apply bd1) | exact HB.out)⟩
    ·rw [if_neg c15] at H
     have c15b0 : (t791 == 0) = false := beq_eq_false_iff_ne.mpr c15
     have c15b1 : (t791 != 0) = true := bne_iff_ne.mpr c15
     (first | rw [c15b0] | (simp only [i64_w, i32_w]; rw [c15b0]) | skip)
     by_cases c52 : t791 = 2
     ·rw [if_pos c52] at H
      have c52b0 : (t791 == 2) = true := beq_iff_eq.mpr c52
      have c52b1 : (t791 != 2) = false := bne_eq_false_iff_eq.mpr c52
      clear c52
      have H' := Asd.mk H
      clear H
      go_wp2
      go_meet
      case rel => exact ⟨_, H', ⟨by first | omega | exact Nat.le_refl _⟩, ⟨by repeat (first | (with_reducible first | exact HB.out | apply below_alloc | apply pbN | apply bd1) | exact HB.out)⟩⟩
     ·rw [if_neg c52] at H
      have c52b0 : (t791 == 2) = false := beq_eq_false_iff_ne.mpr c52
      have c52b1 : (t791 != 2) = true := bne_iff_ne.mpr c52
      by_cases c53 : t791 = 8
      ·rw [if_pos c53] at H
       have c53b0 : (t791 == 8) = true := beq_iff_eq.mpr c53
       have c53b1 : (t791 != 8) = false := bne_eq_false_iff_eq.mpr c53
       clear c53
       have H' := Asd.mk H
       clear H
       go_wp2
       go_meet
       case rel => exact ⟨_, H', ⟨by first | omega | exact Nat.le_refl _⟩, ⟨by repeat (first | (with_reducible first | exact HB.out | apply below_alloc | apply pbN | apply bd1) | exact HB.out)⟩⟩
      ·rw [if_neg c53] at H
       have c53b0 : (t791 == 8) = false := beq_eq_false_iff_ne.mpr c53
       have c53b1 : (t791 != 8) = true := bne_iff_ne.mpr c53
       obtain rfl := Option.some.inj H
       go_wp2
       go_ret
       exact ⟨by first | rfl | (simp [errW_none, errW_some] <;> rfl) | (simp [*, errW_none, errW_some] <;> rfl), by repeat (first | (with_reducible first | exact HB.out | apply below_alloc | apply pbN | apply bd1) | exact HB.out)⟩
   case rest =>
    clear HC10
    try clear c1
    try clear c2
    try clear p2
    try clear c3
    try clear c5
    try clear p6
    try clear c7
    try clear c7b0
    try clear c7b1
    try clear p7
    try clear q7
    try clear hx7
    try clear c8
    try clear p8
    try clear q8
    try clear hx8
    try clear c15
    try clear c15b0
    try clear c15b1
    try clear c16
    try clear c18
    try clear c18b0
    try clear c18b1
    try clear c19
    try clear c21
    try clear c22
    try clear c22b0
    try clear c23
    try clear c23b0
    try clear c26
    try clear c26b0
    try clear c26b1
    try clear c28
    try clear c30
    try clear c30b0
    try clear c31
    try clear c31b0
    try clear c32
    try clear c32b0
    try clear c32b1
    try clear c52
    try clear c52b0
    try clear c52b1
    try clear c53
    try clear c53b0
    try clear c53b1
    try clear hx795_0
    try clear hx804_0
    try clear p2
    try clear p795
    try clear p804
    try clear q795
    try clear q804
    obtain ⟨kq, HA, HJ9, HB⟩ := hcut
    cases kq with
    | zero => exact absurd HA.out (by simp [gl6_GovernorShifts.j2])
    | succ kj9 =>
     have H := HA.out
     clear HA
     simp only [gl6_GovernorShifts.j2] at H
     have HC54 := Asd.mk H
     clear H
     go_upto_region 19 with (fail)
     go_cut [99] (fun v99 wc => ∃ (kq : Nat) (x99_53 : Bool), v99 = .bool x99_53 ∧ Asd (gl6_GovernorShifts.j3 kq l2 x99_53 = some r) ∧ Asd (kq ≤ kj9) ∧ Asd (Below w.heap.size w wc))
     case first =>
      have H := HC54.out
      clear HC54
      by_cases c55 : (l2.length : Int) = 0
      ·rw [if_pos c55] at H
       have c55b0 : ((l2.length : Int) == 0) = true := beq_iff_eq.mpr c55
       have c55b1 : ((l2.length : Int) != 0) = false := bne_eq_false_iff_eq.mpr c55
       clear c55
       (first | rw [c55b0] | (simp only [i64_w, i32_w]; rw [c55b0]) | skip)
       have H' := Asd.mk H
       clear H
       go_wp2
       go_meet
       case rel => exact ⟨_, (true), (by first | rfl | (simp; done) | (simp [*]; done)), H', ⟨by have := HJ9.out; first | omega | exact Nat.le_refl _⟩, ⟨by repeat (first | (with_reducible first | exact HB.out | apply below_alloc | apply pbN | apply bd1) | exact HB.out)⟩⟩
      ·rw [if_neg c55] at H
       have c55b0 : ((l2.length : Int) == 0) = false := beq_eq_false_iff_ne.mpr c55
       have c55b1 : ((l2.length : Int) != 0) = true := bne_iff_ne.mpr c55
       have c55b2 : ¬ (l2 = []) := fun h_ => c55 (by rw [h_]; rfl)
       (first | rw [c55b0] | (simp only [i64_w, i32_w]; rw [c55b0]) | skip)
       have H' := Asd.mk H
       clear H
       go_wp2
       go_meet
       case rel => exact ⟨_, (decide ((l2.length : Int) > 3)), (by first | rfl | (simp; done) | (simp [*]; done)), H', ⟨by have := HJ9.out; first | omega | exact Nat.le_refl _⟩, ⟨by repeat (first | (with_reducible first | exact HB.out | apply below_alloc | apply pbN | apply bd1) | exact HB.out)⟩⟩
     case rest =>
      clear HC54
      try clear c1
      try clear c2
      try clear p2
      try clear c3
      try clear c5
      try clear p6
      try clear c7
      try clear c7b0
      try clear c7b1
      try clear p7
      try clear q7
      try clear hx7
      try clear c8
      try clear p8
      try clear q8
      try clear hx8
      try clear c15
      try clear c15b0
      try clear c15b1
      try clear c16
      try clear c18
      try clear c18b0
      try clear c18b1
      try clear c19
      try clear c21
      try clear c22
      try clear c22b0
      try clear c23
      try clear c23b0
      try clear c26
      try clear c26b0
      try clear c26b1
      try clear c28
      try clear c30
      try clear c30b0
      try clear c31
      try clear c31b0
      try clear c32
      try clear c32b0
      try clear c32b1
      try clear c52
      try clear c52b0
      try clear c52b1
      try clear c53
      try clear c53b0
      try clear c53b1
      try clear c55
      try clear c55b0
      try clear c55b1
      try clear c55b2
      try clear hx795_0
      try clear hx804_0
      try clear p2
      try clear p6
      try clear p7
      try clear p795
      try clear p8
      try clear p804
      try clear q7
      try clear q795
      try clear q8
      try clear q804
      obtain ⟨kq, x99_53, rfl, HA, HJ53, HB⟩ := hcut
      cases kq with
      | zero => exact absurd HA.out (by simp [gl6_GovernorShifts.j3])
      | succ kj53 =>
       have H := HA.out
       clear HA
       simp only [gl6_GovernorShifts.j3] at H
       by_cases c56 : x99_53 = true
       ·subst c56
        have H1 : (some true) = some r := by rw [if_pos rfl] at H; exact H
        clear H
        have H := H1
        clear H1
        obtain rfl := Option.some.inj H
        go_wp2
        go_ret
        exact ⟨by first | rfl | (simp [errW_none, errW_some] <;> rfl) | (simp [*, errW_none, errW_some] <;> rfl), by repeat (first | (with_reducible first | exact HB.out | apply below_alloc | apply pbN | apply bd1) | exact HB.out)⟩
       ·replace c56 := Bool.eq_false_iff.mpr c56
        subst c56
        have H1 : (gl6_GovernorShifts.l1 kj53 l2 (([1] : List Int)) (-8) 0) = some r := by rw [if_neg (show ¬ (false = true) by decide)] at H; exact H
        clear H
        have H := H1
        clear H1
        obtain ⟨y805, hy805⟩ : ∃ y_ : List Int, y_ = (([1] : List Int)) := ⟨_, rfl⟩
        replace H : (gl6_GovernorShifts.l1 kj53 l2 y805 (-8) 0) = some r := by first | (rw [hy805]; with_reducible exact H) | (have H2_ := (Option.bind_some _ _).symm.trans H; rw [hy805]; with_reducible exact H2_) | (have H2_ := (Option.bind_some _ _).symm.trans H; with_reducible exact H2_) | with_reducible exact H | (rw [hy805]; exact H) | exact H
        have Ny805 := Asd.mk hy805
        clear hy805
        have H' := Asd.mk H
        clear H
        go_wp2_with (first | ((with_reducible refine gate_dst (N := 100) rfl ?_); (try (refine gate_guard (by rfl) ?_; dsimp only)); refine Kd.R_lit (Kd.int .i64) _ 3 ?hg (N := 100) ?hd (xs := ([1] : List Int)) (inner := [.int .i64 1]) (ok := fun _ => True) (okp := fun _ => True) ?hr ?hp (fun _ hk => hk) trivial (Below.refl _ _) (Nat.le_refl _) (by simp) ?_; (case hd => rfl); (case hg => rfl); (case hr => first | (go_simp; done) | (go_simp; rfl)); (case hp => exact (Reps.one (show Kd.M (Kd.int .i64) _ _ _ 1 [.int .i64 1] from rfl) (Reps.none _ _))); intro v806 w57 ho58 hb hg_ hnew_; clear hg_ hnew_; (first | rw [← Ny805.out] at ho58 | (simp only [Int.reduceToNat] at ho58; rw [← Ny805.out] at ho58)); have n0_ := Asd.mk (Kd.R_lower ho58 (below_size (by repeat (first | (with_reducible first | exact HB.out | apply below_alloc | apply pbN | apply bd1) | exact HB.out)))); have n1_ := Asd.mk (below_step (by repeat (first | (with_reducible first | exact HB.out | apply below_alloc | apply pbN | apply bd1) | exact HB.out)) hb); clear HB; have HO807 := n0_; have HB := n1_; clear n0_ n1_; clear hb ho58))
        go_loopg [13, 14, 15] kj53 (fun kq v13 v14 v15 w' => ∃ (x13_3 : List Int) (x14_3 : Int) (x15_3 : Int), v14 = .int .i64 x14_3 ∧ v15 = .int .i64 x15_3 ∧ Asd (gl6_GovernorShifts.l1 kq l2 x13_3 x14_3 x15_3 = some r) ∧ Asd (kq ≤ kj53) ∧ Asd (Kd.R (Kd.int .i64) 3 w' w.heap.size (fun _ => True) v13 x13_3) ∧ Asd (Below w.heap.size w w'))
        case atStart => exact ⟨(y805), ((-8)), (0), (by first | rfl | (simp; done) | (simp [*]; done)), (by first | rfl | (simp; done) | (simp [*]; done)), H', ⟨Nat.le_refl _⟩, ⟨by (with_reducible repeat (first | apply Kd.R_alloc | apply Kd.R_drewN | apply Kd.R_drew)); exact HO807.out⟩, ⟨by repeat (first | (with_reducible first | exact HB.out | apply below_alloc | apply pbN | apply bd1) | exact HB.out)⟩⟩
        case round =>
         clear H'
         try clear c1
         try clear c2
         try clear p2
         try clear c3
         try clear c5
         try clear p6
         try clear c7
         try clear c7b0
         try clear c7b1
         try clear p7
         try clear q7
         try clear hx7
         try clear c8
         try clear p8
         try clear q8
         try clear hx8
         try clear c15
         try clear c15b0
         try clear c15b1
         try clear c16
         try clear c18
         try clear c18b0
         try clear c18b1
         try clear c19
         try clear c21
         try clear c22
         try clear c22b0
         try clear c23
         try clear c23b0
         try clear c26
         try clear c26b0
         try clear c26b1
         try clear c28
         try clear c30
         try clear c30b0
         try clear c31
         try clear c31b0
         try clear c32
         try clear c32b0
         try clear c32b1
         try clear c52
         try clear c52b0
         try clear c52b1
         try clear c53
         try clear c53b0
         try clear c53b1
         try clear c55
         try clear c55b0
         try clear c55b1
         try clear c55b2
         try clear c56
         try clear hx795_0
         try clear hx804_0
         try clear p2
         try clear p6
         try clear p7
         try clear p795
         try clear p8
         try clear p804
         try clear q7
         try clear q795
         try clear q8
         try clear q804
         obtain ⟨x13_3, x14_3, x15_3, rfl, rfl, HA, HK3, HO_13, HB⟩ := hrel
         cases gk with
         | zero => exact absurd HA.out (by simp [gl6_GovernorShifts.l1])
         | succ k3 =>
          have H := HA.out
          clear HA
          simp only [gl6_GovernorShifts.l1] at H
          by_cases c59 : x15_3 < (l2.length : Int)
          ·rw [if_pos c59] at H
           have c59b0 : decide (x15_3 < (l2.length : Int)) = true := decide_eq_true c59
           clear c59
           by_cases c60 : 0 ≤ x15_3
           ·rw [if_pos c60] at H
            have c60b0 : decide (0 ≤ x15_3) = true := decide_eq_true c60
            clear c60
            replace H := Option.bind_eq_some_iff.mp H
            obtain ⟨t816, A610, H⟩ := H
            replace H : (if t816 = true then ((gba_CopyInts.f x13_3).bind fun t818 => (if t818.length < 17592186044416 then (gl6_GovernorShifts.l2 k3 l2 x13_3 (mx x14_3 (rd l2 x15_3)) x15_3 (t818 ++ [0]) 0) else (none))) else (some true)) = some r := H
            have A61 := Asd.mk A610
            clear A610
            by_cases c62 : t816 = true
            ·subst c62
             have H1 : ((gba_CopyInts.f x13_3).bind fun t818 => (if t818.length < 17592186044416 then (gl6_GovernorShifts.l2 k3 l2 x13_3 (mx x14_3 (rd l2 x15_3)) x15_3 (t818 ++ [0]) 0) else (none))) = some r := by rw [if_pos rfl] at H; exact H
             clear H
             have H := H1
             clear H1
             obtain ⟨ji63, hji63⟩ : ∃ j_ : Int, (mx x14_3 (rd l2 x15_3)) = j_ := ⟨_, rfl⟩
             replace H : ((gba_CopyInts.f x13_3).bind fun t818 => (if t818.length < 17592186044416 then (gl6_GovernorShifts.l2 k3 l2 x13_3 ji63 x15_3 (t818 ++ [0]) 0) else (none))) = some r := by first | (rw [hji63] at H; exact H) | (simp only [hji63] at H ⊢; exact H)
             (try rw [hji63] at A61)
             have hji63_ : (if x14_3 < (rd l2 x15_3) then (rd l2 x15_3) else x14_3) = ji63 := hji63
             replace H := Option.bind_eq_some_iff.mp H
             obtain ⟨t818, A640, H⟩ := H
             replace H : (if t818.length < 17592186044416 then (gl6_GovernorShifts.l2 k3 l2 x13_3 ji63 x15_3 (t818 ++ [0]) 0) else (none)) = some r := H
             have A64 := Asd.mk A640
             clear A640
             by_cases c65 : t818.length < 17592186044416
             ·rw [if_pos c65] at H
              have LMc65 := Asd.mk c65
              clear c65
              obtain ⟨y821, hy821⟩ : ∃ y_ : List Int, y_ = (t818 ++ [0]) := ⟨_, rfl⟩
              replace H : (gl6_GovernorShifts.l2 k3 l2 x13_3 ji63 x15_3 y821 0) = some r := by first | (rw [hy821]; with_reducible exact H) | (have H2_ := (Option.bind_some _ _).symm.trans H; rw [hy821]; with_reducible exact H2_) | (have H2_ := (Option.bind_some _ _).symm.trans H; with_reducible exact H2_) | with_reducible exact H | (rw [hy821]; exact H) | exact H
              have Ny821 := Asd.mk hy821
              clear hy821
              have H' := Asd.mk H
              clear H
              have p815 : 0 ≤ (x15_3 : Int) := of_decide_eq_true (by first | (with_reducible assumption) | assumption)
              have q815 : x15_3 < (l2.length : Int) := of_decide_eq_true (by first | (with_reducible assumption) | assumption)
              obtain ⟨ad815, e815, hx815_0⟩ := Kd.at_int HR2.out x15_3 p815 q815
              cases e815
              replace hx815_0 := (HB.out.cell (World.block_lt_of_cell? w _ hx815_0)).trans hx815_0
              replace p815 := eq_true p815
              replace q815 := eq_true q815
              go_wp2_with (first | ((with_reducible refine gate_callee (f := 68) rfl ?_); refine goesL_ (some 111) rfl rfl Tryz.func68 (by kernel_rfl) rfl #[.int .i64 (rd l2 x15_3), .int .i64 (-8), .int .i64 (-1)] rfl (by (try simp only [List.map_toArray, List.map_cons, List.map_nil]); first | done | rfl | (simp only [List.length_drop, List.length_take]; rfl)) ?_; (with_reducible refine (gba_Within.calls (rd l2 x15_3) (-8) (-1) true _ A61.out).mono ?_); rintro e w' ⟨rfl, ⟨nd, rfl⟩⟩; refine ⟨_, rfl, ?_⟩; have p817 : 0 ≤ (x15_3 : Int) := of_decide_eq_true (by first | (with_reducible assumption) | assumption); have q817 : x15_3 < (l2.length : Int) := of_decide_eq_true (by first | (with_reducible assumption) | assumption); obtain ⟨ad817, e817, hx817_0⟩ := Kd.at_int HR2.out x15_3 p817 q817; obtain rfl : ad815 = ad817 := (by injection e817); replace hx817_0 := (HB.out.cell (World.block_lt_of_cell? w _ hx817_0)).trans hx817_0; replace p817 := eq_true p817; replace q817 := eq_true q817; obtain ⟨Ao66, co66, eo66⟩ := Kd.R_slice HO_13.out; subst eo66) | ((with_reducible refine gate_callee (f := 19) rfl ?_); refine goesL_ (some 120) rfl rfl Tryz.func19 (by kernel_rfl) rfl #[.slice Ao66 x13_3.length co66] rfl (by (try simp only [List.map_toArray, List.map_cons, List.map_nil]); first | done | rfl | (simp only [List.length_drop, List.length_take]; rfl)) ?_; (with_reducible refine (gba_CopyInts.calls _ _ x13_3 t818 _ ?side1 ?side2 A64.out).mono ?_); (case side1 => repeat (first | exact (Kd.R_reads' HO_13.out).2.2 | (with_reducible refine Kd.C_alloc ?_ _) | (with_reducible refine Kd.C_drewN ?_ _) | (with_reducible refine Kd.C_drew ?_))); (case side2 => exact (Kd.R_reads' HO_13.out).2.1); rintro e w67 ⟨v819, rfl, ho0, hb⟩; refine ⟨_, rfl, ?_⟩; have n0_ := Asd.mk (Kd.R_elder' (by (with_reducible repeat (first | apply Kd.R_alloc | apply Kd.R_drewN | apply Kd.R_drew)); exact HO_13.out) (Kd.R_base ho0) hb); have n1_ := Asd.mk (Kd.R_lower (Kd.R_new' ho0 (Kd.R_lt (by (with_reducible repeat (first | apply Kd.R_alloc | apply Kd.R_drewN | apply Kd.R_drew)); exact HO_13.out))) (below_size (by repeat (first | (with_reducible first | exact HB.out | apply below_alloc | apply pbN | apply bd1) | exact HB.out)))); have n2_ := Asd.mk (below_step (by repeat (first | (with_reducible first | exact HB.out | apply below_alloc | apply pbN | apply bd1) | exact HB.out)) hb); clear HO_13; clear HB; have HO_13 := n0_; have HO820 := n1_; have HB := n2_; clear n0_ n1_ n2_; (try clear hb); (try clear hb2); (try clear hk); (try clear hi); (try clear ho0)) | ((with_reducible refine gate_builtin (b := .append) (xs := #[.tmp 120, .tmp 121]) rfl ?_); (try (refine gate_guard (by rfl) ?_; dsimp only)); at_builtin; refine Kd.R_append (Kd.int .i64) (w0 := w) w.heap.size rfl (.tmp 120) (.tmp 121) 22 3 (.int .i64 0) 8 rfl Tryz.underlying22 info3 rfl (by decide) (by omega) v819 t818 0 [.int .i64 0] (fun k_ => some k_ ≠ (.slice Ao66 x13_3.length co66 : Value).ownBlock) (fun _ => False) rfl rfl ?aP (fun _ hk => hk.elim) ?aF ?aO ?aB ?aS ?aL ?_; (case aP => exact rfl); (case aB => exact (by repeat (first | (with_reducible first | exact HB.out | apply below_alloc | apply pbN | apply bd1) | exact HB.out))); (case aF => exact (fun k_ hk => Kd.fresh' (Kd.R_lt (by (with_reducible repeat (first | apply Kd.R_alloc | apply Kd.R_drewN | apply Kd.R_drew)); exact HO_13.out)) k_ hk)); (case aO => exact (by (with_reducible repeat (first | apply Kd.R_alloc | apply Kd.R_drewN | apply Kd.R_drew)); exact Kd.R_mono HO820.out (fun _ hk => hk.2))); (case aS => exact (below_size (by repeat (first | (with_reducible first | exact HB.out | apply below_alloc | apply pbN | apply bd1) | exact HB.out)))); (case aL => have := LMc65.out; omega); intro v822 w68 ho hb hg hat; rw [← Ny821.out] at ho; have n0_ := Asd.mk (Kd.R_after (ok := (fun _ => True)) (by (with_reducible repeat (first | apply Kd.R_alloc | apply Kd.R_drewN | apply Kd.R_drew)); exact HO_13.out) hg hat); have n1_ := Asd.mk (hb); have n2_ := Asd.mk (ho); clear HO_13; clear HB; clear HO820; have HO_13 := n0_; have HB := n1_; have HO823 := n2_; clear n0_ n1_ n2_; clear ho hb hg hat))
              go_loopg [17] k3 (fun kq v17 w' => ∃ (x16_4 : List Int) (x17_4 : Int), v17 = .int .i64 x17_4 ∧ Asd (gl6_GovernorShifts.l2 kq l2 x13_3 ji63 x15_3 x16_4 x17_4 = some r) ∧ Asd (kq ≤ k3) ∧ Asd (Kd.R (Kd.int .i64) 3 w' w.heap.size (fun k_ => some k_ ≠ (v822 : Value).ownBlock) (.slice Ao66 x13_3.length co66) x13_3) ∧ Asd (Kd.R (Kd.int .i64) 3 w' w.heap.size (fun k_ => some k_ ≠ ((.slice Ao66 x13_3.length co66) : Value).ownBlock) v822 x16_4) ∧ Asd (Below w.heap.size w w'))
              case atStart => exact ⟨(y821), (0), (by first | rfl | (simp; done) | (simp [*]; done)), H', ⟨Nat.le_refl _⟩, ⟨by (with_reducible repeat (first | apply Kd.R_alloc | apply Kd.R_drewN | apply Kd.R_drew)); exact Kd.R_mono HO_13.out (fun _ hk => hk.2)⟩, ⟨by (with_reducible repeat (first | apply Kd.R_alloc | apply Kd.R_drewN | apply Kd.R_drew)); exact HO823.out⟩, ⟨by repeat (first | (with_reducible first | exact HB.out | apply below_alloc | apply pbN | apply bd1) | exact HB.out)⟩⟩
              case round =>
               clear H'
               try clear c1
               try clear c2
               try clear p2
               try clear c3
               try clear c5
               try clear c6
               try clear p6
               try clear c7
               try clear c7b0
               try clear c7b1
               try clear p7
               try clear q7
               try clear hx7
               try clear c8
               try clear p8
               try clear q8
               try clear hx8
               try clear c15
               try clear c15b0
               try clear c15b1
               try clear c16
               try clear c18
               try clear c18b0
               try clear c18b1
               try clear c19
               try clear c21
               try clear c22
               try clear c22b0
               try clear c23
               try clear c23b0
               try clear c26
               try clear c26b0
               try clear c26b1
               try clear c28
               try clear c30
               try clear c30b0
               try clear c31
               try clear c31b0
               try clear c32
               try clear c32b0
               try clear c32b1
               try clear c52
               try clear c52b0
               try clear c52b1
               try clear c53
               try clear c53b0
               try clear c53b1
               try clear c55
               try clear c55b0
               try clear c55b1
               try clear c55b2
               try clear c56
               try clear c59
               try clear c59b0
               try clear c60
               try clear c60b0
               try clear c62
               try clear p64
               try clear c65
               try clear c68
               try clear hx795_0
               try clear hx804_0
               try clear hx815_0
               try clear hx817_0
               try clear p2
               try clear p6
               try clear p7
               try clear p795
               try clear p8
               try clear p804
               try clear p815
               try clear p817
               try clear q7
               try clear q795
               try clear q8
               try clear q804
               try clear q815
               try clear q817
               obtain ⟨x16_4, x17_4, rfl, HA, HK4, HO_13, HO_16, HB⟩ := hrel
               cases gk with
               | zero => exact absurd HA.out (by simp [gl6_GovernorShifts.l2])
               | succ k4 =>
                have H := HA.out
                clear HA
                simp only [gl6_GovernorShifts.l2] at H
                by_cases c69 : x17_4 < (x13_3.length : Int)
                ·rw [if_pos c69] at H
                 have c69b0 : decide (x17_4 < (x13_3.length : Int)) = true := decide_eq_true c69
                 clear c69
                 obtain ⟨ji70, hji70⟩ : ∃ j_ : Int, (wrap64 (x17_4 + 1)) = j_ := ⟨_, rfl⟩
                 replace H : (if 0 ≤ (ji70) then (if (ji70) < (x16_4.length : Int) then (if 0 ≤ x15_3 then (if x15_3 < (l2.length : Int) then (if 0 ≤ x17_4 then (gl6_GovernorShifts.l2 k4 l2 x13_3 ji63 x15_3 (x16_4.set ((ji70) : Int).toNat (wrap64 ((rd x16_4 (ji70)) - (wrap64 ((rd l2 x15_3) * (rd x13_3 x17_4)))))) ji70) else (none)) else (none)) else (none)) else (none)) else (none)) = some r := by first | (rw [hji70] at H; exact H) | (simp only [hji70] at H ⊢; exact H)
                 have hji70w : (IntKind.i64.wrap (x17_4 + 1)) = ji70 := (i64_w _).trans hji70
                 by_cases c71 : 0 ≤ (ji70)
                 ·rw [if_pos c71] at H
                  have c71b0 : decide (0 ≤ (ji70)) = true := decide_eq_true c71
                  clear c71
                  by_cases c72 : (ji70) < (x16_4.length : Int)
                  ·rw [if_pos c72] at H
                   have c72b0 : decide ((ji70) < (x16_4.length : Int)) = true := decide_eq_true c72
                   clear c72
                   by_cases c73 : 0 ≤ x15_3
                   ·rw [if_pos c73] at H
                    have c73b0 : decide (0 ≤ x15_3) = true := decide_eq_true c73
                    clear c73
                    by_cases c74 : x15_3 < (l2.length : Int)
                    ·rw [if_pos c74] at H
                     have c74b0 : decide (x15_3 < (l2.length : Int)) = true := decide_eq_true c74
                     clear c74
                     by_cases c75 : 0 ≤ x17_4
                     ·rw [if_pos c75] at H
                      have c75b0 : decide (0 ≤ x17_4) = true := decide_eq_true c75
                      clear c75
                      obtain ⟨y827, hy827⟩ : ∃ y_ : List Int, y_ = (x16_4.set ((ji70) : Int).toNat (wrap64 ((rd x16_4 (ji70)) - (wrap64 ((rd l2 x15_3) * (rd x13_3 x17_4)))))) := ⟨_, rfl⟩
                      replace H : (gl6_GovernorShifts.l2 k4 l2 x13_3 ji63 x15_3 y827 ji70) = some r := by first | (rw [hy827]; with_reducible exact H) | (have H2_ := (Option.bind_some _ _).symm.trans H; rw [hy827]; with_reducible exact H2_) | (have H2_ := (Option.bind_some _ _).symm.trans H; with_reducible exact H2_) | with_reducible exact H | (rw [hy827]; exact H) | exact H
                      have Ny827 := Asd.mk hy827
                      clear hy827
                      have H' := Asd.mk H
                      clear H
                      try go_wp2
                      have n0_ := Asd.mk (Kd.R_drew HO_13.out)
                      have n1_ := Asd.mk (Kd.R_drew HO_16.out)
                      have n2_ := Asd.mk (bd1 HB.out)
                      clear HO_13
                      clear HO_16
                      clear HB
                      have HO_13 := n0_
                      have HO_16 := n1_
                      have HB := n2_
                      clear n0_ n1_ n2_
                      obtain ⟨Ao78, co78, eo78⟩ := Kd.R_slice HO_16.out
                      (first | subst eo78 | (injection eo78 with f1_ f2_ f3_; have f4_ := f1_.symm; have f5_ := f3_.symm; clear f1_ f2_ f3_; subst f4_; subst f5_))
                      have p824 : 0 ≤ ((ji70) : Int) := of_decide_eq_true (by first | (with_reducible assumption) | assumption)
                      have q824 : (ji70) < (x16_4.length : Int) := of_decide_eq_true (by first | (with_reducible assumption) | assumption)
                      obtain ⟨ad824, e824, hx824_0⟩ := Kd.at_int (Kd.R_reads' HO_16.out).2.2 (ji70) p824 q824
                      cases e824
                      replace p824 := eq_true p824
                      replace q824 := eq_true q824
                      have p825 : 0 ≤ (x15_3 : Int) := of_decide_eq_true (by first | (with_reducible assumption) | assumption)
                      have q825 : x15_3 < (l2.length : Int) := of_decide_eq_true (by first | (with_reducible assumption) | assumption)
                      obtain ⟨ad825, e825, hx825_0⟩ := Kd.at_int HR2.out x15_3 p825 q825
                      have hw825_0 := hx825_0
                      obtain rfl : ad815 = ad825 := (by injection e825)
                      replace hx825_0 := (HB.out.cell (World.block_lt_of_cell? w _ hx825_0)).trans hx825_0
                      replace p825 := eq_true p825
                      replace q825 := eq_true q825
                      have p826 : 0 ≤ (x17_4 : Int) := of_decide_eq_true (by first | (with_reducible assumption) | assumption)
                      have q826 : x17_4 < (x13_3.length : Int) := of_decide_eq_true (by first | (with_reducible assumption) | assumption)
                      obtain ⟨ad826, e826, hx826_0⟩ := Kd.at_int (Kd.R_reads' HO_13.out).2.2 x17_4 p826 q826
                      cases e826
                      replace p826 := eq_true p826
                      replace q826 := eq_true q826
                      have p76 : 0 ≤ ((ji70) : Int) := of_decide_eq_true (by first | (with_reducible assumption) | assumption)
                      have q76 : ((ji70) : Int) < ((x16_4.length : Int) : Int) := of_decide_eq_true (by first | (with_reducible assumption) | assumption)
                      obtain ⟨go76, co76, eo76, gb76, gl76, cl76, HG76⟩ := Kd.R_form HO_16.out (by omega)
                      (first | cases eo76 | (injection eo76 with ea_ en_ ec_; (first | subst ea_ | (injection ea_ with ea_; subst ea_)); subst ec_; clear en_))
                      have GB76 := Asd.mk gb76
                      have GG76 := Asd.mk HG76
                      clear gb76 gl76 HG76
                      (first | simp only [add_plain] at hx824_0 | skip)
                      obtain ⟨hx76_0, hf76_0⟩ := Kd.R_celln 0 HO_16.out ((ji70) : Int) p76 q76
                      replace p76 := eq_true p76
                      replace q76 := eq_true q76
                      have HP79 := Kd.R_putn HO_16.out ((ji70) : Int) (wrap64 ((rd x16_4 (ji70)) - (wrap64 ((rd l2 x15_3) * (rd x13_3 x17_4)))))
                      rw [← Ny827.out] at HP79
                      have HQ79 := Asd.mk HP79
                      clear HP79
                      refine start_ (n := 20) (S := fun w' => w'.cell? ⟨go76, ((ji70)).toNat, none⟩ = some (.int .i64 (rd x16_4 (ji70))) ∧ w'.cell? (ad815.add (x15_3).toNat) = some (.int .i64 (rd l2 x15_3)) ∧ w'.cell? (ad826.add (x17_4).toNat) = some (.int .i64 (rd x13_3 x17_4))) (ds := [19]) #[false, false, false, false, false, false, false, false, false, false, false, false, false, false, false, false, false, false, false, false] (by kernel_rfl) rfl rfl ⟨hx824_0, ((HB.out.cell (World.block_lt_of_cell? w _ hw825_0)).trans hw825_0), hx826_0⟩ (fun hHeld => ?_); refine with_tabW gl6_GovernorShifts.tab32 gl6_GovernorShifts.bits32 (fun HT_ HW_ => ?_)
                      generalize wr.drew = w77 at HO_13 HO_16 HB GG76 HQ79 hf76_0 hx76_0 hx824_0 hx825_0 hx826_0 hHeld ⊢
                      refine pure_ (i := 0) (N := some 129) (v := ?_) (a' := ?_) #[true, false, false, false, false, false, false, false, false, false, false, false, false, false, false, false, false, false, false, false] rfl rfl (any_of HT_.out (by kernel_rfl)) (fun _ _ _ h => h) (Or.inl ⟨by rfl, ?_⟩) ?_ ?_
                      rotate_left
                      ·intro w'
                       go_simp
                       with_reducible rfl
                      rotate_left
                      ·simp only [Act.put, List.setIfInBounds_toArray, List.set_cons_zero, List.set_cons_succ, i64_w, i32_w]
                       rfl
                      refine pure_ (i := 1) (N := some 130) (v := ?_) (a' := ?_) #[true, true, false, false, false, false, false, false, false, false, false, false, false, false, false, false, false, false, false, false] rfl rfl (any_of HT_.out (by kernel_rfl)) (fun _ _ _ h => h) (Or.inl ⟨by rfl, ?_⟩) ?_ ?_
                      rotate_left
                      ·intro w'
                       go_simp
                       with_reducible rfl
                      rotate_left
                      ·simp only [Act.put, List.setIfInBounds_toArray, List.set_cons_zero, List.set_cons_succ, i64_w, i32_w]
                       rfl
                      refine pure_ (i := 2) (N := some 131) (v := ?_) (a' := ?_) #[true, true, true, false, false, false, false, false, false, false, false, false, false, false, false, false, false, false, false, false] rfl rfl (any_of HT_.out (by kernel_rfl)) (fun _ _ _ h => h) (Or.inl ⟨by rfl, ?_⟩) ?_ ?_
                      rotate_left
                      ·intro w'
                       go_simp
                       with_reducible rfl
                      rotate_left
                      ·simp only [Act.put, List.setIfInBounds_toArray, List.set_cons_zero, List.set_cons_succ, i64_w, i32_w]
                       rfl
                      refine pure_ (i := 3) (N := some 132) (v := ?_) (a' := ?_) #[true, true, true, true, false, false, false, false, false, false, false, false, false, false, false, false, false, false, false, false] rfl rfl (any_of HT_.out (by kernel_rfl)) (fun _ _ _ h => h) (Or.inl ⟨by rfl, ?_⟩) ?_ ?_
                      rotate_left
                      ·intro w'
                       go_simp
                       with_reducible rfl
                      rotate_left
                      ·simp only [Act.put, List.setIfInBounds_toArray, List.set_cons_zero, List.set_cons_succ, i64_w, i32_w]
                       rfl
                      refine pure_ (i := 4) (N := some 133) (v := ?_) (a' := ?_) #[true, true, true, true, true, false, false, false, false, false, false, false, false, false, false, false, false, false, false, false] rfl rfl (any_of HT_.out (by kernel_rfl)) (fun _ _ _ h => h) (Or.inl ⟨by rfl, ?_⟩) ?_ ?_
                      rotate_left
                      ·intro w'
                       go_simp
                       with_reducible rfl
                      rotate_left
                      ·simp only [Act.put, List.setIfInBounds_toArray, List.set_cons_zero, List.set_cons_succ, i64_w, i32_w]
                       rfl
                      refine pure_ (i := 5) (N := some 134) (v := ?_) (a' := ?_) #[true, true, true, true, true, true, false, false, false, false, false, false, false, false, false, false, false, false, false, false] rfl rfl (any_of HT_.out (by kernel_rfl)) (fun _ _ _ h => h) (Or.inl ⟨by rfl, ?_⟩) ?_ ?_
                      rotate_left
                      ·intro w'
                       go_simp
                       with_reducible rfl
                      rotate_left
                      ·simp only [Act.put, List.setIfInBounds_toArray, List.set_cons_zero, List.set_cons_succ, i64_w, i32_w]
                       rfl
                      refine pure_ (i := 6) (N := some 135) (v := ?_) (a' := ?_) #[true, true, true, true, true, true, true, false, false, false, false, false, false, false, false, false, false, false, false, false] rfl rfl (any_of HT_.out (by kernel_rfl)) (fun _ _ _ h => h) (Or.inl ⟨by rfl, ?_⟩) ?_ ?_
                      rotate_left
                      ·intro w'
                       go_simp
                       with_reducible rfl
                      rotate_left
                      ·simp only [Act.put, List.setIfInBounds_toArray, List.set_cons_zero, List.set_cons_succ, i64_w, i32_w]
                       rfl
                      refine pure_ (i := 8) (N := some 137) (v := ?_) (a' := ?_) #[true, true, true, true, true, true, true, false, true, false, false, false, false, false, false, false, false, false, false, false] rfl rfl (any_of HT_.out (by kernel_rfl)) (fun _ _ _ h => h) (Or.inl ⟨by rfl, ?_⟩) ?_ ?_
                      rotate_left
                      ·intro w'
                       go_simp
                       with_reducible rfl
                      rotate_left
                      ·simp only [Act.put, List.setIfInBounds_toArray, List.set_cons_zero, List.set_cons_succ, i64_w, i32_w]
                       rfl
                      refine pure_ (i := 9) (N := some 138) (v := ?_) (a' := ?_) #[true, true, true, true, true, true, true, false, true, true, false, false, false, false, false, false, false, false, false, false] rfl rfl (any_of HT_.out (by kernel_rfl)) (fun _ _ _ h => h) (Or.inl ⟨by rfl, ?_⟩) ?_ ?_
                      rotate_left
                      ·intro w'
                       go_simp
                       with_reducible rfl
                      rotate_left
                      ·simp only [Act.put, List.setIfInBounds_toArray, List.set_cons_zero, List.set_cons_succ, i64_w, i32_w]
                       rfl
                      refine pure_ (i := 10) (N := some 139) (v := ?_) (a' := ?_) #[true, true, true, true, true, true, true, false, true, true, true, false, false, false, false, false, false, false, false, false] rfl rfl (any_of HT_.out (by kernel_rfl)) (fun _ _ _ h => h) (Or.inl ⟨by rfl, ?_⟩) ?_ ?_
                      rotate_left
                      ·intro w'
                       go_simp
                       with_reducible rfl
                      rotate_left
                      ·simp only [Act.put, List.setIfInBounds_toArray, List.set_cons_zero, List.set_cons_succ, i64_w, i32_w]
                       rfl
                      refine pure_ (i := 12) (N := some 141) (v := ?_) (a' := ?_) #[true, true, true, true, true, true, true, false, true, true, true, false, true, false, false, false, false, false, false, false] rfl rfl (any_of HT_.out (by kernel_rfl)) (fun _ _ _ h => h) (Or.inl ⟨by rfl, ?_⟩) ?_ ?_
                      rotate_left
                      ·intro w'
                       go_simp
                       with_reducible rfl
                      rotate_left
                      ·simp only [Act.put, List.setIfInBounds_toArray, List.set_cons_zero, List.set_cons_succ, i64_w, i32_w]
                       rfl
                      refine pure_ (i := 13) (N := some 142) (v := ?_) (a' := ?_) #[true, true, true, true, true, true, true, false, true, true, true, false, true, true, false, false, false, false, false, false] rfl rfl (any_of HT_.out (by kernel_rfl)) (fun _ _ _ h => h) (Or.inl ⟨by rfl, ?_⟩) ?_ ?_
                      rotate_left
                      ·intro w'
                       go_simp
                       with_reducible rfl
                      rotate_left
                      ·simp only [Act.put, List.setIfInBounds_toArray, List.set_cons_zero, List.set_cons_succ, i64_w, i32_w]
                       rfl
                      refine pure_ (i := 14) (N := some 143) (v := ?_) (a' := ?_) #[true, true, true, true, true, true, true, false, true, true, true, false, true, true, true, false, false, false, false, false] rfl rfl (any_of HT_.out (by kernel_rfl)) (fun _ _ _ h => h) (Or.inl ⟨by rfl, ?_⟩) ?_ ?_
                      rotate_left
                      ·intro w'
                       go_simp
                       with_reducible rfl
                      rotate_left
                      ·simp only [Act.put, List.setIfInBounds_toArray, List.set_cons_zero, List.set_cons_succ, i64_w, i32_w]
                       rfl
                      refine take_ (i := 7) (N := some 136) (v := ?_) (a' := ?_) #[true, true, true, true, true, true, true, true, true, true, true, false, true, true, true, false, false, false, false, false] rfl rfl (take_ofW HT_.out HW_.out (by kernel_rfl)) (fun _ _ _ h => h) (Or.inl ⟨by rfl, ?_⟩) hHeld ?_ ?_
                      rotate_left
                      ·rintro w' ⟨s0, s1, s2⟩
                       go_simp
                       with_reducible rfl
                      rotate_left
                      ·simp only [Act.put, List.setIfInBounds_toArray, List.set_cons_zero, List.set_cons_succ, i64_w, i32_w]
                       rfl
                      refine take_ (i := 11) (N := some 140) (v := ?_) (a' := ?_) #[true, true, true, true, true, true, true, true, true, true, true, true, true, true, true, false, false, false, false, false] rfl rfl (take_ofW HT_.out HW_.out (by kernel_rfl)) (fun _ _ _ h => h) (Or.inl ⟨by rfl, ?_⟩) hHeld ?_ ?_
                      rotate_left
                      ·rintro w' ⟨s0, s1, s2⟩
                       go_simp
                       with_reducible rfl
                      rotate_left
                      ·simp only [Act.put, List.setIfInBounds_toArray, List.set_cons_zero, List.set_cons_succ, i64_w, i32_w]
                       rfl
                      refine take_ (i := 15) (N := some 144) (v := ?_) (a' := ?_) #[true, true, true, true, true, true, true, true, true, true, true, true, true, true, true, true, false, false, false, false] rfl rfl (take_ofW HT_.out HW_.out (by kernel_rfl)) (fun _ _ _ h => h) (Or.inl ⟨by rfl, ?_⟩) hHeld ?_ ?_
                      rotate_left
                      ·rintro w' ⟨s0, s1, s2⟩
                       go_simp
                       with_reducible rfl
                      rotate_left
                      ·simp only [Act.put, List.setIfInBounds_toArray, List.set_cons_zero, List.set_cons_succ, i64_w, i32_w]
                       rfl
                      refine pure_ (i := 16) (N := some 145) (v := ?_) (a' := ?_) #[true, true, true, true, true, true, true, true, true, true, true, true, true, true, true, true, true, false, false, false] rfl rfl (any_of HT_.out (by kernel_rfl)) (fun _ _ _ h => h) (Or.inl ⟨by rfl, ?_⟩) ?_ ?_
                      rotate_left
                      ·intro w'
                       go_simp
                       with_reducible rfl
                      rotate_left
                      ·simp only [Act.put, List.setIfInBounds_toArray, List.set_cons_zero, List.set_cons_succ, i64_w, i32_w]
                       rfl
                      refine pure_ (i := 17) (N := some 146) (v := ?_) (a' := ?_) #[true, true, true, true, true, true, true, true, true, true, true, true, true, true, true, true, true, true, false, false] rfl rfl (any_of HT_.out (by kernel_rfl)) (fun _ _ _ h => h) (Or.inl ⟨by rfl, ?_⟩) ?_ ?_
                      rotate_left
                      ·intro w'
                       go_simp
                       with_reducible rfl
                      rotate_left
                      ·simp only [Act.put, List.setIfInBounds_toArray, List.set_cons_zero, List.set_cons_succ, i64_w, i32_w]
                       rfl
                      refine pure_ (i := 18) (N := some 147) (v := ?_) (a' := ?_) #[true, true, true, true, true, true, true, true, true, true, true, true, true, true, true, true, true, true, true, false] rfl rfl (any_of HT_.out (by kernel_rfl)) (fun _ _ _ h => h) (Or.inl ⟨by rfl, ?_⟩) ?_ ?_
                      rotate_left
                      ·intro w'
                       go_simp
                       with_reducible rfl
                      rotate_left
                      ·simp only [Act.put, List.setIfInBounds_toArray, List.set_cons_zero, List.set_cons_succ, i64_w, i32_w]
                       rfl
                      refine last_ (i := 19) (N := none) #[true, true, true, true, true, true, true, true, true, true, true, true, true, true, true, true, true, true, true, true] rfl rfl (one_of HT_.out (by kernel_rfl)) (by decide) (fun K hK => ?_)
                      refine skip_ (w1 := ?_) (by rfl) rfl ?_ ?_
                      rotate_left
                      ·go_simp
                       rfl
                      refine hK.out _ _ ?_
                      clear hK K
                      refine done_ (done_of HT_.out (by kernel_rfl)) ?_
                      try go_wp2
                      go_roundg k4
                      case measure => have := HJ9.out; have := HJ53.out; have := HK3.out; have := HK4.out; omega
                      case rel => exact ⟨(y827), (ji70), (by first | rfl | (simp; done) | (simp only [← hji70] <;> (first | rfl | simp)) | (simp [*]; done)), H', ⟨by have := HJ9.out; have := HJ53.out; have := HK3.out; have := HK4.out; omega⟩, ⟨by (with_reducible repeat (first | apply Kd.R_alloc | apply Kd.R_drewN | apply Kd.R_drew)); exact Kd.R_mono (Kd.R_far (p := ⟨go76, ((ji70) : Int).toNat, none⟩) (Kd.R_mono HO_13.out (fun k_ hk => (⟨hk, fun e_ => hk (by rw [e_]; rfl)⟩ : _ ∧ k_ ≠ go76))) (fun _ hk => hk.2) (.int .i64 (wrap64 ((rd x16_4 (ji70)) - (wrap64 ((rd l2 x15_3) * (rd x13_3 x17_4))))))) (fun _ hk => hk.1)⟩, ⟨by (with_reducible repeat (first | apply Kd.R_alloc | apply Kd.R_drewN | apply Kd.R_drew)); exact HQ79.out⟩, ⟨by repeat (first | (with_reducible first | exact HB.out | apply below_alloc | apply pbN | apply bd1 | refine below_set ?_ GB76.out) | exact HB.out)⟩⟩
                     ·rw [if_neg c75] at H
                      exact absurd H (by simp)
                    ·rw [if_neg c74] at H
                     exact absurd H (by simp)
                   ·rw [if_neg c73] at H
                    exact absurd H (by simp)
                  ·rw [if_neg c72] at H
                   exact absurd H (by simp)
                 ·rw [if_neg c71] at H
                  exact absurd H (by simp)
                ·rw [if_neg c69] at H
                 have c69b0 : decide (x17_4 < (x13_3.length : Int)) = false := decide_eq_false c69
                 clear c69
                 have H' := Asd.mk H
                 clear H
                 go_wp2
                 go_roundg k4
                 case measure => have := HJ9.out; have := HJ53.out; have := HK3.out; have := HK4.out; omega
                 case rel => exact ⟨(x16_4), (ji63), (wrap64 (x15_3 + 1)), (by first | rfl | (simp; done) | (simp only [← hji63] <;> (first | rfl | simp)) | (simp [*]; done)), (by first | rfl | (simp; done) | (simp [*]; done)), H', ⟨by have := HJ9.out; have := HJ53.out; have := HK3.out; have := HK4.out; omega⟩, ⟨by (with_reducible repeat (first | apply Kd.R_alloc | apply Kd.R_drewN | apply Kd.R_drew)); exact Kd.R_mono HO_16.out (fun _ hk => trivial)⟩, ⟨by repeat (first | (with_reducible first | exact HB.out | apply below_alloc | apply pbN | apply bd1) | exact HB.out)⟩⟩
             ·rw [if_neg c65] at H
              exact absurd H (by simp)
            ·replace c62 := Bool.eq_false_iff.mpr c62
             subst c62
             have H1 : (some true) = some r := by rw [if_neg (show ¬ (false = true) by decide)] at H; exact H
             clear H
             have H := H1
             clear H1
             obtain rfl := Option.some.inj H
             have p815 : 0 ≤ (x15_3 : Int) := of_decide_eq_true (by first | (with_reducible assumption) | assumption)
             have q815 : x15_3 < (l2.length : Int) := of_decide_eq_true (by first | (with_reducible assumption) | assumption)
             obtain ⟨ad815, e815, hx815_0⟩ := Kd.at_int HR2.out x15_3 p815 q815
             cases e815
             replace hx815_0 := (HB.out.cell (World.block_lt_of_cell? w _ hx815_0)).trans hx815_0
             replace p815 := eq_true p815
             replace q815 := eq_true q815
             go_wp2_with (first | ((with_reducible refine gate_callee (f := 68) rfl ?_); refine goesL_ (some 111) rfl rfl Tryz.func68 (by kernel_rfl) rfl #[.int .i64 (rd l2 x15_3), .int .i64 (-8), .int .i64 (-1)] rfl (by (try simp only [List.map_toArray, List.map_cons, List.map_nil]); first | done | rfl | (simp only [List.length_drop, List.length_take]; rfl)) ?_; (with_reducible refine (gba_Within.calls (rd l2 x15_3) (-8) (-1) false _ A61.out).mono ?_); rintro e w' ⟨rfl, ⟨nd, rfl⟩⟩; refine ⟨_, rfl, ?_⟩))
             go_ret
             exact ⟨by first | rfl | (simp [errW_none, errW_some] <;> rfl) | (simp [*, errW_none, errW_some] <;> rfl), by repeat (first | (with_reducible first | exact HB.out | apply below_alloc | apply pbN | apply bd1) | exact HB.out)⟩
           ·rw [if_neg c60] at H
            exact absurd H (by simp)
          ·rw [if_neg c59] at H
           have c59b0 : decide (x15_3 < (l2.length : Int)) = false := decide_eq_false c59
           clear c59
           replace H := Option.bind_eq_some_iff.mp H
           obtain ⟨t808, A800, H⟩ := H
           replace H : ((gov_MarginOf.f k3 t808).bind fun bt811 => ((gov_IsStable.f k3 x13_3).bind fun bt813 => (if bt811.2 = 0 then (if bt813.2 = 0 then (if bt813.1 = true then (some (bt811.1 == (wrap64 ((wrap64 (-x14_3)) - 1)))) else (some false)) else (some false)) else (some false)))) = some r := H
           have A80 := Asd.mk A800
           clear A800
           replace H := Option.bind_eq_some_iff.mp H
           obtain ⟨⟨t811, t812⟩, A810, H⟩ := H
           replace H : ((gov_IsStable.f k3 x13_3).bind fun bt813 => (if t812 = 0 then (if bt813.2 = 0 then (if bt813.1 = true then (some (t811 == (wrap64 ((wrap64 (-x14_3)) - 1)))) else (some false)) else (some false)) else (some false))) = some r := H
           have A81 := Asd.mk A810
           clear A810
           replace H := Option.bind_eq_some_iff.mp H
           obtain ⟨⟨t813, t814⟩, A820, H⟩ := H
           replace H : (if t812 = 0 then (if t814 = 0 then (if t813 = true then (some (t811 == (wrap64 ((wrap64 (-x14_3)) - 1)))) else (some false)) else (some false)) else (some false)) = some r := H
           have A82 := Asd.mk A820
           clear A820
           by_cases c83 : t812 = 0
           ·rw [if_pos c83] at H
            have c83b0 : (t812 == 0) = true := beq_iff_eq.mpr c83
            have c83b1 : (t812 != 0) = false := bne_eq_false_iff_eq.mpr c83
            clear c83
            by_cases c84 : t814 = 0
            ·rw [if_pos c84] at H
             have c84b0 : (t814 == 0) = true := beq_iff_eq.mpr c84
             have c84b1 : (t814 != 0) = false := bne_eq_false_iff_eq.mpr c84
             clear c84
             by_cases c85 : t813 = true
             ·subst c85
              have H1 : (some (t811 == (wrap64 ((wrap64 (-x14_3)) - 1)))) = some r := by rw [if_pos rfl] at H; exact H
              clear H
              have H := H1
              clear H1
              obtain rfl := Option.some.inj H
              obtain ⟨Ao86, co86, eo86⟩ := Kd.R_slice HO_13.out
              subst eo86
              go_wp2_with (first | ((with_reducible refine gate_callee (f := 19) rfl ?_); refine goesL_ (some 151) rfl rfl Tryz.func19 (by kernel_rfl) rfl #[.slice Ao86 x13_3.length co86] rfl (by (try simp only [List.map_toArray, List.map_cons, List.map_nil]); first | done | rfl | (simp only [List.length_drop, List.length_take]; rfl)) ?_; (with_reducible refine (gba_CopyInts.calls _ _ x13_3 t808 _ ?side1 ?side2 A80.out).mono ?_); (case side1 => repeat (first | exact (Kd.R_reads' HO_13.out).2.2 | (with_reducible refine Kd.C_alloc ?_ _) | (with_reducible refine Kd.C_drewN ?_ _) | (with_reducible refine Kd.C_drew ?_))); (case side2 => exact (Kd.R_reads' HO_13.out).2.1); rintro e w87 ⟨v809, rfl, ho0, hb⟩; refine ⟨_, rfl, ?_⟩; have n0_ := Asd.mk (Kd.R_elder' (by (with_reducible repeat (first | apply Kd.R_alloc | apply Kd.R_drewN | apply Kd.R_drew)); exact HO_13.out) (Kd.R_base ho0) hb); have n1_ := Asd.mk (Kd.R_lower (Kd.R_new' ho0 (Kd.R_lt (by (with_reducible repeat (first | apply Kd.R_alloc | apply Kd.R_drewN | apply Kd.R_drew)); exact HO_13.out))) (below_size (by repeat (first | (with_reducible first | exact HB.out | apply below_alloc | apply pbN | apply bd1) | exact HB.out)))); have n2_ := Asd.mk (below_step (by repeat (first | (with_reducible first | exact HB.out | apply below_alloc | apply pbN | apply bd1) | exact HB.out)) hb); clear HO_13; clear HB; have HO_13 := n0_; have HO810 := n1_; have HB := n2_; clear n0_ n1_ n2_; (try clear hb); (try clear hb2); (try clear hk); (try clear hi); (try clear ho0); obtain ⟨Ao88, co88, eo88⟩ := Kd.R_slice HO810.out; subst eo88) | ((with_reducible refine gate_callee (f := 84) rfl ?_); refine goesL_ (some 152) rfl rfl Tryz.func84 (by kernel_rfl) rfl #[.slice Ao88 t808.length co88] rfl (by (try simp only [List.map_toArray, List.map_cons, List.map_nil]); first | done | rfl | (simp only [List.length_drop, List.length_take]; rfl)) ?_; (with_reducible refine (gov_MarginOf.calls k3 _ _ t808 t811 t812 _ ?side1 ?side2 A81.out).mono ?_); (case side1 => repeat (first | exact (Kd.R_reads' HO810.out).2.2 | (with_reducible refine Kd.C_alloc ?_ _) | (with_reducible refine Kd.C_drewN ?_ _) | (with_reducible refine Kd.C_drew ?_))); (case side2 => exact (Kd.R_reads' HO810.out).2.1); rintro e w89 ⟨rfl, hb⟩; refine ⟨_, rfl, ?_⟩; have n0_ := Asd.mk (Kd.R_below (by (with_reducible repeat (first | apply Kd.R_alloc | apply Kd.R_drewN | apply Kd.R_drew)); exact HO_13.out) hb); have n1_ := Asd.mk (Kd.R_below (by (with_reducible repeat (first | apply Kd.R_alloc | apply Kd.R_drewN | apply Kd.R_drew)); exact HO810.out) hb); have n2_ := Asd.mk (below_step (by repeat (first | (with_reducible first | exact HB.out | apply below_alloc | apply pbN | apply bd1) | exact HB.out)) hb); clear HO_13; clear HO810; clear HB; have HO_13 := n0_; have HO810 := n1_; have HB := n2_; clear n0_ n1_ n2_; (try clear hb); (try clear hb2); (try clear hk); (try clear hi)) | ((with_reducible refine gate_callee (f := 37) rfl ?_); refine goesL_ (some 157) rfl rfl Tryz.func37 (by kernel_rfl) rfl #[.slice Ao86 x13_3.length co86] rfl (by (try simp only [List.map_toArray, List.map_cons, List.map_nil]); first | done | rfl | (simp only [List.length_drop, List.length_take]; rfl)) ?_; (with_reducible refine (gov_IsStable.calls k3 _ _ x13_3 true t814 _ ?side1 ?side2 A82.out).mono ?_); (case side1 => repeat (first | exact (Kd.R_reads' HO_13.out).2.2 | (with_reducible refine Kd.C_alloc ?_ _) | (with_reducible refine Kd.C_drewN ?_ _) | (with_reducible refine Kd.C_drew ?_))); (case side2 => exact (Kd.R_reads' HO_13.out).2.1); rintro e w90 ⟨rfl, hb⟩; refine ⟨_, rfl, ?_⟩; have n0_ := Asd.mk (Kd.R_below (by (with_reducible repeat (first | apply Kd.R_alloc | apply Kd.R_drewN | apply Kd.R_drew)); exact HO_13.out) hb); have n1_ := Asd.mk (Kd.R_below (by (with_reducible repeat (first | apply Kd.R_alloc | apply Kd.R_drewN | apply Kd.R_drew)); exact HO810.out) hb); have n2_ := Asd.mk (below_step (by repeat (first | (with_reducible first | exact HB.out | apply below_alloc | apply pbN | apply bd1) | exact HB.out)) hb); clear HO_13; clear HO810; clear HB; have HO_13 := n0_; have HO810 := n1_; have HB := n2_; clear n0_ n1_ n2_; (try clear hb); (try clear hb2); (try clear hk); (try clear hi)))
              go_ret
              exact ⟨by first | rfl | (simp [errW_none, errW_some] <;> rfl) | (simp [*, errW_none, errW_some] <;> rfl), by repeat (first | (with_reducible first | exact HB.out | apply below_alloc | apply pbN | apply bd1) | exact HB.out)⟩
             ·replace c85 := Bool.eq_false_iff.mpr c85
              subst c85
              have H1 : (some false) = some r := by rw [if_neg (show ¬ (false = true) by decide)] at H; exact H
              clear H
              have H := H1
              clear H1
              obtain rfl := Option.some.inj H
              obtain ⟨Ao91, co91, eo91⟩ := Kd.R_slice HO_13.out
              subst eo91
              go_wp2_with (first | ((with_reducible refine gate_callee (f := 19) rfl ?_); refine goesL_ (some 151) rfl rfl Tryz.func19 (by kernel_rfl) rfl #[.slice Ao91 x13_3.length co91] rfl (by (try simp only [List.map_toArray, List.map_cons, List.map_nil]); first | done | rfl | (simp only [List.length_drop, List.length_take]; rfl)) ?_; (with_reducible refine (gba_CopyInts.calls _ _ x13_3 t808 _ ?side1 ?side2 A80.out).mono ?_); (case side1 => repeat (first | exact (Kd.R_reads' HO_13.out).2.2 | (with_reducible refine Kd.C_alloc ?_ _) | (with_reducible refine Kd.C_drewN ?_ _) | (with_reducible refine Kd.C_drew ?_))); (case side2 => exact (Kd.R_reads' HO_13.out).2.1); rintro e w92 ⟨v809, rfl, ho0, hb⟩; refine ⟨_, rfl, ?_⟩; have n0_ := Asd.mk (Kd.R_elder' (by (with_reducible repeat (first | apply Kd.R_alloc | apply Kd.R_drewN | apply Kd.R_drew)); exact HO_13.out) (Kd.R_base ho0) hb); have n1_ := Asd.mk (Kd.R_lower (Kd.R_new' ho0 (Kd.R_lt (by (with_reducible repeat (first | apply Kd.R_alloc | apply Kd.R_drewN | apply Kd.R_drew)); exact HO_13.out))) (below_size (by repeat (first | (with_reducible first | exact HB.out | apply below_alloc | apply pbN | apply bd1) | exact HB.out)))); have n2_ := Asd.mk (below_step (by repeat (first | (with_reducible first | exact HB.out | apply below_alloc | apply pbN | apply bd1) | exact HB.out)) hb); clear HO_13; clear HB; have HO_13 := n0_; have HO810 := n1_; have HB := n2_; clear n0_ n1_ n2_; (try clear hb); (try clear hb2); (try clear hk); (try clear hi); (try clear ho0); obtain ⟨Ao93, co93, eo93⟩ := Kd.R_slice HO810.out; subst eo93) | ((with_reducible refine gate_callee (f := 84) rfl ?_); refine goesL_ (some 152) rfl rfl Tryz.func84 (by kernel_rfl) rfl #[.slice Ao93 t808.length co93] rfl (by (try simp only [List.map_toArray, List.map_cons, List.map_nil]); first | done | rfl | (simp only [List.length_drop, List.length_take]; rfl)) ?_; (with_reducible refine (gov_MarginOf.calls k3 _ _ t808 t811 t812 _ ?side1 ?side2 A81.out).mono ?_); (case side1 => repeat (first | exact (Kd.R_reads' HO810.out).2.2 | (with_reducible refine Kd.C_alloc ?_ _) | (with_reducible refine Kd.C_drewN ?_ _) | (with_reducible refine Kd.C_drew ?_))); (case side2 => exact (Kd.R_reads' HO810.out).2.1); rintro e w94 ⟨rfl, hb⟩; refine ⟨_, rfl, ?_⟩; have n0_ := Asd.mk (Kd.R_below (by (with_reducible repeat (first | apply Kd.R_alloc | apply Kd.R_drewN | apply Kd.R_drew)); exact HO_13.out) hb); have n1_ := Asd.mk (Kd.R_below (by (with_reducible repeat (first | apply Kd.R_alloc | apply Kd.R_drewN | apply Kd.R_drew)); exact HO810.out) hb); have n2_ := Asd.mk (below_step (by repeat (first | (with_reducible first | exact HB.out | apply below_alloc | apply pbN | apply bd1) | exact HB.out)) hb); clear HO_13; clear HO810; clear HB; have HO_13 := n0_; have HO810 := n1_; have HB := n2_; clear n0_ n1_ n2_; (try clear hb); (try clear hb2); (try clear hk); (try clear hi)) | ((with_reducible refine gate_callee (f := 37) rfl ?_); refine goesL_ (some 157) rfl rfl Tryz.func37 (by kernel_rfl) rfl #[.slice Ao91 x13_3.length co91] rfl (by (try simp only [List.map_toArray, List.map_cons, List.map_nil]); first | done | rfl | (simp only [List.length_drop, List.length_take]; rfl)) ?_; (with_reducible refine (gov_IsStable.calls k3 _ _ x13_3 false t814 _ ?side1 ?side2 A82.out).mono ?_); (case side1 => repeat (first | exact (Kd.R_reads' HO_13.out).2.2 | (with_reducible refine Kd.C_alloc ?_ _) | (with_reducible refine Kd.C_drewN ?_ _) | (with_reducible refine Kd.C_drew ?_))); (case side2 => exact (Kd.R_reads' HO_13.out).2.1); rintro e w95 ⟨rfl, hb⟩; refine ⟨_, rfl, ?_⟩; have n0_ := Asd.mk (Kd.R_below (by (with_reducible repeat (first | apply Kd.R_alloc | apply Kd.R_drewN | apply Kd.R_drew)); exact HO_13.out) hb); have n1_ := Asd.mk (Kd.R_below (by (with_reducible repeat (first | apply Kd.R_alloc | apply Kd.R_drewN | apply Kd.R_drew)); exact HO810.out) hb); have n2_ := Asd.mk (below_step (by repeat (first | (with_reducible first | exact HB.out | apply below_alloc | apply pbN | apply bd1) | exact HB.out)) hb); clear HO_13; clear HO810; clear HB; have HO_13 := n0_; have HO810 := n1_; have HB := n2_; clear n0_ n1_ n2_; (try clear hb); (try clear hb2); (try clear hk); (try clear hi)))
              go_ret
              exact ⟨by first | rfl | (simp [errW_none, errW_some] <;> rfl) | (simp [*, errW_none, errW_some] <;> rfl), by repeat (first | (with_reducible first | exact HB.out | apply below_alloc | apply pbN | apply bd1) | exact HB.out)⟩
            ·rw [if_neg c84] at H
             have c84b0 : (t814 == 0) = false := beq_eq_false_iff_ne.mpr c84
             have c84b1 : (t814 != 0) = true := bne_iff_ne.mpr c84
             obtain rfl := Option.some.inj H
             obtain ⟨Ao96, co96, eo96⟩ := Kd.R_slice HO_13.out
             subst eo96
             go_wp2_with (first | ((with_reducible refine gate_callee (f := 19) rfl ?_); refine goesL_ (some 151) rfl rfl Tryz.func19 (by kernel_rfl) rfl #[.slice Ao96 x13_3.length co96] rfl (by (try simp only [List.map_toArray, List.map_cons, List.map_nil]); first | done | rfl | (simp only [List.length_drop, List.length_take]; rfl)) ?_; (with_reducible refine (gba_CopyInts.calls _ _ x13_3 t808 _ ?side1 ?side2 A80.out).mono ?_); (case side1 => repeat (first | exact (Kd.R_reads' HO_13.out).2.2 | (with_reducible refine Kd.C_alloc ?_ _) | (with_reducible refine Kd.C_drewN ?_ _) | (with_reducible refine Kd.C_drew ?_))); (case side2 => exact (Kd.R_reads' HO_13.out).2.1); rintro e w97 ⟨v809, rfl, ho0, hb⟩; refine ⟨_, rfl, ?_⟩; have n0_ := Asd.mk (Kd.R_elder' (by (with_reducible repeat (first | apply Kd.R_alloc | apply Kd.R_drewN | apply Kd.R_drew)); exact HO_13.out) (Kd.R_base ho0) hb); have n1_ := Asd.mk (Kd.R_lower (Kd.R_new' ho0 (Kd.R_lt (by (with_reducible repeat (first | apply Kd.R_alloc | apply Kd.R_drewN | apply Kd.R_drew)); exact HO_13.out))) (below_size (by repeat (first | (with_reducible first | exact HB.out | apply below_alloc | apply pbN | apply bd1) | exact HB.out)))); have n2_ := Asd.mk (below_step (by repeat (first | (with_reducible first | exact HB.out | apply below_alloc | apply pbN | apply bd1) | exact HB.out)) hb); clear HO_13; clear HB; have HO_13 := n0_; have HO810 := n1_; have HB := n2_; clear n0_ n1_ n2_; (try clear hb); (try clear hb2); (try clear hk); (try clear hi); (try clear ho0); obtain ⟨Ao98, co98, eo98⟩ := Kd.R_slice HO810.out; subst eo98) | ((with_reducible refine gate_callee (f := 84) rfl ?_); refine goesL_ (some 152) rfl rfl Tryz.func84 (by kernel_rfl) rfl #[.slice Ao98 t808.length co98] rfl (by (try simp only [List.map_toArray, List.map_cons, List.map_nil]); first | done | rfl | (simp only [List.length_drop, List.length_take]; rfl)) ?_; (with_reducible refine (gov_MarginOf.calls k3 _ _ t808 t811 t812 _ ?side1 ?side2 A81.out).mono ?_); (case side1 => repeat (first | exact (Kd.R_reads' HO810.out).2.2 | (with_reducible refine Kd.C_alloc ?_ _) | (with_reducible refine Kd.C_drewN ?_ _) | (with_reducible refine Kd.C_drew ?_))); (case side2 => exact (Kd.R_reads' HO810.out).2.1); rintro e w99 ⟨rfl, hb⟩; refine ⟨_, rfl, ?_⟩; have n0_ := Asd.mk (Kd.R_below (by (with_reducible repeat (first | apply Kd.R_alloc | apply Kd.R_drewN | apply Kd.R_drew)); exact HO_13.out) hb); have n1_ := Asd.mk (Kd.R_below (by (with_reducible repeat (first | apply Kd.R_alloc | apply Kd.R_drewN | apply Kd.R_drew)); exact HO810.out) hb); have n2_ := Asd.mk (below_step (by repeat (first | (with_reducible first | exact HB.out | apply below_alloc | apply pbN | apply bd1) | exact HB.out)) hb); clear HO_13; clear HO810; clear HB; have HO_13 := n0_; have HO810 := n1_; have HB := n2_; clear n0_ n1_ n2_; (try clear hb); (try clear hb2); (try clear hk); (try clear hi)) | ((with_reducible refine gate_callee (f := 37) rfl ?_); refine goesL_ (some 157) rfl rfl Tryz.func37 (by kernel_rfl) rfl #[.slice Ao96 x13_3.length co96] rfl (by (try simp only [List.map_toArray, List.map_cons, List.map_nil]); first | done | rfl | (simp only [List.length_drop, List.length_take]; rfl)) ?_; (with_reducible refine (gov_IsStable.calls k3 _ _ x13_3 t813 t814 _ ?side1 ?side2 A82.out).mono ?_); (case side1 => repeat (first | exact (Kd.R_reads' HO_13.out).2.2 | (with_reducible refine Kd.C_alloc ?_ _) | (with_reducible refine Kd.C_drewN ?_ _) | (with_reducible refine Kd.C_drew ?_))); (case side2 => exact (Kd.R_reads' HO_13.out).2.1); rintro e w100 ⟨rfl, hb⟩; refine ⟨_, rfl, ?_⟩; have n0_ := Asd.mk (Kd.R_below (by (with_reducible repeat (first | apply Kd.R_alloc | apply Kd.R_drewN | apply Kd.R_drew)); exact HO_13.out) hb); have n1_ := Asd.mk (Kd.R_below (by (with_reducible repeat (first | apply Kd.R_alloc | apply Kd.R_drewN | apply Kd.R_drew)); exact HO810.out) hb); have n2_ := Asd.mk (below_step (by repeat (first | (with_reducible first | exact HB.out | apply below_alloc | apply pbN | apply bd1) | exact HB.out)) hb); clear HO_13; clear HO810; clear HB; have HO_13 := n0_; have HO810 := n1_; have HB := n2_; clear n0_ n1_ n2_; (try clear hb); (try clear hb2); (try clear hk); (try clear hi)))
             go_ret
             exact ⟨by first | rfl | (simp [errW_none, errW_some] <;> rfl) | (simp [*, errW_none, errW_some] <;> rfl), by repeat (first | (with_reducible first | exact HB.out | apply below_alloc | apply pbN | apply bd1) | exact HB.out)⟩
           ·rw [if_neg c83] at H
            have c83b0 : (t812 == 0) = false := beq_eq_false_iff_ne.mpr c83
            have c83b1 : (t812 != 0) = true := bne_iff_ne.mpr c83
            obtain rfl := Option.some.inj H
            obtain ⟨Ao101, co101, eo101⟩ := Kd.R_slice HO_13.out
            subst eo101
            go_wp2_with (first | ((with_reducible refine gate_callee (f := 19) rfl ?_); refine goesL_ (some 151) rfl rfl Tryz.func19 (by kernel_rfl) rfl #[.slice Ao101 x13_3.length co101] rfl (by (try simp only [List.map_toArray, List.map_cons, List.map_nil]); first | done | rfl | (simp only [List.length_drop, List.length_take]; rfl)) ?_; (with_reducible refine (gba_CopyInts.calls _ _ x13_3 t808 _ ?side1 ?side2 A80.out).mono ?_); (case side1 => repeat (first | exact (Kd.R_reads' HO_13.out).2.2 | (with_reducible refine Kd.C_alloc ?_ _) | (with_reducible refine Kd.C_drewN ?_ _) | (with_reducible refine Kd.C_drew ?_))); (case side2 => exact (Kd.R_reads' HO_13.out).2.1); rintro e w102 ⟨v809, rfl, ho0, hb⟩; refine ⟨_, rfl, ?_⟩; have n0_ := Asd.mk (Kd.R_elder' (by (with_reducible repeat (first | apply Kd.R_alloc | apply Kd.R_drewN | apply Kd.R_drew)); exact HO_13.out) (Kd.R_base ho0) hb); have n1_ := Asd.mk (Kd.R_lower (Kd.R_new' ho0 (Kd.R_lt (by (with_reducible repeat (first | apply Kd.R_alloc | apply Kd.R_drewN | apply Kd.R_drew)); exact HO_13.out))) (below_size (by repeat (first | (with_reducible first | exact HB.out | apply below_alloc | apply pbN | apply bd1) | exact HB.out)))); have n2_ := Asd.mk (below_step (by repeat (first | (with_reducible first | exact HB.out | apply below_alloc | apply pbN | apply bd1) | exact HB.out)) hb); clear HO_13; clear HB; have HO_13 := n0_; have HO810 := n1_; have HB := n2_; clear n0_ n1_ n2_; (try clear hb); (try clear hb2); (try clear hk); (try clear hi); (try clear ho0); obtain ⟨Ao103, co103, eo103⟩ := Kd.R_slice HO810.out; subst eo103) | ((with_reducible refine gate_callee (f := 84) rfl ?_); refine goesL_ (some 152) rfl rfl Tryz.func84 (by kernel_rfl) rfl #[.slice Ao103 t808.length co103] rfl (by (try simp only [List.map_toArray, List.map_cons, List.map_nil]); first | done | rfl | (simp only [List.length_drop, List.length_take]; rfl)) ?_; (with_reducible refine (gov_MarginOf.calls k3 _ _ t808 t811 t812 _ ?side1 ?side2 A81.out).mono ?_); (case side1 => repeat (first | exact (Kd.R_reads' HO810.out).2.2 | (with_reducible refine Kd.C_alloc ?_ _) | (with_reducible refine Kd.C_drewN ?_ _) | (with_reducible refine Kd.C_drew ?_))); (case side2 => exact (Kd.R_reads' HO810.out).2.1); rintro e w104 ⟨rfl, hb⟩; refine ⟨_, rfl, ?_⟩; have n0_ := Asd.mk (Kd.R_below (by (with_reducible repeat (first | apply Kd.R_alloc | apply Kd.R_drewN | apply Kd.R_drew)); exact HO_13.out) hb); have n1_ := Asd.mk (Kd.R_below (by (with_reducible repeat (first | apply Kd.R_alloc | apply Kd.R_drewN | apply Kd.R_drew)); exact HO810.out) hb); have n2_ := Asd.mk (below_step (by repeat (first | (with_reducible first | exact HB.out | apply below_alloc | apply pbN | apply bd1) | exact HB.out)) hb); clear HO_13; clear HO810; clear HB; have HO_13 := n0_; have HO810 := n1_; have HB := n2_; clear n0_ n1_ n2_; (try clear hb); (try clear hb2); (try clear hk); (try clear hi)) | ((with_reducible refine gate_callee (f := 37) rfl ?_); refine goesL_ (some 157) rfl rfl Tryz.func37 (by kernel_rfl) rfl #[.slice Ao101 x13_3.length co101] rfl (by (try simp only [List.map_toArray, List.map_cons, List.map_nil]); first | done | rfl | (simp only [List.length_drop, List.length_take]; rfl)) ?_; (with_reducible refine (gov_IsStable.calls k3 _ _ x13_3 t813 t814 _ ?side1 ?side2 A82.out).mono ?_); (case side1 => repeat (first | exact (Kd.R_reads' HO_13.out).2.2 | (with_reducible refine Kd.C_alloc ?_ _) | (with_reducible refine Kd.C_drewN ?_ _) | (with_reducible refine Kd.C_drew ?_))); (case side2 => exact (Kd.R_reads' HO_13.out).2.1); rintro e w105 ⟨rfl, hb⟩; refine ⟨_, rfl, ?_⟩; have n0_ := Asd.mk (Kd.R_below (by (with_reducible repeat (first | apply Kd.R_alloc | apply Kd.R_drewN | apply Kd.R_drew)); exact HO_13.out) hb); have n1_ := Asd.mk (Kd.R_below (by (with_reducible repeat (first | apply Kd.R_alloc | apply Kd.R_drewN | apply Kd.R_drew)); exact HO810.out) hb); have n2_ := Asd.mk (below_step (by repeat (first | (with_reducible first | exact HB.out | apply below_alloc | apply pbN | apply bd1) | exact HB.out)) hb); clear HO_13; clear HO810; clear HB; have HO_13 := n0_; have HO810 := n1_; have HB := n2_; clear n0_ n1_ n2_; (try clear hb); (try clear hb2); (try clear hk); (try clear hi)))
            go_ret
            exact ⟨by first | rfl | (simp [errW_none, errW_some] <;> rfl) | (simp [*, errW_none, errW_some] <;> rfl), by repeat (first | (with_reducible first | exact HB.out | apply below_alloc | apply pbN | apply bd1) | exact HB.out)⟩
  ·rw [if_neg c7] at H
   have c7b0 : (t786 == 0) = false := beq_eq_false_iff_ne.mpr c7
   have c7b1 : (t786 != 0) = true := bne_iff_ne.mpr c7
   obtain rfl := Option.some.inj H
   go_enter Tryz.func15, Tryz.ntmps15
   go_wp2_with (first | ((with_reducible refine gate_callee (f := 16) rfl ?_); refine goesL_ (some 22) rfl rfl Tryz.func16 (by kernel_rfl) rfl #[] rfl (by (try simp only [List.map_toArray, List.map_cons, List.map_nil]); first | done | rfl | (simp only [List.length_drop, List.length_take]; rfl)) ?_; (with_reducible refine (gl6_awake.calls  true _ A4.out).mono ?_); rintro e w106 ⟨rfl, hb⟩; refine ⟨_, rfl, ?_⟩; have n0_ := Asd.mk (below_step (by repeat (first | (with_reducible first | exact HB.out | apply below_alloc | apply pbN | apply bd1) | exact HB.out)) hb); clear HB; have HB := n0_; clear n0_; (try clear hb); (try clear hb2); (try clear hk); (try clear hi)) | ((with_reducible refine gate_callee (f := 21) rfl ?_); refine goesL_ (some 25) rfl rfl Tryz.func21 (by kernel_rfl) rfl #[.slice A0 l0.length c0] rfl (by (try simp only [List.map_toArray, List.map_cons, List.map_nil]); first | done | rfl | (simp only [List.length_drop, List.length_take]; rfl)) ?_; (with_reducible refine (gr6_PolynomialErr.calls k _ _ l0 t786 _ ?side1 ?side2 A6.out).mono ?_); (case side1 => repeat (first | exact (Kd.C_below HR0.out HB.out) | (with_reducible refine Kd.C_alloc ?_ _) | (with_reducible refine Kd.C_drewN ?_ _) | (with_reducible refine Kd.C_drew ?_))); (case side2 => exact HC0.out); rintro e w' ⟨rfl, ⟨nd, rfl⟩⟩; refine ⟨_, rfl, ?_⟩))
   go_ret
   exact ⟨by first | rfl | (simp [errW_none, errW_some] <;> rfl) | (simp [*, errW_none, errW_some] <;> rfl), by repeat (first | (with_reducible first | exact HB.out | apply below_alloc | apply pbN | apply bd1) | exact HB.out)⟩
 ·replace c5 := Bool.eq_false_iff.mpr c5
  subst c5
  have H1 : (some false) = some r := by rw [if_neg (show ¬ (false = true) by decide)] at H; exact H
  clear H
  have H := H1
  clear H1
  obtain rfl := Option.some.inj H
  go_enter Tryz.func15, Tryz.ntmps15
  go_wp2_with (first | ((with_reducible refine gate_callee (f := 16) rfl ?_); refine goesL_ (some 22) rfl rfl Tryz.func16 (by kernel_rfl) rfl #[] rfl (by (try simp only [List.map_toArray, List.map_cons, List.map_nil]); first | done | rfl | (simp only [List.length_drop, List.length_take]; rfl)) ?_; (with_reducible refine (gl6_awake.calls  false _ A4.out).mono ?_); rintro e w107 ⟨rfl, hb⟩; refine ⟨_, rfl, ?_⟩; have n0_ := Asd.mk (below_step (by repeat (first | (with_reducible first | exact HB.out | apply below_alloc | apply pbN | apply bd1) | exact HB.out)) hb); clear HB; have HB := n0_; clear n0_; (try clear hb); (try clear hb2); (try clear hk); (try clear hi)))
  go_ret
  exact ⟨by first | rfl | (simp [errW_none, errW_some] <;> rfl) | (simp [*, errW_none, errW_some] <;> rfl), by repeat (first | (with_reducible first | exact HB.out | apply below_alloc | apply pbN | apply bd1) | exact HB.out)⟩
def gl6_GovernorShifts.Pure : Prop := ∀ (l0 : List Int) (a1 : Int) (l2 : List Int), l0.length ≤ maxLen → l0.length * 8 ≤ 140737488351232 → (∀ x ∈ l0, (Lit.int .i64 x).wf = true) → (Lit.int .i64 a1).wf = true → l2.length ≤ maxLen → l2.length * 8 ≤ 140737488351232 → (∀ x ∈ l2, (Lit.int .i64 x).wf = true) → ∃ k, gl6_GovernorShifts.f k l0 a1 l2 = some true
theorem gl6_GovernorShifts.walk (P : gl6_GovernorShifts.Pure) (a0 : Option Addr) (len0 cap0 : Nat) (z0 : List Int) (a1 : Int) (a2 : Option Addr) (len2 cap2 : Nat) (z2 : List Int) (w : World) (w0 : (a0 = none ∧ len0 = 0 ∧ cap0 = 0 ∧ z0 = []) ∨ ∃ x, a0 = some x ∧ len0 ≤ cap0 ∧ cap0 ≤ maxLen ∧ z0.length = cap0 ∧ (∀ i, i < z0.length → w.cell? (x.add i) = some (.int .i64 (z0.getD i 0))) ∧ ∀ n ∈ z0, (Lit.int .i64 n).wf = true) (y0 : len0 * 8 ≤ 140737488351232) (w1 : (Lit.int .i64 a1).wf = true) (w2 : (a2 = none ∧ len2 = 0 ∧ cap2 = 0 ∧ z2 = []) ∨ ∃ x, a2 = some x ∧ len2 ≤ cap2 ∧ cap2 ≤ maxLen ∧ z2.length = cap2 ∧ (∀ i, i < z2.length → w.cell? (x.add i) = some (.int .i64 (z2.getD i 0))) ∧ ∀ n ∈ z2, (Lit.int .i64 n).wf = true) (y2 : len2 * 8 ≤ 140737488351232) :
  Calls Tryz.prog 15 #[.slice a0 len0 cap0, .int .i64 a1, .slice a2 len2 cap2] w fun e w' => e = .returned (.bool true) ∧ Below w.heap.size w w' := by
 obtain ⟨l0, rfl, hr0, hm0, hw0, hc0⟩ := ReadsInt.ofRowC w0
 obtain ⟨l2, rfl, hr2, hm2, hw2, hc2⟩ := ReadsInt.ofRowC w2
 obtain ⟨k, h⟩ := P l0 a1 l2 hm0 y0 hw0 w1 hm2 y2 hw2
 refine (gl6_GovernorShifts.calls k _ _ l0 a1 _ _ l2 true w (Kd.C_of_reads (d := (0 : Int)) (h1 := fun _ => rfl) hr0) hc0 (Kd.C_of_reads (d := (0 : Int)) (h1 := fun _ => rfl) hr2) hc2 h).mono ?_
 rintro e w' ⟨rfl, hd⟩
 exact ⟨rfl, hd⟩
end Go.Proofs.YtmpondcccbmlhaaGreat.Q
