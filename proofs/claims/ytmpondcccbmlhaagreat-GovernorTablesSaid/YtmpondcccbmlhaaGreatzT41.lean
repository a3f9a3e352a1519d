/- A part of the claim T: the texts ExW, without what the claim does not lean on. -/
import Derived.Test.YtmpondcccbmlhaaGreatzT35
import Derived.Test.YtmpondcccbmlhaaGreatzT36
import Derived.Test.YtmpondcccbmlhaaGreatzT38
import Derived.Test.YtmpondcccbmlhaaGreatzT39
import Derived.Test.YtmpondcccbmlhaaGreatzT40
namespace Go.Proofs.YtmpondcccbmlhaaGreat.Ext
open Go.RowKit Go.Shelf Go.Proofs.YtmpondcccbmlhaaGreatW.PrintWords Go.Proofs.YtmpondcccbmlhaaGreatW.PrintLast Go.Proofs.YtmpondcccbmlhaaGreatW.PrintMore
open Q (S58 z58 k58)
theorem stab4 (a b c d : Int) (ha : 0 < a) : stab [a, b, c, d] = decide (0 < b ∧ 0 < d ∧ 0 < b * c - a * d) := by
 unfold stab
 rw [decide_eq_decide]; exact hur4 a b c d ha
theorem K0_big : 60000000000000010 < K0 := by unfold K0; omega
theorem ok_of {p : List Int} (h2 : 2 ≤ p.length) (h5 : p.length ≤ 5) (hb : ∀ i, i < p.length → (ent p i).natAbs ≤ 1000) : PolyOk p :=
 ⟨h2, h5, fun i => by
  by_cases h : i < p.length
  ·exact hb i h
  ·rw [ent_over (by omega)]; decide⟩
theorem ex_stable (a b c d : Int) (ha : 0 < a) (h1 : a ≤ 10) (h2 : b.natAbs ≤ 10) (h3 : c.natAbs ≤ 10) (h4 : d.natAbs ≤ 10) : Q.gov_isStable.f K0 [a, b, c, d] = some (decide (0 < b ∧ 0 < d ∧ 0 < b * c - a * d)) := by
 rw [stable_eval (ok_of (by simp) (by simp) (fun i hi => ?_)) K0 K0_big, stab4 a b c d ha]
 simp at hi
 obtain rfl | rfl | rfl | rfl : i = 0 ∨ i = 1 ∨ i = 2 ∨ i = 3 := by omega
 ·show a.natAbs ≤ 1000; omega
 ·show b.natAbs ≤ 1000; omega
 ·show c.natAbs ≤ 1000; omega
 ·show d.natAbs ≤ 1000; omega
theorem ex_wanted : Q.gov_WantedFor.f 10 2 1 2 50 7 = some (48, 0) := by decide +kernel
theorem ex_quads : gov_QuadrantsOf.f [1, 2, 3, 1] [0, 1, 2, 3] = some ([0, 1, 2, 2], 0) := by decide +kernel
theorem ex_robust : gov_IsRobust.f [⟨1, 1⟩, ⟨2, 3⟩, ⟨3, 4⟩, ⟨1, 2⟩] = some (true, 0) := by
 unfold gov_IsRobust.f
 rw [if_pos (by decide +kernel)]
 have e : cornersOf [⟨1, 1⟩, ⟨2, 3⟩, ⟨3, 4⟩, ⟨1, 2⟩] = [[1, 3, 3, 1], [1, 2, 4, 2], [1, 2, 3, 2], [1, 3, 4, 1]] := by decide +kernel
 rw [e]
 simp only [allStable]
 rw [ex_stable 1 3 3 1 (by omega) (by omega) (by decide) (by decide) (by decide), ex_stable 1 2 4 2 (by omega) (by omega) (by decide) (by decide) (by decide), ex_stable 1 2 3 2 (by omega) (by omega) (by decide) (by decide) (by decide), ex_stable 1 3 4 1 (by omega) (by omega) (by decide) (by decide) (by decide)]
 decide
theorem ex_unstable : gov_UnstableSet.f [1, 1, 2, 1] [[0, 0, 0, 2]] = some ([0], 0) := by
 unfold gov_UnstableSet.f
 rw [if_pos (by decide +kernel), show setsTo [[(0 : Int), 0, 0, 2]].length ([[(0 : Int), 0, 0, 2]].length + 1) = [[], [0]] from by decide +kernel]
 simp only [firstUnstable]
 rw [show sumTo [1, 1, 2, 1] [[0, 0, 0, 2]] [] ([] : List Int).length = [1, 1, 2, 1] from rfl, show sumTo [1, 1, 2, 1] [[0, 0, 0, 2]] [0] [(0 : Int)].length = [1, 1, 2, 3] from by decide +kernel]
 rw [ex_stable 1 1 2 1 (by omega) (by omega) (by decide) (by decide) (by decide), ex_stable 1 1 2 3 (by omega) (by omega) (by decide) (by decide) (by decide)]
 decide
def exV (i : Nat) : Int := if i = 0 then 100 else if i = 1 then 103 else 200
def exM (_ : Nat) : Bool := false
theorem srt3 (a b c : Int) : (srt [a, b, c]).getD 1 0 = max (min a b) (min (max a b) c) := by
 unfold srt
 simp [List.mergeSort, List.MergeSort.Internal.splitInTwo, List.merge]
 by_cases h1 : a ≤ b <;> by_cases h2 : a ≤ c <;> by_cases h3 : b ≤ c <;> simp [h1, h2, h3] <;> omega
theorem ex_vote : (voteOf exV exM 5).1 = 103 ∧ (voteOf exV exM 5).2.1 0 = false ∧ (voteOf exV exM 5).2.1 1 = false ∧ (voteOf exV exM 5).2.1 2 = true ∧ (voteOf exV exM 5).2.2 = 0 := by
 have e1 : voteErr exV exM 5 = 0 := by decide +kernel
 have e2 : thereTo exV exM 3 = [100, 103, 200] := by decide +kernel
 have e3 : (srt [100, 103, 200]).getD 1 0 = 103 := by rw [srt3]; decide
 have e4 : ¬ 1 < oddTo exV 103 5 3 := by decide +kernel
 unfold voteOf
 rw [if_pos e1, e2, if_neg (by decide), e3, if_neg e4]
 decide +kernel
theorem ex_ints4 : Q.gba_Ints.f 10 [0, 1, 2, 2] [0, 1, 2, 2] = some true := by decide +kernel
theorem ex_ints1 : Q.gba_Ints.f 10 [0] [0] = some true := by decide +kernel
set_option maxHeartbeats 8000000 in
set_option maxRecDepth 100000 in
theorem awake_walk (w : World) : Calls Tryz.prog 16 #[] w fun e w' => e = .returned (.bool true) ∧ Below w.heap.size w w' := by
 go_enter Tryz.func16, Tryz.ntmps16
 go_wp2_with fail
 refine (Q.gl6_Rules.calls 2 1 2 50 _ rfl).mono ?_
 rintro e w1 ⟨rfl, hb1⟩
 have HB1 := Lib.hid hb1
 clear hb1
 go_wp2_with fail
 refine (Q.gov_WantedFor.calls 10 2 1 2 50 7 48 0 _ ex_wanted).mono ?_
 rintro e w2 ⟨rfl, hb2⟩
 have HB2 := Lib.hid (bl_next HB1.out hb2)
 clear hb2
 go_upto_region 2 with fail
 go_wp2_with fail
 have hl2 : Below w2.heap.size w2 ((w2.alloc (Obj.cells #[Value.int IntKind.i64 1, Value.int IntKind.i64 2, Value.int IntKind.i64 3, Value.int IntKind.i64 1] 3)).alloc (Obj.cells #[Value.int IntKind.i64 0, Value.int IntKind.i64 1, Value.int IntKind.i64 2, Value.int IntKind.i64 3] 3)) := bl_alloc (bl_alloc (Below.refl _ _) _) _
 have hC1 := Kd.C_alloc (C_new w2 3 [1, 2, 3, 1] (by simp)) (Obj.cells #[Value.int IntKind.i64 0, Value.int IntKind.i64 1, Value.int IntKind.i64 2, Value.int IntKind.i64 3] 3)
 have hC2 := C_new (w2.alloc (Obj.cells #[Value.int IntKind.i64 1, Value.int IntKind.i64 2, Value.int IntKind.i64 3, Value.int IntKind.i64 1] 3)) 3 [0, 1, 2, 3] (by simp)
 rw [World.size_alloc] at hC2
 refine (gov_QuadrantsOf.calls _ 4 [1, 2, 3, 1] _ 4 [0, 1, 2, 3] [0, 1, 2, 2] 0 _ hC1 (by simp) hC2 (by simp) ex_quads).mono ?_
 rintro e w3 ⟨v3, rfl, hR3, hb3⟩
 obtain ⟨A3, c3, rfl, hl3, hC3⟩ := Kd.R_reads hR3
 have HC3 := Lib.hid hC3
 have HB3 := Lib.hid (bl_next (bl_next HB2.out hl2) hb3)
 clear hl2 hC1 hC2 hR3 hC3 hb3
 go_wp2_with fail
 refine (Q.gl6_Box.calls [⟨1, 1⟩, ⟨2, 3⟩, ⟨3, 4⟩, ⟨1, 2⟩] _ rfl).mono ?_
 rintro e w4 ⟨v4, rfl, hR4, hb4⟩
 obtain ⟨A4, c4, rfl, hl4, hC4⟩ := Kd.R_reads hR4
 have HC4 := Lib.hid hC4
 have HB4 := Lib.hid (bl_next HB3.out hb4)
 have HC3 := Lib.hid (Kd.C_below HC3.out hb4)
 clear hR4 hC4 hb4
 go_wp2_with fail
 refine (gov_IsRobust.calls A4 c4 [⟨1, 1⟩, ⟨2, 3⟩, ⟨3, 4⟩, ⟨1, 2⟩] true 0 _ HC4.out hl4 ex_robust).mono ?_
 rintro e w5 ⟨rfl, hb5⟩
 have HB5 := Lib.hid (bl_next HB4.out hb5)
 have HC3 := Lib.hid (Kd.C_below HC3.out hb5)
 clear hb5
 go_wp2_with fail
 refine (Q.gl6_Loop.calls [1, 1, 2, 1] [[0, 0, 0, 2]] _ rfl).mono ?_
 rintro e w6 ⟨v6, u6, rfl, hR6, hN6, hb6⟩
 obtain ⟨A6, c6, rfl, hl6, hC6⟩ := Kd.R_reads hR6
 obtain ⟨A7, c7, rfl, hl7, hC7⟩ := Kd.N_reads hN6
 have HC6 := Lib.hid hC6
 have HC7 := Lib.hid hC7
 have HB6 := Lib.hid (bl_next HB5.out hb6)
 have HC3 := Lib.hid (Kd.C_below HC3.out hb6)
 clear hR6 hN6 hC6 hC7 hb6
 go_wp2_with fail
 refine (gov_UnstableSet.calls A6 c6 [1, 1, 2, 1] A7 c7 [[0, 0, 0, 2]] [0] 0 _ HC6.out hl6 HC7.out hl7 ex_unstable).mono ?_
 rintro e w7 ⟨v7, rfl, hR7, hb7⟩
 obtain ⟨A8, c8, rfl, hl8, hC8⟩ := Kd.R_reads hR7
 have HC8 := Lib.hid hC8
 have HB7 := Lib.hid (bl_next HB6.out hb7)
 have HC3 := Lib.hid (Kd.C_below HC3.out hb7)
 clear hR7 hC8 hb7
 go_wp2_with fail
 have hv := gov_VoteOf.calls exV exM 5 w7
 obtain ⟨x0, x1, x2, x3, x4⟩ := ex_vote
 rw [x0, x1, x2, x3, x4] at hv
 refine hv.mono ?_
 clear hv x0 x1 x2 x3 x4
 rintro e w8 ⟨rfl, hb8⟩
 have HB8 := Lib.hid (bl_next HB7.out hb8)
 have HC3 := Lib.hid (Kd.C_below HC3.out hb8)
 have HC8 := Lib.hid (Kd.C_below HC8.out hb8)
 clear hb8
 go_wp2_with fail
 have hnew := blk_new w8 (Obj.cells #[Value.int IntKind.i64 103, Value.bool false, Value.bool false, Value.bool true] 112)
 have hb9 : Below w8.heap.size w8 (w8.alloc (Obj.cells #[Value.int IntKind.i64 103, Value.bool false, Value.bool false, Value.bool true] 112)) := bl_alloc (Below.refl _ _) _
 have hC4 := C_new (w8.alloc (Obj.cells #[Value.int IntKind.i64 103, Value.bool false, Value.bool false, Value.bool true] 112)) 3 [0, 1, 2, 2] (by simp)
 rw [World.size_alloc] at hC4
 have hb10 : Below w8.heap.size w8 ((w8.alloc (Obj.cells #[Value.int IntKind.i64 103, Value.bool false, Value.bool false, Value.bool true] 112)).alloc (Obj.cells #[Value.int IntKind.i64 0, Value.int IntKind.i64 1, Value.int IntKind.i64 2, Value.int IntKind.i64 2] 3)) := bl_alloc hb9 _
 refine (Q.gba_Ints.calls 10 A3 c3 [0, 1, 2, 2] _ 4 [0, 1, 2, 2] true _ (Kd.C_below HC3.out hb10) hl3 hC4 (by simp) ex_ints4).mono ?_
 rintro e w9 ⟨rfl, hd9⟩
 have hb11 := bl_drawn hb10 hd9
 have hn9 := (bl_drawn (bl_alloc (Below.refl _ (w8.alloc (Obj.cells #[Value.int IntKind.i64 103, Value.bool false, Value.bool false, Value.bool true] 112))) _) hd9).block _ (Array.getElem?_eq_some_iff.1 hnew).1
 have hnew9 := hn9.trans hnew
 have HB9 := Lib.hid (bl_next HB8.out hb11)
 have HC8 := Lib.hid (Kd.C_below HC8.out hb11)
 have HN9 := Lib.hid hnew9
 have x0 := (blk_cell hnew9 0).trans (rfl : _ = some (Value.int .i64 103))
 have x1 := (blk_cell hnew9 1).trans (rfl : _ = some (Value.bool false))
 have x2 := (blk_cell hnew9 2).trans (rfl : _ = some (Value.bool false))
 have x3 := (blk_cell hnew9 3).trans (rfl : _ = some (Value.bool true))
 clear hnew hb9 hC4 hb10 hd9 hb11 hn9 hnew9 HC3
 have hlt8 : w8.heap.size < w9.heap.size := block_lt_of_cell x0
 generalize w8.heap.size = b8 at *
 go_wp2_with fail
 have hC5 := C_new w9 3 [0] (by simp)
 have hb12 : Below w9.heap.size w9 (w9.alloc (Obj.cells #[Value.int IntKind.i64 0] 3)) := bl_alloc (Below.refl _ _) _
 refine (Q.gba_Ints.calls 10 A8 c8 [0] _ 1 [0] true _ (Kd.C_below HC8.out hb12) hl8 hC5 (by simp) ex_ints1).mono ?_
 rintro e w10 ⟨rfl, hd10⟩
 have hb13 := bl_drawn hb12 hd10
 have HB10 := Lib.hid (bl_next HB9.out hb13)
 have x0 := pw_cell_below hb13 x0
 have x1 := pw_cell_below hb13 x1
 have x2 := pw_cell_below hb13 x2
 have x3 := pw_cell_below hb13 x3
 clear hC5 hb12 hd10 hb13 HC8 hlt8
 have heq := fun w => eq_odd 9997 w false false true false false true
 simp only [Nat.reduceAdd] at heq
 go_wp2_with fail
 go_ret
 exact ⟨rfl, HB10.out⟩
def gl6_awake.f : Option Bool := some true
theorem gl6_awake.calls (r : Bool) (w : World) (h : gl6_awake.f = some r) : Calls Tryz.prog 16 #[] w fun e w' => e = .returned (.bool r) ∧ Below w.heap.size w w' := by
 obtain rfl := Option.some.inj h
 exact awake_walk w
end Go.Proofs.YtmpondcccbmlhaaGreat.Ext
