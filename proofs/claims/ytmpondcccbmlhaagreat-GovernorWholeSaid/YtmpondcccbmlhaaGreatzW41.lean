/- A part of the claim W: the texts ExW, Q25, PuWhole, without what the claim does not lean on. -/
import Derived.ArgAppend
import Derived.Below
import Derived.BigQuiet
import Derived.Deep.AppendLies
import Derived.Deep.CutBlock
import Derived.Deep.DeepCutAuto
import Derived.Deep.Draws
import Derived.Deep.LoopGhost
import Derived.Deep.OwnRows
import Derived.Deep.QuietTactic
import Derived.Deep.RegionHeld3
import Derived.Deep.RegionWith
import Derived.Deep.WholeRow
import Derived.Ground.SlsfProg
import Derived.KernelRfl
import Derived.Laws.BitsLemmas
import Derived.Laws.BytesArg
import Derived.Laws.ComplexArith
import Derived.Laws.IdiomCopy
import Derived.Laws.MakeOwn
import Derived.Laws.OwnMore
import Derived.Laws.Rows
import Derived.Laws.Slices
import Derived.Laws.StructEq
import Derived.Lib.AppendStr
import Derived.Lib.ConvBytes
import Derived.Lib.Hide
import Derived.Lib.LazyBuf
import Derived.LoopIn
import Derived.LoopNIn
import Derived.Maps.AppendAt
import Derived.OrdersHeld
import Derived.Outline
import Derived.OwnWalk
import Derived.OwnWalkIn
import Derived.RangeFuncBound
import Derived.RangeFuncCalls
import Derived.RangeFuncLeaves
import Derived.RangeFuncNested
import Derived.RowKit
import Derived.RowKit3
import Derived.Shelf.Abstract
import Derived.Shelf.RegionOpen
import Derived.Shelf.SlSortCmp.HeapSort1
import Derived.Shelf.SlSortCmp.Insertion
import Derived.Shelf.SlSortCmp.Insertion1
import Derived.Shelf.SlSortCmp.Median1
import Derived.Shelf.SlSortCmp.PartialInsertion1
import Derived.Shelf.SlSortCmp.Partition1
import Derived.Shelf.SlSortCmp.PartitionEqual1
import Derived.Shelf.SlSortCmp.Pdq1
import Derived.Shelf.SlSortCmp.Pivot1
import Derived.Shelf.SlSortCmp.ReverseRange1
import Derived.Shelf.SlSortCmp.SiftDown1
import Derived.Shelf.SlSortCmp.Whole1
import Derived.Shelf.Slices.Empties2
import Derived.Shelf.Slices.Equal
import Derived.Shelf.Slices.In.SortNone
import Derived.Shelf.Small.Bits
import Derived.Shelf.Sort.Plain
import Derived.Shelf.Strconv.Itoa0
import Derived.Sort.CutIn
import Derived.Tactics
import Derived.TacticsInMore
import Derived.WalkKit
import Derived.WalkLawsBesides
import Derived.WideLaws
import Derived.Test.YtmpondcccbmlhaaGreatProg
import Derived.Test.YtmpondcccbmlhaaGreatzW0
import Derived.Test.YtmpondcccbmlhaaGreatzW1
import Derived.Test.YtmpondcccbmlhaaGreatzW2
import Derived.Test.YtmpondcccbmlhaaGreatzW3
import Derived.Test.YtmpondcccbmlhaaGreatzW4
import Derived.Test.YtmpondcccbmlhaaGreatzW5
import Derived.Test.YtmpondcccbmlhaaGreatzW6
import Derived.Test.YtmpondcccbmlhaaGreatzW7
import Derived.Test.YtmpondcccbmlhaaGreatzW8
import Derived.Test.YtmpondcccbmlhaaGreatzW9
import Derived.Test.YtmpondcccbmlhaaGreatzW10
import Derived.Test.YtmpondcccbmlhaaGreatzW11
import Derived.Test.YtmpondcccbmlhaaGreatzW12
import Derived.Test.YtmpondcccbmlhaaGreatzW13
import Derived.Test.YtmpondcccbmlhaaGreatzW14
import Derived.Test.YtmpondcccbmlhaaGreatzW15
import Derived.Test.YtmpondcccbmlhaaGreatzW16
import Derived.Test.YtmpondcccbmlhaaGreatzW17
import Derived.Test.YtmpondcccbmlhaaGreatzW18
import Derived.Test.YtmpondcccbmlhaaGreatzW19
import Derived.Test.YtmpondcccbmlhaaGreatzW20
import Derived.Test.YtmpondcccbmlhaaGreatzW21
import Derived.Test.YtmpondcccbmlhaaGreatzW22
import Derived.Test.YtmpondcccbmlhaaGreatzW23
import Derived.Test.YtmpondcccbmlhaaGreatzW24
import Derived.Test.YtmpondcccbmlhaaGreatzW25
import Derived.Test.YtmpondcccbmlhaaGreatzW26
import Derived.Test.YtmpondcccbmlhaaGreatzW27
import Derived.Test.YtmpondcccbmlhaaGreatzW28
import Derived.Test.YtmpondcccbmlhaaGreatzW29
import Derived.Test.YtmpondcccbmlhaaGreatzW30
import Derived.Test.YtmpondcccbmlhaaGreatzW31
import Derived.Test.YtmpondcccbmlhaaGreatzW32
import Derived.Test.YtmpondcccbmlhaaGreatzW33
import Derived.Test.YtmpondcccbmlhaaGreatzW34
import Derived.Test.YtmpondcccbmlhaaGreatzW35
import Derived.Test.YtmpondcccbmlhaaGreatzW36
import Derived.Test.YtmpondcccbmlhaaGreatzW37
import Derived.Test.YtmpondcccbmlhaaGreatzW38
import Derived.Test.YtmpondcccbmlhaaGreatzW39
import Derived.Test.YtmpondcccbmlhaaGreatzW40
namespace Go.Proofs.YtmpondcccbmlhaaGreat.Ext
open Go.RowKit Go.Shelf Go.Proofs.YtmpondcccbmlhaaGreatW.PrintWords Go.Proofs.YtmpondcccbmlhaaGreatW.PrintLast Go.Proofs.YtmpondcccbmlhaaGreatW.PrintMore
open Q (S58 z58 k58)
theorem stab4 (a b c d : Int) (ha : 0 < a) : stab [a, b, c, d] = decide (0 < b ∧ 0 < d ∧ 0 < b * c - a * d) := by
  unfold stab
  rw [decide_eq_decide]; exact hur4 a b c d ha
theorem K0_big : 60000000000000010 < K0 := by unfold K0; omega
theorem ok_of {p : List Int} (h2 : 2 ≤ p.length) (h5 : p.length ≤ 5) (hb : ∀ i, i < p.length → (ent p i).natAbs ≤ 1000) : PolyOk p :=
  ⟨h2, h5, fun i => by
    by_cases h : i < p.length
    · exact hb i h
    · rw [ent_over (by omega)]; decide⟩
theorem ex_stable (a b c d : Int) (ha : 0 < a) (h1 : a ≤ 10) (h2 : b.natAbs ≤ 10) (h3 : c.natAbs ≤ 10) (h4 : d.natAbs ≤ 10) : Q.governor_isStable.f K0 [a, b, c, d] = some (decide (0 < b ∧ 0 < d ∧ 0 < b * c - a * d)) := by
  rw [stable_eval (ok_of (by simp) (by simp) (fun i hi => ?_)) K0 K0_big, stab4 a b c d ha]
  simp at hi
  obtain rfl | rfl | rfl | rfl : i = 0 ∨ i = 1 ∨ i = 2 ∨ i = 3 := by omega
  · show a.natAbs ≤ 1000; omega
  · show b.natAbs ≤ 1000; omega
  · show c.natAbs ≤ 1000; omega
  · show d.natAbs ≤ 1000; omega
theorem ex_wanted : Q.governor_WantedFor.f 10 2 1 2 50 7 = some (48, 0) := by decide +kernel
theorem ex_quads : governor_QuadrantsOf.f [1, 2, 3, 1] [0, 1, 2, 3] = some ([0, 1, 2, 2], 0) := by decide +kernel
theorem ex_robust : governor_IsRobust.f [⟨1, 1⟩, ⟨2, 3⟩, ⟨3, 4⟩, ⟨1, 2⟩] = some (true, 0) := by
  unfold governor_IsRobust.f
  rw [if_pos (by decide +kernel)]
  have e : cornersOf [⟨1, 1⟩, ⟨2, 3⟩, ⟨3, 4⟩, ⟨1, 2⟩] = [[1, 3, 3, 1], [1, 2, 4, 2], [1, 2, 3, 2], [1, 3, 4, 1]] := by decide +kernel
  rw [e]
  simp only [allStable]
  rw [ex_stable 1 3 3 1 (by omega) (by omega) (by decide) (by decide) (by decide), ex_stable 1 2 4 2 (by omega) (by omega) (by decide) (by decide) (by decide), ex_stable 1 2 3 2 (by omega) (by omega) (by decide) (by decide) (by decide), ex_stable 1 3 4 1 (by omega) (by omega) (by decide) (by decide) (by decide)]
  decide
theorem ex_unstable : governor_UnstableSet.f [1, 1, 2, 1] [[0, 0, 0, 2]] = some ([0], 0) := by
  unfold governor_UnstableSet.f
  rw [if_pos (by decide +kernel), show setsTo [[(0 : Int), 0, 0, 2]].length ([[(0 : Int), 0, 0, 2]].length + 1) = [[], [0]] from by decide +kernel]
  simp only [firstUnstable]
  rw [show sumTo [1, 1, 2, 1] [[0, 0, 0, 2]] [] ([] : List Int).length = [1, 1, 2, 1] from rfl, show sumTo [1, 1, 2, 1] [[0, 0, 0, 2]] [0] [(0 : Int)].length = [1, 1, 2, 3] from by decide +kernel]
  rw [ex_stable 1 1 2 1 (by omega) (by omega) (by decide) (by decide) (by decide), ex_stable 1 1 2 3 (by omega) (by omega) (by decide) (by decide) (by decide)]
  decide
def exV (i : Nat) : Int := if i = 0 then 100 else if i = 1 then 103 else 200
def exM (_ : Nat) : Bool := false
theorem srt3 (a b c : Int) : (srt [a, b, c]).getD 1 0 = max (min a b) (min (max a b) c) := by
  unfold srt
  simp [List.mergeSort, List.MergeSort.Internal.splitInTwo, List.merge]
  by_cases h1 : a ≤ b <;> by_cases h2 : a ≤ c <;> by_cases h3 : b ≤ c <;> simp [h1, h2, h3] <;> omega
theorem ex_vote : (voteOf exV exM 5).1 = 103 ∧ (voteOf exV exM 5).2.1 0 = false ∧ (voteOf exV exM 5).2.1 1 = false ∧ (voteOf exV exM 5).2.1 2 = true ∧ (voteOf exV exM 5).2.2 = 0 := by
  have e1 : voteErr exV exM 5 = 0 := by decide +kernel
  have e2 : thereTo exV exM 3 = [100, 103, 200] := by decide +kernel
  have e3 : (srt [100, 103, 200]).getD 1 0 = 103 := by rw [srt3]; decide
  have e4 : ¬ 1 < oddTo exV 103 5 3 := by decide +kernel
  unfold voteOf
  rw [if_pos e1, e2, if_neg (by decide), e3, if_neg e4]
  decide +kernel
theorem ex_ints4 : Q.guidevanebase_Ints.f 10 [0, 1, 2, 2] [0, 1, 2, 2] = some true := by decide +kernel
theorem ex_ints1 : Q.guidevanebase_Ints.f 10 [0] [0] = some true := by decide +kernel
set_option maxHeartbeats 8000000 in
set_option maxRecDepth 100000 in
theorem awake_walk (w : World) : Calls Tryz.prog 16 #[] w fun e w' => e = .returned (.bool true) ∧ Below w.heap.size w w' := by
  go_enter Tryz.func16, Tryz.ntmps16
  go_wp2_with fail
  refine (Q.guidevanelaw06_Rules.calls 2 1 2 50 _ rfl).mono ?_
  rintro e w1 ⟨rfl, hb1⟩
  have HB1 := Lib.hid hb1
  clear hb1
  go_wp2_with fail
  refine (Q.governor_WantedFor.calls 10 2 1 2 50 7 48 0 _ ex_wanted).mono ?_
  rintro e w2 ⟨rfl, hb2⟩
  have HB2 := Lib.hid (bl_next HB1.out hb2)
  clear hb2
  go_upto_region 2 with fail
  go_wp2_with fail
  have hl2 : Below w2.heap.size w2 ((w2.alloc (Obj.cells #[Value.int IntKind.i64 1, Value.int IntKind.i64 2, Value.int IntKind.i64 3, Value.int IntKind.i64 1] 3)).alloc (Obj.cells #[Value.int IntKind.i64 0, Value.int IntKind.i64 1, Value.int IntKind.i64 2, Value.int IntKind.i64 3] 3)) := bl_alloc (bl_alloc (Below.refl _ _) _) _
  have hC1 := Kd.C_alloc (C_new w2 3 [1, 2, 3, 1] (by simp)) (Obj.cells #[Value.int IntKind.i64 0, Value.int IntKind.i64 1, Value.int IntKind.i64 2, Value.int IntKind.i64 3] 3)
  have hC2 := C_new (w2.alloc (Obj.cells #[Value.int IntKind.i64 1, Value.int IntKind.i64 2, Value.int IntKind.i64 3, Value.int IntKind.i64 1] 3)) 3 [0, 1, 2, 3] (by simp)
  rw [World.size_alloc] at hC2
  refine (governor_QuadrantsOf.calls _ 4 [1, 2, 3, 1] _ 4 [0, 1, 2, 3] [0, 1, 2, 2] 0 _ hC1 (by simp) hC2 (by simp) ex_quads).mono ?_
  rintro e w3 ⟨v3, rfl, hR3, hb3⟩
  obtain ⟨A3, c3, rfl, hl3, hC3⟩ := Kd.R_reads hR3
  have HC3 := Lib.hid hC3
  have HB3 := Lib.hid (bl_next (bl_next HB2.out hl2) hb3)
  clear hl2 hC1 hC2 hR3 hC3 hb3
  go_wp2_with fail
  refine (Q.guidevanelaw06_Box.calls [⟨1, 1⟩, ⟨2, 3⟩, ⟨3, 4⟩, ⟨1, 2⟩] _ rfl).mono ?_
  rintro e w4 ⟨v4, rfl, hR4, hb4⟩
  obtain ⟨A4, c4, rfl, hl4, hC4⟩ := Kd.R_reads hR4
  have HC4 := Lib.hid hC4
  have HB4 := Lib.hid (bl_next HB3.out hb4)
  have HC3 := Lib.hid (Kd.C_below HC3.out hb4)
  clear hR4 hC4 hb4
  go_wp2_with fail
  refine (governor_IsRobust.calls A4 c4 [⟨1, 1⟩, ⟨2, 3⟩, ⟨3, 4⟩, ⟨1, 2⟩] true 0 _ HC4.out hl4 ex_robust).mono ?_
  rintro e w5 ⟨rfl, hb5⟩
  have HB5 := Lib.hid (bl_next HB4.out hb5)
  have HC3 := Lib.hid (Kd.C_below HC3.out hb5)
  clear hb5
  go_wp2_with fail
  refine (Q.guidevanelaw06_Loop.calls [1, 1, 2, 1] [[0, 0, 0, 2]] _ rfl).mono ?_
  rintro e w6 ⟨v6, u6, rfl, hR6, hN6, hb6⟩
  obtain ⟨A6, c6, rfl, hl6, hC6⟩ := Kd.R_reads hR6
  obtain ⟨A7, c7, rfl, hl7, hC7⟩ := Kd.N_reads hN6
  have HC6 := Lib.hid hC6
  have HC7 := Lib.hid hC7
  have HB6 := Lib.hid (bl_next HB5.out hb6)
  have HC3 := Lib.hid (Kd.C_below HC3.out hb6)
  clear hR6 hN6 hC6 hC7 hb6
  go_wp2_with fail
  refine (governor_UnstableSet.calls A6 c6 [1, 1, 2, 1] A7 c7 [[0, 0, 0, 2]] [0] 0 _ HC6.out hl6 HC7.out hl7 ex_unstable).mono ?_
  rintro e w7 ⟨v7, rfl, hR7, hb7⟩
  obtain ⟨A8, c8, rfl, hl8, hC8⟩ := Kd.R_reads hR7
  have HC8 := Lib.hid hC8
  have HB7 := Lib.hid (bl_next HB6.out hb7)
  have HC3 := Lib.hid (Kd.C_below HC3.out hb7)
  clear hR7 hC8 hb7
  go_wp2_with fail
  have hv := governor_VoteOf.calls exV exM 5 w7
  obtain ⟨x0, x1, x2, x3, x4⟩ := ex_vote
  rw [x0, x1, x2, x3, x4] at hv
  refine hv.mono ?_
  clear hv x0 x1 x2 x3 x4
  rintro e w8 ⟨rfl, hb8⟩
  have HB8 := Lib.hid (bl_next HB7.out hb8)
  have HC3 := Lib.hid (Kd.C_below HC3.out hb8)
  have HC8 := Lib.hid (Kd.C_below HC8.out hb8)
  clear hb8
  go_wp2_with fail
  have hnew := blk_new w8 (Obj.cells #[Value.int IntKind.i64 103, Value.bool false, Value.bool false, Value.bool true] 112)
  have hb9 : Below w8.heap.size w8 (w8.alloc (Obj.cells #[Value.int IntKind.i64 103, Value.bool false, Value.bool false, Value.bool true] 112)) := bl_alloc (Below.refl _ _) _
  have hC4 := C_new (w8.alloc (Obj.cells #[Value.int IntKind.i64 103, Value.bool false, Value.bool false, Value.bool true] 112)) 3 [0, 1, 2, 2] (by simp)
  rw [World.size_alloc] at hC4
  have hb10 : Below w8.heap.size w8 ((w8.alloc (Obj.cells #[Value.int IntKind.i64 103, Value.bool false, Value.bool false, Value.bool true] 112)).alloc (Obj.cells #[Value.int IntKind.i64 0, Value.int IntKind.i64 1, Value.int IntKind.i64 2, Value.int IntKind.i64 2] 3)) := bl_alloc hb9 _
  refine (Q.guidevanebase_Ints.calls 10 A3 c3 [0, 1, 2, 2] _ 4 [0, 1, 2, 2] true _ (Kd.C_below HC3.out hb10) hl3 hC4 (by simp) ex_ints4).mono ?_
  rintro e w9 ⟨rfl, hd9⟩
  have hb11 := bl_drawn hb10 hd9
  have hn9 := (bl_drawn (bl_alloc (Below.refl _ (w8.alloc (Obj.cells #[Value.int IntKind.i64 103, Value.bool false, Value.bool false, Value.bool true] 112))) _) hd9).block _ (Array.getElem?_eq_some_iff.1 hnew).1
  have hnew9 := hn9.trans hnew
  have HB9 := Lib.hid (bl_next HB8.out hb11)
  have HC8 := Lib.hid (Kd.C_below HC8.out hb11)
  have HN9 := Lib.hid hnew9
  have x0 := (blk_cell hnew9 0).trans (rfl : _ = some (Value.int .i64 103))
  have x1 := (blk_cell hnew9 1).trans (rfl : _ = some (Value.bool false))
  have x2 := (blk_cell hnew9 2).trans (rfl : _ = some (Value.bool false))
  have x3 := (blk_cell hnew9 3).trans (rfl : _ = some (Value.bool true))
  clear hnew hb9 hC4 hb10 hd9 hb11 hn9 hnew9 HC3
  have hlt8 : w8.heap.size < w9.heap.size := block_lt_of_cell x0
  generalize w8.heap.size = b8 at *
  go_wp2_with fail
  have hC5 := C_new w9 3 [0] (by simp)
  have hb12 : Below w9.heap.size w9 (w9.alloc (Obj.cells #[Value.int IntKind.i64 0] 3)) := bl_alloc (Below.refl _ _) _
  refine (Q.guidevanebase_Ints.calls 10 A8 c8 [0] _ 1 [0] true _ (Kd.C_below HC8.out hb12) hl8 hC5 (by simp) ex_ints1).mono ?_
  rintro e w10 ⟨rfl, hd10⟩
  have hb13 := bl_drawn hb12 hd10
  have HB10 := Lib.hid (bl_next HB9.out hb13)
  have x0 := pw_cell_below hb13 x0
  have x1 := pw_cell_below hb13 x1
  have x2 := pw_cell_below hb13 x2
  have x3 := pw_cell_below hb13 x3
  clear hC5 hb12 hd10 hb13 HC8 hlt8
  have heq := fun w => eq_odd 9997 w false false true false false true
  simp only [Nat.reduceAdd] at heq
  go_wp2_with fail
  go_ret
  exact ⟨rfl, HB10.out⟩
def guidevanelaw06_awake.f : Option Bool := some true
theorem guidevanelaw06_awake.calls (r : Bool) (w : World) (h : guidevanelaw06_awake.f = some r) : Calls Tryz.prog 16 #[] w fun e w' => e = .returned (.bool r) ∧ Below w.heap.size w w' := by
  obtain rfl := Option.some.inj h
  exact awake_walk w
end Go.Proofs.YtmpondcccbmlhaaGreat.Ext
namespace Go.Proofs.YtmpondcccbmlhaaGreat.Q
open Go.RowKit Go.Proofs.YtmpondcccbmlhaaGreatW.PrintWords Go.Proofs.YtmpondcccbmlhaaGreatW.PrintLast Go.Proofs.YtmpondcccbmlhaaGreatW.PrintMore
attribute [local go_sem] max2_int min2_int max_two min_two max_three min_three max_four min_four   
set_option linter.unusedVariables false
set_option linter.unusedSimpArgs false
open Go.Proofs.YtmpondcccbmlhaaGreat.Ext
mutual
def guidevanelaw06_GovernorWhole.j0 : Nat → List Int → Bool → List (S58) → Option (Bool)
  | 0, _, _, _ => none
  | k + 1, x1, x37, x312000 => if x37 = true then (some true) else ((guidevaneref06_CopyBox.f x312000).bind fun t314 => ((governor_IsRobust.f t314).bind fun bt317 => (if bt317.2 = 0 then (guidevanelaw06_GovernorWhole.l0 k x1 bt317.1 ([] : List Int) 0 x312000 ([] : List (S58)) ([] : List (S58))) else (some false))))
def guidevanelaw06_GovernorWhole.l0 : Nat → List Int → Bool → List Int → Int → List (S58) → List (S58) → List (S58) → Option (Bool)
  | 0, _, _, _, _, _, _, _ => none
  | k + 1, x1, x5, x7, x10, x312000, x320000, x321000 => if x10 < (x312000.length : Int) then (if 0 ≤ x10 then (if x10 < (x1.length : Int) then ((guidevanebase_Mod.f (rd x1 x10) (wrap64 ((wrap64 (((rd_T58 x312000 x10).f1) - ((rd_T58 x312000 x10).f0))) + 1))).bind fun t324 => (if x7.length < 17592186044416 then (if x320000.length < 8796093022208 then (if 0 ≤ (wrap64 ((x312000.length : Int) + x10)) then (if (wrap64 ((x312000.length : Int) + x10)) < (x1.length : Int) then ((guidevanebase_Mod.f (rd x1 (wrap64 ((x312000.length : Int) + x10))) (wrap64 ((wrap64 (((rd_T58 x312000 x10).f1) - (wrap64 (((rd_T58 x312000 x10).f0) + t324)))) + 1))).bind fun t332 => (if x321000.length < 8796093022208 then (guidevanelaw06_GovernorWhole.l0 k x1 x5 (x7 ++ [wrap64 (((rd_T58 x312000 x10).f0) + t324)]) (wrap64 (x10 + 1)) x312000 (x320000 ++ [(⟨wrap64 (((rd_T58 x312000 x10).f0) + t324), wrap64 (((rd_T58 x312000 x10).f0) + t324)⟩ : S58)]) (x321000 ++ [(⟨wrap64 (((rd_T58 x312000 x10).f0) + t324), wrap64 ((wrap64 (((rd_T58 x312000 x10).f0) + t324)) + t332)⟩ : S58)])) else (none))) else (none)) else (none)) else (none)) else (none))) else (none)) else (none)) else ((governor_IsStable.f k x7).bind fun bt336 => ((governor_IsRobust.f x320000).bind fun bt338 => ((governor_IsRobust.f x321000).bind fun bt340 => (if bt336.2 = 0 then (if bt338.2 = 0 then (if bt340.2 = 0 then (if (bt338.1 == bt336.1) = true then (if x5 = true then (if bt336.1 = true then (if bt340.1 = true then (some bt336.1) else (some false)) else (some false)) else (if bt340.1 = true then (some bt336.1) else (some true))) else (some false)) else (some false)) else (some false)) else (some false)))))
end
def guidevanelaw06_GovernorWhole.f (k : Nat) (l0_0 : List (S58)) (l1 : List Int) : Option (Bool) := (guidevanelaw06_awake.f).bind fun t312 => (if t312 = true then ((guidevaneref06_BoxErr.f k l0_0).bind fun t313 => (if t313 = 0 then (if (l1.length : Int) < (wrap64 (2 * (l0_0.length : Int))) then (guidevanelaw06_GovernorWhole.j0 k l1 true l0_0) else (guidevanelaw06_GovernorWhole.j0 k l1 (decide ((l1.length : Int) > 10)) l0_0)) else (guidevanelaw06_GovernorWhole.j0 k l1 true l0_0))) else (some false))
def guidevanelaw06_GovernorWhole.T14 : Bool × List (List Nat × List Nat) := (true, [([], []), ([0], [0]), ([], []), ([], []), ([2, 3], [2, 3]), ([4], [4]), ([], []), ([6], [6]), ([], []), ([8], [8]), ([7, 9], [7, 9]), ([10], [10]), ([5, 11], [5, 11]), ([1, 12], [1, 12]), ([13, 12, 0, 1, 2, 3, 4, 5, 6, 7, 8, 9, 10, 11, 12, 13], [13])])
def guidevanelaw06_GovernorWhole.B14 : List Nat := [0, 1, 0, 0, 12, 28, 0, 64, 0, 256, 960, 1984, 4092, 8191, 16383]
theorem guidevanelaw06_GovernorWhole.tab14 : rtab .any (opsOf Tryz.f5 14) = guidevanelaw06_GovernorWhole.T14 := by kernel_rfl
theorem guidevanelaw06_GovernorWhole.bits14 : waitsOk guidevanelaw06_GovernorWhole.T14.2 guidevanelaw06_GovernorWhole.B14 = true := by kernel_rfl
def guidevanelaw06_GovernorWhole.T17 : Bool × List (List Nat × List Nat) := (true, [([], []), ([0], [0]), ([], []), ([], []), ([], []), ([], []), ([5], [5]), ([6], [6]), ([], []), ([7, 8], [7, 8]), ([4, 9], [4, 9]), ([10], [10]), ([], []), ([12], [12]), ([], []), ([13, 14], [13, 14]), ([15], [15]), ([11, 16], [11, 16]), ([3, 17], [3, 17]), ([2, 18], [2, 18]), ([19], [19]), ([1, 20, 17], [1, 20]), ([0, 1, 2, 3, 4, 5, 6, 7, 8, 9, 10, 11, 12, 13, 14, 15, 16, 17, 18, 19, 20, 21], []), ([22, 21, 21, 0, 1, 2, 3, 4, 5, 6, 7, 8, 9, 10, 11, 12, 13, 14, 15, 16, 17, 18, 19, 20, 21], [21, 22])])
def guidevanelaw06_GovernorWhole.B17 : List Nat := [0, 1, 0, 0, 0, 0, 32, 96, 0, 480, 1008, 2032, 0, 4096, 0, 28672, 61440, 131056, 262136, 524284, 1048572, 2097151, 4194303, 8388607]
theorem guidevanelaw06_GovernorWhole.tab17 : rtab .any (opsOf Tryz.f5 17) = guidevanelaw06_GovernorWhole.T17 := by kernel_rfl
theorem guidevanelaw06_GovernorWhole.bits17 : waitsOk guidevanelaw06_GovernorWhole.T17.2 guidevanelaw06_GovernorWhole.B17 = true := by kernel_rfl
set_option maxHeartbeats 8000000 in
set_option maxRecDepth 100000 in
theorem guidevanelaw06_GovernorWhole.calls (k : Nat) (A0_0 : Option Addr) (c0_0 : Nat) (l0_0 : List (S58)) (A1 : Option Addr) (c1 : Nat) (l1 : List Int) (r : Bool) (w : World) (hr0_0 : Kd.C k58 w A0_0 l0_0.length l0_0) (hc0_0 : l0_0.length ≤ c0_0) (hr1 : Kd.C (Kd.int .i64) w A1 l1.length l1) (hc1 : l1.length ≤ c1) (h : guidevanelaw06_GovernorWhole.f k l0_0 l1 = some r) :
    Calls Tryz.prog 5 #[.agg #[.slice A0_0 l0_0.length c0_0], .slice A1 l1.length c1] w fun e w' => e = .returned (.bool r) ∧ Below w.heap.size w w' := by
  have hu42 := Tryz.underlying42
  have hu58 := Tryz.underlying58
  have HR0_0 := Aside0.mk hr0_0
  have HC0_0 := Aside0.mk hc0_0
  clear hr0_0 hc0_0
  have HR1 := Aside0.mk hr1
  have HC1 := Aside0.mk hc1
  clear hr1 hc1
  have HB := Aside0.mk (Below.refl w.heap.size w)
  have H : ((guidevanelaw06_awake.f).bind fun t312 => (if t312 = true then ((guidevaneref06_BoxErr.f k l0_0).bind fun t313 => (if t313 = 0 then (if (l1.length : Int) < (wrap64 (2 * (l0_0.length : Int))) then (guidevanelaw06_GovernorWhole.j0 k l1 true l0_0) else (guidevanelaw06_GovernorWhole.j0 k l1 (decide ((l1.length : Int) > 10)) l0_0)) else (guidevanelaw06_GovernorWhole.j0 k l1 true l0_0))) else (some false))) = some r := h
  clear h
  replace H := Option.bind_eq_some_iff.mp H
  obtain ⟨t312, A30, H⟩ := H
  replace H : (if t312 = true then ((guidevaneref06_BoxErr.f k l0_0).bind fun t313 => (if t313 = 0 then (if (l1.length : Int) < (wrap64 (2 * (l0_0.length : Int))) then (guidevanelaw06_GovernorWhole.j0 k l1 true l0_0) else (guidevanelaw06_GovernorWhole.j0 k l1 (decide ((l1.length : Int) > 10)) l0_0)) else (guidevanelaw06_GovernorWhole.j0 k l1 true l0_0))) else (some false)) = some r := H
  have A3 := Aside0.mk A30
  clear A30
  by_cases c4 : t312 = true
  · subst c4
    have H1 : ((guidevaneref06_BoxErr.f k l0_0).bind fun t313 => (if t313 = 0 then (if (l1.length : Int) < (wrap64 (2 * (l0_0.length : Int))) then (guidevanelaw06_GovernorWhole.j0 k l1 true l0_0) else (guidevanelaw06_GovernorWhole.j0 k l1 (decide ((l1.length : Int) > 10)) l0_0)) else (guidevanelaw06_GovernorWhole.j0 k l1 true l0_0))) = some r := by rw [if_pos rfl] at H; exact H
    clear H
    have H := H1
    clear H1
    have HC5 := Aside0.mk H
    clear H
    go_enter Tryz.func5, Tryz.ntmps5
    go_upto_region 3 with (first | ((with_reducible refine gate_dst (N := 2) rfl ?_); (try (refine gate_guard (by rfl) ?_; dsimp only)); refine box_event ?hg (N := 2) ?hd (cs := #[.slice A0_0 l0_0.length c0_0]) (t := 42) ?hr ?_; (case hd => rfl); (case hg => rfl); (case hr => first | (go_simp; done) | (go_simp; rfl)); intro gb311 hg w6 hbox hb; have n0_ := Aside0.mk (below_step (by repeat (first | (with_reducible first | exact HB.out | apply below_alloc | apply pw_below_drewN | apply below_drew1) | exact HB.out)) hb); have n1_ := Aside0.mk (hbox); have n2_ := Aside0.mk ((by rw [hg]; exact (below_size (by repeat (first | (with_reducible first | exact HB.out | apply below_alloc | apply pw_below_drewN | apply below_drew1) | exact HB.out))) : w.heap.size ≤ gb311)); have n3_ := Aside0.mk ((by rw [hg]; exact (below_size (by repeat (first | (with_reducible first | exact HB.out | apply below_alloc | apply pw_below_drewN | apply below_drew1) | exact HB.out))) : w.heap.size ≤ gb311)); clear HB; have HB := n0_; have BK311 := n1_; have GW311 := n2_; have GE311 := n3_; clear n0_ n1_ n2_ n3_; clear hb hbox hg) | ((with_reducible refine gate_callee (f := 16) rfl ?_); refine goesL_ (some 19) rfl rfl Tryz.func16 (by kernel_rfl) rfl #[] rfl (by (try simp only [List.map_toArray, List.map_cons, List.map_nil]); first | done | rfl | (simp only [List.length_drop, List.length_take]; rfl)) ?_; (with_reducible refine (guidevanelaw06_awake.calls  true _ A3.out).mono ?_); rintro e w7 ⟨rfl, hb⟩; refine ⟨_, rfl, ?_⟩; have n0_ := Aside0.mk (blk_below (g := gb311) (o := .cells #[.slice A0_0 l0_0.length c0_0] 42 (0, 0)) (by (with_reducible repeat (first | refine blk_drewN ?_ _ | refine blk_drew ?_ | refine blk_alloc ?_ _)); exact BK311.out) hb); have n1_ := Aside0.mk (below_step (by repeat (first | (with_reducible first | exact HB.out | apply below_alloc | apply pw_below_drewN | apply below_drew1 | refine below_set ?_ GE311.out) | exact HB.out)) hb); clear BK311; clear HB; have BK311 := n0_; have HB := n1_; clear n0_ n1_; (try clear hb); (try clear hb2); (try clear hk); (try clear hi)))
    (try simp only [Act.put, List.setIfInBounds_toArray, List.set_cons_zero, List.set_cons_succ])
    go_cut [37] (fun v37 wc => ∃ (kq : Nat) (x37_4 : Bool), v37 = .bool x37_4 ∧ Aside0 (guidevanelaw06_GovernorWhole.j0 kq l1 x37_4 l0_0 = some r) ∧ Aside0 (kq ≤ k) ∧ Aside0 (wc.heap[gb311]? = some (.cells #[(.slice A0_0 l0_0.length c0_0)] 42 (0, 0))) ∧ Aside0 (Below w.heap.size w wc))
    case first =>
      have H := HC5.out
      clear HC5
      replace H := Option.bind_eq_some_iff.mp H
      obtain ⟨t313, A80, H⟩ := H
      replace H : (if t313 = 0 then (if (l1.length : Int) < (wrap64 (2 * (l0_0.length : Int))) then (guidevanelaw06_GovernorWhole.j0 k l1 true l0_0) else (guidevanelaw06_GovernorWhole.j0 k l1 (decide ((l1.length : Int) > 10)) l0_0)) else (guidevanelaw06_GovernorWhole.j0 k l1 true l0_0)) = some r := H
      have A8 := Aside0.mk A80
      clear A80
      by_cases c9 : t313 = 0
      · rw [if_pos c9] at H
        have c9b0 : (t313 == 0) = true := beq_iff_eq.mpr c9
        have c9b1 : (t313 != 0) = false := bne_eq_false_iff_eq.mpr c9
        clear c9
        (first | rw [c9b0] | (simp only [i64_w, i32_w]; rw [c9b0]) | skip)
        by_cases c10 : (l1.length : Int) < (wrap64 (2 * (l0_0.length : Int)))
        · rw [if_pos c10] at H
          have c10b0 : decide ((l1.length : Int) < (wrap64 (2 * (l0_0.length : Int)))) = true := decide_eq_true c10
          clear c10
          have H' := Aside0.mk H
          clear H
          have hcz11_0 : w7.cell? ⟨gb311, 0, none⟩ = some (.slice A0_0 l0_0.length c0_0) := (blk_cell BK311.out 0).trans rfl
          have hfz11_0 := blk_frozen BK311.out 0
          go_wp2_with (first | ((with_reducible refine gate_callee (f := 35) rfl ?_); refine goesL_ (some 22) rfl rfl Tryz.func35 (by kernel_rfl) rfl #[.agg #[.slice A0_0 l0_0.length c0_0]] rfl (by (try simp only [List.map_toArray, List.map_cons, List.map_nil]); first | done | rfl | (simp only [List.length_drop, List.length_take]; rfl)) ?_; (with_reducible refine (guidevaneref06_BoxErr.calls k _ _ l0_0 t313 _ ?side1 ?side2 A8.out).mono ?_); (case side1 => repeat (first | exact (Kd.C_below HR0_0.out HB.out) | (with_reducible refine Kd.C_alloc ?_ _) | (with_reducible refine Kd.C_drewN ?_ _) | (with_reducible refine Kd.C_drew ?_))); (case side2 => exact HC0_0.out); rintro e w12 ⟨rfl, hb⟩; refine ⟨_, rfl, ?_⟩; have n0_ := Aside0.mk (blk_below (g := gb311) (o := .cells #[.slice A0_0 l0_0.length c0_0] 42 (0, 0)) (by (with_reducible repeat (first | refine blk_drewN ?_ _ | refine blk_drew ?_ | refine blk_alloc ?_ _)); exact BK311.out) hb); have n1_ := Aside0.mk (below_step (by repeat (first | (with_reducible first | exact HB.out | apply below_alloc | apply pw_below_drewN | apply below_drew1 | refine below_set ?_ GE311.out) | exact HB.out)) hb); clear BK311; clear HB; have BK311 := n0_; have HB := n1_; clear n0_ n1_; (try clear hb); (try clear hb2); (try clear hk); (try clear hi); have hcz13_0 : w12.cell? ⟨gb311, 0, none⟩ = some (.slice A0_0 l0_0.length c0_0) := (blk_cell BK311.out 0).trans rfl; have hfz13_0 := blk_frozen BK311.out 0))
          go_meet
          case rel => exact ⟨_, (true), (by first | rfl | (simp; done) | (simp [*]; done)), H', ⟨by first | omega | exact Nat.le_refl _⟩, ⟨by (with_reducible repeat (first | refine blk_drewN ?_ _ | refine blk_drew ?_ | refine blk_alloc ?_ _)); exact BK311.out⟩, ⟨by repeat (first | (with_reducible first | exact HB.out | apply below_alloc | apply pw_below_drewN | apply below_drew1 | refine below_set ?_ GE311.out) | exact HB.out)⟩⟩
        · rw [if_neg c10] at H
          have c10b0 : decide ((l1.length : Int) < (wrap64 (2 * (l0_0.length : Int)))) = false := decide_eq_false c10
          clear c10
          have H' := Aside0.mk H
          clear H
          have hcz14_0 : w7.cell? ⟨gb311, 0, none⟩ = some (.slice A0_0 l0_0.length c0_0) := (blk_cell BK311.out 0).trans rfl
          have hfz14_0 := blk_frozen BK311.out 0
          go_wp2_with (first | ((with_reducible refine gate_callee (f := 35) rfl ?_); refine goesL_ (some 22) rfl rfl Tryz.func35 (by kernel_rfl) rfl #[.agg #[.slice A0_0 l0_0.length c0_0]] rfl (by (try simp only [List.map_toArray, List.map_cons, List.map_nil]); first | done | rfl | (simp only [List.length_drop, List.length_take]; rfl)) ?_; (with_reducible refine (guidevaneref06_BoxErr.calls k _ _ l0_0 t313 _ ?side1 ?side2 A8.out).mono ?_); (case side1 => repeat (first | exact (Kd.C_below HR0_0.out HB.out) | (with_reducible refine Kd.C_alloc ?_ _) | (with_reducible refine Kd.C_drewN ?_ _) | (with_reducible refine Kd.C_drew ?_))); (case side2 => exact HC0_0.out); rintro e w15 ⟨rfl, hb⟩; refine ⟨_, rfl, ?_⟩; have n0_ := Aside0.mk (blk_below (g := gb311) (o := .cells #[.slice A0_0 l0_0.length c0_0] 42 (0, 0)) (by (with_reducible repeat (first | refine blk_drewN ?_ _ | refine blk_drew ?_ | refine blk_alloc ?_ _)); exact BK311.out) hb); have n1_ := Aside0.mk (below_step (by repeat (first | (with_reducible first | exact HB.out | apply below_alloc | apply pw_below_drewN | apply below_drew1 | refine below_set ?_ GE311.out) | exact HB.out)) hb); clear BK311; clear HB; have BK311 := n0_; have HB := n1_; clear n0_ n1_; (try clear hb); (try clear hb2); (try clear hk); (try clear hi); have hcz16_0 : w15.cell? ⟨gb311, 0, none⟩ = some (.slice A0_0 l0_0.length c0_0) := (blk_cell BK311.out 0).trans rfl; have hfz16_0 := blk_frozen BK311.out 0))
          go_meet
          case rel => exact ⟨_, (decide ((l1.length : Int) > 10)), (by first | rfl | (simp; done) | (simp [*]; done)), H', ⟨by first | omega | exact Nat.le_refl _⟩, ⟨by (with_reducible repeat (first | refine blk_drewN ?_ _ | refine blk_drew ?_ | refine blk_alloc ?_ _)); exact BK311.out⟩, ⟨by repeat (first | (with_reducible first | exact HB.out | apply below_alloc | apply pw_below_drewN | apply below_drew1 | refine below_set ?_ GE311.out) | exact HB.out)⟩⟩
      · rw [if_neg c9] at H
        have c9b0 : (t313 == 0) = false := beq_eq_false_iff_ne.mpr c9
        have c9b1 : (t313 != 0) = true := bne_iff_ne.mpr c9
        (first | rw [c9b0] | (simp only [i64_w, i32_w]; rw [c9b0]) | skip)
        have H' := Aside0.mk H
        clear H
        have hcz17_0 : w7.cell? ⟨gb311, 0, none⟩ = some (.slice A0_0 l0_0.length c0_0) := (blk_cell BK311.out 0).trans rfl
        have hfz17_0 := blk_frozen BK311.out 0
        go_wp2_with (first | ((with_reducible refine gate_callee (f := 35) rfl ?_); refine goesL_ (some 22) rfl rfl Tryz.func35 (by kernel_rfl) rfl #[.agg #[.slice A0_0 l0_0.length c0_0]] rfl (by (try simp only [List.map_toArray, List.map_cons, List.map_nil]); first | done | rfl | (simp only [List.length_drop, List.length_take]; rfl)) ?_; (with_reducible refine (guidevaneref06_BoxErr.calls k _ _ l0_0 t313 _ ?side1 ?side2 A8.out).mono ?_); (case side1 => repeat (first | exact (Kd.C_below HR0_0.out HB.out) | (with_reducible refine Kd.C_alloc ?_ _) | (with_reducible refine Kd.C_drewN ?_ _) | (with_reducible refine Kd.C_drew ?_))); (case side2 => exact HC0_0.out); rintro e w18 ⟨rfl, hb⟩; refine ⟨_, rfl, ?_⟩; have n0_ := Aside0.mk (blk_below (g := gb311) (o := .cells #[.slice A0_0 l0_0.length c0_0] 42 (0, 0)) (by (with_reducible repeat (first | refine blk_drewN ?_ _ | refine blk_drew ?_ | refine blk_alloc ?_ _)); exact BK311.out) hb); have n1_ := Aside0.mk (below_step (by repeat (first | (with_reducible first | exact HB.out | apply below_alloc | apply pw_below_drewN | apply below_drew1 | refine below_set ?_ GE311.out) | exact HB.out)) hb); clear BK311; clear HB; have BK311 := n0_; have HB := n1_; clear n0_ n1_; (try clear hb); (try clear hb2); (try clear hk); (try clear hi)))
        go_meet
        case rel => exact ⟨_, (true), (by first | rfl | (simp; done) | (simp [*]; done)), H', ⟨by first | omega | exact Nat.le_refl _⟩, ⟨by (with_reducible repeat (first | refine blk_drewN ?_ _ | refine blk_drew ?_ | refine blk_alloc ?_ _)); exact BK311.out⟩, ⟨by repeat (first | (with_reducible first | exact HB.out | apply below_alloc | apply pw_below_drewN | apply below_drew1 | refine below_set ?_ GE311.out) | exact HB.out)⟩⟩
    case rest =>
      clear HC5
      try clear c1
      try clear p2
      try clear c3
      try clear c4
      try clear c5
      try clear p6
      try clear c9
      try clear c9b0
      try clear c9b1
      try clear c10
      try clear c10b0
      try clear c16
      try clear hcz11_0
      try clear hcz13_0
      try clear hcz14_0
      try clear hcz16_0
      try clear hcz17_0
      try clear hfz11_0
      try clear hfz13_0
      try clear hfz14_0
      try clear hfz16_0
      try clear hfz17_0
      obtain ⟨kq, x37_4, rfl, HA, HJ4, BK311, HB⟩ := hcut
      cases kq with
      | zero => exact absurd HA.out (by simp [guidevanelaw06_GovernorWhole.j0])
      | succ kj4 =>
        have H := HA.out
        clear HA
        simp only [guidevanelaw06_GovernorWhole.j0] at H
        by_cases c19 : x37_4 = true
        · subst c19
          have H1 : (some true) = some r := by rw [if_pos rfl] at H; exact H
          clear H
          have H := H1
          clear H1
          obtain rfl := Option.some.inj H
          go_wp2
          go_ret
          exact ⟨by first | rfl | (simp [errW_none, errW_some] <;> rfl) | (simp [*, errW_none, errW_some] <;> rfl), by repeat (first | (with_reducible first | exact HB.out | apply below_alloc | apply pw_below_drewN | apply below_drew1 | refine below_set ?_ GE311.out) | exact HB.out)⟩
        · replace c19 := Bool.eq_false_iff.mpr c19
          subst c19
          have H1 : ((guidevaneref06_CopyBox.f l0_0).bind fun t314 => ((governor_IsRobust.f t314).bind fun bt317 => (if bt317.2 = 0 then (guidevanelaw06_GovernorWhole.l0 kj4 l1 bt317.1 ([] : List Int) 0 l0_0 ([] : List (S58)) ([] : List (S58))) else (some false)))) = some r := by rw [if_neg (show ¬ (false = true) by decide)] at H; exact H
          clear H
          have H := H1
          clear H1
          replace H := Option.bind_eq_some_iff.mp H
          obtain ⟨t314, A200, H⟩ := H
          replace H : ((governor_IsRobust.f t314).bind fun bt317 => (if bt317.2 = 0 then (guidevanelaw06_GovernorWhole.l0 kj4 l1 bt317.1 ([] : List Int) 0 l0_0 ([] : List (S58)) ([] : List (S58))) else (some false))) = some r := H
          have A20 := Aside0.mk A200
          clear A200
          replace H := Option.bind_eq_some_iff.mp H
          obtain ⟨⟨t317, t318⟩, A210, H⟩ := H
          replace H : (if t318 = 0 then (guidevanelaw06_GovernorWhole.l0 kj4 l1 t317 ([] : List Int) 0 l0_0 ([] : List (S58)) ([] : List (S58))) else (some false)) = some r := H
          have A21 := Aside0.mk A210
          clear A210
          by_cases c22 : t318 = 0
          · rw [if_pos c22] at H
            have c22b0 : (t318 == 0) = true := beq_iff_eq.mpr c22
            have c22b1 : (t318 != 0) = false := bne_eq_false_iff_eq.mpr c22
            clear c22
            have H' := Aside0.mk H
            clear H
            have hcz23_0 : wc.cell? ⟨gb311, 0, none⟩ = some (.slice A0_0 l0_0.length c0_0) := (blk_cell BK311.out 0).trans rfl
            have hfz23_0 := blk_frozen BK311.out 0
            go_wp2_with (first | ((with_reducible refine gate_callee (f := 28) rfl ?_); refine goesL_ (some 40) rfl rfl Tryz.func28 (by kernel_rfl) rfl #[.agg #[.slice A0_0 l0_0.length c0_0]] rfl (by (try simp only [List.map_toArray, List.map_cons, List.map_nil]); first | done | rfl | (simp only [List.length_drop, List.length_take]; rfl)) ?_; (with_reducible refine (guidevaneref06_CopyBox.calls _ _ l0_0 t314 _ ?side1 ?side2 A20.out).mono ?_); (case side1 => repeat (first | exact (Kd.C_below HR0_0.out HB.out) | (with_reducible refine Kd.C_alloc ?_ _) | (with_reducible refine Kd.C_drewN ?_ _) | (with_reducible refine Kd.C_drew ?_))); (case side2 => exact HC0_0.out); rintro e w24 ⟨v315, rfl, ho0, hb⟩; refine ⟨_, rfl, ?_⟩; have n0_ := Aside0.mk (Kd.R_lower ho0 (below_size (by repeat (first | (with_reducible first | exact HB.out | apply below_alloc | apply pw_below_drewN | apply below_drew1 | refine below_set ?_ GE311.out) | exact HB.out)))); have n1_ := Aside0.mk (blk_below (g := gb311) (o := .cells #[.slice A0_0 l0_0.length c0_0] 42 (0, 0)) (by (with_reducible repeat (first | refine blk_drewN ?_ _ | refine blk_drew ?_ | refine blk_alloc ?_ _)); exact BK311.out) hb); have n2_ := Aside0.mk (below_step (by repeat (first | (with_reducible first | exact HB.out | apply below_alloc | apply pw_below_drewN | apply below_drew1 | refine below_set ?_ GE311.out) | exact HB.out)) hb); clear BK311; clear HB; have HO316 := n0_; have BK311 := n1_; have HB := n2_; clear n0_ n1_ n2_; (try clear hb); (try clear hb2); (try clear hk); (try clear hi); (try clear ho0); obtain ⟨Ao25, co25, eo25⟩ := Kd.R_slice HO316.out; subst eo25) | ((with_reducible refine gate_callee (f := 30) rfl ?_); refine goesL_ (some 41) rfl rfl Tryz.func30 (by kernel_rfl) rfl #[.agg #[.slice Ao25 t314.length co25]] rfl (by (try simp only [List.map_toArray, List.map_cons, List.map_nil]); first | done | rfl | (simp only [List.length_drop, List.length_take]; rfl)) ?_; (with_reducible refine (governor_IsRobust.calls _ _ t314 t317 t318 _ ?side1 ?side2 A21.out).mono ?_); (case side1 => repeat (first | exact (Kd.R_reads' HO316.out).2.2 | (with_reducible refine Kd.C_alloc ?_ _) | (with_reducible refine Kd.C_drewN ?_ _) | (with_reducible refine Kd.C_drew ?_))); (case side2 => exact (Kd.R_reads' HO316.out).2.1); rintro e w26 ⟨rfl, hb⟩; refine ⟨_, rfl, ?_⟩; have n0_ := Aside0.mk (Kd.R_below (by (with_reducible repeat (first | apply Kd.R_alloc | apply Kd.R_drewN | apply Kd.R_drew)); exact HO316.out) hb); have n1_ := Aside0.mk (blk_below (g := gb311) (o := .cells #[.slice A0_0 l0_0.length c0_0] 42 (0, 0)) (by (with_reducible repeat (first | refine blk_drewN ?_ _ | refine blk_drew ?_ | refine blk_alloc ?_ _)); exact BK311.out) hb); have n2_ := Aside0.mk (below_step (by repeat (first | (with_reducible first | exact HB.out | apply below_alloc | apply pw_below_drewN | apply below_drew1 | refine below_set ?_ GE311.out) | exact HB.out)) hb); clear HO316; clear BK311; clear HB; have HO316 := n0_; have BK311 := n1_; have HB := n2_; clear n0_ n1_ n2_; (try clear hb); (try clear hb2); (try clear hk); (try clear hi)) | ((with_reducible refine gate_dst (N := 8) rfl ?_); (try (refine gate_guard (by rfl) ?_; dsimp only)); refine box_event ?hg (N := 8) ?hd (cs := #[.slice none 0 0]) (t := 42) ?hr ?_; (case hd => rfl); (case hg => rfl); (case hr => first | (go_simp; done) | (go_simp; rfl)); intro gb319 hg w27 hbox hb; have n0_ := Aside0.mk (Kd.R_below (by (with_reducible repeat (first | apply Kd.R_alloc | apply Kd.R_drewN | apply Kd.R_drew)); exact HO316.out) hb); have n1_ := Aside0.mk (blk_below (g := gb311) (o := .cells #[.slice A0_0 l0_0.length c0_0] 42 (0, 0)) (by (with_reducible repeat (first | refine blk_drewN ?_ _ | refine blk_drew ?_ | refine blk_alloc ?_ _)); exact BK311.out) hb); have n2_ := Aside0.mk (below_step (by repeat (first | (with_reducible first | exact HB.out | apply below_alloc | apply pw_below_drewN | apply below_drew1 | refine below_set ?_ GE311.out) | exact HB.out)) hb); have n3_ := Aside0.mk (hbox); have n4_ := Aside0.mk ((by rw [hg]; exact (below_size (by repeat (first | (with_reducible first | exact HB.out | apply below_alloc | apply pw_below_drewN | apply below_drew1 | refine below_set ?_ GE311.out) | exact HB.out))) : w.heap.size ≤ gb319)); have n5_ := Aside0.mk ((by rw [hg]; exact (below_size (by repeat (first | (with_reducible first | exact HB.out | apply below_alloc | apply pw_below_drewN | apply below_drew1 | refine below_set ?_ GE311.out) | exact HB.out))) : w.heap.size ≤ gb319)); have n6_ := Aside0.mk ((by rw [hg]; exact Nat.ne_of_lt (blk_lt (g := gb311) (o := .cells #[.slice A0_0 l0_0.length c0_0] 42 (0, 0)) (by (with_reducible repeat (first | refine blk_drewN ?_ _ | refine blk_drew ?_ | refine blk_alloc ?_ _)); exact BK311.out)) : gb311 ≠ gb319)); have n7_ := Aside0.mk ((by rw [hg]; exact Nat.ne_of_gt (blk_lt (g := gb311) (o := .cells #[.slice A0_0 l0_0.length c0_0] 42 (0, 0)) (by (with_reducible repeat (first | refine blk_drewN ?_ _ | refine blk_drew ?_ | refine blk_alloc ?_ _)); exact BK311.out)) : gb319 ≠ gb311)); clear HO316; clear BK311; clear HB; have HO316 := n0_; have BK311 := n1_; have HB := n2_; have BK319 := n3_; have GW319 := n4_; have GE319 := n5_; have NB311_319 := n6_; have NB319_311 := n7_; clear n0_ n1_ n2_ n3_ n4_ n5_ n6_ n7_; clear hb hbox hg) | ((with_reducible refine gate_dst (N := 9) rfl ?_); (try (refine gate_guard (by rfl) ?_; dsimp only)); refine box_event ?hg (N := 9) ?hd (cs := #[.slice none 0 0]) (t := 42) ?hr ?_; (case hd => rfl); (case hg => rfl); (case hr => first | (go_simp; done) | (go_simp; rfl)); intro gb320 hg w28 hbox hb; have n0_ := Aside0.mk (Kd.R_below (by (with_reducible repeat (first | apply Kd.R_alloc | apply Kd.R_drewN | apply Kd.R_drew)); exact HO316.out) hb); have n1_ := Aside0.mk (blk_below (g := gb311) (o := .cells #[.slice A0_0 l0_0.length c0_0] 42 (0, 0)) (by (with_reducible repeat (first | refine blk_drewN ?_ _ | refine blk_drew ?_ | refine blk_alloc ?_ _)); exact BK311.out) hb); have n2_ := Aside0.mk (blk_below (g := gb319) (o := .cells #[.slice none 0 0] 42 (0, 0)) (by (with_reducible repeat (first | refine blk_drewN ?_ _ | refine blk_drew ?_ | refine blk_alloc ?_ _)); exact BK319.out) hb); have n3_ := Aside0.mk (below_step (by repeat (first | (with_reducible first | exact HB.out | apply below_alloc | apply pw_below_drewN | apply below_drew1 | refine below_set ?_ GE311.out | refine below_set ?_ GE319.out) | exact HB.out)) hb); have n4_ := Aside0.mk (hbox); have n5_ := Aside0.mk ((by rw [hg]; exact (below_size (by repeat (first | (with_reducible first | exact HB.out | apply below_alloc | apply pw_below_drewN | apply below_drew1 | refine below_set ?_ GE311.out | refine below_set ?_ GE319.out) | exact HB.out))) : w.heap.size ≤ gb320)); have n6_ := Aside0.mk ((by rw [hg]; exact (below_size (by repeat (first | (with_reducible first | exact HB.out | apply below_alloc | apply pw_below_drewN | apply below_drew1 | refine below_set ?_ GE311.out | refine below_set ?_ GE319.out) | exact HB.out))) : w.heap.size ≤ gb320)); have n7_ := Aside0.mk ((by rw [hg]; exact Nat.ne_of_lt (blk_lt (g := gb311) (o := .cells #[.slice A0_0 l0_0.length c0_0] 42 (0, 0)) (by (with_reducible repeat (first | refine blk_drewN ?_ _ | refine blk_drew ?_ | refine blk_alloc ?_ _)); exact BK311.out)) : gb311 ≠ gb320)); have n8_ := Aside0.mk ((by rw [hg]; exact Nat.ne_of_gt (blk_lt (g := gb311) (o := .cells #[.slice A0_0 l0_0.length c0_0] 42 (0, 0)) (by (with_reducible repeat (first | refine blk_drewN ?_ _ | refine blk_drew ?_ | refine blk_alloc ?_ _)); exact BK311.out)) : gb320 ≠ gb311)); have n9_ := Aside0.mk ((by rw [hg]; exact Nat.ne_of_lt (blk_lt (g := gb319) (o := .cells #[.slice none 0 0] 42 (0, 0)) (by (with_reducible repeat (first | refine blk_drewN ?_ _ | refine blk_drew ?_ | refine blk_alloc ?_ _)); exact BK319.out)) : gb319 ≠ gb320)); have n10_ := Aside0.mk ((by rw [hg]; exact Nat.ne_of_gt (blk_lt (g := gb319) (o := .cells #[.slice none 0 0] 42 (0, 0)) (by (with_reducible repeat (first | refine blk_drewN ?_ _ | refine blk_drew ?_ | refine blk_alloc ?_ _)); exact BK319.out)) : gb320 ≠ gb319)); clear HO316; clear BK311; clear BK319; clear HB; have HO316 := n0_; have BK311 := n1_; have BK319 := n2_; have HB := n3_; have BK320 := n4_; have GW320 := n5_; have GE320 := n6_; have NB311_320 := n7_; have NB320_311 := n8_; have NB319_320 := n9_; have NB320_319 := n10_; clear n0_ n1_ n2_ n3_ n4_ n5_ n6_ n7_ n8_ n9_ n10_; clear hb hbox hg))
            go_loopg [7, 10] kj4 (fun kq v7 v10 w' => ∃ (x7_2 : List Int) (x10_2 : Int) (x320000_2 : List (S58)) (x321000_2 : List (S58)) (u320000 : Value) (u321000 : Value), v10 = .int .i64 x10_2 ∧ Aside0 (guidevanelaw06_GovernorWhole.l0 kq l1 t317 x7_2 x10_2 l0_0 x320000_2 x321000_2 = some r) ∧ Aside0 (kq ≤ kj4) ∧ Aside0 (Kd.R (Kd.int .i64) 3 w' w.heap.size (fun _ => True) v7 x7_2) ∧ Aside0 (Kd.R k58 58 w' w.heap.size (fun k_ => some k_ ≠ (u321000 : Value).ownBlock) u320000 x320000_2) ∧ Aside0 (Kd.R k58 58 w' w.heap.size (fun k_ => some k_ ≠ (u320000 : Value).ownBlock) u321000 x321000_2) ∧ Aside0 (w'.heap[gb311]? = some (.cells #[(.slice A0_0 l0_0.length c0_0)] 42 (0, 0))) ∧ Aside0 (w'.heap[gb319]? = some (.cells #[u320000] 42 (0, 0))) ∧ Aside0 (w'.heap[gb320]? = some (.cells #[u321000] 42 (0, 0))) ∧ Aside0 (Below w.heap.size w w'))
            case atStart => exact ⟨(([] : List Int)), (0), (([] : List (S58))), (([] : List (S58))), (.slice none 0 0), (.slice none 0 0), (by first | rfl | (simp; done) | (simp [*]; done)), H', ⟨Nat.le_refl _⟩, ⟨by first | exact Kd.R_nil _ _ _ _ _ | exact Kd.N_nil _ _ _ _ _ | exact Kd.V_nil _ _ _ _ _ | exact Kd.Q_nil _ _ _ _ _ | exact Kd.S_nil _ _ _ _ _⟩, ⟨by first | exact Kd.R_nil _ _ _ _ _ | exact Kd.N_nil _ _ _ _ _ | exact Kd.V_nil _ _ _ _ _ | exact Kd.Q_nil _ _ _ _ _ | exact Kd.S_nil _ _ _ _ _⟩, ⟨by first | exact Kd.R_nil _ _ _ _ _ | exact Kd.N_nil _ _ _ _ _ | exact Kd.V_nil _ _ _ _ _ | exact Kd.Q_nil _ _ _ _ _ | exact Kd.S_nil _ _ _ _ _⟩, ⟨by (with_reducible repeat (first | refine blk_drewN ?_ _ | refine blk_drew ?_ | refine blk_alloc ?_ _)); exact BK311.out⟩, ⟨by (with_reducible repeat (first | refine blk_drewN ?_ _ | refine blk_drew ?_ | refine blk_alloc ?_ _)); exact BK319.out⟩, ⟨by (with_reducible repeat (first | refine blk_drewN ?_ _ | refine blk_drew ?_ | refine blk_alloc ?_ _)); exact BK320.out⟩, ⟨by repeat (first | (with_reducible first | exact HB.out | apply below_alloc | apply pw_below_drewN | apply below_drew1 | refine below_set ?_ GE311.out | refine below_set ?_ GE319.out | refine below_set ?_ GE320.out) | exact HB.out)⟩⟩
            case round =>
              clear H'
              try clear c1
              try clear c2
              try clear p2
              try clear c3
              try clear c4
              try clear c5
              try clear p6
              try clear c9
              try clear c9b0
              try clear c9b1
              try clear c10
              try clear c10b0
              try clear c16
              try clear c19
              try clear c22
              try clear c22b0
              try clear c22b1
              try clear c28
              try clear hcz11_0
              try clear hcz13_0
              try clear hcz14_0
              try clear hcz16_0
              try clear hcz17_0
              try clear hcz23_0
              try clear hfz11_0
              try clear hfz13_0
              try clear hfz14_0
              try clear hfz16_0
              try clear hfz17_0
              try clear hfz23_0
              try clear p2
              try clear p6
              obtain ⟨x7_2, x10_2, x320000_2, x321000_2, u320000, u321000, rfl, HA, HK2, HO_7, HO_320000, HO_321000, BK311, BK319, BK320, HB⟩ := hrel
              cases gk with
              | zero => exact absurd HA.out (by simp [guidevanelaw06_GovernorWhole.l0])
              | succ k2 =>
                have H := HA.out
                clear HA
                simp only [guidevanelaw06_GovernorWhole.l0] at H
                by_cases c29 : x10_2 < (l0_0.length : Int)
                · rw [if_pos c29] at H
                  have c29b0 : decide (x10_2 < (l0_0.length : Int)) = true := decide_eq_true c29
                  clear c29
                  by_cases c30 : 0 ≤ x10_2
                  · rw [if_pos c30] at H
                    have c30b0 : decide (0 ≤ x10_2) = true := decide_eq_true c30
                    clear c30
                    by_cases c31 : x10_2 < (l1.length : Int)
                    · rw [if_pos c31] at H
                      have c31b0 : decide (x10_2 < (l1.length : Int)) = true := decide_eq_true c31
                      clear c31
                      replace H := Option.bind_eq_some_iff.mp H
                      obtain ⟨t324, A320, H⟩ := H
                      replace H : (if x7_2.length < 17592186044416 then (if x320000_2.length < 8796093022208 then (if 0 ≤ (wrap64 ((l0_0.length : Int) + x10_2)) then (if (wrap64 ((l0_0.length : Int) + x10_2)) < (l1.length : Int) then ((guidevanebase_Mod.f (rd l1 (wrap64 ((l0_0.length : Int) + x10_2))) (wrap64 ((wrap64 (((rd_T58 l0_0 x10_2).f1) - (wrap64 (((rd_T58 l0_0 x10_2).f0) + t324)))) + 1))).bind fun t332 => (if x321000_2.length < 8796093022208 then (guidevanelaw06_GovernorWhole.l0 k2 l1 t317 (x7_2 ++ [wrap64 (((rd_T58 l0_0 x10_2).f0) + t324)]) (wrap64 (x10_2 + 1)) l0_0 (x320000_2 ++ [(⟨wrap64 (((rd_T58 l0_0 x10_2).f0) + t324), wrap64 (((rd_T58 l0_0 x10_2).f0) + t324)⟩ : S58)]) (x321000_2 ++ [(⟨wrap64 (((rd_T58 l0_0 x10_2).f0) + t324), wrap64 ((wrap64 (((rd_T58 l0_0 x10_2).f0) + t324)) + t332)⟩ : S58)])) else (none))) else (none)) else (none)) else (none)) else (none)) = some r := H
                      have A32 := Aside0.mk A320
                      clear A320
                      by_cases c33 : x7_2.length < 17592186044416
                      · rw [if_pos c33] at H
                        have LMc33 := Aside0.mk c33
                        clear c33
                        obtain ⟨y325, hy325⟩ : ∃ y_ : List Int, y_ = (x7_2 ++ [wrap64 (((rd_T58 l0_0 x10_2).f0) + t324)]) := ⟨_, rfl⟩
                        replace H : (if x320000_2.length < 8796093022208 then (if 0 ≤ (wrap64 ((l0_0.length : Int) + x10_2)) then (if (wrap64 ((l0_0.length : Int) + x10_2)) < (l1.length : Int) then ((guidevanebase_Mod.f (rd l1 (wrap64 ((l0_0.length : Int) + x10_2))) (wrap64 ((wrap64 (((rd_T58 l0_0 x10_2).f1) - (wrap64 (((rd_T58 l0_0 x10_2).f0) + t324)))) + 1))).bind fun t332 => (if x321000_2.length < 8796093022208 then (guidevanelaw06_GovernorWhole.l0 k2 l1 t317 y325 (wrap64 (x10_2 + 1)) l0_0 (x320000_2 ++ [(⟨wrap64 (((rd_T58 l0_0 x10_2).f0) + t324), wrap64 (((rd_T58 l0_0 x10_2).f0) + t324)⟩ : S58)]) (x321000_2 ++ [(⟨wrap64 (((rd_T58 l0_0 x10_2).f0) + t324), wrap64 ((wrap64 (((rd_T58 l0_0 x10_2).f0) + t324)) + t332)⟩ : S58)])) else (none))) else (none)) else (none)) else (none)) = some r := by first | (rw [hy325]; with_reducible exact H) | (have H2_ := (Option.bind_some _ _).symm.trans H; rw [hy325]; with_reducible exact H2_) | (have H2_ := (Option.bind_some _ _).symm.trans H; with_reducible exact H2_) | with_reducible exact H | (rw [hy325]; exact H) | exact H
                        have Ny325 := Aside0.mk hy325
                        clear hy325
                        by_cases c34 : x320000_2.length < 8796093022208
                        · rw [if_pos c34] at H
                          have LMc34 := Aside0.mk c34
                          clear c34
                          obtain ⟨y328, hy328⟩ : ∃ y_ : List (S58), y_ = (x320000_2 ++ [(⟨wrap64 (((rd_T58 l0_0 x10_2).f0) + t324), wrap64 (((rd_T58 l0_0 x10_2).f0) + t324)⟩ : S58)]) := ⟨_, rfl⟩
                          replace H : (if 0 ≤ (wrap64 ((l0_0.length : Int) + x10_2)) then (if (wrap64 ((l0_0.length : Int) + x10_2)) < (l1.length : Int) then ((guidevanebase_Mod.f (rd l1 (wrap64 ((l0_0.length : Int) + x10_2))) (wrap64 ((wrap64 (((rd_T58 l0_0 x10_2).f1) - (wrap64 (((rd_T58 l0_0 x10_2).f0) + t324)))) + 1))).bind fun t332 => (if x321000_2.length < 8796093022208 then (guidevanelaw06_GovernorWhole.l0 k2 l1 t317 y325 (wrap64 (x10_2 + 1)) l0_0 y328 (x321000_2 ++ [(⟨wrap64 (((rd_T58 l0_0 x10_2).f0) + t324), wrap64 ((wrap64 (((rd_T58 l0_0 x10_2).f0) + t324)) + t332)⟩ : S58)])) else (none))) else (none)) else (none)) = some r := by first | (rw [hy328]; with_reducible exact H) | (have H2_ := (Option.bind_some _ _).symm.trans H; rw [hy328]; with_reducible exact H2_) | (have H2_ := (Option.bind_some _ _).symm.trans H; with_reducible exact H2_) | with_reducible exact H | (rw [hy328]; exact H) | exact H
                          have Ny328 := Aside0.mk hy328
                          clear hy328
                          obtain ⟨ji35, hji35⟩ : ∃ j_ : Int, (wrap64 ((l0_0.length : Int) + x10_2)) = j_ := ⟨_, rfl⟩
                          replace H : (if 0 ≤ (ji35) then (if (ji35) < (l1.length : Int) then ((guidevanebase_Mod.f (rd l1 (ji35)) (wrap64 ((wrap64 (((rd_T58 l0_0 x10_2).f1) - (wrap64 (((rd_T58 l0_0 x10_2).f0) + t324)))) + 1))).bind fun t332 => (if x321000_2.length < 8796093022208 then (guidevanelaw06_GovernorWhole.l0 k2 l1 t317 y325 (wrap64 (x10_2 + 1)) l0_0 y328 (x321000_2 ++ [(⟨wrap64 (((rd_T58 l0_0 x10_2).f0) + t324), wrap64 ((wrap64 (((rd_T58 l0_0 x10_2).f0) + t324)) + t332)⟩ : S58)])) else (none))) else (none)) else (none)) = some r := by first | (rw [hji35] at H; exact H) | (simp only [hji35] at H ⊢; exact H)
                          (try rw [hji35] at A32)
                          have hji35w : (IntKind.i64.wrap ((l0_0.length : Int) + x10_2)) = ji35 := (i64_w _).trans hji35
                          by_cases c36 : 0 ≤ (ji35)
                          · rw [if_pos c36] at H
                            have c36b0 : decide (0 ≤ (ji35)) = true := decide_eq_true c36
                            clear c36
                            by_cases c37 : (ji35) < (l1.length : Int)
                            · rw [if_pos c37] at H
                              have c37b0 : decide ((ji35) < (l1.length : Int)) = true := decide_eq_true c37
                              clear c37
                              replace H := Option.bind_eq_some_iff.mp H
                              obtain ⟨t332, A380, H⟩ := H
                              replace H : (if x321000_2.length < 8796093022208 then (guidevanelaw06_GovernorWhole.l0 k2 l1 t317 y325 (wrap64 (x10_2 + 1)) l0_0 y328 (x321000_2 ++ [(⟨wrap64 (((rd_T58 l0_0 x10_2).f0) + t324), wrap64 ((wrap64 (((rd_T58 l0_0 x10_2).f0) + t324)) + t332)⟩ : S58)])) else (none)) = some r := H
                              have A38 := Aside0.mk A380
                              clear A380
                              by_cases c39 : x321000_2.length < 8796093022208
                              · rw [if_pos c39] at H
                                have LMc39 := Aside0.mk c39
                                clear c39
                                obtain ⟨y333, hy333⟩ : ∃ y_ : List (S58), y_ = (x321000_2 ++ [(⟨wrap64 (((rd_T58 l0_0 x10_2).f0) + t324), wrap64 ((wrap64 (((rd_T58 l0_0 x10_2).f0) + t324)) + t332)⟩ : S58)]) := ⟨_, rfl⟩
                                replace H : (guidevanelaw06_GovernorWhole.l0 k2 l1 t317 y325 (wrap64 (x10_2 + 1)) l0_0 y328 y333) = some r := by first | (rw [hy333]; with_reducible exact H) | (have H2_ := (Option.bind_some _ _).symm.trans H; rw [hy333]; with_reducible exact H2_) | (have H2_ := (Option.bind_some _ _).symm.trans H; with_reducible exact H2_) | with_reducible exact H | (rw [hy333]; exact H) | exact H
                                have Ny333 := Aside0.mk hy333
                                clear hy333
                                have H' := Aside0.mk H
                                clear H
                                have hnb40 := NB311_319.out
                                have hnc40 := NB319_311.out
                                have hnb41 := NB311_320.out
                                have hnc41 := NB320_311.out
                                have hcz42_0 : wr.cell? ⟨gb311, 0, none⟩ = some (.slice A0_0 l0_0.length c0_0) := (blk_cell BK311.out 0).trans rfl
                                have hfz42_0 := blk_frozen BK311.out 0
                                have p321 : 0 ≤ (x10_2 : Int) := of_decide_eq_true (by first | (with_reducible assumption) | assumption)
                                have q321 : x10_2 < (l0_0.length : Int) := of_decide_eq_true (by first | (with_reducible assumption) | assumption)
                                obtain ⟨ad321, e321, hx321_0, hx321_1⟩ := at_T58 HR0_0.out x10_2 p321 q321
                                cases e321
                                replace hx321_0 := (HB.out.cell (World.block_lt_of_cell? w _ hx321_0)).trans hx321_0
                                replace hx321_1 := (HB.out.cell (World.block_lt_of_cell? w _ hx321_1)).trans hx321_1
                                replace p321 := eq_true p321
                                replace q321 := eq_true q321
                                try go_wp2_with (first | ((with_reducible refine gate_dst (N := 11) rfl ?_); (try (refine gate_guard (by rfl) ?_; dsimp only)); refine box_event ?hg (N := 11) ?hd (cs := #[.int .i64 0, .int .i64 0]) (t := 58) ?hr ?_; (case hd => rfl); (case hg => rfl); (case hr => first | (go_simp; done) | (go_simp; rfl)); intro gb322 hg w43 hbox hb; have n0_ := Aside0.mk (Kd.R_below (by (with_reducible repeat (first | apply Kd.R_alloc | apply Kd.R_drewN | apply Kd.R_drew)); exact HO_7.out) hb); have n1_ := Aside0.mk (Kd.R_below (Kd.R_elderB (by (with_reducible repeat (first | apply Kd.R_alloc | apply Kd.R_drewN | apply Kd.R_drew)); exact HO_320000.out) gb322 (Nat.le_of_eq hg.symm)) hb); have n2_ := Aside0.mk (Kd.R_below (Kd.R_elderB (by (with_reducible repeat (first | apply Kd.R_alloc | apply Kd.R_drewN | apply Kd.R_drew)); exact HO_321000.out) gb322 (Nat.le_of_eq hg.symm)) hb); have n3_ := Aside0.mk (blk_below (g := gb311) (o := .cells #[.slice (some ad321) l0_0.length c0_0] 42 (0, 0)) (by (with_reducible repeat (first | refine blk_drewN ?_ _ | refine blk_drew ?_ | refine blk_alloc ?_ _)); exact BK311.out) hb); have n4_ := Aside0.mk (blk_below (g := gb319) (o := .cells #[u320000] 42 (0, 0)) (by (with_reducible repeat (first | refine blk_drewN ?_ _ | refine blk_drew ?_ | refine blk_alloc ?_ _)); exact BK319.out) hb); have n5_ := Aside0.mk (blk_below (g := gb320) (o := .cells #[u321000] 42 (0, 0)) (by (with_reducible repeat (first | refine blk_drewN ?_ _ | refine blk_drew ?_ | refine blk_alloc ?_ _)); exact BK320.out) hb); have n6_ := Aside0.mk (below_step (by repeat (first | (with_reducible first | exact HB.out | apply below_alloc | apply pw_below_drewN | apply below_drew1 | refine below_set ?_ GE311.out | refine below_set ?_ GE319.out | refine below_set ?_ GE320.out) | exact HB.out)) hb); have n7_ := Aside0.mk (hbox); have n8_ := Aside0.mk ((by rw [hg]; exact (below_size (by repeat (first | (with_reducible first | exact HB.out | apply below_alloc | apply pw_below_drewN | apply below_drew1 | refine below_set ?_ GE311.out | refine below_set ?_ GE319.out | refine below_set ?_ GE320.out) | exact HB.out))) : w.heap.size ≤ gb322)); have n9_ := Aside0.mk ((by rw [hg]; exact (below_size (by repeat (first | (with_reducible first | exact HB.out | apply below_alloc | apply pw_below_drewN | apply below_drew1 | refine below_set ?_ GE311.out | refine below_set ?_ GE319.out | refine below_set ?_ GE320.out) | exact HB.out))) : w.heap.size ≤ gb322)); have n10_ := Aside0.mk ((by rw [hg]; exact Nat.ne_of_lt (blk_lt (g := gb311) (o := .cells #[.slice (some ad321) l0_0.length c0_0] 42 (0, 0)) (by (with_reducible repeat (first | refine blk_drewN ?_ _ | refine blk_drew ?_ | refine blk_alloc ?_ _)); exact BK311.out)) : gb311 ≠ gb322)); have n11_ := Aside0.mk ((by rw [hg]; exact Nat.ne_of_gt (blk_lt (g := gb311) (o := .cells #[.slice (some ad321) l0_0.length c0_0] 42 (0, 0)) (by (with_reducible repeat (first | refine blk_drewN ?_ _ | refine blk_drew ?_ | refine blk_alloc ?_ _)); exact BK311.out)) : gb322 ≠ gb311)); have n12_ := Aside0.mk ((by rw [hg]; exact Nat.ne_of_lt (blk_lt (g := gb319) (o := .cells #[u320000] 42 (0, 0)) (by (with_reducible repeat (first | refine blk_drewN ?_ _ | refine blk_drew ?_ | refine blk_alloc ?_ _)); exact BK319.out)) : gb319 ≠ gb322)); have n13_ := Aside0.mk ((by rw [hg]; exact Nat.ne_of_gt (blk_lt (g := gb319) (o := .cells #[u320000] 42 (0, 0)) (by (with_reducible repeat (first | refine blk_drewN ?_ _ | refine blk_drew ?_ | refine blk_alloc ?_ _)); exact BK319.out)) : gb322 ≠ gb319)); have n14_ := Aside0.mk ((by rw [hg]; exact Nat.ne_of_lt (blk_lt (g := gb320) (o := .cells #[u321000] 42 (0, 0)) (by (with_reducible repeat (first | refine blk_drewN ?_ _ | refine blk_drew ?_ | refine blk_alloc ?_ _)); exact BK320.out)) : gb320 ≠ gb322)); have n15_ := Aside0.mk ((by rw [hg]; exact Nat.ne_of_gt (blk_lt (g := gb320) (o := .cells #[u321000] 42 (0, 0)) (by (with_reducible repeat (first | refine blk_drewN ?_ _ | refine blk_drew ?_ | refine blk_alloc ?_ _)); exact BK320.out)) : gb322 ≠ gb320)); clear HO_7; clear HO_320000; clear HO_321000; clear BK311; clear BK319; clear BK320; clear HB; have HO_7 := n0_; have HO_320000 := n1_; have HO_321000 := n2_; have BK311 := n3_; have BK319 := n4_; have BK320 := n5_; have HB := n6_; have BK322 := n7_; have GW322 := n8_; have GE322 := n9_; have NB311_322 := n10_; have NB322_311 := n11_; have NB319_322 := n12_; have NB322_319 := n13_; have NB320_322 := n14_; have NB322_320 := n15_; clear n0_ n1_ n2_ n3_ n4_ n5_ n6_ n7_ n8_ n9_ n10_ n11_ n12_ n13_ n14_ n15_; clear hb hbox hg; have hnb44 := NB322_311.out; have hnc44 := NB311_322.out; have hnb45 := NB322_319.out; have hnc45 := NB319_322.out; have hnb46 := NB322_320.out; have hnc46 := NB320_322.out; have hcz47_0 : w43.cell? ⟨gb322, 0, none⟩ = some (.int .i64 0) := (blk_cell BK322.out 0).trans rfl; have hcz47_1 : w43.cell? ⟨gb322, 1, none⟩ = some (.int .i64 0) := (blk_cell BK322.out 1).trans rfl; have hfz47_0 := blk_frozen BK322.out 0; have hfz47_1 := blk_frozen BK322.out 1))
                                have n0_ : Aside0 (Kd.R (Kd.int .i64) 3 ((w43.setCell ⟨gb322, 0, none⟩ (.int .i64 ((rd_T58 l0_0 x10_2).f0))).setCell ⟨gb322, 1, none⟩ (.int .i64 ((rd_T58 l0_0 x10_2).f1))) w.heap.size (fun _ => True) u7 x7_2) := ⟨by (with_reducible repeat (first | apply Kd.R_alloc | apply Kd.R_drewN | apply Kd.R_drew)); exact Kd.R_mono (Kd.R_far (p := ⟨gb322, 1, none⟩) (Kd.R_far (p := ⟨gb322, 0, none⟩) (Kd.R_types HO_7.out BK322.out (by decide)) (fun _ hk => hk.2) (.int .i64 ((rd_T58 l0_0 x10_2).f0))) (fun _ hk => hk.2) (.int .i64 ((rd_T58 l0_0 x10_2).f1))) (fun _ hk => trivial)⟩
                                have n1_ : Aside0 (Kd.R k58 58 ((w43.setCell ⟨gb322, 0, none⟩ (.int .i64 ((rd_T58 l0_0 x10_2).f0))).setCell ⟨gb322, 1, none⟩ (.int .i64 ((rd_T58 l0_0 x10_2).f1))) w.heap.size (fun k_ => some k_ ≠ (u321000 : Value).ownBlock ∧ k_ ≠ gb322) u320000 x320000_2) := ⟨by (with_reducible repeat (first | apply Kd.R_alloc | apply Kd.R_drewN | apply Kd.R_drew)); exact Kd.R_mono (Kd.R_far (p := ⟨gb322, 1, none⟩) (Kd.R_far (p := ⟨gb322, 0, none⟩) (Kd.R_mono HO_320000.out (fun k_ hk => (⟨hk, hk.2⟩ : _ ∧ k_ ≠ gb322))) (fun _ hk => hk.2) (.int .i64 ((rd_T58 l0_0 x10_2).f0))) (fun _ hk => hk.2) (.int .i64 ((rd_T58 l0_0 x10_2).f1))) (fun _ hk => ⟨hk.1.1, hk.1.2⟩)⟩
                                have n2_ : Aside0 (Kd.R k58 58 ((w43.setCell ⟨gb322, 0, none⟩ (.int .i64 ((rd_T58 l0_0 x10_2).f0))).setCell ⟨gb322, 1, none⟩ (.int .i64 ((rd_T58 l0_0 x10_2).f1))) w.heap.size (fun k_ => some k_ ≠ (u320000 : Value).ownBlock ∧ k_ ≠ gb322) u321000 x321000_2) := ⟨by (with_reducible repeat (first | apply Kd.R_alloc | apply Kd.R_drewN | apply Kd.R_drew)); exact Kd.R_mono (Kd.R_far (p := ⟨gb322, 1, none⟩) (Kd.R_far (p := ⟨gb322, 0, none⟩) (Kd.R_mono HO_321000.out (fun k_ hk => (⟨hk, hk.2⟩ : _ ∧ k_ ≠ gb322))) (fun _ hk => hk.2) (.int .i64 ((rd_T58 l0_0 x10_2).f0))) (fun _ hk => hk.2) (.int .i64 ((rd_T58 l0_0 x10_2).f1))) (fun _ hk => ⟨hk.1.1, hk.1.2⟩)⟩
                                have n3_ : Aside0 (((w43.setCell ⟨gb322, 0, none⟩ (.int .i64 ((rd_T58 l0_0 x10_2).f0))).setCell ⟨gb322, 1, none⟩ (.int .i64 ((rd_T58 l0_0 x10_2).f1))).heap[gb311]? = some (.cells #[.slice (some ad321) l0_0.length c0_0] 42 (0, 0))) := ⟨by (with_reducible repeat (first | refine blk_drewN ?_ _ | refine blk_drew ?_ | refine blk_alloc ?_ _)); refine blk_far ?_ NB311_322.out _; (with_reducible repeat (first | refine blk_drewN ?_ _ | refine blk_drew ?_ | refine blk_alloc ?_ _)); refine blk_far ?_ NB311_322.out _; (with_reducible repeat (first | refine blk_drewN ?_ _ | refine blk_drew ?_ | refine blk_alloc ?_ _)); exact BK311.out⟩
                                have n4_ : Aside0 (((w43.setCell ⟨gb322, 0, none⟩ (.int .i64 ((rd_T58 l0_0 x10_2).f0))).setCell ⟨gb322, 1, none⟩ (.int .i64 ((rd_T58 l0_0 x10_2).f1))).heap[gb319]? = some (.cells #[u320000] 42 (0, 0))) := ⟨by (with_reducible repeat (first | refine blk_drewN ?_ _ | refine blk_drew ?_ | refine blk_alloc ?_ _)); refine blk_far ?_ NB319_322.out _; (with_reducible repeat (first | refine blk_drewN ?_ _ | refine blk_drew ?_ | refine blk_alloc ?_ _)); refine blk_far ?_ NB319_322.out _; (with_reducible repeat (first | refine blk_drewN ?_ _ | refine blk_drew ?_ | refine blk_alloc ?_ _)); exact BK319.out⟩
                                have n5_ : Aside0 (((w43.setCell ⟨gb322, 0, none⟩ (.int .i64 ((rd_T58 l0_0 x10_2).f0))).setCell ⟨gb322, 1, none⟩ (.int .i64 ((rd_T58 l0_0 x10_2).f1))).heap[gb320]? = some (.cells #[u321000] 42 (0, 0))) := ⟨by (with_reducible repeat (first | refine blk_drewN ?_ _ | refine blk_drew ?_ | refine blk_alloc ?_ _)); refine blk_far ?_ NB320_322.out _; (with_reducible repeat (first | refine blk_drewN ?_ _ | refine blk_drew ?_ | refine blk_alloc ?_ _)); refine blk_far ?_ NB320_322.out _; (with_reducible repeat (first | refine blk_drewN ?_ _ | refine blk_drew ?_ | refine blk_alloc ?_ _)); exact BK320.out⟩
                                have n6_ : Aside0 (((w43.setCell ⟨gb322, 0, none⟩ (.int .i64 ((rd_T58 l0_0 x10_2).f0))).setCell ⟨gb322, 1, none⟩ (.int .i64 ((rd_T58 l0_0 x10_2).f1))).heap[gb322]? = some (.cells #[.int .i64 ((rd_T58 l0_0 x10_2).f0), .int .i64 ((rd_T58 l0_0 x10_2).f1)] 58 (0, 0))) := ⟨by (with_reducible repeat (first | refine blk_drewN ?_ _ | refine blk_drew ?_ | refine blk_alloc ?_ _)); refine blk_put (cs := #[.int .i64 ((rd_T58 l0_0 x10_2).f0), .int .i64 0]) ?_ 1 _ rfl; (with_reducible repeat (first | refine blk_drewN ?_ _ | refine blk_drew ?_ | refine blk_alloc ?_ _)); refine blk_put (cs := #[.int .i64 0, .int .i64 0]) ?_ 0 _ rfl; (with_reducible repeat (first | refine blk_drewN ?_ _ | refine blk_drew ?_ | refine blk_alloc ?_ _)); exact BK322.out⟩
                                have n7_ : Aside0 (Below w.heap.size w ((w43.setCell ⟨gb322, 0, none⟩ (.int .i64 ((rd_T58 l0_0 x10_2).f0))).setCell ⟨gb322, 1, none⟩ (.int .i64 ((rd_T58 l0_0 x10_2).f1)))) := ⟨by repeat (first | (with_reducible first | exact HB.out | apply below_alloc | apply pw_below_drewN | apply below_drew1 | refine below_set ?_ GE311.out | refine below_set ?_ GE319.out | refine below_set ?_ GE320.out | refine below_set ?_ GE322.out) | exact HB.out)⟩
                                (try clear HO_7)
                                (try clear HO_320000)
                                (try clear HO_321000)
                                (try clear BK311)
                                (try clear BK319)
                                (try clear BK320)
                                (try clear BK322)
                                (try clear HB)
                                generalize ((w43.setCell ⟨gb322, 0, none⟩ (.int .i64 ((rd_T58 l0_0 x10_2).f0))).setCell ⟨gb322, 1, none⟩ (.int .i64 ((rd_T58 l0_0 x10_2).f1))) = w48 at n0_ n1_ n2_ n3_ n4_ n5_ n6_ n7_ ⊢
                                have HO_7 := n0_
                                have HO_320000 := n1_
                                have HO_321000 := n2_
                                have BK311 := n3_
                                have BK319 := n4_
                                have BK320 := n5_
                                have BK322 := n6_
                                have HB := n7_
                                clear n0_ n1_ n2_ n3_ n4_ n5_ n6_ n7_
                                have n0_ := Aside0.mk (Kd.R_drew HO_7.out)
                                have n1_ := Aside0.mk (Kd.R_drew HO_320000.out)
                                have n2_ := Aside0.mk (Kd.R_drew HO_321000.out)
                                have n3_ := Aside0.mk (blk_drew BK311.out)
                                have n4_ := Aside0.mk (blk_drew BK319.out)
                                have n5_ := Aside0.mk (blk_drew BK320.out)
                                have n6_ := Aside0.mk (blk_drew BK322.out)
                                have n7_ := Aside0.mk (below_drew1 HB.out)
                                clear HO_7
                                clear HO_320000
                                clear HO_321000
                                clear BK311
                                clear BK319
                                clear BK320
                                clear BK322
                                clear HB
                                have HO_7 := n0_
                                have HO_320000 := n1_
                                have HO_321000 := n2_
                                have BK311 := n3_
                                have BK319 := n4_
                                have BK320 := n5_
                                have BK322 := n6_
                                have HB := n7_
                                clear n0_ n1_ n2_ n3_ n4_ n5_ n6_ n7_
                                have p323 : 0 ≤ (x10_2 : Int) := of_decide_eq_true (by first | (with_reducible assumption) | assumption)
                                have q323 : x10_2 < (l1.length : Int) := of_decide_eq_true (by first | (with_reducible assumption) | assumption)
                                obtain ⟨ad323, e323, hx323_0⟩ := Kd.at_int HR1.out x10_2 p323 q323
                                have hw323_0 := hx323_0
                                cases e323
                                replace hx323_0 := (HB.out.cell (World.block_lt_of_cell? w _ hx323_0)).trans hx323_0
                                replace p323 := eq_true p323
                                replace q323 := eq_true q323
                                refine start_ (n := 15) (S := fun w' => w'.cell? ⟨gb322, 0, none⟩ = some (.int .i64 ((rd_T58 l0_0 x10_2).f0)) ∧ w'.cell? ⟨gb322, 1, none⟩ = some (.int .i64 ((rd_T58 l0_0 x10_2).f1)) ∧ w'.cell? (ad323.add (x10_2).toNat) = some (.int .i64 (rd l1 x10_2))) (ds := []) #[false, false, false, false, false, false, false, false, false, false, false, false, false, false, false] (by kernel_rfl) rfl rfl ⟨(blk_cell BK322.out 0).trans rfl, (blk_cell BK322.out 1).trans rfl, ((HB.out.cell (World.block_lt_of_cell? w _ hw323_0)).trans hw323_0)⟩ (fun hHeld => ?_); refine with_tabW guidevanelaw06_GovernorWhole.tab14 guidevanelaw06_GovernorWhole.bits14 (fun HT_ HW_ => ?_)
                                generalize w48.drew = w49 at HO_7 HO_320000 HO_321000 BK311 BK319 BK320 BK322 HB hx323_0 hHeld ⊢
                                refine pure_ (i := 0) (N := some 58) (v := ?_) (a' := ?_) #[true, false, false, false, false, false, false, false, false, false, false, false, false, false, false] rfl rfl (any_of HT_.out (by kernel_rfl)) (fun _ _ _ h => h) (Or.inl ⟨by rfl, ?_⟩) ?_ ?_
                                rotate_left
                                · intro w'
                                  go_simp
                                  with_reducible rfl
                                rotate_left
                                · simp only [Act.put, List.setIfInBounds_toArray, List.set_cons_zero, List.set_cons_succ, i64_w, i32_w]
                                  rfl
                                refine pure_ (i := 2) (N := some 60) (v := ?_) (a' := ?_) #[true, false, true, false, false, false, false, false, false, false, false, false, false, false, false] rfl rfl (any_of HT_.out (by kernel_rfl)) (fun _ _ _ h => h) (Or.inl ⟨by rfl, ?_⟩) ?_ ?_
                                rotate_left
                                · intro w'
                                  go_simp
                                  with_reducible rfl
                                rotate_left
                                · simp only [Act.put, List.setIfInBounds_toArray, List.set_cons_zero, List.set_cons_succ, i64_w, i32_w]
                                  rfl
                                refine pure_ (i := 3) (N := some 61) (v := ?_) (a' := ?_) #[true, false, true, true, false, false, false, false, false, false, false, false, false, false, false] rfl rfl (any_of HT_.out (by kernel_rfl)) (fun _ _ _ h => h) (Or.inl ⟨by rfl, ?_⟩) ?_ ?_
                                rotate_left
                                · intro w'
                                  go_simp
                                  with_reducible rfl
                                rotate_left
                                · simp only [Act.put, List.setIfInBounds_toArray, List.set_cons_zero, List.set_cons_succ, i64_w, i32_w]
                                  rfl
                                refine pure_ (i := 4) (N := some 62) (v := ?_) (a' := ?_) #[true, false, true, true, true, false, false, false, false, false, false, false, false, false, false] rfl rfl (any_of HT_.out (by kernel_rfl)) (fun _ _ _ h => h) (Or.inl ⟨by rfl, ?_⟩) ?_ ?_
                                rotate_left
                                · intro w'
                                  go_simp
                                  with_reducible rfl
                                rotate_left
                                · simp only [Act.put, List.setIfInBounds_toArray, List.set_cons_zero, List.set_cons_succ, i64_w, i32_w]
                                  rfl
                                refine pure_ (i := 6) (N := some 64) (v := ?_) (a' := ?_) #[true, false, true, true, true, false, true, false, false, false, false, false, false, false, false] rfl rfl (any_of HT_.out (by kernel_rfl)) (fun _ _ _ h => h) (Or.inl ⟨by rfl, ?_⟩) ?_ ?_
                                rotate_left
                                · intro w'
                                  go_simp
                                  with_reducible rfl
                                rotate_left
                                · simp only [Act.put, List.setIfInBounds_toArray, List.set_cons_zero, List.set_cons_succ, i64_w, i32_w]
                                  rfl
                                refine pure_ (i := 8) (N := some 66) (v := ?_) (a' := ?_) #[true, false, true, true, true, false, true, false, true, false, false, false, false, false, false] rfl rfl (any_of HT_.out (by kernel_rfl)) (fun _ _ _ h => h) (Or.inl ⟨by rfl, ?_⟩) ?_ ?_
                                rotate_left
                                · intro w'
                                  go_simp
                                  with_reducible rfl
                                rotate_left
                                · simp only [Act.put, List.setIfInBounds_toArray, List.set_cons_zero, List.set_cons_succ, i64_w, i32_w]
                                  rfl
                                refine take_ (i := 1) (N := some 59) (v := ?_) (a' := ?_) #[true, true, true, true, true, false, true, false, true, false, false, false, false, false, false] rfl rfl (take_ofW HT_.out HW_.out (by kernel_rfl)) (fun _ _ _ h => h) (Or.inl ⟨by rfl, ?_⟩) hHeld ?_ ?_
                                rotate_left
                                · rintro w' ⟨s0, s1, s2⟩
                                  go_simp
                                  with_reducible rfl
                                rotate_left
                                · simp only [Act.put, List.setIfInBounds_toArray, List.set_cons_zero, List.set_cons_succ, i64_w, i32_w]
                                  rfl
                                refine take_ (i := 5) (N := some 63) (v := ?_) (a' := ?_) #[true, true, true, true, true, true, true, false, true, false, false, false, false, false, false] rfl rfl (take_ofW HT_.out HW_.out (by kernel_rfl)) (fun _ _ _ h => h) (Or.inl ⟨by rfl, ?_⟩) hHeld ?_ ?_
                                rotate_left
                                · rintro w' ⟨s0, s1, s2⟩
                                  go_simp
                                  with_reducible rfl
                                rotate_left
                                · simp only [Act.put, List.setIfInBounds_toArray, List.set_cons_zero, List.set_cons_succ, i64_w, i32_w]
                                  rfl
                                refine take_ (i := 7) (N := some 65) (v := ?_) (a' := ?_) #[true, true, true, true, true, true, true, true, true, false, false, false, false, false, false] rfl rfl (take_ofW HT_.out HW_.out (by kernel_rfl)) (fun _ _ _ h => h) (Or.inl ⟨by rfl, ?_⟩) hHeld ?_ ?_
                                rotate_left
                                · rintro w' ⟨s0, s1, s2⟩
                                  go_simp
                                  with_reducible rfl
                                rotate_left
                                · simp only [Act.put, List.setIfInBounds_toArray, List.set_cons_zero, List.set_cons_succ, i64_w, i32_w]
                                  rfl
                                refine take_ (i := 9) (N := some 67) (v := ?_) (a' := ?_) #[true, true, true, true, true, true, true, true, true, true, false, false, false, false, false] rfl rfl (take_ofW HT_.out HW_.out (by kernel_rfl)) (fun _ _ _ h => h) (Or.inl ⟨by rfl, ?_⟩) hHeld ?_ ?_
                                rotate_left
                                · rintro w' ⟨s0, s1, s2⟩
                                  go_simp
                                  with_reducible rfl
                                rotate_left
                                · simp only [Act.put, List.setIfInBounds_toArray, List.set_cons_zero, List.set_cons_succ, i64_w, i32_w]
                                  rfl
                                refine pure_ (i := 10) (N := some 68) (v := ?_) (a' := ?_) #[true, true, true, true, true, true, true, true, true, true, true, false, false, false, false] rfl rfl (any_of HT_.out (by kernel_rfl)) (fun _ _ _ h => h) (Or.inl ⟨by rfl, ?_⟩) ?_ ?_
                                rotate_left
                                · intro w'
                                  go_simp
                                  with_reducible rfl
                                rotate_left
                                · simp only [Act.put, List.setIfInBounds_toArray, List.set_cons_zero, List.set_cons_succ, i64_w, i32_w]
                                  rfl
                                refine pure_ (i := 11) (N := some 69) (v := ?_) (a' := ?_) #[true, true, true, true, true, true, true, true, true, true, true, true, false, false, false] rfl rfl (any_of HT_.out (by kernel_rfl)) (fun _ _ _ h => h) (Or.inl ⟨by rfl, ?_⟩) ?_ ?_
                                rotate_left
                                · intro w'
                                  go_simp
                                  with_reducible rfl
                                rotate_left
                                · simp only [Act.put, List.setIfInBounds_toArray, List.set_cons_zero, List.set_cons_succ, i64_w, i32_w]
                                  rfl
                                refine one_ (i := 12) (N := some 70) #[true, true, true, true, true, true, true, true, true, true, true, true, true, false, false] rfl rfl (one_of HT_.out (by kernel_rfl)) (by decide) (fun K hK => ?_)
                                refine goes_ Tryz.func36 (by kernel_rfl) rfl #[.int .i64 (rd l1 x10_2), .int .i64 (wrap64 ((wrap64 (((rd_T58 l0_0 x10_2).f1) - ((rd_T58 l0_0 x10_2).f0))) + 1))] (by rfl) rfl rfl (by (try simp only [List.map_toArray, List.map_cons, List.map_nil]); first | done | rfl | (simp only [List.length_drop, List.length_take]; rfl)) ?_
                                with_reducible refine (guidevanebase_Mod.calls (rd l1 x10_2) (wrap64 ((wrap64 (((rd_T58 l0_0 x10_2).f1) - ((rd_T58 l0_0 x10_2).f0))) + 1)) t324 _ A32.out).mono ?_
                                rintro e w' ⟨rfl, ⟨nd, rfl⟩⟩
                                refine ⟨_, rfl, ?_⟩
                                refine hK.out _ _ ⟨(blk_cell BK322.out 0).trans rfl, (blk_cell BK322.out 1).trans rfl, ((HB.out.cell (World.block_lt_of_cell? w _ hw323_0)).trans hw323_0)⟩ (fun hHeld => ?_)
                                clear hK K
                                refine norm_ (a' := ?_) ?_ ?_
                                rotate_left
                                · show Act.put _ (some 70) _ = _
                                  simp only [Act.put, List.setIfInBounds_toArray, List.set_cons_zero, List.set_cons_succ, i64_w, i32_w]
                                  rfl
                                refine pure_ (i := 13) (N := some 71) (v := ?_) (a' := ?_) #[true, true, true, true, true, true, true, true, true, true, true, true, true, true, false] rfl rfl (any_of HT_.out (by kernel_rfl)) (fun _ _ _ h => h) (Or.inl ⟨by rfl, ?_⟩) ?_ ?_
                                rotate_left
                                · intro w'
                                  go_simp
                                  with_reducible rfl
                                rotate_left
                                · simp only [Act.put, List.setIfInBounds_toArray, List.set_cons_zero, List.set_cons_succ, i64_w, i32_w]
                                  rfl
                                refine pure_ (i := 14) (N := some 12) (v := ?_) (a' := ?_) #[true, true, true, true, true, true, true, true, true, true, true, true, true, true, true] rfl rfl (any_of HT_.out (by kernel_rfl)) (fun _ _ _ h => h) (Or.inl ⟨by rfl, ?_⟩) ?_ ?_
                                rotate_left
                                · intro w'
                                  go_simp
                                  with_reducible rfl
                                rotate_left
                                · simp only [Act.put, List.setIfInBounds_toArray, List.set_cons_zero, List.set_cons_succ, i64_w, i32_w]
                                  rfl
                                refine done_ (done_of HT_.out (by kernel_rfl)) ?_
                                try go_wp2_with (first | ((with_reducible refine gate_builtin (b := .append) (xs := #[.tmp 72, .tmp 74]) rfl ?_); (try (refine gate_guard (by rfl) ?_; dsimp only)); at_builtin; refine Kd.R_append (Kd.int .i64) (w0 := w) w.heap.size rfl (.tmp 72) (.tmp 74) 22 3 (.int .i64 0) 8 rfl Tryz.underlying22 info3 rfl (by decide) (by omega) u7 x7_2 (wrap64 (((rd_T58 l0_0 x10_2).f0) + t324)) [.int .i64 (wrap64 (((rd_T58 l0_0 x10_2).f0) + t324))] (fun _ => True) (fun _ => False) rfl rfl ?aP (fun _ hk => hk.elim) ?aF ?aO ?aB ?aS ?aL ?_; (case aP => exact rfl); (case aB => exact (by repeat (first | (with_reducible first | exact HB.out | apply below_alloc | apply pw_below_drewN | apply below_drew1 | refine below_set ?_ GE311.out | refine below_set ?_ GE319.out | refine below_set ?_ GE320.out | refine below_set ?_ GE322.out) | exact HB.out))); (case aF => exact (fun _ _ => trivial)); (case aO => exact (by (with_reducible repeat (first | apply Kd.R_alloc | apply Kd.R_drewN | apply Kd.R_drew)); exact HO_7.out)); (case aS => exact (below_size (by repeat (first | (with_reducible first | exact HB.out | apply below_alloc | apply pw_below_drewN | apply below_drew1 | refine below_set ?_ GE311.out | refine below_set ?_ GE319.out | refine below_set ?_ GE320.out | refine below_set ?_ GE322.out) | exact HB.out)))); (case aL => have := LMc33.out; omega); intro v326 w50 ho hb hg hat; rw [← Ny325.out] at ho; have n0_ := Aside0.mk (Kd.R_over' (by (with_reducible repeat (first | apply Kd.R_alloc | apply Kd.R_drewN | apply Kd.R_drew)); exact HO_320000.out) (Kd.R_typed (by (with_reducible repeat (first | apply Kd.R_alloc | apply Kd.R_drewN | apply Kd.R_drew)); exact HO_7.out)) (by decide) hg); have n1_ := Aside0.mk (Kd.R_over' (by (with_reducible repeat (first | apply Kd.R_alloc | apply Kd.R_drewN | apply Kd.R_drew)); exact HO_321000.out) (Kd.R_typed (by (with_reducible repeat (first | apply Kd.R_alloc | apply Kd.R_drewN | apply Kd.R_drew)); exact HO_7.out)) (by decide) hg); have n2_ := Aside0.mk (blk_grown (g := gb311) (o := .cells #[.slice (some ad321) l0_0.length c0_0] 42 (0, 0)) (by (with_reducible repeat (first | refine blk_drewN ?_ _ | refine blk_drew ?_ | refine blk_alloc ?_ _)); exact BK311.out) hg (Kd.R_ne HO_7.out BK311.out (by decide))); have n3_ := Aside0.mk (blk_grown (g := gb319) (o := .cells #[u320000] 42 (0, 0)) (by (with_reducible repeat (first | refine blk_drewN ?_ _ | refine blk_drew ?_ | refine blk_alloc ?_ _)); exact BK319.out) hg (Kd.R_ne HO_7.out BK319.out (by decide))); have n4_ := Aside0.mk (blk_grown (g := gb320) (o := .cells #[u321000] 42 (0, 0)) (by (with_reducible repeat (first | refine blk_drewN ?_ _ | refine blk_drew ?_ | refine blk_alloc ?_ _)); exact BK320.out) hg (Kd.R_ne HO_7.out BK320.out (by decide))); have n5_ := Aside0.mk (blk_grown (g := gb322) (o := .cells #[.int .i64 ((rd_T58 l0_0 x10_2).f0), .int .i64 ((rd_T58 l0_0 x10_2).f1)] 58 (0, 0)) (by (with_reducible repeat (first | refine blk_drewN ?_ _ | refine blk_drew ?_ | refine blk_alloc ?_ _)); exact BK322.out) hg (Kd.R_ne HO_7.out BK322.out (by decide))); have n6_ := Aside0.mk (hb); have n7_ := Aside0.mk (ho); clear HO_320000; clear HO_321000; clear BK311; clear BK319; clear BK320; clear BK322; clear HB; clear HO_7; have HO_320000 := n0_; have HO_321000 := n1_; have BK311 := n2_; have BK319 := n3_; have BK320 := n4_; have BK322 := n5_; have HB := n6_; have HO327 := n7_; clear n0_ n1_ n2_ n3_ n4_ n5_ n6_ n7_; clear ho hb hg hat; have hnb51 := NB319_320.out; have hnc51 := NB320_319.out; have hcz52_0 : w50.cell? ⟨gb319, 0, none⟩ = some (u320000) := (blk_cell BK319.out 0).trans rfl; have hfz52_0 := blk_frozen BK319.out 0) | ((with_reducible refine gate_builtin (b := .append) (xs := #[.tmp 77, .tmp 81]) rfl ?_); (try (refine gate_guard (by rfl) ?_; dsimp only)); at_builtin; refine Kd.R_append k58 (w0 := w) w.heap.size rfl (.tmp 77) (.tmp 81) 40 58 (.agg #[(.int .i64 0), (.int .i64 0)]) 16 rfl Tryz.underlying40 info58 rfl (by decide) (by omega) u320000 x320000_2 (⟨wrap64 (((rd_T58 l0_0 x10_2).f0) + t324), wrap64 (((rd_T58 l0_0 x10_2).f0) + t324)⟩ : S58) [.int .i64 (wrap64 (((rd_T58 l0_0 x10_2).f0) + t324)), .int .i64 (wrap64 (((rd_T58 l0_0 x10_2).f0) + t324))] (fun k_ => some k_ ≠ (u321000 : Value).ownBlock ∧ k_ ≠ gb322) (fun _ => False) rfl rfl ?aP (fun _ hk => hk.elim) ?aF ?aO ?aB ?aS ?aL ?_; (case aP => exact k58_mkM _ _ _ (⟨wrap64 (((rd_T58 l0_0 x10_2).f0) + t324), wrap64 (((rd_T58 l0_0 x10_2).f0) + t324)⟩ : S58)); (case aB => exact (by repeat (first | (with_reducible first | exact HB.out | apply below_alloc | apply pw_below_drewN | apply below_drew1 | refine below_set ?_ GE311.out | refine below_set ?_ GE319.out | refine below_set ?_ GE320.out | refine below_set ?_ GE322.out) | exact HB.out))); (case aF => exact (fun k_ hk => ⟨Kd.fresh' (Kd.R_lt (by (with_reducible repeat (first | apply Kd.R_alloc | apply Kd.R_drewN | apply Kd.R_drew)); exact HO_321000.out)) k_ hk, Kd.freshB (g := gb322) (o := .cells #[.int .i64 ((rd_T58 l0_0 x10_2).f0), .int .i64 ((rd_T58 l0_0 x10_2).f1)] 58 (0, 0)) (by (with_reducible repeat (first | refine blk_drewN ?_ _ | refine blk_drew ?_ | refine blk_alloc ?_ _)); exact BK322.out) k_ hk⟩)); (case aO => exact (by (with_reducible repeat (first | apply Kd.R_alloc | apply Kd.R_drewN | apply Kd.R_drew)); exact HO_320000.out)); (case aS => exact (below_size (by repeat (first | (with_reducible first | exact HB.out | apply below_alloc | apply pw_below_drewN | apply below_drew1 | refine below_set ?_ GE311.out | refine below_set ?_ GE319.out | refine below_set ?_ GE320.out | refine below_set ?_ GE322.out) | exact HB.out)))); (case aL => have := LMc34.out; omega); intro v329 w53 ho hb hg hat; rw [← Ny328.out] at ho; have n0_ := Aside0.mk (Kd.R_after (ok := (fun k_ => k_ ≠ gb322)) (by (with_reducible repeat (first | apply Kd.R_alloc | apply Kd.R_drewN | apply Kd.R_drew)); exact Kd.R_mono HO_321000.out (fun _ hk => ⟨hk.2, hk.1⟩)) hg hat); have n1_ := Aside0.mk (blk_grown (g := gb311) (o := .cells #[.slice (some ad321) l0_0.length c0_0] 42 (0, 0)) (by (with_reducible repeat (first | refine blk_drewN ?_ _ | refine blk_drew ?_ | refine blk_alloc ?_ _)); exact BK311.out) hg (Kd.R_ne HO_320000.out BK311.out (by decide))); have n2_ := Aside0.mk (blk_grown (g := gb319) (o := .cells #[u320000] 42 (0, 0)) (by (with_reducible repeat (first | refine blk_drewN ?_ _ | refine blk_drew ?_ | refine blk_alloc ?_ _)); exact BK319.out) hg (Kd.R_ne HO_320000.out BK319.out (by decide))); have n3_ := Aside0.mk (blk_grown (g := gb320) (o := .cells #[u321000] 42 (0, 0)) (by (with_reducible repeat (first | refine blk_drewN ?_ _ | refine blk_drew ?_ | refine blk_alloc ?_ _)); exact BK320.out) hg (Kd.R_ne HO_320000.out BK320.out (by decide))); have n4_ := Aside0.mk (blk_grown (g := gb322) (o := .cells #[.int .i64 ((rd_T58 l0_0 x10_2).f0), .int .i64 ((rd_T58 l0_0 x10_2).f1)] 58 (0, 0)) (by (with_reducible repeat (first | refine blk_drewN ?_ _ | refine blk_drew ?_ | refine blk_alloc ?_ _)); exact BK322.out) hg (Kd.R_away HO_320000.out (fun _ hk => hk.2))); have n5_ := Aside0.mk (Kd.R_over' (by (with_reducible repeat (first | apply Kd.R_alloc | apply Kd.R_drewN | apply Kd.R_drew)); exact HO327.out) (Kd.R_typed (by (with_reducible repeat (first | apply Kd.R_alloc | apply Kd.R_drewN | apply Kd.R_drew)); exact HO_320000.out)) (by decide) hg); have n6_ := Aside0.mk (hb); have n7_ := Aside0.mk (ho); clear HO_321000; clear BK311; clear BK319; clear BK320; clear BK322; clear HO327; clear HB; clear HO_320000; have HO_321000 := n0_; have BK311 := n1_; have BK319 := n2_; have BK320 := n3_; have BK322 := n4_; have HO327 := n5_; have HB := n6_; have HO330 := n7_; clear n0_ n1_ n2_ n3_ n4_ n5_ n6_ n7_; clear ho hb hg hat; obtain ⟨Ao54, co54, eo54⟩ := Kd.R_slice HO330.out; subst eo54; have hcz55_0 : w53.cell? ⟨gb319, 0, none⟩ = some (u320000) := (blk_cell BK319.out 0).trans rfl; have hfz55_0 := blk_frozen BK319.out 0))
                                have n0_ : Aside0 (Kd.R k58 58 (w53.setCell ⟨gb319, 0, none⟩ (.slice Ao54 y328.length co54)) w.heap.size (fun k_ => some k_ ≠ (.slice Ao54 y328.length co54 : Value).ownBlock ∧ k_ ≠ gb322) u321000 x321000_2) := ⟨by (with_reducible repeat (first | apply Kd.R_alloc | apply Kd.R_drewN | apply Kd.R_drew)); exact Kd.R_mono (Kd.R_far (p := ⟨gb319, 0, none⟩) (Kd.R_types HO_321000.out BK319.out (by decide)) (fun _ hk => hk.2) (.slice Ao54 y328.length co54)) (fun _ hk => ⟨hk.1.2, hk.1.1⟩)⟩
                                have n1_ : Aside0 (Kd.R (Kd.int .i64) 3 (w53.setCell ⟨gb319, 0, none⟩ (.slice Ao54 y328.length co54)) w.heap.size (fun _ => True) v326 y325) := ⟨by (with_reducible repeat (first | apply Kd.R_alloc | apply Kd.R_drewN | apply Kd.R_drew)); exact Kd.R_mono (Kd.R_far (p := ⟨gb319, 0, none⟩) (Kd.R_types HO327.out BK319.out (by decide)) (fun _ hk => hk.2) (.slice Ao54 y328.length co54)) (fun _ hk => trivial)⟩
                                have n2_ : Aside0 (Kd.R k58 58 (w53.setCell ⟨gb319, 0, none⟩ (.slice Ao54 y328.length co54)) w.heap.size (fun k_ => some k_ ≠ (u321000 : Value).ownBlock ∧ k_ ≠ gb322) (.slice Ao54 y328.length co54) y328) := ⟨by (with_reducible repeat (first | apply Kd.R_alloc | apply Kd.R_drewN | apply Kd.R_drew)); exact Kd.R_mono (Kd.R_far (p := ⟨gb319, 0, none⟩) (Kd.R_types HO330.out BK319.out (by decide)) (fun _ hk => hk.2) (.slice Ao54 y328.length co54)) (fun _ hk => ⟨hk.1.1, hk.1.2⟩)⟩
                                have n3_ : Aside0 ((w53.setCell ⟨gb319, 0, none⟩ (.slice Ao54 y328.length co54)).heap[gb311]? = some (.cells #[.slice (some ad321) l0_0.length c0_0] 42 (0, 0))) := ⟨by (with_reducible repeat (first | refine blk_drewN ?_ _ | refine blk_drew ?_ | refine blk_alloc ?_ _)); refine blk_far ?_ NB311_319.out _; (with_reducible repeat (first | refine blk_drewN ?_ _ | refine blk_drew ?_ | refine blk_alloc ?_ _)); exact BK311.out⟩
                                have n4_ : Aside0 ((w53.setCell ⟨gb319, 0, none⟩ (.slice Ao54 y328.length co54)).heap[gb319]? = some (.cells #[.slice Ao54 y328.length co54] 42 (0, 0))) := ⟨by (with_reducible repeat (first | refine blk_drewN ?_ _ | refine blk_drew ?_ | refine blk_alloc ?_ _)); refine blk_put (cs := #[u320000]) ?_ 0 _ rfl; (with_reducible repeat (first | refine blk_drewN ?_ _ | refine blk_drew ?_ | refine blk_alloc ?_ _)); exact BK319.out⟩
                                have n5_ : Aside0 ((w53.setCell ⟨gb319, 0, none⟩ (.slice Ao54 y328.length co54)).heap[gb320]? = some (.cells #[u321000] 42 (0, 0))) := ⟨by (with_reducible repeat (first | refine blk_drewN ?_ _ | refine blk_drew ?_ | refine blk_alloc ?_ _)); refine blk_far ?_ NB320_319.out _; (with_reducible repeat (first | refine blk_drewN ?_ _ | refine blk_drew ?_ | refine blk_alloc ?_ _)); exact BK320.out⟩
                                have n6_ : Aside0 ((w53.setCell ⟨gb319, 0, none⟩ (.slice Ao54 y328.length co54)).heap[gb322]? = some (.cells #[.int .i64 ((rd_T58 l0_0 x10_2).f0), .int .i64 ((rd_T58 l0_0 x10_2).f1)] 58 (0, 0))) := ⟨by (with_reducible repeat (first | refine blk_drewN ?_ _ | refine blk_drew ?_ | refine blk_alloc ?_ _)); refine blk_far ?_ NB322_319.out _; (with_reducible repeat (first | refine blk_drewN ?_ _ | refine blk_drew ?_ | refine blk_alloc ?_ _)); exact BK322.out⟩
                                have n7_ : Aside0 (Below w.heap.size w (w53.setCell ⟨gb319, 0, none⟩ (.slice Ao54 y328.length co54))) := ⟨by repeat (first | (with_reducible first | exact HB.out | apply below_alloc | apply pw_below_drewN | apply below_drew1 | refine below_set ?_ GE311.out | refine below_set ?_ GE319.out | refine below_set ?_ GE320.out | refine below_set ?_ GE322.out) | exact HB.out)⟩
                                (try clear HO_321000)
                                (try clear HO327)
                                (try clear HO330)
                                (try clear BK311)
                                (try clear BK319)
                                (try clear BK320)
                                (try clear BK322)
                                (try clear HB)
                                generalize (w53.setCell ⟨gb319, 0, none⟩ (.slice Ao54 y328.length co54)) = w56 at n0_ n1_ n2_ n3_ n4_ n5_ n6_ n7_ ⊢
                                have HO_321000 := n0_
                                have HO327 := n1_
                                have HO330 := n2_
                                have BK311 := n3_
                                have BK319 := n4_
                                have BK320 := n5_
                                have BK322 := n6_
                                have HB := n7_
                                clear n0_ n1_ n2_ n3_ n4_ n5_ n6_ n7_
                                have n0_ := Aside0.mk (Kd.R_drew HO_321000.out)
                                have n1_ := Aside0.mk (Kd.R_drew HO327.out)
                                have n2_ := Aside0.mk (Kd.R_drew HO330.out)
                                have n3_ := Aside0.mk (blk_drew BK311.out)
                                have n4_ := Aside0.mk (blk_drew BK319.out)
                                have n5_ := Aside0.mk (blk_drew BK320.out)
                                have n6_ := Aside0.mk (blk_drew BK322.out)
                                have n7_ := Aside0.mk (below_drew1 HB.out)
                                clear HO_321000
                                clear HO327
                                clear HO330
                                clear BK311
                                clear BK319
                                clear BK320
                                clear BK322
                                clear HB
                                have HO_321000 := n0_
                                have HO327 := n1_
                                have HO330 := n2_
                                have BK311 := n3_
                                have BK319 := n4_
                                have BK320 := n5_
                                have BK322 := n6_
                                have HB := n7_
                                clear n0_ n1_ n2_ n3_ n4_ n5_ n6_ n7_
                                have p331 : 0 ≤ ((ji35) : Int) := of_decide_eq_true (by first | (with_reducible assumption) | assumption)
                                have q331 : (ji35) < (l1.length : Int) := of_decide_eq_true (by first | (with_reducible assumption) | assumption)
                                obtain ⟨ad331, e331, hx331_0⟩ := Kd.at_int HR1.out (ji35) p331 q331
                                have hw331_0 := hx331_0
                                obtain rfl : ad323 = ad331 := (by injection e331)
                                replace hx331_0 := (HB.out.cell (World.block_lt_of_cell? w _ hx331_0)).trans hx331_0
                                replace p331 := eq_true p331
                                replace q331 := eq_true q331
                                refine start_ (n := 24) (S := fun w' => w'.cell? ⟨gb320, 0, none⟩ = some (u321000) ∧ w'.cell? ⟨gb311, 0, none⟩ = some (.slice (some ad321) l0_0.length c0_0) ∧ w'.cell? ⟨gb322, 0, none⟩ = some (.int .i64 ((rd_T58 l0_0 x10_2).f0)) ∧ w'.cell? ⟨gb322, 1, none⟩ = some (.int .i64 ((rd_T58 l0_0 x10_2).f1)) ∧ w'.cell? (ad323.add ((ji35)).toNat) = some (.int .i64 (rd l1 (ji35)))) (ds := [23]) #[false, false, false, false, false, false, false, false, false, false, false, false, false, false, false, false, false, false, false, false, false, false, false, false] (by kernel_rfl) rfl rfl ⟨(blk_cell BK320.out 0).trans rfl, (blk_cell BK311.out 0).trans rfl, (blk_cell BK322.out 0).trans rfl, (blk_cell BK322.out 1).trans rfl, ((HB.out.cell (World.block_lt_of_cell? w _ hw331_0)).trans hw331_0)⟩ (fun hHeld => ?_); refine with_tabW guidevanelaw06_GovernorWhole.tab17 guidevanelaw06_GovernorWhole.bits17 (fun HT_ HW_ => ?_)
                                generalize w56.drew = w57 at HO_321000 HO327 HO330 BK311 BK319 BK320 BK322 HB hx331_0 hHeld ⊢
                                refine pure_ (i := 0) (N := some 84) (v := ?_) (a' := ?_) #[true, false, false, false, false, false, false, false, false, false, false, false, false, false, false, false, false, false, false, false, false, false, false, false] rfl rfl (any_of HT_.out (by kernel_rfl)) (fun _ _ _ h => h) (Or.inl ⟨by rfl, ?_⟩) ?_ ?_
                                rotate_left
                                · intro w'
                                  go_simp
                                  with_reducible rfl
                                rotate_left
                                · simp only [Act.put, List.setIfInBounds_toArray, List.set_cons_zero, List.set_cons_succ, i64_w, i32_w]
                                  rfl
                                refine pure_ (i := 2) (N := some 86) (v := ?_) (a' := ?_) #[true, false, true, false, false, false, false, false, false, false, false, false, false, false, false, false, false, false, false, false, false, false, false, false] rfl rfl (any_of HT_.out (by kernel_rfl)) (fun _ _ _ h => h) (Or.inl ⟨by rfl, ?_⟩) ?_ ?_
                                rotate_left
                                · intro w'
                                  go_simp
                                  with_reducible rfl
                                rotate_left
                                · simp only [Act.put, List.setIfInBounds_toArray, List.set_cons_zero, List.set_cons_succ, i64_w, i32_w]
                                  rfl
                                refine pure_ (i := 3) (N := some 87) (v := ?_) (a' := ?_) #[true, false, true, true, false, false, false, false, false, false, false, false, false, false, false, false, false, false, false, false, false, false, false, false] rfl rfl (any_of HT_.out (by kernel_rfl)) (fun _ _ _ h => h) (Or.inl ⟨by rfl, ?_⟩) ?_ ?_
                                rotate_left
                                · intro w'
                                  go_simp
                                  with_reducible rfl
                                rotate_left
                                · simp only [Act.put, List.setIfInBounds_toArray, List.set_cons_zero, List.set_cons_succ, i64_w, i32_w]
                                  rfl
                                refine pure_ (i := 4) (N := some 88) (v := ?_) (a' := ?_) #[true, false, true, true, true, false, false, false, false, false, false, false, false, false, false, false, false, false, false, false, false, false, false, false] rfl rfl (any_of HT_.out (by kernel_rfl)) (fun _ _ _ h => h) (Or.inl ⟨by rfl, ?_⟩) ?_ ?_
                                rotate_left
                                · intro w'
                                  go_simp
                                  with_reducible rfl
                                rotate_left
                                · simp only [Act.put, List.setIfInBounds_toArray, List.set_cons_zero, List.set_cons_succ, i64_w, i32_w]
                                  rfl
                                refine pure_ (i := 5) (N := some 89) (v := ?_) (a' := ?_) #[true, false, true, true, true, true, false, false, false, false, false, false, false, false, false, false, false, false, false, false, false, false, false, false] rfl rfl (any_of HT_.out (by kernel_rfl)) (fun _ _ _ h => h) (Or.inl ⟨by rfl, ?_⟩) ?_ ?_
                                rotate_left
                                · intro w'
                                  go_simp
                                  with_reducible rfl
                                rotate_left
                                · simp only [Act.put, List.setIfInBounds_toArray, List.set_cons_zero, List.set_cons_succ, i64_w, i32_w]
                                  rfl
                                refine pure_ (i := 8) (N := some 92) (v := ?_) (a' := ?_) #[true, false, true, true, true, true, false, false, true, false, false, false, false, false, false, false, false, false, false, false, false, false, false, false] rfl rfl (any_of HT_.out (by kernel_rfl)) (fun _ _ _ h => h) (Or.inl ⟨by rfl, ?_⟩) ?_ ?_
                                rotate_left
                                · intro w'
                                  go_simp
                                  with_reducible rfl
                                rotate_left
                                · simp only [Act.put, List.setIfInBounds_toArray, List.set_cons_zero, List.set_cons_succ, i64_w, i32_w]
                                  rfl
                                refine pure_ (i := 12) (N := some 96) (v := ?_) (a' := ?_) #[true, false, true, true, true, true, false, false, true, false, false, false, true, false, false, false, false, false, false, false, false, false, false, false] rfl rfl (any_of HT_.out (by kernel_rfl)) (fun _ _ _ h => h) (Or.inl ⟨by rfl, ?_⟩) ?_ ?_
                                rotate_left
                                · intro w'
                                  go_simp
                                  with_reducible rfl
                                rotate_left
                                · simp only [Act.put, List.setIfInBounds_toArray, List.set_cons_zero, List.set_cons_succ, i64_w, i32_w]
                                  rfl
                                refine pure_ (i := 14) (N := some 98) (v := ?_) (a' := ?_) #[true, false, true, true, true, true, false, false, true, false, false, false, true, false, true, false, false, false, false, false, false, false, false, false] rfl rfl (any_of HT_.out (by kernel_rfl)) (fun _ _ _ h => h) (Or.inl ⟨by rfl, ?_⟩) ?_ ?_
                                rotate_left
                                · intro w'
                                  go_simp
                                  with_reducible rfl
                                rotate_left
                                · simp only [Act.put, List.setIfInBounds_toArray, List.set_cons_zero, List.set_cons_succ, i64_w, i32_w]
                                  rfl
                                refine take_ (i := 1) (N := some 85) (v := ?_) (a' := ?_) #[true, true, true, true, true, true, false, false, true, false, false, false, true, false, true, false, false, false, false, false, false, false, false, false] rfl rfl (take_ofW HT_.out HW_.out (by kernel_rfl)) (fun _ _ _ h => h) (Or.inl ⟨by rfl, ?_⟩) hHeld ?_ ?_
                                rotate_left
                                · rintro w' ⟨s0, s1, s2, s3, s4⟩
                                  go_simp
                                  with_reducible rfl
                                rotate_left
                                · simp only [Act.put, List.setIfInBounds_toArray, List.set_cons_zero, List.set_cons_succ, i64_w, i32_w]
                                  rfl
                                refine take_ (i := 6) (N := some 90) (v := ?_) (a' := ?_) #[true, true, true, true, true, true, true, false, true, false, false, false, true, false, true, false, false, false, false, false, false, false, false, false] rfl rfl (take_ofW HT_.out HW_.out (by kernel_rfl)) (fun _ _ _ h => h) (Or.inl ⟨by rfl, ?_⟩) hHeld ?_ ?_
                                rotate_left
                                · rintro w' ⟨s0, s1, s2, s3, s4⟩
                                  go_simp
                                  with_reducible rfl
                                rotate_left
                                · simp only [Act.put, List.setIfInBounds_toArray, List.set_cons_zero, List.set_cons_succ, i64_w, i32_w]
                                  rfl
                                refine pure_ (i := 7) (N := some 91) (v := ?_) (a' := ?_) #[true, true, true, true, true, true, true, true, true, false, false, false, true, false, true, false, false, false, false, false, false, false, false, false] rfl rfl (any_of HT_.out (by kernel_rfl)) (fun _ _ _ h => h) (Or.inl ⟨by rfl, ?_⟩) ?_ ?_
                                rotate_left
                                · intro w'
                                  go_simp
                                  with_reducible rfl
                                rotate_left
                                · simp only [Act.put, List.setIfInBounds_toArray, List.set_cons_zero, List.set_cons_succ, i64_w, i32_w]
                                  rfl
                                refine pure_ (i := 9) (N := some 93) (v := ?_) (a' := ?_) #[true, true, true, true, true, true, true, true, true, true, false, false, true, false, true, false, false, false, false, false, false, false, false, false] rfl rfl (any_of HT_.out (by kernel_rfl)) (fun _ _ _ h => h) (Or.inl ⟨by rfl, ?_⟩) ?_ ?_
                                rotate_left
                                · intro w'
                                  go_simp
                                  with_reducible rfl
                                rotate_left
                                · simp only [Act.put, List.setIfInBounds_toArray, List.set_cons_zero, List.set_cons_succ, i64_w, i32_w]
                                  rfl
                                refine pure_ (i := 10) (N := some 94) (v := ?_) (a' := ?_) #[true, true, true, true, true, true, true, true, true, true, true, false, true, false, true, false, false, false, false, false, false, false, false, false] rfl rfl (any_of HT_.out (by kernel_rfl)) (fun _ _ _ h => h) (Or.inl ⟨by rfl, ?_⟩) ?_ ?_
                                rotate_left
                                · intro w'
                                  go_simp
                                  with_reducible rfl
                                rotate_left
                                · simp only [Act.put, List.setIfInBounds_toArray, List.set_cons_zero, List.set_cons_succ, i64_w, i32_w]
                                  rfl
                                refine take_ (i := 11) (N := some 95) (v := ?_) (a' := ?_) #[true, true, true, true, true, true, true, true, true, true, true, true, true, false, true, false, false, false, false, false, false, false, false, false] rfl rfl (take_ofW HT_.out HW_.out (by kernel_rfl)) (fun _ _ _ h => h) (Or.inl ⟨by rfl, ?_⟩) hHeld ?_ ?_
                                rotate_left
                                · rintro w' ⟨s0, s1, s2, s3, s4⟩
                                  go_simp
                                  with_reducible rfl
                                rotate_left
                                · simp only [Act.put, List.setIfInBounds_toArray, List.set_cons_zero, List.set_cons_succ, i64_w, i32_w]
                                  rfl
                                refine take_ (i := 13) (N := some 97) (v := ?_) (a' := ?_) #[true, true, true, true, true, true, true, true, true, true, true, true, true, true, true, false, false, false, false, false, false, false, false, false] rfl rfl (take_ofW HT_.out HW_.out (by kernel_rfl)) (fun _ _ _ h => h) (Or.inl ⟨by rfl, ?_⟩) hHeld ?_ ?_
                                rotate_left
                                · rintro w' ⟨s0, s1, s2, s3, s4⟩
                                  go_simp
                                  with_reducible rfl
                                rotate_left
                                · simp only [Act.put, List.setIfInBounds_toArray, List.set_cons_zero, List.set_cons_succ, i64_w, i32_w]
                                  rfl
                                refine pure_ (i := 15) (N := some 99) (v := ?_) (a' := ?_) #[true, true, true, true, true, true, true, true, true, true, true, true, true, true, true, true, false, false, false, false, false, false, false, false] rfl rfl (any_of HT_.out (by kernel_rfl)) (fun _ _ _ h => h) (Or.inl ⟨by rfl, ?_⟩) ?_ ?_
                                rotate_left
                                · intro w'
                                  go_simp
                                  with_reducible rfl
                                rotate_left
                                · simp only [Act.put, List.setIfInBounds_toArray, List.set_cons_zero, List.set_cons_succ, i64_w, i32_w]
                                  rfl
                                refine pure_ (i := 16) (N := some 100) (v := ?_) (a' := ?_) #[true, true, true, true, true, true, true, true, true, true, true, true, true, true, true, true, true, false, false, false, false, false, false, false] rfl rfl (any_of HT_.out (by kernel_rfl)) (fun _ _ _ h => h) (Or.inl ⟨by rfl, ?_⟩) ?_ ?_
                                rotate_left
                                · intro w'
                                  go_simp
                                  with_reducible rfl
                                rotate_left
                                · simp only [Act.put, List.setIfInBounds_toArray, List.set_cons_zero, List.set_cons_succ, i64_w, i32_w]
                                  rfl
                                refine one_ (i := 17) (N := some 101) #[true, true, true, true, true, true, true, true, true, true, true, true, true, true, true, true, true, true, false, false, false, false, false, false] rfl rfl (one_of HT_.out (by kernel_rfl)) (by decide) (fun K hK => ?_)
                                refine goes_ Tryz.func36 (by kernel_rfl) rfl #[.int .i64 (rd l1 (ji35)), .int .i64 (wrap64 ((wrap64 (((rd_T58 l0_0 x10_2).f1) - (wrap64 (((rd_T58 l0_0 x10_2).f0) + t324)))) + 1))] (by rfl) rfl rfl (by (try simp only [List.map_toArray, List.map_cons, List.map_nil]); first | done | (simp only [hji35]; rfl) | rfl | (simp only [List.length_drop, List.length_take]; rfl)) ?_
                                with_reducible refine (guidevanebase_Mod.calls (rd l1 (ji35)) (wrap64 ((wrap64 (((rd_T58 l0_0 x10_2).f1) - (wrap64 (((rd_T58 l0_0 x10_2).f0) + t324)))) + 1)) t332 _ A38.out).mono ?_
                                rintro e w' ⟨rfl, ⟨nd, rfl⟩⟩
                                refine ⟨_, rfl, ?_⟩
                                refine hK.out _ _ ⟨(blk_cell BK320.out 0).trans rfl, (blk_cell BK311.out 0).trans rfl, (blk_cell BK322.out 0).trans rfl, (blk_cell BK322.out 1).trans rfl, ((HB.out.cell (World.block_lt_of_cell? w _ hw331_0)).trans hw331_0)⟩ (fun hHeld => ?_)
                                clear hK K
                                refine norm_ (a' := ?_) ?_ ?_
                                rotate_left
                                · show Act.put _ (some 101) _ = _
                                  simp only [Act.put, List.setIfInBounds_toArray, List.set_cons_zero, List.set_cons_succ, i64_w, i32_w]
                                  rfl
                                refine pure_ (i := 18) (N := some 102) (v := ?_) (a' := ?_) #[true, true, true, true, true, true, true, true, true, true, true, true, true, true, true, true, true, true, true, false, false, false, false, false] rfl rfl (any_of HT_.out (by kernel_rfl)) (fun _ _ _ h => h) (Or.inl ⟨by rfl, ?_⟩) ?_ ?_
                                rotate_left
                                · intro w'
                                  go_simp
                                  with_reducible rfl
                                rotate_left
                                · simp only [Act.put, List.setIfInBounds_toArray, List.set_cons_zero, List.set_cons_succ, i64_w, i32_w]
                                  rfl
                                refine pure_ (i := 19) (N := some 103) (v := ?_) (a' := ?_) #[true, true, true, true, true, true, true, true, true, true, true, true, true, true, true, true, true, true, true, true, false, false, false, false] rfl rfl (any_of HT_.out (by kernel_rfl)) (fun _ _ _ h => h) (Or.inl ⟨by rfl, ?_⟩) ?_ ?_
                                rotate_left
                                · intro w'
                                  go_simp
                                  with_reducible rfl
                                rotate_left
                                · simp only [Act.put, List.setIfInBounds_toArray, List.set_cons_zero, List.set_cons_succ, i64_w, i32_w]
                                  rfl
                                refine one_ (i := 20) (N := some 104) #[true, true, true, true, true, true, true, true, true, true, true, true, true, true, true, true, true, true, true, true, true, false, false, false] rfl rfl (one_of HT_.out (by kernel_rfl)) (by decide) (fun K hK => ?_)
                                refine value_ (w1 := ?_) (v := ?_) (by rfl) rfl ?_ ?_
                                rotate_left 2
                                · go_simp
                                  constructor
                                  · rfl
                                  · rfl
                                refine hK.out _ _ ⟨(blk_cell (blk_alloc BK320.out _) 0).trans rfl, (blk_cell (blk_alloc BK311.out _) 0).trans rfl, (blk_cell (blk_alloc BK322.out _) 0).trans rfl, (blk_cell (blk_alloc BK322.out _) 1).trans rfl, (World.cell?_alloc_lt _ _ _ (World.block_lt_of_cell? _ _ (((HB.out.cell (World.block_lt_of_cell? w _ hw331_0)).trans hw331_0)))).trans (((HB.out.cell (World.block_lt_of_cell? w _ hw331_0)).trans hw331_0))⟩ (fun hHeld => ?_)
                                clear hK K
                                refine norm_ (a' := ?_) ?_ ?_
                                rotate_left
                                · show Act.put _ (some 104) _ = _
                                  simp only [Act.put, List.setIfInBounds_toArray, List.set_cons_zero, List.set_cons_succ, i64_w, i32_w]
                                  rfl
                                refine one_ (i := 21) (N := some 105) #[true, true, true, true, true, true, true, true, true, true, true, true, true, true, true, true, true, true, true, true, true, true, false, false] rfl rfl (one_of HT_.out (by kernel_rfl)) (by decide) (fun K hK => ?_)
                                refine Kd.R_append_step k58 (w0 := w) w.heap.size (by rfl) (.tmp 85) (.tmp 104) 40 58 (.agg #[(.int .i64 0), (.int .i64 0)]) 16 rfl Tryz.underlying40 info58 rfl (by decide) (by omega) u321000 x321000_2 (⟨wrap64 (((rd_T58 l0_0 x10_2).f0) + t324), wrap64 ((wrap64 (((rd_T58 l0_0 x10_2).f0) + t324)) + t332)⟩ : S58) [.int .i64 (wrap64 (((rd_T58 l0_0 x10_2).f0) + t324)), .int .i64 (wrap64 ((wrap64 (((rd_T58 l0_0 x10_2).f0) + t324)) + t332))] (fun k_ => some k_ ≠ (.slice Ao54 y328.length co54 : Value).ownBlock ∧ k_ ≠ gb322) (fun _ => False) rfl rfl ?aP (fun _ hk => hk.elim) ?aF ?aO ?aB ?aS ?aL ?_
                                (case aP => exact k58_mkM _ _ _ (⟨wrap64 (((rd_T58 l0_0 x10_2).f0) + t324), wrap64 ((wrap64 (((rd_T58 l0_0 x10_2).f0) + t324)) + t332)⟩ : S58))
                                (case aB => exact (by repeat (first | (with_reducible first | exact HB.out | apply below_alloc | apply pw_below_drewN | apply below_drew1 | refine below_set ?_ GE311.out | refine below_set ?_ GE319.out | refine below_set ?_ GE320.out | refine below_set ?_ GE322.out) | exact HB.out)))
                                (case aF => exact (fun k_ hk => ⟨Kd.fresh' (Kd.R_lt (by (with_reducible repeat (first | apply Kd.R_alloc | apply Kd.R_drewN | apply Kd.R_drew)); exact HO330.out)) k_ hk, Kd.freshB (g := gb322) (o := .cells #[.int .i64 ((rd_T58 l0_0 x10_2).f0), .int .i64 ((rd_T58 l0_0 x10_2).f1)] 58 (0, 0)) (by (with_reducible repeat (first | refine blk_drewN ?_ _ | refine blk_drew ?_ | refine blk_alloc ?_ _)); exact BK322.out) k_ hk⟩))
                                (case aO => exact (by (with_reducible repeat (first | apply Kd.R_alloc | apply Kd.R_drewN | apply Kd.R_drew)); exact HO_321000.out))
                                (case aS => exact (below_size (by repeat (first | (with_reducible first | exact HB.out | apply below_alloc | apply pw_below_drewN | apply below_drew1 | refine below_set ?_ GE311.out | refine below_set ?_ GE319.out | refine below_set ?_ GE320.out | refine below_set ?_ GE322.out) | exact HB.out))))
                                (case aL => have := LMc39.out; omega)
                                intro v334 w58 ho hb hg hat
                                rw [← Ny333.out] at ho
                                have n0_ := Aside0.mk (blk_grown (g := gb311) (o := .cells #[.slice (some ad321) l0_0.length c0_0] 42 (0, 0)) (by (with_reducible repeat (first | refine blk_drewN ?_ _ | refine blk_drew ?_ | refine blk_alloc ?_ _)); exact BK311.out) hg (Kd.R_ne HO_321000.out BK311.out (by decide)))
                                have n1_ := Aside0.mk (blk_grown (g := gb319) (o := .cells #[.slice Ao54 y328.length co54] 42 (0, 0)) (by (with_reducible repeat (first | refine blk_drewN ?_ _ | refine blk_drew ?_ | refine blk_alloc ?_ _)); exact BK319.out) hg (Kd.R_ne HO_321000.out BK319.out (by decide)))
                                have n2_ := Aside0.mk (blk_grown (g := gb320) (o := .cells #[u321000] 42 (0, 0)) (by (with_reducible repeat (first | refine blk_drewN ?_ _ | refine blk_drew ?_ | refine blk_alloc ?_ _)); exact BK320.out) hg (Kd.R_ne HO_321000.out BK320.out (by decide)))
                                have n3_ := Aside0.mk (blk_grown (g := gb322) (o := .cells #[.int .i64 ((rd_T58 l0_0 x10_2).f0), .int .i64 ((rd_T58 l0_0 x10_2).f1)] 58 (0, 0)) (by (with_reducible repeat (first | refine blk_drewN ?_ _ | refine blk_drew ?_ | refine blk_alloc ?_ _)); exact BK322.out) hg (Kd.R_away HO_321000.out (fun _ hk => hk.2)))
                                have n4_ := Aside0.mk (Kd.R_over' (by (with_reducible repeat (first | apply Kd.R_alloc | apply Kd.R_drewN | apply Kd.R_drew)); exact HO327.out) (Kd.R_typed (by (with_reducible repeat (first | apply Kd.R_alloc | apply Kd.R_drewN | apply Kd.R_drew)); exact HO_321000.out)) (by decide) hg)
                                have n5_ := Aside0.mk (Kd.R_after (ok := (fun k_ => k_ ≠ gb322)) (by (with_reducible repeat (first | apply Kd.R_alloc | apply Kd.R_drewN | apply Kd.R_drew)); exact Kd.R_mono HO330.out (fun _ hk => ⟨hk.2, hk.1⟩)) hg hat)
                                have n6_ := Aside0.mk (hb)
                                have n7_ := Aside0.mk (ho)
                                clear BK311
                                clear BK319
                                clear BK320
                                clear BK322
                                clear HO327
                                clear HO330
                                clear HB
                                clear HO_321000
                                have BK311 := n0_
                                have BK319 := n1_
                                have BK320 := n2_
                                have BK322 := n3_
                                have HO327 := n4_
                                have HO330 := n5_
                                have HB := n6_
                                have HO335 := n7_
                                clear n0_ n1_ n2_ n3_ n4_ n5_ n6_ n7_
                                clear ho hb hg hat
                                obtain ⟨Ao59, co59, eo59⟩ := Kd.R_slice HO335.out
                                (first | subst eo59 | (injection eo59 with f1_ f2_ f3_; have f4_ := f1_.symm; have f5_ := f3_.symm; clear f1_ f2_ f3_; subst f4_; subst f5_))
                                refine hK.out _ _ ⟨(blk_cell BK320.out 0).trans rfl, (blk_cell BK311.out 0).trans rfl, (blk_cell BK322.out 0).trans rfl, (blk_cell BK322.out 1).trans rfl, ((HB.out.cell (World.block_lt_of_cell? w _ hw331_0)).trans hw331_0)⟩ (fun hHeld => ?_)
                                clear hK K
                                refine norm_ (a' := ?_) ?_ ?_
                                rotate_left
                                · show Act.put _ (some 105) _ = _
                                  simp only [Act.put, List.setIfInBounds_toArray, List.set_cons_zero, List.set_cons_succ, i64_w, i32_w]
                                  rfl
                                refine pure_ (i := 22) (N := some 106) (v := ?_) (a' := ?_) #[true, true, true, true, true, true, true, true, true, true, true, true, true, true, true, true, true, true, true, true, true, true, true, false] rfl rfl (any_of HT_.out (by kernel_rfl)) (fun _ _ _ h => h) (Or.inl ⟨by rfl, ?_⟩) ?_ ?_
                                rotate_left
                                · intro w'
                                  go_simp
                                  with_reducible rfl
                                rotate_left
                                · simp only [Act.put, List.setIfInBounds_toArray, List.set_cons_zero, List.set_cons_succ, i64_w, i32_w]
                                  rfl
                                refine last_ (i := 23) (N := none) #[true, true, true, true, true, true, true, true, true, true, true, true, true, true, true, true, true, true, true, true, true, true, true, true] rfl rfl (one_of HT_.out (by kernel_rfl)) (by decide) (fun K hK => ?_)
                                have hs60 : w58.cell? ⟨gb320, 0, none⟩ = some (u321000) := (blk_cell BK320.out 0).trans rfl
                                have hfs60 := blk_frozen BK320.out 0
                                have hns60_0 := NB311_320.out
                                have hns60_1 := NB319_320.out
                                have hns60_3 := NB322_320.out
                                have hms60_0 := NB320_311.out
                                have hms60_1 := NB320_319.out
                                have hms60_3 := NB320_322.out
                                refine skip_ (w1 := ?_) (by rfl) rfl ?_ ?_
                                rotate_left
                                · go_simp
                                  rfl
                                refine hK.out _ _ ?_
                                clear hK K
                                refine done_ (done_of HT_.out (by kernel_rfl)) ?_
                                try go_wp2
                                go_roundg k2
                                case measure => have := HJ4.out; have := HK2.out; omega
                                case rel => exact ⟨(y325), (wrap64 (x10_2 + 1)), (y328), (y333), (.slice Ao54 y328.length co54), (.slice Ao59 y333.length co59), (by first | rfl | (simp; done) | (simp [*]; done)), H', ⟨by have := HJ4.out; have := HK2.out; omega⟩, ⟨by (with_reducible repeat (first | apply Kd.R_alloc | apply Kd.R_drewN | apply Kd.R_drew)); exact Kd.R_mono (Kd.R_far (p := ⟨gb320, 0, none⟩) (Kd.R_types HO327.out BK320.out (by decide)) (fun _ hk => hk.2) (.slice Ao59 y333.length co59)) (fun _ hk => trivial)⟩, ⟨by (with_reducible repeat (first | apply Kd.R_alloc | apply Kd.R_drewN | apply Kd.R_drew)); exact Kd.R_mono (Kd.R_far (p := ⟨gb320, 0, none⟩) (Kd.R_types HO330.out BK320.out (by decide)) (fun _ hk => hk.2) (.slice Ao59 y333.length co59)) (fun _ hk => hk.1.2)⟩, ⟨by (with_reducible repeat (first | apply Kd.R_alloc | apply Kd.R_drewN | apply Kd.R_drew)); exact Kd.R_mono (Kd.R_far (p := ⟨gb320, 0, none⟩) (Kd.R_types HO335.out BK320.out (by decide)) (fun _ hk => hk.2) (.slice Ao59 y333.length co59)) (fun _ hk => hk.1.1)⟩, ⟨by (with_reducible repeat (first | refine blk_drewN ?_ _ | refine blk_drew ?_ | refine blk_alloc ?_ _)); refine blk_far ?_ NB311_320.out _; (with_reducible repeat (first | refine blk_drewN ?_ _ | refine blk_drew ?_ | refine blk_alloc ?_ _)); exact BK311.out⟩, ⟨by (with_reducible repeat (first | refine blk_drewN ?_ _ | refine blk_drew ?_ | refine blk_alloc ?_ _)); refine blk_far ?_ NB319_320.out _; (with_reducible repeat (first | refine blk_drewN ?_ _ | refine blk_drew ?_ | refine blk_alloc ?_ _)); exact BK319.out⟩, ⟨by (with_reducible repeat (first | refine blk_drewN ?_ _ | refine blk_drew ?_ | refine blk_alloc ?_ _)); refine blk_put (cs := #[u321000]) ?_ 0 _ rfl; (with_reducible repeat (first | refine blk_drewN ?_ _ | refine blk_drew ?_ | refine blk_alloc ?_ _)); exact BK320.out⟩, ⟨by repeat (first | (with_reducible first | exact HB.out | apply below_alloc | apply pw_below_drewN | apply below_drew1 | refine below_set ?_ GE311.out | refine below_set ?_ GE319.out | refine below_set ?_ GE320.out | refine below_set ?_ GE322.out) | exact HB.out)⟩⟩
                              · rw [if_neg c39] at H
                                exact absurd H (by simp)
                            · rw [if_neg c37] at H
                              exact absurd H (by simp)
                          · rw [if_neg c36] at H
                            exact absurd H (by simp)
                        · rw [if_neg c34] at H
                          exact absurd H (by simp)
                      · rw [if_neg c33] at H
                        exact absurd H (by simp)
                    · rw [if_neg c31] at H
                      exact absurd H (by simp)
                  · rw [if_neg c30] at H
                    exact absurd H (by simp)
                · rw [if_neg c29] at H
                  have c29b0 : decide (x10_2 < (l0_0.length : Int)) = false := decide_eq_false c29
                  clear c29
                  replace H := Option.bind_eq_some_iff.mp H
                  obtain ⟨⟨t336, t337⟩, A610, H⟩ := H
                  replace H : ((governor_IsRobust.f x320000_2).bind fun bt338 => ((governor_IsRobust.f x321000_2).bind fun bt340 => (if t337 = 0 then (if bt338.2 = 0 then (if bt340.2 = 0 then (if (bt338.1 == t336) = true then (if t317 = true then (if t336 = true then (if bt340.1 = true then (some t336) else (some false)) else (some false)) else (if bt340.1 = true then (some t336) else (some true))) else (some false)) else (some false)) else (some false)) else (some false)))) = some r := H
                  have A61 := Aside0.mk A610
                  clear A610
                  replace H := Option.bind_eq_some_iff.mp H
                  obtain ⟨⟨t338, t339⟩, A620, H⟩ := H
                  replace H : ((governor_IsRobust.f x321000_2).bind fun bt340 => (if t337 = 0 then (if t339 = 0 then (if bt340.2 = 0 then (if (t338 == t336) = true then (if t317 = true then (if t336 = true then (if bt340.1 = true then (some t336) else (some false)) else (some false)) else (if bt340.1 = true then (some t336) else (some true))) else (some false)) else (some false)) else (some false)) else (some false))) = some r := H
                  have A62 := Aside0.mk A620
                  clear A620
                  replace H := Option.bind_eq_some_iff.mp H
                  obtain ⟨⟨t340, t341⟩, A630, H⟩ := H
                  replace H : (if t337 = 0 then (if t339 = 0 then (if t341 = 0 then (if (t338 == t336) = true then (if t317 = true then (if t336 = true then (if t340 = true then (some t336) else (some false)) else (some false)) else (if t340 = true then (some t336) else (some true))) else (some false)) else (some false)) else (some false)) else (some false)) = some r := H
                  have A63 := Aside0.mk A630
                  clear A630
                  by_cases c64 : t337 = 0
                  · rw [if_pos c64] at H
                    have c64b0 : (t337 == 0) = true := beq_iff_eq.mpr c64
                    have c64b1 : (t337 != 0) = false := bne_eq_false_iff_eq.mpr c64
                    clear c64
                    by_cases c65 : t339 = 0
                    · rw [if_pos c65] at H
                      have c65b0 : (t339 == 0) = true := beq_iff_eq.mpr c65
                      have c65b1 : (t339 != 0) = false := bne_eq_false_iff_eq.mpr c65
                      clear c65
                      by_cases c66 : t341 = 0
                      · rw [if_pos c66] at H
                        have c66b0 : (t341 == 0) = true := beq_iff_eq.mpr c66
                        have c66b1 : (t341 != 0) = false := bne_eq_false_iff_eq.mpr c66
                        clear c66
                        by_cases c67 : (t338 == t336) = true
                        · rw [if_pos c67] at H
                          have c67b0 : (t338 == t336) = true := c67
                          (try (have c67b1 : decide (t338 = t336) = true := by simpa using c67))
                          (try (have c67b2 : (t338 == t336) = true := by simpa using c67))
                          clear c67
                          by_cases c68 : t317 = true
                          · subst c68
                            have H1 : (if t336 = true then (if t340 = true then (some t336) else (some false)) else (some false)) = some r := by rw [if_pos rfl] at H; exact H
                            clear H
                            have H := H1
                            clear H1
                            by_cases c69 : t336 = true
                            · subst c69
                              have H1 : (if t340 = true then (some true) else (some false)) = some r := by rw [if_pos rfl] at H; exact H
                              clear H
                              have H := H1
                              clear H1
                              by_cases c70 : t340 = true
                              · subst c70
                                have H1 : (some true) = some r := by rw [if_pos rfl] at H; exact H
                                clear H
                                have H := H1
                                clear H1
                                obtain rfl := Option.some.inj H
                                have hnb71 := NB311_319.out
                                have hnc71 := NB319_311.out
                                have hnb72 := NB311_320.out
                                have hnc72 := NB320_311.out
                                have hcz73_0 : wr.cell? ⟨gb311, 0, none⟩ = some (.slice A0_0 l0_0.length c0_0) := (blk_cell BK311.out 0).trans rfl
                                have hfz73_0 := blk_frozen BK311.out 0
                                obtain ⟨Ao74, co74, eo74⟩ := Kd.R_slice HO_7.out
                                subst eo74
                                go_wp2_with (first | ((with_reducible refine gate_callee (f := 37) rfl ?_); refine goesL_ (some 109) rfl rfl Tryz.func37 (by kernel_rfl) rfl #[.slice Ao74 x7_2.length co74] rfl (by (try simp only [List.map_toArray, List.map_cons, List.map_nil]); first | done | rfl | (simp only [List.length_drop, List.length_take]; rfl)) ?_; (with_reducible refine (governor_IsStable.calls k2 _ _ x7_2 true t337 _ ?side1 ?side2 A61.out).mono ?_); (case side1 => repeat (first | exact (Kd.R_reads' HO_7.out).2.2 | (with_reducible refine Kd.C_alloc ?_ _) | (with_reducible refine Kd.C_drewN ?_ _) | (with_reducible refine Kd.C_drew ?_))); (case side2 => exact (Kd.R_reads' HO_7.out).2.1); rintro e w75 ⟨rfl, hb⟩; refine ⟨_, rfl, ?_⟩; have n0_ := Aside0.mk (Kd.R_below (by (with_reducible repeat (first | apply Kd.R_alloc | apply Kd.R_drewN | apply Kd.R_drew)); exact HO_7.out) hb); have n1_ := Aside0.mk (Kd.R_below (by (with_reducible repeat (first | apply Kd.R_alloc | apply Kd.R_drewN | apply Kd.R_drew)); exact HO_320000.out) hb); have n2_ := Aside0.mk (Kd.R_below (by (with_reducible repeat (first | apply Kd.R_alloc | apply Kd.R_drewN | apply Kd.R_drew)); exact HO_321000.out) hb); have n3_ := Aside0.mk (blk_below (g := gb311) (o := .cells #[.slice A0_0 l0_0.length c0_0] 42 (0, 0)) (by (with_reducible repeat (first | refine blk_drewN ?_ _ | refine blk_drew ?_ | refine blk_alloc ?_ _)); exact BK311.out) hb); have n4_ := Aside0.mk (blk_below (g := gb319) (o := .cells #[u320000] 42 (0, 0)) (by (with_reducible repeat (first | refine blk_drewN ?_ _ | refine blk_drew ?_ | refine blk_alloc ?_ _)); exact BK319.out) hb); have n5_ := Aside0.mk (blk_below (g := gb320) (o := .cells #[u321000] 42 (0, 0)) (by (with_reducible repeat (first | refine blk_drewN ?_ _ | refine blk_drew ?_ | refine blk_alloc ?_ _)); exact BK320.out) hb); have n6_ := Aside0.mk (below_step (by repeat (first | (with_reducible first | exact HB.out | apply below_alloc | apply pw_below_drewN | apply below_drew1 | refine below_set ?_ GE311.out | refine below_set ?_ GE319.out | refine below_set ?_ GE320.out) | exact HB.out)) hb); clear HO_7; clear HO_320000; clear HO_321000; clear BK311; clear BK319; clear BK320; clear HB; have HO_7 := n0_; have HO_320000 := n1_; have HO_321000 := n2_; have BK311 := n3_; have BK319 := n4_; have BK320 := n5_; have HB := n6_; clear n0_ n1_ n2_ n3_ n4_ n5_ n6_; (try clear hb); (try clear hb2); (try clear hk); (try clear hi); have hnb76 := NB319_320.out; have hnc76 := NB320_319.out; have hcz77_0 : w75.cell? ⟨gb319, 0, none⟩ = some (u320000) := (blk_cell BK319.out 0).trans rfl; have hfz77_0 := blk_frozen BK319.out 0; obtain ⟨Ao78, co78, eo78⟩ := Kd.R_slice HO_320000.out; subst eo78) | ((with_reducible refine gate_callee (f := 30) rfl ?_); refine goesL_ (some 114) rfl rfl Tryz.func30 (by kernel_rfl) rfl #[.agg #[.slice Ao78 x320000_2.length co78]] rfl (by (try simp only [List.map_toArray, List.map_cons, List.map_nil]); first | done | rfl | (simp only [List.length_drop, List.length_take]; rfl)) ?_; (with_reducible refine (governor_IsRobust.calls _ _ x320000_2 t338 t339 _ ?side1 ?side2 A62.out).mono ?_); (case side1 => repeat (first | exact (Kd.R_reads' HO_320000.out).2.2 | (with_reducible refine Kd.C_alloc ?_ _) | (with_reducible refine Kd.C_drewN ?_ _) | (with_reducible refine Kd.C_drew ?_))); (case side2 => exact (Kd.R_reads' HO_320000.out).2.1); rintro e w79 ⟨rfl, hb⟩; refine ⟨_, rfl, ?_⟩; have n0_ := Aside0.mk (Kd.R_below (by (with_reducible repeat (first | apply Kd.R_alloc | apply Kd.R_drewN | apply Kd.R_drew)); exact HO_7.out) hb); have n1_ := Aside0.mk (Kd.R_below (by (with_reducible repeat (first | apply Kd.R_alloc | apply Kd.R_drewN | apply Kd.R_drew)); exact HO_320000.out) hb); have n2_ := Aside0.mk (Kd.R_below (by (with_reducible repeat (first | apply Kd.R_alloc | apply Kd.R_drewN | apply Kd.R_drew)); exact HO_321000.out) hb); have n3_ := Aside0.mk (blk_below (g := gb311) (o := .cells #[.slice A0_0 l0_0.length c0_0] 42 (0, 0)) (by (with_reducible repeat (first | refine blk_drewN ?_ _ | refine blk_drew ?_ | refine blk_alloc ?_ _)); exact BK311.out) hb); have n4_ := Aside0.mk (blk_below (g := gb319) (o := .cells #[.slice Ao78 x320000_2.length co78] 42 (0, 0)) (by (with_reducible repeat (first | refine blk_drewN ?_ _ | refine blk_drew ?_ | refine blk_alloc ?_ _)); exact BK319.out) hb); have n5_ := Aside0.mk (blk_below (g := gb320) (o := .cells #[u321000] 42 (0, 0)) (by (with_reducible repeat (first | refine blk_drewN ?_ _ | refine blk_drew ?_ | refine blk_alloc ?_ _)); exact BK320.out) hb); have n6_ := Aside0.mk (below_step (by repeat (first | (with_reducible first | exact HB.out | apply below_alloc | apply pw_below_drewN | apply below_drew1 | refine below_set ?_ GE311.out | refine below_set ?_ GE319.out | refine below_set ?_ GE320.out) | exact HB.out)) hb); clear HO_7; clear HO_320000; clear HO_321000; clear BK311; clear BK319; clear BK320; clear HB; have HO_7 := n0_; have HO_320000 := n1_; have HO_321000 := n2_; have BK311 := n3_; have BK319 := n4_; have BK320 := n5_; have HB := n6_; clear n0_ n1_ n2_ n3_ n4_ n5_ n6_; (try clear hb); (try clear hb2); (try clear hk); (try clear hi); have hcz80_0 : w79.cell? ⟨gb320, 0, none⟩ = some (u321000) := (blk_cell BK320.out 0).trans rfl; have hfz80_0 := blk_frozen BK320.out 0; obtain ⟨Ao81, co81, eo81⟩ := Kd.R_slice HO_321000.out; subst eo81) | ((with_reducible refine gate_callee (f := 30) rfl ?_); refine goesL_ (some 119) rfl rfl Tryz.func30 (by kernel_rfl) rfl #[.agg #[.slice Ao81 x321000_2.length co81]] rfl (by (try simp only [List.map_toArray, List.map_cons, List.map_nil]); first | done | rfl | (simp only [List.length_drop, List.length_take]; rfl)) ?_; (with_reducible refine (governor_IsRobust.calls _ _ x321000_2 true t341 _ ?side1 ?side2 A63.out).mono ?_); (case side1 => repeat (first | exact (Kd.R_reads' HO_321000.out).2.2 | (with_reducible refine Kd.C_alloc ?_ _) | (with_reducible refine Kd.C_drewN ?_ _) | (with_reducible refine Kd.C_drew ?_))); (case side2 => exact (Kd.R_reads' HO_321000.out).2.1); rintro e w82 ⟨rfl, hb⟩; refine ⟨_, rfl, ?_⟩; have n0_ := Aside0.mk (Kd.R_below (by (with_reducible repeat (first | apply Kd.R_alloc | apply Kd.R_drewN | apply Kd.R_drew)); exact HO_7.out) hb); have n1_ := Aside0.mk (Kd.R_below (by (with_reducible repeat (first | apply Kd.R_alloc | apply Kd.R_drewN | apply Kd.R_drew)); exact HO_320000.out) hb); have n2_ := Aside0.mk (Kd.R_below (by (with_reducible repeat (first | apply Kd.R_alloc | apply Kd.R_drewN | apply Kd.R_drew)); exact HO_321000.out) hb); have n3_ := Aside0.mk (blk_below (g := gb311) (o := .cells #[.slice A0_0 l0_0.length c0_0] 42 (0, 0)) (by (with_reducible repeat (first | refine blk_drewN ?_ _ | refine blk_drew ?_ | refine blk_alloc ?_ _)); exact BK311.out) hb); have n4_ := Aside0.mk (blk_below (g := gb319) (o := .cells #[.slice Ao78 x320000_2.length co78] 42 (0, 0)) (by (with_reducible repeat (first | refine blk_drewN ?_ _ | refine blk_drew ?_ | refine blk_alloc ?_ _)); exact BK319.out) hb); have n5_ := Aside0.mk (blk_below (g := gb320) (o := .cells #[.slice Ao81 x321000_2.length co81] 42 (0, 0)) (by (with_reducible repeat (first | refine blk_drewN ?_ _ | refine blk_drew ?_ | refine blk_alloc ?_ _)); exact BK320.out) hb); have n6_ := Aside0.mk (below_step (by repeat (first | (with_reducible first | exact HB.out | apply below_alloc | apply pw_below_drewN | apply below_drew1 | refine below_set ?_ GE311.out | refine below_set ?_ GE319.out | refine below_set ?_ GE320.out) | exact HB.out)) hb); clear HO_7; clear HO_320000; clear HO_321000; clear BK311; clear BK319; clear BK320; clear HB; have HO_7 := n0_; have HO_320000 := n1_; have HO_321000 := n2_; have BK311 := n3_; have BK319 := n4_; have BK320 := n5_; have HB := n6_; clear n0_ n1_ n2_ n3_ n4_ n5_ n6_; (try clear hb); (try clear hb2); (try clear hk); (try clear hi)))
                                go_ret
                                exact ⟨by first | rfl | (simp [errW_none, errW_some] <;> rfl) | (simp [*, errW_none, errW_some] <;> rfl), by repeat (first | (with_reducible first | exact HB.out | apply below_alloc | apply pw_below_drewN | apply below_drew1 | refine below_set ?_ GE311.out | refine below_set ?_ GE319.out | refine below_set ?_ GE320.out) | exact HB.out)⟩
                              · replace c70 := Bool.eq_false_iff.mpr c70
                                subst c70
                                have H1 : (some false) = some r := by rw [if_neg (show ¬ (false = true) by decide)] at H; exact H
                                clear H
                                have H := H1
                                clear H1
                                obtain rfl := Option.some.inj H
                                have hnb83 := NB311_319.out
                                have hnc83 := NB319_311.out
                                have hnb84 := NB311_320.out
                                have hnc84 := NB320_311.out
                                have hcz85_0 : wr.cell? ⟨gb311, 0, none⟩ = some (.slice A0_0 l0_0.length c0_0) := (blk_cell BK311.out 0).trans rfl
                                have hfz85_0 := blk_frozen BK311.out 0
                                obtain ⟨Ao86, co86, eo86⟩ := Kd.R_slice HO_7.out
                                subst eo86
                                go_wp2_with (first | ((with_reducible refine gate_callee (f := 37) rfl ?_); refine goesL_ (some 109) rfl rfl Tryz.func37 (by kernel_rfl) rfl #[.slice Ao86 x7_2.length co86] rfl (by (try simp only [List.map_toArray, List.map_cons, List.map_nil]); first | done | rfl | (simp only [List.length_drop, List.length_take]; rfl)) ?_; (with_reducible refine (governor_IsStable.calls k2 _ _ x7_2 true t337 _ ?side1 ?side2 A61.out).mono ?_); (case side1 => repeat (first | exact (Kd.R_reads' HO_7.out).2.2 | (with_reducible refine Kd.C_alloc ?_ _) | (with_reducible refine Kd.C_drewN ?_ _) | (with_reducible refine Kd.C_drew ?_))); (case side2 => exact (Kd.R_reads' HO_7.out).2.1); rintro e w87 ⟨rfl, hb⟩; refine ⟨_, rfl, ?_⟩; have n0_ := Aside0.mk (Kd.R_below (by (with_reducible repeat (first | apply Kd.R_alloc | apply Kd.R_drewN | apply Kd.R_drew)); exact HO_7.out) hb); have n1_ := Aside0.mk (Kd.R_below (by (with_reducible repeat (first | apply Kd.R_alloc | apply Kd.R_drewN | apply Kd.R_drew)); exact HO_320000.out) hb); have n2_ := Aside0.mk (Kd.R_below (by (with_reducible repeat (first | apply Kd.R_alloc | apply Kd.R_drewN | apply Kd.R_drew)); exact HO_321000.out) hb); have n3_ := Aside0.mk (blk_below (g := gb311) (o := .cells #[.slice A0_0 l0_0.length c0_0] 42 (0, 0)) (by (with_reducible repeat (first | refine blk_drewN ?_ _ | refine blk_drew ?_ | refine blk_alloc ?_ _)); exact BK311.out) hb); have n4_ := Aside0.mk (blk_below (g := gb319) (o := .cells #[u320000] 42 (0, 0)) (by (with_reducible repeat (first | refine blk_drewN ?_ _ | refine blk_drew ?_ | refine blk_alloc ?_ _)); exact BK319.out) hb); have n5_ := Aside0.mk (blk_below (g := gb320) (o := .cells #[u321000] 42 (0, 0)) (by (with_reducible repeat (first | refine blk_drewN ?_ _ | refine blk_drew ?_ | refine blk_alloc ?_ _)); exact BK320.out) hb); have n6_ := Aside0.mk (below_step (by repeat (first | (with_reducible first | exact HB.out | apply below_alloc | apply pw_below_drewN | apply below_drew1 | refine below_set ?_ GE311.out | refine below_set ?_ GE319.out | refine below_set ?_ GE320.out) | exact HB.out)) hb); clear HO_7; clear HO_320000; clear HO_321000; clear BK311; clear BK319; clear BK320; clear HB; have HO_7 := n0_; have HO_320000 := n1_; have HO_321000 := n2_; have BK311 := n3_; have BK319 := n4_; have BK320 := n5_; have HB := n6_; clear n0_ n1_ n2_ n3_ n4_ n5_ n6_; (try clear hb); (try clear hb2); (try clear hk); (try clear hi); have hnb88 := NB319_320.out; have hnc88 := NB320_319.out; have hcz89_0 : w87.cell? ⟨gb319, 0, none⟩ = some (u320000) := (blk_cell BK319.out 0).trans rfl; have hfz89_0 := blk_frozen BK319.out 0; obtain ⟨Ao90, co90, eo90⟩ := Kd.R_slice HO_320000.out; subst eo90) | ((with_reducible refine gate_callee (f := 30) rfl ?_); refine goesL_ (some 114) rfl rfl Tryz.func30 (by kernel_rfl) rfl #[.agg #[.slice Ao90 x320000_2.length co90]] rfl (by (try simp only [List.map_toArray, List.map_cons, List.map_nil]); first | done | rfl | (simp only [List.length_drop, List.length_take]; rfl)) ?_; (with_reducible refine (governor_IsRobust.calls _ _ x320000_2 t338 t339 _ ?side1 ?side2 A62.out).mono ?_); (case side1 => repeat (first | exact (Kd.R_reads' HO_320000.out).2.2 | (with_reducible refine Kd.C_alloc ?_ _) | (with_reducible refine Kd.C_drewN ?_ _) | (with_reducible refine Kd.C_drew ?_))); (case side2 => exact (Kd.R_reads' HO_320000.out).2.1); rintro e w91 ⟨rfl, hb⟩; refine ⟨_, rfl, ?_⟩; have n0_ := Aside0.mk (Kd.R_below (by (with_reducible repeat (first | apply Kd.R_alloc | apply Kd.R_drewN | apply Kd.R_drew)); exact HO_7.out) hb); have n1_ := Aside0.mk (Kd.R_below (by (with_reducible repeat (first | apply Kd.R_alloc | apply Kd.R_drewN | apply Kd.R_drew)); exact HO_320000.out) hb); have n2_ := Aside0.mk (Kd.R_below (by (with_reducible repeat (first | apply Kd.R_alloc | apply Kd.R_drewN | apply Kd.R_drew)); exact HO_321000.out) hb); have n3_ := Aside0.mk (blk_below (g := gb311) (o := .cells #[.slice A0_0 l0_0.length c0_0] 42 (0, 0)) (by (with_reducible repeat (first | refine blk_drewN ?_ _ | refine blk_drew ?_ | refine blk_alloc ?_ _)); exact BK311.out) hb); have n4_ := Aside0.mk (blk_below (g := gb319) (o := .cells #[.slice Ao90 x320000_2.length co90] 42 (0, 0)) (by (with_reducible repeat (first | refine blk_drewN ?_ _ | refine blk_drew ?_ | refine blk_alloc ?_ _)); exact BK319.out) hb); have n5_ := Aside0.mk (blk_below (g := gb320) (o := .cells #[u321000] 42 (0, 0)) (by (with_reducible repeat (first | refine blk_drewN ?_ _ | refine blk_drew ?_ | refine blk_alloc ?_ _)); exact BK320.out) hb); have n6_ := Aside0.mk (below_step (by repeat (first | (with_reducible first | exact HB.out | apply below_alloc | apply pw_below_drewN | apply below_drew1 | refine below_set ?_ GE311.out | refine below_set ?_ GE319.out | refine below_set ?_ GE320.out) | exact HB.out)) hb); clear HO_7; clear HO_320000; clear HO_321000; clear BK311; clear BK319; clear BK320; clear HB; have HO_7 := n0_; have HO_320000 := n1_; have HO_321000 := n2_; have BK311 := n3_; have BK319 := n4_; have BK320 := n5_; have HB := n6_; clear n0_ n1_ n2_ n3_ n4_ n5_ n6_; (try clear hb); (try clear hb2); (try clear hk); (try clear hi); have hcz92_0 : w91.cell? ⟨gb320, 0, none⟩ = some (u321000) := (blk_cell BK320.out 0).trans rfl; have hfz92_0 := blk_frozen BK320.out 0; obtain ⟨Ao93, co93, eo93⟩ := Kd.R_slice HO_321000.out; subst eo93) | ((with_reducible refine gate_callee (f := 30) rfl ?_); refine goesL_ (some 119) rfl rfl Tryz.func30 (by kernel_rfl) rfl #[.agg #[.slice Ao93 x321000_2.length co93]] rfl (by (try simp only [List.map_toArray, List.map_cons, List.map_nil]); first | done | rfl | (simp only [List.length_drop, List.length_take]; rfl)) ?_; (with_reducible refine (governor_IsRobust.calls _ _ x321000_2 false t341 _ ?side1 ?side2 A63.out).mono ?_); (case side1 => repeat (first | exact (Kd.R_reads' HO_321000.out).2.2 | (with_reducible refine Kd.C_alloc ?_ _) | (with_reducible refine Kd.C_drewN ?_ _) | (with_reducible refine Kd.C_drew ?_))); (case side2 => exact (Kd.R_reads' HO_321000.out).2.1); rintro e w94 ⟨rfl, hb⟩; refine ⟨_, rfl, ?_⟩; have n0_ := Aside0.mk (Kd.R_below (by (with_reducible repeat (first | apply Kd.R_alloc | apply Kd.R_drewN | apply Kd.R_drew)); exact HO_7.out) hb); have n1_ := Aside0.mk (Kd.R_below (by (with_reducible repeat (first | apply Kd.R_alloc | apply Kd.R_drewN | apply Kd.R_drew)); exact HO_320000.out) hb); have n2_ := Aside0.mk (Kd.R_below (by (with_reducible repeat (first | apply Kd.R_alloc | apply Kd.R_drewN | apply Kd.R_drew)); exact HO_321000.out) hb); have n3_ := Aside0.mk (blk_below (g := gb311) (o := .cells #[.slice A0_0 l0_0.length c0_0] 42 (0, 0)) (by (with_reducible repeat (first | refine blk_drewN ?_ _ | refine blk_drew ?_ | refine blk_alloc ?_ _)); exact BK311.out) hb); have n4_ := Aside0.mk (blk_below (g := gb319) (o := .cells #[.slice Ao90 x320000_2.length co90] 42 (0, 0)) (by (with_reducible repeat (first | refine blk_drewN ?_ _ | refine blk_drew ?_ | refine blk_alloc ?_ _)); exact BK319.out) hb); have n5_ := Aside0.mk (blk_below (g := gb320) (o := .cells #[.slice Ao93 x321000_2.length co93] 42 (0, 0)) (by (with_reducible repeat (first | refine blk_drewN ?_ _ | refine blk_drew ?_ | refine blk_alloc ?_ _)); exact BK320.out) hb); have n6_ := Aside0.mk (below_step (by repeat (first | (with_reducible first | exact HB.out | apply below_alloc | apply pw_below_drewN | apply below_drew1 | refine below_set ?_ GE311.out | refine below_set ?_ GE319.out | refine below_set ?_ GE320.out) | exact HB.out)) hb); clear HO_7; clear HO_320000; clear HO_321000; clear BK311; clear BK319; clear BK320; clear HB; have HO_7 := n0_; have HO_320000 := n1_; have HO_321000 := n2_; have BK311 := n3_; have BK319 := n4_; have BK320 := n5_; have HB := n6_; clear n0_ n1_ n2_ n3_ n4_ n5_ n6_; (try clear hb); (try clear hb2); (try clear hk); (try clear hi)))
                                go_ret
                                exact ⟨by first | rfl | (simp [errW_none, errW_some] <;> rfl) | (simp [*, errW_none, errW_some] <;> rfl), by repeat (first | (with_reducible first | exact HB.out | apply below_alloc | apply pw_below_drewN | apply below_drew1 | refine below_set ?_ GE311.out | refine below_set ?_ GE319.out | refine below_set ?_ GE320.out) | exact HB.out)⟩
                            · replace c69 := Bool.eq_false_iff.mpr c69
                              subst c69
                              have H1 : (some false) = some r := by rw [if_neg (show ¬ (false = true) by decide)] at H; exact H
                              clear H
                              have H := H1
                              clear H1
                              obtain rfl := Option.some.inj H
                              have hnb95 := NB311_319.out
                              have hnc95 := NB319_311.out
                              have hnb96 := NB311_320.out
                              have hnc96 := NB320_311.out
                              have hcz97_0 : wr.cell? ⟨gb311, 0, none⟩ = some (.slice A0_0 l0_0.length c0_0) := (blk_cell BK311.out 0).trans rfl
                              have hfz97_0 := blk_frozen BK311.out 0
                              obtain ⟨Ao98, co98, eo98⟩ := Kd.R_slice HO_7.out
                              subst eo98
                              go_wp2_with (first | ((with_reducible refine gate_callee (f := 37) rfl ?_); refine goesL_ (some 109) rfl rfl Tryz.func37 (by kernel_rfl) rfl #[.slice Ao98 x7_2.length co98] rfl (by (try simp only [List.map_toArray, List.map_cons, List.map_nil]); first | done | rfl | (simp only [List.length_drop, List.length_take]; rfl)) ?_; (with_reducible refine (governor_IsStable.calls k2 _ _ x7_2 false t337 _ ?side1 ?side2 A61.out).mono ?_); (case side1 => repeat (first | exact (Kd.R_reads' HO_7.out).2.2 | (with_reducible refine Kd.C_alloc ?_ _) | (with_reducible refine Kd.C_drewN ?_ _) | (with_reducible refine Kd.C_drew ?_))); (case side2 => exact (Kd.R_reads' HO_7.out).2.1); rintro e w99 ⟨rfl, hb⟩; refine ⟨_, rfl, ?_⟩; have n0_ := Aside0.mk (Kd.R_below (by (with_reducible repeat (first | apply Kd.R_alloc | apply Kd.R_drewN | apply Kd.R_drew)); exact HO_7.out) hb); have n1_ := Aside0.mk (Kd.R_below (by (with_reducible repeat (first | apply Kd.R_alloc | apply Kd.R_drewN | apply Kd.R_drew)); exact HO_320000.out) hb); have n2_ := Aside0.mk (Kd.R_below (by (with_reducible repeat (first | apply Kd.R_alloc | apply Kd.R_drewN | apply Kd.R_drew)); exact HO_321000.out) hb); have n3_ := Aside0.mk (blk_below (g := gb311) (o := .cells #[.slice A0_0 l0_0.length c0_0] 42 (0, 0)) (by (with_reducible repeat (first | refine blk_drewN ?_ _ | refine blk_drew ?_ | refine blk_alloc ?_ _)); exact BK311.out) hb); have n4_ := Aside0.mk (blk_below (g := gb319) (o := .cells #[u320000] 42 (0, 0)) (by (with_reducible repeat (first | refine blk_drewN ?_ _ | refine blk_drew ?_ | refine blk_alloc ?_ _)); exact BK319.out) hb); have n5_ := Aside0.mk (blk_below (g := gb320) (o := .cells #[u321000] 42 (0, 0)) (by (with_reducible repeat (first | refine blk_drewN ?_ _ | refine blk_drew ?_ | refine blk_alloc ?_ _)); exact BK320.out) hb); have n6_ := Aside0.mk (below_step (by repeat (first | (with_reducible first | exact HB.out | apply below_alloc | apply pw_below_drewN | apply below_drew1 | refine below_set ?_ GE311.out | refine below_set ?_ GE319.out | refine below_set ?_ GE320.out) | exact HB.out)) hb); clear HO_7; clear HO_320000; clear HO_321000; clear BK311; clear BK319; clear BK320; clear HB; have HO_7 := n0_; have HO_320000 := n1_; have HO_321000 := n2_; have BK311 := n3_; have BK319 := n4_; have BK320 := n5_; have HB := n6_; clear n0_ n1_ n2_ n3_ n4_ n5_ n6_; (try clear hb); (try clear hb2); (try clear hk); (try clear hi); have hnb100 := NB319_320.out; have hnc100 := NB320_319.out; have hcz101_0 : w99.cell? ⟨gb319, 0, none⟩ = some (u320000) := (blk_cell BK319.out 0).trans rfl; have hfz101_0 := blk_frozen BK319.out 0; obtain ⟨Ao102, co102, eo102⟩ := Kd.R_slice HO_320000.out; subst eo102) | ((with_reducible refine gate_callee (f := 30) rfl ?_); refine goesL_ (some 114) rfl rfl Tryz.func30 (by kernel_rfl) rfl #[.agg #[.slice Ao102 x320000_2.length co102]] rfl (by (try simp only [List.map_toArray, List.map_cons, List.map_nil]); first | done | rfl | (simp only [List.length_drop, List.length_take]; rfl)) ?_; (with_reducible refine (governor_IsRobust.calls _ _ x320000_2 t338 t339 _ ?side1 ?side2 A62.out).mono ?_); (case side1 => repeat (first | exact (Kd.R_reads' HO_320000.out).2.2 | (with_reducible refine Kd.C_alloc ?_ _) | (with_reducible refine Kd.C_drewN ?_ _) | (with_reducible refine Kd.C_drew ?_))); (case side2 => exact (Kd.R_reads' HO_320000.out).2.1); rintro e w103 ⟨rfl, hb⟩; refine ⟨_, rfl, ?_⟩; have n0_ := Aside0.mk (Kd.R_below (by (with_reducible repeat (first | apply Kd.R_alloc | apply Kd.R_drewN | apply Kd.R_drew)); exact HO_7.out) hb); have n1_ := Aside0.mk (Kd.R_below (by (with_reducible repeat (first | apply Kd.R_alloc | apply Kd.R_drewN | apply Kd.R_drew)); exact HO_320000.out) hb); have n2_ := Aside0.mk (Kd.R_below (by (with_reducible repeat (first | apply Kd.R_alloc | apply Kd.R_drewN | apply Kd.R_drew)); exact HO_321000.out) hb); have n3_ := Aside0.mk (blk_below (g := gb311) (o := .cells #[.slice A0_0 l0_0.length c0_0] 42 (0, 0)) (by (with_reducible repeat (first | refine blk_drewN ?_ _ | refine blk_drew ?_ | refine blk_alloc ?_ _)); exact BK311.out) hb); have n4_ := Aside0.mk (blk_below (g := gb319) (o := .cells #[.slice Ao102 x320000_2.length co102] 42 (0, 0)) (by (with_reducible repeat (first | refine blk_drewN ?_ _ | refine blk_drew ?_ | refine blk_alloc ?_ _)); exact BK319.out) hb); have n5_ := Aside0.mk (blk_below (g := gb320) (o := .cells #[u321000] 42 (0, 0)) (by (with_reducible repeat (first | refine blk_drewN ?_ _ | refine blk_drew ?_ | refine blk_alloc ?_ _)); exact BK320.out) hb); have n6_ := Aside0.mk (below_step (by repeat (first | (with_reducible first | exact HB.out | apply below_alloc | apply pw_below_drewN | apply below_drew1 | refine below_set ?_ GE311.out | refine below_set ?_ GE319.out | refine below_set ?_ GE320.out) | exact HB.out)) hb); clear HO_7; clear HO_320000; clear HO_321000; clear BK311; clear BK319; clear BK320; clear HB; have HO_7 := n0_; have HO_320000 := n1_; have HO_321000 := n2_; have BK311 := n3_; have BK319 := n4_; have BK320 := n5_; have HB := n6_; clear n0_ n1_ n2_ n3_ n4_ n5_ n6_; (try clear hb); (try clear hb2); (try clear hk); (try clear hi); have hcz104_0 : w103.cell? ⟨gb320, 0, none⟩ = some (u321000) := (blk_cell BK320.out 0).trans rfl; have hfz104_0 := blk_frozen BK320.out 0; obtain ⟨Ao105, co105, eo105⟩ := Kd.R_slice HO_321000.out; subst eo105) | ((with_reducible refine gate_callee (f := 30) rfl ?_); refine goesL_ (some 119) rfl rfl Tryz.func30 (by kernel_rfl) rfl #[.agg #[.slice Ao105 x321000_2.length co105]] rfl (by (try simp only [List.map_toArray, List.map_cons, List.map_nil]); first | done | rfl | (simp only [List.length_drop, List.length_take]; rfl)) ?_; (with_reducible refine (governor_IsRobust.calls _ _ x321000_2 t340 t341 _ ?side1 ?side2 A63.out).mono ?_); (case side1 => repeat (first | exact (Kd.R_reads' HO_321000.out).2.2 | (with_reducible refine Kd.C_alloc ?_ _) | (with_reducible refine Kd.C_drewN ?_ _) | (with_reducible refine Kd.C_drew ?_))); (case side2 => exact (Kd.R_reads' HO_321000.out).2.1); rintro e w106 ⟨rfl, hb⟩; refine ⟨_, rfl, ?_⟩; have n0_ := Aside0.mk (Kd.R_below (by (with_reducible repeat (first | apply Kd.R_alloc | apply Kd.R_drewN | apply Kd.R_drew)); exact HO_7.out) hb); have n1_ := Aside0.mk (Kd.R_below (by (with_reducible repeat (first | apply Kd.R_alloc | apply Kd.R_drewN | apply Kd.R_drew)); exact HO_320000.out) hb); have n2_ := Aside0.mk (Kd.R_below (by (with_reducible repeat (first | apply Kd.R_alloc | apply Kd.R_drewN | apply Kd.R_drew)); exact HO_321000.out) hb); have n3_ := Aside0.mk (blk_below (g := gb311) (o := .cells #[.slice A0_0 l0_0.length c0_0] 42 (0, 0)) (by (with_reducible repeat (first | refine blk_drewN ?_ _ | refine blk_drew ?_ | refine blk_alloc ?_ _)); exact BK311.out) hb); have n4_ := Aside0.mk (blk_below (g := gb319) (o := .cells #[.slice Ao102 x320000_2.length co102] 42 (0, 0)) (by (with_reducible repeat (first | refine blk_drewN ?_ _ | refine blk_drew ?_ | refine blk_alloc ?_ _)); exact BK319.out) hb); have n5_ := Aside0.mk (blk_below (g := gb320) (o := .cells #[.slice Ao105 x321000_2.length co105] 42 (0, 0)) (by (with_reducible repeat (first | refine blk_drewN ?_ _ | refine blk_drew ?_ | refine blk_alloc ?_ _)); exact BK320.out) hb); have n6_ := Aside0.mk (below_step (by repeat (first | (with_reducible first | exact HB.out | apply below_alloc | apply pw_below_drewN | apply below_drew1 | refine below_set ?_ GE311.out | refine below_set ?_ GE319.out | refine below_set ?_ GE320.out) | exact HB.out)) hb); clear HO_7; clear HO_320000; clear HO_321000; clear BK311; clear BK319; clear BK320; clear HB; have HO_7 := n0_; have HO_320000 := n1_; have HO_321000 := n2_; have BK311 := n3_; have BK319 := n4_; have BK320 := n5_; have HB := n6_; clear n0_ n1_ n2_ n3_ n4_ n5_ n6_; (try clear hb); (try clear hb2); (try clear hk); (try clear hi)))
                              go_ret
                              exact ⟨by first | rfl | (simp [errW_none, errW_some] <;> rfl) | (simp [*, errW_none, errW_some] <;> rfl), by repeat (first | (with_reducible first | exact HB.out | apply below_alloc | apply pw_below_drewN | apply below_drew1 | refine below_set ?_ GE311.out | refine below_set ?_ GE319.out | refine below_set ?_ GE320.out) | exact HB.out)⟩
                          · replace c68 := Bool.eq_false_iff.mpr c68
                            subst c68
                            have H1 : (if t340 = true then (some t336) else (some true)) = some r := by rw [if_neg (show ¬ (false = true) by decide)] at H; exact H
                            clear H
                            have H := H1
                            clear H1
                            by_cases c107 : t340 = true
                            · subst c107
                              have H1 : (some t336) = some r := by rw [if_pos rfl] at H; exact H
                              clear H
                              have H := H1
                              clear H1
                              obtain rfl := Option.some.inj H
                              have hnb108 := NB311_319.out
                              have hnc108 := NB319_311.out
                              have hnb109 := NB311_320.out
                              have hnc109 := NB320_311.out
                              have hcz110_0 : wr.cell? ⟨gb311, 0, none⟩ = some (.slice A0_0 l0_0.length c0_0) := (blk_cell BK311.out 0).trans rfl
                              have hfz110_0 := blk_frozen BK311.out 0
                              obtain ⟨Ao111, co111, eo111⟩ := Kd.R_slice HO_7.out
                              subst eo111
                              go_wp2_with (first | ((with_reducible refine gate_callee (f := 37) rfl ?_); refine goesL_ (some 109) rfl rfl Tryz.func37 (by kernel_rfl) rfl #[.slice Ao111 x7_2.length co111] rfl (by (try simp only [List.map_toArray, List.map_cons, List.map_nil]); first | done | rfl | (simp only [List.length_drop, List.length_take]; rfl)) ?_; (with_reducible refine (governor_IsStable.calls k2 _ _ x7_2 t336 t337 _ ?side1 ?side2 A61.out).mono ?_); (case side1 => repeat (first | exact (Kd.R_reads' HO_7.out).2.2 | (with_reducible refine Kd.C_alloc ?_ _) | (with_reducible refine Kd.C_drewN ?_ _) | (with_reducible refine Kd.C_drew ?_))); (case side2 => exact (Kd.R_reads' HO_7.out).2.1); rintro e w112 ⟨rfl, hb⟩; refine ⟨_, rfl, ?_⟩; have n0_ := Aside0.mk (Kd.R_below (by (with_reducible repeat (first | apply Kd.R_alloc | apply Kd.R_drewN | apply Kd.R_drew)); exact HO_7.out) hb); have n1_ := Aside0.mk (Kd.R_below (by (with_reducible repeat (first | apply Kd.R_alloc | apply Kd.R_drewN | apply Kd.R_drew)); exact HO_320000.out) hb); have n2_ := Aside0.mk (Kd.R_below (by (with_reducible repeat (first | apply Kd.R_alloc | apply Kd.R_drewN | apply Kd.R_drew)); exact HO_321000.out) hb); have n3_ := Aside0.mk (blk_below (g := gb311) (o := .cells #[.slice A0_0 l0_0.length c0_0] 42 (0, 0)) (by (with_reducible repeat (first | refine blk_drewN ?_ _ | refine blk_drew ?_ | refine blk_alloc ?_ _)); exact BK311.out) hb); have n4_ := Aside0.mk (blk_below (g := gb319) (o := .cells #[u320000] 42 (0, 0)) (by (with_reducible repeat (first | refine blk_drewN ?_ _ | refine blk_drew ?_ | refine blk_alloc ?_ _)); exact BK319.out) hb); have n5_ := Aside0.mk (blk_below (g := gb320) (o := .cells #[u321000] 42 (0, 0)) (by (with_reducible repeat (first | refine blk_drewN ?_ _ | refine blk_drew ?_ | refine blk_alloc ?_ _)); exact BK320.out) hb); have n6_ := Aside0.mk (below_step (by repeat (first | (with_reducible first | exact HB.out | apply below_alloc | apply pw_below_drewN | apply below_drew1 | refine below_set ?_ GE311.out | refine below_set ?_ GE319.out | refine below_set ?_ GE320.out) | exact HB.out)) hb); clear HO_7; clear HO_320000; clear HO_321000; clear BK311; clear BK319; clear BK320; clear HB; have HO_7 := n0_; have HO_320000 := n1_; have HO_321000 := n2_; have BK311 := n3_; have BK319 := n4_; have BK320 := n5_; have HB := n6_; clear n0_ n1_ n2_ n3_ n4_ n5_ n6_; (try clear hb); (try clear hb2); (try clear hk); (try clear hi); have hnb113 := NB319_320.out; have hnc113 := NB320_319.out; have hcz114_0 : w112.cell? ⟨gb319, 0, none⟩ = some (u320000) := (blk_cell BK319.out 0).trans rfl; have hfz114_0 := blk_frozen BK319.out 0; obtain ⟨Ao115, co115, eo115⟩ := Kd.R_slice HO_320000.out; subst eo115) | ((with_reducible refine gate_callee (f := 30) rfl ?_); refine goesL_ (some 114) rfl rfl Tryz.func30 (by kernel_rfl) rfl #[.agg #[.slice Ao115 x320000_2.length co115]] rfl (by (try simp only [List.map_toArray, List.map_cons, List.map_nil]); first | done | rfl | (simp only [List.length_drop, List.length_take]; rfl)) ?_; (with_reducible refine (governor_IsRobust.calls _ _ x320000_2 t338 t339 _ ?side1 ?side2 A62.out).mono ?_); (case side1 => repeat (first | exact (Kd.R_reads' HO_320000.out).2.2 | (with_reducible refine Kd.C_alloc ?_ _) | (with_reducible refine Kd.C_drewN ?_ _) | (with_reducible refine Kd.C_drew ?_))); (case side2 => exact (Kd.R_reads' HO_320000.out).2.1); rintro e w116 ⟨rfl, hb⟩; refine ⟨_, rfl, ?_⟩; have n0_ := Aside0.mk (Kd.R_below (by (with_reducible repeat (first | apply Kd.R_alloc | apply Kd.R_drewN | apply Kd.R_drew)); exact HO_7.out) hb); have n1_ := Aside0.mk (Kd.R_below (by (with_reducible repeat (first | apply Kd.R_alloc | apply Kd.R_drewN | apply Kd.R_drew)); exact HO_320000.out) hb); have n2_ := Aside0.mk (Kd.R_below (by (with_reducible repeat (first | apply Kd.R_alloc | apply Kd.R_drewN | apply Kd.R_drew)); exact HO_321000.out) hb); have n3_ := Aside0.mk (blk_below (g := gb311) (o := .cells #[.slice A0_0 l0_0.length c0_0] 42 (0, 0)) (by (with_reducible repeat (first | refine blk_drewN ?_ _ | refine blk_drew ?_ | refine blk_alloc ?_ _)); exact BK311.out) hb); have n4_ := Aside0.mk (blk_below (g := gb319) (o := .cells #[.slice Ao115 x320000_2.length co115] 42 (0, 0)) (by (with_reducible repeat (first | refine blk_drewN ?_ _ | refine blk_drew ?_ | refine blk_alloc ?_ _)); exact BK319.out) hb); have n5_ := Aside0.mk (blk_below (g := gb320) (o := .cells #[u321000] 42 (0, 0)) (by (with_reducible repeat (first | refine blk_drewN ?_ _ | refine blk_drew ?_ | refine blk_alloc ?_ _)); exact BK320.out) hb); have n6_ := Aside0.mk (below_step (by repeat (first | (with_reducible first | exact HB.out | apply below_alloc | apply pw_below_drewN | apply below_drew1 | refine below_set ?_ GE311.out | refine below_set ?_ GE319.out | refine below_set ?_ GE320.out) | exact HB.out)) hb); clear HO_7; clear HO_320000; clear HO_321000; clear BK311; clear BK319; clear BK320; clear HB; have HO_7 := n0_; have HO_320000 := n1_; have HO_321000 := n2_; have BK311 := n3_; have BK319 := n4_; have BK320 := n5_; have HB := n6_; clear n0_ n1_ n2_ n3_ n4_ n5_ n6_; (try clear hb); (try clear hb2); (try clear hk); (try clear hi); have hcz117_0 : w116.cell? ⟨gb320, 0, none⟩ = some (u321000) := (blk_cell BK320.out 0).trans rfl; have hfz117_0 := blk_frozen BK320.out 0; obtain ⟨Ao118, co118, eo118⟩ := Kd.R_slice HO_321000.out; subst eo118) | ((with_reducible refine gate_callee (f := 30) rfl ?_); refine goesL_ (some 119) rfl rfl Tryz.func30 (by kernel_rfl) rfl #[.agg #[.slice Ao118 x321000_2.length co118]] rfl (by (try simp only [List.map_toArray, List.map_cons, List.map_nil]); first | done | rfl | (simp only [List.length_drop, List.length_take]; rfl)) ?_; (with_reducible refine (governor_IsRobust.calls _ _ x321000_2 true t341 _ ?side1 ?side2 A63.out).mono ?_); (case side1 => repeat (first | exact (Kd.R_reads' HO_321000.out).2.2 | (with_reducible refine Kd.C_alloc ?_ _) | (with_reducible refine Kd.C_drewN ?_ _) | (with_reducible refine Kd.C_drew ?_))); (case side2 => exact (Kd.R_reads' HO_321000.out).2.1); rintro e w119 ⟨rfl, hb⟩; refine ⟨_, rfl, ?_⟩; have n0_ := Aside0.mk (Kd.R_below (by (with_reducible repeat (first | apply Kd.R_alloc | apply Kd.R_drewN | apply Kd.R_drew)); exact HO_7.out) hb); have n1_ := Aside0.mk (Kd.R_below (by (with_reducible repeat (first | apply Kd.R_alloc | apply Kd.R_drewN | apply Kd.R_drew)); exact HO_320000.out) hb); have n2_ := Aside0.mk (Kd.R_below (by (with_reducible repeat (first | apply Kd.R_alloc | apply Kd.R_drewN | apply Kd.R_drew)); exact HO_321000.out) hb); have n3_ := Aside0.mk (blk_below (g := gb311) (o := .cells #[.slice A0_0 l0_0.length c0_0] 42 (0, 0)) (by (with_reducible repeat (first | refine blk_drewN ?_ _ | refine blk_drew ?_ | refine blk_alloc ?_ _)); exact BK311.out) hb); have n4_ := Aside0.mk (blk_below (g := gb319) (o := .cells #[.slice Ao115 x320000_2.length co115] 42 (0, 0)) (by (with_reducible repeat (first | refine blk_drewN ?_ _ | refine blk_drew ?_ | refine blk_alloc ?_ _)); exact BK319.out) hb); have n5_ := Aside0.mk (blk_below (g := gb320) (o := .cells #[.slice Ao118 x321000_2.length co118] 42 (0, 0)) (by (with_reducible repeat (first | refine blk_drewN ?_ _ | refine blk_drew ?_ | refine blk_alloc ?_ _)); exact BK320.out) hb); have n6_ := Aside0.mk (below_step (by repeat (first | (with_reducible first | exact HB.out | apply below_alloc | apply pw_below_drewN | apply below_drew1 | refine below_set ?_ GE311.out | refine below_set ?_ GE319.out | refine below_set ?_ GE320.out) | exact HB.out)) hb); clear HO_7; clear HO_320000; clear HO_321000; clear BK311; clear BK319; clear BK320; clear HB; have HO_7 := n0_; have HO_320000 := n1_; have HO_321000 := n2_; have BK311 := n3_; have BK319 := n4_; have BK320 := n5_; have HB := n6_; clear n0_ n1_ n2_ n3_ n4_ n5_ n6_; (try clear hb); (try clear hb2); (try clear hk); (try clear hi)))
                              go_ret
                              exact ⟨by first | rfl | (simp [errW_none, errW_some] <;> rfl) | (simp [*, errW_none, errW_some] <;> rfl), by repeat (first | (with_reducible first | exact HB.out | apply below_alloc | apply pw_below_drewN | apply below_drew1 | refine below_set ?_ GE311.out | refine below_set ?_ GE319.out | refine below_set ?_ GE320.out) | exact HB.out)⟩
                            · replace c107 := Bool.eq_false_iff.mpr c107
                              subst c107
                              have H1 : (some true) = some r := by rw [if_neg (show ¬ (false = true) by decide)] at H; exact H
                              clear H
                              have H := H1
                              clear H1
                              obtain rfl := Option.some.inj H
                              have hnb120 := NB311_319.out
                              have hnc120 := NB319_311.out
                              have hnb121 := NB311_320.out
                              have hnc121 := NB320_311.out
                              have hcz122_0 : wr.cell? ⟨gb311, 0, none⟩ = some (.slice A0_0 l0_0.length c0_0) := (blk_cell BK311.out 0).trans rfl
                              have hfz122_0 := blk_frozen BK311.out 0
                              obtain ⟨Ao123, co123, eo123⟩ := Kd.R_slice HO_7.out
                              subst eo123
                              go_wp2_with (first | ((with_reducible refine gate_callee (f := 37) rfl ?_); refine goesL_ (some 109) rfl rfl Tryz.func37 (by kernel_rfl) rfl #[.slice Ao123 x7_2.length co123] rfl (by (try simp only [List.map_toArray, List.map_cons, List.map_nil]); first | done | rfl | (simp only [List.length_drop, List.length_take]; rfl)) ?_; (with_reducible refine (governor_IsStable.calls k2 _ _ x7_2 t336 t337 _ ?side1 ?side2 A61.out).mono ?_); (case side1 => repeat (first | exact (Kd.R_reads' HO_7.out).2.2 | (with_reducible refine Kd.C_alloc ?_ _) | (with_reducible refine Kd.C_drewN ?_ _) | (with_reducible refine Kd.C_drew ?_))); (case side2 => exact (Kd.R_reads' HO_7.out).2.1); rintro e w124 ⟨rfl, hb⟩; refine ⟨_, rfl, ?_⟩; have n0_ := Aside0.mk (Kd.R_below (by (with_reducible repeat (first | apply Kd.R_alloc | apply Kd.R_drewN | apply Kd.R_drew)); exact HO_7.out) hb); have n1_ := Aside0.mk (Kd.R_below (by (with_reducible repeat (first | apply Kd.R_alloc | apply Kd.R_drewN | apply Kd.R_drew)); exact HO_320000.out) hb); have n2_ := Aside0.mk (Kd.R_below (by (with_reducible repeat (first | apply Kd.R_alloc | apply Kd.R_drewN | apply Kd.R_drew)); exact HO_321000.out) hb); have n3_ := Aside0.mk (blk_below (g := gb311) (o := .cells #[.slice A0_0 l0_0.length c0_0] 42 (0, 0)) (by (with_reducible repeat (first | refine blk_drewN ?_ _ | refine blk_drew ?_ | refine blk_alloc ?_ _)); exact BK311.out) hb); have n4_ := Aside0.mk (blk_below (g := gb319) (o := .cells #[u320000] 42 (0, 0)) (by (with_reducible repeat (first | refine blk_drewN ?_ _ | refine blk_drew ?_ | refine blk_alloc ?_ _)); exact BK319.out) hb); have n5_ := Aside0.mk (blk_below (g := gb320) (o := .cells #[u321000] 42 (0, 0)) (by (with_reducible repeat (first | refine blk_drewN ?_ _ | refine blk_drew ?_ | refine blk_alloc ?_ _)); exact BK320.out) hb); have n6_ := Aside0.mk (below_step (by repeat (first | (with_reducible first | exact HB.out | apply below_alloc | apply pw_below_drewN | apply below_drew1 | refine below_set ?_ GE311.out | refine below_set ?_ GE319.out | refine below_set ?_ GE320.out) | exact HB.out)) hb); clear HO_7; clear HO_320000; clear HO_321000; clear BK311; clear BK319; clear BK320; clear HB; have HO_7 := n0_; have HO_320000 := n1_; have HO_321000 := n2_; have BK311 := n3_; have BK319 := n4_; have BK320 := n5_; have HB := n6_; clear n0_ n1_ n2_ n3_ n4_ n5_ n6_; (try clear hb); (try clear hb2); (try clear hk); (try clear hi); have hnb125 := NB319_320.out; have hnc125 := NB320_319.out; have hcz126_0 : w124.cell? ⟨gb319, 0, none⟩ = some (u320000) := (blk_cell BK319.out 0).trans rfl; have hfz126_0 := blk_frozen BK319.out 0; obtain ⟨Ao127, co127, eo127⟩ := Kd.R_slice HO_320000.out; subst eo127) | ((with_reducible refine gate_callee (f := 30) rfl ?_); refine goesL_ (some 114) rfl rfl Tryz.func30 (by kernel_rfl) rfl #[.agg #[.slice Ao127 x320000_2.length co127]] rfl (by (try simp only [List.map_toArray, List.map_cons, List.map_nil]); first | done | rfl | (simp only [List.length_drop, List.length_take]; rfl)) ?_; (with_reducible refine (governor_IsRobust.calls _ _ x320000_2 t338 t339 _ ?side1 ?side2 A62.out).mono ?_); (case side1 => repeat (first | exact (Kd.R_reads' HO_320000.out).2.2 | (with_reducible refine Kd.C_alloc ?_ _) | (with_reducible refine Kd.C_drewN ?_ _) | (with_reducible refine Kd.C_drew ?_))); (case side2 => exact (Kd.R_reads' HO_320000.out).2.1); rintro e w128 ⟨rfl, hb⟩; refine ⟨_, rfl, ?_⟩; have n0_ := Aside0.mk (Kd.R_below (by (with_reducible repeat (first | apply Kd.R_alloc | apply Kd.R_drewN | apply Kd.R_drew)); exact HO_7.out) hb); have n1_ := Aside0.mk (Kd.R_below (by (with_reducible repeat (first | apply Kd.R_alloc | apply Kd.R_drewN | apply Kd.R_drew)); exact HO_320000.out) hb); have n2_ := Aside0.mk (Kd.R_below (by (with_reducible repeat (first | apply Kd.R_alloc | apply Kd.R_drewN | apply Kd.R_drew)); exact HO_321000.out) hb); have n3_ := Aside0.mk (blk_below (g := gb311) (o := .cells #[.slice A0_0 l0_0.length c0_0] 42 (0, 0)) (by (with_reducible repeat (first | refine blk_drewN ?_ _ | refine blk_drew ?_ | refine blk_alloc ?_ _)); exact BK311.out) hb); have n4_ := Aside0.mk (blk_below (g := gb319) (o := .cells #[.slice Ao127 x320000_2.length co127] 42 (0, 0)) (by (with_reducible repeat (first | refine blk_drewN ?_ _ | refine blk_drew ?_ | refine blk_alloc ?_ _)); exact BK319.out) hb); have n5_ := Aside0.mk (blk_below (g := gb320) (o := .cells #[u321000] 42 (0, 0)) (by (with_reducible repeat (first | refine blk_drewN ?_ _ | refine blk_drew ?_ | refine blk_alloc ?_ _)); exact BK320.out) hb); have n6_ := Aside0.mk (below_step (by repeat (first | (with_reducible first | exact HB.out | apply below_alloc | apply pw_below_drewN | apply below_drew1 | refine below_set ?_ GE311.out | refine below_set ?_ GE319.out | refine below_set ?_ GE320.out) | exact HB.out)) hb); clear HO_7; clear HO_320000; clear HO_321000; clear BK311; clear BK319; clear BK320; clear HB; have HO_7 := n0_; have HO_320000 := n1_; have HO_321000 := n2_; have BK311 := n3_; have BK319 := n4_; have BK320 := n5_; have HB := n6_; clear n0_ n1_ n2_ n3_ n4_ n5_ n6_; (try clear hb); (try clear hb2); (try clear hk); (try clear hi); have hcz129_0 : w128.cell? ⟨gb320, 0, none⟩ = some (u321000) := (blk_cell BK320.out 0).trans rfl; have hfz129_0 := blk_frozen BK320.out 0; obtain ⟨Ao130, co130, eo130⟩ := Kd.R_slice HO_321000.out; subst eo130) | ((with_reducible refine gate_callee (f := 30) rfl ?_); refine goesL_ (some 119) rfl rfl Tryz.func30 (by kernel_rfl) rfl #[.agg #[.slice Ao130 x321000_2.length co130]] rfl (by (try simp only [List.map_toArray, List.map_cons, List.map_nil]); first | done | rfl | (simp only [List.length_drop, List.length_take]; rfl)) ?_; (with_reducible refine (governor_IsRobust.calls _ _ x321000_2 false t341 _ ?side1 ?side2 A63.out).mono ?_); (case side1 => repeat (first | exact (Kd.R_reads' HO_321000.out).2.2 | (with_reducible refine Kd.C_alloc ?_ _) | (with_reducible refine Kd.C_drewN ?_ _) | (with_reducible refine Kd.C_drew ?_))); (case side2 => exact (Kd.R_reads' HO_321000.out).2.1); rintro e w131 ⟨rfl, hb⟩; refine ⟨_, rfl, ?_⟩; have n0_ := Aside0.mk (Kd.R_below (by (with_reducible repeat (first | apply Kd.R_alloc | apply Kd.R_drewN | apply Kd.R_drew)); exact HO_7.out) hb); have n1_ := Aside0.mk (Kd.R_below (by (with_reducible repeat (first | apply Kd.R_alloc | apply Kd.R_drewN | apply Kd.R_drew)); exact HO_320000.out) hb); have n2_ := Aside0.mk (Kd.R_below (by (with_reducible repeat (first | apply Kd.R_alloc | apply Kd.R_drewN | apply Kd.R_drew)); exact HO_321000.out) hb); have n3_ := Aside0.mk (blk_below (g := gb311) (o := .cells #[.slice A0_0 l0_0.length c0_0] 42 (0, 0)) (by (with_reducible repeat (first | refine blk_drewN ?_ _ | refine blk_drew ?_ | refine blk_alloc ?_ _)); exact BK311.out) hb); have n4_ := Aside0.mk (blk_below (g := gb319) (o := .cells #[.slice Ao127 x320000_2.length co127] 42 (0, 0)) (by (with_reducible repeat (first | refine blk_drewN ?_ _ | refine blk_drew ?_ | refine blk_alloc ?_ _)); exact BK319.out) hb); have n5_ := Aside0.mk (blk_below (g := gb320) (o := .cells #[.slice Ao130 x321000_2.length co130] 42 (0, 0)) (by (with_reducible repeat (first | refine blk_drewN ?_ _ | refine blk_drew ?_ | refine blk_alloc ?_ _)); exact BK320.out) hb); have n6_ := Aside0.mk (below_step (by repeat (first | (with_reducible first | exact HB.out | apply below_alloc | apply pw_below_drewN | apply below_drew1 | refine below_set ?_ GE311.out | refine below_set ?_ GE319.out | refine below_set ?_ GE320.out) | exact HB.out)) hb); clear HO_7; clear HO_320000; clear HO_321000; clear BK311; clear BK319; clear BK320; clear HB; have HO_7 := n0_; have HO_320000 := n1_; have HO_321000 := n2_; have BK311 := n3_; have BK319 := n4_; have BK320 := n5_; have HB := n6_; clear n0_ n1_ n2_ n3_ n4_ n5_ n6_; (try clear hb); (try clear hb2); (try clear hk); (try clear hi)))
                              go_ret
                              exact ⟨by first | rfl | (simp [errW_none, errW_some] <;> rfl) | (simp [*, errW_none, errW_some] <;> rfl), by repeat (first | (with_reducible first | exact HB.out | apply below_alloc | apply pw_below_drewN | apply below_drew1 | refine below_set ?_ GE311.out | refine below_set ?_ GE319.out | refine below_set ?_ GE320.out) | exact HB.out)⟩
                        · rw [if_neg c67] at H
                          have c67b0 : (t338 == t336) = false := by simpa using c67
                          (try (have c67b1 : decide (t338 = t336) = false := by simpa using c67))
                          (try (have c67b2 : (t338 == t336) = false := by simpa using c67))
                          (try (have c67b3 : ¬ (t338 = t336) := by simpa using c67))
                          clear c67
                          obtain rfl := Option.some.inj H
                          have hnb132 := NB311_319.out
                          have hnc132 := NB319_311.out
                          have hnb133 := NB311_320.out
                          have hnc133 := NB320_311.out
                          have hcz134_0 : wr.cell? ⟨gb311, 0, none⟩ = some (.slice A0_0 l0_0.length c0_0) := (blk_cell BK311.out 0).trans rfl
                          have hfz134_0 := blk_frozen BK311.out 0
                          obtain ⟨Ao135, co135, eo135⟩ := Kd.R_slice HO_7.out
                          subst eo135
                          go_wp2_with (first | ((with_reducible refine gate_callee (f := 37) rfl ?_); refine goesL_ (some 109) rfl rfl Tryz.func37 (by kernel_rfl) rfl #[.slice Ao135 x7_2.length co135] rfl (by (try simp only [List.map_toArray, List.map_cons, List.map_nil]); first | done | rfl | (simp only [List.length_drop, List.length_take]; rfl)) ?_; (with_reducible refine (governor_IsStable.calls k2 _ _ x7_2 t336 t337 _ ?side1 ?side2 A61.out).mono ?_); (case side1 => repeat (first | exact (Kd.R_reads' HO_7.out).2.2 | (with_reducible refine Kd.C_alloc ?_ _) | (with_reducible refine Kd.C_drewN ?_ _) | (with_reducible refine Kd.C_drew ?_))); (case side2 => exact (Kd.R_reads' HO_7.out).2.1); rintro e w136 ⟨rfl, hb⟩; refine ⟨_, rfl, ?_⟩; have n0_ := Aside0.mk (Kd.R_below (by (with_reducible repeat (first | apply Kd.R_alloc | apply Kd.R_drewN | apply Kd.R_drew)); exact HO_7.out) hb); have n1_ := Aside0.mk (Kd.R_below (by (with_reducible repeat (first | apply Kd.R_alloc | apply Kd.R_drewN | apply Kd.R_drew)); exact HO_320000.out) hb); have n2_ := Aside0.mk (Kd.R_below (by (with_reducible repeat (first | apply Kd.R_alloc | apply Kd.R_drewN | apply Kd.R_drew)); exact HO_321000.out) hb); have n3_ := Aside0.mk (blk_below (g := gb311) (o := .cells #[.slice A0_0 l0_0.length c0_0] 42 (0, 0)) (by (with_reducible repeat (first | refine blk_drewN ?_ _ | refine blk_drew ?_ | refine blk_alloc ?_ _)); exact BK311.out) hb); have n4_ := Aside0.mk (blk_below (g := gb319) (o := .cells #[u320000] 42 (0, 0)) (by (with_reducible repeat (first | refine blk_drewN ?_ _ | refine blk_drew ?_ | refine blk_alloc ?_ _)); exact BK319.out) hb); have n5_ := Aside0.mk (blk_below (g := gb320) (o := .cells #[u321000] 42 (0, 0)) (by (with_reducible repeat (first | refine blk_drewN ?_ _ | refine blk_drew ?_ | refine blk_alloc ?_ _)); exact BK320.out) hb); have n6_ := Aside0.mk (below_step (by repeat (first | (with_reducible first | exact HB.out | apply below_alloc | apply pw_below_drewN | apply below_drew1 | refine below_set ?_ GE311.out | refine below_set ?_ GE319.out | refine below_set ?_ GE320.out) | exact HB.out)) hb); clear HO_7; clear HO_320000; clear HO_321000; clear BK311; clear BK319; clear BK320; clear HB; have HO_7 := n0_; have HO_320000 := n1_; have HO_321000 := n2_; have BK311 := n3_; have BK319 := n4_; have BK320 := n5_; have HB := n6_; clear n0_ n1_ n2_ n3_ n4_ n5_ n6_; (try clear hb); (try clear hb2); (try clear hk); (try clear hi); have hnb137 := NB319_320.out; have hnc137 := NB320_319.out; have hcz138_0 : w136.cell? ⟨gb319, 0, none⟩ = some (u320000) := (blk_cell BK319.out 0).trans rfl; have hfz138_0 := blk_frozen BK319.out 0; obtain ⟨Ao139, co139, eo139⟩ := Kd.R_slice HO_320000.out; subst eo139) | ((with_reducible refine gate_callee (f := 30) rfl ?_); refine goesL_ (some 114) rfl rfl Tryz.func30 (by kernel_rfl) rfl #[.agg #[.slice Ao139 x320000_2.length co139]] rfl (by (try simp only [List.map_toArray, List.map_cons, List.map_nil]); first | done | rfl | (simp only [List.length_drop, List.length_take]; rfl)) ?_; (with_reducible refine (governor_IsRobust.calls _ _ x320000_2 t338 t339 _ ?side1 ?side2 A62.out).mono ?_); (case side1 => repeat (first | exact (Kd.R_reads' HO_320000.out).2.2 | (with_reducible refine Kd.C_alloc ?_ _) | (with_reducible refine Kd.C_drewN ?_ _) | (with_reducible refine Kd.C_drew ?_))); (case side2 => exact (Kd.R_reads' HO_320000.out).2.1); rintro e w140 ⟨rfl, hb⟩; refine ⟨_, rfl, ?_⟩; have n0_ := Aside0.mk (Kd.R_below (by (with_reducible repeat (first | apply Kd.R_alloc | apply Kd.R_drewN | apply Kd.R_drew)); exact HO_7.out) hb); have n1_ := Aside0.mk (Kd.R_below (by (with_reducible repeat (first | apply Kd.R_alloc | apply Kd.R_drewN | apply Kd.R_drew)); exact HO_320000.out) hb); have n2_ := Aside0.mk (Kd.R_below (by (with_reducible repeat (first | apply Kd.R_alloc | apply Kd.R_drewN | apply Kd.R_drew)); exact HO_321000.out) hb); have n3_ := Aside0.mk (blk_below (g := gb311) (o := .cells #[.slice A0_0 l0_0.length c0_0] 42 (0, 0)) (by (with_reducible repeat (first | refine blk_drewN ?_ _ | refine blk_drew ?_ | refine blk_alloc ?_ _)); exact BK311.out) hb); have n4_ := Aside0.mk (blk_below (g := gb319) (o := .cells #[.slice Ao139 x320000_2.length co139] 42 (0, 0)) (by (with_reducible repeat (first | refine blk_drewN ?_ _ | refine blk_drew ?_ | refine blk_alloc ?_ _)); exact BK319.out) hb); have n5_ := Aside0.mk (blk_below (g := gb320) (o := .cells #[u321000] 42 (0, 0)) (by (with_reducible repeat (first | refine blk_drewN ?_ _ | refine blk_drew ?_ | refine blk_alloc ?_ _)); exact BK320.out) hb); have n6_ := Aside0.mk (below_step (by repeat (first | (with_reducible first | exact HB.out | apply below_alloc | apply pw_below_drewN | apply below_drew1 | refine below_set ?_ GE311.out | refine below_set ?_ GE319.out | refine below_set ?_ GE320.out) | exact HB.out)) hb); clear HO_7; clear HO_320000; clear HO_321000; clear BK311; clear BK319; clear BK320; clear HB; have HO_7 := n0_; have HO_320000 := n1_; have HO_321000 := n2_; have BK311 := n3_; have BK319 := n4_; have BK320 := n5_; have HB := n6_; clear n0_ n1_ n2_ n3_ n4_ n5_ n6_; (try clear hb); (try clear hb2); (try clear hk); (try clear hi); have hcz141_0 : w140.cell? ⟨gb320, 0, none⟩ = some (u321000) := (blk_cell BK320.out 0).trans rfl; have hfz141_0 := blk_frozen BK320.out 0; obtain ⟨Ao142, co142, eo142⟩ := Kd.R_slice HO_321000.out; subst eo142) | ((with_reducible refine gate_callee (f := 30) rfl ?_); refine goesL_ (some 119) rfl rfl Tryz.func30 (by kernel_rfl) rfl #[.agg #[.slice Ao142 x321000_2.length co142]] rfl (by (try simp only [List.map_toArray, List.map_cons, List.map_nil]); first | done | rfl | (simp only [List.length_drop, List.length_take]; rfl)) ?_; (with_reducible refine (governor_IsRobust.calls _ _ x321000_2 t340 t341 _ ?side1 ?side2 A63.out).mono ?_); (case side1 => repeat (first | exact (Kd.R_reads' HO_321000.out).2.2 | (with_reducible refine Kd.C_alloc ?_ _) | (with_reducible refine Kd.C_drewN ?_ _) | (with_reducible refine Kd.C_drew ?_))); (case side2 => exact (Kd.R_reads' HO_321000.out).2.1); rintro e w143 ⟨rfl, hb⟩; refine ⟨_, rfl, ?_⟩; have n0_ := Aside0.mk (Kd.R_below (by (with_reducible repeat (first | apply Kd.R_alloc | apply Kd.R_drewN | apply Kd.R_drew)); exact HO_7.out) hb); have n1_ := Aside0.mk (Kd.R_below (by (with_reducible repeat (first | apply Kd.R_alloc | apply Kd.R_drewN | apply Kd.R_drew)); exact HO_320000.out) hb); have n2_ := Aside0.mk (Kd.R_below (by (with_reducible repeat (first | apply Kd.R_alloc | apply Kd.R_drewN | apply Kd.R_drew)); exact HO_321000.out) hb); have n3_ := Aside0.mk (blk_below (g := gb311) (o := .cells #[.slice A0_0 l0_0.length c0_0] 42 (0, 0)) (by (with_reducible repeat (first | refine blk_drewN ?_ _ | refine blk_drew ?_ | refine blk_alloc ?_ _)); exact BK311.out) hb); have n4_ := Aside0.mk (blk_below (g := gb319) (o := .cells #[.slice Ao139 x320000_2.length co139] 42 (0, 0)) (by (with_reducible repeat (first | refine blk_drewN ?_ _ | refine blk_drew ?_ | refine blk_alloc ?_ _)); exact BK319.out) hb); have n5_ := Aside0.mk (blk_below (g := gb320) (o := .cells #[.slice Ao142 x321000_2.length co142] 42 (0, 0)) (by (with_reducible repeat (first | refine blk_drewN ?_ _ | refine blk_drew ?_ | refine blk_alloc ?_ _)); exact BK320.out) hb); have n6_ := Aside0.mk (below_step (by repeat (first | (with_reducible first | exact HB.out | apply below_alloc | apply pw_below_drewN | apply below_drew1 | refine below_set ?_ GE311.out | refine below_set ?_ GE319.out | refine below_set ?_ GE320.out) | exact HB.out)) hb); clear HO_7; clear HO_320000; clear HO_321000; clear BK311; clear BK319; clear BK320; clear HB; have HO_7 := n0_; have HO_320000 := n1_; have HO_321000 := n2_; have BK311 := n3_; have BK319 := n4_; have BK320 := n5_; have HB := n6_; clear n0_ n1_ n2_ n3_ n4_ n5_ n6_; (try clear hb); (try clear hb2); (try clear hk); (try clear hi)))
                          go_ret
                          exact ⟨by first | rfl | (simp [errW_none, errW_some] <;> rfl) | (simp [*, errW_none, errW_some] <;> rfl), by repeat (first | (with_reducible first | exact HB.out | apply below_alloc | apply pw_below_drewN | apply below_drew1 | refine below_set ?_ GE311.out | refine below_set ?_ GE319.out | refine below_set ?_ GE320.out) | exact HB.out)⟩
                      · rw [if_neg c66] at H
                        have c66b0 : (t341 == 0) = false := beq_eq_false_iff_ne.mpr c66
                        have c66b1 : (t341 != 0) = true := bne_iff_ne.mpr c66
                        obtain rfl := Option.some.inj H
                        have hnb144 := NB311_319.out
                        have hnc144 := NB319_311.out
                        have hnb145 := NB311_320.out
                        have hnc145 := NB320_311.out
                        have hcz146_0 : wr.cell? ⟨gb311, 0, none⟩ = some (.slice A0_0 l0_0.length c0_0) := (blk_cell BK311.out 0).trans rfl
                        have hfz146_0 := blk_frozen BK311.out 0
                        obtain ⟨Ao147, co147, eo147⟩ := Kd.R_slice HO_7.out
                        subst eo147
                        go_wp2_with (first | ((with_reducible refine gate_callee (f := 37) rfl ?_); refine goesL_ (some 109) rfl rfl Tryz.func37 (by kernel_rfl) rfl #[.slice Ao147 x7_2.length co147] rfl (by (try simp only [List.map_toArray, List.map_cons, List.map_nil]); first | done | rfl | (simp only [List.length_drop, List.length_take]; rfl)) ?_; (with_reducible refine (governor_IsStable.calls k2 _ _ x7_2 t336 t337 _ ?side1 ?side2 A61.out).mono ?_); (case side1 => repeat (first | exact (Kd.R_reads' HO_7.out).2.2 | (with_reducible refine Kd.C_alloc ?_ _) | (with_reducible refine Kd.C_drewN ?_ _) | (with_reducible refine Kd.C_drew ?_))); (case side2 => exact (Kd.R_reads' HO_7.out).2.1); rintro e w148 ⟨rfl, hb⟩; refine ⟨_, rfl, ?_⟩; have n0_ := Aside0.mk (Kd.R_below (by (with_reducible repeat (first | apply Kd.R_alloc | apply Kd.R_drewN | apply Kd.R_drew)); exact HO_7.out) hb); have n1_ := Aside0.mk (Kd.R_below (by (with_reducible repeat (first | apply Kd.R_alloc | apply Kd.R_drewN | apply Kd.R_drew)); exact HO_320000.out) hb); have n2_ := Aside0.mk (Kd.R_below (by (with_reducible repeat (first | apply Kd.R_alloc | apply Kd.R_drewN | apply Kd.R_drew)); exact HO_321000.out) hb); have n3_ := Aside0.mk (blk_below (g := gb311) (o := .cells #[.slice A0_0 l0_0.length c0_0] 42 (0, 0)) (by (with_reducible repeat (first | refine blk_drewN ?_ _ | refine blk_drew ?_ | refine blk_alloc ?_ _)); exact BK311.out) hb); have n4_ := Aside0.mk (blk_below (g := gb319) (o := .cells #[u320000] 42 (0, 0)) (by (with_reducible repeat (first | refine blk_drewN ?_ _ | refine blk_drew ?_ | refine blk_alloc ?_ _)); exact BK319.out) hb); have n5_ := Aside0.mk (blk_below (g := gb320) (o := .cells #[u321000] 42 (0, 0)) (by (with_reducible repeat (first | refine blk_drewN ?_ _ | refine blk_drew ?_ | refine blk_alloc ?_ _)); exact BK320.out) hb); have n6_ := Aside0.mk (below_step (by repeat (first | (with_reducible first | exact HB.out | apply below_alloc | apply pw_below_drewN | apply below_drew1 | refine below_set ?_ GE311.out | refine below_set ?_ GE319.out | refine below_set ?_ GE320.out) | exact HB.out)) hb); clear HO_7; clear HO_320000; clear HO_321000; clear BK311; clear BK319; clear BK320; clear HB; have HO_7 := n0_; have HO_320000 := n1_; have HO_321000 := n2_; have BK311 := n3_; have BK319 := n4_; have BK320 := n5_; have HB := n6_; clear n0_ n1_ n2_ n3_ n4_ n5_ n6_; (try clear hb); (try clear hb2); (try clear hk); (try clear hi); have hnb149 := NB319_320.out; have hnc149 := NB320_319.out; have hcz150_0 : w148.cell? ⟨gb319, 0, none⟩ = some (u320000) := (blk_cell BK319.out 0).trans rfl; have hfz150_0 := blk_frozen BK319.out 0; obtain ⟨Ao151, co151, eo151⟩ := Kd.R_slice HO_320000.out; subst eo151) | ((with_reducible refine gate_callee (f := 30) rfl ?_); refine goesL_ (some 114) rfl rfl Tryz.func30 (by kernel_rfl) rfl #[.agg #[.slice Ao151 x320000_2.length co151]] rfl (by (try simp only [List.map_toArray, List.map_cons, List.map_nil]); first | done | rfl | (simp only [List.length_drop, List.length_take]; rfl)) ?_; (with_reducible refine (governor_IsRobust.calls _ _ x320000_2 t338 t339 _ ?side1 ?side2 A62.out).mono ?_); (case side1 => repeat (first | exact (Kd.R_reads' HO_320000.out).2.2 | (with_reducible refine Kd.C_alloc ?_ _) | (with_reducible refine Kd.C_drewN ?_ _) | (with_reducible refine Kd.C_drew ?_))); (case side2 => exact (Kd.R_reads' HO_320000.out).2.1); rintro e w152 ⟨rfl, hb⟩; refine ⟨_, rfl, ?_⟩; have n0_ := Aside0.mk (Kd.R_below (by (with_reducible repeat (first | apply Kd.R_alloc | apply Kd.R_drewN | apply Kd.R_drew)); exact HO_7.out) hb); have n1_ := Aside0.mk (Kd.R_below (by (with_reducible repeat (first | apply Kd.R_alloc | apply Kd.R_drewN | apply Kd.R_drew)); exact HO_320000.out) hb); have n2_ := Aside0.mk (Kd.R_below (by (with_reducible repeat (first | apply Kd.R_alloc | apply Kd.R_drewN | apply Kd.R_drew)); exact HO_321000.out) hb); have n3_ := Aside0.mk (blk_below (g := gb311) (o := .cells #[.slice A0_0 l0_0.length c0_0] 42 (0, 0)) (by (with_reducible repeat (first | refine blk_drewN ?_ _ | refine blk_drew ?_ | refine blk_alloc ?_ _)); exact BK311.out) hb); have n4_ := Aside0.mk (blk_below (g := gb319) (o := .cells #[.slice Ao151 x320000_2.length co151] 42 (0, 0)) (by (with_reducible repeat (first | refine blk_drewN ?_ _ | refine blk_drew ?_ | refine blk_alloc ?_ _)); exact BK319.out) hb); have n5_ := Aside0.mk (blk_below (g := gb320) (o := .cells #[u321000] 42 (0, 0)) (by (with_reducible repeat (first | refine blk_drewN ?_ _ | refine blk_drew ?_ | refine blk_alloc ?_ _)); exact BK320.out) hb); have n6_ := Aside0.mk (below_step (by repeat (first | (with_reducible first | exact HB.out | apply below_alloc | apply pw_below_drewN | apply below_drew1 | refine below_set ?_ GE311.out | refine below_set ?_ GE319.out | refine below_set ?_ GE320.out) | exact HB.out)) hb); clear HO_7; clear HO_320000; clear HO_321000; clear BK311; clear BK319; clear BK320; clear HB; have HO_7 := n0_; have HO_320000 := n1_; have HO_321000 := n2_; have BK311 := n3_; have BK319 := n4_; have BK320 := n5_; have HB := n6_; clear n0_ n1_ n2_ n3_ n4_ n5_ n6_; (try clear hb); (try clear hb2); (try clear hk); (try clear hi); have hcz153_0 : w152.cell? ⟨gb320, 0, none⟩ = some (u321000) := (blk_cell BK320.out 0).trans rfl; have hfz153_0 := blk_frozen BK320.out 0; obtain ⟨Ao154, co154, eo154⟩ := Kd.R_slice HO_321000.out; subst eo154) | ((with_reducible refine gate_callee (f := 30) rfl ?_); refine goesL_ (some 119) rfl rfl Tryz.func30 (by kernel_rfl) rfl #[.agg #[.slice Ao154 x321000_2.length co154]] rfl (by (try simp only [List.map_toArray, List.map_cons, List.map_nil]); first | done | rfl | (simp only [List.length_drop, List.length_take]; rfl)) ?_; (with_reducible refine (governor_IsRobust.calls _ _ x321000_2 t340 t341 _ ?side1 ?side2 A63.out).mono ?_); (case side1 => repeat (first | exact (Kd.R_reads' HO_321000.out).2.2 | (with_reducible refine Kd.C_alloc ?_ _) | (with_reducible refine Kd.C_drewN ?_ _) | (with_reducible refine Kd.C_drew ?_))); (case side2 => exact (Kd.R_reads' HO_321000.out).2.1); rintro e w155 ⟨rfl, hb⟩; refine ⟨_, rfl, ?_⟩; have n0_ := Aside0.mk (Kd.R_below (by (with_reducible repeat (first | apply Kd.R_alloc | apply Kd.R_drewN | apply Kd.R_drew)); exact HO_7.out) hb); have n1_ := Aside0.mk (Kd.R_below (by (with_reducible repeat (first | apply Kd.R_alloc | apply Kd.R_drewN | apply Kd.R_drew)); exact HO_320000.out) hb); have n2_ := Aside0.mk (Kd.R_below (by (with_reducible repeat (first | apply Kd.R_alloc | apply Kd.R_drewN | apply Kd.R_drew)); exact HO_321000.out) hb); have n3_ := Aside0.mk (blk_below (g := gb311) (o := .cells #[.slice A0_0 l0_0.length c0_0] 42 (0, 0)) (by (with_reducible repeat (first | refine blk_drewN ?_ _ | refine blk_drew ?_ | refine blk_alloc ?_ _)); exact BK311.out) hb); have n4_ := Aside0.mk (blk_below (g := gb319) (o := .cells #[.slice Ao151 x320000_2.length co151] 42 (0, 0)) (by (with_reducible repeat (first | refine blk_drewN ?_ _ | refine blk_drew ?_ | refine blk_alloc ?_ _)); exact BK319.out) hb); have n5_ := Aside0.mk (blk_below (g := gb320) (o := .cells #[.slice Ao154 x321000_2.length co154] 42 (0, 0)) (by (with_reducible repeat (first | refine blk_drewN ?_ _ | refine blk_drew ?_ | refine blk_alloc ?_ _)); exact BK320.out) hb); have n6_ := Aside0.mk (below_step (by repeat (first | (with_reducible first | exact HB.out | apply below_alloc | apply pw_below_drewN | apply below_drew1 | refine below_set ?_ GE311.out | refine below_set ?_ GE319.out | refine below_set ?_ GE320.out) | exact HB.out)) hb); clear HO_7; clear HO_320000; clear HO_321000; clear BK311; clear BK319; clear BK320; clear HB; have HO_7 := n0_; have HO_320000 := n1_; have HO_321000 := n2_; have BK311 := n3_; have BK319 := n4_; have BK320 := n5_; have HB := n6_; clear n0_ n1_ n2_ n3_ n4_ n5_ n6_; (try clear hb); (try clear hb2); (try clear hk); (try clear hi)))
                        go_ret
                        exact ⟨by first | rfl | (simp [errW_none, errW_some] <;> rfl) | (simp [*, errW_none, errW_some] <;> rfl), by repeat (first | (with_reducible first | exact HB.out | apply below_alloc | apply pw_below_drewN | apply below_drew1 | refine below_set ?_ GE311.out | refine below_set ?_ GE319.out | refine below_set ?_ GE320.out) | exact HB.out)⟩
                    · rw [if_neg c65] at H
                      have c65b0 : (t339 == 0) = false := beq_eq_false_iff_ne.mpr c65
                      have c65b1 : (t339 != 0) = true := bne_iff_ne.mpr c65
                      obtain rfl := Option.some.inj H
                      have hnb156 := NB311_319.out
                      have hnc156 := NB319_311.out
                      have hnb157 := NB311_320.out
                      have hnc157 := NB320_311.out
                      have hcz158_0 : wr.cell? ⟨gb311, 0, none⟩ = some (.slice A0_0 l0_0.length c0_0) := (blk_cell BK311.out 0).trans rfl
                      have hfz158_0 := blk_frozen BK311.out 0
                      obtain ⟨Ao159, co159, eo159⟩ := Kd.R_slice HO_7.out
                      subst eo159
                      go_wp2_with (first | ((with_reducible refine gate_callee (f := 37) rfl ?_); refine goesL_ (some 109) rfl rfl Tryz.func37 (by kernel_rfl) rfl #[.slice Ao159 x7_2.length co159] rfl (by (try simp only [List.map_toArray, List.map_cons, List.map_nil]); first | done | rfl | (simp only [List.length_drop, List.length_take]; rfl)) ?_; (with_reducible refine (governor_IsStable.calls k2 _ _ x7_2 t336 t337 _ ?side1 ?side2 A61.out).mono ?_); (case side1 => repeat (first | exact (Kd.R_reads' HO_7.out).2.2 | (with_reducible refine Kd.C_alloc ?_ _) | (with_reducible refine Kd.C_drewN ?_ _) | (with_reducible refine Kd.C_drew ?_))); (case side2 => exact (Kd.R_reads' HO_7.out).2.1); rintro e w160 ⟨rfl, hb⟩; refine ⟨_, rfl, ?_⟩; have n0_ := Aside0.mk (Kd.R_below (by (with_reducible repeat (first | apply Kd.R_alloc | apply Kd.R_drewN | apply Kd.R_drew)); exact HO_7.out) hb); have n1_ := Aside0.mk (Kd.R_below (by (with_reducible repeat (first | apply Kd.R_alloc | apply Kd.R_drewN | apply Kd.R_drew)); exact HO_320000.out) hb); have n2_ := Aside0.mk (Kd.R_below (by (with_reducible repeat (first | apply Kd.R_alloc | apply Kd.R_drewN | apply Kd.R_drew)); exact HO_321000.out) hb); have n3_ := Aside0.mk (blk_below (g := gb311) (o := .cells #[.slice A0_0 l0_0.length c0_0] 42 (0, 0)) (by (with_reducible repeat (first | refine blk_drewN ?_ _ | refine blk_drew ?_ | refine blk_alloc ?_ _)); exact BK311.out) hb); have n4_ := Aside0.mk (blk_below (g := gb319) (o := .cells #[u320000] 42 (0, 0)) (by (with_reducible repeat (first | refine blk_drewN ?_ _ | refine blk_drew ?_ | refine blk_alloc ?_ _)); exact BK319.out) hb); have n5_ := Aside0.mk (blk_below (g := gb320) (o := .cells #[u321000] 42 (0, 0)) (by (with_reducible repeat (first | refine blk_drewN ?_ _ | refine blk_drew ?_ | refine blk_alloc ?_ _)); exact BK320.out) hb); have n6_ := Aside0.mk (below_step (by repeat (first | (with_reducible first | exact HB.out | apply below_alloc | apply pw_below_drewN | apply below_drew1 | refine below_set ?_ GE311.out | refine below_set ?_ GE319.out | refine below_set ?_ GE320.out) | exact HB.out)) hb); clear HO_7; clear HO_320000; clear HO_321000; clear BK311; clear BK319; clear BK320; clear HB; have HO_7 := n0_; have HO_320000 := n1_; have HO_321000 := n2_; have BK311 := n3_; have BK319 := n4_; have BK320 := n5_; have HB := n6_; clear n0_ n1_ n2_ n3_ n4_ n5_ n6_; (try clear hb); (try clear hb2); (try clear hk); (try clear hi); have hnb161 := NB319_320.out; have hnc161 := NB320_319.out; have hcz162_0 : w160.cell? ⟨gb319, 0, none⟩ = some (u320000) := (blk_cell BK319.out 0).trans rfl; have hfz162_0 := blk_frozen BK319.out 0; obtain ⟨Ao163, co163, eo163⟩ := Kd.R_slice HO_320000.out; subst eo163) | ((with_reducible refine gate_callee (f := 30) rfl ?_); refine goesL_ (some 114) rfl rfl Tryz.func30 (by kernel_rfl) rfl #[.agg #[.slice Ao163 x320000_2.length co163]] rfl (by (try simp only [List.map_toArray, List.map_cons, List.map_nil]); first | done | rfl | (simp only [List.length_drop, List.length_take]; rfl)) ?_; (with_reducible refine (governor_IsRobust.calls _ _ x320000_2 t338 t339 _ ?side1 ?side2 A62.out).mono ?_); (case side1 => repeat (first | exact (Kd.R_reads' HO_320000.out).2.2 | (with_reducible refine Kd.C_alloc ?_ _) | (with_reducible refine Kd.C_drewN ?_ _) | (with_reducible refine Kd.C_drew ?_))); (case side2 => exact (Kd.R_reads' HO_320000.out).2.1); rintro e w164 ⟨rfl, hb⟩; refine ⟨_, rfl, ?_⟩; have n0_ := Aside0.mk (Kd.R_below (by (with_reducible repeat (first | apply Kd.R_alloc | apply Kd.R_drewN | apply Kd.R_drew)); exact HO_7.out) hb); have n1_ := Aside0.mk (Kd.R_below (by (with_reducible repeat (first | apply Kd.R_alloc | apply Kd.R_drewN | apply Kd.R_drew)); exact HO_320000.out) hb); have n2_ := Aside0.mk (Kd.R_below (by (with_reducible repeat (first | apply Kd.R_alloc | apply Kd.R_drewN | apply Kd.R_drew)); exact HO_321000.out) hb); have n3_ := Aside0.mk (blk_below (g := gb311) (o := .cells #[.slice A0_0 l0_0.length c0_0] 42 (0, 0)) (by (with_reducible repeat (first | refine blk_drewN ?_ _ | refine blk_drew ?_ | refine blk_alloc ?_ _)); exact BK311.out) hb); have n4_ := Aside0.mk (blk_below (g := gb319) (o := .cells #[.slice Ao163 x320000_2.length co163] 42 (0, 0)) (by (with_reducible repeat (first | refine blk_drewN ?_ _ | refine blk_drew ?_ | refine blk_alloc ?_ _)); exact BK319.out) hb); have n5_ := Aside0.mk (blk_below (g := gb320) (o := .cells #[u321000] 42 (0, 0)) (by (with_reducible repeat (first | refine blk_drewN ?_ _ | refine blk_drew ?_ | refine blk_alloc ?_ _)); exact BK320.out) hb); have n6_ := Aside0.mk (below_step (by repeat (first | (with_reducible first | exact HB.out | apply below_alloc | apply pw_below_drewN | apply below_drew1 | refine below_set ?_ GE311.out | refine below_set ?_ GE319.out | refine below_set ?_ GE320.out) | exact HB.out)) hb); clear HO_7; clear HO_320000; clear HO_321000; clear BK311; clear BK319; clear BK320; clear HB; have HO_7 := n0_; have HO_320000 := n1_; have HO_321000 := n2_; have BK311 := n3_; have BK319 := n4_; have BK320 := n5_; have HB := n6_; clear n0_ n1_ n2_ n3_ n4_ n5_ n6_; (try clear hb); (try clear hb2); (try clear hk); (try clear hi); have hcz165_0 : w164.cell? ⟨gb320, 0, none⟩ = some (u321000) := (blk_cell BK320.out 0).trans rfl; have hfz165_0 := blk_frozen BK320.out 0; obtain ⟨Ao166, co166, eo166⟩ := Kd.R_slice HO_321000.out; subst eo166) | ((with_reducible refine gate_callee (f := 30) rfl ?_); refine goesL_ (some 119) rfl rfl Tryz.func30 (by kernel_rfl) rfl #[.agg #[.slice Ao166 x321000_2.length co166]] rfl (by (try simp only [List.map_toArray, List.map_cons, List.map_nil]); first | done | rfl | (simp only [List.length_drop, List.length_take]; rfl)) ?_; (with_reducible refine (governor_IsRobust.calls _ _ x321000_2 t340 t341 _ ?side1 ?side2 A63.out).mono ?_); (case side1 => repeat (first | exact (Kd.R_reads' HO_321000.out).2.2 | (with_reducible refine Kd.C_alloc ?_ _) | (with_reducible refine Kd.C_drewN ?_ _) | (with_reducible refine Kd.C_drew ?_))); (case side2 => exact (Kd.R_reads' HO_321000.out).2.1); rintro e w167 ⟨rfl, hb⟩; refine ⟨_, rfl, ?_⟩; have n0_ := Aside0.mk (Kd.R_below (by (with_reducible repeat (first | apply Kd.R_alloc | apply Kd.R_drewN | apply Kd.R_drew)); exact HO_7.out) hb); have n1_ := Aside0.mk (Kd.R_below (by (with_reducible repeat (first | apply Kd.R_alloc | apply Kd.R_drewN | apply Kd.R_drew)); exact HO_320000.out) hb); have n2_ := Aside0.mk (Kd.R_below (by (with_reducible repeat (first | apply Kd.R_alloc | apply Kd.R_drewN | apply Kd.R_drew)); exact HO_321000.out) hb); have n3_ := Aside0.mk (blk_below (g := gb311) (o := .cells #[.slice A0_0 l0_0.length c0_0] 42 (0, 0)) (by (with_reducible repeat (first | refine blk_drewN ?_ _ | refine blk_drew ?_ | refine blk_alloc ?_ _)); exact BK311.out) hb); have n4_ := Aside0.mk (blk_below (g := gb319) (o := .cells #[.slice Ao163 x320000_2.length co163] 42 (0, 0)) (by (with_reducible repeat (first | refine blk_drewN ?_ _ | refine blk_drew ?_ | refine blk_alloc ?_ _)); exact BK319.out) hb); have n5_ := Aside0.mk (blk_below (g := gb320) (o := .cells #[.slice Ao166 x321000_2.length co166] 42 (0, 0)) (by (with_reducible repeat (first | refine blk_drewN ?_ _ | refine blk_drew ?_ | refine blk_alloc ?_ _)); exact BK320.out) hb); have n6_ := Aside0.mk (below_step (by repeat (first | (with_reducible first | exact HB.out | apply below_alloc | apply pw_below_drewN | apply below_drew1 | refine below_set ?_ GE311.out | refine below_set ?_ GE319.out | refine below_set ?_ GE320.out) | exact HB.out)) hb); clear HO_7; clear HO_320000; clear HO_321000; clear BK311; clear BK319; clear BK320; clear HB; have HO_7 := n0_; have HO_320000 := n1_; have HO_321000 := n2_; have BK311 := n3_; have BK319 := n4_; have BK320 := n5_; have HB := n6_; clear n0_ n1_ n2_ n3_ n4_ n5_ n6_; (try clear hb); (try clear hb2); (try clear hk); (try clear hi)))
                      go_ret
                      exact ⟨by first | rfl | (simp [errW_none, errW_some] <;> rfl) | (simp [*, errW_none, errW_some] <;> rfl), by repeat (first | (with_reducible first | exact HB.out | apply below_alloc | apply pw_below_drewN | apply below_drew1 | refine below_set ?_ GE311.out | refine below_set ?_ GE319.out | refine below_set ?_ GE320.out) | exact HB.out)⟩
                  · rw [if_neg c64] at H
                    have c64b0 : (t337 == 0) = false := beq_eq_false_iff_ne.mpr c64
                    have c64b1 : (t337 != 0) = true := bne_iff_ne.mpr c64
                    obtain rfl := Option.some.inj H
                    have hnb168 := NB311_319.out
                    have hnc168 := NB319_311.out
                    have hnb169 := NB311_320.out
                    have hnc169 := NB320_311.out
                    have hcz170_0 : wr.cell? ⟨gb311, 0, none⟩ = some (.slice A0_0 l0_0.length c0_0) := (blk_cell BK311.out 0).trans rfl
                    have hfz170_0 := blk_frozen BK311.out 0
                    obtain ⟨Ao171, co171, eo171⟩ := Kd.R_slice HO_7.out
                    subst eo171
                    go_wp2_with (first | ((with_reducible refine gate_callee (f := 37) rfl ?_); refine goesL_ (some 109) rfl rfl Tryz.func37 (by kernel_rfl) rfl #[.slice Ao171 x7_2.length co171] rfl (by (try simp only [List.map_toArray, List.map_cons, List.map_nil]); first | done | rfl | (simp only [List.length_drop, List.length_take]; rfl)) ?_; (with_reducible refine (governor_IsStable.calls k2 _ _ x7_2 t336 t337 _ ?side1 ?side2 A61.out).mono ?_); (case side1 => repeat (first | exact (Kd.R_reads' HO_7.out).2.2 | (with_reducible refine Kd.C_alloc ?_ _) | (with_reducible refine Kd.C_drewN ?_ _) | (with_reducible refine Kd.C_drew ?_))); (case side2 => exact (Kd.R_reads' HO_7.out).2.1); rintro e w172 ⟨rfl, hb⟩; refine ⟨_, rfl, ?_⟩; have n0_ := Aside0.mk (Kd.R_below (by (with_reducible repeat (first | apply Kd.R_alloc | apply Kd.R_drewN | apply Kd.R_drew)); exact HO_7.out) hb); have n1_ := Aside0.mk (Kd.R_below (by (with_reducible repeat (first | apply Kd.R_alloc | apply Kd.R_drewN | apply Kd.R_drew)); exact HO_320000.out) hb); have n2_ := Aside0.mk (Kd.R_below (by (with_reducible repeat (first | apply Kd.R_alloc | apply Kd.R_drewN | apply Kd.R_drew)); exact HO_321000.out) hb); have n3_ := Aside0.mk (blk_below (g := gb311) (o := .cells #[.slice A0_0 l0_0.length c0_0] 42 (0, 0)) (by (with_reducible repeat (first | refine blk_drewN ?_ _ | refine blk_drew ?_ | refine blk_alloc ?_ _)); exact BK311.out) hb); have n4_ := Aside0.mk (blk_below (g := gb319) (o := .cells #[u320000] 42 (0, 0)) (by (with_reducible repeat (first | refine blk_drewN ?_ _ | refine blk_drew ?_ | refine blk_alloc ?_ _)); exact BK319.out) hb); have n5_ := Aside0.mk (blk_below (g := gb320) (o := .cells #[u321000] 42 (0, 0)) (by (with_reducible repeat (first | refine blk_drewN ?_ _ | refine blk_drew ?_ | refine blk_alloc ?_ _)); exact BK320.out) hb); have n6_ := Aside0.mk (below_step (by repeat (first | (with_reducible first | exact HB.out | apply below_alloc | apply pw_below_drewN | apply below_drew1 | refine below_set ?_ GE311.out | refine below_set ?_ GE319.out | refine below_set ?_ GE320.out) | exact HB.out)) hb); clear HO_7; clear HO_320000; clear HO_321000; clear BK311; clear BK319; clear BK320; clear HB; have HO_7 := n0_; have HO_320000 := n1_; have HO_321000 := n2_; have BK311 := n3_; have BK319 := n4_; have BK320 := n5_; have HB := n6_; clear n0_ n1_ n2_ n3_ n4_ n5_ n6_; (try clear hb); (try clear hb2); (try clear hk); (try clear hi); have hnb173 := NB319_320.out; have hnc173 := NB320_319.out; have hcz174_0 : w172.cell? ⟨gb319, 0, none⟩ = some (u320000) := (blk_cell BK319.out 0).trans rfl; have hfz174_0 := blk_frozen BK319.out 0; obtain ⟨Ao175, co175, eo175⟩ := Kd.R_slice HO_320000.out; subst eo175) | ((with_reducible refine gate_callee (f := 30) rfl ?_); refine goesL_ (some 114) rfl rfl Tryz.func30 (by kernel_rfl) rfl #[.agg #[.slice Ao175 x320000_2.length co175]] rfl (by (try simp only [List.map_toArray, List.map_cons, List.map_nil]); first | done | rfl | (simp only [List.length_drop, List.length_take]; rfl)) ?_; (with_reducible refine (governor_IsRobust.calls _ _ x320000_2 t338 t339 _ ?side1 ?side2 A62.out).mono ?_); (case side1 => repeat (first | exact (Kd.R_reads' HO_320000.out).2.2 | (with_reducible refine Kd.C_alloc ?_ _) | (with_reducible refine Kd.C_drewN ?_ _) | (with_reducible refine Kd.C_drew ?_))); (case side2 => exact (Kd.R_reads' HO_320000.out).2.1); rintro e w176 ⟨rfl, hb⟩; refine ⟨_, rfl, ?_⟩; have n0_ := Aside0.mk (Kd.R_below (by (with_reducible repeat (first | apply Kd.R_alloc | apply Kd.R_drewN | apply Kd.R_drew)); exact HO_7.out) hb); have n1_ := Aside0.mk (Kd.R_below (by (with_reducible repeat (first | apply Kd.R_alloc | apply Kd.R_drewN | apply Kd.R_drew)); exact HO_320000.out) hb); have n2_ := Aside0.mk (Kd.R_below (by (with_reducible repeat (first | apply Kd.R_alloc | apply Kd.R_drewN | apply Kd.R_drew)); exact HO_321000.out) hb); have n3_ := Aside0.mk (blk_below (g := gb311) (o := .cells #[.slice A0_0 l0_0.length c0_0] 42 (0, 0)) (by (with_reducible repeat (first | refine blk_drewN ?_ _ | refine blk_drew ?_ | refine blk_alloc ?_ _)); exact BK311.out) hb); have n4_ := Aside0.mk (blk_below (g := gb319) (o := .cells #[.slice Ao175 x320000_2.length co175] 42 (0, 0)) (by (with_reducible repeat (first | refine blk_drewN ?_ _ | refine blk_drew ?_ | refine blk_alloc ?_ _)); exact BK319.out) hb); have n5_ := Aside0.mk (blk_below (g := gb320) (o := .cells #[u321000] 42 (0, 0)) (by (with_reducible repeat (first | refine blk_drewN ?_ _ | refine blk_drew ?_ | refine blk_alloc ?_ _)); exact BK320.out) hb); have n6_ := Aside0.mk (below_step (by repeat (first | (with_reducible first | exact HB.out | apply below_alloc | apply pw_below_drewN | apply below_drew1 | refine below_set ?_ GE311.out | refine below_set ?_ GE319.out | refine below_set ?_ GE320.out) | exact HB.out)) hb); clear HO_7; clear HO_320000; clear HO_321000; clear BK311; clear BK319; clear BK320; clear HB; have HO_7 := n0_; have HO_320000 := n1_; have HO_321000 := n2_; have BK311 := n3_; have BK319 := n4_; have BK320 := n5_; have HB := n6_; clear n0_ n1_ n2_ n3_ n4_ n5_ n6_; (try clear hb); (try clear hb2); (try clear hk); (try clear hi); have hcz177_0 : w176.cell? ⟨gb320, 0, none⟩ = some (u321000) := (blk_cell BK320.out 0).trans rfl; have hfz177_0 := blk_frozen BK320.out 0; obtain ⟨Ao178, co178, eo178⟩ := Kd.R_slice HO_321000.out; subst eo178) | ((with_reducible refine gate_callee (f := 30) rfl ?_); refine goesL_ (some 119) rfl rfl Tryz.func30 (by kernel_rfl) rfl #[.agg #[.slice Ao178 x321000_2.length co178]] rfl (by (try simp only [List.map_toArray, List.map_cons, List.map_nil]); first | done | rfl | (simp only [List.length_drop, List.length_take]; rfl)) ?_; (with_reducible refine (governor_IsRobust.calls _ _ x321000_2 t340 t341 _ ?side1 ?side2 A63.out).mono ?_); (case side1 => repeat (first | exact (Kd.R_reads' HO_321000.out).2.2 | (with_reducible refine Kd.C_alloc ?_ _) | (with_reducible refine Kd.C_drewN ?_ _) | (with_reducible refine Kd.C_drew ?_))); (case side2 => exact (Kd.R_reads' HO_321000.out).2.1); rintro e w179 ⟨rfl, hb⟩; refine ⟨_, rfl, ?_⟩; have n0_ := Aside0.mk (Kd.R_below (by (with_reducible repeat (first | apply Kd.R_alloc | apply Kd.R_drewN | apply Kd.R_drew)); exact HO_7.out) hb); have n1_ := Aside0.mk (Kd.R_below (by (with_reducible repeat (first | apply Kd.R_alloc | apply Kd.R_drewN | apply Kd.R_drew)); exact HO_320000.out) hb); have n2_ := Aside0.mk (Kd.R_below (by (with_reducible repeat (first | apply Kd.R_alloc | apply Kd.R_drewN | apply Kd.R_drew)); exact HO_321000.out) hb); have n3_ := Aside0.mk (blk_below (g := gb311) (o := .cells #[.slice A0_0 l0_0.length c0_0] 42 (0, 0)) (by (with_reducible repeat (first | refine blk_drewN ?_ _ | refine blk_drew ?_ | refine blk_alloc ?_ _)); exact BK311.out) hb); have n4_ := Aside0.mk (blk_below (g := gb319) (o := .cells #[.slice Ao175 x320000_2.length co175] 42 (0, 0)) (by (with_reducible repeat (first | refine blk_drewN ?_ _ | refine blk_drew ?_ | refine blk_alloc ?_ _)); exact BK319.out) hb); have n5_ := Aside0.mk (blk_below (g := gb320) (o := .cells #[.slice Ao178 x321000_2.length co178] 42 (0, 0)) (by (with_reducible repeat (first | refine blk_drewN ?_ _ | refine blk_drew ?_ | refine blk_alloc ?_ _)); exact BK320.out) hb); have n6_ := Aside0.mk (below_step (by repeat (first | (with_reducible first | exact HB.out | apply below_alloc | apply pw_below_drewN | apply below_drew1 | refine below_set ?_ GE311.out | refine below_set ?_ GE319.out | refine below_set ?_ GE320.out) | exact HB.out)) hb); clear HO_7; clear HO_320000; clear HO_321000; clear BK311; clear BK319; clear BK320; clear HB; have HO_7 := n0_; have HO_320000 := n1_; have HO_321000 := n2_; have BK311 := n3_; have BK319 := n4_; have BK320 := n5_; have HB := n6_; clear n0_ n1_ n2_ n3_ n4_ n5_ n6_; (try clear hb); (try clear hb2); (try clear hk); (try clear hi)))
                    go_ret
                    exact ⟨by first | rfl | (simp [errW_none, errW_some] <;> rfl) | (simp [*, errW_none, errW_some] <;> rfl), by repeat (first | (with_reducible first | exact HB.out | apply below_alloc | apply pw_below_drewN | apply below_drew1 | refine below_set ?_ GE311.out | refine below_set ?_ GE319.out | refine below_set ?_ GE320.out) | exact HB.out)⟩
          · rw [if_neg c22] at H
            have c22b0 : (t318 == 0) = false := beq_eq_false_iff_ne.mpr c22
            have c22b1 : (t318 != 0) = true := bne_iff_ne.mpr c22
            obtain rfl := Option.some.inj H
            have hcz180_0 : wc.cell? ⟨gb311, 0, none⟩ = some (.slice A0_0 l0_0.length c0_0) := (blk_cell BK311.out 0).trans rfl
            have hfz180_0 := blk_frozen BK311.out 0
            go_wp2_with (first | ((with_reducible refine gate_callee (f := 28) rfl ?_); refine goesL_ (some 40) rfl rfl Tryz.func28 (by kernel_rfl) rfl #[.agg #[.slice A0_0 l0_0.length c0_0]] rfl (by (try simp only [List.map_toArray, List.map_cons, List.map_nil]); first | done | rfl | (simp only [List.length_drop, List.length_take]; rfl)) ?_; (with_reducible refine (guidevaneref06_CopyBox.calls _ _ l0_0 t314 _ ?side1 ?side2 A20.out).mono ?_); (case side1 => repeat (first | exact (Kd.C_below HR0_0.out HB.out) | (with_reducible refine Kd.C_alloc ?_ _) | (with_reducible refine Kd.C_drewN ?_ _) | (with_reducible refine Kd.C_drew ?_))); (case side2 => exact HC0_0.out); rintro e w181 ⟨v315, rfl, ho0, hb⟩; refine ⟨_, rfl, ?_⟩; have n0_ := Aside0.mk (Kd.R_lower ho0 (below_size (by repeat (first | (with_reducible first | exact HB.out | apply below_alloc | apply pw_below_drewN | apply below_drew1 | refine below_set ?_ GE311.out) | exact HB.out)))); have n1_ := Aside0.mk (blk_below (g := gb311) (o := .cells #[.slice A0_0 l0_0.length c0_0] 42 (0, 0)) (by (with_reducible repeat (first | refine blk_drewN ?_ _ | refine blk_drew ?_ | refine blk_alloc ?_ _)); exact BK311.out) hb); have n2_ := Aside0.mk (below_step (by repeat (first | (with_reducible first | exact HB.out | apply below_alloc | apply pw_below_drewN | apply below_drew1 | refine below_set ?_ GE311.out) | exact HB.out)) hb); clear BK311; clear HB; have HO316 := n0_; have BK311 := n1_; have HB := n2_; clear n0_ n1_ n2_; (try clear hb); (try clear hb2); (try clear hk); (try clear hi); (try clear ho0); obtain ⟨Ao182, co182, eo182⟩ := Kd.R_slice HO316.out; subst eo182) | ((with_reducible refine gate_callee (f := 30) rfl ?_); refine goesL_ (some 41) rfl rfl Tryz.func30 (by kernel_rfl) rfl #[.agg #[.slice Ao182 t314.length co182]] rfl (by (try simp only [List.map_toArray, List.map_cons, List.map_nil]); first | done | rfl | (simp only [List.length_drop, List.length_take]; rfl)) ?_; (with_reducible refine (governor_IsRobust.calls _ _ t314 t317 t318 _ ?side1 ?side2 A21.out).mono ?_); (case side1 => repeat (first | exact (Kd.R_reads' HO316.out).2.2 | (with_reducible refine Kd.C_alloc ?_ _) | (with_reducible refine Kd.C_drewN ?_ _) | (with_reducible refine Kd.C_drew ?_))); (case side2 => exact (Kd.R_reads' HO316.out).2.1); rintro e w183 ⟨rfl, hb⟩; refine ⟨_, rfl, ?_⟩; have n0_ := Aside0.mk (Kd.R_below (by (with_reducible repeat (first | apply Kd.R_alloc | apply Kd.R_drewN | apply Kd.R_drew)); exact HO316.out) hb); have n1_ := Aside0.mk (blk_below (g := gb311) (o := .cells #[.slice A0_0 l0_0.length c0_0] 42 (0, 0)) (by (with_reducible repeat (first | refine blk_drewN ?_ _ | refine blk_drew ?_ | refine blk_alloc ?_ _)); exact BK311.out) hb); have n2_ := Aside0.mk (below_step (by repeat (first | (with_reducible first | exact HB.out | apply below_alloc | apply pw_below_drewN | apply below_drew1 | refine below_set ?_ GE311.out) | exact HB.out)) hb); clear HO316; clear BK311; clear HB; have HO316 := n0_; have BK311 := n1_; have HB := n2_; clear n0_ n1_ n2_; (try clear hb); (try clear hb2); (try clear hk); (try clear hi)))
            go_ret
            exact ⟨by first | rfl | (simp [errW_none, errW_some] <;> rfl) | (simp [*, errW_none, errW_some] <;> rfl), by repeat (first | (with_reducible first | exact HB.out | apply below_alloc | apply pw_below_drewN | apply below_drew1 | refine below_set ?_ GE311.out) | exact HB.out)⟩
  · replace c4 := Bool.eq_false_iff.mpr c4
    subst c4
    have H1 : (some false) = some r := by rw [if_neg (show ¬ (false = true) by decide)] at H; exact H
    clear H
    have H := H1
    clear H1
    obtain rfl := Option.some.inj H
    go_enter Tryz.func5, Tryz.ntmps5
    go_wp2_with (first | ((with_reducible refine gate_dst (N := 2) rfl ?_); (try (refine gate_guard (by rfl) ?_; dsimp only)); refine box_event ?hg (N := 2) ?hd (cs := #[.slice A0_0 l0_0.length c0_0]) (t := 42) ?hr ?_; (case hd => rfl); (case hg => rfl); (case hr => first | (go_simp; done) | (go_simp; rfl)); intro gb311 hg w184 hbox hb; have n0_ := Aside0.mk (below_step (by repeat (first | (with_reducible first | exact HB.out | apply below_alloc | apply pw_below_drewN | apply below_drew1) | exact HB.out)) hb); have n1_ := Aside0.mk (hbox); have n2_ := Aside0.mk ((by rw [hg]; exact (below_size (by repeat (first | (with_reducible first | exact HB.out | apply below_alloc | apply pw_below_drewN | apply below_drew1) | exact HB.out))) : w.heap.size ≤ gb311)); have n3_ := Aside0.mk ((by rw [hg]; exact (below_size (by repeat (first | (with_reducible first | exact HB.out | apply below_alloc | apply pw_below_drewN | apply below_drew1) | exact HB.out))) : w.heap.size ≤ gb311)); clear HB; have HB := n0_; have BK311 := n1_; have GW311 := n2_; have GE311 := n3_; clear n0_ n1_ n2_ n3_; clear hb hbox hg) | ((with_reducible refine gate_callee (f := 16) rfl ?_); refine goesL_ (some 19) rfl rfl Tryz.func16 (by kernel_rfl) rfl #[] rfl (by (try simp only [List.map_toArray, List.map_cons, List.map_nil]); first | done | rfl | (simp only [List.length_drop, List.length_take]; rfl)) ?_; (with_reducible refine (guidevanelaw06_awake.calls  false _ A3.out).mono ?_); rintro e w185 ⟨rfl, hb⟩; refine ⟨_, rfl, ?_⟩; have n0_ := Aside0.mk (blk_below (g := gb311) (o := .cells #[.slice A0_0 l0_0.length c0_0] 42 (0, 0)) (by (with_reducible repeat (first | refine blk_drewN ?_ _ | refine blk_drew ?_ | refine blk_alloc ?_ _)); exact BK311.out) hb); have n1_ := Aside0.mk (below_step (by repeat (first | (with_reducible first | exact HB.out | apply below_alloc | apply pw_below_drewN | apply below_drew1 | refine below_set ?_ GE311.out) | exact HB.out)) hb); clear BK311; clear HB; have BK311 := n0_; have HB := n1_; clear n0_ n1_; (try clear hb); (try clear hb2); (try clear hk); (try clear hi)))
    go_ret
    exact ⟨by first | rfl | (simp [errW_none, errW_some] <;> rfl) | (simp [*, errW_none, errW_some] <;> rfl), by repeat (first | (with_reducible first | exact HB.out | apply below_alloc | apply pw_below_drewN | apply below_drew1 | refine below_set ?_ GE311.out) | exact HB.out)⟩
end Go.Proofs.YtmpondcccbmlhaaGreat.Q
namespace Go.Proofs.YtmpondcccbmlhaaGreat.Ext
open Go.RowKit Go.Proofs.YtmpondcccbmlhaaGreatW.PrintWords Go.Proofs.YtmpondcccbmlhaaGreatW.PrintLast Go.Proofs.YtmpondcccbmlhaaGreatW.PrintMore
open Q (S58 z58 k58)
theorem mod_eval (a m : Int) (h1 : 1 ≤ m) (h2 : m ≤ 1000000) : ∃ v, 0 ≤ v ∧ v < m ∧ Q.guidevanebase_Mod.f a m = some v := by
  unfold Q.guidevanebase_Mod.f
  rw [if_neg (by omega)]
  have h := Int.emod_nonneg a (show m ≠ 0 by omega)
  have h' := Int.emod_lt_of_pos a (show 0 < m by omega)
  have ht : -m < Int.tmod a m ∧ Int.tmod a m < m := by
    have h3 := Int.natAbs_tmod a m
    have h4 : a.natAbs % m.natAbs < m.natAbs := Nat.mod_lt _ (by omega)
    omega
  by_cases hn : Int.tmod a m < 0
  · rw [if_pos hn]
    exact ⟨Int.tmod a m + m, by omega, by omega, by rw [w64 (by omega) (by omega)]⟩
  · rw [if_neg hn]
    exact ⟨_, by omega, ht.2, rfl⟩
theorem polyErr_ok {l : List S58} {p : List Int} (h : BoxOk l) (hp : InBox l p) : Sp.polyErr p = 0 := by
  obtain ⟨h2, h5, ha, hl⟩ := h
  obtain ⟨hn, hi⟩ := hp
  unfold Sp.polyErr
  have hc : Sp.countErr p.length = 0 := by unfold Sp.countErr; rw [if_neg (by omega), if_neg (by omega)]
  have hk : ∀ q : List Int, (∀ x ∈ q, -1000 ≤ x ∧ x ≤ 1000) → Sp.coefsErr q = 0 := by
    intro q
    induction q with
    | nil => intro _; rfl
    | cons x xs ih =>
      intro hx
      have e : Sp.coefErr x = 0 := by unfold Sp.coefErr; rw [if_pos (hx x (by simp))]
      rw [coefsErr_ok e]
      exact ih (fun y hy => hx y (by simp [hy]))
  have hk' := hk p (fun x hx => by
    obtain ⟨i, hil, rfl⟩ := List.getElem_of_mem hx
    have h1 := hi i (by omega)
    have h3 := ha i (by omega)
    have e : ent p i = p[i] := by simp [ent, hil]
    rw [e] at h1
    omega)
  rw [if_pos hc, if_pos hk']
  have h0 := hi 0 (by omega)
  have e : p.headD 0 = ent p 0 := by cases p <;> simp [ent]
  rw [e, if_pos (by omega)]
theorem isStable_eval {l : List S58} {p : List Int} (h : BoxOk l) (hp : InBox l p) (k : Nat) (hk : 60000000000000010 < k) : Q.governor_IsStable.f k p = some (stab p, 0) := by
  unfold Q.governor_IsStable.f governor_CheckPolynomial.f
  rw [polyErr_ok h hp]
  simp only [Option.bind_some, if_true]
  rw [stable_eval (in_ok h hp).1 k hk]
  rfl
structure Made (b : List S58) (i : Nat) (p : List Int) (pt inn : List S58) : Prop where
  lp : p.length = i
  lt : pt.length = i
  li : inn.length = i
  at_ : ∀ j, j < i → (b.getD j z58).f0 ≤ ent p j ∧ ent p j ≤ (b.getD j z58).f1 ∧ pt.getD j z58 = ⟨ent p j, ent p j⟩ ∧
    (inn.getD j z58).f0 = ent p j ∧ ent p j ≤ (inn.getD j z58).f1 ∧ (inn.getD j z58).f1 ≤ (b.getD j z58).f1
theorem getD_snoc {α : Type} (l : List α) (x d : α) (j : Nat) : (l ++ [x]).getD j d = if j < l.length then l.getD j d else if j = l.length then x else d := by
  simp only [List.getD_eq_getElem?_getD]
  by_cases h : j < l.length
  · rw [if_pos h, List.getElem?_append_left h]
  · rw [if_neg h, List.getElem?_append_right (by omega)]
    by_cases h2 : j = l.length
    · subst h2; simp
    · rw [if_neg h2]
      have : j - l.length ≠ 0 := by omega
      simp [this]
theorem made_next {b : List S58} {i : Nat} {p : List Int} {pt inn : List S58} (h : Made b i p pt inn) {n m : Int} (h1 : (b.getD i z58).f0 ≤ n) (h2 : n ≤ m) (h3 : m ≤ (b.getD i z58).f1) :
    Made b (i + 1) (p ++ [n]) (pt ++ [⟨n, n⟩]) (inn ++ [⟨n, m⟩]) := by
  obtain ⟨lp, lt, li, ha⟩ := h
  refine ⟨by simp [lp], by simp [lt], by simp [li], fun j hj => ?_⟩
  unfold ent at ha ⊢
  rw [getD_snoc, getD_snoc, getD_snoc, lp, lt, li]
  by_cases hji : j < i
  · simp only [if_pos hji]; exact ha j hji
  · have : j = i := by omega
    subst this
    simp only [if_neg hji, if_true]
    exact ⟨h1, by omega, trivial, trivial, h2, h3⟩
theorem made_box {b : List S58} {p : List Int} {pt inn : List S58} (hb : BoxOk b) (h : Made b b.length p pt inn) :
    InBox b p ∧ BoxOk pt ∧ InBox pt p ∧ BoxOk inn ∧ InBox inn p ∧ (∀ c, InBox inn c → InBox b c) ∧ cornersOf pt = [p, p, p, p] := by
  obtain ⟨lp, lt, li, ha⟩ := h
  obtain ⟨h2, h5, hc, hl⟩ := hb
  have h0 := ha 0 (by omega)
  refine ⟨⟨lp, fun i hi => ⟨(ha i hi).1, (ha i hi).2.1⟩⟩, ⟨by omega, by omega, fun i hi => ?_, by rw [h0.2.2.1]; show 0 < ent p 0; omega⟩, ⟨by omega, fun i hi => ?_⟩, ⟨by omega, by omega, fun i hi => ?_, by omega⟩, ⟨by omega, fun i hi => ?_⟩, fun c hcc => ⟨by rw [hcc.len, li], fun i hi => ?_⟩, ?_⟩
  · have e := ha i (by omega); have := hc i (by omega); rw [e.2.2.1]; show -1000 ≤ ent p i ∧ ent p i ≤ ent p i ∧ ent p i ≤ 1000; omega
  · have e := ha i (by omega); rw [e.2.2.1]; show ent p i ≤ ent p i ∧ ent p i ≤ ent p i; omega
  · have e := ha i (by omega); have := hc i (by omega); omega
  · have e := ha i (by omega); omega
  · have e := ha i (by omega); have := hcc.at_ i (by omega); omega
  · have hco : ∀ pat, corner pat pt = p := by
      intro pat
      refine eq_of_ent (by simp [corner, lp, lt]) fun j hj => ?_
      have hj' : j < pt.length := by simpa [corner] using hj
      unfold corner
      rw [ent_map, if_pos hj']
      unfold cornerAt
      rw [(ha j (by omega)).2.2.1]
      simp
    simp [cornersOf, pats, hco]
theorem whole_loop (b : List S58) (x : List Int) (hb : BoxOk b) (h1 : 2 * b.length ≤ x.length) (_h2 : x.length ≤ 10) : ∀ (d k i : Nat) (p : List Int) (pt inn : List S58), b.length - i = d → i ≤ b.length → Made b i p pt inn → 60000000000000020 + d < k →
    Q.guidevanelaw06_GovernorWhole.l0 k x (robust b) p (i : Int) b pt inn = some true := by
  intro d
  have h5 := hb.len5
  induction d with
  | zero =>
    intro k i p pt inn hd hi hm hk
    obtain ⟨k, rfl⟩ : ∃ k', k = k' + 1 := ⟨k - 1, by omega⟩
    obtain rfl : i = b.length := by omega
    obtain ⟨m1, m2, m3, m4, m5, m6, m7⟩ := made_box hb hm
    rw [Q.guidevanelaw06_GovernorWhole.l0, if_neg (by omega), isStable_eval hb m1 k (by omega), isRobust_eval m2, isRobust_eval m4]
    simp only [Option.bind_some, if_true]
    have e1 : robust pt = stab p := by unfold robust; rw [m7]; simp
    have e2 : robust b = true → stab p = true := fun hr => robust_in hb hr m1
    have e3 : robust b = true → robust inn = true := fun hr => by
      unfold robust
      refine List.all_eq_true.2 fun c hc => ?_
      obtain ⟨pat, _, rfl⟩ := List.mem_map.1 hc
      exact robust_in hb hr (m6 _ (corner_in m4 pat))
    have e4 : robust inn = true → stab p = true := fun hr => robust_in m4 hr m5
    rw [e1]
    simp only [beq_self_eq_true, if_true]
    by_cases hr : robust b = true
    · simp [hr, e2 hr, e3 hr]
    · rw [if_neg hr]
      by_cases hi2 : robust inn = true
      · simp [hi2, e4 hi2]
      · rw [if_neg hi2]
  | succ d ih =>
    intro k i p pt inn hd hi hm hk
    obtain ⟨k, rfl⟩ : ∃ k', k = k' + 1 := ⟨k - 1, by omega⟩
    have hil : i < b.length := by omega
    have hr := hb.at_ i hil
    obtain ⟨lp, lt, li, _⟩ := id hm
    rw [Q.guidevanelaw06_GovernorWhole.l0, if_pos (by omega), if_pos (by omega), if_pos (by omega), rdBox_nat]
    generalize hg : b.getD i z58 = r at hr
    rw [w64 (n := r.f1 - r.f0) (by omega) (by omega), w64 (n := r.f1 - r.f0 + 1) (by omega) (by omega)]
    obtain ⟨v, v0, v1, hv⟩ := mod_eval (rd x (i : Int)) (r.f1 - r.f0 + 1) (by omega) (by omega)
    rw [hv]
    simp only [Option.bind_some]
    rw [w64 (n := r.f0 + v) (by omega) (by omega), if_pos (by omega), if_pos (by omega), w64 (n := (b.length : Int) + (i : Int)) (by omega) (by omega), if_pos (by omega), if_pos (by omega), w64 (n := r.f1 - (r.f0 + v)) (by omega) (by omega), w64 (n := r.f1 - (r.f0 + v) + 1) (by omega) (by omega)]
    obtain ⟨u, u0, u1, hu⟩ := mod_eval (rd x ((b.length : Int) + (i : Int))) (r.f1 - (r.f0 + v) + 1) (by omega) (by omega)
    rw [hu]
    simp only [Option.bind_some]
    rw [if_pos (by omega), w64 (n := (i : Int) + 1) (by omega) (by omega), w64 (n := r.f0 + v + u) (by omega) (by omega)]
    have := ih k (i + 1) (p ++ [r.f0 + v]) (pt ++ [⟨r.f0 + v, r.f0 + v⟩]) (inn ++ [⟨r.f0 + v, r.f0 + v + u⟩]) (by omega) (by omega) (made_next hm (by rw [hg]; omega) (by omega) (by rw [hg]; omega)) (by omega)
    rw [show ((i + 1 : Nat) : Int) = (i : Int) + 1 by omega] at this
    exact this
theorem pure_whole (b : List S58) (x : List Int) (k : Nat) (hk : 60000000000000100 < k) : Q.guidevanelaw06_GovernorWhole.f k b x = some true := by
  unfold Q.guidevanelaw06_GovernorWhole.f guidevanelaw06_awake.f
  simp only [Option.bind_some, if_true]
  rw [rboxErr_eval b k (by omega)]
  simp only [Option.bind_some]
  have hj : ∀ c : Bool, (c = false → (boxErr b).2 = 0 ∧ 2 * b.length ≤ x.length ∧ x.length ≤ 10) → Q.guidevanelaw06_GovernorWhole.j0 k x c b = some true := by
    intro c hc
    obtain ⟨k, rfl⟩ : ∃ k', k = k' + 1 := ⟨k - 1, by omega⟩
    rw [Q.guidevanelaw06_GovernorWhole.j0]
    cases c with
    | true => rfl
    | false =>
      obtain ⟨h0, h1, h2⟩ := hc rfl
      have hb := box_of h0
      have h5 := hb.len5
      rw [if_neg (by decide), copyBox_eval b (by omega)]
      simp only [Option.bind_some]
      rw [isRobust_eval hb]
      simp only [Option.bind_some, if_true]
      exact whole_loop b x hb h1 h2 b.length k 0 [] [] [] (by omega) (by omega) ⟨rfl, rfl, rfl, fun j hj => by omega⟩ (by omega)
  by_cases h0 : (boxErr b).2 = 0
  · have hb5 := (box_of h0).len5
    rw [if_pos h0, w64 (by omega) (by omega)]
    by_cases h1 : (x.length : Int) < 2 * (b.length : Int)
    · rw [if_pos h1]
      exact hj true (fun h => by cases h)
    · rw [if_neg h1]
      exact hj _ (fun h => by rw [decide_eq_false_iff_not] at h; exact ⟨h0, by omega, by omega⟩)
  · rw [if_neg h0]
    exact hj true (fun h => by cases h)
end Go.Proofs.YtmpondcccbmlhaaGreat.Ext
