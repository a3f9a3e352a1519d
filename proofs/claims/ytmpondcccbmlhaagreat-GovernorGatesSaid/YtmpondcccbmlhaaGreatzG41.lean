/- A part of the claim G: the texts ExW, Q29, PuGates, without what the claim does not lean on. -/
import Derived.ArgAppend
import Derived.Below
import Derived.BigQuiet
import Derived.Deep.AppendLies
import Derived.Deep.CutBlock
import Derived.Deep.DeepCutAuto
import Derived.Deep.Draws
import Derived.Deep.LoopGhost
import Derived.Deep.OwnRows
import Derived.Deep.QuietTactic
import Derived.Deep.RegionHeld3
import Derived.Deep.RegionWith
import Derived.Deep.WholeRow
import Derived.Ground.SlsfProg
import Derived.KernelRfl
import Derived.Laws.BitsLemmas
import Derived.Laws.BytesArg
import Derived.Laws.ComplexArith
import Derived.Laws.IdiomCopy
import Derived.Laws.MakeOwn
import Derived.Laws.OwnMore
import Derived.Laws.Rows
import Derived.Laws.Slices
import Derived.Laws.StructEq
import Derived.Lib.AppendStr
import Derived.Lib.ConvBytes
import Derived.Lib.Hide
import Derived.Lib.LazyBuf
import Derived.LoopIn
import Derived.LoopNIn
import Derived.Maps.AppendAt
import Derived.OrdersHeld
import Derived.Outline
import Derived.OwnWalk
import Derived.OwnWalkIn
import Derived.RangeFuncBound
import Derived.RangeFuncCalls
import Derived.RangeFuncLeaves
import Derived.RangeFuncNested
import Derived.RowKit
import Derived.RowKit3
import Derived.Shelf.Abstract
import Derived.Shelf.RegionOpen
import Derived.Shelf.SlSortCmp.HeapSort1
import Derived.Shelf.SlSortCmp.Insertion
import Derived.Shelf.SlSortCmp.Insertion1
import Derived.Shelf.SlSortCmp.Median1
import Derived.Shelf.SlSortCmp.PartialInsertion1
import Derived.Shelf.SlSortCmp.Partition1
import Derived.Shelf.SlSortCmp.PartitionEqual1
import Derived.Shelf.SlSortCmp.Pdq1
import Derived.Shelf.SlSortCmp.Pivot1
import Derived.Shelf.SlSortCmp.ReverseRange1
import Derived.Shelf.SlSortCmp.SiftDown1
import Derived.Shelf.SlSortCmp.Whole1
import Derived.Shelf.Slices.Empties2
import Derived.Shelf.Slices.Equal
import Derived.Shelf.Slices.In.SortNone
import Derived.Shelf.Small.Bits
import Derived.Shelf.Sort.Plain
import Derived.Shelf.Strconv.Itoa0
import Derived.Sort.CutIn
import Derived.Tactics
import Derived.TacticsInMore
import Derived.WalkKit
import Derived.WalkLawsBesides
import Derived.WideLaws
import Derived.Test.YtmpondcccbmlhaaGreatProg
import Derived.Test.YtmpondcccbmlhaaGreatzG0
import Derived.Test.YtmpondcccbmlhaaGreatzG1
import Derived.Test.YtmpondcccbmlhaaGreatzG2
import Derived.Test.YtmpondcccbmlhaaGreatzG3
import Derived.Test.YtmpondcccbmlhaaGreatzG4
import Derived.Test.YtmpondcccbmlhaaGreatzG5
import Derived.Test.YtmpondcccbmlhaaGreatzG6
import Derived.Test.YtmpondcccbmlhaaGreatzG7
import Derived.Test.YtmpondcccbmlhaaGreatzG8
import Derived.Test.YtmpondcccbmlhaaGreatzG9
import Derived.Test.YtmpondcccbmlhaaGreatzG10
import Derived.Test.YtmpondcccbmlhaaGreatzG11
import Derived.Test.YtmpondcccbmlhaaGreatzG12
import Derived.Test.YtmpondcccbmlhaaGreatzG13
import Derived.Test.YtmpondcccbmlhaaGreatzG14
import Derived.Test.YtmpondcccbmlhaaGreatzG15
import Derived.Test.YtmpondcccbmlhaaGreatzG16
import Derived.Test.YtmpondcccbmlhaaGreatzG17
import Derived.Test.YtmpondcccbmlhaaGreatzG18
import Derived.Test.YtmpondcccbmlhaaGreatzG19
import Derived.Test.YtmpondcccbmlhaaGreatzG20
import Derived.Test.YtmpondcccbmlhaaGreatzG21
import Derived.Test.YtmpondcccbmlhaaGreatzG22
import Derived.Test.YtmpondcccbmlhaaGreatzG23
import Derived.Test.YtmpondcccbmlhaaGreatzG24
import Derived.Test.YtmpondcccbmlhaaGreatzG25
import Derived.Test.YtmpondcccbmlhaaGreatzG26
import Derived.Test.YtmpondcccbmlhaaGreatzG27
import Derived.Test.YtmpondcccbmlhaaGreatzG28
import Derived.Test.YtmpondcccbmlhaaGreatzG29
import Derived.Test.YtmpondcccbmlhaaGreatzG30
import Derived.Test.YtmpondcccbmlhaaGreatzG31
import Derived.Test.YtmpondcccbmlhaaGreatzG32
import Derived.Test.YtmpondcccbmlhaaGreatzG33
import Derived.Test.YtmpondcccbmlhaaGreatzG34
import Derived.Test.YtmpondcccbmlhaaGreatzG35
import Derived.Test.YtmpondcccbmlhaaGreatzG36
import Derived.Test.YtmpondcccbmlhaaGreatzG37
import Derived.Test.YtmpondcccbmlhaaGreatzG38
import Derived.Test.YtmpondcccbmlhaaGreatzG39
import Derived.Test.YtmpondcccbmlhaaGreatzG40
namespace Go.Proofs.YtmpondcccbmlhaaGreat.Ext
open Go.RowKit Go.Shelf Go.Proofs.YtmpondcccbmlhaaGreatW.PrintWords Go.Proofs.YtmpondcccbmlhaaGreatW.PrintLast Go.Proofs.YtmpondcccbmlhaaGreatW.PrintMore
open Q (S58 z58 k58)
theorem stab4 (a b c d : Int) (ha : 0 < a) : stab [a, b, c, d] = decide (0 < b ∧ 0 < d ∧ 0 < b * c - a * d) := by
  unfold stab
  rw [decide_eq_decide]; exact hur4 a b c d ha
theorem K0_big : 60000000000000010 < K0 := by unfold K0; omega
theorem ok_of {p : List Int} (h2 : 2 ≤ p.length) (h5 : p.length ≤ 5) (hb : ∀ i, i < p.length → (ent p i).natAbs ≤ 1000) : PolyOk p :=
  ⟨h2, h5, fun i => by
    by_cases h : i < p.length
    · exact hb i h
    · rw [ent_over (by omega)]; decide⟩
theorem ex_stable (a b c d : Int) (ha : 0 < a) (h1 : a ≤ 10) (h2 : b.natAbs ≤ 10) (h3 : c.natAbs ≤ 10) (h4 : d.natAbs ≤ 10) : Q.governor_isStable.f K0 [a, b, c, d] = some (decide (0 < b ∧ 0 < d ∧ 0 < b * c - a * d)) := by
  rw [stable_eval (ok_of (by simp) (by simp) (fun i hi => ?_)) K0 K0_big, stab4 a b c d ha]
  simp at hi
  obtain rfl | rfl | rfl | rfl : i = 0 ∨ i = 1 ∨ i = 2 ∨ i = 3 := by omega
  · show a.natAbs ≤ 1000; omega
  · show b.natAbs ≤ 1000; omega
  · show c.natAbs ≤ 1000; omega
  · show d.natAbs ≤ 1000; omega
theorem ex_wanted : Q.governor_WantedFor.f 10 2 1 2 50 7 = some (48, 0) := by decide +kernel
theorem ex_quads : governor_QuadrantsOf.f [1, 2, 3, 1] [0, 1, 2, 3] = some ([0, 1, 2, 2], 0) := by decide +kernel
theorem ex_robust : governor_IsRobust.f [⟨1, 1⟩, ⟨2, 3⟩, ⟨3, 4⟩, ⟨1, 2⟩] = some (true, 0) := by
  unfold governor_IsRobust.f
  rw [if_pos (by decide +kernel)]
  have e : cornersOf [⟨1, 1⟩, ⟨2, 3⟩, ⟨3, 4⟩, ⟨1, 2⟩] = [[1, 3, 3, 1], [1, 2, 4, 2], [1, 2, 3, 2], [1, 3, 4, 1]] := by decide +kernel
  rw [e]
  simp only [allStable]
  rw [ex_stable 1 3 3 1 (by omega) (by omega) (by decide) (by decide) (by decide), ex_stable 1 2 4 2 (by omega) (by omega) (by decide) (by decide) (by decide), ex_stable 1 2 3 2 (by omega) (by omega) (by decide) (by decide) (by decide), ex_stable 1 3 4 1 (by omega) (by omega) (by decide) (by decide) (by decide)]
  decide
theorem ex_unstable : governor_UnstableSet.f [1, 1, 2, 1] [[0, 0, 0, 2]] = some ([0], 0) := by
  unfold governor_UnstableSet.f
  rw [if_pos (by decide +kernel), show setsTo [[(0 : Int), 0, 0, 2]].length ([[(0 : Int), 0, 0, 2]].length + 1) = [[], [0]] from by decide +kernel]
  simp only [firstUnstable]
  rw [show sumTo [1, 1, 2, 1] [[0, 0, 0, 2]] [] ([] : List Int).length = [1, 1, 2, 1] from rfl, show sumTo [1, 1, 2, 1] [[0, 0, 0, 2]] [0] [(0 : Int)].length = [1, 1, 2, 3] from by decide +kernel]
  rw [ex_stable 1 1 2 1 (by omega) (by omega) (by decide) (by decide) (by decide), ex_stable 1 1 2 3 (by omega) (by omega) (by decide) (by decide) (by decide)]
  decide
def exV (i : Nat) : Int := if i = 0 then 100 else if i = 1 then 103 else 200
def exM (_ : Nat) : Bool := false
theorem srt3 (a b c : Int) : (srt [a, b, c]).getD 1 0 = max (min a b) (min (max a b) c) := by
  unfold srt
  simp [List.mergeSort, List.MergeSort.Internal.splitInTwo, List.merge]
  by_cases h1 : a ≤ b <;> by_cases h2 : a ≤ c <;> by_cases h3 : b ≤ c <;> simp [h1, h2, h3] <;> omega
theorem ex_vote : (voteOf exV exM 5).1 = 103 ∧ (voteOf exV exM 5).2.1 0 = false ∧ (voteOf exV exM 5).2.1 1 = false ∧ (voteOf exV exM 5).2.1 2 = true ∧ (voteOf exV exM 5).2.2 = 0 := by
  have e1 : voteErr exV exM 5 = 0 := by decide +kernel
  have e2 : thereTo exV exM 3 = [100, 103, 200] := by decide +kernel
  have e3 : (srt [100, 103, 200]).getD 1 0 = 103 := by rw [srt3]; decide
  have e4 : ¬ 1 < oddTo exV 103 5 3 := by decide +kernel
  unfold voteOf
  rw [if_pos e1, e2, if_neg (by decide), e3, if_neg e4]
  decide +kernel
theorem ex_ints4 : Q.guidevanebase_Ints.f 10 [0, 1, 2, 2] [0, 1, 2, 2] = some true := by decide +kernel
theorem ex_ints1 : Q.guidevanebase_Ints.f 10 [0] [0] = some true := by decide +kernel
set_option maxHeartbeats 8000000 in
set_option maxRecDepth 100000 in
theorem awake_walk (w : World) : Calls Tryz.prog 16 #[] w fun e w' => e = .returned (.bool true) ∧ Below w.heap.size w w' := by
  go_enter Tryz.func16, Tryz.ntmps16
  go_wp2_with fail
  refine (Q.guidevanelaw06_Rules.calls 2 1 2 50 _ rfl).mono ?_
  rintro e w1 ⟨rfl, hb1⟩
  have HB1 := Lib.hid hb1
  clear hb1
  go_wp2_with fail
  refine (Q.governor_WantedFor.calls 10 2 1 2 50 7 48 0 _ ex_wanted).mono ?_
  rintro e w2 ⟨rfl, hb2⟩
  have HB2 := Lib.hid (bl_next HB1.out hb2)
  clear hb2
  go_upto_region 2 with fail
  go_wp2_with fail
  have hl2 : Below w2.heap.size w2 ((w2.alloc (Obj.cells #[Value.int IntKind.i64 1, Value.int IntKind.i64 2, Value.int IntKind.i64 3, Value.int IntKind.i64 1] 3)).alloc (Obj.cells #[Value.int IntKind.i64 0, Value.int IntKind.i64 1, Value.int IntKind.i64 2, Value.int IntKind.i64 3] 3)) := bl_alloc (bl_alloc (Below.refl _ _) _) _
  have hC1 := Kd.C_alloc (C_new w2 3 [1, 2, 3, 1] (by simp)) (Obj.cells #[Value.int IntKind.i64 0, Value.int IntKind.i64 1, Value.int IntKind.i64 2, Value.int IntKind.i64 3] 3)
  have hC2 := C_new (w2.alloc (Obj.cells #[Value.int IntKind.i64 1, Value.int IntKind.i64 2, Value.int IntKind.i64 3, Value.int IntKind.i64 1] 3)) 3 [0, 1, 2, 3] (by simp)
  rw [World.size_alloc] at hC2
  refine (governor_QuadrantsOf.calls _ 4 [1, 2, 3, 1] _ 4 [0, 1, 2, 3] [0, 1, 2, 2] 0 _ hC1 (by simp) hC2 (by simp) ex_quads).mono ?_
  rintro e w3 ⟨v3, rfl, hR3, hb3⟩
  obtain ⟨A3, c3, rfl, hl3, hC3⟩ := Kd.R_reads hR3
  have HC3 := Lib.hid hC3
  have HB3 := Lib.hid (bl_next (bl_next HB2.out hl2) hb3)
  clear hl2 hC1 hC2 hR3 hC3 hb3
  go_wp2_with fail
  refine (Q.guidevanelaw06_Box.calls [⟨1, 1⟩, ⟨2, 3⟩, ⟨3, 4⟩, ⟨1, 2⟩] _ rfl).mono ?_
  rintro e w4 ⟨v4, rfl, hR4, hb4⟩
  obtain ⟨A4, c4, rfl, hl4, hC4⟩ := Kd.R_reads hR4
  have HC4 := Lib.hid hC4
  have HB4 := Lib.hid (bl_next HB3.out hb4)
  have HC3 := Lib.hid (Kd.C_below HC3.out hb4)
  clear hR4 hC4 hb4
  go_wp2_with fail
  refine (governor_IsRobust.calls A4 c4 [⟨1, 1⟩, ⟨2, 3⟩, ⟨3, 4⟩, ⟨1, 2⟩] true 0 _ HC4.out hl4 ex_robust).mono ?_
  rintro e w5 ⟨rfl, hb5⟩
  have HB5 := Lib.hid (bl_next HB4.out hb5)
  have HC3 := Lib.hid (Kd.C_below HC3.out hb5)
  clear hb5
  go_wp2_with fail
  refine (Q.guidevanelaw06_Loop.calls [1, 1, 2, 1] [[0, 0, 0, 2]] _ rfl).mono ?_
  rintro e w6 ⟨v6, u6, rfl, hR6, hN6, hb6⟩
  obtain ⟨A6, c6, rfl, hl6, hC6⟩ := Kd.R_reads hR6
  obtain ⟨A7, c7, rfl, hl7, hC7⟩ := Kd.N_reads hN6
  have HC6 := Lib.hid hC6
  have HC7 := Lib.hid hC7
  have HB6 := Lib.hid (bl_next HB5.out hb6)
  have HC3 := Lib.hid (Kd.C_below HC3.out hb6)
  clear hR6 hN6 hC6 hC7 hb6
  go_wp2_with fail
  refine (governor_UnstableSet.calls A6 c6 [1, 1, 2, 1] A7 c7 [[0, 0, 0, 2]] [0] 0 _ HC6.out hl6 HC7.out hl7 ex_unstable).mono ?_
  rintro e w7 ⟨v7, rfl, hR7, hb7⟩
  obtain ⟨A8, c8, rfl, hl8, hC8⟩ := Kd.R_reads hR7
  have HC8 := Lib.hid hC8
  have HB7 := Lib.hid (bl_next HB6.out hb7)
  have HC3 := Lib.hid (Kd.C_below HC3.out hb7)
  clear hR7 hC8 hb7
  go_wp2_with fail
  have hv := governor_VoteOf.calls exV exM 5 w7
  obtain ⟨x0, x1, x2, x3, x4⟩ := ex_vote
  rw [x0, x1, x2, x3, x4] at hv
  refine hv.mono ?_
  clear hv x0 x1 x2 x3 x4
  rintro e w8 ⟨rfl, hb8⟩
  have HB8 := Lib.hid (bl_next HB7.out hb8)
  have HC3 := Lib.hid (Kd.C_below HC3.out hb8)
  have HC8 := Lib.hid (Kd.C_below HC8.out hb8)
  clear hb8
  go_wp2_with fail
  have hnew := blk_new w8 (Obj.cells #[Value.int IntKind.i64 103, Value.bool false, Value.bool false, Value.bool true] 112)
  have hb9 : Below w8.heap.size w8 (w8.alloc (Obj.cells #[Value.int IntKind.i64 103, Value.bool false, Value.bool false, Value.bool true] 112)) := bl_alloc (Below.refl _ _) _
  have hC4 := C_new (w8.alloc (Obj.cells #[Value.int IntKind.i64 103, Value.bool false, Value.bool false, Value.bool true] 112)) 3 [0, 1, 2, 2] (by simp)
  rw [World.size_alloc] at hC4
  have hb10 : Below w8.heap.size w8 ((w8.alloc (Obj.cells #[Value.int IntKind.i64 103, Value.bool false, Value.bool false, Value.bool true] 112)).alloc (Obj.cells #[Value.int IntKind.i64 0, Value.int IntKind.i64 1, Value.int IntKind.i64 2, Value.int IntKind.i64 2] 3)) := bl_alloc hb9 _
  refine (Q.guidevanebase_Ints.calls 10 A3 c3 [0, 1, 2, 2] _ 4 [0, 1, 2, 2] true _ (Kd.C_below HC3.out hb10) hl3 hC4 (by simp) ex_ints4).mono ?_
  rintro e w9 ⟨rfl, hd9⟩
  have hb11 := bl_drawn hb10 hd9
  have hn9 := (bl_drawn (bl_alloc (Below.refl _ (w8.alloc (Obj.cells #[Value.int IntKind.i64 103, Value.bool false, Value.bool false, Value.bool true] 112))) _) hd9).block _ (Array.getElem?_eq_some_iff.1 hnew).1
  have hnew9 := hn9.trans hnew
  have HB9 := Lib.hid (bl_next HB8.out hb11)
  have HC8 := Lib.hid (Kd.C_below HC8.out hb11)
  have HN9 := Lib.hid hnew9
  have x0 := (blk_cell hnew9 0).trans (rfl : _ = some (Value.int .i64 103))
  have x1 := (blk_cell hnew9 1).trans (rfl : _ = some (Value.bool false))
  have x2 := (blk_cell hnew9 2).trans (rfl : _ = some (Value.bool false))
  have x3 := (blk_cell hnew9 3).trans (rfl : _ = some (Value.bool true))
  clear hnew hb9 hC4 hb10 hd9 hb11 hn9 hnew9 HC3
  have hlt8 : w8.heap.size < w9.heap.size := block_lt_of_cell x0
  generalize w8.heap.size = b8 at *
  go_wp2_with fail
  have hC5 := C_new w9 3 [0] (by simp)
  have hb12 : Below w9.heap.size w9 (w9.alloc (Obj.cells #[Value.int IntKind.i64 0] 3)) := bl_alloc (Below.refl _ _) _
  refine (Q.guidevanebase_Ints.calls 10 A8 c8 [0] _ 1 [0] true _ (Kd.C_below HC8.out hb12) hl8 hC5 (by simp) ex_ints1).mono ?_
  rintro e w10 ⟨rfl, hd10⟩
  have hb13 := bl_drawn hb12 hd10
  have HB10 := Lib.hid (bl_next HB9.out hb13)
  have x0 := pw_cell_below hb13 x0
  have x1 := pw_cell_below hb13 x1
  have x2 := pw_cell_below hb13 x2
  have x3 := pw_cell_below hb13 x3
  clear hC5 hb12 hd10 hb13 HC8 hlt8
  have heq := fun w => eq_odd 9997 w false false true false false true
  simp only [Nat.reduceAdd] at heq
  go_wp2_with fail
  go_ret
  exact ⟨rfl, HB10.out⟩
def guidevanelaw06_awake.f : Option Bool := some true
theorem guidevanelaw06_awake.calls (r : Bool) (w : World) (h : guidevanelaw06_awake.f = some r) : Calls Tryz.prog 16 #[] w fun e w' => e = .returned (.bool r) ∧ Below w.heap.size w w' := by
  obtain rfl := Option.some.inj h
  exact awake_walk w
end Go.Proofs.YtmpondcccbmlhaaGreat.Ext
namespace Go.Proofs.YtmpondcccbmlhaaGreat.Q
open Go.RowKit Go.Proofs.YtmpondcccbmlhaaGreatW.PrintWords Go.Proofs.YtmpondcccbmlhaaGreatW.PrintLast Go.Proofs.YtmpondcccbmlhaaGreatW.PrintMore
attribute [local go_sem] max2_int min2_int max_two min_two max_three min_three max_four min_four   
set_option linter.unusedVariables false
set_option linter.unusedSimpArgs false
open Go.Proofs.YtmpondcccbmlhaaGreat.Ext
attribute [local go_sem high] eqA75
mutual
def guidevanelaw06_GovernorGates.j0 : Nat → Int → Int → Int → Int → Int → Int → Int → Int → Bool → Int → Int → Int → Int → Int → Int → Int → Int → Int → Int → Int → Int → Option (Bool)
  | 0, _, _, _, _, _, _, _, _, _, _, _, _, _, _, _, _, _, _, _, _, _ => none
  | k + 1, x2, x7, x8, x10, x11, x12, x13, x14, x48, x519000, x519001, x519002, x519003, x520000, x520001, x520002, x520003, x529000, x529001, x529002, x529003 => if x48 = true then (some false) else (if x14 = 0 then ((guidevaneref06_SpeedErr.f x2).bind fun t535 => (guidevanelaw06_GovernorGates.j1 k x2 x7 x8 x10 x11 x12 x13 t535 x519000 x519001 x519002 x519003 x520000 x520001 x520002 x520003 x529000 x529001 x529002 x529003)) else (guidevanelaw06_GovernorGates.j1 k x2 x7 x8 x10 x11 x12 x13 x14 x519000 x519001 x519002 x519003 x520000 x520001 x520002 x520003 x529000 x529001 x529002 x529003))
def guidevanelaw06_GovernorGates.j1 : Nat → Int → Int → Int → Int → Int → Int → Int → Int → Int → Int → Int → Int → Int → Int → Int → Int → Int → Int → Int → Int → Option (Bool)
  | 0, _, _, _, _, _, _, _, _, _, _, _, _, _, _, _, _, _, _, _, _ => none
  | k + 1, x2, x7, x8, x10, x11, x12, x13, x14, x519000, x519001, x519002, x519003, x520000, x520001, x520002, x520003, x529000, x529001, x529002, x529003 => if x14 = 0 then (if x8 = 0 then ((guidevaneref06_Wanted.f x520000 x520001 x520002 x520003 x2).bind fun t536 => (guidevanelaw06_GovernorGates.j2 k x2 x10 x11 x12 x13 (x7 != t536) x519000 x519001 x519002 x519003 x529000 x529001 x529002 x529003)) else (guidevanelaw06_GovernorGates.j2 k x2 x10 x11 x12 x13 true x519000 x519001 x519002 x519003 x529000 x529001 x529002 x529003)) else (if x8 = x14 then (if x7 = 0 then (guidevanelaw06_GovernorGates.j2 k x2 x10 x11 x12 x13 false x519000 x519001 x519002 x519003 x529000 x529001 x529002 x529003) else (guidevanelaw06_GovernorGates.j2 k x2 x10 x11 x12 x13 true x519000 x519001 x519002 x519003 x529000 x529001 x529002 x529003)) else (guidevanelaw06_GovernorGates.j2 k x2 x10 x11 x12 x13 true x519000 x519001 x519002 x519003 x529000 x529001 x529002 x529003))
def guidevanelaw06_GovernorGates.j2 : Nat → Int → Int → Int → Int → Int → Bool → Int → Int → Int → Int → Int → Int → Int → Int → Option (Bool)
  | 0, _, _, _, _, _, _, _, _, _, _, _, _, _, _ => none
  | k + 1, x2, x10, x11, x12, x13, x78, x519000, x519001, x519002, x519003, x529000, x529001, x529002, x529003 => if x78 = true then (some false) else (if x13 = 0 then ((guidevaneref06_SpeedErr.f x2).bind fun t537 => (guidevanelaw06_GovernorGates.j3 k x2 x10 x11 x12 t537 x519000 x519001 x519002 x519003 x529000 x529001 x529002 x529003)) else (guidevanelaw06_GovernorGates.j3 k x2 x10 x11 x12 x13 x519000 x519001 x519002 x519003 x529000 x529001 x529002 x529003))
def guidevanelaw06_GovernorGates.j3 : Nat → Int → Int → Int → Int → Int → Int → Int → Int → Int → Int → Int → Int → Int → Option (Bool)
  | 0, _, _, _, _, _, _, _, _, _, _, _, _, _ => none
  | k + 1, x2, x10, x11, x12, x13, x519000, x519001, x519002, x519003, x529000, x529001, x529002, x529003 => if x13 = 0 then (if x10 = 0 then ((guidevaneref06_Step.f x519000 x519001 x519002 x519003 x2).bind fun bt538 => (if (x529000 == bt538.1 && (x529001 == bt538.2.1 && (x529002 == bt538.2.2.1 && (x529003 == bt538.2.2.2)))) = true then (if x12 = 0 then ((guidevaneref06_Ticks.f k x519000 x519001 x519002 x519003 x2).bind fun t542 => (some (x11 == t542))) else (some false)) else (some false))) else (some false)) else (if x10 = x13 then (if x12 = x13 then (if (x529000 == 0 && (x529001 == 0 && (x529002 == 0 && (x529003 == 0)))) = true then (some (x11 == 0)) else (some false)) else (some false)) else (some false))
end
def guidevanelaw06_GovernorGates.f (k : Nat) (a0_0 : Int) (a0_1 : Int) (a0_2 : Int) (a0_3 : Int) (a1_0 : Int) (a1_1 : Int) (a1_2 : Int) (a1_3 : Int) (a2 : Int) : Option (Bool) := (guidevanelaw06_awake.f).bind fun t520 => (if t520 = true then ((governor_WantedFor.f k a1_0 a1_1 a1_2 a1_3 a2).bind fun bt521 => ((governor_GateStep.f a0_0 a0_1 a0_2 a0_3 a2).bind fun bt523 => ((governor_TicksTo.f k a0_0 a0_1 a0_2 a0_3 a2).bind fun bt529 => ((guidevaneref06_GateErr.f k a0_0 a0_1 a0_2 a0_3).bind fun t531 => ((guidevaneref06_RulesErr.f a1_0 a1_1 a1_2 a1_3).bind fun t532 => ((governor_CheckGate.f k a0_0 a0_1 a0_2 a0_3).bind fun t533 => (if t533 = t531 then ((governor_CheckRules.f a1_0 a1_1 a1_2 a1_3).bind fun t534 => (guidevanelaw06_GovernorGates.j0 k a2 bt521.1 bt521.2 bt523.2.2.2.2 bt529.1 bt529.2 t531 t532 (t534 != t532) a0_0 a0_1 a0_2 a0_3 a1_0 a1_1 a1_2 a1_3 bt523.1 bt523.2.1 bt523.2.2.1 bt523.2.2.2.1)) else (guidevanelaw06_GovernorGates.j0 k a2 bt521.1 bt521.2 bt523.2.2.2.2 bt529.1 bt529.2 t531 t532 true a0_0 a0_1 a0_2 a0_3 a1_0 a1_1 a1_2 a1_3 bt523.1 bt523.2.1 bt523.2.2.1 bt523.2.2.2.1)))))))) else (some false))
def guidevanelaw06_GovernorGates.T17 : Bool × List (List Nat × List Nat) := (true, [([], []), ([0], [0]), ([1], [1]), ([2], [2]), ([2], [2]), ([2], [2]), ([4, 5, 2, 2], [2, 4, 5]), ([3, 6, 2], [2, 3, 6]), ([2, 7], [2, 7]), ([8, 6], [8]), ([9], [9]), ([10, 9], [9, 10]), ([9, 11], [9, 11]), ([12, 9], [12]), ([13], [13]), ([13], [13]), ([13], [13]), ([15, 16, 13, 13], [13, 15, 16]), ([14, 17, 13], [13, 14, 17]), ([13, 18], [13, 18]), ([19, 17, 0, 1, 2, 3, 4, 5, 6, 7, 8, 9, 10, 11, 12, 13, 14, 15, 16, 17, 18, 19], [19])])
def guidevanelaw06_GovernorGates.B17 : List Nat := [0, 1, 3, 7, 7, 7, 55, 127, 255, 511, 1023, 2047, 4095, 8191, 16383, 16383, 16383, 114687, 262143, 524287, 1048575]
theorem guidevanelaw06_GovernorGates.tab17 : rtab .any (opsOf Tryz.f7 17) = guidevanelaw06_GovernorGates.T17 := by kernel_rfl
theorem guidevanelaw06_GovernorGates.bits17 : waitsOk guidevanelaw06_GovernorGates.T17.2 guidevanelaw06_GovernorGates.B17 = true := by kernel_rfl
set_option maxHeartbeats 8000000 in
set_option maxRecDepth 100000 in
theorem guidevanelaw06_GovernorGates.calls (k : Nat) (a0_0 : Int) (a0_1 : Int) (a0_2 : Int) (a0_3 : Int) (a1_0 : Int) (a1_1 : Int) (a1_2 : Int) (a1_3 : Int) (a2 : Int) (r : Bool) (w : World) (h : guidevanelaw06_GovernorGates.f k a0_0 a0_1 a0_2 a0_3 a1_0 a1_1 a1_2 a1_3 a2 = some r) :
    Calls Tryz.prog 7 #[.agg #[.int .i64 a0_0, .int .i64 a0_1, .int .i64 a0_2, .int .i64 a0_3], .agg #[.int .i64 a1_0, .int .i64 a1_1, .int .i64 a1_2, .int .i64 a1_3], .int .i64 a2] w fun e w' => e = .returned (.bool r) ∧ Below w.heap.size w w' := by
  have hu75 := Tryz.underlying75
  have hu77 := Tryz.underlying77
  have HB := Aside0.mk (Below.refl w.heap.size w)
  have H : ((guidevanelaw06_awake.f).bind fun t520 => (if t520 = true then ((governor_WantedFor.f k a1_0 a1_1 a1_2 a1_3 a2).bind fun bt521 => ((governor_GateStep.f a0_0 a0_1 a0_2 a0_3 a2).bind fun bt523 => ((governor_TicksTo.f k a0_0 a0_1 a0_2 a0_3 a2).bind fun bt529 => ((guidevaneref06_GateErr.f k a0_0 a0_1 a0_2 a0_3).bind fun t531 => ((guidevaneref06_RulesErr.f a1_0 a1_1 a1_2 a1_3).bind fun t532 => ((governor_CheckGate.f k a0_0 a0_1 a0_2 a0_3).bind fun t533 => (if t533 = t531 then ((governor_CheckRules.f a1_0 a1_1 a1_2 a1_3).bind fun t534 => (guidevanelaw06_GovernorGates.j0 k a2 bt521.1 bt521.2 bt523.2.2.2.2 bt529.1 bt529.2 t531 t532 (t534 != t532) a0_0 a0_1 a0_2 a0_3 a1_0 a1_1 a1_2 a1_3 bt523.1 bt523.2.1 bt523.2.2.1 bt523.2.2.2.1)) else (guidevanelaw06_GovernorGates.j0 k a2 bt521.1 bt521.2 bt523.2.2.2.2 bt529.1 bt529.2 t531 t532 true a0_0 a0_1 a0_2 a0_3 a1_0 a1_1 a1_2 a1_3 bt523.1 bt523.2.1 bt523.2.2.1 bt523.2.2.2.1)))))))) else (some false))) = some r := h
  clear h
  replace H := Option.bind_eq_some_iff.mp H
  obtain ⟨t520, A40, H⟩ := H
  replace H : (if t520 = true then ((governor_WantedFor.f k a1_0 a1_1 a1_2 a1_3 a2).bind fun bt521 => ((governor_GateStep.f a0_0 a0_1 a0_2 a0_3 a2).bind fun bt523 => ((governor_TicksTo.f k a0_0 a0_1 a0_2 a0_3 a2).bind fun bt529 => ((guidevaneref06_GateErr.f k a0_0 a0_1 a0_2 a0_3).bind fun t531 => ((guidevaneref06_RulesErr.f a1_0 a1_1 a1_2 a1_3).bind fun t532 => ((governor_CheckGate.f k a0_0 a0_1 a0_2 a0_3).bind fun t533 => (if t533 = t531 then ((governor_CheckRules.f a1_0 a1_1 a1_2 a1_3).bind fun t534 => (guidevanelaw06_GovernorGates.j0 k a2 bt521.1 bt521.2 bt523.2.2.2.2 bt529.1 bt529.2 t531 t532 (t534 != t532) a0_0 a0_1 a0_2 a0_3 a1_0 a1_1 a1_2 a1_3 bt523.1 bt523.2.1 bt523.2.2.1 bt523.2.2.2.1)) else (guidevanelaw06_GovernorGates.j0 k a2 bt521.1 bt521.2 bt523.2.2.2.2 bt529.1 bt529.2 t531 t532 true a0_0 a0_1 a0_2 a0_3 a1_0 a1_1 a1_2 a1_3 bt523.1 bt523.2.1 bt523.2.2.1 bt523.2.2.2.1)))))))) else (some false)) = some r := H
  have A4 := Aside0.mk A40
  clear A40
  by_cases c5 : t520 = true
  · subst c5
    have H1 : ((governor_WantedFor.f k a1_0 a1_1 a1_2 a1_3 a2).bind fun bt521 => ((governor_GateStep.f a0_0 a0_1 a0_2 a0_3 a2).bind fun bt523 => ((governor_TicksTo.f k a0_0 a0_1 a0_2 a0_3 a2).bind fun bt529 => ((guidevaneref06_GateErr.f k a0_0 a0_1 a0_2 a0_3).bind fun t531 => ((guidevaneref06_RulesErr.f a1_0 a1_1 a1_2 a1_3).bind fun t532 => ((governor_CheckGate.f k a0_0 a0_1 a0_2 a0_3).bind fun t533 => (if t533 = t531 then ((governor_CheckRules.f a1_0 a1_1 a1_2 a1_3).bind fun t534 => (guidevanelaw06_GovernorGates.j0 k a2 bt521.1 bt521.2 bt523.2.2.2.2 bt529.1 bt529.2 t531 t532 (t534 != t532) a0_0 a0_1 a0_2 a0_3 a1_0 a1_1 a1_2 a1_3 bt523.1 bt523.2.1 bt523.2.2.1 bt523.2.2.2.1)) else (guidevanelaw06_GovernorGates.j0 k a2 bt521.1 bt521.2 bt523.2.2.2.2 bt529.1 bt529.2 t531 t532 true a0_0 a0_1 a0_2 a0_3 a1_0 a1_1 a1_2 a1_3 bt523.1 bt523.2.1 bt523.2.2.1 bt523.2.2.2.1)))))))) = some r := by rw [if_pos rfl] at H; exact H
    clear H
    have H := H1
    clear H1
    replace H := Option.bind_eq_some_iff.mp H
    obtain ⟨⟨t521, t522⟩, A60, H⟩ := H
    replace H : ((governor_GateStep.f a0_0 a0_1 a0_2 a0_3 a2).bind fun bt523 => ((governor_TicksTo.f k a0_0 a0_1 a0_2 a0_3 a2).bind fun bt529 => ((guidevaneref06_GateErr.f k a0_0 a0_1 a0_2 a0_3).bind fun t531 => ((guidevaneref06_RulesErr.f a1_0 a1_1 a1_2 a1_3).bind fun t532 => ((governor_CheckGate.f k a0_0 a0_1 a0_2 a0_3).bind fun t533 => (if t533 = t531 then ((governor_CheckRules.f a1_0 a1_1 a1_2 a1_3).bind fun t534 => (guidevanelaw06_GovernorGates.j0 k a2 t521 t522 bt523.2.2.2.2 bt529.1 bt529.2 t531 t532 (t534 != t532) a0_0 a0_1 a0_2 a0_3 a1_0 a1_1 a1_2 a1_3 bt523.1 bt523.2.1 bt523.2.2.1 bt523.2.2.2.1)) else (guidevanelaw06_GovernorGates.j0 k a2 t521 t522 bt523.2.2.2.2 bt529.1 bt529.2 t531 t532 true a0_0 a0_1 a0_2 a0_3 a1_0 a1_1 a1_2 a1_3 bt523.1 bt523.2.1 bt523.2.2.1 bt523.2.2.2.1))))))) = some r := H
    have A6 := Aside0.mk A60
    clear A60
    replace H := Option.bind_eq_some_iff.mp H
    obtain ⟨⟨t523, t524, t525, t526, t527⟩, A70, H⟩ := H
    replace H : ((governor_TicksTo.f k a0_0 a0_1 a0_2 a0_3 a2).bind fun bt529 => ((guidevaneref06_GateErr.f k a0_0 a0_1 a0_2 a0_3).bind fun t531 => ((guidevaneref06_RulesErr.f a1_0 a1_1 a1_2 a1_3).bind fun t532 => ((governor_CheckGate.f k a0_0 a0_1 a0_2 a0_3).bind fun t533 => (if t533 = t531 then ((governor_CheckRules.f a1_0 a1_1 a1_2 a1_3).bind fun t534 => (guidevanelaw06_GovernorGates.j0 k a2 t521 t522 t527 bt529.1 bt529.2 t531 t532 (t534 != t532) a0_0 a0_1 a0_2 a0_3 a1_0 a1_1 a1_2 a1_3 t523 t524 t525 t526)) else (guidevanelaw06_GovernorGates.j0 k a2 t521 t522 t527 bt529.1 bt529.2 t531 t532 true a0_0 a0_1 a0_2 a0_3 a1_0 a1_1 a1_2 a1_3 t523 t524 t525 t526)))))) = some r := H
    have A7 := Aside0.mk A70
    clear A70
    replace H := Option.bind_eq_some_iff.mp H
    obtain ⟨⟨t529, t530⟩, A80, H⟩ := H
    replace H : ((guidevaneref06_GateErr.f k a0_0 a0_1 a0_2 a0_3).bind fun t531 => ((guidevaneref06_RulesErr.f a1_0 a1_1 a1_2 a1_3).bind fun t532 => ((governor_CheckGate.f k a0_0 a0_1 a0_2 a0_3).bind fun t533 => (if t533 = t531 then ((governor_CheckRules.f a1_0 a1_1 a1_2 a1_3).bind fun t534 => (guidevanelaw06_GovernorGates.j0 k a2 t521 t522 t527 t529 t530 t531 t532 (t534 != t532) a0_0 a0_1 a0_2 a0_3 a1_0 a1_1 a1_2 a1_3 t523 t524 t525 t526)) else (guidevanelaw06_GovernorGates.j0 k a2 t521 t522 t527 t529 t530 t531 t532 true a0_0 a0_1 a0_2 a0_3 a1_0 a1_1 a1_2 a1_3 t523 t524 t525 t526))))) = some r := H
    have A8 := Aside0.mk A80
    clear A80
    replace H := Option.bind_eq_some_iff.mp H
    obtain ⟨t531, A90, H⟩ := H
    replace H : ((guidevaneref06_RulesErr.f a1_0 a1_1 a1_2 a1_3).bind fun t532 => ((governor_CheckGate.f k a0_0 a0_1 a0_2 a0_3).bind fun t533 => (if t533 = t531 then ((governor_CheckRules.f a1_0 a1_1 a1_2 a1_3).bind fun t534 => (guidevanelaw06_GovernorGates.j0 k a2 t521 t522 t527 t529 t530 t531 t532 (t534 != t532) a0_0 a0_1 a0_2 a0_3 a1_0 a1_1 a1_2 a1_3 t523 t524 t525 t526)) else (guidevanelaw06_GovernorGates.j0 k a2 t521 t522 t527 t529 t530 t531 t532 true a0_0 a0_1 a0_2 a0_3 a1_0 a1_1 a1_2 a1_3 t523 t524 t525 t526)))) = some r := H
    have A9 := Aside0.mk A90
    clear A90
    replace H := Option.bind_eq_some_iff.mp H
    obtain ⟨t532, A100, H⟩ := H
    replace H : ((governor_CheckGate.f k a0_0 a0_1 a0_2 a0_3).bind fun t533 => (if t533 = t531 then ((governor_CheckRules.f a1_0 a1_1 a1_2 a1_3).bind fun t534 => (guidevanelaw06_GovernorGates.j0 k a2 t521 t522 t527 t529 t530 t531 t532 (t534 != t532) a0_0 a0_1 a0_2 a0_3 a1_0 a1_1 a1_2 a1_3 t523 t524 t525 t526)) else (guidevanelaw06_GovernorGates.j0 k a2 t521 t522 t527 t529 t530 t531 t532 true a0_0 a0_1 a0_2 a0_3 a1_0 a1_1 a1_2 a1_3 t523 t524 t525 t526))) = some r := H
    have A10 := Aside0.mk A100
    clear A100
    have HC11 := Aside0.mk H
    clear H
    go_enter Tryz.func7, Tryz.ntmps7
    try go_wp2_with (first | ((with_reducible refine gate_dst (N := 3) rfl ?_); refine box_event ?hg (N := 3) ?hd (cs := #[.int .i64 a0_0, .int .i64 a0_1, .int .i64 a0_2, .int .i64 a0_3]) (t := 75) ?hr ?_; (case hd => rfl); (case hg => rfl); (case hr => first | (go_simp; done) | (go_simp; rfl)); intro gb518 hg w12 hbox hb; have n0_ := Aside0.mk (below_step (by repeat (first | (with_reducible first | exact HB.out | apply below_alloc | apply pw_below_drewN | apply below_drew1) | exact HB.out)) hb); have n1_ := Aside0.mk (hbox); have n2_ := Aside0.mk ((by rw [hg]; exact (below_size (by repeat (first | (with_reducible first | exact HB.out | apply below_alloc | apply pw_below_drewN | apply below_drew1) | exact HB.out))) : w.heap.size ≤ gb518)); have n3_ := Aside0.mk ((by rw [hg]; exact (below_size (by repeat (first | (with_reducible first | exact HB.out | apply below_alloc | apply pw_below_drewN | apply below_drew1) | exact HB.out))) : w.heap.size ≤ gb518)); clear HB; have HB := n0_; have BK518 := n1_; have GW518 := n2_; have GE518 := n3_; clear n0_ n1_ n2_ n3_; clear hb hbox hg) | ((with_reducible refine gate_dst (N := 4) rfl ?_); refine box_event ?hg (N := 4) ?hd (cs := #[.int .i64 a1_0, .int .i64 a1_1, .int .i64 a1_2, .int .i64 a1_3]) (t := 77) ?hr ?_; (case hd => rfl); (case hg => rfl); (case hr => first | (go_simp; done) | (go_simp; rfl)); intro gb519 hg w13 hbox hb; have n0_ := Aside0.mk (blk_below (g := gb518) (o := .cells #[.int .i64 a0_0, .int .i64 a0_1, .int .i64 a0_2, .int .i64 a0_3] 75 (0, 0)) (by (with_reducible repeat (first | refine blk_drewN ?_ _ | refine blk_drew ?_ | refine blk_alloc ?_ _)); exact BK518.out) hb); have n1_ := Aside0.mk (below_step (by repeat (first | (with_reducible first | exact HB.out | apply below_alloc | apply pw_below_drewN | apply below_drew1 | refine below_set ?_ GE518.out) | exact HB.out)) hb); have n2_ := Aside0.mk (hbox); have n3_ := Aside0.mk ((by rw [hg]; exact (below_size (by repeat (first | (with_reducible first | exact HB.out | apply below_alloc | apply pw_below_drewN | apply below_drew1 | refine below_set ?_ GE518.out) | exact HB.out))) : w.heap.size ≤ gb519)); have n4_ := Aside0.mk ((by rw [hg]; exact (below_size (by repeat (first | (with_reducible first | exact HB.out | apply below_alloc | apply pw_below_drewN | apply below_drew1 | refine below_set ?_ GE518.out) | exact HB.out))) : w.heap.size ≤ gb519)); have n5_ := Aside0.mk ((by rw [hg]; exact Nat.ne_of_lt (blk_lt (g := gb518) (o := .cells #[.int .i64 a0_0, .int .i64 a0_1, .int .i64 a0_2, .int .i64 a0_3] 75 (0, 0)) (by (with_reducible repeat (first | refine blk_drewN ?_ _ | refine blk_drew ?_ | refine blk_alloc ?_ _)); exact BK518.out)) : gb518 ≠ gb519)); have n6_ := Aside0.mk ((by rw [hg]; exact Nat.ne_of_gt (blk_lt (g := gb518) (o := .cells #[.int .i64 a0_0, .int .i64 a0_1, .int .i64 a0_2, .int .i64 a0_3] 75 (0, 0)) (by (with_reducible repeat (first | refine blk_drewN ?_ _ | refine blk_drew ?_ | refine blk_alloc ?_ _)); exact BK518.out)) : gb519 ≠ gb518)); clear BK518; clear HB; have BK518 := n0_; have HB := n1_; have BK519 := n2_; have GW519 := n3_; have GE519 := n4_; have NB518_519 := n5_; have NB519_518 := n6_; clear n0_ n1_ n2_ n3_ n4_ n5_ n6_; clear hb hbox hg) | ((with_reducible refine gate_callee (f := 16) rfl ?_); refine goesL_ (some 15) rfl rfl Tryz.func16 (by kernel_rfl) rfl #[] rfl (by (try simp only [List.map_toArray, List.map_cons, List.map_nil]); first | done | rfl | (simp only [List.length_drop, List.length_take]; rfl)) ?_; (with_reducible refine (guidevanelaw06_awake.calls  true _ A4.out).mono ?_); rintro e w14 ⟨rfl, hb⟩; refine ⟨_, rfl, ?_⟩; have n0_ := Aside0.mk (blk_below (g := gb518) (o := .cells #[.int .i64 a0_0, .int .i64 a0_1, .int .i64 a0_2, .int .i64 a0_3] 75 (0, 0)) (by (with_reducible repeat (first | refine blk_drewN ?_ _ | refine blk_drew ?_ | refine blk_alloc ?_ _)); exact BK518.out) hb); have n1_ := Aside0.mk (blk_below (g := gb519) (o := .cells #[.int .i64 a1_0, .int .i64 a1_1, .int .i64 a1_2, .int .i64 a1_3] 77 (0, 0)) (by (with_reducible repeat (first | refine blk_drewN ?_ _ | refine blk_drew ?_ | refine blk_alloc ?_ _)); exact BK519.out) hb); have n2_ := Aside0.mk (below_step (by repeat (first | (with_reducible first | exact HB.out | apply below_alloc | apply pw_below_drewN | apply below_drew1 | refine below_set ?_ GE518.out | refine below_set ?_ GE519.out) | exact HB.out)) hb); clear BK518; clear BK519; clear HB; have BK518 := n0_; have BK519 := n1_; have HB := n2_; clear n0_ n1_ n2_; (try clear hb); (try clear hb2); (try clear hk); (try clear hi); have hnb15 := NB519_518.out; have hnc15 := NB518_519.out; have hcz16_0 : w14.cell? ⟨gb519, 0, none⟩ = some (.int .i64 a1_0) := (blk_cell BK519.out 0).trans rfl; have hcz16_1 : w14.cell? ⟨gb519, 1, none⟩ = some (.int .i64 a1_1) := (blk_cell BK519.out 1).trans rfl; have hcz16_2 : w14.cell? ⟨gb519, 2, none⟩ = some (.int .i64 a1_2) := (blk_cell BK519.out 2).trans rfl; have hcz16_3 : w14.cell? ⟨gb519, 3, none⟩ = some (.int .i64 a1_3) := (blk_cell BK519.out 3).trans rfl; have hfz16_0 := blk_frozen BK519.out 0; have hfz16_1 := blk_frozen BK519.out 1; have hfz16_2 := blk_frozen BK519.out 2; have hfz16_3 := blk_frozen BK519.out 3) | ((with_reducible refine gate_callee (f := 47) rfl ?_); refine goesL_ (some 20) rfl rfl Tryz.func47 (by kernel_rfl) rfl #[.agg #[.int .i64 a1_0, .int .i64 a1_1, .int .i64 a1_2, .int .i64 a1_3], .int .i64 a2] rfl (by (try simp only [List.map_toArray, List.map_cons, List.map_nil]); first | done | rfl | (simp only [List.length_drop, List.length_take]; rfl)) ?_; (with_reducible refine (governor_WantedFor.calls k a1_0 a1_1 a1_2 a1_3 a2 t521 t522 _ A6.out).mono ?_); rintro e w17 ⟨rfl, hb⟩; refine ⟨_, rfl, ?_⟩; have n0_ := Aside0.mk (blk_below (g := gb518) (o := .cells #[.int .i64 a0_0, .int .i64 a0_1, .int .i64 a0_2, .int .i64 a0_3] 75 (0, 0)) (by (with_reducible repeat (first | refine blk_drewN ?_ _ | refine blk_drew ?_ | refine blk_alloc ?_ _)); exact BK518.out) hb); have n1_ := Aside0.mk (blk_below (g := gb519) (o := .cells #[.int .i64 a1_0, .int .i64 a1_1, .int .i64 a1_2, .int .i64 a1_3] 77 (0, 0)) (by (with_reducible repeat (first | refine blk_drewN ?_ _ | refine blk_drew ?_ | refine blk_alloc ?_ _)); exact BK519.out) hb); have n2_ := Aside0.mk (below_step (by repeat (first | (with_reducible first | exact HB.out | apply below_alloc | apply pw_below_drewN | apply below_drew1 | refine below_set ?_ GE518.out | refine below_set ?_ GE519.out) | exact HB.out)) hb); clear BK518; clear BK519; clear HB; have BK518 := n0_; have BK519 := n1_; have HB := n2_; clear n0_ n1_ n2_; (try clear hb); (try clear hb2); (try clear hk); (try clear hi); have hcz18_0 : w17.cell? ⟨gb518, 0, none⟩ = some (.int .i64 a0_0) := (blk_cell BK518.out 0).trans rfl; have hcz18_1 : w17.cell? ⟨gb518, 1, none⟩ = some (.int .i64 a0_1) := (blk_cell BK518.out 1).trans rfl; have hcz18_2 : w17.cell? ⟨gb518, 2, none⟩ = some (.int .i64 a0_2) := (blk_cell BK518.out 2).trans rfl; have hcz18_3 : w17.cell? ⟨gb518, 3, none⟩ = some (.int .i64 a0_3) := (blk_cell BK518.out 3).trans rfl; have hfz18_0 := blk_frozen BK518.out 0; have hfz18_1 := blk_frozen BK518.out 1; have hfz18_2 := blk_frozen BK518.out 2; have hfz18_3 := blk_frozen BK518.out 3) | ((with_reducible refine gate_callee (f := 48) rfl ?_); refine goesL_ (some 26) rfl rfl Tryz.func48 (by kernel_rfl) rfl #[.agg #[.int .i64 a0_0, .int .i64 a0_1, .int .i64 a0_2, .int .i64 a0_3], .int .i64 a2] rfl (by (try simp only [List.map_toArray, List.map_cons, List.map_nil]); first | done | rfl | (simp only [List.length_drop, List.length_take]; rfl)) ?_; (with_reducible refine (governor_GateStep.calls a0_0 a0_1 a0_2 a0_3 a2 t523 t524 t525 t526 t527 _ A7.out).mono ?_); rintro e w19 ⟨rfl, hb⟩; refine ⟨_, rfl, ?_⟩; have n0_ := Aside0.mk (blk_below (g := gb518) (o := .cells #[.int .i64 a0_0, .int .i64 a0_1, .int .i64 a0_2, .int .i64 a0_3] 75 (0, 0)) (by (with_reducible repeat (first | refine blk_drewN ?_ _ | refine blk_drew ?_ | refine blk_alloc ?_ _)); exact BK518.out) hb); have n1_ := Aside0.mk (blk_below (g := gb519) (o := .cells #[.int .i64 a1_0, .int .i64 a1_1, .int .i64 a1_2, .int .i64 a1_3] 77 (0, 0)) (by (with_reducible repeat (first | refine blk_drewN ?_ _ | refine blk_drew ?_ | refine blk_alloc ?_ _)); exact BK519.out) hb); have n2_ := Aside0.mk (below_step (by repeat (first | (with_reducible first | exact HB.out | apply below_alloc | apply pw_below_drewN | apply below_drew1 | refine below_set ?_ GE518.out | refine below_set ?_ GE519.out) | exact HB.out)) hb); clear BK518; clear BK519; clear HB; have BK518 := n0_; have BK519 := n1_; have HB := n2_; clear n0_ n1_ n2_; (try clear hb); (try clear hb2); (try clear hk); (try clear hi)) | ((with_reducible refine gate_dst (N := 9) rfl ?_); refine box_event ?hg (N := 9) ?hd (cs := #[.int .i64 0, .int .i64 0, .int .i64 0, .int .i64 0]) (t := 75) ?hr ?_; (case hd => rfl); (case hg => rfl); (case hr => first | (go_simp; done) | (go_simp; rfl)); intro gb528 hg w20 hbox hb; have n0_ := Aside0.mk (blk_below (g := gb518) (o := .cells #[.int .i64 a0_0, .int .i64 a0_1, .int .i64 a0_2, .int .i64 a0_3] 75 (0, 0)) (by (with_reducible repeat (first | refine blk_drewN ?_ _ | refine blk_drew ?_ | refine blk_alloc ?_ _)); exact BK518.out) hb); have n1_ := Aside0.mk (blk_below (g := gb519) (o := .cells #[.int .i64 a1_0, .int .i64 a1_1, .int .i64 a1_2, .int .i64 a1_3] 77 (0, 0)) (by (with_reducible repeat (first | refine blk_drewN ?_ _ | refine blk_drew ?_ | refine blk_alloc ?_ _)); exact BK519.out) hb); have n2_ := Aside0.mk (below_step (by repeat (first | (with_reducible first | exact HB.out | apply below_alloc | apply pw_below_drewN | apply below_drew1 | refine below_set ?_ GE518.out | refine below_set ?_ GE519.out) | exact HB.out)) hb); have n3_ := Aside0.mk (hbox); have n4_ := Aside0.mk ((by rw [hg]; exact (below_size (by repeat (first | (with_reducible first | exact HB.out | apply below_alloc | apply pw_below_drewN | apply below_drew1 | refine below_set ?_ GE518.out | refine below_set ?_ GE519.out) | exact HB.out))) : w.heap.size ≤ gb528)); have n5_ := Aside0.mk ((by rw [hg]; exact (below_size (by repeat (first | (with_reducible first | exact HB.out | apply below_alloc | apply pw_below_drewN | apply below_drew1 | refine below_set ?_ GE518.out | refine below_set ?_ GE519.out) | exact HB.out))) : w.heap.size ≤ gb528)); have n6_ := Aside0.mk ((by rw [hg]; exact Nat.ne_of_lt (blk_lt (g := gb518) (o := .cells #[.int .i64 a0_0, .int .i64 a0_1, .int .i64 a0_2, .int .i64 a0_3] 75 (0, 0)) (by (with_reducible repeat (first | refine blk_drewN ?_ _ | refine blk_drew ?_ | refine blk_alloc ?_ _)); exact BK518.out)) : gb518 ≠ gb528)); have n7_ := Aside0.mk ((by rw [hg]; exact Nat.ne_of_gt (blk_lt (g := gb518) (o := .cells #[.int .i64 a0_0, .int .i64 a0_1, .int .i64 a0_2, .int .i64 a0_3] 75 (0, 0)) (by (with_reducible repeat (first | refine blk_drewN ?_ _ | refine blk_drew ?_ | refine blk_alloc ?_ _)); exact BK518.out)) : gb528 ≠ gb518)); have n8_ := Aside0.mk ((by rw [hg]; exact Nat.ne_of_lt (blk_lt (g := gb519) (o := .cells #[.int .i64 a1_0, .int .i64 a1_1, .int .i64 a1_2, .int .i64 a1_3] 77 (0, 0)) (by (with_reducible repeat (first | refine blk_drewN ?_ _ | refine blk_drew ?_ | refine blk_alloc ?_ _)); exact BK519.out)) : gb519 ≠ gb528)); have n9_ := Aside0.mk ((by rw [hg]; exact Nat.ne_of_gt (blk_lt (g := gb519) (o := .cells #[.int .i64 a1_0, .int .i64 a1_1, .int .i64 a1_2, .int .i64 a1_3] 77 (0, 0)) (by (with_reducible repeat (first | refine blk_drewN ?_ _ | refine blk_drew ?_ | refine blk_alloc ?_ _)); exact BK519.out)) : gb528 ≠ gb519)); clear BK518; clear BK519; clear HB; have BK518 := n0_; have BK519 := n1_; have HB := n2_; have BK528 := n3_; have GW528 := n4_; have GE528 := n5_; have NB518_528 := n6_; have NB528_518 := n7_; have NB519_528 := n8_; have NB528_519 := n9_; clear n0_ n1_ n2_ n3_ n4_ n5_ n6_ n7_ n8_ n9_; clear hb hbox hg; have hnb21 := NB528_518.out; have hnc21 := NB518_528.out; have hnb22 := NB528_519.out; have hnc22 := NB519_528.out; have hcz23_0 : w20.cell? ⟨gb528, 0, none⟩ = some (.int .i64 0) := (blk_cell BK528.out 0).trans rfl; have hcz23_1 : w20.cell? ⟨gb528, 1, none⟩ = some (.int .i64 0) := (blk_cell BK528.out 1).trans rfl; have hcz23_2 : w20.cell? ⟨gb528, 2, none⟩ = some (.int .i64 0) := (blk_cell BK528.out 2).trans rfl; have hcz23_3 : w20.cell? ⟨gb528, 3, none⟩ = some (.int .i64 0) := (blk_cell BK528.out 3).trans rfl; have hfz23_0 := blk_frozen BK528.out 0; have hfz23_1 := blk_frozen BK528.out 1; have hfz23_2 := blk_frozen BK528.out 2; have hfz23_3 := blk_frozen BK528.out 3; have hcz24_0 : w20.cell? ⟨gb518, 0, none⟩ = some (.int .i64 a0_0) := (blk_cell BK518.out 0).trans rfl; have hcz24_1 : w20.cell? ⟨gb518, 1, none⟩ = some (.int .i64 a0_1) := (blk_cell BK518.out 1).trans rfl; have hcz24_2 : w20.cell? ⟨gb518, 2, none⟩ = some (.int .i64 a0_2) := (blk_cell BK518.out 2).trans rfl; have hcz24_3 : w20.cell? ⟨gb518, 3, none⟩ = some (.int .i64 a0_3) := (blk_cell BK518.out 3).trans rfl; have hfz24_0 := blk_frozen BK518.out 0; have hfz24_1 := blk_frozen BK518.out 1; have hfz24_2 := blk_frozen BK518.out 2; have hfz24_3 := blk_frozen BK518.out 3) | ((with_reducible refine gate_callee (f := 49) rfl ?_); refine goesL_ (some 32) rfl rfl Tryz.func49 (by kernel_rfl) rfl #[.agg #[.int .i64 a0_0, .int .i64 a0_1, .int .i64 a0_2, .int .i64 a0_3], .int .i64 a2] rfl (by (try simp only [List.map_toArray, List.map_cons, List.map_nil]); first | done | rfl | (simp only [List.length_drop, List.length_take]; rfl)) ?_; (with_reducible refine (governor_TicksTo.calls k a0_0 a0_1 a0_2 a0_3 a2 t529 t530 _ A8.out).mono ?_); rintro e w25 ⟨rfl, hb⟩; refine ⟨_, rfl, ?_⟩; have n0_ := Aside0.mk (blk_below (g := gb518) (o := .cells #[.int .i64 a0_0, .int .i64 a0_1, .int .i64 a0_2, .int .i64 a0_3] 75 (0, 0)) (by (with_reducible repeat (first | refine blk_drewN ?_ _ | refine blk_drew ?_ | refine blk_alloc ?_ _)); refine blk_far ?_ NB518_528.out _; (with_reducible repeat (first | refine blk_drewN ?_ _ | refine blk_drew ?_ | refine blk_alloc ?_ _)); refine blk_far ?_ NB518_528.out _; (with_reducible repeat (first | refine blk_drewN ?_ _ | refine blk_drew ?_ | refine blk_alloc ?_ _)); refine blk_far ?_ NB518_528.out _; (with_reducible repeat (first | refine blk_drewN ?_ _ | refine blk_drew ?_ | refine blk_alloc ?_ _)); refine blk_far ?_ NB518_528.out _; (with_reducible repeat (first | refine blk_drewN ?_ _ | refine blk_drew ?_ | refine blk_alloc ?_ _)); exact BK518.out) hb); have n1_ := Aside0.mk (blk_below (g := gb519) (o := .cells #[.int .i64 a1_0, .int .i64 a1_1, .int .i64 a1_2, .int .i64 a1_3] 77 (0, 0)) (by (with_reducible repeat (first | refine blk_drewN ?_ _ | refine blk_drew ?_ | refine blk_alloc ?_ _)); refine blk_far ?_ NB519_528.out _; (with_reducible repeat (first | refine blk_drewN ?_ _ | refine blk_drew ?_ | refine blk_alloc ?_ _)); refine blk_far ?_ NB519_528.out _; (with_reducible repeat (first | refine blk_drewN ?_ _ | refine blk_drew ?_ | refine blk_alloc ?_ _)); refine blk_far ?_ NB519_528.out _; (with_reducible repeat (first | refine blk_drewN ?_ _ | refine blk_drew ?_ | refine blk_alloc ?_ _)); refine blk_far ?_ NB519_528.out _; (with_reducible repeat (first | refine blk_drewN ?_ _ | refine blk_drew ?_ | refine blk_alloc ?_ _)); exact BK519.out) hb); have n2_ := Aside0.mk (blk_below (g := gb528) (o := .cells #[.int .i64 t523, .int .i64 t524, .int .i64 t525, .int .i64 t526] 75 (0, 0)) (by (with_reducible repeat (first | refine blk_drewN ?_ _ | refine blk_drew ?_ | refine blk_alloc ?_ _)); refine blk_put (cs := #[.int .i64 t523, .int .i64 t524, .int .i64 t525, .int .i64 0]) ?_ 3 _ rfl; (with_reducible repeat (first | refine blk_drewN ?_ _ | refine blk_drew ?_ | refine blk_alloc ?_ _)); refine blk_put (cs := #[.int .i64 t523, .int .i64 t524, .int .i64 0, .int .i64 0]) ?_ 2 _ rfl; (with_reducible repeat (first | refine blk_drewN ?_ _ | refine blk_drew ?_ | refine blk_alloc ?_ _)); refine blk_put (cs := #[.int .i64 t523, .int .i64 0, .int .i64 0, .int .i64 0]) ?_ 1 _ rfl; (with_reducible repeat (first | refine blk_drewN ?_ _ | refine blk_drew ?_ | refine blk_alloc ?_ _)); refine blk_put (cs := #[.int .i64 0, .int .i64 0, .int .i64 0, .int .i64 0]) ?_ 0 _ rfl; (with_reducible repeat (first | refine blk_drewN ?_ _ | refine blk_drew ?_ | refine blk_alloc ?_ _)); exact BK528.out) hb); have n3_ := Aside0.mk (below_step (by repeat (first | (with_reducible first | exact HB.out | apply below_alloc | apply pw_below_drewN | apply below_drew1 | refine below_set ?_ GE518.out | refine below_set ?_ GE519.out | refine below_set ?_ GE528.out) | exact HB.out)) hb); clear BK518; clear BK519; clear BK528; clear HB; have BK518 := n0_; have BK519 := n1_; have BK528 := n2_; have HB := n3_; clear n0_ n1_ n2_ n3_; (try clear hb); (try clear hb2); (try clear hk); (try clear hi)))
    have n0_ := Aside0.mk (blk_drew BK518.out)
    have n1_ := Aside0.mk (blk_drew BK519.out)
    have n2_ := Aside0.mk (blk_drew BK528.out)
    have n3_ := Aside0.mk (below_drew1 HB.out)
    clear BK518
    clear BK519
    clear BK528
    clear HB
    have BK518 := n0_
    have BK519 := n1_
    have BK528 := n2_
    have HB := n3_
    clear n0_ n1_ n2_ n3_
    refine start_ (n := 6) (S := fun w' => w'.cell? ⟨gb518, 0, none⟩ = some (.int .i64 a0_0) ∧ w'.cell? ⟨gb518, 1, none⟩ = some (.int .i64 a0_1) ∧ w'.cell? ⟨gb518, 2, none⟩ = some (.int .i64 a0_2) ∧ w'.cell? ⟨gb518, 3, none⟩ = some (.int .i64 a0_3) ∧ w'.cell? ⟨gb519, 0, none⟩ = some (.int .i64 a1_0) ∧ w'.cell? ⟨gb519, 1, none⟩ = some (.int .i64 a1_1) ∧ w'.cell? ⟨gb519, 2, none⟩ = some (.int .i64 a1_2) ∧ w'.cell? ⟨gb519, 3, none⟩ = some (.int .i64 a1_3)) (ds := []) #[false, false, false, false, false, false] (by kernel_rfl) rfl rfl ⟨(blk_cell BK518.out 0).trans rfl, (blk_cell BK518.out 1).trans rfl, (blk_cell BK518.out 2).trans rfl, (blk_cell BK518.out 3).trans rfl, (blk_cell BK519.out 0).trans rfl, (blk_cell BK519.out 1).trans rfl, (blk_cell BK519.out 2).trans rfl, (blk_cell BK519.out 3).trans rfl⟩ (fun hHeld => ?_)
    generalize w25.drew = w26 at BK518 BK519 BK528 HB hHeld ⊢
    refine take_ (i := 0) (N := some 35) (v := ?_) (a' := ?_) #[true, false, false, false, false, false] rfl rfl (by kernel_rfl) (fun _ _ _ h => h) (Or.inl ⟨by rfl, ?_⟩) hHeld ?_ ?_
    rotate_left
    · rintro w' ⟨s0, s1, s2, s3, s4, s5, s6, s7⟩
      go_simp
      with_reducible rfl
    rotate_left
    · simp only [Act.put, List.setIfInBounds_toArray, List.set_cons_zero, List.set_cons_succ, i64_w, i32_w]
      rfl
    refine take_ (i := 2) (N := some 37) (v := ?_) (a' := ?_) #[true, false, true, false, false, false] rfl rfl (by kernel_rfl) (fun _ _ _ h => h) (Or.inl ⟨by rfl, ?_⟩) hHeld ?_ ?_
    rotate_left
    · rintro w' ⟨s0, s1, s2, s3, s4, s5, s6, s7⟩
      go_simp
      with_reducible rfl
    rotate_left
    · simp only [Act.put, List.setIfInBounds_toArray, List.set_cons_zero, List.set_cons_succ, i64_w, i32_w]
      rfl
    refine one_ (i := 1) (N := some 36) #[true, true, true, false, false, false] rfl rfl (by kernel_rfl) (by decide) (fun K hK => ?_)
    refine goes_ Tryz.func50 (by kernel_rfl) rfl #[.agg #[.int .i64 a0_0, .int .i64 a0_1, .int .i64 a0_2, .int .i64 a0_3]] (by rfl) rfl rfl (by (try simp only [List.map_toArray, List.map_cons, List.map_nil]); first | done | rfl | (simp only [List.length_drop, List.length_take]; rfl)) ?_
    with_reducible refine (guidevaneref06_GateErr.calls k a0_0 a0_1 a0_2 a0_3 t531 _ A9.out).mono ?_
    rintro e w27 ⟨rfl, hb⟩
    refine ⟨_, rfl, ?_⟩
    have n0_ := Aside0.mk (blk_below (g := gb518) (o := .cells #[.int .i64 a0_0, .int .i64 a0_1, .int .i64 a0_2, .int .i64 a0_3] 75 (0, 0)) (by (with_reducible repeat (first | refine blk_drewN ?_ _ | refine blk_drew ?_ | refine blk_alloc ?_ _)); exact BK518.out) hb)
    have n1_ := Aside0.mk (blk_below (g := gb519) (o := .cells #[.int .i64 a1_0, .int .i64 a1_1, .int .i64 a1_2, .int .i64 a1_3] 77 (0, 0)) (by (with_reducible repeat (first | refine blk_drewN ?_ _ | refine blk_drew ?_ | refine blk_alloc ?_ _)); exact BK519.out) hb)
    have n2_ := Aside0.mk (blk_below (g := gb528) (o := .cells #[.int .i64 t523, .int .i64 t524, .int .i64 t525, .int .i64 t526] 75 (0, 0)) (by (with_reducible repeat (first | refine blk_drewN ?_ _ | refine blk_drew ?_ | refine blk_alloc ?_ _)); exact BK528.out) hb)
    have n3_ := Aside0.mk (below_step (by repeat (first | (with_reducible first | exact HB.out | apply below_alloc | apply pw_below_drewN | apply below_drew1 | refine below_set ?_ GE518.out | refine below_set ?_ GE519.out | refine below_set ?_ GE528.out) | exact HB.out)) hb)
    clear BK518
    clear BK519
    clear BK528
    clear HB
    have BK518 := n0_
    have BK519 := n1_
    have BK528 := n2_
    have HB := n3_
    clear n0_ n1_ n2_ n3_
    (try clear hb)
    (try clear hb2)
    (try clear hk)
    (try clear hi)
    refine hK.out _ _ ⟨(blk_cell BK518.out 0).trans rfl, (blk_cell BK518.out 1).trans rfl, (blk_cell BK518.out 2).trans rfl, (blk_cell BK518.out 3).trans rfl, (blk_cell BK519.out 0).trans rfl, (blk_cell BK519.out 1).trans rfl, (blk_cell BK519.out 2).trans rfl, (blk_cell BK519.out 3).trans rfl⟩ (fun hHeld => ?_)
    clear hK K
    refine norm_ (a' := ?_) ?_ ?_
    rotate_left
    · show Act.put _ (some 36) _ = _
      simp only [Act.put, List.setIfInBounds_toArray, List.set_cons_zero, List.set_cons_succ, i64_w, i32_w]
      rfl
    refine one_ (i := 3) (N := some 38) #[true, true, true, true, false, false] rfl rfl (by kernel_rfl) (by decide) (fun K hK => ?_)
    refine goes_ Tryz.func51 (by kernel_rfl) rfl #[.agg #[.int .i64 a1_0, .int .i64 a1_1, .int .i64 a1_2, .int .i64 a1_3]] (by rfl) rfl rfl (by (try simp only [List.map_toArray, List.map_cons, List.map_nil]); first | done | rfl | (simp only [List.length_drop, List.length_take]; rfl)) ?_
    with_reducible refine (guidevaneref06_RulesErr.calls a1_0 a1_1 a1_2 a1_3 t532 _ A10.out).mono ?_
    rintro e w28 ⟨rfl, hb⟩
    refine ⟨_, rfl, ?_⟩
    have n0_ := Aside0.mk (blk_below (g := gb518) (o := .cells #[.int .i64 a0_0, .int .i64 a0_1, .int .i64 a0_2, .int .i64 a0_3] 75 (0, 0)) (by (with_reducible repeat (first | refine blk_drewN ?_ _ | refine blk_drew ?_ | refine blk_alloc ?_ _)); exact BK518.out) hb)
    have n1_ := Aside0.mk (blk_below (g := gb519) (o := .cells #[.int .i64 a1_0, .int .i64 a1_1, .int .i64 a1_2, .int .i64 a1_3] 77 (0, 0)) (by (with_reducible repeat (first | refine blk_drewN ?_ _ | refine blk_drew ?_ | refine blk_alloc ?_ _)); exact BK519.out) hb)
    have n2_ := Aside0.mk (blk_below (g := gb528) (o := .cells #[.int .i64 t523, .int .i64 t524, .int .i64 t525, .int .i64 t526] 75 (0, 0)) (by (with_reducible repeat (first | refine blk_drewN ?_ _ | refine blk_drew ?_ | refine blk_alloc ?_ _)); exact BK528.out) hb)
    have n3_ := Aside0.mk (below_step (by repeat (first | (with_reducible first | exact HB.out | apply below_alloc | apply pw_below_drewN | apply below_drew1 | refine below_set ?_ GE518.out | refine below_set ?_ GE519.out | refine below_set ?_ GE528.out) | exact HB.out)) hb)
    clear BK518
    clear BK519
    clear BK528
    clear HB
    have BK518 := n0_
    have BK519 := n1_
    have BK528 := n2_
    have HB := n3_
    clear n0_ n1_ n2_ n3_
    (try clear hb)
    (try clear hb2)
    (try clear hk)
    (try clear hi)
    refine hK.out _ _ ⟨(blk_cell BK518.out 0).trans rfl, (blk_cell BK518.out 1).trans rfl, (blk_cell BK518.out 2).trans rfl, (blk_cell BK518.out 3).trans rfl, (blk_cell BK519.out 0).trans rfl, (blk_cell BK519.out 1).trans rfl, (blk_cell BK519.out 2).trans rfl, (blk_cell BK519.out 3).trans rfl⟩ (fun hHeld => ?_)
    clear hK K
    refine norm_ (a' := ?_) ?_ ?_
    rotate_left
    · show Act.put _ (some 38) _ = _
      simp only [Act.put, List.setIfInBounds_toArray, List.set_cons_zero, List.set_cons_succ, i64_w, i32_w]
      rfl
    refine pure_ (i := 4) (N := some 13) (v := ?_) (a' := ?_) #[true, true, true, true, true, false] rfl rfl (by kernel_rfl) (fun _ _ _ h => h) (Or.inl ⟨by rfl, ?_⟩) ?_ ?_
    rotate_left
    · intro w'
      go_simp
      with_reducible rfl
    rotate_left
    · simp only [Act.put, List.setIfInBounds_toArray, List.set_cons_zero, List.set_cons_succ, i64_w, i32_w]
      rfl
    refine pure_ (i := 5) (N := some 14) (v := ?_) (a' := ?_) #[true, true, true, true, true, true] rfl rfl (by kernel_rfl) (fun _ _ _ h => h) (Or.inl ⟨by rfl, ?_⟩) ?_ ?_
    rotate_left
    · intro w'
      go_simp
      with_reducible rfl
    rotate_left
    · simp only [Act.put, List.setIfInBounds_toArray, List.set_cons_zero, List.set_cons_succ, i64_w, i32_w]
      rfl
    refine done_ (by kernel_rfl) ?_
    go_upto_region 7 with (fail)
    go_cut [48] (fun v48 wc => ∃ (kq : Nat) (x48_10 : Bool), v48 = .bool x48_10 ∧ Aside0 (guidevanelaw06_GovernorGates.j0 kq a2 t521 t522 t527 t529 t530 t531 t532 x48_10 a0_0 a0_1 a0_2 a0_3 a1_0 a1_1 a1_2 a1_3 t523 t524 t525 t526 = some r) ∧ Aside0 (kq ≤ k) ∧ Aside0 (wc.heap[gb518]? = some (.cells #[.int .i64 a0_0, .int .i64 a0_1, .int .i64 a0_2, .int .i64 a0_3] 75 (0, 0))) ∧ Aside0 (wc.heap[gb519]? = some (.cells #[.int .i64 a1_0, .int .i64 a1_1, .int .i64 a1_2, .int .i64 a1_3] 77 (0, 0))) ∧ Aside0 (wc.heap[gb528]? = some (.cells #[.int .i64 t523, .int .i64 t524, .int .i64 t525, .int .i64 t526] 75 (0, 0))) ∧ Aside0 (Below w.heap.size w wc))
    case first =>
      have H := HC11.out
      clear HC11
      replace H := Option.bind_eq_some_iff.mp H
      obtain ⟨t533, A290, H⟩ := H
      replace H : (if t533 = t531 then ((governor_CheckRules.f a1_0 a1_1 a1_2 a1_3).bind fun t534 => (guidevanelaw06_GovernorGates.j0 k a2 t521 t522 t527 t529 t530 t531 t532 (t534 != t532) a0_0 a0_1 a0_2 a0_3 a1_0 a1_1 a1_2 a1_3 t523 t524 t525 t526)) else (guidevanelaw06_GovernorGates.j0 k a2 t521 t522 t527 t529 t530 t531 t532 true a0_0 a0_1 a0_2 a0_3 a1_0 a1_1 a1_2 a1_3 t523 t524 t525 t526)) = some r := H
      have A29 := Aside0.mk A290
      clear A290
      by_cases c30 : t533 = t531
      · rw [if_pos c30] at H
        have c30b0 : (t533 == t531) = true := beq_iff_eq.mpr c30
        have c30b1 : (t533 != t531) = false := bne_eq_false_iff_eq.mpr c30
        clear c30
        (first | rw [c30b0] | (simp only [i64_w, i32_w]; rw [c30b0]) | skip)
        replace H := Option.bind_eq_some_iff.mp H
        obtain ⟨t534, A310, H⟩ := H
        replace H : (guidevanelaw06_GovernorGates.j0 k a2 t521 t522 t527 t529 t530 t531 t532 (t534 != t532) a0_0 a0_1 a0_2 a0_3 a1_0 a1_1 a1_2 a1_3 t523 t524 t525 t526) = some r := H
        have A31 := Aside0.mk A310
        clear A310
        have H' := Aside0.mk H
        clear H
        have hnb32 := NB518_519.out
        have hnc32 := NB519_518.out
        have hnb33 := NB518_528.out
        have hnc33 := NB528_518.out
        have hcz34_0 : w28.cell? ⟨gb518, 0, none⟩ = some (.int .i64 a0_0) := (blk_cell BK518.out 0).trans rfl
        have hcz34_1 : w28.cell? ⟨gb518, 1, none⟩ = some (.int .i64 a0_1) := (blk_cell BK518.out 1).trans rfl
        have hcz34_2 : w28.cell? ⟨gb518, 2, none⟩ = some (.int .i64 a0_2) := (blk_cell BK518.out 2).trans rfl
        have hcz34_3 : w28.cell? ⟨gb518, 3, none⟩ = some (.int .i64 a0_3) := (blk_cell BK518.out 3).trans rfl
        have hfz34_0 := blk_frozen BK518.out 0
        have hfz34_1 := blk_frozen BK518.out 1
        have hfz34_2 := blk_frozen BK518.out 2
        have hfz34_3 := blk_frozen BK518.out 3
        go_wp2_with (first | ((with_reducible refine gate_callee (f := 52) rfl ?_); refine goesL_ (some 40) rfl rfl Tryz.func52 (by kernel_rfl) rfl #[.agg #[.int .i64 a0_0, .int .i64 a0_1, .int .i64 a0_2, .int .i64 a0_3]] rfl (by (try simp only [List.map_toArray, List.map_cons, List.map_nil]); first | done | rfl | (simp only [List.length_drop, List.length_take]; rfl)) ?_; (with_reducible refine (governor_CheckGate.calls k a0_0 a0_1 a0_2 a0_3 t533 _ A29.out).mono ?_); rintro e w35 ⟨rfl, hb⟩; refine ⟨_, rfl, ?_⟩; have n0_ := Aside0.mk (blk_below (g := gb518) (o := .cells #[.int .i64 a0_0, .int .i64 a0_1, .int .i64 a0_2, .int .i64 a0_3] 75 (0, 0)) (by (with_reducible repeat (first | refine blk_drewN ?_ _ | refine blk_drew ?_ | refine blk_alloc ?_ _)); exact BK518.out) hb); have n1_ := Aside0.mk (blk_below (g := gb519) (o := .cells #[.int .i64 a1_0, .int .i64 a1_1, .int .i64 a1_2, .int .i64 a1_3] 77 (0, 0)) (by (with_reducible repeat (first | refine blk_drewN ?_ _ | refine blk_drew ?_ | refine blk_alloc ?_ _)); exact BK519.out) hb); have n2_ := Aside0.mk (blk_below (g := gb528) (o := .cells #[.int .i64 t523, .int .i64 t524, .int .i64 t525, .int .i64 t526] 75 (0, 0)) (by (with_reducible repeat (first | refine blk_drewN ?_ _ | refine blk_drew ?_ | refine blk_alloc ?_ _)); exact BK528.out) hb); have n3_ := Aside0.mk (below_step (by repeat (first | (with_reducible first | exact HB.out | apply below_alloc | apply pw_below_drewN | apply below_drew1 | refine below_set ?_ GE518.out | refine below_set ?_ GE519.out | refine below_set ?_ GE528.out) | exact HB.out)) hb); clear BK518; clear BK519; clear BK528; clear HB; have BK518 := n0_; have BK519 := n1_; have BK528 := n2_; have HB := n3_; clear n0_ n1_ n2_ n3_; (try clear hb); (try clear hb2); (try clear hk); (try clear hi); have hnb36 := NB519_528.out; have hnc36 := NB528_519.out; have hcz37_0 : w35.cell? ⟨gb519, 0, none⟩ = some (.int .i64 a1_0) := (blk_cell BK519.out 0).trans rfl; have hcz37_1 : w35.cell? ⟨gb519, 1, none⟩ = some (.int .i64 a1_1) := (blk_cell BK519.out 1).trans rfl; have hcz37_2 : w35.cell? ⟨gb519, 2, none⟩ = some (.int .i64 a1_2) := (blk_cell BK519.out 2).trans rfl; have hcz37_3 : w35.cell? ⟨gb519, 3, none⟩ = some (.int .i64 a1_3) := (blk_cell BK519.out 3).trans rfl; have hfz37_0 := blk_frozen BK519.out 0; have hfz37_1 := blk_frozen BK519.out 1; have hfz37_2 := blk_frozen BK519.out 2; have hfz37_3 := blk_frozen BK519.out 3) | (go_at_call 53; (with_reducible refine (governor_CheckRules.calls a1_0 a1_1 a1_2 a1_3 t534 _ A31.out).mono ?_); rintro e w38 ⟨rfl, hb⟩; have n0_ := Aside0.mk (blk_below (g := gb518) (o := .cells #[.int .i64 a0_0, .int .i64 a0_1, .int .i64 a0_2, .int .i64 a0_3] 75 (0, 0)) (by (with_reducible repeat (first | refine blk_drewN ?_ _ | refine blk_drew ?_ | refine blk_alloc ?_ _)); exact BK518.out) hb); have n1_ := Aside0.mk (blk_below (g := gb519) (o := .cells #[.int .i64 a1_0, .int .i64 a1_1, .int .i64 a1_2, .int .i64 a1_3] 77 (0, 0)) (by (with_reducible repeat (first | refine blk_drewN ?_ _ | refine blk_drew ?_ | refine blk_alloc ?_ _)); exact BK519.out) hb); have n2_ := Aside0.mk (blk_below (g := gb528) (o := .cells #[.int .i64 t523, .int .i64 t524, .int .i64 t525, .int .i64 t526] 75 (0, 0)) (by (with_reducible repeat (first | refine blk_drewN ?_ _ | refine blk_drew ?_ | refine blk_alloc ?_ _)); exact BK528.out) hb); have n3_ := Aside0.mk (below_step (by repeat (first | (with_reducible first | exact HB.out | apply below_alloc | apply pw_below_drewN | apply below_drew1 | refine below_set ?_ GE518.out | refine below_set ?_ GE519.out | refine below_set ?_ GE528.out) | exact HB.out)) hb); clear BK518; clear BK519; clear BK528; clear HB; have BK518 := n0_; have BK519 := n1_; have BK528 := n2_; have HB := n3_; clear n0_ n1_ n2_ n3_; (try clear hb); (try clear hb2); (try clear hk); (try clear hi)))
        go_meet
        case rel => exact ⟨_, ((t534 != t532)), (by first | rfl | (simp; done) | (simp [*]; done)), H', ⟨by first | omega | exact Nat.le_refl _⟩, ⟨by (with_reducible repeat (first | refine blk_drewN ?_ _ | refine blk_drew ?_ | refine blk_alloc ?_ _)); exact BK518.out⟩, ⟨by (with_reducible repeat (first | refine blk_drewN ?_ _ | refine blk_drew ?_ | refine blk_alloc ?_ _)); exact BK519.out⟩, ⟨by (with_reducible repeat (first | refine blk_drewN ?_ _ | refine blk_drew ?_ | refine blk_alloc ?_ _)); exact BK528.out⟩, ⟨by repeat (first | (with_reducible first | exact HB.out | apply below_alloc | apply pw_below_drewN | apply below_drew1 | refine below_set ?_ GE518.out | refine below_set ?_ GE519.out | refine below_set ?_ GE528.out) | exact HB.out)⟩⟩
      · rw [if_neg c30] at H
        have c30b0 : (t533 == t531) = false := beq_eq_false_iff_ne.mpr c30
        have c30b1 : (t533 != t531) = true := bne_iff_ne.mpr c30
        (first | rw [c30b0] | (simp only [i64_w, i32_w]; rw [c30b0]) | skip)
        have H' := Aside0.mk H
        clear H
        have hnb39 := NB518_519.out
        have hnc39 := NB519_518.out
        have hnb40 := NB518_528.out
        have hnc40 := NB528_518.out
        have hcz41_0 : w28.cell? ⟨gb518, 0, none⟩ = some (.int .i64 a0_0) := (blk_cell BK518.out 0).trans rfl
        have hcz41_1 : w28.cell? ⟨gb518, 1, none⟩ = some (.int .i64 a0_1) := (blk_cell BK518.out 1).trans rfl
        have hcz41_2 : w28.cell? ⟨gb518, 2, none⟩ = some (.int .i64 a0_2) := (blk_cell BK518.out 2).trans rfl
        have hcz41_3 : w28.cell? ⟨gb518, 3, none⟩ = some (.int .i64 a0_3) := (blk_cell BK518.out 3).trans rfl
        have hfz41_0 := blk_frozen BK518.out 0
        have hfz41_1 := blk_frozen BK518.out 1
        have hfz41_2 := blk_frozen BK518.out 2
        have hfz41_3 := blk_frozen BK518.out 3
        go_wp2_with (first | ((with_reducible refine gate_callee (f := 52) rfl ?_); refine goesL_ (some 40) rfl rfl Tryz.func52 (by kernel_rfl) rfl #[.agg #[.int .i64 a0_0, .int .i64 a0_1, .int .i64 a0_2, .int .i64 a0_3]] rfl (by (try simp only [List.map_toArray, List.map_cons, List.map_nil]); first | done | rfl | (simp only [List.length_drop, List.length_take]; rfl)) ?_; (with_reducible refine (governor_CheckGate.calls k a0_0 a0_1 a0_2 a0_3 t533 _ A29.out).mono ?_); rintro e w42 ⟨rfl, hb⟩; refine ⟨_, rfl, ?_⟩; have n0_ := Aside0.mk (blk_below (g := gb518) (o := .cells #[.int .i64 a0_0, .int .i64 a0_1, .int .i64 a0_2, .int .i64 a0_3] 75 (0, 0)) (by (with_reducible repeat (first | refine blk_drewN ?_ _ | refine blk_drew ?_ | refine blk_alloc ?_ _)); exact BK518.out) hb); have n1_ := Aside0.mk (blk_below (g := gb519) (o := .cells #[.int .i64 a1_0, .int .i64 a1_1, .int .i64 a1_2, .int .i64 a1_3] 77 (0, 0)) (by (with_reducible repeat (first | refine blk_drewN ?_ _ | refine blk_drew ?_ | refine blk_alloc ?_ _)); exact BK519.out) hb); have n2_ := Aside0.mk (blk_below (g := gb528) (o := .cells #[.int .i64 t523, .int .i64 t524, .int .i64 t525, .int .i64 t526] 75 (0, 0)) (by (with_reducible repeat (first | refine blk_drewN ?_ _ | refine blk_drew ?_ | refine blk_alloc ?_ _)); exact BK528.out) hb); have n3_ := Aside0.mk (below_step (by repeat (first | (with_reducible first | exact HB.out | apply below_alloc | apply pw_below_drewN | apply below_drew1 | refine below_set ?_ GE518.out | refine below_set ?_ GE519.out | refine below_set ?_ GE528.out) | exact HB.out)) hb); clear BK518; clear BK519; clear BK528; clear HB; have BK518 := n0_; have BK519 := n1_; have BK528 := n2_; have HB := n3_; clear n0_ n1_ n2_ n3_; (try clear hb); (try clear hb2); (try clear hk); (try clear hi)))
        go_meet
        case rel => exact ⟨_, (true), (by first | rfl | (simp; done) | (simp [*]; done)), H', ⟨by first | omega | exact Nat.le_refl _⟩, ⟨by (with_reducible repeat (first | refine blk_drewN ?_ _ | refine blk_drew ?_ | refine blk_alloc ?_ _)); exact BK518.out⟩, ⟨by (with_reducible repeat (first | refine blk_drewN ?_ _ | refine blk_drew ?_ | refine blk_alloc ?_ _)); exact BK519.out⟩, ⟨by (with_reducible repeat (first | refine blk_drewN ?_ _ | refine blk_drew ?_ | refine blk_alloc ?_ _)); exact BK528.out⟩, ⟨by repeat (first | (with_reducible first | exact HB.out | apply below_alloc | apply pw_below_drewN | apply below_drew1 | refine below_set ?_ GE518.out | refine below_set ?_ GE519.out | refine below_set ?_ GE528.out) | exact HB.out)⟩⟩
    case rest =>
      clear HC11
      try clear c1
      try clear c2
      try clear p2
      try clear c3
      try clear c4
      try clear c5
      try clear c7
      try clear c15
      try clear c16
      try clear c21
      try clear c22
      try clear c30
      try clear c30b0
      try clear c30b1
      try clear c32
      try clear c33
      try clear c36
      try clear c39
      try clear c40
      try clear hcz16_0
      try clear hcz16_1
      try clear hcz16_2
      try clear hcz16_3
      try clear hcz18_0
      try clear hcz18_1
      try clear hcz18_2
      try clear hcz18_3
      try clear hcz23_0
      try clear hcz23_1
      try clear hcz23_2
      try clear hcz23_3
      try clear hcz24_0
      try clear hcz24_1
      try clear hcz24_2
      try clear hcz24_3
      try clear hcz34_0
      try clear hcz34_1
      try clear hcz34_2
      try clear hcz34_3
      try clear hcz37_0
      try clear hcz37_1
      try clear hcz37_2
      try clear hcz37_3
      try clear hcz41_0
      try clear hcz41_1
      try clear hcz41_2
      try clear hcz41_3
      try clear hfz16_0
      try clear hfz16_1
      try clear hfz16_2
      try clear hfz16_3
      try clear hfz18_0
      try clear hfz18_1
      try clear hfz18_2
      try clear hfz18_3
      try clear hfz23_0
      try clear hfz23_1
      try clear hfz23_2
      try clear hfz23_3
      try clear hfz24_0
      try clear hfz24_1
      try clear hfz24_2
      try clear hfz24_3
      try clear hfz34_0
      try clear hfz34_1
      try clear hfz34_2
      try clear hfz34_3
      try clear hfz37_0
      try clear hfz37_1
      try clear hfz37_2
      try clear hfz37_3
      try clear hfz41_0
      try clear hfz41_1
      try clear hfz41_2
      try clear hfz41_3
      obtain ⟨kq, x48_10, rfl, HA, HJ10, BK518, BK519, BK528, HB⟩ := hcut
      cases kq with
      | zero => exact absurd HA.out (by simp [guidevanelaw06_GovernorGates.j0])
      | succ kj10 =>
        have H := HA.out
        clear HA
        simp only [guidevanelaw06_GovernorGates.j0] at H
        by_cases c43 : x48_10 = true
        · subst c43
          have H1 : (some false) = some r := by rw [if_pos rfl] at H; exact H
          clear H
          have H := H1
          clear H1
          obtain rfl := Option.some.inj H
          go_wp2
          go_ret
          exact ⟨by first | rfl | (simp [errW_none, errW_some] <;> rfl) | (simp [*, errW_none, errW_some] <;> rfl), by repeat (first | (with_reducible first | exact HB.out | apply below_alloc | apply pw_below_drewN | apply below_drew1 | refine below_set ?_ GE518.out | refine below_set ?_ GE519.out | refine below_set ?_ GE528.out) | exact HB.out)⟩
        · replace c43 := Bool.eq_false_iff.mpr c43
          subst c43
          have H1 : (if t532 = 0 then ((guidevaneref06_SpeedErr.f a2).bind fun t535 => (guidevanelaw06_GovernorGates.j1 kj10 a2 t521 t522 t527 t529 t530 t531 t535 a0_0 a0_1 a0_2 a0_3 a1_0 a1_1 a1_2 a1_3 t523 t524 t525 t526)) else (guidevanelaw06_GovernorGates.j1 kj10 a2 t521 t522 t527 t529 t530 t531 t532 a0_0 a0_1 a0_2 a0_3 a1_0 a1_1 a1_2 a1_3 t523 t524 t525 t526)) = some r := by rw [if_neg (show ¬ (false = true) by decide)] at H; exact H
          clear H
          have H := H1
          clear H1
          have HC44 := Aside0.mk H
          clear H
          go_upto_if 50 with (fail)
          go_cut [14] (fun v14 wc => ∃ (kq : Nat) (x14_43 : Int), v14 = .int .i64 x14_43 ∧ Aside0 (guidevanelaw06_GovernorGates.j1 kq a2 t521 t522 t527 t529 t530 t531 x14_43 a0_0 a0_1 a0_2 a0_3 a1_0 a1_1 a1_2 a1_3 t523 t524 t525 t526 = some r) ∧ Aside0 (kq ≤ kj10) ∧ Aside0 (wc.heap[gb518]? = some (.cells #[.int .i64 a0_0, .int .i64 a0_1, .int .i64 a0_2, .int .i64 a0_3] 75 (0, 0))) ∧ Aside0 (wc.heap[gb519]? = some (.cells #[.int .i64 a1_0, .int .i64 a1_1, .int .i64 a1_2, .int .i64 a1_3] 77 (0, 0))) ∧ Aside0 (wc.heap[gb528]? = some (.cells #[.int .i64 t523, .int .i64 t524, .int .i64 t525, .int .i64 t526] 75 (0, 0))) ∧ Aside0 (Below w.heap.size w wc))
          case first =>
            have H := HC44.out
            clear HC44
            by_cases c45 : t532 = 0
            · rw [if_pos c45] at H
              have c45b0 : (t532 == 0) = true := beq_iff_eq.mpr c45
              have c45b1 : (t532 != 0) = false := bne_eq_false_iff_eq.mpr c45
              clear c45
              (first | rw [c45b0] | (simp only [i64_w, i32_w]; rw [c45b0]) | skip)
              replace H := Option.bind_eq_some_iff.mp H
              obtain ⟨t535, A460, H⟩ := H
              replace H : (guidevanelaw06_GovernorGates.j1 kj10 a2 t521 t522 t527 t529 t530 t531 t535 a0_0 a0_1 a0_2 a0_3 a1_0 a1_1 a1_2 a1_3 t523 t524 t525 t526) = some r := H
              have A46 := Aside0.mk A460
              clear A460
              have H' := Aside0.mk H
              clear H
              go_wp2_with (first | ((with_reducible refine gate_callee (f := 54) rfl ?_); refine goesL_ (some 52) rfl rfl Tryz.func54 (by kernel_rfl) rfl #[.int .i64 a2] rfl (by (try simp only [List.map_toArray, List.map_cons, List.map_nil]); first | done | rfl | (simp only [List.length_drop, List.length_take]; rfl)) ?_; (with_reducible refine (guidevaneref06_SpeedErr.calls a2 t535 _ A46.out).mono ?_); rintro e w' ⟨rfl, ⟨nd, rfl⟩⟩; refine ⟨_, rfl, ?_⟩))
              go_meet
              case rel => exact ⟨_, (t535), (by first | rfl | (simp; done) | (simp [*]; done)), H', ⟨by have := HJ10.out; first | omega | exact Nat.le_refl _⟩, ⟨by (with_reducible repeat (first | refine blk_drewN ?_ _ | refine blk_drew ?_ | refine blk_alloc ?_ _)); exact BK518.out⟩, ⟨by (with_reducible repeat (first | refine blk_drewN ?_ _ | refine blk_drew ?_ | refine blk_alloc ?_ _)); exact BK519.out⟩, ⟨by (with_reducible repeat (first | refine blk_drewN ?_ _ | refine blk_drew ?_ | refine blk_alloc ?_ _)); exact BK528.out⟩, ⟨by repeat (first | (with_reducible first | exact HB.out | apply below_alloc | apply pw_below_drewN | apply below_drew1 | refine below_set ?_ GE518.out | refine below_set ?_ GE519.out | refine below_set ?_ GE528.out) | exact HB.out)⟩⟩
            · rw [if_neg c45] at H
              have c45b0 : (t532 == 0) = false := beq_eq_false_iff_ne.mpr c45
              have c45b1 : (t532 != 0) = true := bne_iff_ne.mpr c45
              (first | rw [c45b0] | (simp only [i64_w, i32_w]; rw [c45b0]) | skip)
              have H' := Aside0.mk H
              clear H
              go_wp2
              go_meet
              case rel => exact ⟨_, (t532), (by first | rfl | (simp; done) | (simp [*]; done)), H', ⟨by have := HJ10.out; first | omega | exact Nat.le_refl _⟩, ⟨by (with_reducible repeat (first | refine blk_drewN ?_ _ | refine blk_drew ?_ | refine blk_alloc ?_ _)); exact BK518.out⟩, ⟨by (with_reducible repeat (first | refine blk_drewN ?_ _ | refine blk_drew ?_ | refine blk_alloc ?_ _)); exact BK519.out⟩, ⟨by (with_reducible repeat (first | refine blk_drewN ?_ _ | refine blk_drew ?_ | refine blk_alloc ?_ _)); exact BK528.out⟩, ⟨by repeat (first | (with_reducible first | exact HB.out | apply below_alloc | apply pw_below_drewN | apply below_drew1 | refine below_set ?_ GE518.out | refine below_set ?_ GE519.out | refine below_set ?_ GE528.out) | exact HB.out)⟩⟩
          case rest =>
            clear HC44
            try clear c1
            try clear c2
            try clear p2
            try clear c3
            try clear c4
            try clear c5
            try clear c7
            try clear c15
            try clear c16
            try clear c21
            try clear c22
            try clear c30
            try clear c30b0
            try clear c30b1
            try clear c32
            try clear c33
            try clear c36
            try clear c39
            try clear c40
            try clear c43
            try clear c45
            try clear c45b0
            try clear c45b1
            try clear hcz16_0
            try clear hcz16_1
            try clear hcz16_2
            try clear hcz16_3
            try clear hcz18_0
            try clear hcz18_1
            try clear hcz18_2
            try clear hcz18_3
            try clear hcz23_0
            try clear hcz23_1
            try clear hcz23_2
            try clear hcz23_3
            try clear hcz24_0
            try clear hcz24_1
            try clear hcz24_2
            try clear hcz24_3
            try clear hcz34_0
            try clear hcz34_1
            try clear hcz34_2
            try clear hcz34_3
            try clear hcz37_0
            try clear hcz37_1
            try clear hcz37_2
            try clear hcz37_3
            try clear hcz41_0
            try clear hcz41_1
            try clear hcz41_2
            try clear hcz41_3
            try clear hfz16_0
            try clear hfz16_1
            try clear hfz16_2
            try clear hfz16_3
            try clear hfz18_0
            try clear hfz18_1
            try clear hfz18_2
            try clear hfz18_3
            try clear hfz23_0
            try clear hfz23_1
            try clear hfz23_2
            try clear hfz23_3
            try clear hfz24_0
            try clear hfz24_1
            try clear hfz24_2
            try clear hfz24_3
            try clear hfz34_0
            try clear hfz34_1
            try clear hfz34_2
            try clear hfz34_3
            try clear hfz37_0
            try clear hfz37_1
            try clear hfz37_2
            try clear hfz37_3
            try clear hfz41_0
            try clear hfz41_1
            try clear hfz41_2
            try clear hfz41_3
            try clear p2
            obtain ⟨kq, x14_43, rfl, HA, HJ43, BK518, BK519, BK528, HB⟩ := hcut
            cases kq with
            | zero => exact absurd HA.out (by simp [guidevanelaw06_GovernorGates.j1])
            | succ kj43 =>
              have H := HA.out
              clear HA
              simp only [guidevanelaw06_GovernorGates.j1] at H
              have HC47 := Aside0.mk H
              clear H
              go_upto_region 11 with (fail)
              go_cut [78] (fun v78 wc => ∃ (kq : Nat) (x78_46 : Bool), v78 = .bool x78_46 ∧ Aside0 (guidevanelaw06_GovernorGates.j2 kq a2 t527 t529 t530 t531 x78_46 a0_0 a0_1 a0_2 a0_3 t523 t524 t525 t526 = some r) ∧ Aside0 (kq ≤ kj43) ∧ Aside0 (wc.heap[gb518]? = some (.cells #[.int .i64 a0_0, .int .i64 a0_1, .int .i64 a0_2, .int .i64 a0_3] 75 (0, 0))) ∧ Aside0 (wc.heap[gb519]? = some (.cells #[.int .i64 a1_0, .int .i64 a1_1, .int .i64 a1_2, .int .i64 a1_3] 77 (0, 0))) ∧ Aside0 (wc.heap[gb528]? = some (.cells #[.int .i64 t523, .int .i64 t524, .int .i64 t525, .int .i64 t526] 75 (0, 0))) ∧ Aside0 (Below w.heap.size w wc))
              case first =>
                have H := HC47.out
                clear HC47
                by_cases c48 : x14_43 = 0
                · rw [if_pos c48] at H
                  have c48b0 : (x14_43 == 0) = true := beq_iff_eq.mpr c48
                  have c48b1 : (x14_43 != 0) = false := bne_eq_false_iff_eq.mpr c48
                  clear c48
                  (first | rw [c48b0] | (simp only [i64_w, i32_w]; rw [c48b0]) | skip)
                  by_cases c49 : t522 = 0
                  · rw [if_pos c49] at H
                    have c49b0 : (t522 == 0) = true := beq_iff_eq.mpr c49
                    have c49b1 : (t522 != 0) = false := bne_eq_false_iff_eq.mpr c49
                    clear c49
                    replace H := Option.bind_eq_some_iff.mp H
                    obtain ⟨t536, A500, H⟩ := H
                    replace H : (guidevanelaw06_GovernorGates.j2 kj43 a2 t527 t529 t530 t531 (t521 != t536) a0_0 a0_1 a0_2 a0_3 t523 t524 t525 t526) = some r := H
                    have A50 := Aside0.mk A500
                    clear A500
                    have H' := Aside0.mk H
                    clear H
                    have hnb51 := NB519_518.out
                    have hnc51 := NB518_519.out
                    have hnb52 := NB519_528.out
                    have hnc52 := NB528_519.out
                    have hcz53_0 : wc.cell? ⟨gb519, 0, none⟩ = some (.int .i64 a1_0) := (blk_cell BK519.out 0).trans rfl
                    have hcz53_1 : wc.cell? ⟨gb519, 1, none⟩ = some (.int .i64 a1_1) := (blk_cell BK519.out 1).trans rfl
                    have hcz53_2 : wc.cell? ⟨gb519, 2, none⟩ = some (.int .i64 a1_2) := (blk_cell BK519.out 2).trans rfl
                    have hcz53_3 : wc.cell? ⟨gb519, 3, none⟩ = some (.int .i64 a1_3) := (blk_cell BK519.out 3).trans rfl
                    have hfz53_0 := blk_frozen BK519.out 0
                    have hfz53_1 := blk_frozen BK519.out 1
                    have hfz53_2 := blk_frozen BK519.out 2
                    have hfz53_3 := blk_frozen BK519.out 3
                    go_wp2_with (first | (go_at_call 55; (with_reducible refine (guidevaneref06_Wanted.calls a1_0 a1_1 a1_2 a1_3 a2 t536 _ A50.out).mono ?_); rintro e w54 ⟨rfl, hb⟩; have n0_ := Aside0.mk (blk_below (g := gb518) (o := .cells #[.int .i64 a0_0, .int .i64 a0_1, .int .i64 a0_2, .int .i64 a0_3] 75 (0, 0)) (by (with_reducible repeat (first | refine blk_drewN ?_ _ | refine blk_drew ?_ | refine blk_alloc ?_ _)); exact BK518.out) hb); have n1_ := Aside0.mk (blk_below (g := gb519) (o := .cells #[.int .i64 a1_0, .int .i64 a1_1, .int .i64 a1_2, .int .i64 a1_3] 77 (0, 0)) (by (with_reducible repeat (first | refine blk_drewN ?_ _ | refine blk_drew ?_ | refine blk_alloc ?_ _)); exact BK519.out) hb); have n2_ := Aside0.mk (blk_below (g := gb528) (o := .cells #[.int .i64 t523, .int .i64 t524, .int .i64 t525, .int .i64 t526] 75 (0, 0)) (by (with_reducible repeat (first | refine blk_drewN ?_ _ | refine blk_drew ?_ | refine blk_alloc ?_ _)); exact BK528.out) hb); have n3_ := Aside0.mk (below_step (by repeat (first | (with_reducible first | exact HB.out | apply below_alloc | apply pw_below_drewN | apply below_drew1 | refine below_set ?_ GE518.out | refine below_set ?_ GE519.out | refine below_set ?_ GE528.out) | exact HB.out)) hb); clear BK518; clear BK519; clear BK528; clear HB; have BK518 := n0_; have BK519 := n1_; have BK528 := n2_; have HB := n3_; clear n0_ n1_ n2_ n3_; (try clear hb); (try clear hb2); (try clear hk); (try clear hi)))
                    go_meet
                    case rel => exact ⟨_, ((t521 != t536)), (by first | rfl | (simp; done) | (simp [*]; done)), H', ⟨by have := HJ10.out; have := HJ43.out; first | omega | exact Nat.le_refl _⟩, ⟨by (with_reducible repeat (first | refine blk_drewN ?_ _ | refine blk_drew ?_ | refine blk_alloc ?_ _)); exact BK518.out⟩, ⟨by (with_reducible repeat (first | refine blk_drewN ?_ _ | refine blk_drew ?_ | refine blk_alloc ?_ _)); exact BK519.out⟩, ⟨by (with_reducible repeat (first | refine blk_drewN ?_ _ | refine blk_drew ?_ | refine blk_alloc ?_ _)); exact BK528.out⟩, ⟨by repeat (first | (with_reducible first | exact HB.out | apply below_alloc | apply pw_below_drewN | apply below_drew1 | refine below_set ?_ GE518.out | refine below_set ?_ GE519.out | refine below_set ?_ GE528.out) | exact HB.out)⟩⟩
                  · rw [if_neg c49] at H
                    have c49b0 : (t522 == 0) = false := beq_eq_false_iff_ne.mpr c49
                    have c49b1 : (t522 != 0) = true := bne_iff_ne.mpr c49
                    have H' := Aside0.mk H
                    clear H
                    go_wp2
                    go_meet
                    case rel => exact ⟨_, (true), (by first | rfl | (simp; done) | (simp [*]; done)), H', ⟨by have := HJ10.out; have := HJ43.out; first | omega | exact Nat.le_refl _⟩, ⟨by (with_reducible repeat (first | refine blk_drewN ?_ _ | refine blk_drew ?_ | refine blk_alloc ?_ _)); exact BK518.out⟩, ⟨by (with_reducible repeat (first | refine blk_drewN ?_ _ | refine blk_drew ?_ | refine blk_alloc ?_ _)); exact BK519.out⟩, ⟨by (with_reducible repeat (first | refine blk_drewN ?_ _ | refine blk_drew ?_ | refine blk_alloc ?_ _)); exact BK528.out⟩, ⟨by repeat (first | (with_reducible first | exact HB.out | apply below_alloc | apply pw_below_drewN | apply below_drew1 | refine below_set ?_ GE518.out | refine below_set ?_ GE519.out | refine below_set ?_ GE528.out) | exact HB.out)⟩⟩
                · rw [if_neg c48] at H
                  have c48b0 : (x14_43 == 0) = false := beq_eq_false_iff_ne.mpr c48
                  have c48b1 : (x14_43 != 0) = true := bne_iff_ne.mpr c48
                  (first | rw [c48b0] | (simp only [i64_w, i32_w]; rw [c48b0]) | skip)
                  by_cases c55 : t522 = x14_43
                  · rw [if_pos c55] at H
                    have c55b0 : (t522 == x14_43) = true := beq_iff_eq.mpr c55
                    have c55b1 : (t522 != x14_43) = false := bne_eq_false_iff_eq.mpr c55
                    clear c55
                    by_cases c56 : t521 = 0
                    · rw [if_pos c56] at H
                      have c56b0 : (t521 == 0) = true := beq_iff_eq.mpr c56
                      have c56b1 : (t521 != 0) = false := bne_eq_false_iff_eq.mpr c56
                      clear c56
                      have H' := Aside0.mk H
                      clear H
                      go_wp2
                      go_meet
                      case rel => exact ⟨_, (false), (by first | rfl | (simp; done) | (simp [*]; done)), H', ⟨by have := HJ10.out; have := HJ43.out; first | omega | exact Nat.le_refl _⟩, ⟨by (with_reducible repeat (first | refine blk_drewN ?_ _ | refine blk_drew ?_ | refine blk_alloc ?_ _)); exact BK518.out⟩, ⟨by (with_reducible repeat (first | refine blk_drewN ?_ _ | refine blk_drew ?_ | refine blk_alloc ?_ _)); exact BK519.out⟩, ⟨by (with_reducible repeat (first | refine blk_drewN ?_ _ | refine blk_drew ?_ | refine blk_alloc ?_ _)); exact BK528.out⟩, ⟨by repeat (first | (with_reducible first | exact HB.out | apply below_alloc | apply pw_below_drewN | apply below_drew1 | refine below_set ?_ GE518.out | refine below_set ?_ GE519.out | refine below_set ?_ GE528.out) | exact HB.out)⟩⟩
                    · rw [if_neg c56] at H
                      have c56b0 : (t521 == 0) = false := beq_eq_false_iff_ne.mpr c56
                      have c56b1 : (t521 != 0) = true := bne_iff_ne.mpr c56
                      have H' := Aside0.mk H
                      clear H
                      go_wp2
                      go_meet
                      case rel => exact ⟨_, (true), (by first | rfl | (simp; done) | (simp [*]; done)), H', ⟨by have := HJ10.out; have := HJ43.out; first | omega | exact Nat.le_refl _⟩, ⟨by (with_reducible repeat (first | refine blk_drewN ?_ _ | refine blk_drew ?_ | refine blk_alloc ?_ _)); exact BK518.out⟩, ⟨by (with_reducible repeat (first | refine blk_drewN ?_ _ | refine blk_drew ?_ | refine blk_alloc ?_ _)); exact BK519.out⟩, ⟨by (with_reducible repeat (first | refine blk_drewN ?_ _ | refine blk_drew ?_ | refine blk_alloc ?_ _)); exact BK528.out⟩, ⟨by repeat (first | (with_reducible first | exact HB.out | apply below_alloc | apply pw_below_drewN | apply below_drew1 | refine below_set ?_ GE518.out | refine below_set ?_ GE519.out | refine below_set ?_ GE528.out) | exact HB.out)⟩⟩
                  · rw [if_neg c55] at H
                    have c55b0 : (t522 == x14_43) = false := beq_eq_false_iff_ne.mpr c55
                    have c55b1 : (t522 != x14_43) = true := bne_iff_ne.mpr c55
                    have H' := Aside0.mk H
                    clear H
                    go_wp2
                    go_meet
                    case rel => exact ⟨_, (true), (by first | rfl | (simp; done) | (simp [*]; done)), H', ⟨by have := HJ10.out; have := HJ43.out; first | omega | exact Nat.le_refl _⟩, ⟨by (with_reducible repeat (first | refine blk_drewN ?_ _ | refine blk_drew ?_ | refine blk_alloc ?_ _)); exact BK518.out⟩, ⟨by (with_reducible repeat (first | refine blk_drewN ?_ _ | refine blk_drew ?_ | refine blk_alloc ?_ _)); exact BK519.out⟩, ⟨by (with_reducible repeat (first | refine blk_drewN ?_ _ | refine blk_drew ?_ | refine blk_alloc ?_ _)); exact BK528.out⟩, ⟨by repeat (first | (with_reducible first | exact HB.out | apply below_alloc | apply pw_below_drewN | apply below_drew1 | refine below_set ?_ GE518.out | refine below_set ?_ GE519.out | refine below_set ?_ GE528.out) | exact HB.out)⟩⟩
              case rest =>
                clear HC47
                try clear c1
                try clear c2
                try clear p2
                try clear c3
                try clear c4
                try clear c5
                try clear c7
                try clear c15
                try clear c16
                try clear c21
                try clear c22
                try clear c30
                try clear c30b0
                try clear c30b1
                try clear c32
                try clear c33
                try clear c36
                try clear c39
                try clear c40
                try clear c43
                try clear c45
                try clear c45b0
                try clear c45b1
                try clear c47
                try clear c48
                try clear c48b0
                try clear c48b1
                try clear c49
                try clear c49b0
                try clear c49b1
                try clear c50
                try clear c51
                try clear c52
                try clear c54
                try clear c55
                try clear c55b0
                try clear c55b1
                try clear c56
                try clear c56b0
                try clear c56b1
                try clear hcz16_0
                try clear hcz16_1
                try clear hcz16_2
                try clear hcz16_3
                try clear hcz18_0
                try clear hcz18_1
                try clear hcz18_2
                try clear hcz18_3
                try clear hcz23_0
                try clear hcz23_1
                try clear hcz23_2
                try clear hcz23_3
                try clear hcz24_0
                try clear hcz24_1
                try clear hcz24_2
                try clear hcz24_3
                try clear hcz34_0
                try clear hcz34_1
                try clear hcz34_2
                try clear hcz34_3
                try clear hcz37_0
                try clear hcz37_1
                try clear hcz37_2
                try clear hcz37_3
                try clear hcz41_0
                try clear hcz41_1
                try clear hcz41_2
                try clear hcz41_3
                try clear hcz53_0
                try clear hcz53_1
                try clear hcz53_2
                try clear hcz53_3
                try clear hfz16_0
                try clear hfz16_1
                try clear hfz16_2
                try clear hfz16_3
                try clear hfz18_0
                try clear hfz18_1
                try clear hfz18_2
                try clear hfz18_3
                try clear hfz23_0
                try clear hfz23_1
                try clear hfz23_2
                try clear hfz23_3
                try clear hfz24_0
                try clear hfz24_1
                try clear hfz24_2
                try clear hfz24_3
                try clear hfz34_0
                try clear hfz34_1
                try clear hfz34_2
                try clear hfz34_3
                try clear hfz37_0
                try clear hfz37_1
                try clear hfz37_2
                try clear hfz37_3
                try clear hfz41_0
                try clear hfz41_1
                try clear hfz41_2
                try clear hfz41_3
                try clear hfz53_0
                try clear hfz53_1
                try clear hfz53_2
                try clear hfz53_3
                try clear p2
                obtain ⟨kq, x78_46, rfl, HA, HJ46, BK518, BK519, BK528, HB⟩ := hcut
                cases kq with
                | zero => exact absurd HA.out (by simp [guidevanelaw06_GovernorGates.j2])
                | succ kj46 =>
                  have H := HA.out
                  clear HA
                  simp only [guidevanelaw06_GovernorGates.j2] at H
                  by_cases c57 : x78_46 = true
                  · subst c57
                    have H1 : (some false) = some r := by rw [if_pos rfl] at H; exact H
                    clear H
                    have H := H1
                    clear H1
                    obtain rfl := Option.some.inj H
                    go_wp2
                    go_ret
                    exact ⟨by first | rfl | (simp [errW_none, errW_some] <;> rfl) | (simp [*, errW_none, errW_some] <;> rfl), by repeat (first | (with_reducible first | exact HB.out | apply below_alloc | apply pw_below_drewN | apply below_drew1 | refine below_set ?_ GE518.out | refine below_set ?_ GE519.out | refine below_set ?_ GE528.out) | exact HB.out)⟩
                  · replace c57 := Bool.eq_false_iff.mpr c57
                    subst c57
                    have H1 : (if t531 = 0 then ((guidevaneref06_SpeedErr.f a2).bind fun t537 => (guidevanelaw06_GovernorGates.j3 kj46 a2 t527 t529 t530 t537 a0_0 a0_1 a0_2 a0_3 t523 t524 t525 t526)) else (guidevanelaw06_GovernorGates.j3 kj46 a2 t527 t529 t530 t531 a0_0 a0_1 a0_2 a0_3 t523 t524 t525 t526)) = some r := by rw [if_neg (show ¬ (false = true) by decide)] at H; exact H
                    clear H
                    have H := H1
                    clear H1
                    have HC58 := Aside0.mk H
                    clear H
                    go_upto_if 80 with (fail)
                    go_cut [13] (fun v13 wc => ∃ (kq : Nat) (x13_57 : Int), v13 = .int .i64 x13_57 ∧ Aside0 (guidevanelaw06_GovernorGates.j3 kq a2 t527 t529 t530 x13_57 a0_0 a0_1 a0_2 a0_3 t523 t524 t525 t526 = some r) ∧ Aside0 (kq ≤ kj46) ∧ Aside0 (wc.heap[gb518]? = some (.cells #[.int .i64 a0_0, .int .i64 a0_1, .int .i64 a0_2, .int .i64 a0_3] 75 (0, 0))) ∧ Aside0 (wc.heap[gb519]? = some (.cells #[.int .i64 a1_0, .int .i64 a1_1, .int .i64 a1_2, .int .i64 a1_3] 77 (0, 0))) ∧ Aside0 (wc.heap[gb528]? = some (.cells #[.int .i64 t523, .int .i64 t524, .int .i64 t525, .int .i64 t526] 75 (0, 0))) ∧ Aside0 (Below w.heap.size w wc))
                    case first =>
                      have H := HC58.out
                      clear HC58
                      by_cases c59 : t531 = 0
                      · rw [if_pos c59] at H
                        have c59b0 : (t531 == 0) = true := beq_iff_eq.mpr c59
                        have c59b1 : (t531 != 0) = false := bne_eq_false_iff_eq.mpr c59
                        clear c59
                        (first | rw [c59b0] | (simp only [i64_w, i32_w]; rw [c59b0]) | skip)
                        replace H := Option.bind_eq_some_iff.mp H
                        obtain ⟨t537, A600, H⟩ := H
                        replace H : (guidevanelaw06_GovernorGates.j3 kj46 a2 t527 t529 t530 t537 a0_0 a0_1 a0_2 a0_3 t523 t524 t525 t526) = some r := H
                        have A60 := Aside0.mk A600
                        clear A600
                        have H' := Aside0.mk H
                        clear H
                        go_wp2_with (first | ((with_reducible refine gate_callee (f := 54) rfl ?_); refine goesL_ (some 82) rfl rfl Tryz.func54 (by kernel_rfl) rfl #[.int .i64 a2] rfl (by (try simp only [List.map_toArray, List.map_cons, List.map_nil]); first | done | rfl | (simp only [List.length_drop, List.length_take]; rfl)) ?_; (with_reducible refine (guidevaneref06_SpeedErr.calls a2 t537 _ A60.out).mono ?_); rintro e w' ⟨rfl, ⟨nd, rfl⟩⟩; refine ⟨_, rfl, ?_⟩))
                        go_meet
                        case rel => exact ⟨_, (t537), (by first | rfl | (simp; done) | (simp [*]; done)), H', ⟨by have := HJ10.out; have := HJ43.out; have := HJ46.out; first | omega | exact Nat.le_refl _⟩, ⟨by (with_reducible repeat (first | refine blk_drewN ?_ _ | refine blk_drew ?_ | refine blk_alloc ?_ _)); exact BK518.out⟩, ⟨by (with_reducible repeat (first | refine blk_drewN ?_ _ | refine blk_drew ?_ | refine blk_alloc ?_ _)); exact BK519.out⟩, ⟨by (with_reducible repeat (first | refine blk_drewN ?_ _ | refine blk_drew ?_ | refine blk_alloc ?_ _)); exact BK528.out⟩, ⟨by repeat (first | (with_reducible first | exact HB.out | apply below_alloc | apply pw_below_drewN | apply below_drew1 | refine below_set ?_ GE518.out | refine below_set ?_ GE519.out | refine below_set ?_ GE528.out) | exact HB.out)⟩⟩
                      · rw [if_neg c59] at H
                        have c59b0 : (t531 == 0) = false := beq_eq_false_iff_ne.mpr c59
                        have c59b1 : (t531 != 0) = true := bne_iff_ne.mpr c59
                        (first | rw [c59b0] | (simp only [i64_w, i32_w]; rw [c59b0]) | skip)
                        have H' := Aside0.mk H
                        clear H
                        go_wp2
                        go_meet
                        case rel => exact ⟨_, (t531), (by first | rfl | (simp; done) | (simp [*]; done)), H', ⟨by have := HJ10.out; have := HJ43.out; have := HJ46.out; first | omega | exact Nat.le_refl _⟩, ⟨by (with_reducible repeat (first | refine blk_drewN ?_ _ | refine blk_drew ?_ | refine blk_alloc ?_ _)); exact BK518.out⟩, ⟨by (with_reducible repeat (first | refine blk_drewN ?_ _ | refine blk_drew ?_ | refine blk_alloc ?_ _)); exact BK519.out⟩, ⟨by (with_reducible repeat (first | refine blk_drewN ?_ _ | refine blk_drew ?_ | refine blk_alloc ?_ _)); exact BK528.out⟩, ⟨by repeat (first | (with_reducible first | exact HB.out | apply below_alloc | apply pw_below_drewN | apply below_drew1 | refine below_set ?_ GE518.out | refine below_set ?_ GE519.out | refine below_set ?_ GE528.out) | exact HB.out)⟩⟩
                    case rest =>
                      clear HC58
                      try clear c1
                      try clear c2
                      try clear p2
                      try clear c3
                      try clear c4
                      try clear c5
                      try clear c7
                      try clear c15
                      try clear c16
                      try clear c21
                      try clear c22
                      try clear c30
                      try clear c30b0
                      try clear c30b1
                      try clear c32
                      try clear c33
                      try clear c36
                      try clear c39
                      try clear c40
                      try clear c43
                      try clear c45
                      try clear c45b0
                      try clear c45b1
                      try clear c47
                      try clear c48
                      try clear c48b0
                      try clear c48b1
                      try clear c49
                      try clear c49b0
                      try clear c49b1
                      try clear c50
                      try clear c51
                      try clear c52
                      try clear c54
                      try clear c55
                      try clear c55b0
                      try clear c55b1
                      try clear c56
                      try clear c56b0
                      try clear c56b1
                      try clear c57
                      try clear c59
                      try clear c59b0
                      try clear c59b1
                      try clear hcz16_0
                      try clear hcz16_1
                      try clear hcz16_2
                      try clear hcz16_3
                      try clear hcz18_0
                      try clear hcz18_1
                      try clear hcz18_2
                      try clear hcz18_3
                      try clear hcz23_0
                      try clear hcz23_1
                      try clear hcz23_2
                      try clear hcz23_3
                      try clear hcz24_0
                      try clear hcz24_1
                      try clear hcz24_2
                      try clear hcz24_3
                      try clear hcz34_0
                      try clear hcz34_1
                      try clear hcz34_2
                      try clear hcz34_3
                      try clear hcz37_0
                      try clear hcz37_1
                      try clear hcz37_2
                      try clear hcz37_3
                      try clear hcz41_0
                      try clear hcz41_1
                      try clear hcz41_2
                      try clear hcz41_3
                      try clear hcz53_0
                      try clear hcz53_1
                      try clear hcz53_2
                      try clear hcz53_3
                      try clear hfz16_0
                      try clear hfz16_1
                      try clear hfz16_2
                      try clear hfz16_3
                      try clear hfz18_0
                      try clear hfz18_1
                      try clear hfz18_2
                      try clear hfz18_3
                      try clear hfz23_0
                      try clear hfz23_1
                      try clear hfz23_2
                      try clear hfz23_3
                      try clear hfz24_0
                      try clear hfz24_1
                      try clear hfz24_2
                      try clear hfz24_3
                      try clear hfz34_0
                      try clear hfz34_1
                      try clear hfz34_2
                      try clear hfz34_3
                      try clear hfz37_0
                      try clear hfz37_1
                      try clear hfz37_2
                      try clear hfz37_3
                      try clear hfz41_0
                      try clear hfz41_1
                      try clear hfz41_2
                      try clear hfz41_3
                      try clear hfz53_0
                      try clear hfz53_1
                      try clear hfz53_2
                      try clear hfz53_3
                      try clear p2
                      obtain ⟨kq, x13_57, rfl, HA, HJ57, BK518, BK519, BK528, HB⟩ := hcut
                      cases kq with
                      | zero => exact absurd HA.out (by simp [guidevanelaw06_GovernorGates.j3])
                      | succ kj57 =>
                        have H := HA.out
                        clear HA
                        simp only [guidevanelaw06_GovernorGates.j3] at H
                        by_cases c61 : x13_57 = 0
                        · rw [if_pos c61] at H
                          have c61b0 : (x13_57 == 0) = true := beq_iff_eq.mpr c61
                          have c61b1 : (x13_57 != 0) = false := bne_eq_false_iff_eq.mpr c61
                          clear c61
                          by_cases c62 : t527 = 0
                          · rw [if_pos c62] at H
                            have c62b0 : (t527 == 0) = true := beq_iff_eq.mpr c62
                            have c62b1 : (t527 != 0) = false := bne_eq_false_iff_eq.mpr c62
                            clear c62
                            replace H := Option.bind_eq_some_iff.mp H
                            obtain ⟨⟨t538, t539, t540, t541⟩, A630, H⟩ := H
                            replace H : (if (t523 == t538 && (t524 == t539 && (t525 == t540 && (t526 == t541)))) = true then (if t530 = 0 then ((guidevaneref06_Ticks.f kj57 a0_0 a0_1 a0_2 a0_3 a2).bind fun t542 => (some (t529 == t542))) else (some false)) else (some false)) = some r := H
                            have A63 := Aside0.mk A630
                            clear A630
                            by_cases c64 : (t523 == t538 && (t524 == t539 && (t525 == t540 && (t526 == t541)))) = true
                            · rw [if_pos c64] at H
                              have c64b0 : (t523 == t538 && (t524 == t539 && (t525 == t540 && (t526 == t541)))) = true := c64
                              (try (have c64b1 : decide (t523 = t538 && (t524 == t539 && (t525 == t540 && (t526 == t541)))) = true := by simpa using c64))
                              (try (have c64b2 : (t523 == t538 && (t524 == t539 && (t525 == t540 && (t526 == t541)))) = true := by simpa using c64))
                              clear c64
                              by_cases c65 : t530 = 0
                              · rw [if_pos c65] at H
                                have c65b0 : (t530 == 0) = true := beq_iff_eq.mpr c65
                                have c65b1 : (t530 != 0) = false := bne_eq_false_iff_eq.mpr c65
                                clear c65
                                replace H := Option.bind_eq_some_iff.mp H
                                obtain ⟨t542, A660, H⟩ := H
                                replace H : (some (t529 == t542)) = some r := H
                                have A66 := Aside0.mk A660
                                clear A660
                                obtain rfl := Option.some.inj H
                                try go_wp2
                                have n0_ := Aside0.mk (blk_drew BK518.out)
                                have n1_ := Aside0.mk (blk_drew BK519.out)
                                have n2_ := Aside0.mk (blk_drew BK528.out)
                                have n3_ := Aside0.mk (below_drew1 HB.out)
                                clear BK518
                                clear BK519
                                clear BK528
                                clear HB
                                have BK518 := n0_
                                have BK519 := n1_
                                have BK528 := n2_
                                have HB := n3_
                                clear n0_ n1_ n2_ n3_
                                refine start_ (n := 21) (S := fun w' => w'.cell? ⟨gb528, 0, none⟩ = some (.int .i64 t523) ∧ w'.cell? ⟨gb528, 1, none⟩ = some (.int .i64 t524) ∧ w'.cell? ⟨gb528, 2, none⟩ = some (.int .i64 t525) ∧ w'.cell? ⟨gb528, 3, none⟩ = some (.int .i64 t526) ∧ w'.cell? ⟨gb518, 0, none⟩ = some (.int .i64 a0_0) ∧ w'.cell? ⟨gb518, 1, none⟩ = some (.int .i64 a0_1) ∧ w'.cell? ⟨gb518, 2, none⟩ = some (.int .i64 a0_2) ∧ w'.cell? ⟨gb518, 3, none⟩ = some (.int .i64 a0_3)) (ds := []) #[false, false, false, false, false, false, false, false, false, false, false, false, false, false, false, false, false, false, false, false, false] (by kernel_rfl) rfl rfl ⟨(blk_cell BK528.out 0).trans rfl, (blk_cell BK528.out 1).trans rfl, (blk_cell BK528.out 2).trans rfl, (blk_cell BK528.out 3).trans rfl, (blk_cell BK518.out 0).trans rfl, (blk_cell BK518.out 1).trans rfl, (blk_cell BK518.out 2).trans rfl, (blk_cell BK518.out 3).trans rfl⟩ (fun hHeld => ?_); refine with_tabW guidevanelaw06_GovernorGates.tab17 guidevanelaw06_GovernorGates.bits17 (fun HT_ HW_ => ?_)
                                generalize wc.drew = w67 at BK518 BK519 BK528 HB hHeld ⊢
                                refine pure_ (i := 0) (N := some 102) (v := ?_) (a' := ?_) #[true, false, false, false, false, false, false, false, false, false, false, false, false, false, false, false, false, false, false, false, false] rfl rfl (any_of HT_.out (by kernel_rfl)) (fun _ _ _ h => h) (Or.inl ⟨by rfl, ?_⟩) ?_ ?_
                                rotate_left
                                · intro w'
                                  go_simp
                                  with_reducible rfl
                                rotate_left
                                · simp only [Act.put, List.setIfInBounds_toArray, List.set_cons_zero, List.set_cons_succ, i64_w, i32_w]
                                  rfl
                                refine pure_ (i := 1) (N := some 103) (v := ?_) (a' := ?_) #[true, true, false, false, false, false, false, false, false, false, false, false, false, false, false, false, false, false, false, false, false] rfl rfl (any_of HT_.out (by kernel_rfl)) (fun _ _ _ h => h) (Or.inl ⟨by rfl, ?_⟩) ?_ ?_
                                rotate_left
                                · intro w'
                                  go_simp
                                  with_reducible rfl
                                rotate_left
                                · simp only [Act.put, List.setIfInBounds_toArray, List.set_cons_zero, List.set_cons_succ, i64_w, i32_w]
                                  rfl
                                refine pure_ (i := 2) (N := some 104) (v := ?_) (a' := ?_) #[true, true, true, false, false, false, false, false, false, false, false, false, false, false, false, false, false, false, false, false, false] rfl rfl (any_of HT_.out (by kernel_rfl)) (fun _ _ _ h => h) (Or.inl ⟨by rfl, ?_⟩) ?_ ?_
                                rotate_left
                                · intro w'
                                  go_simp
                                  with_reducible rfl
                                rotate_left
                                · simp only [Act.put, List.setIfInBounds_toArray, List.set_cons_zero, List.set_cons_succ, i64_w, i32_w]
                                  rfl
                                refine pure_ (i := 5) (N := some 107) (v := ?_) (a' := ?_) #[true, true, true, false, false, true, false, false, false, false, false, false, false, false, false, false, false, false, false, false, false] rfl rfl (any_of HT_.out (by kernel_rfl)) (fun _ _ _ h => h) (Or.inl ⟨by rfl, ?_⟩) ?_ ?_
                                rotate_left
                                · intro w'
                                  go_simp
                                  with_reducible rfl
                                rotate_left
                                · simp only [Act.put, List.setIfInBounds_toArray, List.set_cons_zero, List.set_cons_succ, i64_w, i32_w]
                                  rfl
                                refine take_ (i := 3) (N := some 105) (v := ?_) (a' := ?_) #[true, true, true, true, false, true, false, false, false, false, false, false, false, false, false, false, false, false, false, false, false] rfl rfl (take_ofW HT_.out HW_.out (by kernel_rfl)) (fun _ _ _ h => h) (Or.inl ⟨by rfl, ?_⟩) hHeld ?_ ?_
                                rotate_left
                                · rintro w' ⟨s0, s1, s2, s3, s4, s5, s6, s7⟩
                                  go_simp
                                  with_reducible rfl
                                rotate_left
                                · simp only [Act.put, List.setIfInBounds_toArray, List.set_cons_zero, List.set_cons_succ, i64_w, i32_w]
                                  rfl
                                refine take_ (i := 4) (N := some 106) (v := ?_) (a' := ?_) #[true, true, true, true, true, true, false, false, false, false, false, false, false, false, false, false, false, false, false, false, false] rfl rfl (take_ofW HT_.out HW_.out (by kernel_rfl)) (fun _ _ _ h => h) (Or.inl ⟨by rfl, ?_⟩) hHeld ?_ ?_
                                rotate_left
                                · rintro w' ⟨s0, s1, s2, s3, s4, s5, s6, s7⟩
                                  go_simp
                                  with_reducible rfl
                                rotate_left
                                · simp only [Act.put, List.setIfInBounds_toArray, List.set_cons_zero, List.set_cons_succ, i64_w, i32_w]
                                  rfl
                                refine one_ (i := 6) (N := some 108) #[true, true, true, true, true, true, true, false, false, false, false, false, false, false, false, false, false, false, false, false, false] rfl rfl (one_of HT_.out (by kernel_rfl)) (by decide) (fun K hK => ?_)
                                refine goes_ Tryz.func56 (by kernel_rfl) rfl #[.agg #[.int .i64 a0_0, .int .i64 a0_1, .int .i64 a0_2, .int .i64 a0_3], .int .i64 a2] (by rfl) rfl rfl (by (try simp only [List.map_toArray, List.map_cons, List.map_nil]); first | done | rfl | (simp only [List.length_drop, List.length_take]; rfl)) ?_
                                with_reducible refine (guidevaneref06_Step.calls a0_0 a0_1 a0_2 a0_3 a2 t538 t539 t540 t541 _ A63.out).mono ?_
                                rintro e w68 ⟨rfl, hb⟩
                                refine ⟨_, rfl, ?_⟩
                                have n0_ := Aside0.mk (blk_below (g := gb518) (o := .cells #[.int .i64 a0_0, .int .i64 a0_1, .int .i64 a0_2, .int .i64 a0_3] 75 (0, 0)) (by (with_reducible repeat (first | refine blk_drewN ?_ _ | refine blk_drew ?_ | refine blk_alloc ?_ _)); exact BK518.out) hb)
                                have n1_ := Aside0.mk (blk_below (g := gb519) (o := .cells #[.int .i64 a1_0, .int .i64 a1_1, .int .i64 a1_2, .int .i64 a1_3] 77 (0, 0)) (by (with_reducible repeat (first | refine blk_drewN ?_ _ | refine blk_drew ?_ | refine blk_alloc ?_ _)); exact BK519.out) hb)
                                have n2_ := Aside0.mk (blk_below (g := gb528) (o := .cells #[.int .i64 t523, .int .i64 t524, .int .i64 t525, .int .i64 t526] 75 (0, 0)) (by (with_reducible repeat (first | refine blk_drewN ?_ _ | refine blk_drew ?_ | refine blk_alloc ?_ _)); exact BK528.out) hb)
                                have n3_ := Aside0.mk (below_step (by repeat (first | (with_reducible first | exact HB.out | apply below_alloc | apply pw_below_drewN | apply below_drew1 | refine below_set ?_ GE518.out | refine below_set ?_ GE519.out | refine below_set ?_ GE528.out) | exact HB.out)) hb)
                                clear BK518
                                clear BK519
                                clear BK528
                                clear HB
                                have BK518 := n0_
                                have BK519 := n1_
                                have BK528 := n2_
                                have HB := n3_
                                clear n0_ n1_ n2_ n3_
                                (try clear hb)
                                (try clear hb2)
                                (try clear hk)
                                (try clear hi)
                                refine hK.out _ _ ⟨(blk_cell BK528.out 0).trans rfl, (blk_cell BK528.out 1).trans rfl, (blk_cell BK528.out 2).trans rfl, (blk_cell BK528.out 3).trans rfl, (blk_cell BK518.out 0).trans rfl, (blk_cell BK518.out 1).trans rfl, (blk_cell BK518.out 2).trans rfl, (blk_cell BK518.out 3).trans rfl⟩ (fun hHeld => ?_)
                                clear hK K
                                refine norm_ (a' := ?_) ?_ ?_
                                rotate_left
                                · show Act.put _ (some 108) _ = _
                                  simp only [Act.put, List.setIfInBounds_toArray, List.set_cons_zero, List.set_cons_succ, i64_w, i32_w]
                                  rfl
                                refine pure_ (i := 7) (N := some 109) (v := ?_) (a' := ?_) #[true, true, true, true, true, true, true, true, false, false, false, false, false, false, false, false, false, false, false, false, false] rfl rfl (any_of HT_.out (by kernel_rfl)) (fun _ _ _ h => h) (Or.inl ⟨by rfl, ?_⟩) ?_ ?_
                                rotate_left
                                · intro w'
                                  go_simp
                                  with_reducible rfl
                                rotate_left
                                · simp only [Act.put, List.setIfInBounds_toArray, List.set_cons_zero, List.set_cons_succ, i64_w, i32_w]
                                  rfl
                                refine pure_ (i := 8) (N := some 110) (v := ?_) (a' := ?_) #[true, true, true, true, true, true, true, true, true, false, false, false, false, false, false, false, false, false, false, false, false] rfl rfl (any_of HT_.out (by kernel_rfl)) (fun _ _ _ h => h) (Or.inl ⟨by rfl, ?_⟩) ?_ ?_
                                rotate_left
                                · intro w'
                                  go_simp
                                  with_reducible rfl
                                rotate_left
                                · simp only [Act.put, List.setIfInBounds_toArray, List.set_cons_zero, List.set_cons_succ, i64_w, i32_w]
                                  rfl
                                refine pure_ (i := 9) (N := some 111) (v := ?_) (a' := ?_) #[true, true, true, true, true, true, true, true, true, true, false, false, false, false, false, false, false, false, false, false, false] rfl rfl (any_of HT_.out (by kernel_rfl)) (fun _ _ _ h => h) (Or.inl ⟨by rfl, ?_⟩) ?_ ?_
                                rotate_left
                                · intro w'
                                  go_simp
                                  with_reducible rfl
                                rotate_left
                                · simp only [Act.put, List.setIfInBounds_toArray, List.set_cons_zero, List.set_cons_succ, i64_w, i32_w]
                                  rfl
                                refine pure_ (i := 10) (N := some 112) (v := ?_) (a' := ?_) #[true, true, true, true, true, true, true, true, true, true, true, false, false, false, false, false, false, false, false, false, false] rfl rfl (any_of HT_.out (by kernel_rfl)) (fun _ _ _ h => h) (Or.inl ⟨by rfl, ?_⟩) ?_ ?_
                                rotate_left
                                · intro w'
                                  go_simp
                                  with_reducible rfl
                                rotate_left
                                · simp only [Act.put, List.setIfInBounds_toArray, List.set_cons_zero, List.set_cons_succ, i64_w, i32_w]
                                  rfl
                                refine pure_ (i := 11) (N := some 113) (v := ?_) (a' := ?_) #[true, true, true, true, true, true, true, true, true, true, true, true, false, false, false, false, false, false, false, false, false] rfl rfl (any_of HT_.out (by kernel_rfl)) (fun _ _ _ h => h) (Or.inl ⟨by rfl, ?_⟩) ?_ ?_
                                rotate_left
                                · intro w'
                                  go_simp
                                  with_reducible rfl
                                rotate_left
                                · simp only [Act.put, List.setIfInBounds_toArray, List.set_cons_zero, List.set_cons_succ, i64_w, i32_w]
                                  rfl
                                refine pure_ (i := 12) (N := some 114) (v := ?_) (a' := ?_) #[true, true, true, true, true, true, true, true, true, true, true, true, true, false, false, false, false, false, false, false, false] rfl rfl (any_of HT_.out (by kernel_rfl)) (fun _ _ _ h => h) (Or.inl ⟨by rfl, ?_⟩) ?_ ?_
                                rotate_left
                                · intro w'
                                  go_simp
                                  with_reducible rfl
                                rotate_left
                                · simp only [Act.put, List.setIfInBounds_toArray, List.set_cons_zero, List.set_cons_succ, i64_w, i32_w]
                                  rfl
                                refine pure_ (i := 13) (N := some 115) (v := ?_) (a' := ?_) #[true, true, true, true, true, true, true, true, true, true, true, true, true, true, false, false, false, false, false, false, false] rfl rfl (any_of HT_.out (by kernel_rfl)) (fun _ _ _ h => h) (Or.inl ⟨by rfl, ?_⟩) ?_ ?_
                                rotate_left
                                · intro w'
                                  go_simp
                                  with_reducible rfl
                                rotate_left
                                · simp only [Act.put, List.setIfInBounds_toArray, List.set_cons_zero, List.set_cons_succ, i64_w, i32_w]
                                  rfl
                                refine pure_ (i := 14) (N := some 116) (v := ?_) (a' := ?_) #[true, true, true, true, true, true, true, true, true, true, true, true, true, true, true, false, false, false, false, false, false] rfl rfl (any_of HT_.out (by kernel_rfl)) (fun _ _ _ h => h) (Or.inl ⟨by rfl, ?_⟩) ?_ ?_
                                rotate_left
                                · intro w'
                                  go_simp
                                  with_reducible rfl
                                rotate_left
                                · simp only [Act.put, List.setIfInBounds_toArray, List.set_cons_zero, List.set_cons_succ, i64_w, i32_w]
                                  rfl
                                refine pure_ (i := 16) (N := some 118) (v := ?_) (a' := ?_) #[true, true, true, true, true, true, true, true, true, true, true, true, true, true, true, false, true, false, false, false, false] rfl rfl (any_of HT_.out (by kernel_rfl)) (fun _ _ _ h => h) (Or.inl ⟨by rfl, ?_⟩) ?_ ?_
                                rotate_left
                                · intro w'
                                  go_simp
                                  with_reducible rfl
                                rotate_left
                                · simp only [Act.put, List.setIfInBounds_toArray, List.set_cons_zero, List.set_cons_succ, i64_w, i32_w]
                                  rfl
                                refine take_ (i := 15) (N := some 117) (v := ?_) (a' := ?_) #[true, true, true, true, true, true, true, true, true, true, true, true, true, true, true, true, true, false, false, false, false] rfl rfl (take_ofW HT_.out HW_.out (by kernel_rfl)) (fun _ _ _ h => h) (Or.inl ⟨by rfl, ?_⟩) hHeld ?_ ?_
                                rotate_left
                                · rintro w' ⟨s0, s1, s2, s3, s4, s5, s6, s7⟩
                                  go_simp
                                  with_reducible rfl
                                rotate_left
                                · simp only [Act.put, List.setIfInBounds_toArray, List.set_cons_zero, List.set_cons_succ, i64_w, i32_w]
                                  rfl
                                refine one_ (i := 17) (N := some 119) #[true, true, true, true, true, true, true, true, true, true, true, true, true, true, true, true, true, true, false, false, false] rfl rfl (one_of HT_.out (by kernel_rfl)) (by decide) (fun K hK => ?_)
                                refine goes_ Tryz.func57 (by kernel_rfl) rfl #[.agg #[.int .i64 a0_0, .int .i64 a0_1, .int .i64 a0_2, .int .i64 a0_3], .int .i64 a2] (by rfl) rfl rfl (by (try simp only [List.map_toArray, List.map_cons, List.map_nil]); first | done | rfl | (simp only [List.length_drop, List.length_take]; rfl)) ?_
                                with_reducible refine (guidevaneref06_Ticks.calls kj57 a0_0 a0_1 a0_2 a0_3 a2 t542 _ A66.out).mono ?_
                                rintro e w69 ⟨rfl, hb⟩
                                refine ⟨_, rfl, ?_⟩
                                have n0_ := Aside0.mk (blk_below (g := gb518) (o := .cells #[.int .i64 a0_0, .int .i64 a0_1, .int .i64 a0_2, .int .i64 a0_3] 75 (0, 0)) (by (with_reducible repeat (first | refine blk_drewN ?_ _ | refine blk_drew ?_ | refine blk_alloc ?_ _)); exact BK518.out) hb)
                                have n1_ := Aside0.mk (blk_below (g := gb519) (o := .cells #[.int .i64 a1_0, .int .i64 a1_1, .int .i64 a1_2, .int .i64 a1_3] 77 (0, 0)) (by (with_reducible repeat (first | refine blk_drewN ?_ _ | refine blk_drew ?_ | refine blk_alloc ?_ _)); exact BK519.out) hb)
                                have n2_ := Aside0.mk (blk_below (g := gb528) (o := .cells #[.int .i64 t523, .int .i64 t524, .int .i64 t525, .int .i64 t526] 75 (0, 0)) (by (with_reducible repeat (first | refine blk_drewN ?_ _ | refine blk_drew ?_ | refine blk_alloc ?_ _)); exact BK528.out) hb)
                                have n3_ := Aside0.mk (below_step (by repeat (first | (with_reducible first | exact HB.out | apply below_alloc | apply pw_below_drewN | apply below_drew1 | refine below_set ?_ GE518.out | refine below_set ?_ GE519.out | refine below_set ?_ GE528.out) | exact HB.out)) hb)
                                clear BK518
                                clear BK519
                                clear BK528
                                clear HB
                                have BK518 := n0_
                                have BK519 := n1_
                                have BK528 := n2_
                                have HB := n3_
                                clear n0_ n1_ n2_ n3_
                                (try clear hb)
                                (try clear hb2)
                                (try clear hk)
                                (try clear hi)
                                refine hK.out _ _ ⟨(blk_cell BK528.out 0).trans rfl, (blk_cell BK528.out 1).trans rfl, (blk_cell BK528.out 2).trans rfl, (blk_cell BK528.out 3).trans rfl, (blk_cell BK518.out 0).trans rfl, (blk_cell BK518.out 1).trans rfl, (blk_cell BK518.out 2).trans rfl, (blk_cell BK518.out 3).trans rfl⟩ (fun hHeld => ?_)
                                clear hK K
                                refine norm_ (a' := ?_) ?_ ?_
                                rotate_left
                                · show Act.put _ (some 119) _ = _
                                  simp only [Act.put, List.setIfInBounds_toArray, List.set_cons_zero, List.set_cons_succ, i64_w, i32_w]
                                  rfl
                                refine pure_ (i := 18) (N := some 120) (v := ?_) (a' := ?_) #[true, true, true, true, true, true, true, true, true, true, true, true, true, true, true, true, true, true, true, false, false] rfl rfl (any_of HT_.out (by kernel_rfl)) (fun _ _ _ h => h) (Or.inl ⟨by rfl, ?_⟩) ?_ ?_
                                rotate_left
                                · intro w'
                                  go_simp
                                  with_reducible rfl
                                rotate_left
                                · simp only [Act.put, List.setIfInBounds_toArray, List.set_cons_zero, List.set_cons_succ, i64_w, i32_w]
                                  rfl
                                refine pure_ (i := 19) (N := some 121) (v := ?_) (a' := ?_) #[true, true, true, true, true, true, true, true, true, true, true, true, true, true, true, true, true, true, true, true, false] rfl rfl (any_of HT_.out (by kernel_rfl)) (fun _ _ _ h => h) (Or.inl ⟨by rfl, ?_⟩) ?_ ?_
                                rotate_left
                                · intro w'
                                  go_simp
                                  with_reducible rfl
                                rotate_left
                                · simp only [Act.put, List.setIfInBounds_toArray, List.set_cons_zero, List.set_cons_succ, i64_w, i32_w]
                                  rfl
                                refine pure_ (i := 20) (N := some 6) (v := ?_) (a' := ?_) #[true, true, true, true, true, true, true, true, true, true, true, true, true, true, true, true, true, true, true, true, true] rfl rfl (any_of HT_.out (by kernel_rfl)) (fun _ _ _ h => h) (Or.inl ⟨by rfl, ?_⟩) ?_ ?_
                                rotate_left
                                · intro w'
                                  go_simp
                                  with_reducible rfl
                                rotate_left
                                · simp only [Act.put, List.setIfInBounds_toArray, List.set_cons_zero, List.set_cons_succ, i64_w, i32_w]
                                  rfl
                                refine done_ (done_of HT_.out (by kernel_rfl)) ?_
                                try go_wp2
                                go_ret
                                exact ⟨by first | rfl | (simp [errW_none, errW_some] <;> rfl) | (simp [*, errW_none, errW_some] <;> rfl), by repeat (first | (with_reducible first | exact HB.out | apply below_alloc | apply pw_below_drewN | apply below_drew1 | refine below_set ?_ GE518.out | refine below_set ?_ GE519.out | refine below_set ?_ GE528.out) | exact HB.out)⟩
                              · rw [if_neg c65] at H
                                have c65b0 : (t530 == 0) = false := beq_eq_false_iff_ne.mpr c65
                                have c65b1 : (t530 != 0) = true := bne_iff_ne.mpr c65
                                obtain rfl := Option.some.inj H
                                try go_wp2
                                have n0_ := Aside0.mk (blk_drew BK518.out)
                                have n1_ := Aside0.mk (blk_drew BK519.out)
                                have n2_ := Aside0.mk (blk_drew BK528.out)
                                have n3_ := Aside0.mk (below_drew1 HB.out)
                                clear BK518
                                clear BK519
                                clear BK528
                                clear HB
                                have BK518 := n0_
                                have BK519 := n1_
                                have BK528 := n2_
                                have HB := n3_
                                clear n0_ n1_ n2_ n3_
                                refine start_ (n := 21) (S := fun w' => w'.cell? ⟨gb528, 0, none⟩ = some (.int .i64 t523) ∧ w'.cell? ⟨gb528, 1, none⟩ = some (.int .i64 t524) ∧ w'.cell? ⟨gb528, 2, none⟩ = some (.int .i64 t525) ∧ w'.cell? ⟨gb528, 3, none⟩ = some (.int .i64 t526) ∧ w'.cell? ⟨gb518, 0, none⟩ = some (.int .i64 a0_0) ∧ w'.cell? ⟨gb518, 1, none⟩ = some (.int .i64 a0_1) ∧ w'.cell? ⟨gb518, 2, none⟩ = some (.int .i64 a0_2) ∧ w'.cell? ⟨gb518, 3, none⟩ = some (.int .i64 a0_3)) (ds := []) #[false, false, false, false, false, false, false, false, false, false, false, false, false, false, false, false, false, false, false, false, false] (by kernel_rfl) rfl rfl ⟨(blk_cell BK528.out 0).trans rfl, (blk_cell BK528.out 1).trans rfl, (blk_cell BK528.out 2).trans rfl, (blk_cell BK528.out 3).trans rfl, (blk_cell BK518.out 0).trans rfl, (blk_cell BK518.out 1).trans rfl, (blk_cell BK518.out 2).trans rfl, (blk_cell BK518.out 3).trans rfl⟩ (fun hHeld => ?_); refine with_tabW guidevanelaw06_GovernorGates.tab17 guidevanelaw06_GovernorGates.bits17 (fun HT_ HW_ => ?_)
                                generalize wc.drew = w70 at BK518 BK519 BK528 HB hHeld ⊢
                                refine pure_ (i := 0) (N := some 102) (v := ?_) (a' := ?_) #[true, false, false, false, false, false, false, false, false, false, false, false, false, false, false, false, false, false, false, false, false] rfl rfl (any_of HT_.out (by kernel_rfl)) (fun _ _ _ h => h) (Or.inl ⟨by rfl, ?_⟩) ?_ ?_
                                rotate_left
                                · intro w'
                                  go_simp
                                  with_reducible rfl
                                rotate_left
                                · simp only [Act.put, List.setIfInBounds_toArray, List.set_cons_zero, List.set_cons_succ, i64_w, i32_w]
                                  rfl
                                refine pure_ (i := 1) (N := some 103) (v := ?_) (a' := ?_) #[true, true, false, false, false, false, false, false, false, false, false, false, false, false, false, false, false, false, false, false, false] rfl rfl (any_of HT_.out (by kernel_rfl)) (fun _ _ _ h => h) (Or.inl ⟨by rfl, ?_⟩) ?_ ?_
                                rotate_left
                                · intro w'
                                  go_simp
                                  with_reducible rfl
                                rotate_left
                                · simp only [Act.put, List.setIfInBounds_toArray, List.set_cons_zero, List.set_cons_succ, i64_w, i32_w]
                                  rfl
                                refine pure_ (i := 2) (N := some 104) (v := ?_) (a' := ?_) #[true, true, true, false, false, false, false, false, false, false, false, false, false, false, false, false, false, false, false, false, false] rfl rfl (any_of HT_.out (by kernel_rfl)) (fun _ _ _ h => h) (Or.inl ⟨by rfl, ?_⟩) ?_ ?_
                                rotate_left
                                · intro w'
                                  go_simp
                                  with_reducible rfl
                                rotate_left
                                · simp only [Act.put, List.setIfInBounds_toArray, List.set_cons_zero, List.set_cons_succ, i64_w, i32_w]
                                  rfl
                                refine pure_ (i := 5) (N := some 107) (v := ?_) (a' := ?_) #[true, true, true, false, false, true, false, false, false, false, false, false, false, false, false, false, false, false, false, false, false] rfl rfl (any_of HT_.out (by kernel_rfl)) (fun _ _ _ h => h) (Or.inl ⟨by rfl, ?_⟩) ?_ ?_
                                rotate_left
                                · intro w'
                                  go_simp
                                  with_reducible rfl
                                rotate_left
                                · simp only [Act.put, List.setIfInBounds_toArray, List.set_cons_zero, List.set_cons_succ, i64_w, i32_w]
                                  rfl
                                refine take_ (i := 3) (N := some 105) (v := ?_) (a' := ?_) #[true, true, true, true, false, true, false, false, false, false, false, false, false, false, false, false, false, false, false, false, false] rfl rfl (take_ofW HT_.out HW_.out (by kernel_rfl)) (fun _ _ _ h => h) (Or.inl ⟨by rfl, ?_⟩) hHeld ?_ ?_
                                rotate_left
                                · rintro w' ⟨s0, s1, s2, s3, s4, s5, s6, s7⟩
                                  go_simp
                                  with_reducible rfl
                                rotate_left
                                · simp only [Act.put, List.setIfInBounds_toArray, List.set_cons_zero, List.set_cons_succ, i64_w, i32_w]
                                  rfl
                                refine take_ (i := 4) (N := some 106) (v := ?_) (a' := ?_) #[true, true, true, true, true, true, false, false, false, false, false, false, false, false, false, false, false, false, false, false, false] rfl rfl (take_ofW HT_.out HW_.out (by kernel_rfl)) (fun _ _ _ h => h) (Or.inl ⟨by rfl, ?_⟩) hHeld ?_ ?_
                                rotate_left
                                · rintro w' ⟨s0, s1, s2, s3, s4, s5, s6, s7⟩
                                  go_simp
                                  with_reducible rfl
                                rotate_left
                                · simp only [Act.put, List.setIfInBounds_toArray, List.set_cons_zero, List.set_cons_succ, i64_w, i32_w]
                                  rfl
                                refine one_ (i := 6) (N := some 108) #[true, true, true, true, true, true, true, false, false, false, false, false, false, false, false, false, false, false, false, false, false] rfl rfl (one_of HT_.out (by kernel_rfl)) (by decide) (fun K hK => ?_)
                                refine goes_ Tryz.func56 (by kernel_rfl) rfl #[.agg #[.int .i64 a0_0, .int .i64 a0_1, .int .i64 a0_2, .int .i64 a0_3], .int .i64 a2] (by rfl) rfl rfl (by (try simp only [List.map_toArray, List.map_cons, List.map_nil]); first | done | rfl | (simp only [List.length_drop, List.length_take]; rfl)) ?_
                                with_reducible refine (guidevaneref06_Step.calls a0_0 a0_1 a0_2 a0_3 a2 t538 t539 t540 t541 _ A63.out).mono ?_
                                rintro e w71 ⟨rfl, hb⟩
                                refine ⟨_, rfl, ?_⟩
                                have n0_ := Aside0.mk (blk_below (g := gb518) (o := .cells #[.int .i64 a0_0, .int .i64 a0_1, .int .i64 a0_2, .int .i64 a0_3] 75 (0, 0)) (by (with_reducible repeat (first | refine blk_drewN ?_ _ | refine blk_drew ?_ | refine blk_alloc ?_ _)); exact BK518.out) hb)
                                have n1_ := Aside0.mk (blk_below (g := gb519) (o := .cells #[.int .i64 a1_0, .int .i64 a1_1, .int .i64 a1_2, .int .i64 a1_3] 77 (0, 0)) (by (with_reducible repeat (first | refine blk_drewN ?_ _ | refine blk_drew ?_ | refine blk_alloc ?_ _)); exact BK519.out) hb)
                                have n2_ := Aside0.mk (blk_below (g := gb528) (o := .cells #[.int .i64 t523, .int .i64 t524, .int .i64 t525, .int .i64 t526] 75 (0, 0)) (by (with_reducible repeat (first | refine blk_drewN ?_ _ | refine blk_drew ?_ | refine blk_alloc ?_ _)); exact BK528.out) hb)
                                have n3_ := Aside0.mk (below_step (by repeat (first | (with_reducible first | exact HB.out | apply below_alloc | apply pw_below_drewN | apply below_drew1 | refine below_set ?_ GE518.out | refine below_set ?_ GE519.out | refine below_set ?_ GE528.out) | exact HB.out)) hb)
                                clear BK518
                                clear BK519
                                clear BK528
                                clear HB
                                have BK518 := n0_
                                have BK519 := n1_
                                have BK528 := n2_
                                have HB := n3_
                                clear n0_ n1_ n2_ n3_
                                (try clear hb)
                                (try clear hb2)
                                (try clear hk)
                                (try clear hi)
                                refine hK.out _ _ ⟨(blk_cell BK528.out 0).trans rfl, (blk_cell BK528.out 1).trans rfl, (blk_cell BK528.out 2).trans rfl, (blk_cell BK528.out 3).trans rfl, (blk_cell BK518.out 0).trans rfl, (blk_cell BK518.out 1).trans rfl, (blk_cell BK518.out 2).trans rfl, (blk_cell BK518.out 3).trans rfl⟩ (fun hHeld => ?_)
                                clear hK K
                                refine norm_ (a' := ?_) ?_ ?_
                                rotate_left
                                · show Act.put _ (some 108) _ = _
                                  simp only [Act.put, List.setIfInBounds_toArray, List.set_cons_zero, List.set_cons_succ, i64_w, i32_w]
                                  rfl
                                refine pure_ (i := 7) (N := some 109) (v := ?_) (a' := ?_) #[true, true, true, true, true, true, true, true, false, false, false, false, false, false, false, false, false, false, false, false, false] rfl rfl (any_of HT_.out (by kernel_rfl)) (fun _ _ _ h => h) (Or.inl ⟨by rfl, ?_⟩) ?_ ?_
                                rotate_left
                                · intro w'
                                  go_simp
                                  with_reducible rfl
                                rotate_left
                                · simp only [Act.put, List.setIfInBounds_toArray, List.set_cons_zero, List.set_cons_succ, i64_w, i32_w]
                                  rfl
                                refine pure_ (i := 8) (N := some 110) (v := ?_) (a' := ?_) #[true, true, true, true, true, true, true, true, true, false, false, false, false, false, false, false, false, false, false, false, false] rfl rfl (any_of HT_.out (by kernel_rfl)) (fun _ _ _ h => h) (Or.inl ⟨by rfl, ?_⟩) ?_ ?_
                                rotate_left
                                · intro w'
                                  go_simp
                                  with_reducible rfl
                                rotate_left
                                · simp only [Act.put, List.setIfInBounds_toArray, List.set_cons_zero, List.set_cons_succ, i64_w, i32_w]
                                  rfl
                                refine pure_ (i := 9) (N := some 111) (v := ?_) (a' := ?_) #[true, true, true, true, true, true, true, true, true, true, false, false, false, false, false, false, false, false, false, false, false] rfl rfl (any_of HT_.out (by kernel_rfl)) (fun _ _ _ h => h) (Or.inl ⟨by rfl, ?_⟩) ?_ ?_
                                rotate_left
                                · intro w'
                                  go_simp
                                  with_reducible rfl
                                rotate_left
                                · simp only [Act.put, List.setIfInBounds_toArray, List.set_cons_zero, List.set_cons_succ, i64_w, i32_w]
                                  rfl
                                refine pure_ (i := 10) (N := some 112) (v := ?_) (a' := ?_) #[true, true, true, true, true, true, true, true, true, true, true, false, false, false, false, false, false, false, false, false, false] rfl rfl (any_of HT_.out (by kernel_rfl)) (fun _ _ _ h => h) (Or.inl ⟨by rfl, ?_⟩) ?_ ?_
                                rotate_left
                                · intro w'
                                  go_simp
                                  with_reducible rfl
                                rotate_left
                                · simp only [Act.put, List.setIfInBounds_toArray, List.set_cons_zero, List.set_cons_succ, i64_w, i32_w]
                                  rfl
                                refine pure_ (i := 11) (N := some 113) (v := ?_) (a' := ?_) #[true, true, true, true, true, true, true, true, true, true, true, true, false, false, false, false, false, false, false, false, false] rfl rfl (any_of HT_.out (by kernel_rfl)) (fun _ _ _ h => h) (Or.inl ⟨by rfl, ?_⟩) ?_ ?_
                                rotate_left
                                · intro w'
                                  go_simp
                                  with_reducible rfl
                                rotate_left
                                · simp only [Act.put, List.setIfInBounds_toArray, List.set_cons_zero, List.set_cons_succ, i64_w, i32_w]
                                  rfl
                                refine pure_ (i := 12) (N := some 114) (v := ?_) (a' := ?_) #[true, true, true, true, true, true, true, true, true, true, true, true, true, false, false, false, false, false, false, false, false] rfl rfl (any_of HT_.out (by kernel_rfl)) (fun _ _ _ h => h) (Or.inl ⟨by rfl, ?_⟩) ?_ ?_
                                rotate_left
                                · intro w'
                                  go_simp
                                  with_reducible rfl
                                rotate_left
                                · simp only [Act.put, List.setIfInBounds_toArray, List.set_cons_zero, List.set_cons_succ, i64_w, i32_w]
                                  rfl
                                refine pure_ (i := 13) (N := some 115) (v := ?_) (a' := ?_) #[true, true, true, true, true, true, true, true, true, true, true, true, true, true, false, false, false, false, false, false, false] rfl rfl (any_of HT_.out (by kernel_rfl)) (fun _ _ _ h => h) (Or.inl ⟨by rfl, ?_⟩) ?_ ?_
                                rotate_left
                                · intro w'
                                  go_simp
                                  with_reducible rfl
                                rotate_left
                                · simp only [Act.put, List.setIfInBounds_toArray, List.set_cons_zero, List.set_cons_succ, i64_w, i32_w]
                                  rfl
                                refine pure_ (i := 14) (N := some 116) (v := undef) (a' := ?_) #[true, true, true, true, true, true, true, true, true, true, true, true, true, true, true, false, false, false, false, false, false] rfl rfl (any_of HT_.out (by kernel_rfl)) (fun _ _ _ h => h) (Or.inr ⟨by rfl, rfl⟩) ?_ ?_
                                rotate_left
                                · simp only [Act.put, List.setIfInBounds_toArray, List.set_cons_zero, List.set_cons_succ, i64_w, i32_w]
                                  rfl
                                refine pure_ (i := 15) (N := some 117) (v := undef) (a' := ?_) #[true, true, true, true, true, true, true, true, true, true, true, true, true, true, true, true, false, false, false, false, false] rfl rfl (any_of HT_.out (by kernel_rfl)) (fun _ _ _ h => h) (Or.inr ⟨by rfl, rfl⟩) ?_ ?_
                                rotate_left
                                · simp only [Act.put, List.setIfInBounds_toArray, List.set_cons_zero, List.set_cons_succ, i64_w, i32_w]
                                  rfl
                                refine pure_ (i := 16) (N := some 118) (v := undef) (a' := ?_) #[true, true, true, true, true, true, true, true, true, true, true, true, true, true, true, true, true, false, false, false, false] rfl rfl (any_of HT_.out (by kernel_rfl)) (fun _ _ _ h => h) (Or.inr ⟨by rfl, rfl⟩) ?_ ?_
                                rotate_left
                                · simp only [Act.put, List.setIfInBounds_toArray, List.set_cons_zero, List.set_cons_succ, i64_w, i32_w]
                                  rfl
                                refine pure_ (i := 17) (N := some 119) (v := undef) (a' := ?_) #[true, true, true, true, true, true, true, true, true, true, true, true, true, true, true, true, true, true, false, false, false] rfl rfl (any_of HT_.out (by kernel_rfl)) (fun _ _ _ h => h) (Or.inr ⟨by rfl, rfl⟩) ?_ ?_
                                rotate_left
                                · simp only [Act.put, List.setIfInBounds_toArray, List.set_cons_zero, List.set_cons_succ, i64_w, i32_w]
                                  rfl
                                refine pure_ (i := 18) (N := some 120) (v := undef) (a' := ?_) #[true, true, true, true, true, true, true, true, true, true, true, true, true, true, true, true, true, true, true, false, false] rfl rfl (any_of HT_.out (by kernel_rfl)) (fun _ _ _ h => h) (Or.inr ⟨by rfl, rfl⟩) ?_ ?_
                                rotate_left
                                · simp only [Act.put, List.setIfInBounds_toArray, List.set_cons_zero, List.set_cons_succ, i64_w, i32_w]
                                  rfl
                                refine pure_ (i := 19) (N := some 121) (v := ?_) (a' := ?_) #[true, true, true, true, true, true, true, true, true, true, true, true, true, true, true, true, true, true, true, true, false] rfl rfl (any_of HT_.out (by kernel_rfl)) (fun _ _ _ h => h) (Or.inl ⟨by rfl, ?_⟩) ?_ ?_
                                rotate_left
                                · intro w'
                                  go_simp
                                  with_reducible rfl
                                rotate_left
                                · simp only [Act.put, List.setIfInBounds_toArray, List.set_cons_zero, List.set_cons_succ, i64_w, i32_w]
                                  rfl
                                refine pure_ (i := 20) (N := some 6) (v := ?_) (a' := ?_) #[true, true, true, true, true, true, true, true, true, true, true, true, true, true, true, true, true, true, true, true, true] rfl rfl (any_of HT_.out (by kernel_rfl)) (fun _ _ _ h => h) (Or.inl ⟨by rfl, ?_⟩) ?_ ?_
                                rotate_left
                                · intro w'
                                  go_simp
                                  with_reducible rfl
                                rotate_left
                                · simp only [Act.put, List.setIfInBounds_toArray, List.set_cons_zero, List.set_cons_succ, i64_w, i32_w]
                                  rfl
                                refine done_ (done_of HT_.out (by kernel_rfl)) ?_
                                try go_wp2
                                go_ret
                                exact ⟨by first | rfl | (simp [errW_none, errW_some] <;> rfl) | (simp [*, errW_none, errW_some] <;> rfl), by repeat (first | (with_reducible first | exact HB.out | apply below_alloc | apply pw_below_drewN | apply below_drew1 | refine below_set ?_ GE518.out | refine below_set ?_ GE519.out | refine below_set ?_ GE528.out) | exact HB.out)⟩
                            · rw [if_neg c64] at H
                              have c64b0 : (t523 == t538 && (t524 == t539 && (t525 == t540 && (t526 == t541)))) = false := by simpa using c64
                              (try (have c64b1 : decide (t523 = t538 && (t524 == t539 && (t525 == t540 && (t526 == t541)))) = false := by simpa using c64))
                              (try (have c64b2 : (t523 == t538 && (t524 == t539 && (t525 == t540 && (t526 == t541)))) = false := by simpa using c64))
                              (try (have c64b3 : ¬ (t523 = t538 && (t524 == t539 && (t525 == t540 && (t526 == t541)))) := by simpa using c64))
                              clear c64
                              obtain rfl := Option.some.inj H
                              try go_wp2
                              have n0_ := Aside0.mk (blk_drew BK518.out)
                              have n1_ := Aside0.mk (blk_drew BK519.out)
                              have n2_ := Aside0.mk (blk_drew BK528.out)
                              have n3_ := Aside0.mk (below_drew1 HB.out)
                              clear BK518
                              clear BK519
                              clear BK528
                              clear HB
                              have BK518 := n0_
                              have BK519 := n1_
                              have BK528 := n2_
                              have HB := n3_
                              clear n0_ n1_ n2_ n3_
                              refine start_ (n := 21) (S := fun w' => w'.cell? ⟨gb528, 0, none⟩ = some (.int .i64 t523) ∧ w'.cell? ⟨gb528, 1, none⟩ = some (.int .i64 t524) ∧ w'.cell? ⟨gb528, 2, none⟩ = some (.int .i64 t525) ∧ w'.cell? ⟨gb528, 3, none⟩ = some (.int .i64 t526) ∧ w'.cell? ⟨gb518, 0, none⟩ = some (.int .i64 a0_0) ∧ w'.cell? ⟨gb518, 1, none⟩ = some (.int .i64 a0_1) ∧ w'.cell? ⟨gb518, 2, none⟩ = some (.int .i64 a0_2) ∧ w'.cell? ⟨gb518, 3, none⟩ = some (.int .i64 a0_3)) (ds := []) #[false, false, false, false, false, false, false, false, false, false, false, false, false, false, false, false, false, false, false, false, false] (by kernel_rfl) rfl rfl ⟨(blk_cell BK528.out 0).trans rfl, (blk_cell BK528.out 1).trans rfl, (blk_cell BK528.out 2).trans rfl, (blk_cell BK528.out 3).trans rfl, (blk_cell BK518.out 0).trans rfl, (blk_cell BK518.out 1).trans rfl, (blk_cell BK518.out 2).trans rfl, (blk_cell BK518.out 3).trans rfl⟩ (fun hHeld => ?_); refine with_tabW guidevanelaw06_GovernorGates.tab17 guidevanelaw06_GovernorGates.bits17 (fun HT_ HW_ => ?_)
                              generalize wc.drew = w72 at BK518 BK519 BK528 HB hHeld ⊢
                              refine pure_ (i := 0) (N := some 102) (v := ?_) (a' := ?_) #[true, false, false, false, false, false, false, false, false, false, false, false, false, false, false, false, false, false, false, false, false] rfl rfl (any_of HT_.out (by kernel_rfl)) (fun _ _ _ h => h) (Or.inl ⟨by rfl, ?_⟩) ?_ ?_
                              rotate_left
                              · intro w'
                                go_simp
                                with_reducible rfl
                              rotate_left
                              · simp only [Act.put, List.setIfInBounds_toArray, List.set_cons_zero, List.set_cons_succ, i64_w, i32_w]
                                rfl
                              refine pure_ (i := 1) (N := some 103) (v := ?_) (a' := ?_) #[true, true, false, false, false, false, false, false, false, false, false, false, false, false, false, false, false, false, false, false, false] rfl rfl (any_of HT_.out (by kernel_rfl)) (fun _ _ _ h => h) (Or.inl ⟨by rfl, ?_⟩) ?_ ?_
                              rotate_left
                              · intro w'
                                go_simp
                                with_reducible rfl
                              rotate_left
                              · simp only [Act.put, List.setIfInBounds_toArray, List.set_cons_zero, List.set_cons_succ, i64_w, i32_w]
                                rfl
                              refine pure_ (i := 2) (N := some 104) (v := ?_) (a' := ?_) #[true, true, true, false, false, false, false, false, false, false, false, false, false, false, false, false, false, false, false, false, false] rfl rfl (any_of HT_.out (by kernel_rfl)) (fun _ _ _ h => h) (Or.inl ⟨by rfl, ?_⟩) ?_ ?_
                              rotate_left
                              · intro w'
                                go_simp
                                with_reducible rfl
                              rotate_left
                              · simp only [Act.put, List.setIfInBounds_toArray, List.set_cons_zero, List.set_cons_succ, i64_w, i32_w]
                                rfl
                              refine pure_ (i := 5) (N := some 107) (v := ?_) (a' := ?_) #[true, true, true, false, false, true, false, false, false, false, false, false, false, false, false, false, false, false, false, false, false] rfl rfl (any_of HT_.out (by kernel_rfl)) (fun _ _ _ h => h) (Or.inl ⟨by rfl, ?_⟩) ?_ ?_
                              rotate_left
                              · intro w'
                                go_simp
                                with_reducible rfl
                              rotate_left
                              · simp only [Act.put, List.setIfInBounds_toArray, List.set_cons_zero, List.set_cons_succ, i64_w, i32_w]
                                rfl
                              refine take_ (i := 3) (N := some 105) (v := ?_) (a' := ?_) #[true, true, true, true, false, true, false, false, false, false, false, false, false, false, false, false, false, false, false, false, false] rfl rfl (take_ofW HT_.out HW_.out (by kernel_rfl)) (fun _ _ _ h => h) (Or.inl ⟨by rfl, ?_⟩) hHeld ?_ ?_
                              rotate_left
                              · rintro w' ⟨s0, s1, s2, s3, s4, s5, s6, s7⟩
                                go_simp
                                with_reducible rfl
                              rotate_left
                              · simp only [Act.put, List.setIfInBounds_toArray, List.set_cons_zero, List.set_cons_succ, i64_w, i32_w]
                                rfl
                              refine take_ (i := 4) (N := some 106) (v := ?_) (a' := ?_) #[true, true, true, true, true, true, false, false, false, false, false, false, false, false, false, false, false, false, false, false, false] rfl rfl (take_ofW HT_.out HW_.out (by kernel_rfl)) (fun _ _ _ h => h) (Or.inl ⟨by rfl, ?_⟩) hHeld ?_ ?_
                              rotate_left
                              · rintro w' ⟨s0, s1, s2, s3, s4, s5, s6, s7⟩
                                go_simp
                                with_reducible rfl
                              rotate_left
                              · simp only [Act.put, List.setIfInBounds_toArray, List.set_cons_zero, List.set_cons_succ, i64_w, i32_w]
                                rfl
                              refine one_ (i := 6) (N := some 108) #[true, true, true, true, true, true, true, false, false, false, false, false, false, false, false, false, false, false, false, false, false] rfl rfl (one_of HT_.out (by kernel_rfl)) (by decide) (fun K hK => ?_)
                              refine goes_ Tryz.func56 (by kernel_rfl) rfl #[.agg #[.int .i64 a0_0, .int .i64 a0_1, .int .i64 a0_2, .int .i64 a0_3], .int .i64 a2] (by rfl) rfl rfl (by (try simp only [List.map_toArray, List.map_cons, List.map_nil]); first | done | rfl | (simp only [List.length_drop, List.length_take]; rfl)) ?_
                              with_reducible refine (guidevaneref06_Step.calls a0_0 a0_1 a0_2 a0_3 a2 t538 t539 t540 t541 _ A63.out).mono ?_
                              rintro e w73 ⟨rfl, hb⟩
                              refine ⟨_, rfl, ?_⟩
                              have n0_ := Aside0.mk (blk_below (g := gb518) (o := .cells #[.int .i64 a0_0, .int .i64 a0_1, .int .i64 a0_2, .int .i64 a0_3] 75 (0, 0)) (by (with_reducible repeat (first | refine blk_drewN ?_ _ | refine blk_drew ?_ | refine blk_alloc ?_ _)); exact BK518.out) hb)
                              have n1_ := Aside0.mk (blk_below (g := gb519) (o := .cells #[.int .i64 a1_0, .int .i64 a1_1, .int .i64 a1_2, .int .i64 a1_3] 77 (0, 0)) (by (with_reducible repeat (first | refine blk_drewN ?_ _ | refine blk_drew ?_ | refine blk_alloc ?_ _)); exact BK519.out) hb)
                              have n2_ := Aside0.mk (blk_below (g := gb528) (o := .cells #[.int .i64 t523, .int .i64 t524, .int .i64 t525, .int .i64 t526] 75 (0, 0)) (by (with_reducible repeat (first | refine blk_drewN ?_ _ | refine blk_drew ?_ | refine blk_alloc ?_ _)); exact BK528.out) hb)
                              have n3_ := Aside0.mk (below_step (by repeat (first | (with_reducible first | exact HB.out | apply below_alloc | apply pw_below_drewN | apply below_drew1 | refine below_set ?_ GE518.out | refine below_set ?_ GE519.out | refine below_set ?_ GE528.out) | exact HB.out)) hb)
                              clear BK518
                              clear BK519
                              clear BK528
                              clear HB
                              have BK518 := n0_
                              have BK519 := n1_
                              have BK528 := n2_
                              have HB := n3_
                              clear n0_ n1_ n2_ n3_
                              (try clear hb)
                              (try clear hb2)
                              (try clear hk)
                              (try clear hi)
                              refine hK.out _ _ ⟨(blk_cell BK528.out 0).trans rfl, (blk_cell BK528.out 1).trans rfl, (blk_cell BK528.out 2).trans rfl, (blk_cell BK528.out 3).trans rfl, (blk_cell BK518.out 0).trans rfl, (blk_cell BK518.out 1).trans rfl, (blk_cell BK518.out 2).trans rfl, (blk_cell BK518.out 3).trans rfl⟩ (fun hHeld => ?_)
                              clear hK K
                              refine norm_ (a' := ?_) ?_ ?_
                              rotate_left
                              · show Act.put _ (some 108) _ = _
                                simp only [Act.put, List.setIfInBounds_toArray, List.set_cons_zero, List.set_cons_succ, i64_w, i32_w]
                                rfl
                              refine pure_ (i := 7) (N := some 109) (v := ?_) (a' := ?_) #[true, true, true, true, true, true, true, true, false, false, false, false, false, false, false, false, false, false, false, false, false] rfl rfl (any_of HT_.out (by kernel_rfl)) (fun _ _ _ h => h) (Or.inl ⟨by rfl, ?_⟩) ?_ ?_
                              rotate_left
                              · intro w'
                                go_simp
                                with_reducible rfl
                              rotate_left
                              · simp only [Act.put, List.setIfInBounds_toArray, List.set_cons_zero, List.set_cons_succ, i64_w, i32_w]
                                rfl
                              refine pure_ (i := 8) (N := some 110) (v := ?_) (a' := ?_) #[true, true, true, true, true, true, true, true, true, false, false, false, false, false, false, false, false, false, false, false, false] rfl rfl (any_of HT_.out (by kernel_rfl)) (fun _ _ _ h => h) (Or.inl ⟨by rfl, ?_⟩) ?_ ?_
                              rotate_left
                              · intro w'
                                go_simp
                                with_reducible rfl
                              rotate_left
                              · simp only [Act.put, List.setIfInBounds_toArray, List.set_cons_zero, List.set_cons_succ, i64_w, i32_w]
                                rfl
                              refine pure_ (i := 9) (N := some 111) (v := ?_) (a' := ?_) #[true, true, true, true, true, true, true, true, true, true, false, false, false, false, false, false, false, false, false, false, false] rfl rfl (any_of HT_.out (by kernel_rfl)) (fun _ _ _ h => h) (Or.inl ⟨by rfl, ?_⟩) ?_ ?_
                              rotate_left
                              · intro w'
                                go_simp
                                with_reducible rfl
                              rotate_left
                              · simp only [Act.put, List.setIfInBounds_toArray, List.set_cons_zero, List.set_cons_succ, i64_w, i32_w]
                                rfl
                              refine pure_ (i := 10) (N := some 112) (v := undef) (a' := ?_) #[true, true, true, true, true, true, true, true, true, true, true, false, false, false, false, false, false, false, false, false, false] rfl rfl (any_of HT_.out (by kernel_rfl)) (fun _ _ _ h => h) (Or.inr ⟨by rfl, rfl⟩) ?_ ?_
                              rotate_left
                              · simp only [Act.put, List.setIfInBounds_toArray, List.set_cons_zero, List.set_cons_succ, i64_w, i32_w]
                                rfl
                              refine pure_ (i := 11) (N := some 113) (v := undef) (a' := ?_) #[true, true, true, true, true, true, true, true, true, true, true, true, false, false, false, false, false, false, false, false, false] rfl rfl (any_of HT_.out (by kernel_rfl)) (fun _ _ _ h => h) (Or.inr ⟨by rfl, rfl⟩) ?_ ?_
                              rotate_left
                              · simp only [Act.put, List.setIfInBounds_toArray, List.set_cons_zero, List.set_cons_succ, i64_w, i32_w]
                                rfl
                              refine pure_ (i := 12) (N := some 114) (v := ?_) (a' := ?_) #[true, true, true, true, true, true, true, true, true, true, true, true, true, false, false, false, false, false, false, false, false] rfl rfl (any_of HT_.out (by kernel_rfl)) (fun _ _ _ h => h) (Or.inl ⟨by rfl, ?_⟩) ?_ ?_
                              rotate_left
                              · intro w'
                                go_simp
                                with_reducible rfl
                              rotate_left
                              · simp only [Act.put, List.setIfInBounds_toArray, List.set_cons_zero, List.set_cons_succ, i64_w, i32_w]
                                rfl
                              refine pure_ (i := 13) (N := some 115) (v := ?_) (a' := ?_) #[true, true, true, true, true, true, true, true, true, true, true, true, true, true, false, false, false, false, false, false, false] rfl rfl (any_of HT_.out (by kernel_rfl)) (fun _ _ _ h => h) (Or.inl ⟨by rfl, ?_⟩) ?_ ?_
                              rotate_left
                              · intro w'
                                go_simp
                                with_reducible rfl
                              rotate_left
                              · simp only [Act.put, List.setIfInBounds_toArray, List.set_cons_zero, List.set_cons_succ, i64_w, i32_w]
                                rfl
                              refine pure_ (i := 14) (N := some 116) (v := undef) (a' := ?_) #[true, true, true, true, true, true, true, true, true, true, true, true, true, true, true, false, false, false, false, false, false] rfl rfl (any_of HT_.out (by kernel_rfl)) (fun _ _ _ h => h) (Or.inr ⟨by rfl, rfl⟩) ?_ ?_
                              rotate_left
                              · simp only [Act.put, List.setIfInBounds_toArray, List.set_cons_zero, List.set_cons_succ, i64_w, i32_w]
                                rfl
                              refine pure_ (i := 15) (N := some 117) (v := undef) (a' := ?_) #[true, true, true, true, true, true, true, true, true, true, true, true, true, true, true, true, false, false, false, false, false] rfl rfl (any_of HT_.out (by kernel_rfl)) (fun _ _ _ h => h) (Or.inr ⟨by rfl, rfl⟩) ?_ ?_
                              rotate_left
                              · simp only [Act.put, List.setIfInBounds_toArray, List.set_cons_zero, List.set_cons_succ, i64_w, i32_w]
                                rfl
                              refine pure_ (i := 16) (N := some 118) (v := undef) (a' := ?_) #[true, true, true, true, true, true, true, true, true, true, true, true, true, true, true, true, true, false, false, false, false] rfl rfl (any_of HT_.out (by kernel_rfl)) (fun _ _ _ h => h) (Or.inr ⟨by rfl, rfl⟩) ?_ ?_
                              rotate_left
                              · simp only [Act.put, List.setIfInBounds_toArray, List.set_cons_zero, List.set_cons_succ, i64_w, i32_w]
                                rfl
                              refine pure_ (i := 17) (N := some 119) (v := undef) (a' := ?_) #[true, true, true, true, true, true, true, true, true, true, true, true, true, true, true, true, true, true, false, false, false] rfl rfl (any_of HT_.out (by kernel_rfl)) (fun _ _ _ h => h) (Or.inr ⟨by rfl, rfl⟩) ?_ ?_
                              rotate_left
                              · simp only [Act.put, List.setIfInBounds_toArray, List.set_cons_zero, List.set_cons_succ, i64_w, i32_w]
                                rfl
                              refine pure_ (i := 18) (N := some 120) (v := undef) (a' := ?_) #[true, true, true, true, true, true, true, true, true, true, true, true, true, true, true, true, true, true, true, false, false] rfl rfl (any_of HT_.out (by kernel_rfl)) (fun _ _ _ h => h) (Or.inr ⟨by rfl, rfl⟩) ?_ ?_
                              rotate_left
                              · simp only [Act.put, List.setIfInBounds_toArray, List.set_cons_zero, List.set_cons_succ, i64_w, i32_w]
                                rfl
                              refine pure_ (i := 19) (N := some 121) (v := ?_) (a' := ?_) #[true, true, true, true, true, true, true, true, true, true, true, true, true, true, true, true, true, true, true, true, false] rfl rfl (any_of HT_.out (by kernel_rfl)) (fun _ _ _ h => h) (Or.inl ⟨by rfl, ?_⟩) ?_ ?_
                              rotate_left
                              · intro w'
                                go_simp
                                with_reducible rfl
                              rotate_left
                              · simp only [Act.put, List.setIfInBounds_toArray, List.set_cons_zero, List.set_cons_succ, i64_w, i32_w]
                                rfl
                              refine pure_ (i := 20) (N := some 6) (v := ?_) (a' := ?_) #[true, true, true, true, true, true, true, true, true, true, true, true, true, true, true, true, true, true, true, true, true] rfl rfl (any_of HT_.out (by kernel_rfl)) (fun _ _ _ h => h) (Or.inl ⟨by rfl, ?_⟩) ?_ ?_
                              rotate_left
                              · intro w'
                                go_simp
                                with_reducible rfl
                              rotate_left
                              · simp only [Act.put, List.setIfInBounds_toArray, List.set_cons_zero, List.set_cons_succ, i64_w, i32_w]
                                rfl
                              refine done_ (done_of HT_.out (by kernel_rfl)) ?_
                              try go_wp2
                              go_ret
                              exact ⟨by first | rfl | (simp [errW_none, errW_some] <;> rfl) | (simp [*, errW_none, errW_some] <;> rfl), by repeat (first | (with_reducible first | exact HB.out | apply below_alloc | apply pw_below_drewN | apply below_drew1 | refine below_set ?_ GE518.out | refine below_set ?_ GE519.out | refine below_set ?_ GE528.out) | exact HB.out)⟩
                          · rw [if_neg c62] at H
                            have c62b0 : (t527 == 0) = false := beq_eq_false_iff_ne.mpr c62
                            have c62b1 : (t527 != 0) = true := bne_iff_ne.mpr c62
                            obtain rfl := Option.some.inj H
                            try go_wp2
                            have n0_ := Aside0.mk (blk_drew BK518.out)
                            have n1_ := Aside0.mk (blk_drew BK519.out)
                            have n2_ := Aside0.mk (blk_drew BK528.out)
                            have n3_ := Aside0.mk (below_drew1 HB.out)
                            clear BK518
                            clear BK519
                            clear BK528
                            clear HB
                            have BK518 := n0_
                            have BK519 := n1_
                            have BK528 := n2_
                            have HB := n3_
                            clear n0_ n1_ n2_ n3_
                            refine start_ (n := 21) (S := fun w' => True) (ds := []) #[false, false, false, false, false, false, false, false, false, false, false, false, false, false, false, false, false, false, false, false, false] (by kernel_rfl) rfl rfl trivial (fun hHeld => ?_); refine with_tabW guidevanelaw06_GovernorGates.tab17 guidevanelaw06_GovernorGates.bits17 (fun HT_ HW_ => ?_)
                            generalize wc.drew = w74 at BK518 BK519 BK528 HB hHeld ⊢
                            refine pure_ (i := 0) (N := some 102) (v := ?_) (a' := ?_) #[true, false, false, false, false, false, false, false, false, false, false, false, false, false, false, false, false, false, false, false, false] rfl rfl (any_of HT_.out (by kernel_rfl)) (fun _ _ _ h => h) (Or.inl ⟨by rfl, ?_⟩) ?_ ?_
                            rotate_left
                            · intro w'
                              go_simp
                              with_reducible rfl
                            rotate_left
                            · simp only [Act.put, List.setIfInBounds_toArray, List.set_cons_zero, List.set_cons_succ, i64_w, i32_w]
                              rfl
                            refine pure_ (i := 1) (N := some 103) (v := ?_) (a' := ?_) #[true, true, false, false, false, false, false, false, false, false, false, false, false, false, false, false, false, false, false, false, false] rfl rfl (any_of HT_.out (by kernel_rfl)) (fun _ _ _ h => h) (Or.inl ⟨by rfl, ?_⟩) ?_ ?_
                            rotate_left
                            · intro w'
                              go_simp
                              with_reducible rfl
                            rotate_left
                            · simp only [Act.put, List.setIfInBounds_toArray, List.set_cons_zero, List.set_cons_succ, i64_w, i32_w]
                              rfl
                            refine pure_ (i := 2) (N := some 104) (v := ?_) (a' := ?_) #[true, true, true, false, false, false, false, false, false, false, false, false, false, false, false, false, false, false, false, false, false] rfl rfl (any_of HT_.out (by kernel_rfl)) (fun _ _ _ h => h) (Or.inl ⟨by rfl, ?_⟩) ?_ ?_
                            rotate_left
                            · intro w'
                              go_simp
                              with_reducible rfl
                            rotate_left
                            · simp only [Act.put, List.setIfInBounds_toArray, List.set_cons_zero, List.set_cons_succ, i64_w, i32_w]
                              rfl
                            refine pure_ (i := 3) (N := some 105) (v := undef) (a' := ?_) #[true, true, true, true, false, false, false, false, false, false, false, false, false, false, false, false, false, false, false, false, false] rfl rfl (any_of HT_.out (by kernel_rfl)) (fun _ _ _ h => h) (Or.inr ⟨by rfl, rfl⟩) ?_ ?_
                            rotate_left
                            · simp only [Act.put, List.setIfInBounds_toArray, List.set_cons_zero, List.set_cons_succ, i64_w, i32_w]
                              rfl
                            refine pure_ (i := 4) (N := some 106) (v := undef) (a' := ?_) #[true, true, true, true, true, false, false, false, false, false, false, false, false, false, false, false, false, false, false, false, false] rfl rfl (any_of HT_.out (by kernel_rfl)) (fun _ _ _ h => h) (Or.inr ⟨by rfl, rfl⟩) ?_ ?_
                            rotate_left
                            · simp only [Act.put, List.setIfInBounds_toArray, List.set_cons_zero, List.set_cons_succ, i64_w, i32_w]
                              rfl
                            refine pure_ (i := 5) (N := some 107) (v := undef) (a' := ?_) #[true, true, true, true, true, true, false, false, false, false, false, false, false, false, false, false, false, false, false, false, false] rfl rfl (any_of HT_.out (by kernel_rfl)) (fun _ _ _ h => h) (Or.inr ⟨by rfl, rfl⟩) ?_ ?_
                            rotate_left
                            · simp only [Act.put, List.setIfInBounds_toArray, List.set_cons_zero, List.set_cons_succ, i64_w, i32_w]
                              rfl
                            refine pure_ (i := 6) (N := some 108) (v := undef) (a' := ?_) #[true, true, true, true, true, true, true, false, false, false, false, false, false, false, false, false, false, false, false, false, false] rfl rfl (any_of HT_.out (by kernel_rfl)) (fun _ _ _ h => h) (Or.inr ⟨by rfl, rfl⟩) ?_ ?_
                            rotate_left
                            · simp only [Act.put, List.setIfInBounds_toArray, List.set_cons_zero, List.set_cons_succ, i64_w, i32_w]
                              rfl
                            refine pure_ (i := 7) (N := some 109) (v := undef) (a' := ?_) #[true, true, true, true, true, true, true, true, false, false, false, false, false, false, false, false, false, false, false, false, false] rfl rfl (any_of HT_.out (by kernel_rfl)) (fun _ _ _ h => h) (Or.inr ⟨by rfl, rfl⟩) ?_ ?_
                            rotate_left
                            · simp only [Act.put, List.setIfInBounds_toArray, List.set_cons_zero, List.set_cons_succ, i64_w, i32_w]
                              rfl
                            refine pure_ (i := 8) (N := some 110) (v := ?_) (a' := ?_) #[true, true, true, true, true, true, true, true, true, false, false, false, false, false, false, false, false, false, false, false, false] rfl rfl (any_of HT_.out (by kernel_rfl)) (fun _ _ _ h => h) (Or.inl ⟨by rfl, ?_⟩) ?_ ?_
                            rotate_left
                            · intro w'
                              go_simp
                              with_reducible rfl
                            rotate_left
                            · simp only [Act.put, List.setIfInBounds_toArray, List.set_cons_zero, List.set_cons_succ, i64_w, i32_w]
                              rfl
                            refine pure_ (i := 9) (N := some 111) (v := ?_) (a' := ?_) #[true, true, true, true, true, true, true, true, true, true, false, false, false, false, false, false, false, false, false, false, false] rfl rfl (any_of HT_.out (by kernel_rfl)) (fun _ _ _ h => h) (Or.inl ⟨by rfl, ?_⟩) ?_ ?_
                            rotate_left
                            · intro w'
                              go_simp
                              with_reducible rfl
                            rotate_left
                            · simp only [Act.put, List.setIfInBounds_toArray, List.set_cons_zero, List.set_cons_succ, i64_w, i32_w]
                              rfl
                            refine pure_ (i := 10) (N := some 112) (v := undef) (a' := ?_) #[true, true, true, true, true, true, true, true, true, true, true, false, false, false, false, false, false, false, false, false, false] rfl rfl (any_of HT_.out (by kernel_rfl)) (fun _ _ _ h => h) (Or.inr ⟨by rfl, rfl⟩) ?_ ?_
                            rotate_left
                            · simp only [Act.put, List.setIfInBounds_toArray, List.set_cons_zero, List.set_cons_succ, i64_w, i32_w]
                              rfl
                            refine pure_ (i := 11) (N := some 113) (v := undef) (a' := ?_) #[true, true, true, true, true, true, true, true, true, true, true, true, false, false, false, false, false, false, false, false, false] rfl rfl (any_of HT_.out (by kernel_rfl)) (fun _ _ _ h => h) (Or.inr ⟨by rfl, rfl⟩) ?_ ?_
                            rotate_left
                            · simp only [Act.put, List.setIfInBounds_toArray, List.set_cons_zero, List.set_cons_succ, i64_w, i32_w]
                              rfl
                            refine pure_ (i := 12) (N := some 114) (v := ?_) (a' := ?_) #[true, true, true, true, true, true, true, true, true, true, true, true, true, false, false, false, false, false, false, false, false] rfl rfl (any_of HT_.out (by kernel_rfl)) (fun _ _ _ h => h) (Or.inl ⟨by rfl, ?_⟩) ?_ ?_
                            rotate_left
                            · intro w'
                              go_simp
                              with_reducible rfl
                            rotate_left
                            · simp only [Act.put, List.setIfInBounds_toArray, List.set_cons_zero, List.set_cons_succ, i64_w, i32_w]
                              rfl
                            refine pure_ (i := 13) (N := some 115) (v := ?_) (a' := ?_) #[true, true, true, true, true, true, true, true, true, true, true, true, true, true, false, false, false, false, false, false, false] rfl rfl (any_of HT_.out (by kernel_rfl)) (fun _ _ _ h => h) (Or.inl ⟨by rfl, ?_⟩) ?_ ?_
                            rotate_left
                            · intro w'
                              go_simp
                              with_reducible rfl
                            rotate_left
                            · simp only [Act.put, List.setIfInBounds_toArray, List.set_cons_zero, List.set_cons_succ, i64_w, i32_w]
                              rfl
                            refine pure_ (i := 14) (N := some 116) (v := undef) (a' := ?_) #[true, true, true, true, true, true, true, true, true, true, true, true, true, true, true, false, false, false, false, false, false] rfl rfl (any_of HT_.out (by kernel_rfl)) (fun _ _ _ h => h) (Or.inr ⟨by rfl, rfl⟩) ?_ ?_
                            rotate_left
                            · simp only [Act.put, List.setIfInBounds_toArray, List.set_cons_zero, List.set_cons_succ, i64_w, i32_w]
                              rfl
                            refine pure_ (i := 15) (N := some 117) (v := undef) (a' := ?_) #[true, true, true, true, true, true, true, true, true, true, true, true, true, true, true, true, false, false, false, false, false] rfl rfl (any_of HT_.out (by kernel_rfl)) (fun _ _ _ h => h) (Or.inr ⟨by rfl, rfl⟩) ?_ ?_
                            rotate_left
                            · simp only [Act.put, List.setIfInBounds_toArray, List.set_cons_zero, List.set_cons_succ, i64_w, i32_w]
                              rfl
                            refine pure_ (i := 16) (N := some 118) (v := undef) (a' := ?_) #[true, true, true, true, true, true, true, true, true, true, true, true, true, true, true, true, true, false, false, false, false] rfl rfl (any_of HT_.out (by kernel_rfl)) (fun _ _ _ h => h) (Or.inr ⟨by rfl, rfl⟩) ?_ ?_
                            rotate_left
                            · simp only [Act.put, List.setIfInBounds_toArray, List.set_cons_zero, List.set_cons_succ, i64_w, i32_w]
                              rfl
                            refine pure_ (i := 17) (N := some 119) (v := undef) (a' := ?_) #[true, true, true, true, true, true, true, true, true, true, true, true, true, true, true, true, true, true, false, false, false] rfl rfl (any_of HT_.out (by kernel_rfl)) (fun _ _ _ h => h) (Or.inr ⟨by rfl, rfl⟩) ?_ ?_
                            rotate_left
                            · simp only [Act.put, List.setIfInBounds_toArray, List.set_cons_zero, List.set_cons_succ, i64_w, i32_w]
                              rfl
                            refine pure_ (i := 18) (N := some 120) (v := undef) (a' := ?_) #[true, true, true, true, true, true, true, true, true, true, true, true, true, true, true, true, true, true, true, false, false] rfl rfl (any_of HT_.out (by kernel_rfl)) (fun _ _ _ h => h) (Or.inr ⟨by rfl, rfl⟩) ?_ ?_
                            rotate_left
                            · simp only [Act.put, List.setIfInBounds_toArray, List.set_cons_zero, List.set_cons_succ, i64_w, i32_w]
                              rfl
                            refine pure_ (i := 19) (N := some 121) (v := ?_) (a' := ?_) #[true, true, true, true, true, true, true, true, true, true, true, true, true, true, true, true, true, true, true, true, false] rfl rfl (any_of HT_.out (by kernel_rfl)) (fun _ _ _ h => h) (Or.inl ⟨by rfl, ?_⟩) ?_ ?_
                            rotate_left
                            · intro w'
                              go_simp
                              with_reducible rfl
                            rotate_left
                            · simp only [Act.put, List.setIfInBounds_toArray, List.set_cons_zero, List.set_cons_succ, i64_w, i32_w]
                              rfl
                            refine pure_ (i := 20) (N := some 6) (v := ?_) (a' := ?_) #[true, true, true, true, true, true, true, true, true, true, true, true, true, true, true, true, true, true, true, true, true] rfl rfl (any_of HT_.out (by kernel_rfl)) (fun _ _ _ h => h) (Or.inl ⟨by rfl, ?_⟩) ?_ ?_
                            rotate_left
                            · intro w'
                              go_simp
                              with_reducible rfl
                            rotate_left
                            · simp only [Act.put, List.setIfInBounds_toArray, List.set_cons_zero, List.set_cons_succ, i64_w, i32_w]
                              rfl
                            refine done_ (done_of HT_.out (by kernel_rfl)) ?_
                            try go_wp2
                            go_ret
                            exact ⟨by first | rfl | (simp [errW_none, errW_some] <;> rfl) | (simp [*, errW_none, errW_some] <;> rfl), by repeat (first | (with_reducible first | exact HB.out | apply below_alloc | apply pw_below_drewN | apply below_drew1 | refine below_set ?_ GE518.out | refine below_set ?_ GE519.out | refine below_set ?_ GE528.out) | exact HB.out)⟩
                        · rw [if_neg c61] at H
                          have c61b0 : (x13_57 == 0) = false := beq_eq_false_iff_ne.mpr c61
                          have c61b1 : (x13_57 != 0) = true := bne_iff_ne.mpr c61
                          by_cases c75 : t527 = x13_57
                          · rw [if_pos c75] at H
                            have c75b0 : (t527 == x13_57) = true := beq_iff_eq.mpr c75
                            have c75b1 : (t527 != x13_57) = false := bne_eq_false_iff_eq.mpr c75
                            clear c75
                            by_cases c76 : t530 = x13_57
                            · rw [if_pos c76] at H
                              have c76b0 : (t530 == x13_57) = true := beq_iff_eq.mpr c76
                              have c76b1 : (t530 != x13_57) = false := bne_eq_false_iff_eq.mpr c76
                              clear c76
                              by_cases c77 : (t523 == 0 && (t524 == 0 && (t525 == 0 && (t526 == 0)))) = true
                              · rw [if_pos c77] at H
                                have c77b0 : (t523 == 0 && (t524 == 0 && (t525 == 0 && (t526 == 0)))) = true := c77
                                (try (have c77b1 : decide (t523 = 0 && (t524 == 0 && (t525 == 0 && (t526 == 0)))) = true := by simpa using c77))
                                (try (have c77b2 : (t523 == 0 && (t524 == 0 && (t525 == 0 && (t526 == 0)))) = true := by simpa using c77))
                                clear c77
                                obtain rfl := Option.some.inj H
                                have hnb78 := NB528_518.out
                                have hnc78 := NB518_528.out
                                have hnb79 := NB528_519.out
                                have hnc79 := NB519_528.out
                                have hcz80_0 : wc.cell? ⟨gb528, 0, none⟩ = some (.int .i64 t523) := (blk_cell BK528.out 0).trans rfl
                                have hcz80_1 : wc.cell? ⟨gb528, 1, none⟩ = some (.int .i64 t524) := (blk_cell BK528.out 1).trans rfl
                                have hcz80_2 : wc.cell? ⟨gb528, 2, none⟩ = some (.int .i64 t525) := (blk_cell BK528.out 2).trans rfl
                                have hcz80_3 : wc.cell? ⟨gb528, 3, none⟩ = some (.int .i64 t526) := (blk_cell BK528.out 3).trans rfl
                                have hfz80_0 := blk_frozen BK528.out 0
                                have hfz80_1 := blk_frozen BK528.out 1
                                have hfz80_2 := blk_frozen BK528.out 2
                                have hfz80_3 := blk_frozen BK528.out 3
                                go_wp2
                                go_ret
                                exact ⟨by first | rfl | (simp [errW_none, errW_some] <;> rfl) | (simp [*, errW_none, errW_some] <;> rfl), by repeat (first | (with_reducible first | exact HB.out | apply below_alloc | apply pw_below_drewN | apply below_drew1 | refine below_set ?_ GE518.out | refine below_set ?_ GE519.out | refine below_set ?_ GE528.out) | exact HB.out)⟩
                              · rw [if_neg c77] at H
                                have c77b0 : (t523 == 0 && (t524 == 0 && (t525 == 0 && (t526 == 0)))) = false := by simpa using c77
                                (try (have c77b1 : decide (t523 = 0 && (t524 == 0 && (t525 == 0 && (t526 == 0)))) = false := by simpa using c77))
                                (try (have c77b2 : (t523 == 0 && (t524 == 0 && (t525 == 0 && (t526 == 0)))) = false := by simpa using c77))
                                (try (have c77b3 : ¬ (t523 = 0 && (t524 == 0 && (t525 == 0 && (t526 == 0)))) := by simpa using c77))
                                clear c77
                                obtain rfl := Option.some.inj H
                                have hnb81 := NB528_518.out
                                have hnc81 := NB518_528.out
                                have hnb82 := NB528_519.out
                                have hnc82 := NB519_528.out
                                have hcz83_0 : wc.cell? ⟨gb528, 0, none⟩ = some (.int .i64 t523) := (blk_cell BK528.out 0).trans rfl
                                have hcz83_1 : wc.cell? ⟨gb528, 1, none⟩ = some (.int .i64 t524) := (blk_cell BK528.out 1).trans rfl
                                have hcz83_2 : wc.cell? ⟨gb528, 2, none⟩ = some (.int .i64 t525) := (blk_cell BK528.out 2).trans rfl
                                have hcz83_3 : wc.cell? ⟨gb528, 3, none⟩ = some (.int .i64 t526) := (blk_cell BK528.out 3).trans rfl
                                have hfz83_0 := blk_frozen BK528.out 0
                                have hfz83_1 := blk_frozen BK528.out 1
                                have hfz83_2 := blk_frozen BK528.out 2
                                have hfz83_3 := blk_frozen BK528.out 3
                                go_wp2
                                go_ret
                                exact ⟨by first | rfl | (simp [errW_none, errW_some] <;> rfl) | (simp [*, errW_none, errW_some] <;> rfl), by repeat (first | (with_reducible first | exact HB.out | apply below_alloc | apply pw_below_drewN | apply below_drew1 | refine below_set ?_ GE518.out | refine below_set ?_ GE519.out | refine below_set ?_ GE528.out) | exact HB.out)⟩
                            · rw [if_neg c76] at H
                              have c76b0 : (t530 == x13_57) = false := beq_eq_false_iff_ne.mpr c76
                              have c76b1 : (t530 != x13_57) = true := bne_iff_ne.mpr c76
                              obtain rfl := Option.some.inj H
                              go_wp2
                              go_ret
                              exact ⟨by first | rfl | (simp [errW_none, errW_some] <;> rfl) | (simp [*, errW_none, errW_some] <;> rfl), by repeat (first | (with_reducible first | exact HB.out | apply below_alloc | apply pw_below_drewN | apply below_drew1 | refine below_set ?_ GE518.out | refine below_set ?_ GE519.out | refine below_set ?_ GE528.out) | exact HB.out)⟩
                          · rw [if_neg c75] at H
                            have c75b0 : (t527 == x13_57) = false := beq_eq_false_iff_ne.mpr c75
                            have c75b1 : (t527 != x13_57) = true := bne_iff_ne.mpr c75
                            obtain rfl := Option.some.inj H
                            go_wp2
                            go_ret
                            exact ⟨by first | rfl | (simp [errW_none, errW_some] <;> rfl) | (simp [*, errW_none, errW_some] <;> rfl), by repeat (first | (with_reducible first | exact HB.out | apply below_alloc | apply pw_below_drewN | apply below_drew1 | refine below_set ?_ GE518.out | refine below_set ?_ GE519.out | refine below_set ?_ GE528.out) | exact HB.out)⟩
  · replace c5 := Bool.eq_false_iff.mpr c5
    subst c5
    have H1 : (some false) = some r := by rw [if_neg (show ¬ (false = true) by decide)] at H; exact H
    clear H
    have H := H1
    clear H1
    obtain rfl := Option.some.inj H
    go_enter Tryz.func7, Tryz.ntmps7
    go_wp2_with (first | ((with_reducible refine gate_dst (N := 3) rfl ?_); refine box_event ?hg (N := 3) ?hd (cs := #[.int .i64 a0_0, .int .i64 a0_1, .int .i64 a0_2, .int .i64 a0_3]) (t := 75) ?hr ?_; (case hd => rfl); (case hg => rfl); (case hr => first | (go_simp; done) | (go_simp; rfl)); intro gb518 hg w84 hbox hb; have n0_ := Aside0.mk (below_step (by repeat (first | (with_reducible first | exact HB.out | apply below_alloc | apply pw_below_drewN | apply below_drew1) | exact HB.out)) hb); have n1_ := Aside0.mk (hbox); have n2_ := Aside0.mk ((by rw [hg]; exact (below_size (by repeat (first | (with_reducible first | exact HB.out | apply below_alloc | apply pw_below_drewN | apply below_drew1) | exact HB.out))) : w.heap.size ≤ gb518)); have n3_ := Aside0.mk ((by rw [hg]; exact (below_size (by repeat (first | (with_reducible first | exact HB.out | apply below_alloc | apply pw_below_drewN | apply below_drew1) | exact HB.out))) : w.heap.size ≤ gb518)); clear HB; have HB := n0_; have BK518 := n1_; have GW518 := n2_; have GE518 := n3_; clear n0_ n1_ n2_ n3_; clear hb hbox hg) | ((with_reducible refine gate_dst (N := 4) rfl ?_); refine box_event ?hg (N := 4) ?hd (cs := #[.int .i64 a1_0, .int .i64 a1_1, .int .i64 a1_2, .int .i64 a1_3]) (t := 77) ?hr ?_; (case hd => rfl); (case hg => rfl); (case hr => first | (go_simp; done) | (go_simp; rfl)); intro gb519 hg w85 hbox hb; have n0_ := Aside0.mk (blk_below (g := gb518) (o := .cells #[.int .i64 a0_0, .int .i64 a0_1, .int .i64 a0_2, .int .i64 a0_3] 75 (0, 0)) (by (with_reducible repeat (first | refine blk_drewN ?_ _ | refine blk_drew ?_ | refine blk_alloc ?_ _)); exact BK518.out) hb); have n1_ := Aside0.mk (below_step (by repeat (first | (with_reducible first | exact HB.out | apply below_alloc | apply pw_below_drewN | apply below_drew1 | refine below_set ?_ GE518.out) | exact HB.out)) hb); have n2_ := Aside0.mk (hbox); have n3_ := Aside0.mk ((by rw [hg]; exact (below_size (by repeat (first | (with_reducible first | exact HB.out | apply below_alloc | apply pw_below_drewN | apply below_drew1 | refine below_set ?_ GE518.out) | exact HB.out))) : w.heap.size ≤ gb519)); have n4_ := Aside0.mk ((by rw [hg]; exact (below_size (by repeat (first | (with_reducible first | exact HB.out | apply below_alloc | apply pw_below_drewN | apply below_drew1 | refine below_set ?_ GE518.out) | exact HB.out))) : w.heap.size ≤ gb519)); have n5_ := Aside0.mk ((by rw [hg]; exact Nat.ne_of_lt (blk_lt (g := gb518) (o := .cells #[.int .i64 a0_0, .int .i64 a0_1, .int .i64 a0_2, .int .i64 a0_3] 75 (0, 0)) (by (with_reducible repeat (first | refine blk_drewN ?_ _ | refine blk_drew ?_ | refine blk_alloc ?_ _)); exact BK518.out)) : gb518 ≠ gb519)); have n6_ := Aside0.mk ((by rw [hg]; exact Nat.ne_of_gt (blk_lt (g := gb518) (o := .cells #[.int .i64 a0_0, .int .i64 a0_1, .int .i64 a0_2, .int .i64 a0_3] 75 (0, 0)) (by (with_reducible repeat (first | refine blk_drewN ?_ _ | refine blk_drew ?_ | refine blk_alloc ?_ _)); exact BK518.out)) : gb519 ≠ gb518)); clear BK518; clear HB; have BK518 := n0_; have HB := n1_; have BK519 := n2_; have GW519 := n3_; have GE519 := n4_; have NB518_519 := n5_; have NB519_518 := n6_; clear n0_ n1_ n2_ n3_ n4_ n5_ n6_; clear hb hbox hg) | ((with_reducible refine gate_callee (f := 16) rfl ?_); refine goesL_ (some 15) rfl rfl Tryz.func16 (by kernel_rfl) rfl #[] rfl (by (try simp only [List.map_toArray, List.map_cons, List.map_nil]); first | done | rfl | (simp only [List.length_drop, List.length_take]; rfl)) ?_; (with_reducible refine (guidevanelaw06_awake.calls  false _ A4.out).mono ?_); rintro e w86 ⟨rfl, hb⟩; refine ⟨_, rfl, ?_⟩; have n0_ := Aside0.mk (blk_below (g := gb518) (o := .cells #[.int .i64 a0_0, .int .i64 a0_1, .int .i64 a0_2, .int .i64 a0_3] 75 (0, 0)) (by (with_reducible repeat (first | refine blk_drewN ?_ _ | refine blk_drew ?_ | refine blk_alloc ?_ _)); exact BK518.out) hb); have n1_ := Aside0.mk (blk_below (g := gb519) (o := .cells #[.int .i64 a1_0, .int .i64 a1_1, .int .i64 a1_2, .int .i64 a1_3] 77 (0, 0)) (by (with_reducible repeat (first | refine blk_drewN ?_ _ | refine blk_drew ?_ | refine blk_alloc ?_ _)); exact BK519.out) hb); have n2_ := Aside0.mk (below_step (by repeat (first | (with_reducible first | exact HB.out | apply below_alloc | apply pw_below_drewN | apply below_drew1 | refine below_set ?_ GE518.out | refine below_set ?_ GE519.out) | exact HB.out)) hb); clear BK518; clear BK519; clear HB; have BK518 := n0_; have BK519 := n1_; have HB := n2_; clear n0_ n1_ n2_; (try clear hb); (try clear hb2); (try clear hk); (try clear hi)))
    go_ret
    exact ⟨by first | rfl | (simp [errW_none, errW_some] <;> rfl) | (simp [*, errW_none, errW_some] <;> rfl), by repeat (first | (with_reducible first | exact HB.out | apply below_alloc | apply pw_below_drewN | apply below_drew1 | refine below_set ?_ GE518.out | refine below_set ?_ GE519.out) | exact HB.out)⟩
end Go.Proofs.YtmpondcccbmlhaaGreat.Q
namespace Go.Proofs.YtmpondcccbmlhaaGreat.Ext
open Go.RowKit Go.Proofs.YtmpondcccbmlhaaGreatW.PrintWords Go.Proofs.YtmpondcccbmlhaaGreatW.PrintLast Go.Proofs.YtmpondcccbmlhaaGreatW.PrintMore
def rulesErr (b n d s : Int) : Int := if (0 ≤ b ∧ b ≤ 100000) ∧ (0 ≤ n ∧ n ≤ 1000) ∧ (1 ≤ d ∧ d ≤ 1000) ∧ (0 ≤ s ∧ s ≤ 10000) then 0 else 2
theorem checkRules_eval (b n d s : Int) : Q.governor_CheckRules.f b n d s = some (rulesErr b n d s) := by
  unfold Q.governor_CheckRules.f rulesErr
  simp only [within_eval, isPos_eval, unless_eval, Option.bind_some, decide_eq_true_eq]
  by_cases h1 : 0 ≤ b ∧ b ≤ 100000
  · by_cases h2 : 0 ≤ n ∧ n ≤ 1000
    · by_cases h3 : 1 ≤ d ∧ d ≤ 1000
      · simp only [h1, h2, h3, and_self, if_true, true_and]
      · simp [h1, h2, h3]
    · simp [h1, h2]
  · simp [h1]
theorem rrulesErr_eval (b n d s : Int) : Q.guidevaneref06_RulesErr.f b n d s = some (rulesErr b n d s) := by
  unfold Q.guidevaneref06_RulesErr.f rulesErr
  simp only [bwithin_eval, Option.bind_some, decide_eq_true_eq]
  by_cases h1 : 0 ≤ b ∧ b ≤ 100000
  · by_cases h2 : 0 ≤ n ∧ n ≤ 1000
    · by_cases h3 : 1 ≤ d ∧ d ≤ 1000
      · by_cases h4 : 0 ≤ s ∧ s ≤ 10000
        · simp [h1, h2, h3, h4]
        · simp [h1, h2, h3, h4]
      · simp [h1, h2, h3]
    · simp [h1, h2]
  · simp [h1]
theorem rspeedErr_eval (n : Int) : Q.guidevaneref06_SpeedErr.f n = some (speedErr n) := by
  unfold Q.guidevaneref06_SpeedErr.f speedErr
  simp only [bwithin_eval, Option.bind_some, decide_eq_true_eq]
  split <;> rfl
theorem rgateErr_eval (at_ lo hi rate : Int) (k : Nat) (hk : 2 ≤ k) : Q.guidevaneref06_GateErr.f k at_ lo hi rate = some (gateErr at_ lo hi rate) := by
  obtain ⟨k, rfl⟩ : ∃ k', k = k' + 1 := ⟨k - 1, by omega⟩
  have ht : Q.guidevaneref06_GateErr.j0 (k + 1) true at_ lo hi rate = some 2 := by rw [Q.guidevaneref06_GateErr.j0, if_pos rfl]
  have hf : Q.guidevaneref06_GateErr.j0 (k + 1) false at_ lo hi rate = some (if lo ≤ hi then (if lo ≤ at_ ∧ at_ ≤ hi then 0 else 22) else 9) := by
    rw [Q.guidevaneref06_GateErr.j0, if_neg (by decide)]
    simp only [bwithin_eval, Option.bind_some, decide_eq_true_eq]
    by_cases h1 : lo ≤ hi
    · rw [if_neg (by omega), if_pos h1]; split <;> rfl
    · rw [if_pos (by omega), if_neg h1]
  unfold Q.guidevaneref06_GateErr.f gateErr
  simp only [bwithin_eval, Option.bind_some, decide_eq_true_eq]
  by_cases h1 : 0 ≤ lo ∧ lo ≤ 10000
  · by_cases h2 : 0 ≤ hi ∧ hi ≤ 10000
    · by_cases h3 : 0 ≤ at_ ∧ at_ ≤ 10000
      · by_cases h4 : 1 ≤ rate ∧ rate ≤ 10000
        · have e4 : (!decide (1 ≤ rate ∧ rate ≤ 10000)) = false := by simp [h4]
          rw [if_pos h1, if_pos h2, if_pos h3, e4, hf, if_pos (show (0 ≤ lo ∧ lo ≤ 10000) ∧ (0 ≤ hi ∧ hi ≤ 10000) ∧ (0 ≤ at_ ∧ at_ ≤ 10000) ∧ 1 ≤ rate ∧ rate ≤ 10000 from ⟨h1, h2, h3, h4⟩)]
        · have e4 : (!decide (1 ≤ rate ∧ rate ≤ 10000)) = true := by simp [h4]
          rw [if_pos h1, if_pos h2, if_pos h3, e4, ht, if_neg (fun h => h4 h.2.2.2)]
      · rw [if_pos h1, if_pos h2, if_neg h3, ht, if_neg (fun h => h3 h.2.2.1)]
    · rw [if_pos h1, if_neg h2, ht, if_neg (fun h => h2 h.2.1)]
  · rw [if_neg h1, ht, if_neg (fun h => h1 h.1)]
theorem rules_of {b n d s : Int} (h : rulesErr b n d s = 0) : (0 ≤ b ∧ b ≤ 100000) ∧ (0 ≤ n ∧ n ≤ 1000) ∧ (1 ≤ d ∧ d ≤ 1000) ∧ (0 ≤ s ∧ s ≤ 10000) := by
  unfold rulesErr at h; split at h
  · assumption
  · omega
theorem speed_of {x : Int} (h : speedErr x = 0) : -100000 ≤ x ∧ x ≤ 100000 := by
  unfold speedErr at h; split at h
  · assumption
  · omega
theorem gate_of {at_ lo hi rate : Int} (h : gateErr at_ lo hi rate = 0) : 0 ≤ lo ∧ lo ≤ at_ ∧ at_ ≤ hi ∧ hi ≤ 10000 ∧ 1 ≤ rate ∧ rate ≤ 10000 := by
  unfold gateErr at h; split at h
  · rename_i h0
    split at h
    · split at h
      · omega
      · omega
    · omega
  · omega
def beyond (b x : Int) : Int := if b < x then x - b else if x < -b then x + b else 0
def wantOf (b n d s x : Int) : Int := s - Int.tdiv (n * beyond b x) d
theorem want_bounds {b n d s x : Int} (hr : rulesErr b n d s = 0) (hx : speedErr x = 0) : -100000 ≤ beyond b x ∧ beyond b x ≤ 100000 ∧ -100000000 ≤ n * beyond b x ∧ n * beyond b x ≤ 100000000 ∧ -100000000 ≤ Int.tdiv (n * beyond b x) d ∧ Int.tdiv (n * beyond b x) d ≤ 100000000 := by
  obtain ⟨h1, h2, h3, h4⟩ := rules_of hr
  have h5 := speed_of hx
  have hb : -100000 ≤ beyond b x ∧ beyond b x ≤ 100000 := by unfold beyond; split <;> (try split) <;> omega
  have hm : (n * beyond b x).natAbs ≤ 1000 * 100000 := mul_natAbs_le (by omega) (by omega)
  have ht : (Int.tdiv (n * beyond b x) d).natAbs ≤ (n * beyond b x).natAbs := by
    rw [Int.natAbs_tdiv]; exact Nat.div_le_self _ _
  omega
theorem wanted_eval {b n d s x : Int} (hr : rulesErr b n d s = 0) (hx : speedErr x = 0) : Q.governor_wanted.f b n d s x = some (wantOf b n d s x) := by
  obtain ⟨h1, h2, h3, h4⟩ := rules_of hr
  have h5 := speed_of hx
  obtain ⟨e1, e2, e3, e4, e5, e6⟩ := want_bounds hr hx
  unfold Q.governor_wanted.f wantOf
  have hm : wrap64 (mx 0 (wrap64 (x - b)) + mn 0 (wrap64 (x + b))) = beyond b x := by
    rw [w64 (n := x - b) (by omega) (by omega), w64 (n := x + b) (by omega) (by omega)]
    unfold mx mn beyond
    rw [w64] <;> (repeat' split) <;> omega
  rw [if_neg (by omega), hm, w64 (n := n * beyond b x) (by omega) (by omega), w64 (n := Int.tdiv (n * beyond b x) d) (by omega) (by omega), w64 (n := s - Int.tdiv (n * beyond b x) d) (by omega) (by omega)]
theorem rwanted_eval {b n d s x : Int} (hr : rulesErr b n d s = 0) (hx : speedErr x = 0) : Q.guidevaneref06_Wanted.f b n d s x = some (wantOf b n d s x) := by
  obtain ⟨h1, h2, h3, h4⟩ := rules_of hr
  have h5 := speed_of hx
  obtain ⟨e1, e2, e3, e4, e5, e6⟩ := want_bounds hr hx
  unfold Q.guidevaneref06_Wanted.f wantOf
  by_cases c1 : b < x
  · have hb : beyond b x = x - b := by unfold beyond; rw [if_pos c1]
    rw [hb] at e1 e2 e3 e4 e5 e6
    rw [if_pos (by omega), if_neg (by omega), hb, w64 (n := x - b) (by omega) (by omega), w64 (n := n * (x - b)) (by omega) (by omega), w64 (n := Int.tdiv (n * (x - b)) d) (by omega) (by omega), w64 (n := s - Int.tdiv (n * (x - b)) d) (by omega) (by omega)]
  · rw [if_neg (by omega), w64 (n := -b) (by omega) (by omega)]
    by_cases c2 : x < -b
    · have hb : beyond b x = x + b := by unfold beyond; rw [if_neg c1, if_pos c2]
      have hn : n * (-x - b) = -(n * beyond b x) := by rw [hb, show -x - b = -(x + b) by omega, Int.mul_neg]
      rw [if_pos c2, if_neg (by omega), w64 (n := -x) (by omega) (by omega), w64 (n := -x - b) (by omega) (by omega), hn, w64 (n := -(n * beyond b x)) (by omega) (by omega), Int.neg_tdiv, w64 (n := -(Int.tdiv (n * beyond b x) d)) (by omega) (by omega), w64 (by omega) (by omega)]
      congr 1
    · have hb : beyond b x = 0 := by unfold beyond; rw [if_neg c1, if_neg c2]
      rw [if_neg c2, hb]
      simp
theorem wantedFor_eval (b n d s x : Int) (k : Nat) (hk : 3 ≤ k) : Q.governor_WantedFor.f k b n d s x = some (if rulesErr b n d s = 0 then (if speedErr x = 0 then (wantOf b n d s x, 0) else (0, speedErr x)) else (0, rulesErr b n d s)) := by
  unfold Q.governor_WantedFor.f
  rw [checkRules_eval, speedErr_eval]
  simp only [Option.bind_some, first2_eval _ _ k hk]
  by_cases hr : rulesErr b n d s = 0
  · rw [if_pos hr, if_pos hr]
    by_cases hx : speedErr x = 0
    · rw [if_pos hx, if_pos hx, wanted_eval hr hx]; rfl
    · rw [if_neg hx, if_neg hx]
  · rw [if_neg hr, if_neg hr, if_neg hr]
theorem step_same {at_ lo hi rate : Int} (hg : gateErr at_ lo hi rate = 0) (n : Int) : mx (wrap64 (at_ - rate)) (mn (wrap64 (at_ + rate)) (mx lo (mn hi n))) = stepOf at_ lo hi rate n := by
  obtain ⟨h1, h2, h3, h4, h5, h6⟩ := gate_of hg
  unfold stepOf goalOf
  rw [w64 (n := at_ - rate) (by omega) (by omega), w64 (n := at_ + rate) (by omega) (by omega)]
  unfold mx mn
  (repeat' split) <;> omega
theorem rstep_eval {at_ lo hi rate : Int} (hg : gateErr at_ lo hi rate = 0) (n : Int) : Q.guidevaneref06_Step.f at_ lo hi rate n = some (stepOf at_ lo hi rate n, lo, hi, rate) := by
  unfold Q.guidevaneref06_Step.f
  rw [step_same hg]
def ticksOf (way rate : Int) : Int := (way + rate - 1) / rate
theorem ticks_zero {rate : Int} (h : 1 ≤ rate) : ticksOf 0 rate = 0 := by
  unfold ticksOf; exact Int.ediv_eq_zero_of_lt (by omega) (by omega)
theorem ticks_one {way rate : Int} (h0 : 0 < way) (h1 : way ≤ rate) : ticksOf way rate = 1 := by
  unfold ticksOf
  rw [show way + rate - 1 = (way - 1) + 1 * rate by omega, Int.add_mul_ediv_right _ _ (by omega), Int.ediv_eq_zero_of_lt (by omega) (by omega)]; rfl
theorem ticks_next {way rate : Int} (h : 1 ≤ rate) : ticksOf way rate = ticksOf (way - rate) rate + 1 := by
  unfold ticksOf
  rw [show way + rate - 1 = (way - rate + rate - 1) + 1 * rate by omega, Int.add_mul_ediv_right _ _ (by omega)]
theorem ticks_loop {lo hi rate : Int} (n : Int) (h0 : 0 ≤ lo) (h1 : hi ≤ 10000) (hr : 1 ≤ rate) (hr2 : rate ≤ 10000) (g : Int) (hg : g = mx lo (mn hi n)) : ∀ (D k : Nat) (i at_ : Int), (g - at_).natAbs ≤ D → lo ≤ at_ → at_ ≤ hi → 0 ≤ i → i + D ≤ 100000 → D < k →
    Q.guidevaneref06_Ticks.l0 k n i g at_ lo hi rate = some (i + ticksOf ((g - at_).natAbs : Int) rate) := by
  intro D
  induction D with
  | zero =>
    intro k i at_ hD ha hb hi0 hi1 hk
    obtain ⟨k, rfl⟩ : ∃ k', k = k' + 1 := ⟨k - 1, by omega⟩
    rw [Q.guidevaneref06_Ticks.l0, if_pos (by omega), show ((g - at_).natAbs : Int) = 0 by omega, ticks_zero hr, Int.add_zero]
  | succ D ih =>
    intro k i at_ hD ha hb hi0 hi1 hk
    obtain ⟨k, rfl⟩ : ∃ k', k = k' + 1 := ⟨k - 1, by omega⟩
    rw [Q.guidevaneref06_Ticks.l0]
    by_cases hz : at_ = g
    · rw [if_pos hz, show ((g - at_).natAbs : Int) = 0 by omega, ticks_zero hr, Int.add_zero]
    · have hge : gateErr at_ lo hi rate = 0 := by
        unfold gateErr
        rw [if_pos (by omega), if_pos (by omega), if_pos ⟨ha, hb⟩]
      have hgl : lo ≤ g ∧ g ≤ hi := by rw [hg]; unfold mx mn; (repeat' split) <;> omega
      rw [if_neg hz, rstep_eval hge]
      simp only [Option.bind_some]
      have hst : stepOf at_ lo hi rate n = mx (at_ - rate) (mn (at_ + rate) g) := by
        rw [← step_same hge, ← hg, w64 (n := at_ - rate) (by omega) (by omega), w64 (n := at_ + rate) (by omega) (by omega)]
      rw [hst, w64 (n := i + 1) (by omega) (by omega)]
      have hcase : (((g - at_).natAbs : Int) ≤ rate ∧ mx (at_ - rate) (mn (at_ + rate) g) = g) ∨ (rate < ((g - at_).natAbs : Int) ∧ ((g - mx (at_ - rate) (mn (at_ + rate) g)).natAbs : Int) = ((g - at_).natAbs : Int) - rate ∧ lo ≤ mx (at_ - rate) (mn (at_ + rate) g) ∧ mx (at_ - rate) (mn (at_ + rate) g) ≤ hi) := by
        clear hst hge
        unfold mx mn
        by_cases hc : ((g - at_).natAbs : Int) ≤ rate
        · left; refine ⟨hc, ?_⟩; (repeat' split) <;> omega
        · right; refine ⟨by omega, ?_, ?_, ?_⟩ <;> (repeat' split) <;> omega
      rcases hcase with ⟨c1, c2⟩ | ⟨c1, c2, c3, c4⟩
      · rw [c2, ih k (i + 1) g (by omega) hgl.1 hgl.2 (by omega) (by omega) (by omega), show ((g - g).natAbs : Int) = 0 by omega, ticks_zero hr, ticks_one (by omega) c1, Int.add_zero]
      · rw [ih k (i + 1) _ (by omega) c3 c4 (by omega) (by omega) (by omega), c2, ticks_next (way := ((g - at_).natAbs : Int)) hr]
        congr 1; omega
theorem rticks_eval {at_ lo hi rate : Int} (hg : gateErr at_ lo hi rate = 0) (n : Int) (k : Nat) (hk : 10010 < k) : Q.guidevaneref06_Ticks.f k at_ lo hi rate n = some (ticksOf ((goalOf lo hi n - at_).natAbs : Int) rate) := by
  obtain ⟨h1, h2, h3, h4, h5, h6⟩ := gate_of hg
  unfold Q.guidevaneref06_Ticks.f
  have hgo : mx lo (mn hi n) = goalOf lo hi n := by unfold goalOf mx mn; (repeat' split) <;> omega
  have hgl : lo ≤ goalOf lo hi n ∧ goalOf lo hi n ≤ hi := by unfold goalOf mx mn; (repeat' split) <;> omega
  rw [ticks_loop n h1 h4 h5 h6 _ rfl 10000 k 0 at_ (by rw [hgo]; omega) h2 h3 (by omega) (by omega) (by omega), hgo, Int.zero_add]
theorem ticksTo_eval (at_ lo hi rate n : Int) (k : Nat) (hk : 6 ≤ k) : Q.governor_TicksTo.f k at_ lo hi rate n = some (if gateErr at_ lo hi rate = 0 then (if speedErr n = 0 then (ticksOf ((goalOf lo hi n - at_).natAbs : Int) rate, 0) else (0, speedErr n)) else (0, gateErr at_ lo hi rate)) := by
  unfold Q.governor_TicksTo.f
  rw [checkGate_eval _ _ _ _ k hk, speedErr_eval]
  simp only [Option.bind_some, first2_eval _ _ k (by omega)]
  by_cases hg : gateErr at_ lo hi rate = 0
  · rw [if_pos hg, if_pos hg]
    by_cases hx : speedErr n = 0
    · rw [if_pos hx, if_pos hx]
      obtain ⟨h1, h2, h3, h4, h5, h6⟩ := gate_of hg
      have hgl : lo ≤ goalOf lo hi n ∧ goalOf lo hi n ≤ hi := by unfold goalOf mx mn; (repeat' split) <;> omega
      have e : Q.governor_gate_goal.f at_ lo hi rate n = some (goalOf lo hi n) := rfl
      rw [e]
      simp only [Option.bind_some]
      rw [w64 (n := goalOf lo hi n - at_) (by omega) (by omega), size_abs _ (by omega) (by omega)]
      simp only [Option.bind_some]
      rw [if_neg (by omega), w64 (n := ((goalOf lo hi n - at_).natAbs : Int) + rate) (by omega) (by omega), w64 (n := ((goalOf lo hi n - at_).natAbs : Int) + rate - 1) (by omega) (by omega), Int.tdiv_eq_ediv_of_nonneg (by omega)]
      have hq : 0 ≤ ((goalOf lo hi n - at_).natAbs + rate - 1) / rate := Int.ediv_nonneg (by omega) (by omega)
      have hq2 : ((goalOf lo hi n - at_).natAbs + rate - 1) / rate ≤ ((goalOf lo hi n - at_).natAbs + rate - 1) := Int.ediv_le_self _ (by omega)
      rw [w64 (by omega) (by omega)]
      rfl
    · rw [if_neg hx, if_neg hx]
  · rw [if_neg hg, if_neg hg, if_neg hg]
theorem pure_gates (at_ lo hi rate b n d s x : Int) (k : Nat) (hk : 10020 < k) : Q.guidevanelaw06_GovernorGates.f k at_ lo hi rate b n d s x = some true := by
  unfold Q.guidevanelaw06_GovernorGates.f guidevanelaw06_awake.f
  simp only [Option.bind_some, if_true]
  rw [wantedFor_eval b n d s x k (by omega), ticksTo_eval at_ lo hi rate x k (by omega), rgateErr_eval _ _ _ _ k (by omega), rrulesErr_eval, checkGate_eval _ _ _ _ k (by omega), checkRules_eval]
  unfold governor_GateStep.f
  simp only [Option.bind_some, if_true, bne_self_eq_false]
  obtain ⟨k, rfl⟩ : ∃ k', k = k' + 4 := ⟨k - 4, by omega⟩
  rw [Q.guidevanelaw06_GovernorGates.j0, if_neg (by decide)]
  have hj3 : ∀ w : Int, Q.guidevanelaw06_GovernorGates.j2 (k + 2) x (if gateErr at_ lo hi rate = 0 then (if speedErr x = 0 then (stepOf at_ lo hi rate x, lo, hi, rate, (0 : Int)) else (0, 0, 0, 0, speedErr x)) else (0, 0, 0, 0, gateErr at_ lo hi rate)).2.2.2.2 (if gateErr at_ lo hi rate = 0 then (if speedErr x = 0 then (ticksOf ((goalOf lo hi x - at_).natAbs : Int) rate, (0 : Int)) else (0, speedErr x)) else (0, gateErr at_ lo hi rate)).1 (if gateErr at_ lo hi rate = 0 then (if speedErr x = 0 then (ticksOf ((goalOf lo hi x - at_).natAbs : Int) rate, (0 : Int)) else (0, speedErr x)) else (0, gateErr at_ lo hi rate)).2 (gateErr at_ lo hi rate) false at_ lo hi rate
      (if gateErr at_ lo hi rate = 0 then (if speedErr x = 0 then (stepOf at_ lo hi rate x, lo, hi, rate, (0 : Int)) else (0, 0, 0, 0, speedErr x)) else (0, 0, 0, 0, gateErr at_ lo hi rate)).1 (if gateErr at_ lo hi rate = 0 then (if speedErr x = 0 then (stepOf at_ lo hi rate x, lo, hi, rate, (0 : Int)) else (0, 0, 0, 0, speedErr x)) else (0, 0, 0, 0, gateErr at_ lo hi rate)).2.1 (if gateErr at_ lo hi rate = 0 then (if speedErr x = 0 then (stepOf at_ lo hi rate x, lo, hi, rate, (0 : Int)) else (0, 0, 0, 0, speedErr x)) else (0, 0, 0, 0, gateErr at_ lo hi rate)).2.2.1 (if gateErr at_ lo hi rate = 0 then (if speedErr x = 0 then (stepOf at_ lo hi rate x, lo, hi, rate, (0 : Int)) else (0, 0, 0, 0, speedErr x)) else (0, 0, 0, 0, gateErr at_ lo hi rate)).2.2.2.1 = some true := by
    intro _
    rw [Q.guidevanelaw06_GovernorGates.j2, if_neg (by decide)]
    by_cases hg : gateErr at_ lo hi rate = 0
    · simp only [hg, if_true, rspeedErr_eval, Option.bind_some]
      rw [Q.guidevanelaw06_GovernorGates.j3]
      by_cases hs : speedErr x = 0
      · simp only [hs, if_true, rstep_eval hg, Option.bind_some, beq_self_eq_true, Bool.and_self, rticks_eval hg x k (by omega)]
      · simp only [hs, if_false, if_true, beq_self_eq_true, Bool.and_self]
    · simp only [hg, if_false]
      rw [Q.guidevanelaw06_GovernorGates.j3, if_neg hg]
      simp
  by_cases hr : rulesErr b n d s = 0
  · simp only [hr, if_true, rspeedErr_eval, Option.bind_some]
    rw [Q.guidevanelaw06_GovernorGates.j1]
    by_cases hs : speedErr x = 0
    · rw [if_pos hs]
      simp only [hs, if_true, rwanted_eval hr hs, Option.bind_some, bne_self_eq_false]
      have := hj3 0
      simp only [hs, if_true] at this
      exact this
    · rw [if_neg hs]
      simp only [hs, if_false, if_true]
      have := hj3 0
      simp only [hs, if_false] at this
      exact this
  · simp only [hr, if_false]
    rw [Q.guidevanelaw06_GovernorGates.j1, if_neg hr]
    simp only [if_true]
    exact hj3 0
end Go.Proofs.YtmpondcccbmlhaaGreat.Ext
