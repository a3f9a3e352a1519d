/- A part of the claim G: the texts Stp, ExG, without what the claim does not lean on. -/
import Derived.ArgAppend
import Derived.Below
import Derived.BigQuiet
import Derived.Deep.AppendLies
import Derived.Deep.CutBlock
import Derived.Deep.DeepCutAuto
import Derived.Deep.Draws
import Derived.Deep.LoopGhost
import Derived.Deep.OwnRows
import Derived.Deep.QuietTactic
import Derived.Deep.RegionHeld3
import Derived.KernelRfl
import Derived.Laws.BitsLemmas
import Derived.Laws.BytesArg
import Derived.Laws.IdiomCopy
import Derived.Laws.MakeOwn
import Derived.Laws.OwnMore
import Derived.Laws.Rows
import Derived.Laws.Slices
import Derived.Laws.StructEq
import Derived.Lib.AppendStr
import Derived.Lib.ConvBytes
import Derived.Lib.Hide
import Derived.Maps.AppendAt
import Derived.OrdersHeld
import Derived.Outline
import Derived.OwnWalk
import Derived.RowKit
import Derived.RowKit3
import Derived.Shelf.Abstract
import Derived.Tactics
import Derived.WalkKit
import Derived.WideLaws
import Derived.Test.YtmpondcccbmlhaaGreatProg
import Derived.Test.YtmpondcccbmlhaaGreatzG0
import Derived.Test.YtmpondcccbmlhaaGreatzG1
import Derived.Test.YtmpondcccbmlhaaGreatzG2
import Derived.Test.YtmpondcccbmlhaaGreatzG3
import Derived.Test.YtmpondcccbmlhaaGreatzG4
import Derived.Test.YtmpondcccbmlhaaGreatzG5
import Derived.Test.YtmpondcccbmlhaaGreatzG6
import Derived.Test.YtmpondcccbmlhaaGreatzG7
import Derived.Test.YtmpondcccbmlhaaGreatzG8
import Derived.Test.YtmpondcccbmlhaaGreatzG9
import Derived.Test.YtmpondcccbmlhaaGreatzG14
namespace Go.Proofs.YtmpondcccbmlhaaGreat.Ext
open Go.RowKit Go.Shelf Go.Proofs.YtmpondcccbmlhaaGreatW.PrintWords Go.Proofs.YtmpondcccbmlhaaGreatW.PrintLast Go.Proofs.YtmpondcccbmlhaaGreatW.PrintMore
attribute [local go_sem] max2_int min2_int max_two min_two
set_option linter.unusedVariables false
set_option linter.unusedSimpArgs false
def goalOf (lo hi n : Int) : Int := mn (mx n lo) hi
def stepOf (at_ lo hi rate n : Int) : Int := mn (mx (goalOf lo hi n) (wrap64 (at_ - rate))) (wrap64 (at_ + rate))
def stepT : Bool × List (List Nat × List Nat) := (true, [([], []), ([], []), ([1], [1]), ([2], [2]), ([], []), ([3, 4], [3, 4]), ([], []), ([6], [6]), ([7], [7]), ([8], [8]), ([9], [9]), ([], []), ([11], [11]), ([12], [12]), ([13], [13]), ([14], [14]), ([10, 15], [10, 15]), ([5, 16], [5, 16]), ([], []), ([18], [18]), ([19], [19]), ([20], [20]), ([21], [21]), ([], []), ([23], [23]), ([24], [24]), ([25], [25]), ([26], [26]), ([22, 27], [22, 27]), ([17, 28], [17, 28]), ([0, 0, 1, 2, 3, 4, 5, 6, 7, 8, 9, 10, 11, 12, 13, 14, 15, 16, 17, 18, 19, 20, 21, 22, 23, 24, 25, 26, 27, 28, 29], [0]), ([30, 0, 1, 2, 3, 4, 5, 6, 7, 8, 9, 10, 11, 12, 13, 14, 15, 16, 17, 18, 19, 20, 21, 22, 23, 24, 25, 26, 27, 28, 29], [30]), ([31, 0, 1, 2, 3, 4, 5, 6, 7, 8, 9, 10, 11, 12, 13, 14, 15, 16, 17, 18, 19, 20, 21, 22, 23, 24, 25, 26, 27, 28, 29], [31]), ([32, 29, 5, 0, 1, 2, 3, 4, 5, 6, 7, 8, 9, 10, 11, 12, 13, 14, 15, 16, 17, 18, 19, 20, 21, 22, 23, 24, 25, 26, 27, 28, 29], [29, 32])])
def stepB : List Nat := [0, 0, 2, 6, 0, 30, 0, 64, 192, 448, 960, 0, 2048, 6144, 14336, 30720, 65472, 131070, 0, 262144, 786432, 1835008, 3932160, 0, 8388608, 25165824, 58720256, 125829120, 268173312, 536870910, 1, 1073741825, 3221225473, 8589934591]
theorem step_tab : rtab .any (opsOf Tryz.f124 0) = stepT := by kernel_rfl
theorem step_bits : waitsOk stepT.2 stepB = true := by kernel_rfl
set_option maxHeartbeats 8000000 in
set_option maxRecDepth 100000 in
theorem gate_step.calls (g : Nat) (at_ lo hi rate n r : Int) (w : World) (hg : w.heap[g]? = some (.cells #[.int .i64 at_, .int .i64 lo, .int .i64 hi, .int .i64 rate] 165 (0, 0))) (hr : r = stepOf at_ lo hi rate n) :
    Calls Tryz.prog 124 #[.pointer (some ⟨g, 0, none⟩), .int .i64 n] w fun e w' => e = .returned (.tuple #[]) ∧ ∃ w1, Below w.heap.size w w1 ∧ w' = w1.setCell ⟨g, 0, none⟩ (.int .i64 r) := by
  have BK := Aside0.mk hg
  have HB := Aside0.mk (Below.refl w.heap.size w)
  have hut := Tryz.underlying165
  have hug := Tryz.underlying75
  have HRR := Aside0.mk hr
  clear hg hr
  go_enter Tryz.func124, Tryz.ntmps124
  try go_wp2
  have n0_ := Aside0.mk (blk_drew BK.out)
  have n1_ := Aside0.mk (below_drew1 HB.out)
  clear BK HB
  have BK := n0_
  have HB := n1_
  clear n0_ n1_
  refine start_ (n := 34) (S := fun w' => w'.cell? ⟨g, 0, none⟩ = some (.int .i64 at_) ∧ w'.cell? ⟨g, 1, none⟩ = some (.int .i64 lo) ∧ w'.cell? ⟨g, 2, none⟩ = some (.int .i64 hi) ∧ w'.cell? ⟨g, 3, none⟩ = some (.int .i64 rate)) (ds := [33]) #[false, false, false, false, false, false, false, false, false, false, false, false, false, false, false, false, false, false, false, false, false, false, false, false, false, false, false, false, false, false, false, false, false, false] (by kernel_rfl) rfl rfl ⟨(blk_cell BK.out 0).trans rfl, (blk_cell BK.out 1).trans rfl, (blk_cell BK.out 2).trans rfl, (blk_cell BK.out 3).trans rfl⟩ (fun hHeld => ?_); refine with_tabW step_tab step_bits (fun HT_ HW_ => ?_)
  have HB2 := HB
  clear HB
  generalize hw2 : w.drew = w2 at BK HB2 hHeld ⊢
  clear hw2
  have HB := HB2
  clear HB2
  refine pure_ (i := 0) (N := some 4) (v := ?_) (a' := ?_) #[true, false, false, false, false, false, false, false, false, false, false, false, false, false, false, false, false, false, false, false, false, false, false, false, false, false, false, false, false, false, false, false, false, false] rfl rfl (any_of HT_.out (by kernel_rfl)) (fun _ _ _ h => h) (Or.inl ⟨by rfl, ?_⟩) ?_ ?_
  rotate_left
  · intro w'
    go_simp
    with_reducible rfl
  rotate_left
  · simp only [Act.put, List.setIfInBounds_toArray, List.set_cons_zero, List.set_cons_succ, i64_w, i32_w]
    rfl
  refine pure_ (i := 1) (N := some 5) (v := ?_) (a' := ?_) #[true, true, false, false, false, false, false, false, false, false, false, false, false, false, false, false, false, false, false, false, false, false, false, false, false, false, false, false, false, false, false, false, false, false] rfl rfl (any_of HT_.out (by kernel_rfl)) (fun _ _ _ h => h) (Or.inl ⟨by rfl, ?_⟩) ?_ ?_
  rotate_left
  · intro w'
    go_simp
    with_reducible rfl
  rotate_left
  · simp only [Act.put, List.setIfInBounds_toArray, List.set_cons_zero, List.set_cons_succ, i64_w, i32_w]
    rfl
  refine pure_ (i := 2) (N := some 6) (v := ?_) (a' := ?_) #[true, true, true, false, false, false, false, false, false, false, false, false, false, false, false, false, false, false, false, false, false, false, false, false, false, false, false, false, false, false, false, false, false, false] rfl rfl (any_of HT_.out (by kernel_rfl)) (fun _ _ _ h => h) (Or.inl ⟨by rfl, ?_⟩) ?_ ?_
  rotate_left
  · intro w'
    go_simp
    with_reducible rfl
  rotate_left
  · simp only [Act.put, List.setIfInBounds_toArray, List.set_cons_zero, List.set_cons_succ, i64_w, i32_w]
    rfl
  refine pure_ (i := 4) (N := some 8) (v := ?_) (a' := ?_) #[true, true, true, false, true, false, false, false, false, false, false, false, false, false, false, false, false, false, false, false, false, false, false, false, false, false, false, false, false, false, false, false, false, false] rfl rfl (any_of HT_.out (by kernel_rfl)) (fun _ _ _ h => h) (Or.inl ⟨by rfl, ?_⟩) ?_ ?_
  rotate_left
  · intro w'
    go_simp
    with_reducible rfl
  rotate_left
  · simp only [Act.put, List.setIfInBounds_toArray, List.set_cons_zero, List.set_cons_succ, i64_w, i32_w]
    rfl
  refine pure_ (i := 6) (N := some 10) (v := ?_) (a' := ?_) #[true, true, true, false, true, false, true, false, false, false, false, false, false, false, false, false, false, false, false, false, false, false, false, false, false, false, false, false, false, false, false, false, false, false] rfl rfl (any_of HT_.out (by kernel_rfl)) (fun _ _ _ h => h) (Or.inl ⟨by rfl, ?_⟩) ?_ ?_
  rotate_left
  · intro w'
    go_simp
    with_reducible rfl
  rotate_left
  · simp only [Act.put, List.setIfInBounds_toArray, List.set_cons_zero, List.set_cons_succ, i64_w, i32_w]
    rfl
  refine pure_ (i := 7) (N := some 11) (v := ?_) (a' := ?_) #[true, true, true, false, true, false, true, true, false, false, false, false, false, false, false, false, false, false, false, false, false, false, false, false, false, false, false, false, false, false, false, false, false, false] rfl rfl (any_of HT_.out (by kernel_rfl)) (fun _ _ _ h => h) (Or.inl ⟨by rfl, ?_⟩) ?_ ?_
  rotate_left
  · intro w'
    go_simp
    with_reducible rfl
  rotate_left
  · simp only [Act.put, List.setIfInBounds_toArray, List.set_cons_zero, List.set_cons_succ, i64_w, i32_w]
    rfl
  refine pure_ (i := 8) (N := some 12) (v := ?_) (a' := ?_) #[true, true, true, false, true, false, true, true, true, false, false, false, false, false, false, false, false, false, false, false, false, false, false, false, false, false, false, false, false, false, false, false, false, false] rfl rfl (any_of HT_.out (by kernel_rfl)) (fun _ _ _ h => h) (Or.inl ⟨by rfl, ?_⟩) ?_ ?_
  rotate_left
  · intro w'
    go_simp
    with_reducible rfl
  rotate_left
  · simp only [Act.put, List.setIfInBounds_toArray, List.set_cons_zero, List.set_cons_succ, i64_w, i32_w]
    rfl
  refine pure_ (i := 9) (N := some 13) (v := ?_) (a' := ?_) #[true, true, true, false, true, false, true, true, true, true, false, false, false, false, false, false, false, false, false, false, false, false, false, false, false, false, false, false, false, false, false, false, false, false] rfl rfl (any_of HT_.out (by kernel_rfl)) (fun _ _ _ h => h) (Or.inl ⟨by rfl, ?_⟩) ?_ ?_
  rotate_left
  · intro w'
    go_simp
    with_reducible rfl
  rotate_left
  · simp only [Act.put, List.setIfInBounds_toArray, List.set_cons_zero, List.set_cons_succ, i64_w, i32_w]
    rfl
  refine pure_ (i := 11) (N := some 15) (v := ?_) (a' := ?_) #[true, true, true, false, true, false, true, true, true, true, false, true, false, false, false, false, false, false, false, false, false, false, false, false, false, false, false, false, false, false, false, false, false, false] rfl rfl (any_of HT_.out (by kernel_rfl)) (fun _ _ _ h => h) (Or.inl ⟨by rfl, ?_⟩) ?_ ?_
  rotate_left
  · intro w'
    go_simp
    with_reducible rfl
  rotate_left
  · simp only [Act.put, List.setIfInBounds_toArray, List.set_cons_zero, List.set_cons_succ, i64_w, i32_w]
    rfl
  refine pure_ (i := 12) (N := some 16) (v := ?_) (a' := ?_) #[true, true, true, false, true, false, true, true, true, true, false, true, true, false, false, false, false, false, false, false, false, false, false, false, false, false, false, false, false, false, false, false, false, false] rfl rfl (any_of HT_.out (by kernel_rfl)) (fun _ _ _ h => h) (Or.inl ⟨by rfl, ?_⟩) ?_ ?_
  rotate_left
  · intro w'
    go_simp
    with_reducible rfl
  rotate_left
  · simp only [Act.put, List.setIfInBounds_toArray, List.set_cons_zero, List.set_cons_succ, i64_w, i32_w]
    rfl
  refine pure_ (i := 13) (N := some 17) (v := ?_) (a' := ?_) #[true, true, true, false, true, false, true, true, true, true, false, true, true, true, false, false, false, false, false, false, false, false, false, false, false, false, false, false, false, false, false, false, false, false] rfl rfl (any_of HT_.out (by kernel_rfl)) (fun _ _ _ h => h) (Or.inl ⟨by rfl, ?_⟩) ?_ ?_
  rotate_left
  · intro w'
    go_simp
    with_reducible rfl
  rotate_left
  · simp only [Act.put, List.setIfInBounds_toArray, List.set_cons_zero, List.set_cons_succ, i64_w, i32_w]
    rfl
  refine pure_ (i := 14) (N := some 18) (v := ?_) (a' := ?_) #[true, true, true, false, true, false, true, true, true, true, false, true, true, true, true, false, false, false, false, false, false, false, false, false, false, false, false, false, false, false, false, false, false, false] rfl rfl (any_of HT_.out (by kernel_rfl)) (fun _ _ _ h => h) (Or.inl ⟨by rfl, ?_⟩) ?_ ?_
  rotate_left
  · intro w'
    go_simp
    with_reducible rfl
  rotate_left
  · simp only [Act.put, List.setIfInBounds_toArray, List.set_cons_zero, List.set_cons_succ, i64_w, i32_w]
    rfl
  refine pure_ (i := 18) (N := some 22) (v := ?_) (a' := ?_) #[true, true, true, false, true, false, true, true, true, true, false, true, true, true, true, false, false, false, true, false, false, false, false, false, false, false, false, false, false, false, false, false, false, false] rfl rfl (any_of HT_.out (by kernel_rfl)) (fun _ _ _ h => h) (Or.inl ⟨by rfl, ?_⟩) ?_ ?_
  rotate_left
  · intro w'
    go_simp
    with_reducible rfl
  rotate_left
  · simp only [Act.put, List.setIfInBounds_toArray, List.set_cons_zero, List.set_cons_succ, i64_w, i32_w]
    rfl
  refine pure_ (i := 19) (N := some 23) (v := ?_) (a' := ?_) #[true, true, true, false, true, false, true, true, true, true, false, true, true, true, true, false, false, false, true, true, false, false, false, false, false, false, false, false, false, false, false, false, false, false] rfl rfl (any_of HT_.out (by kernel_rfl)) (fun _ _ _ h => h) (Or.inl ⟨by rfl, ?_⟩) ?_ ?_
  rotate_left
  · intro w'
    go_simp
    with_reducible rfl
  rotate_left
  · simp only [Act.put, List.setIfInBounds_toArray, List.set_cons_zero, List.set_cons_succ, i64_w, i32_w]
    rfl
  refine pure_ (i := 20) (N := some 24) (v := ?_) (a' := ?_) #[true, true, true, false, true, false, true, true, true, true, false, true, true, true, true, false, false, false, true, true, true, false, false, false, false, false, false, false, false, false, false, false, false, false] rfl rfl (any_of HT_.out (by kernel_rfl)) (fun _ _ _ h => h) (Or.inl ⟨by rfl, ?_⟩) ?_ ?_
  rotate_left
  · intro w'
    go_simp
    with_reducible rfl
  rotate_left
  · simp only [Act.put, List.setIfInBounds_toArray, List.set_cons_zero, List.set_cons_succ, i64_w, i32_w]
    rfl
  refine pure_ (i := 21) (N := some 25) (v := ?_) (a' := ?_) #[true, true, true, false, true, false, true, true, true, true, false, true, true, true, true, false, false, false, true, true, true, true, false, false, false, false, false, false, false, false, false, false, false, false] rfl rfl (any_of HT_.out (by kernel_rfl)) (fun _ _ _ h => h) (Or.inl ⟨by rfl, ?_⟩) ?_ ?_
  rotate_left
  · intro w'
    go_simp
    with_reducible rfl
  rotate_left
  · simp only [Act.put, List.setIfInBounds_toArray, List.set_cons_zero, List.set_cons_succ, i64_w, i32_w]
    rfl
  refine pure_ (i := 23) (N := some 27) (v := ?_) (a' := ?_) #[true, true, true, false, true, false, true, true, true, true, false, true, true, true, true, false, false, false, true, true, true, true, false, true, false, false, false, false, false, false, false, false, false, false] rfl rfl (any_of HT_.out (by kernel_rfl)) (fun _ _ _ h => h) (Or.inl ⟨by rfl, ?_⟩) ?_ ?_
  rotate_left
  · intro w'
    go_simp
    with_reducible rfl
  rotate_left
  · simp only [Act.put, List.setIfInBounds_toArray, List.set_cons_zero, List.set_cons_succ, i64_w, i32_w]
    rfl
  refine pure_ (i := 24) (N := some 28) (v := ?_) (a' := ?_) #[true, true, true, false, true, false, true, true, true, true, false, true, true, true, true, false, false, false, true, true, true, true, false, true, true, false, false, false, false, false, false, false, false, false] rfl rfl (any_of HT_.out (by kernel_rfl)) (fun _ _ _ h => h) (Or.inl ⟨by rfl, ?_⟩) ?_ ?_
  rotate_left
  · intro w'
    go_simp
    with_reducible rfl
  rotate_left
  · simp only [Act.put, List.setIfInBounds_toArray, List.set_cons_zero, List.set_cons_succ, i64_w, i32_w]
    rfl
  refine pure_ (i := 25) (N := some 29) (v := ?_) (a' := ?_) #[true, true, true, false, true, false, true, true, true, true, false, true, true, true, true, false, false, false, true, true, true, true, false, true, true, true, false, false, false, false, false, false, false, false] rfl rfl (any_of HT_.out (by kernel_rfl)) (fun _ _ _ h => h) (Or.inl ⟨by rfl, ?_⟩) ?_ ?_
  rotate_left
  · intro w'
    go_simp
    with_reducible rfl
  rotate_left
  · simp only [Act.put, List.setIfInBounds_toArray, List.set_cons_zero, List.set_cons_succ, i64_w, i32_w]
    rfl
  refine pure_ (i := 26) (N := some 30) (v := ?_) (a' := ?_) #[true, true, true, false, true, false, true, true, true, true, false, true, true, true, true, false, false, false, true, true, true, true, false, true, true, true, true, false, false, false, false, false, false, false] rfl rfl (any_of HT_.out (by kernel_rfl)) (fun _ _ _ h => h) (Or.inl ⟨by rfl, ?_⟩) ?_ ?_
  rotate_left
  · intro w'
    go_simp
    with_reducible rfl
  rotate_left
  · simp only [Act.put, List.setIfInBounds_toArray, List.set_cons_zero, List.set_cons_succ, i64_w, i32_w]
    rfl
  refine take_ (i := 3) (N := some 7) (v := ?_) (a' := ?_) #[true, true, true, true, true, false, true, true, true, true, false, true, true, true, true, false, false, false, true, true, true, true, false, true, true, true, true, false, false, false, false, false, false, false] rfl rfl (take_ofW HT_.out HW_.out (by kernel_rfl)) (fun _ _ _ h => h) (Or.inl ⟨by rfl, ?_⟩) hHeld ?_ ?_
  rotate_left
  · rintro w' ⟨s0, s1, s2, s3⟩
    go_simp
    with_reducible rfl
  rotate_left
  · simp only [Act.put, List.setIfInBounds_toArray, List.set_cons_zero, List.set_cons_succ, i64_w, i32_w]
    rfl
  refine take_ (i := 10) (N := some 14) (v := ?_) (a' := ?_) #[true, true, true, true, true, false, true, true, true, true, true, true, true, true, true, false, false, false, true, true, true, true, false, true, true, true, true, false, false, false, false, false, false, false] rfl rfl (take_ofW HT_.out HW_.out (by kernel_rfl)) (fun _ _ _ h => h) (Or.inl ⟨by rfl, ?_⟩) hHeld ?_ ?_
  rotate_left
  · rintro w' ⟨s0, s1, s2, s3⟩
    go_simp
    with_reducible rfl
  rotate_left
  · simp only [Act.put, List.setIfInBounds_toArray, List.set_cons_zero, List.set_cons_succ, i64_w, i32_w]
    rfl
  refine take_ (i := 15) (N := some 19) (v := ?_) (a' := ?_) #[true, true, true, true, true, false, true, true, true, true, true, true, true, true, true, true, false, false, true, true, true, true, false, true, true, true, true, false, false, false, false, false, false, false] rfl rfl (take_ofW HT_.out HW_.out (by kernel_rfl)) (fun _ _ _ h => h) (Or.inl ⟨by rfl, ?_⟩) hHeld ?_ ?_
  rotate_left
  · rintro w' ⟨s0, s1, s2, s3⟩
    go_simp
    with_reducible rfl
  rotate_left
  · simp only [Act.put, List.setIfInBounds_toArray, List.set_cons_zero, List.set_cons_succ, i64_w, i32_w]
    rfl
  refine take_ (i := 22) (N := some 26) (v := ?_) (a' := ?_) #[true, true, true, true, true, false, true, true, true, true, true, true, true, true, true, true, false, false, true, true, true, true, true, true, true, true, true, false, false, false, false, false, false, false] rfl rfl (take_ofW HT_.out HW_.out (by kernel_rfl)) (fun _ _ _ h => h) (Or.inl ⟨by rfl, ?_⟩) hHeld ?_ ?_
  rotate_left
  · rintro w' ⟨s0, s1, s2, s3⟩
    go_simp
    with_reducible rfl
  rotate_left
  · simp only [Act.put, List.setIfInBounds_toArray, List.set_cons_zero, List.set_cons_succ, i64_w, i32_w]
    rfl
  refine take_ (i := 27) (N := some 31) (v := ?_) (a' := ?_) #[true, true, true, true, true, false, true, true, true, true, true, true, true, true, true, true, false, false, true, true, true, true, true, true, true, true, true, true, false, false, false, false, false, false] rfl rfl (take_ofW HT_.out HW_.out (by kernel_rfl)) (fun _ _ _ h => h) (Or.inl ⟨by rfl, ?_⟩) hHeld ?_ ?_
  rotate_left
  · rintro w' ⟨s0, s1, s2, s3⟩
    go_simp
    with_reducible rfl
  rotate_left
  · simp only [Act.put, List.setIfInBounds_toArray, List.set_cons_zero, List.set_cons_succ, i64_w, i32_w]
    rfl
  refine pure_ (i := 16) (N := some 20) (v := ?_) (a' := ?_) #[true, true, true, true, true, false, true, true, true, true, true, true, true, true, true, true, true, false, true, true, true, true, true, true, true, true, true, true, false, false, false, false, false, false] rfl rfl (any_of HT_.out (by kernel_rfl)) (fun _ _ _ h => h) (Or.inl ⟨by rfl, ?_⟩) ?_ ?_
  rotate_left
  · intro w'
    go_simp
    with_reducible rfl
  rotate_left
  · simp only [Act.put, List.setIfInBounds_toArray, List.set_cons_zero, List.set_cons_succ, i64_w, i32_w]
    rfl
  refine pure_ (i := 28) (N := some 32) (v := ?_) (a' := ?_) #[true, true, true, true, true, false, true, true, true, true, true, true, true, true, true, true, true, false, true, true, true, true, true, true, true, true, true, true, true, false, false, false, false, false] rfl rfl (any_of HT_.out (by kernel_rfl)) (fun _ _ _ h => h) (Or.inl ⟨by rfl, ?_⟩) ?_ ?_
  rotate_left
  · intro w'
    go_simp
    with_reducible rfl
  rotate_left
  · simp only [Act.put, List.setIfInBounds_toArray, List.set_cons_zero, List.set_cons_succ, i64_w, i32_w]
    rfl
  refine one_ (i := 5) (N := some 9) #[true, true, true, true, true, true, true, true, true, true, true, true, true, true, true, true, true, false, true, true, true, true, true, true, true, true, true, true, true, false, false, false, false, false] rfl rfl (one_of HT_.out (by kernel_rfl)) (by decide) (fun K hK => ?_)
  refine goes_ Tryz.func125 (by kernel_rfl) rfl #[.agg #[.int .i64 at_, .int .i64 lo, .int .i64 hi, .int .i64 rate], .int .i64 n] (by rfl) rfl rfl (by (try simp only [List.map_toArray, List.map_cons, List.map_nil]); first | done | rfl | (simp only [List.length_drop, List.length_take]; rfl)) ?_
  with_reducible refine (Q.governor_gate_goal.calls at_ lo hi rate n (goalOf lo hi n) _ rfl).mono ?_
  rintro e w17 ⟨rfl, hb⟩
  refine ⟨_, rfl, ?_⟩
  have n1_ := Aside0.mk (blk_below (g := g) BK.out hb)
  have n2_ := Aside0.mk (below_step HB.out hb)
  clear BK HB
  have BK := n1_
  have HB := n2_
  clear n1_ n2_ hb
  refine hK.out _ _ ⟨(blk_cell BK.out 0).trans rfl, (blk_cell BK.out 1).trans rfl, (blk_cell BK.out 2).trans rfl, (blk_cell BK.out 3).trans rfl⟩ (fun hHeld => ?_)
  clear hK K
  refine norm_ (a' := ?_) ?_ ?_
  rotate_left
  · show Act.put _ (some 9) _ = _
    simp only [Act.put, List.setIfInBounds_toArray, List.set_cons_zero, List.set_cons_succ, i64_w, i32_w]
    rfl
  refine pure_ (i := 17) (N := some 21) (v := ?_) (a' := ?_) #[true, true, true, true, true, true, true, true, true, true, true, true, true, true, true, true, true, true, true, true, true, true, true, true, true, true, true, true, true, false, false, false, false, false] rfl rfl (any_of HT_.out (by kernel_rfl)) (fun _ _ _ h => h) (Or.inl ⟨by rfl, ?_⟩) ?_ ?_
  rotate_left
  · intro w'
    go_simp
    with_reducible rfl
  rotate_left
  · simp only [Act.put, List.setIfInBounds_toArray, List.set_cons_zero, List.set_cons_succ, i64_w, i32_w]
    rfl
  refine pure_ (i := 29) (N := some 33) (v := ?_) (a' := ?_) #[true, true, true, true, true, true, true, true, true, true, true, true, true, true, true, true, true, true, true, true, true, true, true, true, true, true, true, true, true, true, false, false, false, false] rfl rfl (any_of HT_.out (by kernel_rfl)) (fun _ _ _ h => h) (Or.inl ⟨by rfl, ?_⟩) ?_ ?_
  rotate_left
  · intro w'
    go_simp
    with_reducible rfl
  rotate_left
  · simp only [Act.put, List.setIfInBounds_toArray, List.set_cons_zero, List.set_cons_succ, i64_w, i32_w]
    rfl
  refine pure_ (i := 30) (N := some 34) (v := ?_) (a' := ?_) #[true, true, true, true, true, true, true, true, true, true, true, true, true, true, true, true, true, true, true, true, true, true, true, true, true, true, true, true, true, true, true, false, false, false] rfl rfl (any_of HT_.out (by kernel_rfl)) (fun _ _ _ h => h) (Or.inl ⟨by rfl, ?_⟩) ?_ ?_
  rotate_left
  · intro w'
    go_simp
    with_reducible rfl
  rotate_left
  · simp only [Act.put, List.setIfInBounds_toArray, List.set_cons_zero, List.set_cons_succ, i64_w, i32_w]
    rfl
  refine pure_ (i := 31) (N := some 35) (v := ?_) (a' := ?_) #[true, true, true, true, true, true, true, true, true, true, true, true, true, true, true, true, true, true, true, true, true, true, true, true, true, true, true, true, true, true, true, true, false, false] rfl rfl (any_of HT_.out (by kernel_rfl)) (fun _ _ _ h => h) (Or.inl ⟨by rfl, ?_⟩) ?_ ?_
  rotate_left
  · intro w'
    go_simp
    with_reducible rfl
  rotate_left
  · simp only [Act.put, List.setIfInBounds_toArray, List.set_cons_zero, List.set_cons_succ, i64_w, i32_w]
    rfl
  refine pure_ (i := 32) (N := some 36) (v := ?_) (a' := ?_) #[true, true, true, true, true, true, true, true, true, true, true, true, true, true, true, true, true, true, true, true, true, true, true, true, true, true, true, true, true, true, true, true, true, false] rfl rfl (any_of HT_.out (by kernel_rfl)) (fun _ _ _ h => h) (Or.inl ⟨by rfl, ?_⟩) ?_ ?_
  rotate_left
  · intro w'
    go_simp
    with_reducible rfl
  rotate_left
  · simp only [Act.put, List.setIfInBounds_toArray, List.set_cons_zero, List.set_cons_succ, i64_w, i32_w]
    rfl
  refine last_ (i := 33) (N := none) #[true, true, true, true, true, true, true, true, true, true, true, true, true, true, true, true, true, true, true, true, true, true, true, true, true, true, true, true, true, true, true, true, true, true] rfl rfl (one_of HT_.out (by kernel_rfl)) (by decide) (fun K hK => ?_)
  have hfz : w17.frozen? ⟨g, 0, none⟩ = false := blk_frozen BK.out 0
  refine skip_ (w1 := ?_) (by rfl) rfl ?_ ?_
  rotate_left
  · go_simp
    rfl
  refine hK.out _ _ ?_
  clear hK K
  refine done_ (done_of HT_.out (by kernel_rfl)) ?_
  (try simp only [Exit.inBlock, Exit.then])
  refine bodyPost_end (results_none rfl _ _ _) rfl ⟨rfl, _, HB.out, ?_⟩
  rw [HRR.out]
  rfl
end Go.Proofs.YtmpondcccbmlhaaGreat.Ext
namespace Go.Proofs.YtmpondcccbmlhaaGreat.Ext
open Go.RowKit Go.Shelf Go.Proofs.YtmpondcccbmlhaaGreatW.PrintWords Go.Proofs.YtmpondcccbmlhaaGreatW.PrintLast Go.Proofs.YtmpondcccbmlhaaGreatW.PrintMore
def gateErr (at_ lo hi rate : Int) : Int := if (0 ≤ lo ∧ lo ≤ 10000) ∧ (0 ≤ hi ∧ hi ≤ 10000) ∧ (0 ≤ at_ ∧ at_ ≤ 10000) ∧ (1 ≤ rate ∧ rate ≤ 10000) then (if lo ≤ hi then (if lo ≤ at_ ∧ at_ ≤ hi then 0 else 22) else 9) else 2
def speedErr (n : Int) : Int := if -100000 ≤ n ∧ n ≤ 100000 then 0 else 2
def governor_GateStep.f (at_ lo hi rate n : Int) : Option (Int × Int × Int × Int × Int) :=
  some (if gateErr at_ lo hi rate = 0 then (if speedErr n = 0 then (stepOf at_ lo hi rate n, lo, hi, rate, 0) else (0, 0, 0, 0, speedErr n)) else (0, 0, 0, 0, gateErr at_ lo hi rate))
theorem isPos_eval (n : Int) : Q.governor_isPosition.f n = some (decide (0 ≤ n ∧ n ≤ 10000)) := by
  unfold Q.governor_isPosition.f; rw [within_eval]; rfl
theorem speedErr_eval (n : Int) : Q.governor_speedErr.f n = some (speedErr n) := by
  unfold Q.governor_speedErr.f speedErr
  rw [isSized_eval _ _ (by decide) (by decide)]
  simp only [Option.bind_some, unless_eval, decide_eq_true_eq]
theorem checkGate_eval (at_ lo hi rate : Int) (k : Nat) (hk : 6 ≤ k) : Q.governor_CheckGate.f k at_ lo hi rate = some (gateErr at_ lo hi rate) := by
  have hj : ∀ b : Bool, Q.governor_CheckGate.j0 k b at_ lo hi rate = some (if b = true then (if lo ≤ hi then (if lo ≤ at_ ∧ at_ ≤ hi then 0 else 22) else 9) else 2) := by
    intro b
    obtain ⟨k, rfl⟩ : ∃ k', k = k' + 1 := ⟨k - 1, by omega⟩
    rw [Q.governor_CheckGate.j0]
    simp only [unless_eval, within_eval, Option.bind_some, first3_eval _ _ _ k (by omega), decide_eq_true_eq]
    cases b with
    | true => simp only [if_true]; by_cases h1 : lo ≤ hi <;> simp only [h1, if_true, if_false] <;> simp
    | false => simp
  unfold Q.governor_CheckGate.f gateErr
  simp only [isPos_eval, within_eval, Option.bind_some, hj, decide_eq_true_eq]
  by_cases h1 : 0 ≤ lo ∧ lo ≤ 10000
  · by_cases h2 : 0 ≤ hi ∧ hi ≤ 10000
    · by_cases h3 : 0 ≤ at_ ∧ at_ ≤ 10000
      · simp only [h1, h2, h3, and_self, if_true, true_and]
      · simp [h1, h2, h3]
    · simp [h1, h2]
  · simp [h1]
set_option maxHeartbeats 8000000 in
set_option maxRecDepth 100000 in
theorem governor_GateStep.calls (at_ lo hi rate n r0 r1 r2 r3 e : Int) (w : World) (h : governor_GateStep.f at_ lo hi rate n = some (r0, r1, r2, r3, e)) :
    Calls Tryz.prog 48 #[.agg #[.int .i64 at_, .int .i64 lo, .int .i64 hi, .int .i64 rate], .int .i64 n] w fun e' w' => e' = .returned (.tuple #[.agg #[.int .i64 r0, .int .i64 r1, .int .i64 r2, .int .i64 r3], .int .i64 e]) ∧ Below w.heap.size w w' := by
  have HB := Aside0.mk (Below.refl w.heap.size w)
  have HH := Aside0.mk h
  clear h
  have hut := Tryz.underlying165
  have hug := Tryz.underlying75
  go_enter Tryz.func48, Tryz.ntmps48
  go_wp2_with fail
  refine (Q.governor_CheckGate.calls 6 at_ lo hi rate (gateErr at_ lo hi rate) _ (checkGate_eval _ _ _ _ 6 (by omega))).mono ?_
  rintro e1 w1 ⟨rfl, hb⟩
  have B0 := Aside0.mk (blk_below (g := w.heap.size) (o := .cells #[.int .i64 at_, .int .i64 lo, .int .i64 hi, .int .i64 rate] 75 (0, 0)) (blk_alloc (blk_new w _) _) hb)
  have B1 := Aside0.mk (blk_below (g := w.heap.size + 1) (o := .cells #[.int .i64 0, .int .i64 0, .int .i64 0, .int .i64 0] 75 (0, 0)) (by have := blk_new (w.alloc (.cells #[.int .i64 at_, .int .i64 lo, .int .i64 hi, .int .i64 rate] 75)) (.cells #[.int .i64 0, .int .i64 0, .int .i64 0, .int .i64 0] 75); rw [show (w.alloc (.cells #[.int .i64 at_, .int .i64 lo, .int .i64 hi, .int .i64 rate] 75)).heap.size = w.heap.size + 1 from Array.size_push _] at this; exact this) hb)
  have HB1 := Aside0.mk (bl_next (bl_alloc (bl_alloc HB.out _) _) hb)
  clear hb HB
  go_wp2_with fail
  refine (Q.governor_speedErr.calls n (speedErr n) _ (speedErr_eval n)).mono ?_
  rintro e2 w2 ⟨rfl, ⟨nd, rfl⟩⟩
  have B02 := Aside0.mk (blk_drewN B0.out nd)
  have B12 := Aside0.mk (blk_drewN B1.out nd)
  have HB2 := Aside0.mk (bl_drewN HB1.out nd)
  clear B0 B1 HB1
  generalize w1.drewN nd = w3 at B02 B12 HB2 ⊢
  go_wp2_with fail
  refine (first_lit2 _ _ _ _ (if gateErr at_ lo hi rate = 0 then speedErr n else gateErr at_ lo hi rate) rfl).mono ?_
  rintro e3 w4 ⟨rfl, ⟨nd2, rfl⟩⟩
  have B03 := Aside0.mk (blk_drewN (blk_alloc B02.out (.cells #[.int .i64 (gateErr at_ lo hi rate), .int .i64 (speedErr n)] 27)) nd2)
  have B13 := Aside0.mk (blk_drewN (blk_alloc B12.out (.cells #[.int .i64 (gateErr at_ lo hi rate), .int .i64 (speedErr n)] 27)) nd2)
  have HB3 := Aside0.mk (bl_drewN (bl_alloc HB2.out (.cells #[.int .i64 (gateErr at_ lo hi rate), .int .i64 (speedErr n)] 27)) nd2)
  clear B02 B12 HB2
  generalize (w3.alloc (.cells #[.int .i64 (gateErr at_ lo hi rate), .int .i64 (speedErr n)] 27)).drewN nd2 = w5 at B03 B13 HB3 ⊢
  have f0 := blk_frozen B13.out 0
  have f1 := blk_frozen B13.out 1
  have f2 := blk_frozen B13.out 2
  have f3 := blk_frozen B13.out 3
  have hGE : w.heap.size ≤ w.heap.size + 1 := by omega
  have hLT := blk_lt B13.out
  generalize hee : (if gateErr at_ lo hi rate = 0 then speedErr n else gateErr at_ lo hi rate) = ee
  have HEE := Aside0.mk hee
  clear hee
  by_cases hz : ee = 0
  · have hzb : (ee != 0) = false := by rw [hz]; rfl
    have hzc : (ee == 0) = true := by rw [hz]; rfl
    have HZ := Aside0.mk hz
    clear hz
    have c0 : w5.cell? ⟨w.heap.size, 0, none⟩ = some (.int .i64 at_) := (blk_cell B03.out 0).trans rfl
    have c1 : w5.cell? ⟨w.heap.size, 1, none⟩ = some (.int .i64 lo) := (blk_cell B03.out 1).trans rfl
    have c2 : w5.cell? ⟨w.heap.size, 2, none⟩ = some (.int .i64 hi) := (blk_cell B03.out 2).trans rfl
    have c3 : w5.cell? ⟨w.heap.size, 3, none⟩ = some (.int .i64 rate) := (blk_cell B03.out 3).trans rfl
    go_wp2_with fail
    refine (gate_step.calls w5.heap.size at_ lo hi rate n (stepOf at_ lo hi rate n) _ (blk_new w5 _) rfl).mono ?_
    rintro e4 w6 ⟨rfl, w7, hb7, rfl⟩
    have BS := Aside0.mk (blk_put (blk_below (blk_new w5 (.cells #[.int .i64 at_, .int .i64 lo, .int .i64 hi, .int .i64 rate] 165)) hb7) 0 (.int .i64 (stepOf at_ lo hi rate n)) (cs' := #[.int .i64 (stepOf at_ lo hi rate n), .int .i64 lo, .int .i64 hi, .int .i64 rate]) rfl)
    have BR := Aside0.mk (blk_far (p := ⟨w5.heap.size, 0, none⟩) (blk_below (blk_alloc B13.out (.cells #[.int .i64 at_, .int .i64 lo, .int .i64 hi, .int .i64 rate] 165)) hb7) (by show w.heap.size + 1 ≠ w5.heap.size; omega) (.int .i64 (stepOf at_ lo hi rate n)))
    have HBS := Aside0.mk (below_set (j := 0) (v := .int .i64 (stepOf at_ lo hi rate n)) (bl_next (bl_alloc HB3.out (.cells #[.int .i64 at_, .int .i64 lo, .int .i64 hi, .int .i64 rate] 165)) hb7) (by omega : w.heap.size ≤ w5.heap.size))
    clear c0 c1 c2 c3 f0 f1 f2 f3
    generalize hsv : stepOf at_ lo hi rate n = sv at BS BR HBS ⊢
    generalize w7.setCell ⟨w5.heap.size, 0, none⟩ (.int .i64 sv) = w8 at BS BR HBS ⊢
    have c0 : w8.cell? ⟨w5.heap.size, 0, none⟩ = some (.int .i64 sv) := (blk_cell BS.out 0).trans rfl
    have c1 : w8.cell? ⟨w5.heap.size, 1, none⟩ = some (.int .i64 lo) := (blk_cell BS.out 1).trans rfl
    have c2 : w8.cell? ⟨w5.heap.size, 2, none⟩ = some (.int .i64 hi) := (blk_cell BS.out 2).trans rfl
    have c3 : w8.cell? ⟨w5.heap.size, 3, none⟩ = some (.int .i64 rate) := (blk_cell BS.out 3).trans rfl
    have d0 : w8.cell? ⟨w.heap.size + 1, 0, none⟩ = some (.int .i64 0) := (blk_cell BR.out 0).trans rfl
    have d1 : w8.cell? ⟨w.heap.size + 1, 1, none⟩ = some (.int .i64 0) := (blk_cell BR.out 1).trans rfl
    have d2 : w8.cell? ⟨w.heap.size + 1, 2, none⟩ = some (.int .i64 0) := (blk_cell BR.out 2).trans rfl
    have d3 : w8.cell? ⟨w.heap.size + 1, 3, none⟩ = some (.int .i64 0) := (blk_cell BR.out 3).trans rfl
    have f0 := blk_frozen BR.out 0
    have f1 := blk_frozen BR.out 1
    have f2 := blk_frozen BR.out 2
    have f3 := blk_frozen BR.out 3
    go_wp2_with fail
    have BF : ((((w8.setCell ⟨w.heap.size + 1, 0, none⟩ (.int .i64 sv)).setCell ⟨w.heap.size + 1, 1, none⟩ (.int .i64 lo)).setCell ⟨w.heap.size + 1, 2, none⟩ (.int .i64 hi)).setCell ⟨w.heap.size + 1, 3, none⟩ (.int .i64 rate)).heap[w.heap.size + 1]? = some (.cells #[.int .i64 sv, .int .i64 lo, .int .i64 hi, .int .i64 rate] 75 (0, 0)) := blk_put (blk_put (blk_put (blk_put (BR.out) 0 (.int .i64 sv) rfl) 1 (.int .i64 lo) rfl) 2 (.int .i64 hi) rfl) 3 (.int .i64 rate) rfl
    have HF := below_set (j := 3) (v := .int .i64 rate) (below_set (j := 2) (v := .int .i64 hi) (below_set (j := 1) (v := .int .i64 lo) (below_set (j := 0) (v := .int .i64 sv) (HBS.out) hGE) hGE) hGE) hGE
    generalize World.setCell _ ⟨w.heap.size + 1, 3, none⟩ (.int .i64 rate) = wf at BF HF ⊢
    have k0 : wf.cell? ⟨w.heap.size + 1, 0, none⟩ = some (.int .i64 sv) := (blk_cell BF 0).trans rfl
    have k1 : wf.cell? ⟨w.heap.size + 1, 1, none⟩ = some (.int .i64 lo) := (blk_cell BF 1).trans rfl
    have k2 : wf.cell? ⟨w.heap.size + 1, 2, none⟩ = some (.int .i64 hi) := (blk_cell BF 2).trans rfl
    have k3 : wf.cell? ⟨w.heap.size + 1, 3, none⟩ = some (.int .i64 rate) := (blk_cell BF 3).trans rfl
    refine bodyPost_ret (v := .tuple #[.agg #[.int .i64 sv, .int .i64 lo, .int .i64 hi, .int .i64 rate], .int .i64 0]) (by simp [results, Tryz.results48, go_sem, k0, k1, k2, k3]) rfl ⟨?_, HF⟩
    have hee := HEE.out
    have hh := HH.out
    have hz := HZ.out
    unfold governor_GateStep.f at hh
    rw [hz] at hee
    by_cases hg : gateErr at_ lo hi rate = 0
    · rw [if_pos hg] at hee
      rw [if_pos hg, if_pos hee, hsv] at hh
      simp only [Option.some.injEq, Prod.mk.injEq] at hh
      obtain ⟨rfl, rfl, rfl, rfl, rfl⟩ := hh
      rfl
    · rw [if_neg hg] at hee; exact absurd hee hg
  · have hzb : (ee != 0) = true := by simp [hz]
    have hzc : (ee == 0) = false := by simp [hz]
    have HZ := Aside0.mk hz
    clear hz
    have d0 : w5.cell? ⟨w.heap.size + 1, 0, none⟩ = some (.int .i64 0) := (blk_cell B13.out 0).trans rfl
    have d1 : w5.cell? ⟨w.heap.size + 1, 1, none⟩ = some (.int .i64 0) := (blk_cell B13.out 1).trans rfl
    have d2 : w5.cell? ⟨w.heap.size + 1, 2, none⟩ = some (.int .i64 0) := (blk_cell B13.out 2).trans rfl
    have d3 : w5.cell? ⟨w.heap.size + 1, 3, none⟩ = some (.int .i64 0) := (blk_cell B13.out 3).trans rfl
    go_wp2_with fail
    have BF : ((((w5.setCell ⟨w.heap.size + 1, 0, none⟩ (.int .i64 0)).setCell ⟨w.heap.size + 1, 1, none⟩ (.int .i64 0)).setCell ⟨w.heap.size + 1, 2, none⟩ (.int .i64 0)).setCell ⟨w.heap.size + 1, 3, none⟩ (.int .i64 0)).heap[w.heap.size + 1]? = some (.cells #[.int .i64 0, .int .i64 0, .int .i64 0, .int .i64 0] 75 (0, 0)) := blk_put (blk_put (blk_put (blk_put (B13.out) 0 (.int .i64 0) rfl) 1 (.int .i64 0) rfl) 2 (.int .i64 0) rfl) 3 (.int .i64 0) rfl
    have HF := below_set (j := 3) (v := .int .i64 0) (below_set (j := 2) (v := .int .i64 0) (below_set (j := 1) (v := .int .i64 0) (below_set (j := 0) (v := .int .i64 0) (HB3.out) hGE) hGE) hGE) hGE
    generalize World.setCell _ ⟨w.heap.size + 1, 3, none⟩ (.int .i64 0) = wf at BF HF ⊢
    have k0 : wf.cell? ⟨w.heap.size + 1, 0, none⟩ = some (.int .i64 0) := (blk_cell BF 0).trans rfl
    have k1 : wf.cell? ⟨w.heap.size + 1, 1, none⟩ = some (.int .i64 0) := (blk_cell BF 1).trans rfl
    have k2 : wf.cell? ⟨w.heap.size + 1, 2, none⟩ = some (.int .i64 0) := (blk_cell BF 2).trans rfl
    have k3 : wf.cell? ⟨w.heap.size + 1, 3, none⟩ = some (.int .i64 0) := (blk_cell BF 3).trans rfl
    refine bodyPost_ret (v := .tuple #[.agg #[.int .i64 0, .int .i64 0, .int .i64 0, .int .i64 0], .int .i64 ee]) (by simp [results, Tryz.results48, go_sem, k0, k1, k2, k3]) rfl ⟨?_, HF⟩
    have hee := HEE.out
    have hh := HH.out
    have hz := HZ.out
    unfold governor_GateStep.f at hh
    by_cases hg : gateErr at_ lo hi rate = 0
    · rw [if_pos hg] at hee
      rw [if_pos hg, if_neg (by rw [hee]; exact hz), hee] at hh
      simp only [Option.some.injEq, Prod.mk.injEq] at hh
      obtain ⟨rfl, rfl, rfl, rfl, rfl⟩ := hh
      rfl
    · rw [if_neg hg] at hee
      rw [if_neg hg, hee] at hh
      simp only [Option.some.injEq, Prod.mk.injEq] at hh
      obtain ⟨rfl, rfl, rfl, rfl, rfl⟩ := hh
      rfl
end Go.Proofs.YtmpondcccbmlhaaGreat.Ext
