/- A part of the claim P: the texts Cmp, without what the claim does not lean on. -/
import Derived.ArgAppend
import Derived.Below
import Derived.BigQuiet
import Derived.Deep.AppendLies
import Derived.Deep.CutBlock
import Derived.Deep.DeepCutAuto
import Derived.Deep.Draws
import Derived.Deep.LoopGhost
import Derived.Deep.OwnRows
import Derived.Deep.QuietTactic
import Derived.Deep.RegionHeld3
import Derived.KernelRfl
import Derived.Laws.BitsLemmas
import Derived.Laws.BytesArg
import Derived.Laws.IdiomCopy
import Derived.Laws.MakeOwn
import Derived.Laws.OwnMore
import Derived.Laws.Rows
import Derived.Laws.Slices
import Derived.Laws.StructEq
import Derived.Lib.AppendStr
import Derived.Lib.ConvBytes
import Derived.Lib.Hide
import Derived.Maps.AppendAt
import Derived.OrdersHeld
import Derived.Outline
import Derived.OwnWalk
import Derived.RowKit
import Derived.RowKit3
import Derived.Shelf.Abstract
import Derived.Tactics
import Derived.WalkKit
import Derived.WideLaws
import Derived.Test.YtmpondcccbmlhaaProg
import Derived.Test.YtmpondcccbmlhaazP0
import Derived.Test.YtmpondcccbmlhaazP1
import Derived.Test.YtmpondcccbmlhaazP2
import Derived.Test.YtmpondcccbmlhaazP3
import Derived.Test.YtmpondcccbmlhaazP4
import Derived.Test.YtmpondcccbmlhaazP5
import Derived.Test.YtmpondcccbmlhaazP6
import Derived.Test.YtmpondcccbmlhaazP7
import Derived.Test.YtmpondcccbmlhaazP8
import Derived.Test.YtmpondcccbmlhaazP9
import Derived.Test.YtmpondcccbmlhaazP12
import Derived.Test.YtmpondcccbmlhaazP13
namespace Go.Proofs.Ytmpondcccbmlhaa.Ext
open Go.RowKit Go.Proofs.YtmpondcccbmlhaaW.PrintWords Go.Proofs.YtmpondcccbmlhaaW.PrintLast Go.Proofs.YtmpondcccbmlhaaW.PrintMore
theorem cmp_eval (a b : Int) : B.cmp_Compare_int.f a b = some (if a < b then -1 else if b < a then 1 else 0) := by
  unfold B.cmp_Compare_int.f B.cmp_isNaN_int.f
  simp only [Option.bind_some]
  by_cases h1 : a < b
  · simp [h1]
  · by_cases h2 : b < a
    · simp [h1, h2]
    · simp [h1, h2]
theorem compare_loop (x y : List Int) (hx : x.length ≤ 1000000) : ∀ (d k i : Nat), i ≤ x.length → i ≤ y.length → x.length - i = d → d < k →
    B.slices_Compare_int_int.l0 k x y x (x.length : Int) (i : Int) = some (cmpL (x.drop i) (y.drop i)) := by
  intro d
  induction d with
  | zero =>
    intro k i hi hj hd hk
    obtain ⟨k, rfl⟩ : ∃ m, k = m + 1 := ⟨k - 1, by omega⟩
    simp only [B.slices_Compare_int_int.l0]
    rw [if_neg (by omega), show i = x.length by omega, List.drop_length]
    by_cases h : x.length < y.length
    · rw [if_pos (by omega), drop_getD y x.length h]; rfl
    · rw [if_neg (by omega), List.drop_eq_nil_of_le (by omega)]; rfl
  | succ d ih =>
    intro k i hi hj hd hk
    obtain ⟨k, rfl⟩ : ∃ m, k = m + 1 := ⟨k - 1, by omega⟩
    simp only [B.slices_Compare_int_int.l0]
    rw [if_pos (by omega), if_pos (by omega), if_pos (by omega), drop_getD x i (by omega)]
    by_cases hy : i < y.length
    · rw [if_neg (by omega), if_pos (by omega), rd_nat, rd_nat, cmp_eval, drop_getD y i hy, w64 (by omega) (by omega)]
      simp only [Option.bind_some, cmpL]
      by_cases h1 : x.getD i 0 < y.getD i 0
      · rw [if_pos h1, if_neg (by omega), if_pos h1]
      · by_cases h2 : y.getD i 0 < x.getD i 0
        · rw [if_neg h1, if_pos h2, if_neg (by omega), if_neg h1, if_pos h2]
        · rw [if_neg h1, if_neg h2, if_pos rfl, if_neg h1, if_neg h2, show ((i : Int) + 1) = ((i + 1 : Nat) : Int) by omega, ih k (i + 1) (by omega) (by omega) (by omega) (by omega)]
    · rw [if_pos (by omega), List.drop_eq_nil_of_le (by omega : y.length ≤ i)]; rfl
theorem compare_eval (x y : List Int) (hx : x.length ≤ 1000000) (k : Nat) (hk : x.length < k) : B.slices_Compare_int_int.f k x y = some (cmpL x y) := by
  have := compare_loop x y hx x.length k 0 (by omega) (by omega) (by omega) hk
  simpa [B.slices_Compare_int_int.f] using this
theorem ones_eval : ∀ n, n < 7 → ∀ m : Nat, m < 2 ^ n → B.bits_OnesCount.f (m : Int) = some ((bitsTo m n).length : Int) := by decide +kernel
end Go.Proofs.Ytmpondcccbmlhaa.Ext
