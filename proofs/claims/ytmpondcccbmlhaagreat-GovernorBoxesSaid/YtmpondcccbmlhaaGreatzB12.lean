/- A part of the claim B: the texts Rfa, without what the claim does not lean on. -/
import Derived.ArgAppend
import Derived.Below
import Derived.BigQuiet
import Derived.Deep.AppendLies
import Derived.Deep.CutBlock
import Derived.Deep.DeepCutAuto
import Derived.Deep.Draws
import Derived.Deep.LoopGhost
import Derived.Deep.OwnRows
import Derived.Deep.QuietTactic
import Derived.Deep.RegionHeld3
import Derived.KernelRfl
import Derived.Laws.BitsLemmas
import Derived.Laws.BytesArg
import Derived.Laws.IdiomCopy
import Derived.Laws.MakeOwn
import Derived.Laws.OwnMore
import Derived.Laws.Rows
import Derived.Laws.Slices
import Derived.Laws.StructEq
import Derived.Lib.AppendStr
import Derived.Lib.ConvBytes
import Derived.Lib.Hide
import Derived.Maps.AppendAt
import Derived.OrdersHeld
import Derived.Outline
import Derived.OwnWalk
import Derived.RowKit
import Derived.RowKit3
import Derived.Shelf.Abstract
import Derived.Tactics
import Derived.WalkKit
import Derived.WideLaws
import Derived.Test.YtmpondcccbmlhaaGreatProg
import Derived.Test.YtmpondcccbmlhaaGreatzB0
import Derived.Test.YtmpondcccbmlhaaGreatzB1
import Derived.Test.YtmpondcccbmlhaaGreatzB2
import Derived.Test.YtmpondcccbmlhaaGreatzB3
import Derived.Test.YtmpondcccbmlhaaGreatzB4
import Derived.Test.YtmpondcccbmlhaaGreatzB5
import Derived.Test.YtmpondcccbmlhaaGreatzB6
import Derived.Test.YtmpondcccbmlhaaGreatzB7
import Derived.Test.YtmpondcccbmlhaaGreatzB8
import Derived.Test.YtmpondcccbmlhaaGreatzB9
import Derived.Test.YtmpondcccbmlhaaGreatzB11
namespace Go.Proofs.YtmpondcccbmlhaaGreat.Ext
open Go.RowKit Go.Proofs.YtmpondcccbmlhaaGreatW.PrintWords Go.Proofs.YtmpondcccbmlhaaGreatW.PrintLast Go.Proofs.YtmpondcccbmlhaaGreatW.PrintMore
theorem bwithin_eval (n lo hi : Int) : Q.guidevanebase_Within.f n lo hi = some (decide (lo ≤ n ∧ n ≤ hi)) := by
  unfold Q.guidevanebase_Within.f
  by_cases h : lo ≤ n <;> simp [h]
theorem shape_eval (n : Int) : Q.guidevaneref06_shapeErr.f n = some (Sp.countErr n) := by
  unfold Q.guidevaneref06_shapeErr.f Sp.countErr
  by_cases h : n < 2
  · rw [if_pos h, if_pos h]
  · rw [if_neg h, if_neg h]
    by_cases h2 : 5 < n
    · rw [if_pos (by omega), if_pos h2]
    · rw [if_neg (by omega), if_neg h2]
def vb : Nat → Int
  | 0 => 0
  | n + 1 => 1000 + 1000 * vb n
theorem ints_loop (a b : List Int) (hl : a.length = b.length) (ha : a.length ≤ 1000000) : ∀ (d k i : Nat), a.length - i = d → i ≤ a.length → d < k → Q.guidevanebase_Ints.l0 k a b (i : Int) = some (decide (a.drop i = b.drop i)) := by
  intro d
  induction d with
  | zero =>
    intro k i hd hi hk
    obtain ⟨k, rfl⟩ : ∃ m, k = m + 1 := ⟨k - 1, by omega⟩
    simp only [Q.guidevanebase_Ints.l0]
    rw [if_neg (by omega), List.drop_eq_nil_of_le (by omega), List.drop_eq_nil_of_le (by omega)]
    simp
  | succ d ih =>
    intro k i hd hi hk
    obtain ⟨k, rfl⟩ : ∃ m, k = m + 1 := ⟨k - 1, by omega⟩
    simp only [Q.guidevanebase_Ints.l0]
    rw [if_pos (by omega), if_pos (by omega), if_pos (by omega), rd_nat, rd_nat, drop_getD a i (by omega), drop_getD b i (by omega)]
    by_cases h : a.getD i 0 = b.getD i 0
    · rw [if_pos h, w64 (by omega) (by omega), show ((i : Int) + 1) = ((i + 1 : Nat) : Int) by omega, ih k (i + 1) (by omega) (by omega) (by omega)]
      congr 1
      rw [decide_eq_decide, List.cons.injEq]
      exact ⟨fun e => ⟨h, e⟩, fun e => e.2⟩
    · rw [if_neg h]
      congr 1
      symm
      rw [decide_eq_false_iff_not, List.cons.injEq]
      exact fun e => h e.1
theorem ints_eval (a b : List Int) (ha : a.length ≤ 1000000) (k : Nat) (hk : a.length < k) : Q.guidevanebase_Ints.f k a b = some (decide (a = b)) := by
  unfold Q.guidevanebase_Ints.f
  by_cases hl : a.length = b.length
  · rw [if_pos (by omega)]
    exact ints_loop a b hl ha a.length k 0 (by omega) (by omega) hk
  · rw [if_neg (by omega)]
    congr 1
    symm
    rw [decide_eq_false_iff_not]
    exact fun e => hl (by rw [e])
end Go.Proofs.YtmpondcccbmlhaaGreat.Ext
