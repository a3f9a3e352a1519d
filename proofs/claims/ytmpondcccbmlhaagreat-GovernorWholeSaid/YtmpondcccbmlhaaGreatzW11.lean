/- A part of the claim W: the texts Rfa, without what the claim does not lean on. -/
import Derived.ArgAppend
import Derived.Below
import Derived.BigQuiet
import Derived.Deep.AppendLies
import Derived.Deep.CutBlock
import Derived.Deep.DeepCutAuto
import Derived.Deep.Draws
import Derived.Deep.LoopGhost
import Derived.Deep.OwnRows
import Derived.Deep.QuietTactic
import Derived.Deep.RegionHeld3
import Derived.KernelRfl
import Derived.Laws.BitsLemmas
import Derived.Laws.BytesArg
import Derived.Laws.IdiomCopy
import Derived.Laws.MakeOwn
import Derived.Laws.OwnMore
import Derived.Laws.Rows
import Derived.Laws.Slices
import Derived.Laws.StructEq
import Derived.Lib.AppendStr
import Derived.Lib.ConvBytes
import Derived.Lib.Hide
import Derived.Maps.AppendAt
import Derived.OrdersHeld
import Derived.Outline
import Derived.OwnWalk
import Derived.RowKit
import Derived.RowKit3
import Derived.Shelf.Abstract
import Derived.Tactics
import Derived.WalkKit
import Derived.WideLaws
import Derived.Test.YtmpondcccbmlhaaGreatProg
import Derived.Test.YtmpondcccbmlhaaGreatzW0
import Derived.Test.YtmpondcccbmlhaaGreatzW1
import Derived.Test.YtmpondcccbmlhaaGreatzW2
import Derived.Test.YtmpondcccbmlhaaGreatzW3
import Derived.Test.YtmpondcccbmlhaaGreatzW4
import Derived.Test.YtmpondcccbmlhaaGreatzW5
import Derived.Test.YtmpondcccbmlhaaGreatzW6
import Derived.Test.YtmpondcccbmlhaaGreatzW7
import Derived.Test.YtmpondcccbmlhaaGreatzW8
import Derived.Test.YtmpondcccbmlhaaGreatzW9
import Derived.Test.YtmpondcccbmlhaaGreatzW10
namespace Go.Proofs.YtmpondcccbmlhaaGreat.Ext
open Go.RowKit Go.Proofs.YtmpondcccbmlhaaGreatW.PrintWords Go.Proofs.YtmpondcccbmlhaaGreatW.PrintLast Go.Proofs.YtmpondcccbmlhaaGreatW.PrintMore
theorem bwithin_eval (n lo hi : Int) : Q.guidevanebase_Within.f n lo hi = some (decide (lo ≤ n ∧ n ≤ hi)) := by
  unfold Q.guidevanebase_Within.f
  by_cases h : lo ≤ n <;> simp [h]
theorem shape_eval (n : Int) : Q.guidevaneref06_shapeErr.f n = some (Sp.countErr n) := by
  unfold Q.guidevaneref06_shapeErr.f Sp.countErr
  by_cases h : n < 2
  · rw [if_pos h, if_pos h]
  · rw [if_neg h, if_neg h]
    by_cases h2 : 5 < n
    · rw [if_pos (by omega), if_pos h2]
    · rw [if_neg (by omega), if_neg h2]
theorem coefsErr_ok {x : Int} {l : List Int} (h : Sp.coefErr x = 0) : Sp.coefsErr (x :: l) = Sp.coefsErr l := by simp only [Sp.coefsErr]; rw [if_pos h]
def vb : Nat → Int
  | 0 => 0
  | n + 1 => 1000 + 1000 * vb n
end Go.Proofs.YtmpondcccbmlhaaGreat.Ext
