/- A part of the claim G: the texts Rfa, without what the claim does not lean on. -/
import Derived.ArgAppend
import Derived.Below
import Derived.BigQuiet
import Derived.Deep.AppendLies
import Derived.Deep.CutBlock
import Derived.Deep.DeepCutAuto
import Derived.Deep.Draws
import Derived.Deep.LoopGhost
import Derived.Deep.OwnRows
import Derived.Deep.QuietTactic
import Derived.Deep.RegionHeld3
import Derived.KernelRfl
import Derived.Laws.BitsLemmas
import Derived.Laws.BytesArg
import Derived.Laws.IdiomCopy
import Derived.Laws.MakeOwn
import Derived.Laws.OwnMore
import Derived.Laws.Rows
import Derived.Laws.Slices
import Derived.Laws.StructEq
import Derived.Lib.AppendStr
import Derived.Lib.ConvBytes
import Derived.Lib.Hide
import Derived.Maps.AppendAt
import Derived.OrdersHeld
import Derived.Outline
import Derived.OwnWalk
import Derived.RowKit
import Derived.RowKit3
import Derived.Shelf.Abstract
import Derived.Tactics
import Derived.WalkKit
import Derived.WideLaws
import Derived.Test.YtmpondcccbmlhaaGreatProg
import Derived.Test.YtmpondcccbmlhaaGreatzG0
import Derived.Test.YtmpondcccbmlhaaGreatzG1
import Derived.Test.YtmpondcccbmlhaaGreatzG2
import Derived.Test.YtmpondcccbmlhaaGreatzG3
import Derived.Test.YtmpondcccbmlhaaGreatzG4
import Derived.Test.YtmpondcccbmlhaaGreatzG5
import Derived.Test.YtmpondcccbmlhaaGreatzG6
import Derived.Test.YtmpondcccbmlhaaGreatzG7
import Derived.Test.YtmpondcccbmlhaaGreatzG8
import Derived.Test.YtmpondcccbmlhaaGreatzG9
import Derived.Test.YtmpondcccbmlhaaGreatzG10
namespace Go.Proofs.YtmpondcccbmlhaaGreat.Ext
open Go.RowKit Go.Proofs.YtmpondcccbmlhaaGreatW.PrintWords Go.Proofs.YtmpondcccbmlhaaGreatW.PrintLast Go.Proofs.YtmpondcccbmlhaaGreatW.PrintMore
theorem bwithin_eval (n lo hi : Int) : Q.guidevanebase_Within.f n lo hi = some (decide (lo ≤ n ∧ n ≤ hi)) := by
  unfold Q.guidevanebase_Within.f
  by_cases h : lo ≤ n <;> simp [h]
def vb : Nat → Int
  | 0 => 0
  | n + 1 => 1000 + 1000 * vb n
end Go.Proofs.YtmpondcccbmlhaaGreat.Ext
