/- A part of the claim P: the texts ExF, without what the claim does not lean on. -/
import Derived.ArgAppend
import Derived.Below
import Derived.BigQuiet
import Derived.Deep.AppendLies
import Derived.Deep.CutBlock
import Derived.Deep.DeepCutAuto
import Derived.Deep.Draws
import Derived.Deep.LoopGhost
import Derived.Deep.OwnRows
import Derived.Deep.QuietTactic
import Derived.Deep.RegionHeld3
import Derived.KernelRfl
import Derived.Laws.BitsLemmas
import Derived.Laws.BytesArg
import Derived.Laws.ComplexArith
import Derived.Laws.IdiomCopy
import Derived.Laws.MakeOwn
import Derived.Laws.OwnMore
import Derived.Laws.Rows
import Derived.Laws.Slices
import Derived.Laws.StructEq
import Derived.Lib.AppendStr
import Derived.Lib.ConvBytes
import Derived.Lib.Hide
import Derived.Lib.LazyBuf
import Derived.Maps.AppendAt
import Derived.OrdersHeld
import Derived.Outline
import Derived.OwnWalk
import Derived.RowKit
import Derived.RowKit3
import Derived.Shelf.Abstract
import Derived.Tactics
import Derived.WalkKit
import Derived.WalkLawsBesides
import Derived.WideLaws
import Derived.Test.YtmpondcccbmlhaaProg
import Derived.Test.YtmpondcccbmlhaazP0
import Derived.Test.YtmpondcccbmlhaazP1
import Derived.Test.YtmpondcccbmlhaazP2
import Derived.Test.YtmpondcccbmlhaazP3
import Derived.Test.YtmpondcccbmlhaazP4
import Derived.Test.YtmpondcccbmlhaazP5
import Derived.Test.YtmpondcccbmlhaazP6
import Derived.Test.YtmpondcccbmlhaazP7
import Derived.Test.YtmpondcccbmlhaazP8
import Derived.Test.YtmpondcccbmlhaazP9
import Derived.Test.YtmpondcccbmlhaazP17
import Derived.Test.YtmpondcccbmlhaazP18
import Derived.Test.YtmpondcccbmlhaazP19
import Derived.Test.YtmpondcccbmlhaazP20
import Derived.Test.YtmpondcccbmlhaazP21
namespace Go.Proofs.Ytmpondcccbmlhaa.Ext
open Go.RowKit Go.Shelf Go.Proofs.YtmpondcccbmlhaaW.PrintWords Go.Proofs.YtmpondcccbmlhaaW.PrintLast Go.Proofs.YtmpondcccbmlhaaW.PrintMore
theorem loopErr_ok {lc : List Int} {lm : List (List Int)} {i : Int} (h : loopErr lc lm = (i, 0)) : LoopOk lc lm := by
  unfold loopErr at h
  by_cases h0 : Sp.polyErr lc = 0
  · rw [if_pos h0] at h
    by_cases h1 : lm.length ≤ 6
    · rw [if_pos h1] at h
      by_cases h2 : (firstBad (rowAt lc lm) 0 lm.length).2 = 0
      · exact loopOk_of h0 h1 h2
      · rw [if_neg h2] at h
        rw [h] at h2; exact absurd rfl h2
    · rw [if_neg h1] at h; injection h with _ h; cases h
  · rw [if_neg h0] at h; injection h with _ h; exact absurd h h0
end Go.Proofs.Ytmpondcccbmlhaa.Ext
