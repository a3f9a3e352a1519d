/- A part of the claim M: the texts ExF, without what the claim does not lean on. -/
import Derived.ArgAppend
import Derived.Below
import Derived.BigQuiet
import Derived.Deep.AppendLies
import Derived.Deep.CutBlock
import Derived.Deep.DeepCutAuto
import Derived.Deep.Draws
import Derived.Deep.LoopGhost
import Derived.Deep.OwnRows
import Derived.Deep.QuietTactic
import Derived.Deep.RegionHeld3
import Derived.KernelRfl
import Derived.Laws.BitsLemmas
import Derived.Laws.BytesArg
import Derived.Laws.ComplexArith
import Derived.Laws.IdiomCopy
import Derived.Laws.MakeOwn
import Derived.Laws.OwnMore
import Derived.Laws.Rows
import Derived.Laws.Slices
import Derived.Laws.StructEq
import Derived.Lib.AppendStr
import Derived.Lib.ConvBytes
import Derived.Lib.Hide
import Derived.Lib.LazyBuf
import Derived.Maps.AppendAt
import Derived.OrdersHeld
import Derived.Outline
import Derived.OwnWalk
import Derived.RowKit
import Derived.RowKit3
import Derived.Shelf.Abstract
import Derived.Tactics
import Derived.WalkKit
import Derived.WalkLawsBesides
import Derived.WideLaws
import Derived.Test.YtmpondcccbmlhaaGreatProg
import Derived.Test.YtmpondcccbmlhaaGreatzM0
import Derived.Test.YtmpondcccbmlhaaGreatzM1
import Derived.Test.YtmpondcccbmlhaaGreatzM2
import Derived.Test.YtmpondcccbmlhaaGreatzM3
import Derived.Test.YtmpondcccbmlhaaGreatzM4
import Derived.Test.YtmpondcccbmlhaaGreatzM5
import Derived.Test.YtmpondcccbmlhaaGreatzM6
import Derived.Test.YtmpondcccbmlhaaGreatzM7
import Derived.Test.YtmpondcccbmlhaaGreatzM8
import Derived.Test.YtmpondcccbmlhaaGreatzM9
import Derived.Test.YtmpondcccbmlhaaGreatzM10
import Derived.Test.YtmpondcccbmlhaaGreatzM13
import Derived.Test.YtmpondcccbmlhaaGreatzM14
import Derived.Test.YtmpondcccbmlhaaGreatzM16
import Derived.Test.YtmpondcccbmlhaaGreatzM25
import Derived.Test.YtmpondcccbmlhaaGreatzM26
import Derived.Test.YtmpondcccbmlhaaGreatzM27
namespace Go.Proofs.YtmpondcccbmlhaaGreat.Ext
open Go.RowKit Go.Shelf Go.Proofs.YtmpondcccbmlhaaGreatW.PrintWords Go.Proofs.YtmpondcccbmlhaaGreatW.PrintLast Go.Proofs.YtmpondcccbmlhaaGreatW.PrintMore
theorem loopErr_ok {lc : List Int} {lm : List (List Int)} {i : Int} (h : loopErr lc lm = (i, 0)) : LoopOk lc lm := by
  unfold loopErr at h
  by_cases h0 : Sp.polyErr lc = 0
  · rw [if_pos h0] at h
    by_cases h1 : lm.length ≤ 6
    · rw [if_pos h1] at h
      by_cases h2 : (firstBad (rowAt lc lm) 0 lm.length).2 = 0
      · exact loopOk_of h0 h1 h2
      · rw [if_neg h2] at h
        rw [h] at h2; exact absurd rfl h2
    · rw [if_neg h1] at h; injection h with _ h; cases h
  · rw [if_neg h0] at h; injection h with _ h; exact absurd h h0
end Go.Proofs.YtmpondcccbmlhaaGreat.Ext
