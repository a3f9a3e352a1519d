/- A part of the claim H: the texts ExF, without what the claim does not lean on. -/
import Derived.Test.YtmpondcccbmlhaaGreatzH31
import Derived.Test.YtmpondcccbmlhaaGreatzH32
namespace Go.Proofs.YtmpondcccbmlhaaGreat.Ext
open Go.RowKit Go.Shelf Go.Proofs.YtmpondcccbmlhaaGreatW.PrintWords Go.Proofs.YtmpondcccbmlhaaGreatW.PrintLast Go.Proofs.YtmpondcccbmlhaaGreatW.PrintMore
theorem loopErr_ok {lc : List Int} {lm : List (List Int)} {i : Int} (h : loopErr lc lm = (i, 0)) : LoopOk lc lm := by
 unfold loopErr at h
 by_cases h0 : Sp.polyErr lc = 0
 ·rw [if_pos h0] at h
  by_cases h1 : lm.length ≤ 6
  ·rw [if_pos h1] at h
   by_cases h2 : (firstBad (rowAt lc lm) 0 lm.length).2 = 0
   ·exact loopOk_of h0 h1 h2
   ·rw [if_neg h2] at h
    rw [h] at h2; exact absurd rfl h2
  ·rw [if_neg h1] at h; injection h with _ h; cases h
 ·rw [if_neg h0] at h; injection h with _ h; exact absurd h h0
end Go.Proofs.YtmpondcccbmlhaaGreat.Ext
