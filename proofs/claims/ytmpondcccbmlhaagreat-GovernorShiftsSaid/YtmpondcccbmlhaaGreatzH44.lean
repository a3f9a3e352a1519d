/- A part of the claim H: the texts ExX, without what the claim does not lean on. -/
import Derived.Test.YtmpondcccbmlhaaGreatzH17
import Derived.Test.YtmpondcccbmlhaaGreatzH43
namespace Go.Proofs.YtmpondcccbmlhaaGreat.Ext
open Go.RowKit Go.Shelf Go.Proofs.YtmpondcccbmlhaaGreatW.PrintWords Go.Proofs.YtmpondcccbmlhaaGreatW.PrintLast Go.Proofs.YtmpondcccbmlhaaGreatW.PrintMore
def gr6_Table.f (p : List Int) : Option (List (List Int)) := if 2 ≤ p.length ∧ p.length ≤ 5 ∧ ∀ x ∈ p, -1000 ≤ x ∧ x ≤ 1000 then some (tableOf p) else none
end Go.Proofs.YtmpondcccbmlhaaGreat.Ext
