/- A part of the claim H: the texts Boxs, without what the claim does not lean on. -/
import Derived.Test.YtmpondcccbmlhaaGreatzH17
import Derived.Test.YtmpondcccbmlhaaGreatzH21
import Derived.Test.YtmpondcccbmlhaaGreatzH34
namespace Go.Proofs.YtmpondcccbmlhaaGreat.Ext
open Go.RowKit Go.Proofs.YtmpondcccbmlhaaGreatW.PrintWords Go.Proofs.YtmpondcccbmlhaaGreatW.PrintLast Go.Proofs.YtmpondcccbmlhaaGreatW.PrintMore
open Q (S58 z58 k58)
open Classical in
theorem stab_iff (p : List Int) : stab p = true ↔ allRows p := by unfold stab; exact decide_eq_true_iff
end Go.Proofs.YtmpondcccbmlhaaGreat.Ext
