/- A part of the claim V: the texts PuVals, PureGovernorValues, without what the claim does not lean on. -/
import Derived.ArgAppend
import Derived.Below
import Derived.BigQuiet
import Derived.Deep.AppendLies
import Derived.Deep.CutBlock
import Derived.Deep.DeepCutAuto
import Derived.Deep.Draws
import Derived.Deep.LoopGhost
import Derived.Deep.OwnRows
import Derived.Deep.QuietTactic
import Derived.Deep.RegionHeld3
import Derived.Deep.RegionWith
import Derived.Deep.WholeRow
import Derived.Ground.SlsfProg
import Derived.KernelRfl
import Derived.Laws.BitsLemmas
import Derived.Laws.BytesArg
import Derived.Laws.ComplexArith
import Derived.Laws.IdiomCopy
import Derived.Laws.MakeOwn
import Derived.Laws.OwnMore
import Derived.Laws.Rows
import Derived.Laws.Slices
import Derived.Laws.StructEq
import Derived.Lib.AppendStr
import Derived.Lib.ConvBytes
import Derived.Lib.Hide
import Derived.Lib.LazyBuf
import Derived.LoopIn
import Derived.LoopNIn
import Derived.Maps.AppendAt
import Derived.OrdersHeld
import Derived.Outline
import Derived.OwnWalk
import Derived.OwnWalkIn
import Derived.RangeFuncBound
import Derived.RangeFuncCalls
import Derived.RangeFuncLeaves
import Derived.RangeFuncNested
import Derived.RowKit
import Derived.RowKit3
import Derived.Shelf.Abstract
import Derived.Shelf.RegionOpen
import Derived.Shelf.SlSortCmp.HeapSort1
import Derived.Shelf.SlSortCmp.Insertion
import Derived.Shelf.SlSortCmp.Insertion1
import Derived.Shelf.SlSortCmp.Median1
import Derived.Shelf.SlSortCmp.PartialInsertion1
import Derived.Shelf.SlSortCmp.Partition1
import Derived.Shelf.SlSortCmp.PartitionEqual1
import Derived.Shelf.SlSortCmp.Pdq1
import Derived.Shelf.SlSortCmp.Pivot1
import Derived.Shelf.SlSortCmp.ReverseRange1
import Derived.Shelf.SlSortCmp.SiftDown1
import Derived.Shelf.SlSortCmp.Whole1
import Derived.Shelf.Slices.Empties2
import Derived.Shelf.Slices.Equal
import Derived.Shelf.Slices.In.SortNone
import Derived.Shelf.Small.Bits
import Derived.Shelf.Sort.Plain
import Derived.Shelf.Strconv.Itoa0
import Derived.Sort.CutIn
import Derived.Tactics
import Derived.TacticsInMore
import Derived.WalkKit
import Derived.WalkLawsBesides
import Derived.WideLaws
import Derived.Test.YtmpondcccbmlhaaGreatProg
import Derived.Test.YtmpondcccbmlhaaGreatzV0
import Derived.Test.YtmpondcccbmlhaaGreatzV1
import Derived.Test.YtmpondcccbmlhaaGreatzV2
import Derived.Test.YtmpondcccbmlhaaGreatzV3
import Derived.Test.YtmpondcccbmlhaaGreatzV4
import Derived.Test.YtmpondcccbmlhaaGreatzV5
import Derived.Test.YtmpondcccbmlhaaGreatzV6
import Derived.Test.YtmpondcccbmlhaaGreatzV7
import Derived.Test.YtmpondcccbmlhaaGreatzV8
import Derived.Test.YtmpondcccbmlhaaGreatzV9
import Derived.Test.YtmpondcccbmlhaaGreatzV10
import Derived.Test.YtmpondcccbmlhaaGreatzV11
import Derived.Test.YtmpondcccbmlhaaGreatzV12
import Derived.Test.YtmpondcccbmlhaaGreatzV13
import Derived.Test.YtmpondcccbmlhaaGreatzV14
import Derived.Test.YtmpondcccbmlhaaGreatzV15
import Derived.Test.YtmpondcccbmlhaaGreatzV16
import Derived.Test.YtmpondcccbmlhaaGreatzV17
import Derived.Test.YtmpondcccbmlhaaGreatzV18
import Derived.Test.YtmpondcccbmlhaaGreatzV19
import Derived.Test.YtmpondcccbmlhaaGreatzV20
import Derived.Test.YtmpondcccbmlhaaGreatzV21
import Derived.Test.YtmpondcccbmlhaaGreatzV22
import Derived.Test.YtmpondcccbmlhaaGreatzV23
import Derived.Test.YtmpondcccbmlhaaGreatzV24
import Derived.Test.YtmpondcccbmlhaaGreatzV25
import Derived.Test.YtmpondcccbmlhaaGreatzV26
import Derived.Test.YtmpondcccbmlhaaGreatzV27
import Derived.Test.YtmpondcccbmlhaaGreatzV28
import Derived.Test.YtmpondcccbmlhaaGreatzV29
import Derived.Test.YtmpondcccbmlhaaGreatzV30
import Derived.Test.YtmpondcccbmlhaaGreatzV31
import Derived.Test.YtmpondcccbmlhaaGreatzV32
import Derived.Test.YtmpondcccbmlhaaGreatzV33
import Derived.Test.YtmpondcccbmlhaaGreatzV34
import Derived.Test.YtmpondcccbmlhaaGreatzV35
import Derived.Test.YtmpondcccbmlhaaGreatzV36
import Derived.Test.YtmpondcccbmlhaaGreatzV37
namespace Go.Proofs.YtmpondcccbmlhaaGreat.Ext
open Go.RowKit Go.Proofs.YtmpondcccbmlhaaGreatW.PrintWords Go.Proofs.YtmpondcccbmlhaaGreatW.PrintLast Go.Proofs.YtmpondcccbmlhaaGreatW.PrintMore
theorem valueAt_eval (p : List Int) (w : Int) (k : Nat) (hk : 3 ≤ k) : Q.governor_ValueAt.f k p w = some (if Sp.polyErr p = 0 then (if Sp.freqErr w = 0 then ((Sp.val p w).1, (Sp.val p w).2, 0) else (0, 0, Sp.freqErr w)) else (0, 0, Sp.polyErr p)) := by
  unfold Q.governor_ValueAt.f governor_CheckPolynomial.f
  rw [freqErr_eval]
  simp only [Option.bind_some, first2_eval _ _ k hk]
  by_cases hp : Sp.polyErr p = 0
  · rw [if_pos hp, if_pos hp]
    by_cases hw : Sp.freqErr w = 0
    · rw [if_pos hw, if_pos hw, governor_value.f, if_pos ⟨hp, hw⟩]; rfl
    · rw [if_neg hw, if_neg hw]
  · rw [if_neg hp, if_neg hp, if_neg hp]
theorem pure_values : Q.guidevanelaw06_GovernorValues.Pure := by
  intro p w g hp1 hp2 hp3 hw hg1 hg2 hg3
  refine ⟨200, ?_⟩
  unfold Q.guidevanelaw06_GovernorValues.f guidevanelaw06_awake.f Q.guidevanelaw06_short.f
  simp only [Option.bind_some, if_true, decide_eq_true_eq]
  have hj : ∀ b : Bool, (b = false → g.length ≤ 22 ∧ p.length ≤ 7) → Q.guidevanelaw06_GovernorValues.j0 200 p w g b = some true := by
    intro b hb
    simp only [Q.guidevanelaw06_GovernorValues.j0]
    cases b with
    | true => rfl
    | false =>
      obtain ⟨h22, h7⟩ := hb rfl
      rw [if_neg (by decide), copy_eval p (by omega), copy_eval g (by omega)]
      simp only [Option.bind_some]
      rw [valueAt_eval p w 199 (by omega), rpolyErr_eval p 199 (by omega), rfreqErr_eval]
      unfold governor_QuadrantsOf.f
      simp only [Option.bind_some]
      by_cases hp : Sp.polyErr p = 0
      · simp only [hp, if_true]
        have hj1 : Q.guidevanelaw06_GovernorValues.j1 199 p g (if Sp.gridErr g = 0 then ((Sp.quads p g).elim (([] : List Int), (11 : Int)) fun q => (q, 0)) else ([], Sp.gridErr g)).1 (if Sp.gridErr g = 0 then ((Sp.quads p g).elim (([] : List Int), (11 : Int)) fun q => (q, 0)) else ([], Sp.gridErr g)).2 false = some true := by
          simp only [Q.guidevanelaw06_GovernorValues.j1]
          rw [if_neg (by decide), rgrid_eval g 198 (by omega)]
          simp only [Option.bind_some]
          by_cases hg : Sp.gridErr g = 0
          · simp only [hg, if_true]
            rw [rquads_eval hp hg 198 (by omega)]
            simp only [Option.bind_some]
            cases hq : Sp.quads p g with
            | none => simp
            | some q =>
              have hl := quads_len hq
              simp only [Option.elim_some, if_true]
              rw [ints_eval q q (by omega) 198 (by omega)]
              simp
          · simp only [hg, if_false, if_true]
            simp
        by_cases hf : Sp.freqErr w = 0
        · simp only [hf, if_true]
          rw [rvalue_eval hp hf 199 (by omega)]
          simp only [Option.bind_some, beq_self_eq_true, Bool.not_true, Bool.or_false]
          exact hj1
        · simp only [hf, if_false, if_true]
          rw [if_neg (by decide)]
          exact hj1
      · simp only [hp, if_false, if_true]
        rw [if_pos (by decide)]
        rfl
  by_cases h7 : (p.length : Int) ≤ 7
  · rw [if_pos h7]
    exact hj _ (fun h => by rw [decide_eq_false_iff_not] at h; omega)
  · rw [if_neg h7]
    exact hj true (fun h => by cases h)
end Go.Proofs.YtmpondcccbmlhaaGreat.Ext
namespace Go.Proofs.YtmpondcccbmlhaaGreat
theorem Pure.GovernorValues : Q.guidevanelaw06_GovernorValues.Pure := Ext.pure_values
end Go.Proofs.YtmpondcccbmlhaaGreat
