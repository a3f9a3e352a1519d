/- PROVED HERE: GovernorBoxes: which boxes are valid, with an index, their corners, and whether they are robust, are as the reference says, or the errors (for every box). -/
import Derived.ArgAppend
import Derived.Below
import Derived.BigQuiet
import Derived.ChangeArms
import Derived.ChangeOld
import Derived.ChangeSlices
import Derived.DataElems
import Derived.Deep.AppendLies
import Derived.Deep.CutBlock
import Derived.Deep.DeepCutAuto
import Derived.Deep.Draws
import Derived.Deep.LoopGhost
import Derived.Deep.OwnRows
import Derived.Deep.QuietTactic
import Derived.Deep.RegionHeld3
import Derived.Deep.RegionWith
import Derived.Deep.WholeRow
import Derived.Ground.SlsfProg
import Derived.KernelRfl
import Derived.Laws.BitsLemmas
import Derived.Laws.BytesArg
import Derived.Laws.ComplexArith
import Derived.Laws.IdiomCopy
import Derived.Laws.MakeOwn
import Derived.Laws.OwnMore
import Derived.Laws.Rows
import Derived.Laws.Slices
import Derived.Laws.StructEq
import Derived.Lib.AppendStr
import Derived.Lib.ConvBytes
import Derived.Lib.Hide
import Derived.Lib.LazyBuf
import Derived.LoopIn
import Derived.LoopNIn
import Derived.Maps.AppendAt
import Derived.OpenShut
import Derived.OrdersHeld
import Derived.Outline
import Derived.OwnWalk
import Derived.OwnWalkIn
import Derived.ProofKit
import Derived.RangeFuncBound
import Derived.RangeFuncCalls
import Derived.RangeFuncLeaves
import Derived.RangeFuncNested
import Derived.RowKit
import Derived.RowKit3
import Derived.Shelf.Abstract
import Derived.Shelf.RegionOpen
import Derived.Shelf.SlSortCmp.HeapSort1
import Derived.Shelf.SlSortCmp.Insertion
import Derived.Shelf.SlSortCmp.Insertion1
import Derived.Shelf.SlSortCmp.Median1
import Derived.Shelf.SlSortCmp.PartialInsertion1
import Derived.Shelf.SlSortCmp.Partition1
import Derived.Shelf.SlSortCmp.PartitionEqual1
import Derived.Shelf.SlSortCmp.Pdq1
import Derived.Shelf.SlSortCmp.Pivot1
import Derived.Shelf.SlSortCmp.ReverseRange1
import Derived.Shelf.SlSortCmp.SiftDown1
import Derived.Shelf.SlSortCmp.Whole1
import Derived.Shelf.Slices.Empties2
import Derived.Shelf.Slices.Equal
import Derived.Shelf.Slices.In.SortNone
import Derived.Shelf.Small.Bits
import Derived.Shelf.Sort.Plain
import Derived.Shelf.Strconv.Itoa0
import Derived.ShutString
import Derived.SizedLaws
import Derived.Sort.CutIn
import Derived.Tactics
import Derived.TacticsInMore
import Derived.WalkKit
import Derived.WalkLawsBesides
import Derived.WideLaws
import Derived.Test.YtmpondcccbmlhaaGreatProg
import Derived.Test.YtmpondcccbmlhaaGreatRows
import Derived.Test.YtmpondcccbmlhaaGreatzB0
import Derived.Test.YtmpondcccbmlhaaGreatzB1
import Derived.Test.YtmpondcccbmlhaaGreatzB2
import Derived.Test.YtmpondcccbmlhaaGreatzB3
import Derived.Test.YtmpondcccbmlhaaGreatzB4
import Derived.Test.YtmpondcccbmlhaaGreatzB5
import Derived.Test.YtmpondcccbmlhaaGreatzB6
import Derived.Test.YtmpondcccbmlhaaGreatzB7
import Derived.Test.YtmpondcccbmlhaaGreatzB8
import Derived.Test.YtmpondcccbmlhaaGreatzB9
import Derived.Test.YtmpondcccbmlhaaGreatzB10
import Derived.Test.YtmpondcccbmlhaaGreatzB11
import Derived.Test.YtmpondcccbmlhaaGreatzB12
import Derived.Test.YtmpondcccbmlhaaGreatzB13
import Derived.Test.YtmpondcccbmlhaaGreatzB14
import Derived.Test.YtmpondcccbmlhaaGreatzB15
import Derived.Test.YtmpondcccbmlhaaGreatzB16
import Derived.Test.YtmpondcccbmlhaaGreatzB17
import Derived.Test.YtmpondcccbmlhaaGreatzB18
import Derived.Test.YtmpondcccbmlhaaGreatzB19
import Derived.Test.YtmpondcccbmlhaaGreatzB20
import Derived.Test.YtmpondcccbmlhaaGreatzB21
import Derived.Test.YtmpondcccbmlhaaGreatzB22
import Derived.Test.YtmpondcccbmlhaaGreatzB23
import Derived.Test.YtmpondcccbmlhaaGreatzB24
import Derived.Test.YtmpondcccbmlhaaGreatzB25
import Derived.Test.YtmpondcccbmlhaaGreatzB26
import Derived.Test.YtmpondcccbmlhaaGreatzB27
import Derived.Test.YtmpondcccbmlhaaGreatzB28
import Derived.Test.YtmpondcccbmlhaaGreatzB29
import Derived.Test.YtmpondcccbmlhaaGreatzB30
import Derived.Test.YtmpondcccbmlhaaGreatzB31
import Derived.Test.YtmpondcccbmlhaaGreatzB32
import Derived.Test.YtmpondcccbmlhaaGreatzB33
import Derived.Test.YtmpondcccbmlhaaGreatzB34
import Derived.Test.YtmpondcccbmlhaaGreatzB35
import Derived.Test.YtmpondcccbmlhaaGreatzB36
import Derived.Test.YtmpondcccbmlhaaGreatzB37
import Derived.Test.YtmpondcccbmlhaaGreatzB38
import Derived.Test.YtmpondcccbmlhaaGreatzB39
import Derived.Test.YtmpondcccbmlhaaGreatzB40
import Derived.Test.YtmpondcccbmlhaaGreatzB41
import Derived.Test.YtmpondcccbmlhaaGreatzB42
import Derived.Test.YtmpondcccbmlhaaGreatzB43
import Derived.Test.YtmpondcccbmlhaaGreatzB44
import Derived.Test.YtmpondcccbmlhaaGreatzB45
namespace Go.Proofs.YtmpondcccbmlhaaGreat.governorBoxes
open Go.ChangeShapes Go.WideShapes Go.ChangeAt Go.RowKit
set_option linter.unusedVariables false
theorem own : ownKnob Tryz.prog.godebug = none := by kernel_rfl
theorem laidOut : laidOutB Tryz.prog = true := by kernel_rfl
set_option maxRecDepth 100000 in
theorem lifted (os : Os) (started : os.Started) (H : Type) (enc : TypeId × Value → H) :
    ReturnsInHanded {} Tryz.checked os 4 .any (Rows.governorBoxesSpec.pre6 enc Tryz.prog Tryz.f4 Rows.governorBoxesRow.domain false) (Rows.governorBoxesSpec.post enc Tryz.prog Tryz.f4 false true false false) := by
  refine returnsInHanded_of_change_sized (C := Tryz.checked) own started (by kernel_rfl) Tryz.func4
    (ChangeSpec.witness6 (enc := enc) (C := Tryz.checked) false ⟨#[], #[.agg #[.slice none 0 0]], []⟩ 8 (by kernel_rfl) (by kernel_rfl) (by kernel_rfl) (by kernel_rfl)) ?_
  intro W base args ds gs before hval0 hW hcnd hsz0 _
  have hval : ∀ (j : Nat) t v, Tryz.f4.params[j]? = some t → args[j]? = some v → Value.okWide Tryz.prog W .any base t v := hval0
  have hW' := hW
  obtain ⟨p, q, hA0, hV, rfl, hfz, hnd⟩ := hW
  have hA : DataW.TrodAll enc Tryz.prog W 0 (fun _ => true) true Tryz.f4.params.toList args.toList ds p := hA0
  rw [Tryz.params4] at hA hval
  obtain ⟨v0, vs0, d0, ds0, p0, q0, hargs, rfl, rfl, h0, r0⟩ := trodAll_cons hA
  obtain ⟨rfl, rfl, rfl⟩ := trodAll_nil r0
  obtain rfl : args = #[v0] := by cases args; simp_all
  obtain ⟨rfl, rfl⟩ := trodVars_none hV
  obtain ⟨cs0, rfl, hcs0⟩ := okWide_struct Tryz.underlying42 (hval 0 42 v0 rfl rfl)
  have k0 := h0
  have lt0 : ∀ x ∈ p0, x.block < W.heap.size := by obtain ⟨m, hm⟩ := k0; exact DataW.trod_lt m _ _ _ hm
  obtain ⟨x0, hK0, hG0⟩ := Ext.opens_at Ext.opens_box h0
  obtain ⟨A0, c0, hc0, hl0, hC0⟩ := hK0
  obtain rfl : cs0 = #[.slice A0 x0.length c0] := Array.ext' hc0
  clear hA0 hval0 hsz0
  refine (Q.guidevanelaw06_GovernorBoxes.calls 80000 A0 c0 x0 true W hC0 hl0 (Ext.pure_boxes x0 _ (by omega))).mono fun e W' ⟨he, bel⟩ => ?_
  subst he
  exact ⟨_, rfl, _, _, _, [], _, [], hW', trodAll_mk1 (shut_bool Tryz.underlying4 _), (trodAll_cons_mk (Below.trod laidOut (by kernel_rfl) (of_decide_eq_true (by kernel_rfl)) k0 bel lt0) trodAll_mk0), rfl, bel.frame _, fun h => by cases h⟩
theorem closedA : ((Rows.governorBoxesRow.wf (OpenSpec.ofChange Rows.governorBoxesSpec)) && (laidOutB Tryz.pinned.checked.prog) && (mapsRowed Tryz.pinned.checked.prog) && (Tryz.f4.params.all (Tryz.pinned.checked.prog.readableRec ·)) && (namedTie Tryz.pinned.checked.prog Rows.governorBoxesRow.named Rows.governorBoxesSpec.vars) && (Rows.governorBoxesRow.stops == []) && (Tryz.pinned.checked.prog.stops == []) && (Rows.governorBoxesRow.knobs == []) && (Tryz.pinned.checked.prog.stopKnobs == []) && (Rows.governorBoxesRow.inPlace == Tryz.pinned.checked.prog.inPlace 4) && (Rows.governorBoxesRow.unfollowed == Tryz.pinned.checked.prog.unfollowed 4) && (Rows.governorBoxesRow.recurses == Tryz.pinned.checked.prog.recurses 4) && (Rows.governorBoxesRow.named == Tryz.pinned.checked.prog.varsNamed 4) && (Rows.governorBoxesRow.maps == (Tryz.f4.params.toList ++ Rows.governorBoxesSpec.plain.varTypes Tryz.pinned.checked.prog).any (Tryz.pinned.checked.prog.mapsRec ·)) && (Rows.governorBoxesRow.ifaces == (Tryz.f4.params.toList ++ Rows.governorBoxesSpec.plain.varTypes Tryz.pinned.checked.prog).any (Tryz.pinned.checked.prog.ifacesRec ·)) && (Rows.governorBoxesRow.mapsOut == Tryz.pinned.checked.prog.mapsAmong Tryz.f4.resultTypes.toList) && (Rows.governorBoxesRow.loops == (Tryz.f4.params.toList ++ Rows.governorBoxesSpec.plain.varTypes Tryz.pinned.checked.prog).any (Tryz.pinned.checked.prog.loopsFrom ·)) && (Rows.governorBoxesRow.wideKeys == (Tryz.f4.params.toList ++ Rows.governorBoxesSpec.plain.varTypes Tryz.pinned.checked.prog ++ Tryz.f4.resultTypes.toList).any (Tryz.pinned.checked.prog.wideKeysFrom ·)) && (Rows.governorBoxesSpec.vars.all (Tryz.pinned.checked.prog.varReadable ·)) && (Tryz.f4.resultTypes.all (fun t => Tryz.pinned.checked.prog.readableRec t && decide (t < Tryz.pinned.checked.prog.types.size))) && (Rows.governorBoxesRow.ifacesOut == Tryz.f4.resultTypes.toList.any (Tryz.pinned.checked.prog.ifacesRec ·)) && (Rows.governorBoxesRow.loopsOut == Tryz.f4.resultTypes.toList.any (Tryz.pinned.checked.prog.loopsFrom ·)) && (Rows.governorBoxesRow.plainKeys == Tryz.pinned.checked.prog.plainKeys) && (Rows.governorBoxesRow.shortTexts.isNone)) = true := by kernel_rfl
theorem closedB : ((Tryz.pinned.checked.prog.stopsHeard) && (Tryz.pinned.checked.prog.mayEnter) && (Rows.governorBoxesRow.lifted == Tryz.pinned.checked.prog.liftsFinal) && (Tryz.pinned.checked.prog.make == some Rows.governorBoxesRow.make) && (Rows.governorBoxesRow.kinds == (if Rows.governorBoxesRow.domain.isEmpty then [] else Tryz.f4.params.toList.map fun t => match Tryz.pinned.checked.prog.underlying t with | some (.int k) => some k | _ => none)) && (Rows.governorBoxesRow.pinned == Rows.governorBoxesRow.pinnedBy) && (Rows.governorBoxesRow.veiled == (Tryz.f4.params.toList ++ Rows.governorBoxesSpec.plain.varTypes Tryz.pinned.checked.prog ++ Tryz.f4.resultTypes.toList).any (Tryz.pinned.checked.prog.veiledRec ·)) && (Rows.governorBoxesRow.veiledFits Tryz.pinned.checked.prog Tryz.f4.params.toList (Tryz.f4.params.toList ++ Rows.governorBoxesSpec.plain.varTypes Tryz.pinned.checked.prog ++ Tryz.f4.resultTypes.toList))) = true := by kernel_rfl
set_option maxRecDepth 100000 in
theorem closed_ : joinedFacts Tryz.pinned.checked.prog 4 Tryz.f4 Rows.governorBoxesSpec Rows.governorBoxesRow = true := by
  have b := closedB
  simp only [Bool.and_eq_true] at b
  obtain ⟨⟨⟨⟨⟨⟨⟨b24, b25⟩, b26⟩, b27⟩, b28⟩, b29⟩, b30⟩, b31⟩ := b
  unfold joinedFacts
  exact Bool.and_eq_true_iff.mpr ⟨Bool.and_eq_true_iff.mpr ⟨Bool.and_eq_true_iff.mpr ⟨Bool.and_eq_true_iff.mpr ⟨Bool.and_eq_true_iff.mpr ⟨Bool.and_eq_true_iff.mpr ⟨Bool.and_eq_true_iff.mpr ⟨Bool.and_eq_true_iff.mpr ⟨closedA, b24⟩, b25⟩, b26⟩, b27⟩, b28⟩, b29⟩, b30⟩, b31⟩
theorem over : Rows.governorBoxesRow.holds Tryz.pinned (OpenSpec.ofChange Rows.governorBoxesSpec) :=
  OpenClaim.holds_of_wide 4 Tryz.f4 rfl rfl rfl rfl rfl rfl rfl ⟨rfl, rfl, rfl, rfl, rfl⟩ rfl rfl rfl rfl rfl (by kernel_rfl) Tryz.func4 closed_
    (of_decide_eq_true (by kernel_rfl)) (by unfold Func.isWrapper; first | (rw [if_pos (by decide +kernel)]; kernel_rfl) | (rw [if_neg (by decide +kernel)]; exact ⟨rfl, rfl⟩))
    (fun os started H enc _ => lifted os started H enc)
theorem proved : Rows.GovernorBoxesSaid := over
end Go.Proofs.YtmpondcccbmlhaaGreat.governorBoxes
namespace Go.Proofs.YtmpondcccbmlhaaGreat
theorem governorBoxes_holds : Rows.GovernorBoxesSaid := governorBoxes.proved
end Go.Proofs.YtmpondcccbmlhaaGreat
