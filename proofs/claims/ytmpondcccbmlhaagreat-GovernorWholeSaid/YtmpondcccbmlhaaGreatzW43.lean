/- PROVED HERE: the law GovernorWhole returns true for every box and every list of places, never panics, and leaves what it was given as it was. Conditions: none besides those of the given statement. -/
import Derived.ArgAppend
import Derived.Below
import Derived.BigQuiet
import Derived.ChangeArms
import Derived.ChangeOld
import Derived.ChangeSlices
import Derived.DataElems
import Derived.Deep.AppendLies
import Derived.Deep.CutBlock
import Derived.Deep.DeepCutAuto
import Derived.Deep.Draws
import Derived.Deep.LoopGhost
import Derived.Deep.OwnRows
import Derived.Deep.QuietTactic
import Derived.Deep.RegionHeld3
import Derived.Deep.RegionWith
import Derived.Deep.WholeRow
import Derived.Ground.SlsfProg
import Derived.KernelRfl
import Derived.Laws.BitsLemmas
import Derived.Laws.BytesArg
import Derived.Laws.ComplexArith
import Derived.Laws.IdiomCopy
import Derived.Laws.MakeOwn
import Derived.Laws.OwnMore
import Derived.Laws.Rows
import Derived.Laws.Slices
import Derived.Laws.StructEq
import Derived.Lib.AppendStr
import Derived.Lib.ConvBytes
import Derived.Lib.Hide
import Derived.Lib.LazyBuf
import Derived.LoopIn
import Derived.LoopNIn
import Derived.Maps.AppendAt
import Derived.OpenShut
import Derived.OrdersHeld
import Derived.Outline
import Derived.OwnWalk
import Derived.OwnWalkIn
import Derived.ProofKit
import Derived.RangeFuncBound
import Derived.RangeFuncCalls
import Derived.RangeFuncLeaves
import Derived.RangeFuncNested
import Derived.RowKit
import Derived.RowKit3
import Derived.Shelf.Abstract
import Derived.Shelf.RegionOpen
import Derived.Shelf.SlSortCmp.HeapSort1
import Derived.Shelf.SlSortCmp.Insertion
import Derived.Shelf.SlSortCmp.Insertion1
import Derived.Shelf.SlSortCmp.Median1
import Derived.Shelf.SlSortCmp.PartialInsertion1
import Derived.Shelf.SlSortCmp.Partition1
import Derived.Shelf.SlSortCmp.PartitionEqual1
import Derived.Shelf.SlSortCmp.Pdq1
import Derived.Shelf.SlSortCmp.Pivot1
import Derived.Shelf.SlSortCmp.ReverseRange1
import Derived.Shelf.SlSortCmp.SiftDown1
import Derived.Shelf.SlSortCmp.Whole1
import Derived.Shelf.Slices.Empties2
import Derived.Shelf.Slices.Equal
import Derived.Shelf.Slices.In.SortNone
import Derived.Shelf.Small.Bits
import Derived.Shelf.Sort.Plain
import Derived.Shelf.Strconv.Itoa0
import Derived.ShutString
import Derived.SizedLaws
import Derived.Sort.CutIn
import Derived.Tactics
import Derived.TacticsInMore
import Derived.WalkKit
import Derived.WalkLawsBesides
import Derived.WideLaws
import Derived.Test.YtmpondcccbmlhaaGreatProg
import Derived.Test.YtmpondcccbmlhaaGreatRows
import Derived.Test.YtmpondcccbmlhaaGreatzW0
import Derived.Test.YtmpondcccbmlhaaGreatzW1
import Derived.Test.YtmpondcccbmlhaaGreatzW2
import Derived.Test.YtmpondcccbmlhaaGreatzW3
import Derived.Test.YtmpondcccbmlhaaGreatzW4
import Derived.Test.YtmpondcccbmlhaaGreatzW5
import Derived.Test.YtmpondcccbmlhaaGreatzW6
import Derived.Test.YtmpondcccbmlhaaGreatzW7
import Derived.Test.YtmpondcccbmlhaaGreatzW8
import Derived.Test.YtmpondcccbmlhaaGreatzW9
import Derived.Test.YtmpondcccbmlhaaGreatzW10
import Derived.Test.YtmpondcccbmlhaaGreatzW11
import Derived.Test.YtmpondcccbmlhaaGreatzW12
import Derived.Test.YtmpondcccbmlhaaGreatzW13
import Derived.Test.YtmpondcccbmlhaaGreatzW14
import Derived.Test.YtmpondcccbmlhaaGreatzW15
import Derived.Test.YtmpondcccbmlhaaGreatzW16
import Derived.Test.YtmpondcccbmlhaaGreatzW17
import Derived.Test.YtmpondcccbmlhaaGreatzW18
import Derived.Test.YtmpondcccbmlhaaGreatzW19
import Derived.Test.YtmpondcccbmlhaaGreatzW20
import Derived.Test.YtmpondcccbmlhaaGreatzW21
import Derived.Test.YtmpondcccbmlhaaGreatzW22
import Derived.Test.YtmpondcccbmlhaaGreatzW23
import Derived.Test.YtmpondcccbmlhaaGreatzW24
import Derived.Test.YtmpondcccbmlhaaGreatzW25
import Derived.Test.YtmpondcccbmlhaaGreatzW26
import Derived.Test.YtmpondcccbmlhaaGreatzW27
import Derived.Test.YtmpondcccbmlhaaGreatzW28
import Derived.Test.YtmpondcccbmlhaaGreatzW29
import Derived.Test.YtmpondcccbmlhaaGreatzW30
import Derived.Test.YtmpondcccbmlhaaGreatzW31
import Derived.Test.YtmpondcccbmlhaaGreatzW32
import Derived.Test.YtmpondcccbmlhaaGreatzW33
import Derived.Test.YtmpondcccbmlhaaGreatzW34
import Derived.Test.YtmpondcccbmlhaaGreatzW35
import Derived.Test.YtmpondcccbmlhaaGreatzW36
import Derived.Test.YtmpondcccbmlhaaGreatzW37
import Derived.Test.YtmpondcccbmlhaaGreatzW38
import Derived.Test.YtmpondcccbmlhaaGreatzW39
import Derived.Test.YtmpondcccbmlhaaGreatzW40
import Derived.Test.YtmpondcccbmlhaaGreatzW41
import Derived.Test.YtmpondcccbmlhaaGreatzW42
namespace Go.Proofs.YtmpondcccbmlhaaGreat.governorWhole
open Go.ChangeShapes Go.WideShapes Go.ChangeAt Go.RowKit
set_option linter.unusedVariables false
theorem own : ownKnob Tryz.prog.godebug = none := by kernel_rfl
theorem laidOut : laidOutB Tryz.prog = true := by kernel_rfl
set_option maxRecDepth 100000 in
theorem lifted (os : Os) (started : os.Started) (H : Type) (enc : TypeId × Value → H) :
    ReturnsInHanded {} Tryz.checked os 5 .any (Rows.governorWholeSpec.pre6 enc Tryz.prog Tryz.f5 Rows.governorWholeRow.domain false) (Rows.governorWholeSpec.post enc Tryz.prog Tryz.f5 false true false false) := by
  refine returnsInHanded_of_change_sized (C := Tryz.checked) own started (by kernel_rfl) Tryz.func5
    (ChangeSpec.witness6 (enc := enc) (C := Tryz.checked) false ⟨#[], #[.agg #[.slice none 0 0], .slice none 0 0], []⟩ 8 (by kernel_rfl) (by kernel_rfl) (by kernel_rfl) (by kernel_rfl)) ?_
  intro W base args ds gs before hval0 hW hcnd hsz0 _
  have hval : ∀ (j : Nat) t v, Tryz.f5.params[j]? = some t → args[j]? = some v → Value.okWide Tryz.prog W .any base t v := hval0
  have hW' := hW
  obtain ⟨p, q, hA0, hV, rfl, hfz, hnd⟩ := hW
  have hA : DataW.TrodAll enc Tryz.prog W 0 (fun _ => true) true Tryz.f5.params.toList args.toList ds p := hA0
  rw [Tryz.params5] at hA hval
  obtain ⟨v0, vs0, d0, ds0, p0, q0, hargs, rfl, rfl, h0, r0⟩ := trodAll_cons hA
  obtain ⟨v1, vs1, d1, ds1, p1, q1, rfl, rfl, rfl, h1, r1⟩ := trodAll_cons r0
  obtain ⟨rfl, rfl, rfl⟩ := trodAll_nil r1
  obtain rfl : args = #[v0, v1] := by cases args; simp_all
  obtain ⟨rfl, rfl⟩ := trodVars_none hV
  obtain ⟨cs0, rfl, hcs0⟩ := okWide_struct Tryz.underlying42 (hval 0 42 v0 rfl rfl)
  have k0 := h0
  have lt0 : ∀ x ∈ p0, x.block < W.heap.size := by obtain ⟨m, hm⟩ := k0; exact DataW.trod_lt m _ _ _ hm
  obtain ⟨x0, hK0, hG0⟩ := Ext.opens_at Ext.opens_box h0
  obtain ⟨A0, c0, hc0, hl0, hC0⟩ := hK0
  obtain rfl : cs0 = #[.slice A0 x0.length c0] := Array.ext' hc0
  obtain ⟨A1, len1, cap1, rfl⟩ := okWide_slice Tryz.underlying22 (hval 1 22 v1 rfl rfl)
  have k1 := h1
  have lt1 : ∀ x ∈ p1, x.block < W.heap.size := by obtain ⟨m, hm⟩ := k1; exact DataW.trod_lt m _ _ _ hm
  obtain ⟨l1, rfl, hl1, hC1, hG1⟩ := Ext.opens_sl Ext.opens_nums h1
  clear hA0 hval0 hsz0
  refine (Q.guidevanelaw06_GovernorWhole.calls 70000000000000000 A0 c0 x0 A1 cap1 l1 true W hC0 hl0 hC1 hl1 (Ext.pure_whole x0 l1 _ (by omega))).mono fun e W' ⟨he, bel⟩ => ?_
  subst he
  exact ⟨_, rfl, _, _, _, [], _, [], hW', trodAll_mk1 (shut_bool Tryz.underlying4 _), (trodAll_cons_mk (Below.trod laidOut (by kernel_rfl) (of_decide_eq_true (by kernel_rfl)) k0 bel lt0) (trodAll_cons_mk (Below.trod laidOut (by kernel_rfl) (of_decide_eq_true (by kernel_rfl)) k1 bel lt1) trodAll_mk0)), rfl, bel.frame _, fun h => by cases h⟩
theorem closedA : ((Rows.governorWholeRow.wf (OpenSpec.ofChange Rows.governorWholeSpec)) && (laidOutB Tryz.pinned.checked.prog) && (mapsRowed Tryz.pinned.checked.prog) && (Tryz.f5.params.all (Tryz.pinned.checked.prog.readableRec ·)) && (namedTie Tryz.pinned.checked.prog Rows.governorWholeRow.named Rows.governorWholeSpec.vars) && (Rows.governorWholeRow.stops == []) && (Tryz.pinned.checked.prog.stops == []) && (Rows.governorWholeRow.knobs == []) && (Tryz.pinned.checked.prog.stopKnobs == []) && (Rows.governorWholeRow.inPlace == Tryz.pinned.checked.prog.inPlace 5) && (Rows.governorWholeRow.unfollowed == Tryz.pinned.checked.prog.unfollowed 5) && (Rows.governorWholeRow.recurses == Tryz.pinned.checked.prog.recurses 5) && (Rows.governorWholeRow.named == Tryz.pinned.checked.prog.varsNamed 5) && (Rows.governorWholeRow.maps == (Tryz.f5.params.toList ++ Rows.governorWholeSpec.plain.varTypes Tryz.pinned.checked.prog).any (Tryz.pinned.checked.prog.mapsRec ·)) && (Rows.governorWholeRow.ifaces == (Tryz.f5.params.toList ++ Rows.governorWholeSpec.plain.varTypes Tryz.pinned.checked.prog).any (Tryz.pinned.checked.prog.ifacesRec ·)) && (Rows.governorWholeRow.mapsOut == Tryz.pinned.checked.prog.mapsAmong Tryz.f5.resultTypes.toList) && (Rows.governorWholeRow.loops == (Tryz.f5.params.toList ++ Rows.governorWholeSpec.plain.varTypes Tryz.pinned.checked.prog).any (Tryz.pinned.checked.prog.loopsFrom ·)) && (Rows.governorWholeRow.wideKeys == (Tryz.f5.params.toList ++ Rows.governorWholeSpec.plain.varTypes Tryz.pinned.checked.prog ++ Tryz.f5.resultTypes.toList).any (Tryz.pinned.checked.prog.wideKeysFrom ·)) && (Rows.governorWholeSpec.vars.all (Tryz.pinned.checked.prog.varReadable ·)) && (Tryz.f5.resultTypes.all (fun t => Tryz.pinned.checked.prog.readableRec t && decide (t < Tryz.pinned.checked.prog.types.size))) && (Rows.governorWholeRow.ifacesOut == Tryz.f5.resultTypes.toList.any (Tryz.pinned.checked.prog.ifacesRec ·)) && (Rows.governorWholeRow.loopsOut == Tryz.f5.resultTypes.toList.any (Tryz.pinned.checked.prog.loopsFrom ·)) && (Rows.governorWholeRow.plainKeys == Tryz.pinned.checked.prog.plainKeys) && (Rows.governorWholeRow.shortTexts.isNone)) = true := by kernel_rfl
theorem closedB : ((Tryz.pinned.checked.prog.stopsHeard) && (Tryz.pinned.checked.prog.mayEnter) && (Rows.governorWholeRow.lifted == Tryz.pinned.checked.prog.liftsFinal) && (Tryz.pinned.checked.prog.make == some Rows.governorWholeRow.make) && (Rows.governorWholeRow.kinds == (if Rows.governorWholeRow.domain.isEmpty then [] else Tryz.f5.params.toList.map fun t => match Tryz.pinned.checked.prog.underlying t with | some (.int k) => some k | _ => none)) && (Rows.governorWholeRow.pinned == Rows.governorWholeRow.pinnedBy) && (Rows.governorWholeRow.veiled == (Tryz.f5.params.toList ++ Rows.governorWholeSpec.plain.varTypes Tryz.pinned.checked.prog ++ Tryz.f5.resultTypes.toList).any (Tryz.pinned.checked.prog.veiledRec ·)) && (Rows.governorWholeRow.veiledFits Tryz.pinned.checked.prog Tryz.f5.params.toList (Tryz.f5.params.toList ++ Rows.governorWholeSpec.plain.varTypes Tryz.pinned.checked.prog ++ Tryz.f5.resultTypes.toList))) = true := by kernel_rfl
set_option maxRecDepth 100000 in
theorem closed_ : joinedFacts Tryz.pinned.checked.prog 5 Tryz.f5 Rows.governorWholeSpec Rows.governorWholeRow = true := by
  have b := closedB
  simp only [Bool.and_eq_true] at b
  obtain ⟨⟨⟨⟨⟨⟨⟨b24, b25⟩, b26⟩, b27⟩, b28⟩, b29⟩, b30⟩, b31⟩ := b
  unfold joinedFacts
  exact Bool.and_eq_true_iff.mpr ⟨Bool.and_eq_true_iff.mpr ⟨Bool.and_eq_true_iff.mpr ⟨Bool.and_eq_true_iff.mpr ⟨Bool.and_eq_true_iff.mpr ⟨Bool.and_eq_true_iff.mpr ⟨Bool.and_eq_true_iff.mpr ⟨Bool.and_eq_true_iff.mpr ⟨closedA, b24⟩, b25⟩, b26⟩, b27⟩, b28⟩, b29⟩, b30⟩, b31⟩
theorem over : Rows.governorWholeRow.holds Tryz.pinned (OpenSpec.ofChange Rows.governorWholeSpec) :=
  OpenClaim.holds_of_wide 5 Tryz.f5 rfl rfl rfl rfl rfl rfl rfl ⟨rfl, rfl, rfl, rfl, rfl⟩ rfl rfl rfl rfl rfl (by kernel_rfl) Tryz.func5 closed_
    (of_decide_eq_true (by kernel_rfl)) (by unfold Func.isWrapper; first | (rw [if_pos (by decide +kernel)]; kernel_rfl) | (rw [if_neg (by decide +kernel)]; exact ⟨rfl, rfl⟩))
    (fun os started H enc _ => lifted os started H enc)
theorem proved : Rows.GovernorWholeSaid := over
end Go.Proofs.YtmpondcccbmlhaaGreat.governorWhole
namespace Go.Proofs.YtmpondcccbmlhaaGreat
theorem governorWhole_holds : Rows.GovernorWholeSaid := governorWhole.proved
end Go.Proofs.YtmpondcccbmlhaaGreat
