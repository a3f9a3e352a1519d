/- PROVED HERE: GovernorLoops: which loops are valid, with an index, the sum for a set, and the minimum set whose sum is not stable, are as the reference says, or the errors; that set is not stable, and without any one of its machines it is (at most 8 machines of at most 7 numbers, sets of at most 8). -/
import Derived.ArgAppend
import Derived.Below
import Derived.BigQuiet
import Derived.ChangeArms
import Derived.ChangeOld
import Derived.ChangeSlices
import Derived.DataElems
import Derived.Deep.AppendLies
import Derived.Deep.CutBlock
import Derived.Deep.DeepCutAuto
import Derived.Deep.Draws
import Derived.Deep.LoopGhost
import Derived.Deep.OwnRows
import Derived.Deep.QuietTactic
import Derived.Deep.RegionHeld3
import Derived.Deep.RegionWith
import Derived.Deep.WholeRow
import Derived.Ground.SlsfProg
import Derived.KernelRfl
import Derived.Laws.BitsLemmas
import Derived.Laws.BytesArg
import Derived.Laws.ComplexArith
import Derived.Laws.IdiomCopy
import Derived.Laws.MakeOwn
import Derived.Laws.OwnMore
import Derived.Laws.Rows
import Derived.Laws.Slices
import Derived.Laws.StructEq
import Derived.Lib.AppendStr
import Derived.Lib.ConvBytes
import Derived.Lib.Hide
import Derived.Lib.LazyBuf
import Derived.LoopIn
import Derived.LoopNIn
import Derived.Maps.AppendAt
import Derived.OpenShut
import Derived.OrdersHeld
import Derived.Outline
import Derived.OwnWalk
import Derived.OwnWalkIn
import Derived.ProofKit
import Derived.RangeFuncBound
import Derived.RangeFuncCalls
import Derived.RangeFuncLeaves
import Derived.RangeFuncNested
import Derived.RowKit
import Derived.RowKit3
import Derived.Shelf.Abstract
import Derived.Shelf.RegionOpen
import Derived.Shelf.SlSortCmp.HeapSort1
import Derived.Shelf.SlSortCmp.Insertion
import Derived.Shelf.SlSortCmp.Insertion1
import Derived.Shelf.SlSortCmp.Median1
import Derived.Shelf.SlSortCmp.PartialInsertion1
import Derived.Shelf.SlSortCmp.Partition1
import Derived.Shelf.SlSortCmp.PartitionEqual1
import Derived.Shelf.SlSortCmp.Pdq1
import Derived.Shelf.SlSortCmp.Pivot1
import Derived.Shelf.SlSortCmp.ReverseRange1
import Derived.Shelf.SlSortCmp.SiftDown1
import Derived.Shelf.SlSortCmp.Whole1
import Derived.Shelf.Slices.Empties2
import Derived.Shelf.Slices.Equal
import Derived.Shelf.Slices.In.SortNone
import Derived.Shelf.Small.Bits
import Derived.Shelf.Sort.Plain
import Derived.Shelf.Strconv.Itoa0
import Derived.ShutString
import Derived.SizedLaws
import Derived.Sort.CutIn
import Derived.Tactics
import Derived.TacticsInMore
import Derived.WalkKit
import Derived.WalkLawsBesides
import Derived.WideLaws
import Derived.Test.YtmpondcccbmlhaaGreatProg
import Derived.Test.YtmpondcccbmlhaaGreatRows
import Derived.Test.YtmpondcccbmlhaaGreatzL0
import Derived.Test.YtmpondcccbmlhaaGreatzL1
import Derived.Test.YtmpondcccbmlhaaGreatzL2
import Derived.Test.YtmpondcccbmlhaaGreatzL3
import Derived.Test.YtmpondcccbmlhaaGreatzL4
import Derived.Test.YtmpondcccbmlhaaGreatzL5
import Derived.Test.YtmpondcccbmlhaaGreatzL6
import Derived.Test.YtmpondcccbmlhaaGreatzL7
import Derived.Test.YtmpondcccbmlhaaGreatzL8
import Derived.Test.YtmpondcccbmlhaaGreatzL9
import Derived.Test.YtmpondcccbmlhaaGreatzL10
import Derived.Test.YtmpondcccbmlhaaGreatzL11
import Derived.Test.YtmpondcccbmlhaaGreatzL12
import Derived.Test.YtmpondcccbmlhaaGreatzL13
import Derived.Test.YtmpondcccbmlhaaGreatzL14
import Derived.Test.YtmpondcccbmlhaaGreatzL15
import Derived.Test.YtmpondcccbmlhaaGreatzL16
import Derived.Test.YtmpondcccbmlhaaGreatzL17
import Derived.Test.YtmpondcccbmlhaaGreatzL18
import Derived.Test.YtmpondcccbmlhaaGreatzL19
import Derived.Test.YtmpondcccbmlhaaGreatzL20
import Derived.Test.YtmpondcccbmlhaaGreatzL21
import Derived.Test.YtmpondcccbmlhaaGreatzL22
import Derived.Test.YtmpondcccbmlhaaGreatzL23
import Derived.Test.YtmpondcccbmlhaaGreatzL24
import Derived.Test.YtmpondcccbmlhaaGreatzL25
import Derived.Test.YtmpondcccbmlhaaGreatzL26
import Derived.Test.YtmpondcccbmlhaaGreatzL27
import Derived.Test.YtmpondcccbmlhaaGreatzL28
import Derived.Test.YtmpondcccbmlhaaGreatzL29
import Derived.Test.YtmpondcccbmlhaaGreatzL30
import Derived.Test.YtmpondcccbmlhaaGreatzL31
import Derived.Test.YtmpondcccbmlhaaGreatzL32
import Derived.Test.YtmpondcccbmlhaaGreatzL33
import Derived.Test.YtmpondcccbmlhaaGreatzL34
import Derived.Test.YtmpondcccbmlhaaGreatzL35
import Derived.Test.YtmpondcccbmlhaaGreatzL36
import Derived.Test.YtmpondcccbmlhaaGreatzL37
import Derived.Test.YtmpondcccbmlhaaGreatzL38
import Derived.Test.YtmpondcccbmlhaaGreatzL39
import Derived.Test.YtmpondcccbmlhaaGreatzL40
import Derived.Test.YtmpondcccbmlhaaGreatzL41
import Derived.Test.YtmpondcccbmlhaaGreatzL42
import Derived.Test.YtmpondcccbmlhaaGreatzL43
import Derived.Test.YtmpondcccbmlhaaGreatzL44
import Derived.Test.YtmpondcccbmlhaaGreatzL45
import Derived.Test.YtmpondcccbmlhaaGreatzL46
import Derived.Test.YtmpondcccbmlhaaGreatzL47
import Derived.Test.YtmpondcccbmlhaaGreatzL48
import Derived.Test.YtmpondcccbmlhaaGreatzL49
import Derived.Test.YtmpondcccbmlhaaGreatzL50
namespace Go.Proofs.YtmpondcccbmlhaaGreat.governorLoops
open Go.ChangeShapes Go.WideShapes Go.ChangeAt Go.RowKit
set_option linter.unusedVariables false
theorem own : ownKnob Tryz.prog.godebug = none := by kernel_rfl
theorem laidOut : laidOutB Tryz.prog = true := by kernel_rfl
set_option maxRecDepth 100000 in
theorem lifted (os : Os) (started : os.Started) (H : Type) (enc : TypeId × Value → H) :
  ReturnsInHanded {} Tryz.checked os 6 .any (Rows.governorLoopsSpec.pre6 enc Tryz.prog Tryz.f6 Rows.governorLoopsRow.domain false) (Rows.governorLoopsSpec.post enc Tryz.prog Tryz.f6 false true false false) := by
 refine returnsInHanded_of_change_sized (C := Tryz.checked) own started (by kernel_rfl) Tryz.func6
  (ChangeSpec.witness6 (enc := enc) (C := Tryz.checked) false ⟨#[], #[.agg #[.slice none 0 0, .slice none 0 0], .slice none 0 0], []⟩ 8 (by kernel_rfl) (by kernel_rfl) (by kernel_rfl) (by kernel_rfl)) ?_
 intro W base args ds gs before hval0 hW hcnd hsz0 _
 have hval : ∀ (j : Nat) t v, Tryz.f6.params[j]? = some t → args[j]? = some v → Value.okWide Tryz.prog W .any base t v := hval0
 have hW' := hW
 obtain ⟨p, q, hA0, hV, rfl, hfz, hnd⟩ := hW
 have hA : DataW.TrodAll enc Tryz.prog W 0 (fun _ => true) true Tryz.f6.params.toList args.toList ds p := hA0
 rw [Tryz.params6] at hA hval
 obtain ⟨v0, vs0, d0, ds0, p0, q0, hargs, rfl, rfl, h0, r0⟩ := trodAll_cons hA
 obtain ⟨v1, vs1, d1, ds1, p1, q1, rfl, rfl, rfl, h1, r1⟩ := trodAll_cons r0
 obtain ⟨rfl, rfl, rfl⟩ := trodAll_nil r1
 obtain rfl : args = #[v0, v1] := by cases args; simp_all
 obtain ⟨rfl, rfl⟩ := trodVars_none hV
 obtain ⟨cs0, rfl, hcs0⟩ := okWide_struct Tryz.underlying63 (hval 0 63 v0 rfl rfl)
 have k0 := h0
 have lt0 : ∀ x ∈ p0, x.block < W.heap.size := by obtain ⟨m, hm⟩ := k0; exact DataW.trod_lt m _ _ _ hm
 obtain ⟨x0, hK0, hG0⟩ := Ext.opens_at Ext.opens_loop h0
 obtain ⟨q0, q1, hc0, ⟨A8, c8, rfl, hl8, hC8⟩, ⟨A9, c9, rfl, hl9, hC9⟩⟩ := hK0
 obtain rfl : cs0 = #[.slice A8 x0.1.length c8, .slice A9 x0.2.length c9] := Array.ext' hc0
 obtain ⟨A1, len1, cap1, rfl⟩ := okWide_slice Tryz.underlying22 (hval 1 22 v1 rfl rfl)
 have k1 := h1
 have lt1 : ∀ x ∈ p1, x.block < W.heap.size := by obtain ⟨m, hm⟩ := k1; exact DataW.trod_lt m _ _ _ hm
 obtain ⟨l1, rfl, hl1, hC1, hG1⟩ := Ext.opens_sl Ext.opens_nums h1
 clear hA0 hval0 hsz0
 refine (Q.gl6_GovernorLoops.calls 70000000000000000 A8 c8 x0.1 A9 c9 x0.2 A1 cap1 l1 true W hC8 hl8 hC9 hl9 hC1 hl1 (Ext.pure_loops _ _ _ _ (by omega))).mono fun e W' ⟨he, bel⟩ => ?_
 subst he
 exact ⟨_, rfl, _, _, _, [], _, [], hW', trodAll_mk1 (shut_bool Tryz.underlying4 _), (trodAll_cons_mk (Below.trod laidOut (by kernel_rfl) (of_decide_eq_true (by kernel_rfl)) k0 bel lt0) (trodAll_cons_mk (Below.trod laidOut (by kernel_rfl) (of_decide_eq_true (by kernel_rfl)) k1 bel lt1) trodAll_mk0)), rfl, bel.frame _, fun h => by cases h⟩
theorem closedA : ((Rows.governorLoopsRow.wf (OpenSpec.ofChange Rows.governorLoopsSpec)) && (laidOutB Tryz.pinned.checked.prog) && (mapsRowed Tryz.pinned.checked.prog) && (Tryz.f6.params.all (Tryz.pinned.checked.prog.readableRec ·)) && (namedTie Tryz.pinned.checked.prog Rows.governorLoopsRow.named Rows.governorLoopsSpec.vars) && (Rows.governorLoopsRow.stops == []) && (Tryz.pinned.checked.prog.stops == []) && (Rows.governorLoopsRow.knobs == []) && (Tryz.pinned.checked.prog.stopKnobs == []) && (Rows.governorLoopsRow.inPlace == Tryz.pinned.checked.prog.inPlace 6) && (Rows.governorLoopsRow.unfollowed == Tryz.pinned.checked.prog.unfollowed 6) && (Rows.governorLoopsRow.recurses == Tryz.pinned.checked.prog.recurses 6) && (Rows.governorLoopsRow.named == Tryz.pinned.checked.prog.varsNamed 6) && (Rows.governorLoopsRow.maps == (Tryz.f6.params.toList ++ Rows.governorLoopsSpec.plain.varTypes Tryz.pinned.checked.prog).any (Tryz.pinned.checked.prog.mapsRec ·)) && (Rows.governorLoopsRow.ifaces == (Tryz.f6.params.toList ++ Rows.governorLoopsSpec.plain.varTypes Tryz.pinned.checked.prog).any (Tryz.pinned.checked.prog.ifacesRec ·)) && (Rows.governorLoopsRow.mapsOut == Tryz.pinned.checked.prog.mapsAmong Tryz.f6.resultTypes.toList) && (Rows.governorLoopsRow.loops == (Tryz.f6.params.toList ++ Rows.governorLoopsSpec.plain.varTypes Tryz.pinned.checked.prog).any (Tryz.pinned.checked.prog.loopsFrom ·)) && (Rows.governorLoopsRow.wideKeys == (Tryz.f6.params.toList ++ Rows.governorLoopsSpec.plain.varTypes Tryz.pinned.checked.prog ++ Tryz.f6.resultTypes.toList).any (Tryz.pinned.checked.prog.wideKeysFrom ·)) && (Rows.governorLoopsSpec.vars.all (Tryz.pinned.checked.prog.varReadable ·)) && (Tryz.f6.resultTypes.all (fun t => Tryz.pinned.checked.prog.readableRec t && decide (t < Tryz.pinned.checked.prog.types.size))) && (Rows.governorLoopsRow.ifacesOut == Tryz.f6.resultTypes.toList.any (Tryz.pinned.checked.prog.ifacesRec ·)) && (Rows.governorLoopsRow.loopsOut == Tryz.f6.resultTypes.toList.any (Tryz.pinned.checked.prog.loopsFrom ·)) && (Rows.governorLoopsRow.plainKeys == Tryz.pinned.checked.prog.plainKeys) && (Rows.governorLoopsRow.shortTexts.isNone)) = true := by kernel_rfl
theorem closedB : ((Tryz.pinned.checked.prog.stopsHeard) && (Tryz.pinned.checked.prog.mayEnter) && (Rows.governorLoopsRow.lifted == Tryz.pinned.checked.prog.liftsFinal) && (Tryz.pinned.checked.prog.make == some Rows.governorLoopsRow.make) && (Rows.governorLoopsRow.kinds == (if Rows.governorLoopsRow.domain.isEmpty then [] else Tryz.f6.params.toList.map fun t => match Tryz.pinned.checked.prog.underlying t with | some (.int k) => some k | _ => none)) && (Rows.governorLoopsRow.pinned == Rows.governorLoopsRow.pinnedBy) && (Rows.governorLoopsRow.veiled == (Tryz.f6.params.toList ++ Rows.governorLoopsSpec.plain.varTypes Tryz.pinned.checked.prog ++ Tryz.f6.resultTypes.toList).any (Tryz.pinned.checked.prog.veiledRec ·)) && (Rows.governorLoopsRow.veiledFits Tryz.pinned.checked.prog Tryz.f6.params.toList (Tryz.f6.params.toList ++ Rows.governorLoopsSpec.plain.varTypes Tryz.pinned.checked.prog ++ Tryz.f6.resultTypes.toList))) = true := by kernel_rfl
set_option maxRecDepth 100000 in
theorem closed_ : joinedFacts Tryz.pinned.checked.prog 6 Tryz.f6 Rows.governorLoopsSpec Rows.governorLoopsRow = true := by
 have b := closedB
 simp only [Bool.and_eq_true] at b
 obtain ⟨⟨⟨⟨⟨⟨⟨b24, b25⟩, b26⟩, b27⟩, b28⟩, b29⟩, b30⟩, b31⟩ := b
 unfold joinedFacts
 exact Bool.and_eq_true_iff.mpr ⟨Bool.and_eq_true_iff.mpr ⟨Bool.and_eq_true_iff.mpr ⟨Bool.and_eq_true_iff.mpr ⟨Bool.and_eq_true_iff.mpr ⟨Bool.and_eq_true_iff.mpr ⟨Bool.and_eq_true_iff.mpr ⟨Bool.and_eq_true_iff.mpr ⟨closedA, b24⟩, b25⟩, b26⟩, b27⟩, b28⟩, b29⟩, b30⟩, b31⟩
theorem over : Rows.governorLoopsRow.holds Tryz.pinned (OpenSpec.ofChange Rows.governorLoopsSpec) :=
 OpenClaim.holds_of_wide 6 Tryz.f6 rfl rfl rfl rfl rfl rfl rfl ⟨rfl, rfl, rfl, rfl, rfl⟩ rfl rfl rfl rfl rfl (by kernel_rfl) Tryz.func6 closed_
  (of_decide_eq_true (by kernel_rfl)) (by unfold Func.isWrapper; first | (rw [if_pos (by decide +kernel)]; kernel_rfl) | (rw [if_neg (by decide +kernel)]; exact ⟨rfl, rfl⟩))
  (fun os started H enc _ => lifted os started H enc)
theorem proved : Rows.GovernorLoopsSaid := over
end Go.Proofs.YtmpondcccbmlhaaGreat.governorLoops
namespace Go.Proofs.YtmpondcccbmlhaaGreat
theorem governorLoops_holds : Rows.GovernorLoopsSaid := governorLoops.proved
end Go.Proofs.YtmpondcccbmlhaaGreat
