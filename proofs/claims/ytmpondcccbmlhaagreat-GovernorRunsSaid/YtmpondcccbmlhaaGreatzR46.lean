/- PROVED HERE: the law GovernorRuns returns true for every gate, rules and list of deviations, never panics, and leaves what it was given as it was. Conditions: none besides those of the given statement. -/
import Derived.ArgAppend
import Derived.Below
import Derived.BigQuiet
import Derived.ChangeArms
import Derived.ChangeOld
import Derived.ChangeSlices
import Derived.DataElems
import Derived.Deep.AppendLies
import Derived.Deep.CutBlock
import Derived.Deep.DeepCutAuto
import Derived.Deep.Draws
import Derived.Deep.LoopGhost
import Derived.Deep.OwnRows
import Derived.Deep.QuietTactic
import Derived.Deep.RegionHeld3
import Derived.Deep.RegionWith
import Derived.Deep.WholeRow
import Derived.Ground.SlsfProg
import Derived.KernelRfl
import Derived.Laws.BitsLemmas
import Derived.Laws.BytesArg
import Derived.Laws.ComplexArith
import Derived.Laws.IdiomCopy
import Derived.Laws.MakeOwn
import Derived.Laws.OwnMore
import Derived.Laws.Rows
import Derived.Laws.Slices
import Derived.Laws.StructEq
import Derived.Lib.AppendStr
import Derived.Lib.ConvBytes
import Derived.Lib.Hide
import Derived.Lib.LazyBuf
import Derived.LoopIn
import Derived.LoopNIn
import Derived.Maps.AppendAt
import Derived.OpenShut
import Derived.OrdersHeld
import Derived.Outline
import Derived.OwnWalk
import Derived.OwnWalkIn
import Derived.ProofKit
import Derived.RangeFuncBound
import Derived.RangeFuncCalls
import Derived.RangeFuncLeaves
import Derived.RangeFuncNested
import Derived.RowKit
import Derived.RowKit3
import Derived.Shelf.Abstract
import Derived.Shelf.RegionOpen
import Derived.Shelf.SlSortCmp.HeapSort1
import Derived.Shelf.SlSortCmp.Insertion
import Derived.Shelf.SlSortCmp.Insertion1
import Derived.Shelf.SlSortCmp.Median1
import Derived.Shelf.SlSortCmp.PartialInsertion1
import Derived.Shelf.SlSortCmp.Partition1
import Derived.Shelf.SlSortCmp.PartitionEqual1
import Derived.Shelf.SlSortCmp.Pdq1
import Derived.Shelf.SlSortCmp.Pivot1
import Derived.Shelf.SlSortCmp.ReverseRange1
import Derived.Shelf.SlSortCmp.SiftDown1
import Derived.Shelf.SlSortCmp.Whole1
import Derived.Shelf.Slices.Empties2
import Derived.Shelf.Slices.Equal
import Derived.Shelf.Slices.In.SortNone
import Derived.Shelf.Small.Bits
import Derived.Shelf.Sort.Plain
import Derived.Shelf.Strconv.Itoa0
import Derived.ShutString
import Derived.SizedLaws
import Derived.Sort.CutIn
import Derived.Tactics
import Derived.TacticsInMore
import Derived.WalkKit
import Derived.WalkLawsBesides
import Derived.WideLaws
import Derived.Test.YtmpondcccbmlhaaGreatProg
import Derived.Test.YtmpondcccbmlhaaGreatRows
import Derived.Test.YtmpondcccbmlhaaGreatzR0
import Derived.Test.YtmpondcccbmlhaaGreatzR1
import Derived.Test.YtmpondcccbmlhaaGreatzR2
import Derived.Test.YtmpondcccbmlhaaGreatzR3
import Derived.Test.YtmpondcccbmlhaaGreatzR4
import Derived.Test.YtmpondcccbmlhaaGreatzR5
import Derived.Test.YtmpondcccbmlhaaGreatzR6
import Derived.Test.YtmpondcccbmlhaaGreatzR7
import Derived.Test.YtmpondcccbmlhaaGreatzR8
import Derived.Test.YtmpondcccbmlhaaGreatzR9
import Derived.Test.YtmpondcccbmlhaaGreatzR10
import Derived.Test.YtmpondcccbmlhaaGreatzR11
import Derived.Test.YtmpondcccbmlhaaGreatzR12
import Derived.Test.YtmpondcccbmlhaaGreatzR13
import Derived.Test.YtmpondcccbmlhaaGreatzR14
import Derived.Test.YtmpondcccbmlhaaGreatzR15
import Derived.Test.YtmpondcccbmlhaaGreatzR16
import Derived.Test.YtmpondcccbmlhaaGreatzR17
import Derived.Test.YtmpondcccbmlhaaGreatzR18
import Derived.Test.YtmpondcccbmlhaaGreatzR19
import Derived.Test.YtmpondcccbmlhaaGreatzR20
import Derived.Test.YtmpondcccbmlhaaGreatzR21
import Derived.Test.YtmpondcccbmlhaaGreatzR22
import Derived.Test.YtmpondcccbmlhaaGreatzR23
import Derived.Test.YtmpondcccbmlhaaGreatzR24
import Derived.Test.YtmpondcccbmlhaaGreatzR25
import Derived.Test.YtmpondcccbmlhaaGreatzR26
import Derived.Test.YtmpondcccbmlhaaGreatzR27
import Derived.Test.YtmpondcccbmlhaaGreatzR28
import Derived.Test.YtmpondcccbmlhaaGreatzR29
import Derived.Test.YtmpondcccbmlhaaGreatzR30
import Derived.Test.YtmpondcccbmlhaaGreatzR31
import Derived.Test.YtmpondcccbmlhaaGreatzR32
import Derived.Test.YtmpondcccbmlhaaGreatzR33
import Derived.Test.YtmpondcccbmlhaaGreatzR34
import Derived.Test.YtmpondcccbmlhaaGreatzR35
import Derived.Test.YtmpondcccbmlhaaGreatzR36
import Derived.Test.YtmpondcccbmlhaaGreatzR37
import Derived.Test.YtmpondcccbmlhaaGreatzR38
import Derived.Test.YtmpondcccbmlhaaGreatzR39
import Derived.Test.YtmpondcccbmlhaaGreatzR40
import Derived.Test.YtmpondcccbmlhaaGreatzR41
import Derived.Test.YtmpondcccbmlhaaGreatzR42
import Derived.Test.YtmpondcccbmlhaaGreatzR43
import Derived.Test.YtmpondcccbmlhaaGreatzR44
import Derived.Test.YtmpondcccbmlhaaGreatzR45
namespace Go.Proofs.YtmpondcccbmlhaaGreat.governorRuns
open Go.ChangeShapes Go.WideShapes Go.ChangeAt Go.RowKit
set_option linter.unusedVariables false
theorem own : ownKnob Tryz.prog.godebug = none := by kernel_rfl
theorem laidOut : laidOutB Tryz.prog = true := by kernel_rfl
set_option maxRecDepth 100000 in
theorem lifted (os : Os) (started : os.Started) (H : Type) (enc : TypeId × Value → H) :
    ReturnsInHanded {} Tryz.checked os 8 .any (Rows.governorRunsSpec.pre6 enc Tryz.prog Tryz.f8 Rows.governorRunsRow.domain false) (Rows.governorRunsSpec.post enc Tryz.prog Tryz.f8 false true false false) := by
  refine returnsInHanded_of_change_sized (C := Tryz.checked) own started (by kernel_rfl) Tryz.func8
    (ChangeSpec.witness6 (enc := enc) (C := Tryz.checked) false ⟨#[], #[.agg #[.int .i64 0, .int .i64 0, .int .i64 0, .int .i64 0], .agg #[.int .i64 0, .int .i64 0, .int .i64 0, .int .i64 0], .slice none 0 0], []⟩ 8 (by kernel_rfl) (by kernel_rfl) (by kernel_rfl) (by kernel_rfl)) ?_
  intro W base args ds gs before hval0 hW hcnd hsz0 _
  have hval : ∀ (j : Nat) t v, Tryz.f8.params[j]? = some t → args[j]? = some v → Value.okWide Tryz.prog W .any base t v := hval0
  have hW' := hW
  obtain ⟨p, q, hA0, hV, rfl, hfz, hnd⟩ := hW
  have hA : DataW.TrodAll enc Tryz.prog W 0 (fun _ => true) true Tryz.f8.params.toList args.toList ds p := hA0
  rw [Tryz.params8] at hA hval
  obtain ⟨v0, vs0, d0, ds0, p0, q0, hargs, rfl, rfl, h0, r0⟩ := trodAll_cons hA
  obtain ⟨v1, vs1, d1, ds1, p1, q1, rfl, rfl, rfl, h1, r1⟩ := trodAll_cons r0
  obtain ⟨v2, vs2, d2, ds2, p2, q2, rfl, rfl, rfl, h2, r2⟩ := trodAll_cons r1
  obtain ⟨rfl, rfl, rfl⟩ := trodAll_nil r2
  obtain rfl : args = #[v0, v1, v2] := by cases args; simp_all
  obtain ⟨rfl, rfl⟩ := trodVars_none hV
  obtain ⟨cs0, rfl, hcs0⟩ := okWide_struct Tryz.underlying75 (hval 0 75 v0 rfl rfl)
  have k0 := h0
  have lt0 : ∀ x ∈ p0, x.block < W.heap.size := by obtain ⟨m, hm⟩ := k0; exact DataW.trod_lt m _ _ _ hm
  obtain ⟨x0, hK0, hG0⟩ := Ext.opens_at Ext.opens_gate h0
  obtain ⟨c0_, c1_, hc0, rfl, c2_, c3_, rfl, rfl, c4_, c5_, rfl, rfl, rfl⟩ := hK0
  obtain rfl : cs0 = #[.int .i64 x0.1, .int .i64 x0.2.1, .int .i64 x0.2.2.1, .int .i64 x0.2.2.2] := Array.ext' hc0
  obtain ⟨cs1, rfl, hcs1⟩ := okWide_struct Tryz.underlying77 (hval 1 77 v1 rfl rfl)
  have k1 := h1
  have lt1 : ∀ x ∈ p1, x.block < W.heap.size := by obtain ⟨m, hm⟩ := k1; exact DataW.trod_lt m _ _ _ hm
  obtain ⟨x1, hK1, hG1⟩ := Ext.opens_at Ext.opens_rules h1
  obtain ⟨c0_, c1_, hc1, rfl, c2_, c3_, rfl, rfl, c4_, c5_, rfl, rfl, rfl⟩ := hK1
  obtain rfl : cs1 = #[.int .i64 x1.1, .int .i64 x1.2.1, .int .i64 x1.2.2.1, .int .i64 x1.2.2.2] := Array.ext' hc1
  obtain ⟨A2, len2, cap2, rfl⟩ := okWide_slice Tryz.underlying22 (hval 2 22 v2 rfl rfl)
  have k2 := h2
  have lt2 : ∀ x ∈ p2, x.block < W.heap.size := by obtain ⟨m, hm⟩ := k2; exact DataW.trod_lt m _ _ _ hm
  obtain ⟨l2, rfl, hl2, hC2, hG2⟩ := Ext.opens_sl Ext.opens_nums h2
  clear hA0 hval0 hsz0
  refine (Q.guidevanelaw06_GovernorRuns.calls 20000 x0.1 x0.2.1 x0.2.2.1 x0.2.2.2 x1.1 x1.2.1 x1.2.2.1 x1.2.2.2 A2 cap2 l2 true W hC2 hl2 (Ext.pure_runs _ _ _ _ _ _ _ _ _ _ (by omega))).mono fun e W' ⟨he, bel⟩ => ?_
  subst he
  exact ⟨_, rfl, _, _, _, [], _, [], hW', trodAll_mk1 (shut_bool Tryz.underlying4 _), (trodAll_cons_mk (Below.trod laidOut (by kernel_rfl) (of_decide_eq_true (by kernel_rfl)) k0 bel lt0) (trodAll_cons_mk (Below.trod laidOut (by kernel_rfl) (of_decide_eq_true (by kernel_rfl)) k1 bel lt1) (trodAll_cons_mk (Below.trod laidOut (by kernel_rfl) (of_decide_eq_true (by kernel_rfl)) k2 bel lt2) trodAll_mk0))), rfl, bel.frame _, fun h => by cases h⟩
theorem closedA : ((Rows.governorRunsRow.wf (OpenSpec.ofChange Rows.governorRunsSpec)) && (laidOutB Tryz.pinned.checked.prog) && (mapsRowed Tryz.pinned.checked.prog) && (Tryz.f8.params.all (Tryz.pinned.checked.prog.readableRec ·)) && (namedTie Tryz.pinned.checked.prog Rows.governorRunsRow.named Rows.governorRunsSpec.vars) && (Rows.governorRunsRow.stops == []) && (Tryz.pinned.checked.prog.stops == []) && (Rows.governorRunsRow.knobs == []) && (Tryz.pinned.checked.prog.stopKnobs == []) && (Rows.governorRunsRow.inPlace == Tryz.pinned.checked.prog.inPlace 8) && (Rows.governorRunsRow.unfollowed == Tryz.pinned.checked.prog.unfollowed 8) && (Rows.governorRunsRow.recurses == Tryz.pinned.checked.prog.recurses 8) && (Rows.governorRunsRow.named == Tryz.pinned.checked.prog.varsNamed 8) && (Rows.governorRunsRow.maps == (Tryz.f8.params.toList ++ Rows.governorRunsSpec.plain.varTypes Tryz.pinned.checked.prog).any (Tryz.pinned.checked.prog.mapsRec ·)) && (Rows.governorRunsRow.ifaces == (Tryz.f8.params.toList ++ Rows.governorRunsSpec.plain.varTypes Tryz.pinned.checked.prog).any (Tryz.pinned.checked.prog.ifacesRec ·)) && (Rows.governorRunsRow.mapsOut == Tryz.pinned.checked.prog.mapsAmong Tryz.f8.resultTypes.toList) && (Rows.governorRunsRow.loops == (Tryz.f8.params.toList ++ Rows.governorRunsSpec.plain.varTypes Tryz.pinned.checked.prog).any (Tryz.pinned.checked.prog.loopsFrom ·)) && (Rows.governorRunsRow.wideKeys == (Tryz.f8.params.toList ++ Rows.governorRunsSpec.plain.varTypes Tryz.pinned.checked.prog ++ Tryz.f8.resultTypes.toList).any (Tryz.pinned.checked.prog.wideKeysFrom ·)) && (Rows.governorRunsSpec.vars.all (Tryz.pinned.checked.prog.varReadable ·)) && (Tryz.f8.resultTypes.all (fun t => Tryz.pinned.checked.prog.readableRec t && decide (t < Tryz.pinned.checked.prog.types.size))) && (Rows.governorRunsRow.ifacesOut == Tryz.f8.resultTypes.toList.any (Tryz.pinned.checked.prog.ifacesRec ·)) && (Rows.governorRunsRow.loopsOut == Tryz.f8.resultTypes.toList.any (Tryz.pinned.checked.prog.loopsFrom ·)) && (Rows.governorRunsRow.plainKeys == Tryz.pinned.checked.prog.plainKeys) && (Rows.governorRunsRow.shortTexts.isNone)) = true := by kernel_rfl
theorem closedB : ((Tryz.pinned.checked.prog.stopsHeard) && (Tryz.pinned.checked.prog.mayEnter) && (Rows.governorRunsRow.lifted == Tryz.pinned.checked.prog.liftsFinal) && (Tryz.pinned.checked.prog.make == some Rows.governorRunsRow.make) && (Rows.governorRunsRow.kinds == (if Rows.governorRunsRow.domain.isEmpty then [] else Tryz.f8.params.toList.map fun t => match Tryz.pinned.checked.prog.underlying t with | some (.int k) => some k | _ => none)) && (Rows.governorRunsRow.pinned == Rows.governorRunsRow.pinnedBy) && (Rows.governorRunsRow.veiled == (Tryz.f8.params.toList ++ Rows.governorRunsSpec.plain.varTypes Tryz.pinned.checked.prog ++ Tryz.f8.resultTypes.toList).any (Tryz.pinned.checked.prog.veiledRec ·)) && (Rows.governorRunsRow.veiledFits Tryz.pinned.checked.prog Tryz.f8.params.toList (Tryz.f8.params.toList ++ Rows.governorRunsSpec.plain.varTypes Tryz.pinned.checked.prog ++ Tryz.f8.resultTypes.toList))) = true := by kernel_rfl
set_option maxRecDepth 100000 in
theorem closed_ : joinedFacts Tryz.pinned.checked.prog 8 Tryz.f8 Rows.governorRunsSpec Rows.governorRunsRow = true := by
  have b := closedB
  simp only [Bool.and_eq_true] at b
  obtain ⟨⟨⟨⟨⟨⟨⟨b24, b25⟩, b26⟩, b27⟩, b28⟩, b29⟩, b30⟩, b31⟩ := b
  unfold joinedFacts
  exact Bool.and_eq_true_iff.mpr ⟨Bool.and_eq_true_iff.mpr ⟨Bool.and_eq_true_iff.mpr ⟨Bool.and_eq_true_iff.mpr ⟨Bool.and_eq_true_iff.mpr ⟨Bool.and_eq_true_iff.mpr ⟨Bool.and_eq_true_iff.mpr ⟨Bool.and_eq_true_iff.mpr ⟨closedA, b24⟩, b25⟩, b26⟩, b27⟩, b28⟩, b29⟩, b30⟩, b31⟩
theorem over : Rows.governorRunsRow.holds Tryz.pinned (OpenSpec.ofChange Rows.governorRunsSpec) :=
  OpenClaim.holds_of_wide 8 Tryz.f8 rfl rfl rfl rfl rfl rfl rfl ⟨rfl, rfl, rfl, rfl, rfl⟩ rfl rfl rfl rfl rfl (by kernel_rfl) Tryz.func8 closed_
    (of_decide_eq_true (by kernel_rfl)) (by unfold Func.isWrapper; first | (rw [if_pos (by decide +kernel)]; kernel_rfl) | (rw [if_neg (by decide +kernel)]; exact ⟨rfl, rfl⟩))
    (fun os started H enc _ => lifted os started H enc)
theorem proved : Rows.GovernorRunsSaid := over
end Go.Proofs.YtmpondcccbmlhaaGreat.governorRuns
namespace Go.Proofs.YtmpondcccbmlhaaGreat
theorem governorRuns_holds : Rows.GovernorRunsSaid := governorRuns.proved
end Go.Proofs.YtmpondcccbmlhaaGreat
