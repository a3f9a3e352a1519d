/- PROVED HERE: the law GovernorGates returns true for every gate, rules and wanted position, never panics, and leaves what it was given as it was. Conditions: none besides those of the given statement. -/
import Derived.ArgAppend
import Derived.Below
import Derived.BigQuiet
import Derived.ChangeArms
import Derived.ChangeOld
import Derived.ChangeSlices
import Derived.DataElems
import Derived.Deep.AppendLies
import Derived.Deep.CutBlock
import Derived.Deep.DeepCutAuto
import Derived.Deep.Draws
import Derived.Deep.LoopGhost
import Derived.Deep.OwnRows
import Derived.Deep.QuietTactic
import Derived.Deep.RegionHeld3
import Derived.Deep.RegionWith
import Derived.Deep.WholeRow
import Derived.Ground.SlsfProg
import Derived.KernelRfl
import Derived.Laws.BitsLemmas
import Derived.Laws.BytesArg
import Derived.Laws.ComplexArith
import Derived.Laws.IdiomCopy
import Derived.Laws.MakeOwn
import Derived.Laws.OwnMore
import Derived.Laws.Rows
import Derived.Laws.Slices
import Derived.Laws.StructEq
import Derived.Lib.AppendStr
import Derived.Lib.ConvBytes
import Derived.Lib.Hide
import Derived.Lib.LazyBuf
import Derived.LoopIn
import Derived.LoopNIn
import Derived.Maps.AppendAt
import Derived.OpenShut
import Derived.OrdersHeld
import Derived.Outline
import Derived.OwnWalk
import Derived.OwnWalkIn
import Derived.ProofKit
import Derived.RangeFuncBound
import Derived.RangeFuncCalls
import Derived.RangeFuncLeaves
import Derived.RangeFuncNested
import Derived.RowKit
import Derived.RowKit3
import Derived.Shelf.Abstract
import Derived.Shelf.RegionOpen
import Derived.Shelf.SlSortCmp.HeapSort1
import Derived.Shelf.SlSortCmp.Insertion
import Derived.Shelf.SlSortCmp.Insertion1
import Derived.Shelf.SlSortCmp.Median1
import Derived.Shelf.SlSortCmp.PartialInsertion1
import Derived.Shelf.SlSortCmp.Partition1
import Derived.Shelf.SlSortCmp.PartitionEqual1
import Derived.Shelf.SlSortCmp.Pdq1
import Derived.Shelf.SlSortCmp.Pivot1
import Derived.Shelf.SlSortCmp.ReverseRange1
import Derived.Shelf.SlSortCmp.SiftDown1
import Derived.Shelf.SlSortCmp.Whole1
import Derived.Shelf.Slices.Empties2
import Derived.Shelf.Slices.Equal
import Derived.Shelf.Slices.In.SortNone
import Derived.Shelf.Small.Bits
import Derived.Shelf.Sort.Plain
import Derived.Shelf.Strconv.Itoa0
import Derived.ShutString
import Derived.SizedLaws
import Derived.Sort.CutIn
import Derived.Tactics
import Derived.TacticsInMore
import Derived.WalkKit
import Derived.WalkLawsBesides
import Derived.WideLaws
import Derived.Test.YtmpondcccbmlhaaGreatProg
import Derived.Test.YtmpondcccbmlhaaGreatRows
import Derived.Test.YtmpondcccbmlhaaGreatzG0
import Derived.Test.YtmpondcccbmlhaaGreatzG1
import Derived.Test.YtmpondcccbmlhaaGreatzG2
import Derived.Test.YtmpondcccbmlhaaGreatzG3
import Derived.Test.YtmpondcccbmlhaaGreatzG4
import Derived.Test.YtmpondcccbmlhaaGreatzG5
import Derived.Test.YtmpondcccbmlhaaGreatzG6
import Derived.Test.YtmpondcccbmlhaaGreatzG7
import Derived.Test.YtmpondcccbmlhaaGreatzG8
import Derived.Test.YtmpondcccbmlhaaGreatzG9
import Derived.Test.YtmpondcccbmlhaaGreatzG10
import Derived.Test.YtmpondcccbmlhaaGreatzG11
import Derived.Test.YtmpondcccbmlhaaGreatzG12
import Derived.Test.YtmpondcccbmlhaaGreatzG13
import Derived.Test.YtmpondcccbmlhaaGreatzG14
import Derived.Test.YtmpondcccbmlhaaGreatzG15
import Derived.Test.YtmpondcccbmlhaaGreatzG16
import Derived.Test.YtmpondcccbmlhaaGreatzG17
import Derived.Test.YtmpondcccbmlhaaGreatzG18
import Derived.Test.YtmpondcccbmlhaaGreatzG19
import Derived.Test.YtmpondcccbmlhaaGreatzG20
import Derived.Test.YtmpondcccbmlhaaGreatzG21
import Derived.Test.YtmpondcccbmlhaaGreatzG22
import Derived.Test.YtmpondcccbmlhaaGreatzG23
import Derived.Test.YtmpondcccbmlhaaGreatzG24
import Derived.Test.YtmpondcccbmlhaaGreatzG25
import Derived.Test.YtmpondcccbmlhaaGreatzG26
import Derived.Test.YtmpondcccbmlhaaGreatzG27
import Derived.Test.YtmpondcccbmlhaaGreatzG28
import Derived.Test.YtmpondcccbmlhaaGreatzG29
import Derived.Test.YtmpondcccbmlhaaGreatzG30
import Derived.Test.YtmpondcccbmlhaaGreatzG31
import Derived.Test.YtmpondcccbmlhaaGreatzG32
import Derived.Test.YtmpondcccbmlhaaGreatzG33
import Derived.Test.YtmpondcccbmlhaaGreatzG34
import Derived.Test.YtmpondcccbmlhaaGreatzG35
import Derived.Test.YtmpondcccbmlhaaGreatzG36
import Derived.Test.YtmpondcccbmlhaaGreatzG37
import Derived.Test.YtmpondcccbmlhaaGreatzG38
import Derived.Test.YtmpondcccbmlhaaGreatzG39
import Derived.Test.YtmpondcccbmlhaaGreatzG40
import Derived.Test.YtmpondcccbmlhaaGreatzG41
import Derived.Test.YtmpondcccbmlhaaGreatzG42
namespace Go.Proofs.YtmpondcccbmlhaaGreat.governorGates
open Go.ChangeShapes Go.WideShapes Go.ChangeAt Go.RowKit
set_option linter.unusedVariables false
theorem own : ownKnob Tryz.prog.godebug = none := by kernel_rfl
theorem laidOut : laidOutB Tryz.prog = true := by kernel_rfl
set_option maxRecDepth 100000 in
theorem lifted (os : Os) (started : os.Started) (H : Type) (enc : TypeId × Value → H) :
    ReturnsInHanded {} Tryz.checked os 7 .any (Rows.governorGatesSpec.pre6 enc Tryz.prog Tryz.f7 Rows.governorGatesRow.domain false) (Rows.governorGatesSpec.post enc Tryz.prog Tryz.f7 false true false false) := by
  refine returnsInHanded_of_change_sized (C := Tryz.checked) own started (by kernel_rfl) Tryz.func7
    (ChangeSpec.witness6 (enc := enc) (C := Tryz.checked) false ⟨#[], #[.agg #[.int .i64 0, .int .i64 0, .int .i64 0, .int .i64 0], .agg #[.int .i64 0, .int .i64 0, .int .i64 0, .int .i64 0], .int .i64 0], []⟩ 8 (by kernel_rfl) (by kernel_rfl) (by kernel_rfl) (by kernel_rfl)) ?_
  intro W base args ds gs before hval0 hW hcnd hsz0 _
  have hval : ∀ (j : Nat) t v, Tryz.f7.params[j]? = some t → args[j]? = some v → Value.okWide Tryz.prog W .any base t v := hval0
  have hW' := hW
  obtain ⟨p, q, hA0, hV, rfl, hfz, hnd⟩ := hW
  have hA : DataW.TrodAll enc Tryz.prog W 0 (fun _ => true) true Tryz.f7.params.toList args.toList ds p := hA0
  rw [Tryz.params7] at hA hval
  obtain ⟨v0, vs0, d0, ds0, p0, q0, hargs, rfl, rfl, h0, r0⟩ := trodAll_cons hA
  obtain ⟨v1, vs1, d1, ds1, p1, q1, rfl, rfl, rfl, h1, r1⟩ := trodAll_cons r0
  obtain ⟨v2, vs2, d2, ds2, p2, q2, rfl, rfl, rfl, h2, r2⟩ := trodAll_cons r1
  obtain ⟨rfl, rfl, rfl⟩ := trodAll_nil r2
  obtain rfl : args = #[v0, v1, v2] := by cases args; simp_all
  obtain ⟨rfl, rfl⟩ := trodVars_none hV
  obtain ⟨cs0, rfl, hcs0⟩ := okWide_struct Tryz.underlying75 (hval 0 75 v0 rfl rfl)
  have k0 := h0
  have lt0 : ∀ x ∈ p0, x.block < W.heap.size := by obtain ⟨m, hm⟩ := k0; exact DataW.trod_lt m _ _ _ hm
  obtain ⟨x0, hK0, hG0⟩ := Ext.opens_at Ext.opens_gate h0
  obtain ⟨c0_, c1_, hc0, rfl, c2_, c3_, rfl, rfl, c4_, c5_, rfl, rfl, rfl⟩ := hK0
  obtain rfl : cs0 = #[.int .i64 x0.1, .int .i64 x0.2.1, .int .i64 x0.2.2.1, .int .i64 x0.2.2.2] := Array.ext' hc0
  obtain ⟨cs1, rfl, hcs1⟩ := okWide_struct Tryz.underlying77 (hval 1 77 v1 rfl rfl)
  have k1 := h1
  have lt1 : ∀ x ∈ p1, x.block < W.heap.size := by obtain ⟨m, hm⟩ := k1; exact DataW.trod_lt m _ _ _ hm
  obtain ⟨x1, hK1, hG1⟩ := Ext.opens_at Ext.opens_rules h1
  obtain ⟨c0_, c1_, hc1, rfl, c2_, c3_, rfl, rfl, c4_, c5_, rfl, rfl, rfl⟩ := hK1
  obtain rfl : cs1 = #[.int .i64 x1.1, .int .i64 x1.2.1, .int .i64 x1.2.2.1, .int .i64 x1.2.2.2] := Array.ext' hc1
  obtain ⟨a2, rfl, rfl, rfl, w2⟩ := open_int Tryz.underlying3 (hval 2 3 v2 rfl rfl) h2
  clear hA0 hval0 hsz0
  refine (Q.guidevanelaw06_GovernorGates.calls 20000 x0.1 x0.2.1 x0.2.2.1 x0.2.2.2 x1.1 x1.2.1 x1.2.2.1 x1.2.2.2 a2 true W (Ext.pure_gates _ _ _ _ _ _ _ _ _ _ (by omega))).mono fun e W' ⟨he, bel⟩ => ?_
  subst he
  exact ⟨_, rfl, _, _, _, [], _, [], hW', trodAll_mk1 (shut_bool Tryz.underlying4 _), (trodAll_cons_mk (Below.trod laidOut (by kernel_rfl) (of_decide_eq_true (by kernel_rfl)) k0 bel lt0) (trodAll_cons_mk (Below.trod laidOut (by kernel_rfl) (of_decide_eq_true (by kernel_rfl)) k1 bel lt1) (trodAll_cons_mk (shut_int Tryz.underlying3 w2) trodAll_mk0))), rfl, bel.frame _, fun h => by cases h⟩
theorem closedA : ((Rows.governorGatesRow.wf (OpenSpec.ofChange Rows.governorGatesSpec)) && (laidOutB Tryz.pinned.checked.prog) && (mapsRowed Tryz.pinned.checked.prog) && (Tryz.f7.params.all (Tryz.pinned.checked.prog.readableRec ·)) && (namedTie Tryz.pinned.checked.prog Rows.governorGatesRow.named Rows.governorGatesSpec.vars) && (Rows.governorGatesRow.stops == []) && (Tryz.pinned.checked.prog.stops == []) && (Rows.governorGatesRow.knobs == []) && (Tryz.pinned.checked.prog.stopKnobs == []) && (Rows.governorGatesRow.inPlace == Tryz.pinned.checked.prog.inPlace 7) && (Rows.governorGatesRow.unfollowed == Tryz.pinned.checked.prog.unfollowed 7) && (Rows.governorGatesRow.recurses == Tryz.pinned.checked.prog.recurses 7) && (Rows.governorGatesRow.named == Tryz.pinned.checked.prog.varsNamed 7) && (Rows.governorGatesRow.maps == (Tryz.f7.params.toList ++ Rows.governorGatesSpec.plain.varTypes Tryz.pinned.checked.prog).any (Tryz.pinned.checked.prog.mapsRec ·)) && (Rows.governorGatesRow.ifaces == (Tryz.f7.params.toList ++ Rows.governorGatesSpec.plain.varTypes Tryz.pinned.checked.prog).any (Tryz.pinned.checked.prog.ifacesRec ·)) && (Rows.governorGatesRow.mapsOut == Tryz.pinned.checked.prog.mapsAmong Tryz.f7.resultTypes.toList) && (Rows.governorGatesRow.loops == (Tryz.f7.params.toList ++ Rows.governorGatesSpec.plain.varTypes Tryz.pinned.checked.prog).any (Tryz.pinned.checked.prog.loopsFrom ·)) && (Rows.governorGatesRow.wideKeys == (Tryz.f7.params.toList ++ Rows.governorGatesSpec.plain.varTypes Tryz.pinned.checked.prog ++ Tryz.f7.resultTypes.toList).any (Tryz.pinned.checked.prog.wideKeysFrom ·)) && (Rows.governorGatesSpec.vars.all (Tryz.pinned.checked.prog.varReadable ·)) && (Tryz.f7.resultTypes.all (fun t => Tryz.pinned.checked.prog.readableRec t && decide (t < Tryz.pinned.checked.prog.types.size))) && (Rows.governorGatesRow.ifacesOut == Tryz.f7.resultTypes.toList.any (Tryz.pinned.checked.prog.ifacesRec ·)) && (Rows.governorGatesRow.loopsOut == Tryz.f7.resultTypes.toList.any (Tryz.pinned.checked.prog.loopsFrom ·)) && (Rows.governorGatesRow.plainKeys == Tryz.pinned.checked.prog.plainKeys) && (Rows.governorGatesRow.shortTexts.isNone)) = true := by kernel_rfl
theorem closedB : ((Tryz.pinned.checked.prog.stopsHeard) && (Tryz.pinned.checked.prog.mayEnter) && (Rows.governorGatesRow.lifted == Tryz.pinned.checked.prog.liftsFinal) && (Tryz.pinned.checked.prog.make == some Rows.governorGatesRow.make) && (Rows.governorGatesRow.kinds == (if Rows.governorGatesRow.domain.isEmpty then [] else Tryz.f7.params.toList.map fun t => match Tryz.pinned.checked.prog.underlying t with | some (.int k) => some k | _ => none)) && (Rows.governorGatesRow.pinned == Rows.governorGatesRow.pinnedBy) && (Rows.governorGatesRow.veiled == (Tryz.f7.params.toList ++ Rows.governorGatesSpec.plain.varTypes Tryz.pinned.checked.prog ++ Tryz.f7.resultTypes.toList).any (Tryz.pinned.checked.prog.veiledRec ·)) && (Rows.governorGatesRow.veiledFits Tryz.pinned.checked.prog Tryz.f7.params.toList (Tryz.f7.params.toList ++ Rows.governorGatesSpec.plain.varTypes Tryz.pinned.checked.prog ++ Tryz.f7.resultTypes.toList))) = true := by kernel_rfl
set_option maxRecDepth 100000 in
theorem closed_ : joinedFacts Tryz.pinned.checked.prog 7 Tryz.f7 Rows.governorGatesSpec Rows.governorGatesRow = true := by
  have b := closedB
  simp only [Bool.and_eq_true] at b
  obtain ⟨⟨⟨⟨⟨⟨⟨b24, b25⟩, b26⟩, b27⟩, b28⟩, b29⟩, b30⟩, b31⟩ := b
  unfold joinedFacts
  exact Bool.and_eq_true_iff.mpr ⟨Bool.and_eq_true_iff.mpr ⟨Bool.and_eq_true_iff.mpr ⟨Bool.and_eq_true_iff.mpr ⟨Bool.and_eq_true_iff.mpr ⟨Bool.and_eq_true_iff.mpr ⟨Bool.and_eq_true_iff.mpr ⟨Bool.and_eq_true_iff.mpr ⟨closedA, b24⟩, b25⟩, b26⟩, b27⟩, b28⟩, b29⟩, b30⟩, b31⟩
theorem over : Rows.governorGatesRow.holds Tryz.pinned (OpenSpec.ofChange Rows.governorGatesSpec) :=
  OpenClaim.holds_of_wide 7 Tryz.f7 rfl rfl rfl rfl rfl rfl rfl ⟨rfl, rfl, rfl, rfl, rfl⟩ rfl rfl rfl rfl rfl (by kernel_rfl) Tryz.func7 closed_
    (of_decide_eq_true (by kernel_rfl)) (by unfold Func.isWrapper; first | (rw [if_pos (by decide +kernel)]; kernel_rfl) | (rw [if_neg (by decide +kernel)]; exact ⟨rfl, rfl⟩))
    (fun os started H enc _ => lifted os started H enc)
theorem proved : Rows.GovernorGatesSaid := over
end Go.Proofs.YtmpondcccbmlhaaGreat.governorGates
namespace Go.Proofs.YtmpondcccbmlhaaGreat
theorem governorGates_holds : Rows.GovernorGatesSaid := governorGates.proved
end Go.Proofs.YtmpondcccbmlhaaGreat
