/- PROVED HERE: the law GovernorValues returns true for every polynomial, frequency and grid, never panics, and leaves what it was given as it was. Conditions: none besides those of the given statement. -/
import Derived.ArgAppend
import Derived.Below
import Derived.BigQuiet
import Derived.ChangeOld
import Derived.ChangeSlices
import Derived.Deep.AppendLies
import Derived.Deep.CutBlock
import Derived.Deep.DeepCutAuto
import Derived.Deep.Draws
import Derived.Deep.LoopGhost
import Derived.Deep.OwnRows
import Derived.Deep.QuietTactic
import Derived.Deep.RegionHeld3
import Derived.Deep.RegionWith
import Derived.Deep.WholeRow
import Derived.Ground.SlsfProg
import Derived.KernelRfl
import Derived.Laws.BitsLemmas
import Derived.Laws.BytesArg
import Derived.Laws.ComplexArith
import Derived.Laws.IdiomCopy
import Derived.Laws.MakeOwn
import Derived.Laws.OwnMore
import Derived.Laws.Rows
import Derived.Laws.Slices
import Derived.Laws.StructEq
import Derived.Lib.AppendStr
import Derived.Lib.ConvBytes
import Derived.Lib.Hide
import Derived.Lib.LazyBuf
import Derived.LoopIn
import Derived.LoopNIn
import Derived.Maps.AppendAt
import Derived.OpenShut
import Derived.OrdersHeld
import Derived.Outline
import Derived.OwnWalk
import Derived.OwnWalkIn
import Derived.ProofKit
import Derived.RangeFuncBound
import Derived.RangeFuncCalls
import Derived.RangeFuncLeaves
import Derived.RangeFuncNested
import Derived.RowKit
import Derived.RowKit3
import Derived.Shelf.Abstract
import Derived.Shelf.RegionOpen
import Derived.Shelf.SlSortCmp.HeapSort1
import Derived.Shelf.SlSortCmp.Insertion
import Derived.Shelf.SlSortCmp.Insertion1
import Derived.Shelf.SlSortCmp.Median1
import Derived.Shelf.SlSortCmp.PartialInsertion1
import Derived.Shelf.SlSortCmp.Partition1
import Derived.Shelf.SlSortCmp.PartitionEqual1
import Derived.Shelf.SlSortCmp.Pdq1
import Derived.Shelf.SlSortCmp.Pivot1
import Derived.Shelf.SlSortCmp.ReverseRange1
import Derived.Shelf.SlSortCmp.SiftDown1
import Derived.Shelf.SlSortCmp.Whole1
import Derived.Shelf.Slices.Empties2
import Derived.Shelf.Slices.Equal
import Derived.Shelf.Slices.In.SortNone
import Derived.Shelf.Small.Bits
import Derived.Shelf.Sort.Plain
import Derived.Shelf.Strconv.Itoa0
import Derived.ShutString
import Derived.SizedLaws
import Derived.Sort.CutIn
import Derived.Tactics
import Derived.TacticsInMore
import Derived.WalkKit
import Derived.WalkLawsBesides
import Derived.WideLaws
import Derived.Test.YtmpondcccbmlhaaGreatProg
import Derived.Test.YtmpondcccbmlhaaGreatRows
import Derived.Test.YtmpondcccbmlhaaGreatzV0
import Derived.Test.YtmpondcccbmlhaaGreatzV1
import Derived.Test.YtmpondcccbmlhaaGreatzV2
import Derived.Test.YtmpondcccbmlhaaGreatzV3
import Derived.Test.YtmpondcccbmlhaaGreatzV4
import Derived.Test.YtmpondcccbmlhaaGreatzV5
import Derived.Test.YtmpondcccbmlhaaGreatzV6
import Derived.Test.YtmpondcccbmlhaaGreatzV7
import Derived.Test.YtmpondcccbmlhaaGreatzV8
import Derived.Test.YtmpondcccbmlhaaGreatzV9
import Derived.Test.YtmpondcccbmlhaaGreatzV10
import Derived.Test.YtmpondcccbmlhaaGreatzV11
import Derived.Test.YtmpondcccbmlhaaGreatzV12
import Derived.Test.YtmpondcccbmlhaaGreatzV13
import Derived.Test.YtmpondcccbmlhaaGreatzV14
import Derived.Test.YtmpondcccbmlhaaGreatzV15
import Derived.Test.YtmpondcccbmlhaaGreatzV16
import Derived.Test.YtmpondcccbmlhaaGreatzV17
import Derived.Test.YtmpondcccbmlhaaGreatzV18
import Derived.Test.YtmpondcccbmlhaaGreatzV19
import Derived.Test.YtmpondcccbmlhaaGreatzV20
import Derived.Test.YtmpondcccbmlhaaGreatzV21
import Derived.Test.YtmpondcccbmlhaaGreatzV22
import Derived.Test.YtmpondcccbmlhaaGreatzV23
import Derived.Test.YtmpondcccbmlhaaGreatzV24
import Derived.Test.YtmpondcccbmlhaaGreatzV25
import Derived.Test.YtmpondcccbmlhaaGreatzV26
import Derived.Test.YtmpondcccbmlhaaGreatzV27
import Derived.Test.YtmpondcccbmlhaaGreatzV28
import Derived.Test.YtmpondcccbmlhaaGreatzV29
import Derived.Test.YtmpondcccbmlhaaGreatzV30
import Derived.Test.YtmpondcccbmlhaaGreatzV31
import Derived.Test.YtmpondcccbmlhaaGreatzV32
import Derived.Test.YtmpondcccbmlhaaGreatzV33
import Derived.Test.YtmpondcccbmlhaaGreatzV34
import Derived.Test.YtmpondcccbmlhaaGreatzV35
import Derived.Test.YtmpondcccbmlhaaGreatzV36
import Derived.Test.YtmpondcccbmlhaaGreatzV37
import Derived.Test.YtmpondcccbmlhaaGreatzV38
import Derived.Test.YtmpondcccbmlhaaGreatzV39
namespace Go.Proofs.YtmpondcccbmlhaaGreat.governorValues
open Go.ChangeShapes Go.WideShapes Go.ChangeAt Go.RowKit
open Go.ChangeMaps (open_string shut_string)
set_option linter.unusedVariables false
theorem own : ownKnob Tryz.prog.godebug = none := by kernel_rfl
theorem laidOut : laidOutB Tryz.prog = true := by kernel_rfl
def IsRow (k : IntKind) (w : World) (a : Option Addr) (len cap : Nat) (zs : List Int) : Prop :=
  (a = none ∧ len = 0 ∧ cap = 0 ∧ zs = []) ∨
  ∃ x, a = some x ∧ len ≤ cap ∧ cap ≤ maxLen ∧ zs.length = cap ∧ (∀ i, i < zs.length → w.cell? (x.add i) = some (.int k (zs.getD i 0))) ∧ ∀ n ∈ zs, (Lit.int k n).wf = true
set_option maxRecDepth 100000 in
theorem lifted (os : Os) (started : os.Started) (H : Type) (enc : TypeId × Value → H) :
    ReturnsInHanded {} Tryz.checked os 3 .any (Rows.governorValuesSpec.pre6 enc Tryz.prog Tryz.f3 Rows.governorValuesRow.domain false) (Rows.governorValuesSpec.post enc Tryz.prog Tryz.f3 false true false false) := by
  refine returnsInHanded_of_change_sized (C := Tryz.checked) own started (by kernel_rfl) Tryz.func3
    (ChangeSpec.witness6 (enc := enc) (C := Tryz.checked) false ⟨#[], #[.slice none 0 0, .int .i64 0, .slice none 0 0], []⟩ 8 (by kernel_rfl) (by kernel_rfl) (by kernel_rfl) (by kernel_rfl)) ?_
  intro W base args ds gs before hval0 hW hcnd hsz0 _
  have hsz : (DataW.weightsEach Tryz.prog (Tryz.f3.params.toList ++ Rows.governorValuesSpec.plain.varTypes Tryz.prog) (ds ++ gs)).all (· ≤ reachBytes) = true := hsz0
  have hval : ∀ (j : Nat) t v, Tryz.f3.params[j]? = some t → args[j]? = some v → Value.okWide Tryz.prog W .any base t v := hval0
  have hW' := hW
  obtain ⟨p, q, hA0, hV, rfl, hfz, hnd⟩ := hW
  have hA : DataW.TrodAll enc Tryz.prog W 0 (fun _ => true) true Tryz.f3.params.toList args.toList ds p := hA0
  rw [Tryz.params3] at hA hval hsz
  obtain ⟨v0, vs0, d0, ds0, p0, q0, hargs, rfl, rfl, h0, r0⟩ := trodAll_cons hA
  obtain ⟨v1, vs1, d1, ds1, p1, q1, rfl, rfl, rfl, h1, r1⟩ := trodAll_cons r0
  obtain ⟨v2, vs2, d2, ds2, p2, q2, rfl, rfl, rfl, h2, r2⟩ := trodAll_cons r1
  obtain ⟨rfl, rfl, rfl⟩ := trodAll_nil r2
  obtain rfl : args = #[v0, v1, v2] := by cases args; simp_all
  obtain ⟨rfl, rfl⟩ := trodVars_none hV
  obtain ⟨a0, len0, cap0, rfl⟩ := okWide_slice Tryz.underlying22 (hval 0 22 v0 rfl rfl)
  have k0 := h0
  have lt0 : ∀ x ∈ p0, x.block < W.heap.size := by obtain ⟨m, hm⟩ := k0; exact DataW.trod_lt m _ _ _ hm
  obtain ⟨z0, w0⟩ : ∃ zs, IsRow .i64 W a0 len0 cap0 zs := by
    obtain ⟨fuel, hf⟩ := h0
    rcases open_ints Tryz.underlying22 Tryz.underlying3 (by kernel_rfl) hf with ⟨hcs, _⟩ | ⟨x, l, c, zs, hcs, _, hl, hm, hz, _, hcell, hwz⟩
    · simp [Value.cells] at hcs
      obtain ⟨rfl, rfl, rfl⟩ := hcs
      exact ⟨[], .inl ⟨rfl, rfl, rfl, rfl⟩⟩
    · simp [Value.cells] at hcs
      obtain ⟨rfl, rfl, rfl⟩ := hcs
      exact ⟨zs, .inr ⟨_, rfl, hl, hm, by simpa using hz, hcell, hwz⟩⟩
  have y0 : len0 * 8 ≤ 140737488351232 := Go.Proofs.YtmpondcccbmlhaaGreatW.PrintWords.sized_ints hsz (j := 0) (t := 22) rfl rfl Tryz.underlying22 Tryz.underlying3 (by kernel_rfl) (by kernel_rfl) h0
  obtain ⟨a1, rfl, rfl, rfl, w1⟩ := open_int Tryz.underlying3 (hval 1 3 v1 rfl rfl) h1
  obtain ⟨a2, len2, cap2, rfl⟩ := okWide_slice Tryz.underlying22 (hval 2 22 v2 rfl rfl)
  have k2 := h2
  have lt2 : ∀ x ∈ p2, x.block < W.heap.size := by obtain ⟨m, hm⟩ := k2; exact DataW.trod_lt m _ _ _ hm
  obtain ⟨z2, w2⟩ : ∃ zs, IsRow .i64 W a2 len2 cap2 zs := by
    obtain ⟨fuel, hf⟩ := h2
    rcases open_ints Tryz.underlying22 Tryz.underlying3 (by kernel_rfl) hf with ⟨hcs, _⟩ | ⟨x, l, c, zs, hcs, _, hl, hm, hz, _, hcell, hwz⟩
    · simp [Value.cells] at hcs
      obtain ⟨rfl, rfl, rfl⟩ := hcs
      exact ⟨[], .inl ⟨rfl, rfl, rfl, rfl⟩⟩
    · simp [Value.cells] at hcs
      obtain ⟨rfl, rfl, rfl⟩ := hcs
      exact ⟨zs, .inr ⟨_, rfl, hl, hm, by simpa using hz, hcell, hwz⟩⟩
  have y2 : len2 * 8 ≤ 140737488351232 := Go.Proofs.YtmpondcccbmlhaaGreatW.PrintWords.sized_ints hsz (j := 2) (t := 22) rfl rfl Tryz.underlying22 Tryz.underlying3 (by kernel_rfl) (by kernel_rfl) h2
  clear hA0 hval0 hsz0 hsz
  refine (Q.guidevanelaw06_GovernorValues.walk Pure.GovernorValues a0 len0 cap0 z0 a1 a2 len2 cap2 z2 W w0 y0 w1 w2 y2).mono fun e W' ⟨he, bel⟩ => ?_
  subst he
  exact ⟨_, rfl, _, _, _, [], _, [], hW', trodAll_mk1 (shut_bool Tryz.underlying4 _), (trodAll_cons_mk (Below.trod laidOut (by kernel_rfl) (of_decide_eq_true (by kernel_rfl)) k0 bel lt0) (trodAll_cons_mk (shut_int Tryz.underlying3 w1) (trodAll_cons_mk (Below.trod laidOut (by kernel_rfl) (of_decide_eq_true (by kernel_rfl)) k2 bel lt2) trodAll_mk0))), rfl, bel.frame _, fun h => by cases h⟩
theorem closedA : ((Rows.governorValuesRow.wf (OpenSpec.ofChange Rows.governorValuesSpec)) && (laidOutB Tryz.pinned.checked.prog) && (mapsRowed Tryz.pinned.checked.prog) && (Tryz.f3.params.all (Tryz.pinned.checked.prog.readableRec ·)) && (namedTie Tryz.pinned.checked.prog Rows.governorValuesRow.named Rows.governorValuesSpec.vars) && (Rows.governorValuesRow.stops == []) && (Tryz.pinned.checked.prog.stops == []) && (Rows.governorValuesRow.knobs == []) && (Tryz.pinned.checked.prog.stopKnobs == []) && (Rows.governorValuesRow.inPlace == Tryz.pinned.checked.prog.inPlace 3) && (Rows.governorValuesRow.unfollowed == Tryz.pinned.checked.prog.unfollowed 3) && (Rows.governorValuesRow.recurses == Tryz.pinned.checked.prog.recurses 3) && (Rows.governorValuesRow.named == Tryz.pinned.checked.prog.varsNamed 3) && (Rows.governorValuesRow.maps == (Tryz.f3.params.toList ++ Rows.governorValuesSpec.plain.varTypes Tryz.pinned.checked.prog).any (Tryz.pinned.checked.prog.mapsRec ·)) && (Rows.governorValuesRow.ifaces == (Tryz.f3.params.toList ++ Rows.governorValuesSpec.plain.varTypes Tryz.pinned.checked.prog).any (Tryz.pinned.checked.prog.ifacesRec ·)) && (Rows.governorValuesRow.mapsOut == Tryz.pinned.checked.prog.mapsAmong Tryz.f3.resultTypes.toList) && (Rows.governorValuesRow.loops == (Tryz.f3.params.toList ++ Rows.governorValuesSpec.plain.varTypes Tryz.pinned.checked.prog).any (Tryz.pinned.checked.prog.loopsFrom ·)) && (Rows.governorValuesRow.wideKeys == (Tryz.f3.params.toList ++ Rows.governorValuesSpec.plain.varTypes Tryz.pinned.checked.prog ++ Tryz.f3.resultTypes.toList).any (Tryz.pinned.checked.prog.wideKeysFrom ·)) && (Rows.governorValuesSpec.vars.all (Tryz.pinned.checked.prog.varReadable ·)) && (Tryz.f3.resultTypes.all (fun t => Tryz.pinned.checked.prog.readableRec t && decide (t < Tryz.pinned.checked.prog.types.size))) && (Rows.governorValuesRow.ifacesOut == Tryz.f3.resultTypes.toList.any (Tryz.pinned.checked.prog.ifacesRec ·)) && (Rows.governorValuesRow.loopsOut == Tryz.f3.resultTypes.toList.any (Tryz.pinned.checked.prog.loopsFrom ·)) && (Rows.governorValuesRow.plainKeys == Tryz.pinned.checked.prog.plainKeys) && (Rows.governorValuesRow.shortTexts.isNone)) = true := by kernel_rfl
theorem closedB : ((Tryz.pinned.checked.prog.stopsHeard) && (Tryz.pinned.checked.prog.mayEnter) && (Rows.governorValuesRow.lifted == Tryz.pinned.checked.prog.liftsFinal) && (Tryz.pinned.checked.prog.make == some Rows.governorValuesRow.make) && (Rows.governorValuesRow.kinds == (if Rows.governorValuesRow.domain.isEmpty then [] else Tryz.f3.params.toList.map fun t => match Tryz.pinned.checked.prog.underlying t with | some (.int k) => some k | _ => none)) && (Rows.governorValuesRow.pinned == Rows.governorValuesRow.pinnedBy) && (Rows.governorValuesRow.veiled == (Tryz.f3.params.toList ++ Rows.governorValuesSpec.plain.varTypes Tryz.pinned.checked.prog ++ Tryz.f3.resultTypes.toList).any (Tryz.pinned.checked.prog.veiledRec ·)) && (Rows.governorValuesRow.veiledFits Tryz.pinned.checked.prog Tryz.f3.params.toList (Tryz.f3.params.toList ++ Rows.governorValuesSpec.plain.varTypes Tryz.pinned.checked.prog ++ Tryz.f3.resultTypes.toList))) = true := by kernel_rfl
set_option maxRecDepth 100000 in
theorem closed_ : joinedFacts Tryz.pinned.checked.prog 3 Tryz.f3 Rows.governorValuesSpec Rows.governorValuesRow = true := by
  have b := closedB
  simp only [Bool.and_eq_true] at b
  obtain ⟨⟨⟨⟨⟨⟨⟨b24, b25⟩, b26⟩, b27⟩, b28⟩, b29⟩, b30⟩, b31⟩ := b
  unfold joinedFacts
  exact Bool.and_eq_true_iff.mpr ⟨Bool.and_eq_true_iff.mpr ⟨Bool.and_eq_true_iff.mpr ⟨Bool.and_eq_true_iff.mpr ⟨Bool.and_eq_true_iff.mpr ⟨Bool.and_eq_true_iff.mpr ⟨Bool.and_eq_true_iff.mpr ⟨Bool.and_eq_true_iff.mpr ⟨closedA, b24⟩, b25⟩, b26⟩, b27⟩, b28⟩, b29⟩, b30⟩, b31⟩
theorem over : Rows.governorValuesRow.holds Tryz.pinned (OpenSpec.ofChange Rows.governorValuesSpec) :=
  OpenClaim.holds_of_wide 3 Tryz.f3 rfl rfl rfl rfl rfl rfl rfl ⟨rfl, rfl, rfl, rfl, rfl⟩ rfl rfl rfl rfl rfl (by kernel_rfl) Tryz.func3 closed_
    (of_decide_eq_true (by kernel_rfl)) (by unfold Func.isWrapper; first | (rw [if_pos (by decide +kernel)]; kernel_rfl) | (rw [if_neg (by decide +kernel)]; exact ⟨rfl, rfl⟩))
    (fun os started H enc _ => lifted os started H enc)
theorem proved : Rows.GovernorValuesSaid := over
end Go.Proofs.YtmpondcccbmlhaaGreat.governorValues
namespace Go.Proofs.YtmpondcccbmlhaaGreat
theorem governorValues_holds : Rows.GovernorValuesSaid := governorValues.proved
end Go.Proofs.YtmpondcccbmlhaaGreat
