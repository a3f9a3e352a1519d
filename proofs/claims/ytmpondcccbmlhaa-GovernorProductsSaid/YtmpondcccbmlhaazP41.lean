/- PROVED HERE: GovernorProducts: the product of two polynomials of degree 1 or 2 is stable exactly if both are, and a polynomial of degree 1 or 2 is exactly if all its coefficients are above 0 (for all lists, as far as the product is valid). -/
import Derived.ArgAppend
import Derived.Below
import Derived.BigQuiet
import Derived.ChangeOld
import Derived.ChangeSlices
import Derived.Deep.AppendLies
import Derived.Deep.CutBlock
import Derived.Deep.DeepCutAuto
import Derived.Deep.Draws
import Derived.Deep.LoopGhost
import Derived.Deep.OwnRows
import Derived.Deep.QuietTactic
import Derived.Deep.RegionHeld3
import Derived.Deep.RegionWith
import Derived.Deep.WholeRow
import Derived.Ground.Names2Prog
import Derived.Ground.SlgnProg
import Derived.Ground.SlsfProg
import Derived.KernelRfl
import Derived.Laws.BitsLemmas
import Derived.Laws.BytesArg
import Derived.Laws.ComplexArith
import Derived.Laws.IdiomCopy
import Derived.Laws.MakeOwn
import Derived.Laws.OwnMore
import Derived.Laws.Rows
import Derived.Laws.Slices
import Derived.Laws.StructEq
import Derived.Lib.AppendStr
import Derived.Lib.ConvBytes
import Derived.Lib.Hide
import Derived.Lib.LazyBuf
import Derived.LoopIn
import Derived.LoopNIn
import Derived.Maps.AppendAt
import Derived.OpenShut
import Derived.OrdersHeld
import Derived.Outline
import Derived.OwnWalk
import Derived.OwnWalkIn
import Derived.ProofKit
import Derived.RangeFuncBound
import Derived.RangeFuncCalls
import Derived.RangeFuncLeaves
import Derived.RangeFuncNested
import Derived.RowKit
import Derived.RowKit3
import Derived.Shelf.Abstract
import Derived.Shelf.RegionOpen
import Derived.Shelf.SlSortCmp.HeapSort1
import Derived.Shelf.SlSortCmp.Insertion
import Derived.Shelf.SlSortCmp.Insertion1
import Derived.Shelf.SlSortCmp.Median1
import Derived.Shelf.SlSortCmp.PartialInsertion1
import Derived.Shelf.SlSortCmp.Partition1
import Derived.Shelf.SlSortCmp.PartitionEqual1
import Derived.Shelf.SlSortCmp.Pdq1
import Derived.Shelf.SlSortCmp.Pivot1
import Derived.Shelf.SlSortCmp.ReverseRange1
import Derived.Shelf.SlSortCmp.SiftDown1
import Derived.Shelf.SlSortCmp.Whole1
import Derived.Shelf.Slices.Clone
import Derived.Shelf.Slices.Empties2
import Derived.Shelf.Slices.Equal
import Derived.Shelf.Slices.In.SortNone
import Derived.Shelf.Slices.SearchI
import Derived.Shelf.Slices.Turned
import Derived.Shelf.SlicesE.Clone
import Derived.Shelf.Small.Bits
import Derived.Shelf.Small.Wraps
import Derived.Shelf.Sort.Plain
import Derived.Shelf.Strconv.Itoa0
import Derived.ShutString
import Derived.SizedLaws
import Derived.Sort.CutIn
import Derived.Tactics
import Derived.TacticsInMore
import Derived.WalkKit
import Derived.WalkLawsBesides
import Derived.WideLaws
import Derived.Test.YtmpondcccbmlhaaProg
import Derived.Test.YtmpondcccbmlhaaRows
import Derived.Test.YtmpondcccbmlhaazP0
import Derived.Test.YtmpondcccbmlhaazP1
import Derived.Test.YtmpondcccbmlhaazP2
import Derived.Test.YtmpondcccbmlhaazP3
import Derived.Test.YtmpondcccbmlhaazP4
import Derived.Test.YtmpondcccbmlhaazP5
import Derived.Test.YtmpondcccbmlhaazP6
import Derived.Test.YtmpondcccbmlhaazP7
import Derived.Test.YtmpondcccbmlhaazP8
import Derived.Test.YtmpondcccbmlhaazP9
import Derived.Test.YtmpondcccbmlhaazP10
import Derived.Test.YtmpondcccbmlhaazP11
import Derived.Test.YtmpondcccbmlhaazP12
import Derived.Test.YtmpondcccbmlhaazP13
import Derived.Test.YtmpondcccbmlhaazP14
import Derived.Test.YtmpondcccbmlhaazP15
import Derived.Test.YtmpondcccbmlhaazP16
import Derived.Test.YtmpondcccbmlhaazP17
import Derived.Test.YtmpondcccbmlhaazP18
import Derived.Test.YtmpondcccbmlhaazP19
import Derived.Test.YtmpondcccbmlhaazP20
import Derived.Test.YtmpondcccbmlhaazP21
import Derived.Test.YtmpondcccbmlhaazP22
import Derived.Test.YtmpondcccbmlhaazP23
import Derived.Test.YtmpondcccbmlhaazP24
import Derived.Test.YtmpondcccbmlhaazP25
import Derived.Test.YtmpondcccbmlhaazP26
import Derived.Test.YtmpondcccbmlhaazP27
import Derived.Test.YtmpondcccbmlhaazP28
import Derived.Test.YtmpondcccbmlhaazP29
import Derived.Test.YtmpondcccbmlhaazP30
import Derived.Test.YtmpondcccbmlhaazP31
import Derived.Test.YtmpondcccbmlhaazP32
import Derived.Test.YtmpondcccbmlhaazP33
import Derived.Test.YtmpondcccbmlhaazP34
import Derived.Test.YtmpondcccbmlhaazP35
import Derived.Test.YtmpondcccbmlhaazP36
import Derived.Test.YtmpondcccbmlhaazP37
import Derived.Test.YtmpondcccbmlhaazP38
import Derived.Test.YtmpondcccbmlhaazP39
import Derived.Test.YtmpondcccbmlhaazP40
namespace Go.Proofs.Ytmpondcccbmlhaa.governorProducts
open Go.ChangeShapes Go.WideShapes Go.ChangeAt Go.RowKit
open Go.ChangeMaps (open_string shut_string)
set_option linter.unusedVariables false
theorem own : ownKnob Try.prog.godebug = none := by kernel_rfl
theorem laidOut : laidOutB Try.prog = true := by kernel_rfl
def IsRow (k : IntKind) (w : World) (a : Option Addr) (len cap : Nat) (zs : List Int) : Prop :=
  (a = none ∧ len = 0 ∧ cap = 0 ∧ zs = []) ∨
  ∃ x, a = some x ∧ len ≤ cap ∧ cap ≤ maxLen ∧ zs.length = cap ∧ (∀ i, i < zs.length → w.cell? (x.add i) = some (.int k (zs.getD i 0))) ∧ ∀ n ∈ zs, (Lit.int k n).wf = true
set_option maxRecDepth 100000 in
theorem lifted (os : Os) (started : os.Started) (H : Type) (enc : TypeId × Value → H) :
    ReturnsInHanded {} Try.checked os 3 .any (Rows.governorProductsSpec.pre6 enc Try.prog Try.f3 Rows.governorProductsRow.domain false) (Rows.governorProductsSpec.post enc Try.prog Try.f3 false true false false) := by
  refine returnsInHanded_of_change_sized (C := Try.checked) own started (by kernel_rfl) Try.func3
    (ChangeSpec.witness6 (enc := enc) (C := Try.checked) false ⟨#[], #[.slice none 0 0, .slice none 0 0], []⟩ 8 (by kernel_rfl) (by kernel_rfl) (by kernel_rfl) (by kernel_rfl)) ?_
  intro W base args ds gs before hval0 hW hcnd hsz0 _
  have hsz : (DataW.weightsEach Try.prog (Try.f3.params.toList ++ Rows.governorProductsSpec.plain.varTypes Try.prog) (ds ++ gs)).all (· ≤ reachBytes) = true := hsz0
  have hval : ∀ (j : Nat) t v, Try.f3.params[j]? = some t → args[j]? = some v → Value.okWide Try.prog W .any base t v := hval0
  have hW' := hW
  obtain ⟨p, q, hA0, hV, rfl, hfz, hnd⟩ := hW
  have hA : DataW.TrodAll enc Try.prog W 0 (fun _ => true) true Try.f3.params.toList args.toList ds p := hA0
  rw [Try.params3] at hA hval hsz
  obtain ⟨v0, vs0, d0, ds0, p0, q0, hargs, rfl, rfl, h0, r0⟩ := trodAll_cons hA
  obtain ⟨v1, vs1, d1, ds1, p1, q1, rfl, rfl, rfl, h1, r1⟩ := trodAll_cons r0
  obtain ⟨rfl, rfl, rfl⟩ := trodAll_nil r1
  obtain rfl : args = #[v0, v1] := by cases args; simp_all
  obtain ⟨rfl, rfl⟩ := trodVars_none hV
  obtain ⟨a0, len0, cap0, rfl⟩ := okWide_slice Try.underlying22 (hval 0 22 v0 rfl rfl)
  have k0 := h0
  have lt0 : ∀ x ∈ p0, x.block < W.heap.size := by obtain ⟨m, hm⟩ := k0; exact DataW.trod_lt m _ _ _ hm
  obtain ⟨z0, w0⟩ : ∃ zs, IsRow .i64 W a0 len0 cap0 zs := by
    obtain ⟨fuel, hf⟩ := h0
    rcases open_ints Try.underlying22 Try.underlying3 (by kernel_rfl) hf with ⟨hcs, _⟩ | ⟨x, l, c, zs, hcs, _, hl, hm, hz, _, hcell, hwz⟩
    · simp [Value.cells] at hcs
      obtain ⟨rfl, rfl, rfl⟩ := hcs
      exact ⟨[], .inl ⟨rfl, rfl, rfl, rfl⟩⟩
    · simp [Value.cells] at hcs
      obtain ⟨rfl, rfl, rfl⟩ := hcs
      exact ⟨zs, .inr ⟨_, rfl, hl, hm, by simpa using hz, hcell, hwz⟩⟩
  have y0 : len0 * 8 ≤ 140737488351232 := Go.Proofs.YtmpondcccbmlhaaW.PrintWords.sized_ints hsz (j := 0) (t := 22) rfl rfl Try.underlying22 Try.underlying3 (by kernel_rfl) (by kernel_rfl) h0
  obtain ⟨a1, len1, cap1, rfl⟩ := okWide_slice Try.underlying22 (hval 1 22 v1 rfl rfl)
  have k1 := h1
  have lt1 : ∀ x ∈ p1, x.block < W.heap.size := by obtain ⟨m, hm⟩ := k1; exact DataW.trod_lt m _ _ _ hm
  obtain ⟨z1, w1⟩ : ∃ zs, IsRow .i64 W a1 len1 cap1 zs := by
    obtain ⟨fuel, hf⟩ := h1
    rcases open_ints Try.underlying22 Try.underlying3 (by kernel_rfl) hf with ⟨hcs, _⟩ | ⟨x, l, c, zs, hcs, _, hl, hm, hz, _, hcell, hwz⟩
    · simp [Value.cells] at hcs
      obtain ⟨rfl, rfl, rfl⟩ := hcs
      exact ⟨[], .inl ⟨rfl, rfl, rfl, rfl⟩⟩
    · simp [Value.cells] at hcs
      obtain ⟨rfl, rfl, rfl⟩ := hcs
      exact ⟨zs, .inr ⟨_, rfl, hl, hm, by simpa using hz, hcell, hwz⟩⟩
  have y1 : len1 * 8 ≤ 140737488351232 := Go.Proofs.YtmpondcccbmlhaaW.PrintWords.sized_ints hsz (j := 1) (t := 22) rfl rfl Try.underlying22 Try.underlying3 (by kernel_rfl) (by kernel_rfl) h1
  clear hA0 hval0 hsz0 hsz
  refine (Q.guidevanelaw06_GovernorProducts.walk Pure.GovernorProducts a0 len0 cap0 z0 a1 len1 cap1 z1 W w0 y0 w1 y1).mono fun e W' ⟨he, bel⟩ => ?_
  subst he
  exact ⟨_, rfl, _, _, _, [], _, [], hW', trodAll_mk1 (shut_bool Try.underlying4 _), (trodAll_cons_mk (Below.trod laidOut (by kernel_rfl) (of_decide_eq_true (by kernel_rfl)) k0 bel lt0) (trodAll_cons_mk (Below.trod laidOut (by kernel_rfl) (of_decide_eq_true (by kernel_rfl)) k1 bel lt1) trodAll_mk0)), rfl, bel.frame _, fun h => by cases h⟩
theorem closedA : ((Rows.governorProductsRow.wf (OpenSpec.ofChange Rows.governorProductsSpec)) && (laidOutB Try.pinned.checked.prog) && (mapsRowed Try.pinned.checked.prog) && (Try.f3.params.all (Try.pinned.checked.prog.readableRec ·)) && (namedTie Try.pinned.checked.prog Rows.governorProductsRow.named Rows.governorProductsSpec.vars) && (Rows.governorProductsRow.stops == []) && (Try.pinned.checked.prog.stops == []) && (Rows.governorProductsRow.knobs == []) && (Try.pinned.checked.prog.stopKnobs == []) && (Rows.governorProductsRow.inPlace == Try.pinned.checked.prog.inPlace 3) && (Rows.governorProductsRow.unfollowed == Try.pinned.checked.prog.unfollowed 3) && (Rows.governorProductsRow.recurses == Try.pinned.checked.prog.recurses 3) && (Rows.governorProductsRow.named == Try.pinned.checked.prog.varsNamed 3) && (Rows.governorProductsRow.maps == (Try.f3.params.toList ++ Rows.governorProductsSpec.plain.varTypes Try.pinned.checked.prog).any (Try.pinned.checked.prog.mapsRec ·)) && (Rows.governorProductsRow.ifaces == (Try.f3.params.toList ++ Rows.governorProductsSpec.plain.varTypes Try.pinned.checked.prog).any (Try.pinned.checked.prog.ifacesRec ·)) && (Rows.governorProductsRow.mapsOut == Try.pinned.checked.prog.mapsAmong Try.f3.resultTypes.toList) && (Rows.governorProductsRow.loops == (Try.f3.params.toList ++ Rows.governorProductsSpec.plain.varTypes Try.pinned.checked.prog).any (Try.pinned.checked.prog.loopsFrom ·)) && (Rows.governorProductsRow.wideKeys == (Try.f3.params.toList ++ Rows.governorProductsSpec.plain.varTypes Try.pinned.checked.prog ++ Try.f3.resultTypes.toList).any (Try.pinned.checked.prog.wideKeysFrom ·)) && (Rows.governorProductsSpec.vars.all (Try.pinned.checked.prog.varReadable ·)) && (Try.f3.resultTypes.all (fun t => Try.pinned.checked.prog.readableRec t && decide (t < Try.pinned.checked.prog.types.size))) && (Rows.governorProductsRow.ifacesOut == Try.f3.resultTypes.toList.any (Try.pinned.checked.prog.ifacesRec ·)) && (Rows.governorProductsRow.loopsOut == Try.f3.resultTypes.toList.any (Try.pinned.checked.prog.loopsFrom ·)) && (Rows.governorProductsRow.plainKeys == Try.pinned.checked.prog.plainKeys) && (Rows.governorProductsRow.shortTexts.isNone)) = true := by kernel_rfl
theorem closedB : ((Try.pinned.checked.prog.stopsHeard) && (Try.pinned.checked.prog.mayEnter) && (Rows.governorProductsRow.lifted == Try.pinned.checked.prog.liftsFinal) && (Try.pinned.checked.prog.make == some Rows.governorProductsRow.make) && (Rows.governorProductsRow.kinds == (if Rows.governorProductsRow.domain.isEmpty then [] else Try.f3.params.toList.map fun t => match Try.pinned.checked.prog.underlying t with | some (.int k) => some k | _ => none)) && (Rows.governorProductsRow.pinned == Rows.governorProductsRow.pinnedBy) && (Rows.governorProductsRow.veiled == (Try.f3.params.toList ++ Rows.governorProductsSpec.plain.varTypes Try.pinned.checked.prog ++ Try.f3.resultTypes.toList).any (Try.pinned.checked.prog.veiledRec ·)) && (Rows.governorProductsRow.veiledFits Try.pinned.checked.prog Try.f3.params.toList (Try.f3.params.toList ++ Rows.governorProductsSpec.plain.varTypes Try.pinned.checked.prog ++ Try.f3.resultTypes.toList))) = true := by kernel_rfl
set_option maxRecDepth 100000 in
theorem closed_ : joinedFacts Try.pinned.checked.prog 3 Try.f3 Rows.governorProductsSpec Rows.governorProductsRow = true := by
  have b := closedB
  simp only [Bool.and_eq_true] at b
  obtain ⟨⟨⟨⟨⟨⟨⟨b24, b25⟩, b26⟩, b27⟩, b28⟩, b29⟩, b30⟩, b31⟩ := b
  unfold joinedFacts
  exact Bool.and_eq_true_iff.mpr ⟨Bool.and_eq_true_iff.mpr ⟨Bool.and_eq_true_iff.mpr ⟨Bool.and_eq_true_iff.mpr ⟨Bool.and_eq_true_iff.mpr ⟨Bool.and_eq_true_iff.mpr ⟨Bool.and_eq_true_iff.mpr ⟨Bool.and_eq_true_iff.mpr ⟨closedA, b24⟩, b25⟩, b26⟩, b27⟩, b28⟩, b29⟩, b30⟩, b31⟩
theorem over : Rows.governorProductsRow.holds Try.pinned (OpenSpec.ofChange Rows.governorProductsSpec) :=
  OpenClaim.holds_of_wide 3 Try.f3 rfl rfl rfl rfl rfl rfl rfl ⟨rfl, rfl, rfl, rfl, rfl⟩ rfl rfl rfl rfl rfl (by kernel_rfl) Try.func3 closed_
    (of_decide_eq_true (by kernel_rfl)) (by unfold Func.isWrapper; first | (rw [if_pos (by decide +kernel)]; kernel_rfl) | (rw [if_neg (by decide +kernel)]; exact ⟨rfl, rfl⟩))
    (fun os started H enc _ => lifted os started H enc)
theorem proved : Rows.GovernorProductsSaid := over
end Go.Proofs.Ytmpondcccbmlhaa.governorProducts
namespace Go.Proofs.Ytmpondcccbmlhaa
theorem governorProducts_holds : Rows.GovernorProductsSaid := governorProducts.proved
end Go.Proofs.Ytmpondcccbmlhaa
