/- PROVED HERE: GovernorMargins: the shifted polynomial, and the margin, are as the reference says, or the errors (for every list of at most 7 numbers, and every shift). -/
import Derived.ArgAppend
import Derived.Below
import Derived.BigQuiet
import Derived.ChangeOld
import Derived.ChangeSlices
import Derived.Deep.AppendLies
import Derived.Deep.CutBlock
import Derived.Deep.DeepCutAuto
import Derived.Deep.Draws
import Derived.Deep.LoopGhost
import Derived.Deep.OwnRows
import Derived.Deep.QuietTactic
import Derived.Deep.RegionHeld3
import Derived.Deep.RegionWith
import Derived.Deep.WholeRow
import Derived.Ground.SlsfProg
import Derived.KernelRfl
import Derived.Laws.BitsLemmas
import Derived.Laws.BytesArg
import Derived.Laws.ComplexArith
import Derived.Laws.IdiomCopy
import Derived.Laws.MakeOwn
import Derived.Laws.OwnMore
import Derived.Laws.Rows
import Derived.Laws.Slices
import Derived.Laws.StructEq
import Derived.Lib.AppendStr
import Derived.Lib.ConvBytes
import Derived.Lib.Hide
import Derived.Lib.LazyBuf
import Derived.LoopIn
import Derived.LoopNIn
import Derived.Maps.AppendAt
import Derived.OpenShut
import Derived.OrdersHeld
import Derived.Outline
import Derived.OwnWalk
import Derived.OwnWalkIn
import Derived.ProofKit
import Derived.RangeFuncBound
import Derived.RangeFuncCalls
import Derived.RangeFuncLeaves
import Derived.RangeFuncNested
import Derived.RowKit
import Derived.RowKit3
import Derived.Shelf.Abstract
import Derived.Shelf.RegionOpen
import Derived.Shelf.SlSortCmp.HeapSort1
import Derived.Shelf.SlSortCmp.Insertion
import Derived.Shelf.SlSortCmp.Insertion1
import Derived.Shelf.SlSortCmp.Median1
import Derived.Shelf.SlSortCmp.PartialInsertion1
import Derived.Shelf.SlSortCmp.Partition1
import Derived.Shelf.SlSortCmp.PartitionEqual1
import Derived.Shelf.SlSortCmp.Pdq1
import Derived.Shelf.SlSortCmp.Pivot1
import Derived.Shelf.SlSortCmp.ReverseRange1
import Derived.Shelf.SlSortCmp.SiftDown1
import Derived.Shelf.SlSortCmp.Whole1
import Derived.Shelf.Slices.Empties2
import Derived.Shelf.Slices.Equal
import Derived.Shelf.Slices.In.SortNone
import Derived.Shelf.Small.Bits
import Derived.Shelf.Sort.Plain
import Derived.Shelf.Strconv.Itoa0
import Derived.ShutString
import Derived.SizedLaws
import Derived.Sort.CutIn
import Derived.Tactics
import Derived.TacticsInMore
import Derived.WalkKit
import Derived.WalkLawsBesides
import Derived.WideLaws
import Derived.Test.YtmpondcccbmlhaaGreatProg
import Derived.Test.YtmpondcccbmlhaaGreatRows
import Derived.Test.YtmpondcccbmlhaaGreatzM0
import Derived.Test.YtmpondcccbmlhaaGreatzM1
import Derived.Test.YtmpondcccbmlhaaGreatzM2
import Derived.Test.YtmpondcccbmlhaaGreatzM3
import Derived.Test.YtmpondcccbmlhaaGreatzM4
import Derived.Test.YtmpondcccbmlhaaGreatzM5
import Derived.Test.YtmpondcccbmlhaaGreatzM6
import Derived.Test.YtmpondcccbmlhaaGreatzM7
import Derived.Test.YtmpondcccbmlhaaGreatzM8
import Derived.Test.YtmpondcccbmlhaaGreatzM9
import Derived.Test.YtmpondcccbmlhaaGreatzM10
import Derived.Test.YtmpondcccbmlhaaGreatzM11
import Derived.Test.YtmpondcccbmlhaaGreatzM12
import Derived.Test.YtmpondcccbmlhaaGreatzM13
import Derived.Test.YtmpondcccbmlhaaGreatzM14
import Derived.Test.YtmpondcccbmlhaaGreatzM15
import Derived.Test.YtmpondcccbmlhaaGreatzM16
import Derived.Test.YtmpondcccbmlhaaGreatzM17
import Derived.Test.YtmpondcccbmlhaaGreatzM18
import Derived.Test.YtmpondcccbmlhaaGreatzM19
import Derived.Test.YtmpondcccbmlhaaGreatzM20
import Derived.Test.YtmpondcccbmlhaaGreatzM21
import Derived.Test.YtmpondcccbmlhaaGreatzM22
import Derived.Test.YtmpondcccbmlhaaGreatzM23
import Derived.Test.YtmpondcccbmlhaaGreatzM24
import Derived.Test.YtmpondcccbmlhaaGreatzM25
import Derived.Test.YtmpondcccbmlhaaGreatzM26
import Derived.Test.YtmpondcccbmlhaaGreatzM27
import Derived.Test.YtmpondcccbmlhaaGreatzM28
import Derived.Test.YtmpondcccbmlhaaGreatzM29
import Derived.Test.YtmpondcccbmlhaaGreatzM30
import Derived.Test.YtmpondcccbmlhaaGreatzM31
import Derived.Test.YtmpondcccbmlhaaGreatzM32
import Derived.Test.YtmpondcccbmlhaaGreatzM33
import Derived.Test.YtmpondcccbmlhaaGreatzM34
import Derived.Test.YtmpondcccbmlhaaGreatzM35
import Derived.Test.YtmpondcccbmlhaaGreatzM36
import Derived.Test.YtmpondcccbmlhaaGreatzM37
import Derived.Test.YtmpondcccbmlhaaGreatzM38
import Derived.Test.YtmpondcccbmlhaaGreatzM39
import Derived.Test.YtmpondcccbmlhaaGreatzM40
import Derived.Test.YtmpondcccbmlhaaGreatzM41
import Derived.Test.YtmpondcccbmlhaaGreatzM42
import Derived.Test.YtmpondcccbmlhaaGreatzM43
import Derived.Test.YtmpondcccbmlhaaGreatzM44
import Derived.Test.YtmpondcccbmlhaaGreatzM45
import Derived.Test.YtmpondcccbmlhaaGreatzM46
import Derived.Test.YtmpondcccbmlhaaGreatzM47
namespace Go.Proofs.YtmpondcccbmlhaaGreat.governorMargins
open Go.ChangeShapes Go.WideShapes Go.ChangeAt Go.RowKit
open Go.ChangeMaps (open_string shut_string)
set_option linter.unusedVariables false
theorem own : ownKnob Tryz.prog.godebug = none := by kernel_rfl
theorem laidOut : laidOutB Tryz.prog = true := by kernel_rfl
def IsRow (k : IntKind) (w : World) (a : Option Addr) (len cap : Nat) (zs : List Int) : Prop :=
  (a = none ∧ len = 0 ∧ cap = 0 ∧ zs = []) ∨
  ∃ x, a = some x ∧ len ≤ cap ∧ cap ≤ maxLen ∧ zs.length = cap ∧ (∀ i, i < zs.length → w.cell? (x.add i) = some (.int k (zs.getD i 0))) ∧ ∀ n ∈ zs, (Lit.int k n).wf = true
set_option maxRecDepth 100000 in
theorem lifted (os : Os) (started : os.Started) (H : Type) (enc : TypeId × Value → H) :
    ReturnsInHanded {} Tryz.checked os 14 .any (Rows.governorMarginsSpec.pre6 enc Tryz.prog Tryz.f14 Rows.governorMarginsRow.domain false) (Rows.governorMarginsSpec.post enc Tryz.prog Tryz.f14 false true false false) := by
  refine returnsInHanded_of_change_sized (C := Tryz.checked) own started (by kernel_rfl) Tryz.func14
    (ChangeSpec.witness6 (enc := enc) (C := Tryz.checked) false ⟨#[], #[.slice none 0 0, .int .i64 0], []⟩ 8 (by kernel_rfl) (by kernel_rfl) (by kernel_rfl) (by kernel_rfl)) ?_
  intro W base args ds gs before hval0 hW hcnd hsz0 _
  have hsz : (DataW.weightsEach Tryz.prog (Tryz.f14.params.toList ++ Rows.governorMarginsSpec.plain.varTypes Tryz.prog) (ds ++ gs)).all (· ≤ reachBytes) = true := hsz0
  have hval : ∀ (j : Nat) t v, Tryz.f14.params[j]? = some t → args[j]? = some v → Value.okWide Tryz.prog W .any base t v := hval0
  have hW' := hW
  obtain ⟨p, q, hA0, hV, rfl, hfz, hnd⟩ := hW
  have hA : DataW.TrodAll enc Tryz.prog W 0 (fun _ => true) true Tryz.f14.params.toList args.toList ds p := hA0
  rw [Tryz.params14] at hA hval hsz
  obtain ⟨v0, vs0, d0, ds0, p0, q0, hargs, rfl, rfl, h0, r0⟩ := trodAll_cons hA
  obtain ⟨v1, vs1, d1, ds1, p1, q1, rfl, rfl, rfl, h1, r1⟩ := trodAll_cons r0
  obtain ⟨rfl, rfl, rfl⟩ := trodAll_nil r1
  obtain rfl : args = #[v0, v1] := by cases args; simp_all
  obtain ⟨rfl, rfl⟩ := trodVars_none hV
  obtain ⟨a0, len0, cap0, rfl⟩ := okWide_slice Tryz.underlying22 (hval 0 22 v0 rfl rfl)
  have k0 := h0
  have lt0 : ∀ x ∈ p0, x.block < W.heap.size := by obtain ⟨m, hm⟩ := k0; exact DataW.trod_lt m _ _ _ hm
  obtain ⟨z0, w0⟩ : ∃ zs, IsRow .i64 W a0 len0 cap0 zs := by
    obtain ⟨fuel, hf⟩ := h0
    rcases open_ints Tryz.underlying22 Tryz.underlying3 (by kernel_rfl) hf with ⟨hcs, _⟩ | ⟨x, l, c, zs, hcs, _, hl, hm, hz, _, hcell, hwz⟩
    · simp [Value.cells] at hcs
      obtain ⟨rfl, rfl, rfl⟩ := hcs
      exact ⟨[], .inl ⟨rfl, rfl, rfl, rfl⟩⟩
    · simp [Value.cells] at hcs
      obtain ⟨rfl, rfl, rfl⟩ := hcs
      exact ⟨zs, .inr ⟨_, rfl, hl, hm, by simpa using hz, hcell, hwz⟩⟩
  have y0 : len0 * 8 ≤ 140737488351232 := Go.Proofs.YtmpondcccbmlhaaGreatW.PrintWords.sized_ints hsz (j := 0) (t := 22) rfl rfl Tryz.underlying22 Tryz.underlying3 (by kernel_rfl) (by kernel_rfl) h0
  obtain ⟨a1, rfl, rfl, rfl, w1⟩ := open_int Tryz.underlying3 (hval 1 3 v1 rfl rfl) h1
  clear hA0 hval0 hsz0 hsz
  refine (Q.guidevanelaw06_GovernorMargins.walk Pure.GovernorMargins a0 len0 cap0 z0 a1 W w0 y0 w1).mono fun e W' ⟨he, bel⟩ => ?_
  subst he
  exact ⟨_, rfl, _, _, _, [], _, [], hW', trodAll_mk1 (shut_bool Tryz.underlying4 _), (trodAll_cons_mk (Below.trod laidOut (by kernel_rfl) (of_decide_eq_true (by kernel_rfl)) k0 bel lt0) (trodAll_cons_mk (shut_int Tryz.underlying3 w1) trodAll_mk0)), rfl, bel.frame _, fun h => by cases h⟩
theorem closedA : ((Rows.governorMarginsRow.wf (OpenSpec.ofChange Rows.governorMarginsSpec)) && (laidOutB Tryz.pinned.checked.prog) && (mapsRowed Tryz.pinned.checked.prog) && (Tryz.f14.params.all (Tryz.pinned.checked.prog.readableRec ·)) && (namedTie Tryz.pinned.checked.prog Rows.governorMarginsRow.named Rows.governorMarginsSpec.vars) && (Rows.governorMarginsRow.stops == []) && (Tryz.pinned.checked.prog.stops == []) && (Rows.governorMarginsRow.knobs == []) && (Tryz.pinned.checked.prog.stopKnobs == []) && (Rows.governorMarginsRow.inPlace == Tryz.pinned.checked.prog.inPlace 14) && (Rows.governorMarginsRow.unfollowed == Tryz.pinned.checked.prog.unfollowed 14) && (Rows.governorMarginsRow.recurses == Tryz.pinned.checked.prog.recurses 14) && (Rows.governorMarginsRow.named == Tryz.pinned.checked.prog.varsNamed 14) && (Rows.governorMarginsRow.maps == (Tryz.f14.params.toList ++ Rows.governorMarginsSpec.plain.varTypes Tryz.pinned.checked.prog).any (Tryz.pinned.checked.prog.mapsRec ·)) && (Rows.governorMarginsRow.ifaces == (Tryz.f14.params.toList ++ Rows.governorMarginsSpec.plain.varTypes Tryz.pinned.checked.prog).any (Tryz.pinned.checked.prog.ifacesRec ·)) && (Rows.governorMarginsRow.mapsOut == Tryz.pinned.checked.prog.mapsAmong Tryz.f14.resultTypes.toList) && (Rows.governorMarginsRow.loops == (Tryz.f14.params.toList ++ Rows.governorMarginsSpec.plain.varTypes Tryz.pinned.checked.prog).any (Tryz.pinned.checked.prog.loopsFrom ·)) && (Rows.governorMarginsRow.wideKeys == (Tryz.f14.params.toList ++ Rows.governorMarginsSpec.plain.varTypes Tryz.pinned.checked.prog ++ Tryz.f14.resultTypes.toList).any (Tryz.pinned.checked.prog.wideKeysFrom ·)) && (Rows.governorMarginsSpec.vars.all (Tryz.pinned.checked.prog.varReadable ·)) && (Tryz.f14.resultTypes.all (fun t => Tryz.pinned.checked.prog.readableRec t && decide (t < Tryz.pinned.checked.prog.types.size))) && (Rows.governorMarginsRow.ifacesOut == Tryz.f14.resultTypes.toList.any (Tryz.pinned.checked.prog.ifacesRec ·)) && (Rows.governorMarginsRow.loopsOut == Tryz.f14.resultTypes.toList.any (Tryz.pinned.checked.prog.loopsFrom ·)) && (Rows.governorMarginsRow.plainKeys == Tryz.pinned.checked.prog.plainKeys) && (Rows.governorMarginsRow.shortTexts.isNone)) = true := by kernel_rfl
theorem closedB : ((Tryz.pinned.checked.prog.stopsHeard) && (Tryz.pinned.checked.prog.mayEnter) && (Rows.governorMarginsRow.lifted == Tryz.pinned.checked.prog.liftsFinal) && (Tryz.pinned.checked.prog.make == some Rows.governorMarginsRow.make) && (Rows.governorMarginsRow.kinds == (if Rows.governorMarginsRow.domain.isEmpty then [] else Tryz.f14.params.toList.map fun t => match Tryz.pinned.checked.prog.underlying t with | some (.int k) => some k | _ => none)) && (Rows.governorMarginsRow.pinned == Rows.governorMarginsRow.pinnedBy) && (Rows.governorMarginsRow.veiled == (Tryz.f14.params.toList ++ Rows.governorMarginsSpec.plain.varTypes Tryz.pinned.checked.prog ++ Tryz.f14.resultTypes.toList).any (Tryz.pinned.checked.prog.veiledRec ·)) && (Rows.governorMarginsRow.veiledFits Tryz.pinned.checked.prog Tryz.f14.params.toList (Tryz.f14.params.toList ++ Rows.governorMarginsSpec.plain.varTypes Tryz.pinned.checked.prog ++ Tryz.f14.resultTypes.toList))) = true := by kernel_rfl
set_option maxRecDepth 100000 in
theorem closed_ : joinedFacts Tryz.pinned.checked.prog 14 Tryz.f14 Rows.governorMarginsSpec Rows.governorMarginsRow = true := by
  have b := closedB
  simp only [Bool.and_eq_true] at b
  obtain ⟨⟨⟨⟨⟨⟨⟨b24, b25⟩, b26⟩, b27⟩, b28⟩, b29⟩, b30⟩, b31⟩ := b
  unfold joinedFacts
  exact Bool.and_eq_true_iff.mpr ⟨Bool.and_eq_true_iff.mpr ⟨Bool.and_eq_true_iff.mpr ⟨Bool.and_eq_true_iff.mpr ⟨Bool.and_eq_true_iff.mpr ⟨Bool.and_eq_true_iff.mpr ⟨Bool.and_eq_true_iff.mpr ⟨Bool.and_eq_true_iff.mpr ⟨closedA, b24⟩, b25⟩, b26⟩, b27⟩, b28⟩, b29⟩, b30⟩, b31⟩
theorem over : Rows.governorMarginsRow.holds Tryz.pinned (OpenSpec.ofChange Rows.governorMarginsSpec) :=
  OpenClaim.holds_of_wide 14 Tryz.f14 rfl rfl rfl rfl rfl rfl rfl ⟨rfl, rfl, rfl, rfl, rfl⟩ rfl rfl rfl rfl rfl (by kernel_rfl) Tryz.func14 closed_
    (of_decide_eq_true (by kernel_rfl)) (by unfold Func.isWrapper; first | (rw [if_pos (by decide +kernel)]; kernel_rfl) | (rw [if_neg (by decide +kernel)]; exact ⟨rfl, rfl⟩))
    (fun os started H enc _ => lifted os started H enc)
theorem proved : Rows.GovernorMarginsSaid := over
end Go.Proofs.YtmpondcccbmlhaaGreat.governorMargins
namespace Go.Proofs.YtmpondcccbmlhaaGreat
theorem governorMargins_holds : Rows.GovernorMarginsSaid := governorMargins.proved
end Go.Proofs.YtmpondcccbmlhaaGreat
