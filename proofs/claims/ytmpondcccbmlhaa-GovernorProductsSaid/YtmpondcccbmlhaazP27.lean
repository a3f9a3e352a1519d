/- A part of the claim P: the texts ExU, without what the claim does not lean on. -/
import Derived.ArgAppend
import Derived.Below
import Derived.BigQuiet
import Derived.Deep.AppendLies
import Derived.Deep.CutBlock
import Derived.Deep.DeepCutAuto
import Derived.Deep.Draws
import Derived.Deep.LoopGhost
import Derived.Deep.OwnRows
import Derived.Deep.QuietTactic
import Derived.Deep.RegionHeld3
import Derived.Deep.WholeRow
import Derived.Ground.Names2Prog
import Derived.Ground.SlgnProg
import Derived.Ground.SlsfProg
import Derived.KernelRfl
import Derived.Laws.BitsLemmas
import Derived.Laws.BytesArg
import Derived.Laws.ComplexArith
import Derived.Laws.IdiomCopy
import Derived.Laws.MakeOwn
import Derived.Laws.OwnMore
import Derived.Laws.Rows
import Derived.Laws.Slices
import Derived.Laws.StructEq
import Derived.Lib.AppendStr
import Derived.Lib.ConvBytes
import Derived.Lib.Hide
import Derived.Lib.LazyBuf
import Derived.LoopIn
import Derived.LoopNIn
import Derived.Maps.AppendAt
import Derived.OrdersHeld
import Derived.Outline
import Derived.OwnWalk
import Derived.OwnWalkIn
import Derived.RangeFuncBound
import Derived.RangeFuncCalls
import Derived.RangeFuncLeaves
import Derived.RangeFuncNested
import Derived.RowKit
import Derived.RowKit3
import Derived.Shelf.Abstract
import Derived.Shelf.RegionOpen
import Derived.Shelf.SlSortCmp.HeapSort1
import Derived.Shelf.SlSortCmp.Insertion
import Derived.Shelf.SlSortCmp.Insertion1
import Derived.Shelf.SlSortCmp.Median1
import Derived.Shelf.SlSortCmp.PartialInsertion1
import Derived.Shelf.SlSortCmp.Partition1
import Derived.Shelf.SlSortCmp.PartitionEqual1
import Derived.Shelf.SlSortCmp.Pdq1
import Derived.Shelf.SlSortCmp.Pivot1
import Derived.Shelf.SlSortCmp.ReverseRange1
import Derived.Shelf.SlSortCmp.SiftDown1
import Derived.Shelf.SlSortCmp.Whole1
import Derived.Shelf.Slices.Clone
import Derived.Shelf.Slices.Empties2
import Derived.Shelf.Slices.Equal
import Derived.Shelf.Slices.In.SortNone
import Derived.Shelf.Slices.SearchI
import Derived.Shelf.Slices.Turned
import Derived.Shelf.SlicesE.Clone
import Derived.Shelf.Small.Bits
import Derived.Shelf.Small.Wraps
import Derived.Shelf.Sort.Plain
import Derived.Shelf.Strconv.Itoa0
import Derived.Sort.CutIn
import Derived.Tactics
import Derived.TacticsInMore
import Derived.WalkKit
import Derived.WalkLawsBesides
import Derived.WideLaws
import Derived.Test.YtmpondcccbmlhaaProg
import Derived.Test.YtmpondcccbmlhaazP0
import Derived.Test.YtmpondcccbmlhaazP1
import Derived.Test.YtmpondcccbmlhaazP2
import Derived.Test.YtmpondcccbmlhaazP3
import Derived.Test.YtmpondcccbmlhaazP4
import Derived.Test.YtmpondcccbmlhaazP5
import Derived.Test.YtmpondcccbmlhaazP6
import Derived.Test.YtmpondcccbmlhaazP7
import Derived.Test.YtmpondcccbmlhaazP8
import Derived.Test.YtmpondcccbmlhaazP9
import Derived.Test.YtmpondcccbmlhaazP10
import Derived.Test.YtmpondcccbmlhaazP11
import Derived.Test.YtmpondcccbmlhaazP12
import Derived.Test.YtmpondcccbmlhaazP13
import Derived.Test.YtmpondcccbmlhaazP14
import Derived.Test.YtmpondcccbmlhaazP15
import Derived.Test.YtmpondcccbmlhaazP16
import Derived.Test.YtmpondcccbmlhaazP17
import Derived.Test.YtmpondcccbmlhaazP18
import Derived.Test.YtmpondcccbmlhaazP19
import Derived.Test.YtmpondcccbmlhaazP20
import Derived.Test.YtmpondcccbmlhaazP21
import Derived.Test.YtmpondcccbmlhaazP22
import Derived.Test.YtmpondcccbmlhaazP23
import Derived.Test.YtmpondcccbmlhaazP24
import Derived.Test.YtmpondcccbmlhaazP25
import Derived.Test.YtmpondcccbmlhaazP26
namespace Go.Proofs.Ytmpondcccbmlhaa.Ext
open Go Go.RowKit Go.Shelf Go.Proofs.YtmpondcccbmlhaaW.PrintWords Go.Proofs.YtmpondcccbmlhaaW.PrintLast Go.Proofs.YtmpondcccbmlhaaW.PrintMore
attribute [local go_sem] Oper.semAt_some
noncomputable def firstUnstable (lc : List Int) (lm : List (List Int)) : List (List Int) → Option (List Int × Int)
  | [] => some ([], 12)
  | s :: ss => (Q.governor_isStable.f K0 (sumTo lc lm s s.length)).bind fun b => if b = true then firstUnstable lc lm ss else some (s, 0)
theorem unstable_at {lc : List Int} {lm : List (List Int)} : ∀ {ss : List (List Int)} {r : List Int × Int} {k : Nat}, firstUnstable lc lm ss = some r → k < ss.length →
    (∀ j, j < k → Q.governor_isStable.f K0 (sumTo lc lm (ss.getD j []) (ss.getD j []).length) = some true) →
    ∃ b, Q.governor_isStable.f K0 (sumTo lc lm (ss.getD k []) (ss.getD k []).length) = some b ∧ (b = false → r = (ss.getD k [], 0)) := by
  intro ss
  induction ss with
  | nil => intro r k _ hk; simp at hk
  | cons s ss ih =>
    intro r k h hk hst
    simp only [firstUnstable] at h
    obtain ⟨b, hb, h⟩ := Option.bind_eq_some_iff.1 h
    rcases k with _ | k
    · refine ⟨b, by simpa using hb, fun e => ?_⟩
      rw [e, if_neg (by decide)] at h
      simpa using (Option.some.inj h).symm
    · have h0 := hst 0 (by omega)
      simp only [List.getD_cons_zero, hb, Option.some.injEq] at h0
      rw [h0, if_pos rfl] at h
      simpa using ih h (by simpa using hk) (fun j hj => by simpa using hst (j + 1) (by omega))
theorem unstable_none {lc : List Int} {lm : List (List Int)} : ∀ {ss : List (List Int)} {r : List Int × Int}, firstUnstable lc lm ss = some r →
    (∀ j, j < ss.length → Q.governor_isStable.f K0 (sumTo lc lm (ss.getD j []) (ss.getD j []).length) = some true) → r = ([], 12) := by
  intro ss
  induction ss with
  | nil => intro r h _; simpa [firstUnstable] using h.symm
  | cons s ss ih =>
    intro r h hst
    simp only [firstUnstable] at h
    have h0 := hst 0 (by simp)
    simp only [List.getD_cons_zero] at h0
    rw [h0] at h
    simp only [Option.bind_some, if_true] at h
    exact ih h (fun j hj => by simpa using hst (j + 1) (by simpa using hj))
theorem sumOk_set {lc : List Int} {lm : List (List Int)} {s : List Int} (h : LoopOk lc lm) (hl : s.length ≤ 6) (hs : ∀ i, i < s.length → 0 ≤ s.getD i 0 ∧ s.getD i 0 < lm.length) : SumOk lc lm s := by
  obtain ⟨h1, h2, h3, h4⟩ := h
  refine ⟨⟨by omega, by omega⟩, fun i _ => by have := h2 i; omega, by omega, by omega, fun k hk => hs k hk, fun m hm => ⟨(h4 m hm).1, fun i hi => by have := (h4 m hm).2 i hi; omega⟩⟩
theorem keeps_of_below {A B : World} (h : Below A.heap.size A B) : KeepsOthers A B :=
  ⟨h.size, fun k _ hk _ => (h.block k (Array.getElem?_eq_some_iff.1 hk).1).trans hk⟩
theorem kept_grown {A B : World} {row : Option Nat} (hg : A.grownBy B row) (hr : ∀ r, row = some r → ∃ o : Obj, A.heap[r]? = some o ∧ o.isCells = false) : CellsKept A B :=
  ⟨hg.size, fun _ _ hk ho => (grownBy_keeps_cells hg hr hk ho).trans hk⟩
theorem sets_call (n : Int) (w : World) : Calls Try.prog 43 #[.int .i64 n] w fun e w' => e = .returned (.func (.func 82) #[] #[.pointer (some ⟨w.heap.size, 0, none⟩)]) ∧ w' = w.alloc (.cells #[.int .i64 n] 3) := by
  go_enter Try.func43, Try.ntmps43
  go_wp2_with fail
  go_ret
  exact ⟨rfl, rfl⟩
set_option maxHeartbeats 8000000 in
set_option maxRecDepth 100000 in
theorem unstable_walk (ss : List (List Int)) {N1 : Int} (hss : ∀ k, k < ss.length → (ss.getD k []).length ≤ 6 ∧ ∀ i, i < (ss.getD k []).length → 0 ≤ (ss.getD k []).getD i 0 ∧ (ss.getD k []).getD i 0 < N1) (A0 : Option Addr) (c0 : Nat) (l0 : List Int) (A1 : Option Addr) (c1 : Nat) (l1 : List (List Int)) (r1 : List Int) (r2 : Int) (w : World) (hr0 : Kd.C (Kd.int .i64) w A0 l0.length l0) (hc0 : l0.length ≤ c0) (hr1 : Kd.C (Kd.slice 3 (Kd.int .i64)) w A1 l1.length l1) (hc1 : l1.length ≤ c1)
    (h : (if (loopErr l0 l1).2 = 0 then firstUnstable l0 l1 ss else some ([], (loopErr l0 l1).2)) = some (r1, r2))
    (hN : N1 = (l1.length : Int)) (hgives : ∀ (b : Nat) (W : World), W.cell? ⟨b, 0, none⟩ = some (.int .i64 l1.length) → w.heap.size ≤ W.heap.size → l1.length ≤ 6 → GivesRows Fence.wide 2 Try.prog 82 #[.pointer (some ⟨b, 0, none⟩)] ss w.heap.size W) :
    Calls Try.prog 16 #[.agg #[.slice A0 l0.length c0, .slice A1 l1.length c1]] w fun e w' => ∃ v0_ : Value, e = .returned (.tuple #[v0_, .int .i64 r2]) ∧ Kd.R (Kd.int .i64) 3 w' w.heap.size (fun _ => True) v0_ r1 ∧ Below w.heap.size w w' := by
  obtain ⟨ix, er, hle⟩ : ∃ ix er, loopErr l0 l1 = (ix, er) := ⟨_, _, rfl⟩
  rw [hle] at h
  have HH := Lib.hid h
  have HLE := Lib.hid hle
  have HR0 := Lib.hid hr0
  have HR1 := Lib.hid hr1
  have HG := Lib.hid hgives
  clear h hle hr0 hr1 hgives
  refine (callsIn_wide (n := 3)).1 ?_
  refine callsIn_of_wp_marks Try.func16 rfl trivial ?_ rfl
  simp only [Try.ntmps16, List.size_toArray, List.length_cons, List.length_nil, Nat.reduceAdd, Nat.reduceSub, Array.replicate_succ, Array.replicate_zero, List.push_toArray, List.append_toArray, List.nil_append, List.cons_append]
  gi_wp2_with fail
  have hb1 : Below w.heap.size w (((w.alloc (Obj.cells #[Value.slice A0 l0.length c0, Value.slice A1 l1.length c1] 33)).alloc (Obj.cells #[Value.slice none 0 0] 22)).alloc (Obj.cells #[Value.int IntKind.i64 0] 25)) := bl_alloc (bl_alloc (bl_alloc (Below.refl _ _) _) _) _
  have k1 : (((w.alloc (Obj.cells #[Value.slice A0 l0.length c0, Value.slice A1 l1.length c1] 33)).alloc (Obj.cells #[Value.slice none 0 0] 22)).alloc (Obj.cells #[Value.int IntKind.i64 0] 25)).heap[w.heap.size]? = some (Obj.cells #[Value.slice A0 l0.length c0, Value.slice A1 l1.length c1] 33) := by
    exact (Below.heap_alloc _ _ _ (by simp; omega)).trans ((Below.heap_alloc _ _ _ (by simp)).trans (World.alloc_heap_new w _))
  have k2 : (((w.alloc (Obj.cells #[Value.slice A0 l0.length c0, Value.slice A1 l1.length c1] 33)).alloc (Obj.cells #[Value.slice none 0 0] 22)).alloc (Obj.cells #[Value.int IntKind.i64 0] 25)).heap[w.heap.size + 1]? = some (Obj.cells #[Value.slice none 0 0] 22) := by
    have := World.alloc_heap_new (w.alloc (Obj.cells #[Value.slice A0 l0.length c0, Value.slice A1 l1.length c1] 33)) (Obj.cells #[Value.slice none 0 0] 22)
    rw [World.size_alloc] at this
    exact (Below.heap_alloc _ _ _ (by simp)).trans this
  have k3 : (((w.alloc (Obj.cells #[Value.slice A0 l0.length c0, Value.slice A1 l1.length c1] 33)).alloc (Obj.cells #[Value.slice none 0 0] 22)).alloc (Obj.cells #[Value.int IntKind.i64 0] 25)).heap[w.heap.size + 1 + 1]? = some (Obj.cells #[Value.int IntKind.i64 0] 25) := by
    have := World.alloc_heap_new ((w.alloc (Obj.cells #[Value.slice A0 l0.length c0, Value.slice A1 l1.length c1] 33)).alloc (Obj.cells #[Value.slice none 0 0] 22)) (Obj.cells #[Value.int IntKind.i64 0] 25); rwa [World.size_alloc, World.size_alloc] at this
  generalize (((w.alloc (Obj.cells #[Value.slice A0 l0.length c0, Value.slice A1 l1.length c1] 33)).alloc (Obj.cells #[Value.slice none 0 0] 22)).alloc (Obj.cells #[Value.int IntKind.i64 0] 25)) = W1 at hb1 k1 k2 k3 ⊢
  refine ⟨trivial, (callsIn_wide.2 (governor_CheckLoop.calls A0 c0 l0 A1 c1 l1 ix er _ (Kd.C_below HR0.out hb1) hc0 (Kd.C_below HR1.out hb1) hc1 (by unfold governor_CheckLoop.f; rw [HLE.out]))).mono ?_⟩
  rintro e w2 ⟨rfl, hb2⟩
  have HB1 := Lib.hid hb1
  have HB2 := Lib.hid hb2
  have HB12 := Lib.hid (bl_next hb1 hb2)
  have q1 := (hb2.block _ (Array.getElem?_eq_some_iff.1 k1).1).trans k1
  have q2 := (hb2.block _ (Array.getElem?_eq_some_iff.1 k2).1).trans k2
  have q3 := (hb2.block _ (Array.getElem?_eq_some_iff.1 k3).1).trans k3
  clear hb1 hb2 k1 k2 k3
  have z1 : w2.cell? ⟨w.heap.size, 0, none⟩ = some (Value.slice A0 l0.length c0) := (blk_cell q1 0).trans rfl
  have z2 : w2.cell? ⟨w.heap.size, 1, none⟩ = some (Value.slice A1 l1.length c1) := (blk_cell q1 1).trans rfl
  by_cases he : er = 0
  · subst he
    have hok := loopErr_ok HLE.out
    have hh := HH.out
    rw [if_pos rfl] at hh
    have hl6 : l1.length ≤ 6 := hok.2.2.1
    have HF := Lib.hid hh
    have HOK := Lib.hid hok
    clear hh hok HH
    gi_wp2_with fail
    refine ⟨trivial, (callsIn_wide.2 (sets_call _ _)).mono ?_⟩
    rintro e w3 ⟨rfl, rfl⟩
    gi_wp2_with fail
    have z3 : (w2.alloc (Obj.cells #[Value.int IntKind.i64 l1.length] 3)).cell? ⟨w2.heap.size, 0, none⟩ = some (.int .i64 l1.length) := by simp
    have hW : Below w2.heap.size w2 (w2.alloc (Obj.cells #[Value.int IntKind.i64 l1.length] 3)) := bl_alloc (Below.refl _ _) _
    have p1 := (hW.block _ (Array.getElem?_eq_some_iff.1 q1).1).trans q1
    have p2 := (hW.block _ (Array.getElem?_eq_some_iff.1 q2).1).trans q2
    have p3 := (hW.block _ (Array.getElem?_eq_some_iff.1 q3).1).trans q3
    have HSS := Lib.hid hss
    have HP1 := Lib.hid p1
    have HP2 := Lib.hid p2
    have HP3 := Lib.hid p3
    have HBL := Lib.hid (bl_next HB12.out hW)
    obtain ⟨B, hB⟩ : ∃ B, B = w2.heap.size := ⟨_, rfl⟩
    have HBB := Lib.hid hB
    have HZ3 := Lib.hid z3
    have hlt2 : w.heap.size + 1 + 1 < (w2.alloc (Obj.cells #[Value.int IntKind.i64 l1.length] 3)).heap.size := (Array.getElem?_eq_some_iff.1 p3).1
    have HG2 := HG.out w2.heap.size (w2.alloc (Obj.cells #[Value.int IntKind.i64 l1.length] 3)) z3 (bl_next HB12.out hW).size hl6
    obtain ⟨W0, hW0⟩ : ∃ W0, W0 = w2.alloc (Obj.cells #[Value.int IntKind.i64 l1.length] 3) := ⟨_, rfl⟩
    rw [← hW0] at HP1 HP2 HP3 HBL HZ3 hlt2 HG2 ⊢
    rw [← hB] at HG2 HZ3 ⊢
    clear hss p1 p2 p3 hW q1 q2 q3 z1 z2 z3 hB hW0
    refine range_rows (gf := 82) (lb := #[.pointer (some ⟨B, 0, none⟩)]) rfl (by omega) rfl trivial (enters_of Try.func82 (by kernel_rfl) rfl) ss HG2 (Below.refl _ _)
      (fun k W => ((∀ j, j < k → Q.governor_isStable.f K0 (sumTo l0 l1 (ss.getD j []) (ss.getD j []).length) = some true) ∧ W.heap[w.heap.size]? = some (Obj.cells #[Value.slice A0 l0.length c0, Value.slice A1 l1.length c1] 33) ∧ W.heap[w.heap.size + 1]? = some (Obj.cells #[Value.slice none 0 0] 22) ∧ W.heap[w.heap.size + 1 + 1]? = some (Obj.cells #[Value.int IntKind.i64 0] 25)) ∧ Below w.heap.size w W)
      (fun W => (∃ v, W.cell? ⟨w.heap.size + 1, 0, none⟩ = some v ∧ W.cell? ⟨w.heap.size + 1 + 1, 0, none⟩ = some (.int .i64 0) ∧ Kd.R (Kd.int .i64) 3 W w.heap.size (fun _ => True) v r1 ∧ r2 = 0) ∧ Below w.heap.size w W)
      (fun k => OwnFrom.and (fun s A B row hs hg hr => ?hI) (ownFrom_below (Nat.le_refl _) (by omega))) (OwnFrom.and (fun s A B row hs hg hr => ?hIx) (ownFrom_below (Nat.le_refl _) (by omega))) ?hIb ?hIxb ?h0
      (fun v => {
        tmps := #[Value.agg #[Value.slice A0 l0.length c0, Value.slice A1 l1.length c1], Value.pointer (some { block := w.heap.size, off := 0 }), Value.pointer (some { block := w.heap.size + 1, off := 0 }),
          Value.pointer (some { block := w.heap.size + 1 + 1, off := 0 }), Value.int IntKind.i64 ix, Value.int IntKind.i64 0, v, Value.tuple #[Value.int IntKind.i64 ix, Value.int IntKind.i64 0],
          Value.agg #[Value.slice A0 l0.length c0, Value.slice A1 l1.length c1], Value.tuple #[Value.int IntKind.i64 ix, Value.int IntKind.i64 0], Value.int IntKind.i64 ix,
          Value.int IntKind.i64 0, Value.int IntKind.i64 0, Value.bool false, undef, Value.pointer (some { block := w.heap.size, off := 1 }), Value.slice A1 l1.length c1,
          Value.int IntKind.i64 ↑l1.length, Value.func (Fn.func 82) #[] #[Value.pointer (some { block := B, off := 0 })], v, undef, undef, undef, undef, undef, undef],
        defers := [] }) ?assign ?body ?done ?stop
    case hI =>
      have hk := kept_grown hg (fun r e => (hr r e).2)
      exact ⟨hs.1, hk.2 _ _ hs.2.1 rfl, hk.2 _ _ hs.2.2.1 rfl, hk.2 _ _ hs.2.2.2 rfl⟩
    case hIx =>
      have hk := kept_grown hg (fun r e => (hr r e).2)
      obtain ⟨v, h1, h2, h3, h4⟩ := hs
      exact ⟨v, kept_cell hk h1, kept_cell hk h2, R_kept h3 hk, h4⟩
    case hIb =>
      rintro k A B ⟨⟨h1, h2, h3, h4⟩, h5⟩ hb
      have hk := kept_below ⟨Nat.le_refl _, fun _ _ h _ => h⟩ hb
      exact ⟨⟨h1, hk.2 _ _ h2 rfl, hk.2 _ _ h3 rfl, hk.2 _ _ h4 rfl⟩, bl_next h5 hb⟩
    case hIxb =>
      rintro A B ⟨⟨v, h1, h2, h3, h4⟩, h5⟩ hb
      have hk := kept_below ⟨Nat.le_refl _, fun _ _ h _ => h⟩ hb
      exact ⟨⟨v, kept_cell hk h1, kept_cell hk h2, R_kept h3 hk, h4⟩, bl_next h5 hb⟩
    case h0 => exact ⟨⟨fun j hj => absurd hj (by omega), HP1.out, HP2.out, HP3.out⟩, HBL.out⟩
    case assign =>
      intro l v W K hK
      gi_wp2_with fail
      exact hK
    case body =>
      rintro l k v W ⟨⟨hst, g1, g2, g3⟩, hBW⟩ hk hRv
      obtain ⟨b, hb, hfin⟩ := unstable_at HF.out hk hst
      obtain ⟨s, hs⟩ : ∃ s, s = ss.getD k [] := ⟨_, rfl⟩
      have hsok := HSS.out k hk
      rw [← hs] at hRv hb hfin hsok
      obtain ⟨A5, c5, hv5, hl5, hC5⟩ := Kd.R_reads hRv
      have hsum := sumOk_set HOK.out hsok.1 (by rw [← hN]; exact hsok.2)
      have HSUM := Lib.hid (show governor_sum.f l0 l1 s = some (sumTo l0 l1 s s.length) from if_pos hsum)
      have HST := Lib.hid hst
      have HBS := Lib.hid hb
      have HFIN := Lib.hid hfin
      have HRV := Lib.hid hRv
      have HC5 := Lib.hid hC5
      have HG1 := Lib.hid g1
      have HG2' := Lib.hid g2
      have HG3 := Lib.hid g3
      have HBW := Lib.hid hBW
      have HS := Lib.hid hs
      have w1 := (blk_cell g1 0).trans (rfl : _ = some (Value.slice A0 l0.length c0))
      have w2' := (blk_cell g1 1).trans (rfl : _ = some (Value.slice A1 l1.length c1))
      subst hv5
      clear hst hb hfin hRv hC5 g1 g2 g3 hBW hs hsum hsok
      gi_wp2_with fail
      refine ⟨trivial, (CallsIn.inRound l (callsIn_wide.2 (governor_sum.calls A0 c0 l0 A1 c1 l1 A5 c5 s _ W (Kd.C_below HR0.out HBW.out) hc0 (Kd.C_below HR1.out HBW.out) hc1 HC5.out hl5 HSUM.out))).mono ?_⟩
      rintro e w3 ⟨v3, rfl, hR3, hb3⟩
      obtain ⟨A6, c6, hv6, hl6', hC6⟩ := Kd.R_reads hR3
      subst hv6
      have HB3 := Lib.hid hb3
      have HC6 := Lib.hid hC6
      clear hR3 hb3 hC6
      gi_wp2_with fail
      refine ⟨trivial, (CallsIn.inRound l (callsIn_wide.2 (Q.governor_isStable.calls K0 A6 c6 _ b _ HC6.out hl6' HBS.out))).mono ?_⟩
      rintro e w4 ⟨rfl, hb4⟩
      have hb := bl_next HB3.out hb4
      have HB4 := Lib.hid hb
      cases b with
      | true =>
        clear hb hb4 w1 w2'
        gi_wp2_with fail
        show KeepsOthers W w4 ∧ CellsKept W w4 ∧ _
        have hb := HB4.out
        refine ⟨keeps_of_below hb, kept_below ⟨Nat.le_refl _, fun _ _ h _ => h⟩ hb, ⟨fun j hj => ?_, (hb.block _ (Array.getElem?_eq_some_iff.1 HG1.out).1).trans HG1.out, (hb.block _ (Array.getElem?_eq_some_iff.1 HG2'.out).1).trans HG2'.out, (hb.block _ (Array.getElem?_eq_some_iff.1 HG3.out).1).trans HG3.out⟩, bl_next HBW.out hb⟩
        by_cases hjk : j < k
        · exact HST.out j hjk
        · rw [show j = k by omega, ← HS.out]; exact HBS.out
      | false =>
        have y2 := (hb.block _ (Array.getElem?_eq_some_iff.1 HG2'.out).1).trans HG2'.out
        have y3 := (hb.block _ (Array.getElem?_eq_some_iff.1 HG3.out).1).trans HG3.out
        have c2 := (blk_cell y2 0).trans (rfl : _ = some (Value.slice none 0 0))
        have c3 := (blk_cell y3 0).trans (rfl : _ = some (Value.int .i64 0))
        have f2 := blk_frozen y2 0
        have f3 := blk_frozen y3 0
        have Y2 := Lib.hid y2
        have Y3 := Lib.hid y3
        clear hb hb4 w1 w2' y2 y3
        gi_wp2_with fail
        have e1 := HFIN.out trivial
        injection e1 with e1 e2
        subst e1 e2
        have hne : w.heap.size + 1 + 1 ≠ w.heap.size + 1 := by omega
        have y3' : (w4.setCell { block := w.heap.size + 1, off := 0 } (Value.slice A5 r1.length c5)).heap[w.heap.size + 1 + 1]? = some (Obj.cells #[Value.int IntKind.i64 0] 25) := (Below.heap_setCell w4 ⟨w.heap.size + 1, 0, none⟩ _ _ hne).trans Y3.out
        refine ⟨(keeps_of_below HB4.out).trans ((KeepsOthers.setCell _ _ _).trans (KeepsOthers.setCell _ _ _)), ⟨Value.slice A5 r1.length c5, ?_, ?_, ?_, rfl⟩, ?_⟩
        · rw [World.cell?_setCell_other _ _ _ _ (by intro e; injection e with e; omega)]
          exact World.cell?_setCell_same' _ _ _ (by rw [c2]; rfl)
        · exact World.cell?_setCell_same' _ _ _ (by rw [(blk_cell y3' 0)]; rfl)
        · exact Kd.R_set (Kd.R_set (Kd.R_below HRV.out HB4.out) Y2.out (by decide) 0 _) y3' (by decide) 0 _
        · exact ((bl_next HBW.out HB4.out).setCell (p := ⟨w.heap.size + 1, 0, none⟩) (by simp) _).setCell (p := ⟨w.heap.size + 1 + 1, 0, none⟩) (by simp; omega) _
    case done =>
      rintro D W hD ⟨⟨hst, g1, g2, g3⟩, hBW⟩ hK
      have w1 := (blk_cell g2 0).trans (rfl : _ = some (Value.slice none 0 0))
      have w2 := (blk_cell g3 0).trans (rfl : _ = some (Value.int .i64 0))
      have w3 := blk_frozen g2 0
      have w4 := blk_frozen g3 0
      have hD1 : D ≠ w.heap.size + 1 := by omega
      have hD2 : D ≠ w.heap.size + 1 + 1 := by omega
      have G2 := Lib.hid g2
      have G3 := Lib.hid g3
      clear g1 g2 g3
      gi_wp2_with fail
      have hK2 : ((W.setCell { block := w.heap.size + 1, off := 0 } (Value.slice none 0 0)).setCell { block := w.heap.size + 1 + 1, off := 0 } (Value.int IntKind.i64 12)).heap[D]? = some (.deferred (some [])) := (KeepsOthers.setCell _ _ _).same D _ ((KeepsOthers.setCell _ _ _).same D _ hK rfl) rfl
      refine ⟨by simp, .inl ⟨_, _, rfl, run_takeDeferred hK2, ?_⟩⟩
      have e0 := unstable_none HF.out hst
      injection e0 with e1 e2
      subst e1 e2
      have hne : w.heap.size + 1 + 1 ≠ w.heap.size + 1 := by omega
      have y3' : (W.setCell { block := w.heap.size + 1, off := 0 } (Value.slice none 0 0)).heap[w.heap.size + 1 + 1]? = some (Obj.cells #[Value.int IntKind.i64 0] 25) := (Below.heap_setCell W ⟨w.heap.size + 1, 0, none⟩ _ _ hne).trans G3.out
      have k1 : ((W.setCell { block := w.heap.size + 1, off := 0 } (Value.slice none 0 0)).setCell { block := w.heap.size + 1 + 1, off := 0 } (Value.int IntKind.i64 12)).cell? ⟨w.heap.size + 1, 0, none⟩ = some (Value.slice none 0 0) := by
        rw [World.cell?_setCell_other _ _ _ _ (by intro e; injection e with e; omega)]
        exact World.cell?_setCell_same' _ _ _ (by rw [w1]; rfl)
      have k2 : ((W.setCell { block := w.heap.size + 1, off := 0 } (Value.slice none 0 0)).setCell { block := w.heap.size + 1 + 1, off := 0 } (Value.int IntKind.i64 12)).cell? ⟨w.heap.size + 1 + 1, 0, none⟩ = some (Value.int .i64 12) := World.cell?_setCell_same' _ _ _ (by rw [(blk_cell y3' 0)]; rfl)
      have m1 := kept_cell (kept_putObj _ D _ (.deferred none) hK2 rfl) k1
      have m2 := kept_cell (kept_putObj _ D _ (.deferred none) hK2 rfl) k2
      have hB9 : Below w.heap.size w ((W.setCell { block := w.heap.size + 1, off := 0 } (Value.slice none 0 0)).setCell { block := w.heap.size + 1 + 1, off := 0 } (Value.int IntKind.i64 12)) := (hBW.setCell (p := ⟨w.heap.size + 1, 0, none⟩) (by simp) _).setCell (p := ⟨w.heap.size + 1 + 1, 0, none⟩) (by simp; omega) _
      have hB8 := hB9.grown (grownBy_putObj' _ D (.deferred none)) hB9.size (fun k e => by cases e; omega)
      exact ⟨.tuple #[.slice none 0 0, .int .i64 12], by simp [results, Try.results16, go_sem, m1, m2], .slice none 0 0, rfl, Kd.R_nil _ _ _ _ _, hB8⟩
    case stop =>
      rintro D W hD ⟨⟨v, h1, h2, h3, rfl⟩, hBW⟩ hK
      gi_wp2_with fail
      refine ⟨by simp, .inl ⟨_, _, rfl, run_takeDeferred hK, ?_⟩⟩
      have hkp := kept_putObj W D _ (.deferred none) hK rfl
      have m1 := kept_cell hkp h1
      have m2 := kept_cell hkp h2
      have hB8 := hBW.grown (grownBy_putObj' _ D (.deferred none)) hBW.size (fun k e => by cases e; omega)
      exact ⟨.tuple #[v, .int .i64 0], by simp [results, Try.results16, go_sem, m1, m2], v, rfl, R_kept h3 hkp, hB8⟩
  · have hh := HH.out
    rw [if_neg he] at hh
    injection hh with hh
    injection hh with e1 e2
    subst e1 e2
    have hne : (er == 0) = false := by simpa using he
    have hne2 : (er != 0) = true := by simpa using he
    have G2 := Lib.hid q2
    have G3 := Lib.hid q3
    have u2 := (blk_cell q2 0).trans (rfl : _ = some (Value.slice none 0 0))
    have u3 := (blk_cell q3 0).trans (rfl : _ = some (Value.int .i64 0))
    have f2 := blk_frozen q2 0
    have f3 := blk_frozen q3 0
    have U2 := Lib.hid u2
    clear HH he q1 q2 q3
    gi_wp2_with fail
    have hne3 : w.heap.size + 1 + 1 ≠ w.heap.size + 1 := by omega
    have y3' : (w2.setCell { block := w.heap.size + 1, off := 0 } (Value.slice none 0 0)).heap[w.heap.size + 1 + 1]? = some (Obj.cells #[Value.int IntKind.i64 0] 25) := (Below.heap_setCell w2 ⟨w.heap.size + 1, 0, none⟩ _ _ hne3).trans G3.out
    have k1 : ((w2.setCell { block := w.heap.size + 1, off := 0 } (Value.slice none 0 0)).setCell { block := w.heap.size + 1 + 1, off := 0 } (Value.int IntKind.i64 er)).cell? ⟨w.heap.size + 1, 0, none⟩ = some (Value.slice none 0 0) := by
      rw [World.cell?_setCell_other _ _ _ _ (by intro e; injection e with e; omega)]
      exact World.cell?_setCell_same' _ _ _ (by rw [U2.out]; rfl)
    have k2 : ((w2.setCell { block := w.heap.size + 1, off := 0 } (Value.slice none 0 0)).setCell { block := w.heap.size + 1 + 1, off := 0 } (Value.int IntKind.i64 er)).cell? ⟨w.heap.size + 1 + 1, 0, none⟩ = some (Value.int .i64 er) := World.cell?_setCell_same' _ _ _ (by rw [(blk_cell y3' 0)]; rfl)
    exact ⟨.tuple #[.slice none 0 0, .int .i64 er], by simp [results, Try.results16, go_sem, k1, k2], .slice none 0 0, rfl, Kd.R_nil _ _ _ _ _, (HB12.out.setCell (p := ⟨w.heap.size + 1, 0, none⟩) (by simp) _).setCell (p := ⟨w.heap.size + 1 + 1, 0, none⟩) (by simp; omega) _⟩
theorem setsTo_ok : ∀ n, n < 7 → ∀ k, k < (setsTo n (n + 1)).length → ((setsTo n (n + 1)).getD k []).length ≤ 6 ∧ ∀ i, i < ((setsTo n (n + 1)).getD k []).length → 0 ≤ ((setsTo n (n + 1)).getD k []).getD i 0 ∧ ((setsTo n (n + 1)).getD k []).getD i 0 < (n : Int) := by decide +kernel
noncomputable def governor_UnstableSet.f (l0 : List Int) (l1 : List (List Int)) : Option (List Int × Int) :=
  if (loopErr l0 l1).2 = 0 then firstUnstable l0 l1 (setsTo l1.length (l1.length + 1)) else some ([], (loopErr l0 l1).2)
theorem governor_UnstableSet.calls (A0 : Option Addr) (c0 : Nat) (l0 : List Int) (A1 : Option Addr) (c1 : Nat) (l1 : List (List Int)) (r1 : List Int) (r2 : Int) (w : World) (hr0 : Kd.C (Kd.int .i64) w A0 l0.length l0) (hc0 : l0.length ≤ c0) (hr1 : Kd.C (Kd.slice 3 (Kd.int .i64)) w A1 l1.length l1) (hc1 : l1.length ≤ c1)
    (h : governor_UnstableSet.f l0 l1 = some (r1, r2)) :
    Calls Try.prog 16 #[.agg #[.slice A0 l0.length c0, .slice A1 l1.length c1]] w fun e w' => ∃ v0_ : Value, e = .returned (.tuple #[v0_, .int .i64 r2]) ∧ Kd.R (Kd.int .i64) 3 w' w.heap.size (fun _ => True) v0_ r1 ∧ Below w.heap.size w w' := by
  unfold governor_UnstableSet.f at h
  by_cases h6 : l1.length ≤ 6
  · refine unstable_walk (N1 := (l1.length : Int)) (setsTo l1.length (l1.length + 1)) (setsTo_ok l1.length (by omega)) A0 c0 l0 A1 c1 l1 r1 r2 w hr0 hc0 hr1 hc1 h rfl (fun b W hb hle _ => sets1_gives l1.length h6 b w.heap.size W hb hle)
  · refine unstable_walk (N1 := (l1.length : Int)) [] (fun k hk => absurd hk (by simp)) A0 c0 l0 A1 c1 l1 r1 r2 w hr0 hc0 hr1 hc1 ?_ rfl ?_
    · by_cases he : (loopErr l0 l1).2 = 0
      · exact absurd (loopErr_ok (i := (loopErr l0 l1).1) (by rw [← he])).2.2.1 h6
      · rw [if_neg he] at h ⊢; exact h
    · exact fun _ _ _ _ h7 => absurd h7 h6
end Go.Proofs.Ytmpondcccbmlhaa.Ext
