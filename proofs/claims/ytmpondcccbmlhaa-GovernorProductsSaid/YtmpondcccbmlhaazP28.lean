/- A part of the claim P: the texts ExO, without what the claim does not lean on. -/
import Derived.ArgAppend
import Derived.Below
import Derived.BigQuiet
import Derived.Deep.AppendLies
import Derived.Deep.CutBlock
import Derived.Deep.DeepCutAuto
import Derived.Deep.Draws
import Derived.Deep.LoopGhost
import Derived.Deep.OwnRows
import Derived.Deep.QuietTactic
import Derived.Deep.RegionHeld3
import Derived.Deep.RegionWith
import Derived.Deep.WholeRow
import Derived.Ground.Names2Prog
import Derived.Ground.SlgnProg
import Derived.Ground.SlsfProg
import Derived.KernelRfl
import Derived.Laws.BitsLemmas
import Derived.Laws.BytesArg
import Derived.Laws.ComplexArith
import Derived.Laws.IdiomCopy
import Derived.Laws.MakeOwn
import Derived.Laws.OwnMore
import Derived.Laws.Rows
import Derived.Laws.Slices
import Derived.Laws.StructEq
import Derived.Lib.AppendStr
import Derived.Lib.ConvBytes
import Derived.Lib.Hide
import Derived.Maps.AppendAt
import Derived.OrdersHeld
import Derived.Outline
import Derived.OwnWalk
import Derived.RowKit
import Derived.RowKit3
import Derived.Shelf.Abstract
import Derived.Shelf.SlSortCmp.HeapSort1
import Derived.Shelf.SlSortCmp.Insertion
import Derived.Shelf.SlSortCmp.Insertion1
import Derived.Shelf.SlSortCmp.Median1
import Derived.Shelf.SlSortCmp.PartialInsertion1
import Derived.Shelf.SlSortCmp.Partition1
import Derived.Shelf.SlSortCmp.PartitionEqual1
import Derived.Shelf.SlSortCmp.Pdq1
import Derived.Shelf.SlSortCmp.Pivot1
import Derived.Shelf.SlSortCmp.ReverseRange1
import Derived.Shelf.SlSortCmp.SiftDown1
import Derived.Shelf.SlSortCmp.Whole1
import Derived.Shelf.Slices.Clone
import Derived.Shelf.Slices.Empties2
import Derived.Shelf.Slices.Equal
import Derived.Shelf.Slices.In.SortNone
import Derived.Shelf.Slices.SearchI
import Derived.Shelf.Slices.Turned
import Derived.Shelf.SlicesE.Clone
import Derived.Shelf.Small.Bits
import Derived.Shelf.Small.Wraps
import Derived.Shelf.Sort.Plain
import Derived.Shelf.Strconv.Itoa0
import Derived.Tactics
import Derived.WalkKit
import Derived.WalkLawsBesides
import Derived.WideLaws
import Derived.Test.YtmpondcccbmlhaaProg
import Derived.Test.YtmpondcccbmlhaazP0
import Derived.Test.YtmpondcccbmlhaazP1
import Derived.Test.YtmpondcccbmlhaazP2
import Derived.Test.YtmpondcccbmlhaazP3
import Derived.Test.YtmpondcccbmlhaazP4
import Derived.Test.YtmpondcccbmlhaazP5
import Derived.Test.YtmpondcccbmlhaazP6
import Derived.Test.YtmpondcccbmlhaazP7
import Derived.Test.YtmpondcccbmlhaazP8
import Derived.Test.YtmpondcccbmlhaazP9
import Derived.Test.YtmpondcccbmlhaazP11
import Derived.Test.YtmpondcccbmlhaazP12
import Derived.Test.YtmpondcccbmlhaazP13
import Derived.Test.YtmpondcccbmlhaazP14
import Derived.Test.YtmpondcccbmlhaazP15
import Derived.Test.YtmpondcccbmlhaazP17
import Derived.Test.YtmpondcccbmlhaazP18
import Derived.Test.YtmpondcccbmlhaazP19
import Derived.Test.YtmpondcccbmlhaazP20
import Derived.Test.YtmpondcccbmlhaazP23
import Derived.Test.YtmpondcccbmlhaazP25
namespace Go.Proofs.Ytmpondcccbmlhaa.Ext
open Go.RowKit Go.Shelf Go.Proofs.YtmpondcccbmlhaaW.PrintWords Go.Proofs.YtmpondcccbmlhaaW.PrintLast Go.Proofs.YtmpondcccbmlhaaW.PrintMore
def readErr (v : Int) (m : Bool) : Int := if m = true then (if v = 0 then 0 else 3) else (if -1000000 ≤ v ∧ v ≤ 1000000 then 0 else 2)
def thereTo (v : Nat → Int) (m : Nat → Bool) : Nat → List Int
  | 0 => []
  | k + 1 => thereTo v m k ++ (if m k = true then [] else [v k])
def srt (l : List Int) : List Int := l.mergeSort fun x y => decide (x ≤ y)
def voteErr (v : Nat → Int) (m : Nat → Bool) (t : Int) : Int :=
  if (firstBad (fun i => readErr (v i) (m i)) 0 3).2 = 0 then (if 0 ≤ t ∧ t ≤ 1000000 then (if 2 ≤ (thereTo v m 3).length then 0 else 14) else 2) else (firstBad (fun i => readErr (v i) (m i)) 0 3).2
def oddAt (v : Nat → Int) (s t : Int) (i : Nat) : Bool := decide (t < absI (v i - s))
def oddTo (v : Nat → Int) (s t : Int) : Nat → Int
  | 0 => 0
  | k + 1 => oddTo v s t k + if oddAt v s t k = true then 1 else 0
theorem oddTo_succ (v : Nat → Int) (s t : Int) (k : Nat) : oddTo v s t (k + 1) = oddTo v s t k + if oddAt v s t k = true then 1 else 0 := rfl
theorem oddTo_bound (v : Nat → Int) (s t : Int) (k : Nat) : 0 ≤ oddTo v s t k ∧ oddTo v s t k ≤ k := by
  induction k with
  | zero => exact ⟨Int.le_refl _, Int.le_refl _⟩
  | succ k ih => rw [oddTo_succ]; split <;> omega
def noOdd (_ : Nat) : Bool := false
def voteOf (v : Nat → Int) (m : Nat → Bool) (t : Int) : Int × (Nat → Bool) × Int :=
  if voteErr v m t = 0 then
    (if (thereTo v m 3).length = 2 then
      (if t < (srt (thereTo v m 3)).getD 1 0 - (srt (thereTo v m 3)).getD 0 0 then (0, noOdd, 13) else (((srt (thereTo v m 3)).getD 0 0 + (srt (thereTo v m 3)).getD 1 0) / 2, noOdd, 0))
     else if 1 < oddTo v ((srt (thereTo v m 3)).getD 1 0) t 3 then (0, noOdd, 13) else ((srt (thereTo v m 3)).getD 1 0, oddAt v ((srt (thereTo v m 3)).getD 1 0) t, 0))
  else (0, noOdd, voteErr v m t)
theorem vo1_eval (i v : Int) (m : Bool) : Q.governor_VoteOf_1.f i v m = some (readErr v m) := by
  unfold Q.governor_VoteOf_1.f readErr
  cases m with
  | true => simp only [if_true, unless_eval, Option.bind_some]; by_cases h : v = 0 <;> simp [h]
  | false => simp only [Bool.false_eq_true, if_false, isSized_eval v 1000000 (by omega) (by omega), unless_eval, Option.bind_some, decide_eq_true_eq]
theorem vote_cells {W : World} {b : Nat} {v : Nat → Int} {m : Nat → Bool} {v0 v1 v2 : Int} {m0 m1 m2 : Bool} {t : TypeId} (h : W.heap[b]? = some (Obj.cells #[Value.int IntKind.i64 v0, Value.bool m0, Value.int IntKind.i64 v1, Value.bool m1, Value.int IntKind.i64 v2, Value.bool m2] t))
    (h0 : v0 = v 0) (h1 : v1 = v 1) (h2 : v2 = v 2) (g0 : m0 = m 0) (g1 : m1 = m 1) (g2 : m2 = m 2) :
    ∀ k, k < 3 → ∃ ad, (some ⟨b, 0, none⟩ : Option Addr) = some ad ∧ W.cell? (ad.add (k * 2)) = some (.int .i64 (v k)) ∧ W.cell? ⟨(ad.add (k * 2)).block, (ad.add (k * 2)).off + 1, none⟩ = some (.bool (m k)) := by
  subst h0 h1 h2 g0 g1 g2
  intro k hk
  refine ⟨_, rfl, ?_⟩
  obtain rfl | rfl | rfl : k = 0 ∨ k = 1 ∨ k = 2 := by omega
  · exact ⟨(blk_cell h 0).trans rfl, (blk_cell h 1).trans rfl⟩
  · exact ⟨(blk_cell h 2).trans rfl, (blk_cell h 3).trans rfl⟩
  · exact ⟨(blk_cell h 4).trans rfl, (blk_cell h 5).trans rfl⟩
theorem sort_ints (base g cap : Nat) (w : World) (zs : List Int) (hmax : zs.length ≤ 1000000) (h : Kd.R (Kd.int .i64) 3 w base (fun _ => True) (.slice (some ⟨g, 0, none⟩) zs.length cap) zs) (hbase : base ≤ w.heap.size) :
    Calls Try.prog 63 #[.slice (some ⟨g, 0, none⟩) zs.length cap] w fun e w' => e = .returned (.tuple #[]) ∧ Below base w w' ∧ ∀ j, j < zs.length → w'.cell? ⟨g, j, none⟩ = some (.int .i64 ((srt zs).getD j 0)) := by
  have hgb := Kd.R_base h g rfl
  have hgl := Kd.R_lt h g rfl
  have hH : Go.Sort.Holds (Value.int .i64) w g 0 zs.toArray := by
    intro j hj
    have hj' : j < zs.length := by simpa using hj
    obtain ⟨h1, h2⟩ := Kd.R_celln (0 : Int) h (j : Int) (by omega) (by omega)
    rw [Int.toNat_natCast] at h1 h2
    rw [Nat.zero_add]
    refine ⟨h1.trans ?_, h2⟩
    rw [getElem!_pos zs.toArray j (by simpa using hj')]
    simp [rdOf, hj']
  refine (Try.slices_Sort_int g 0 cap zs w hH hgl (by omega)).mono ?_
  rintro e w' ⟨rfl, n, os, rfl⟩
  have hlen : (srt zs).length = zs.length := by unfold srt; exact List.length_mergeSort _
  refine ⟨rfl, below_sortWorld (Value.int .i64) w g base n (srt zs).toArray os hgb hbase, fun j hj => ?_⟩
  rw [Go.Sort.cell?_grow _ _ _ (by unfold Go.Sort.putRow Go.Sort.mapBlock Go.Sort.ahead; simpa using hgl)]
  have := Go.Sort.cell?_putRow (Value.int .i64) (Go.Sort.ahead w n) g 0 zs.toArray (srt zs).toArray (Go.Sort.holds_ahead _ _ _ _ _ _ hH) (by simp [hlen]) j (by simp [hlen]; exact hj)
  rw [Nat.zero_add] at this
  refine this.trans ?_
  rw [getElem!_pos (srt zs).toArray j (by simp [hlen]; exact hj)]
  simp [hlen, hj]
structure Box4 (W : World) (b : Nat) (x : Int) (o : Nat → Bool) : Prop where
  c0 : W.cell? ⟨b, 0, none⟩ = some (.int .i64 x)
  c1 : W.cell? ⟨b, 1, none⟩ = some (.bool (o 0))
  c2 : W.cell? ⟨b, 2, none⟩ = some (.bool (o 1))
  c3 : W.cell? ⟨b, 3, none⟩ = some (.bool (o 2))
  fr : ∀ j, W.frozen? ⟨b, j, none⟩ = false
theorem Box4.below {W W' : World} {b : Nat} {x : Int} {o : Nat → Bool} (h : Box4 W b x o) (hb : Below W.heap.size W W') : Box4 W' b x o :=
  ⟨pw_cell_below hb h.c0, pw_cell_below hb h.c1, pw_cell_below hb h.c2, pw_cell_below hb h.c3, fun j => (hb.frozen (p := ⟨b, j, none⟩) (show b < W.heap.size from block_lt_of_cell h.c0)).trans (h.fr j)⟩
theorem Box4.mark {W : World} {b : Nat} {x : Int} {o o' : Nat → Bool} (h : Box4 W b x o) (k : Nat) (h1 : ∀ i, i < 3 → o' i = if i = k then true else o i) : Box4 (W.setCell ⟨b, k + 1, none⟩ (.bool true)) b x o' := by
  have ne : ∀ i : Nat, i ≠ k + 1 → (W.setCell ⟨b, k + 1, none⟩ (.bool true)).cell? ⟨b, i, none⟩ = W.cell? ⟨b, i, none⟩ := fun i hi => World.cell?_setCell_other _ _ _ _ (fun e => hi (by injection e with _ e; exact e.symm))
  have sm : (∃ u, W.cell? ⟨b, k + 1, none⟩ = some u) → (W.setCell ⟨b, k + 1, none⟩ (.bool true)).cell? ⟨b, k + 1, none⟩ = some (.bool true) := fun ⟨u, hu⟩ => World.cell?_setCell_same' _ _ _ (by rw [hu]; rfl)
  have g0 := h1 0 (by omega)
  have g1 := h1 1 (by omega)
  have g2 := h1 2 (by omega)
  refine ⟨(ne 0 (by omega)).trans h.c0, ?_, ?_, ?_, fun j => by rw [World.frozen?_setCell]; exact h.fr j⟩
  · by_cases e : 0 = k
    · subst e; rw [if_pos rfl] at g0; rw [g0]; exact sm ⟨_, h.c1⟩
    · rw [if_neg e] at g0; rw [g0]; exact (ne 1 (by omega)).trans h.c1
  · by_cases e : 1 = k
    · subst e; rw [if_pos rfl] at g1; rw [g1]; exact sm ⟨_, h.c2⟩
    · rw [if_neg e] at g1; rw [g1]; exact (ne 2 (by omega)).trans h.c2
  · by_cases e : 2 = k
    · subst e; rw [if_pos rfl] at g2; rw [g2]; exact sm ⟨_, h.c3⟩
    · rw [if_neg e] at g2; rw [g2]; exact (ne 3 (by omega)).trans h.c3
theorem Box4.same {W : World} {b : Nat} {x : Int} {o o' : Nat → Bool} (h : Box4 W b x o) (h1 : ∀ i, i < 3 → o' i = o i) : Box4 W b x o' :=
  ⟨h.c0, by rw [h1 0 (by omega)]; exact h.c1, by rw [h1 1 (by omega)]; exact h.c2, by rw [h1 2 (by omega)]; exact h.c3, h.fr⟩
theorem all_there {v : Nat → Int} {m : Nat → Bool} (h : (thereTo v m 3).length = 3) : m 0 = false ∧ m 1 = false ∧ m 2 = false := by
  simp only [thereTo, List.nil_append, List.length_append] at h
  cases h0 : m 0 <;> cases h1 : m 1 <;> cases h2 : m 2 <;> simp [h0, h1, h2] at h <;> trivial
def odds (v : Nat → Int) (s t : Int) (k : Nat) (i : Nat) : Bool := decide (i < k) && oddAt v s t i
theorem odds_mark {v : Nat → Int} {s t : Int} {k : Nat} (h : oddAt v s t k = true) (i : Nat) (_hi : i < 3) : odds v s t (k + 1) i = if i = k then true else odds v s t k i := by
  unfold odds
  by_cases e : i = k
  · subst e; simp [h]
  · rw [if_neg e]
    congr 1
    rw [decide_eq_decide]; omega
theorem odds_skip {v : Nat → Int} {s t : Int} {k : Nat} (h : ¬ oddAt v s t k = true) (i : Nat) (_hi : i < 3) : odds v s t (k + 1) i = odds v s t k i := by
  unfold odds
  by_cases e : i = k
  · subst e; simp [h]
  · congr 1
    rw [decide_eq_decide]; omega
theorem cells4_set {W : World} {b : Nat} {x0 x1 x2 x3 : Value} (h0 : ∃ v, W.cell? ⟨b, 0, none⟩ = some v) (h1 : ∃ v, W.cell? ⟨b, 1, none⟩ = some v) (h2 : ∃ v, W.cell? ⟨b, 2, none⟩ = some v) (h3 : ∃ v, W.cell? ⟨b, 3, none⟩ = some v) :
    ((((W.setCell ⟨b, 0, none⟩ x0).setCell ⟨b, 1, none⟩ x1).setCell ⟨b, 2, none⟩ x2).setCell ⟨b, 3, none⟩ x3).cell? ⟨b, 0, none⟩ = some x0 ∧ ((((W.setCell ⟨b, 0, none⟩ x0).setCell ⟨b, 1, none⟩ x1).setCell ⟨b, 2, none⟩ x2).setCell ⟨b, 3, none⟩ x3).cell? ⟨b, 1, none⟩ = some x1 ∧
    ((((W.setCell ⟨b, 0, none⟩ x0).setCell ⟨b, 1, none⟩ x1).setCell ⟨b, 2, none⟩ x2).setCell ⟨b, 3, none⟩ x3).cell? ⟨b, 2, none⟩ = some x2 ∧ ((((W.setCell ⟨b, 0, none⟩ x0).setCell ⟨b, 1, none⟩ x1).setCell ⟨b, 2, none⟩ x2).setCell ⟨b, 3, none⟩ x3).cell? ⟨b, 3, none⟩ = some x3 ∧
    ∀ n, n ≤ b → Below n W ((((W.setCell ⟨b, 0, none⟩ x0).setCell ⟨b, 1, none⟩ x1).setCell ⟨b, 2, none⟩ x2).setCell ⟨b, 3, none⟩ x3) := by
  obtain ⟨u0, h0⟩ := h0
  obtain ⟨u1, h1⟩ := h1
  obtain ⟨u2, h2⟩ := h2
  obtain ⟨u3, h3⟩ := h3
  have ne : ∀ i j : Nat, i ≠ j → (⟨b, i, none⟩ : Addr) ≠ ⟨b, j, none⟩ := fun i j h e => h (by injection e)
  have s0 : (W.setCell ⟨b, 0, none⟩ x0).cell? ⟨b, 0, none⟩ = some x0 := World.cell?_setCell_same' _ _ _ (by rw [h0]; rfl)
  have e1 : (W.setCell ⟨b, 0, none⟩ x0).cell? ⟨b, 1, none⟩ = some u1 := (World.cell?_setCell_other _ _ _ _ (ne 0 1 (by omega))).trans h1
  have e2 : (W.setCell ⟨b, 0, none⟩ x0).cell? ⟨b, 2, none⟩ = some u2 := (World.cell?_setCell_other _ _ _ _ (ne 0 2 (by omega))).trans h2
  have e3 : (W.setCell ⟨b, 0, none⟩ x0).cell? ⟨b, 3, none⟩ = some u3 := (World.cell?_setCell_other _ _ _ _ (ne 0 3 (by omega))).trans h3
  refine ⟨?_, ?_, ?_, ?_, fun n hn => ?_⟩
  · rw [World.cell?_setCell_other _ _ _ _ (ne 3 0 (by omega)), World.cell?_setCell_other _ _ _ _ (ne 2 0 (by omega)), World.cell?_setCell_other _ _ _ _ (ne 1 0 (by omega))]; exact s0
  · rw [World.cell?_setCell_other _ _ _ _ (ne 3 1 (by omega)), World.cell?_setCell_other _ _ _ _ (ne 2 1 (by omega))]
    exact World.cell?_setCell_same' _ _ _ (by rw [e1]; rfl)
  · rw [World.cell?_setCell_other _ _ _ _ (ne 3 2 (by omega))]
    exact World.cell?_setCell_same' _ _ _ (by rw [World.cell?_setCell_other _ _ _ _ (ne 1 2 (by omega)), e2]; rfl)
  · exact World.cell?_setCell_same' _ _ _ (by rw [World.cell?_setCell_other _ _ _ _ (ne 2 3 (by omega)), World.cell?_setCell_other _ _ _ _ (ne 1 3 (by omega)), e3]; rfl)
  · exact ((((Below.refl n W).setCell (p := ⟨b, 0, none⟩) hn _).setCell (p := ⟨b, 1, none⟩) hn _).setCell (p := ⟨b, 2, none⟩) hn _).setCell (p := ⟨b, 3, none⟩) hn _
theorem firstBad_zeros {chk : Nat → Int} : ∀ {d i : Nat}, (firstBad chk i d).2 = 0 → ∀ j, i ≤ j → j < i + d → chk j = 0 := by
  intro d
  induction d with
  | zero => intro i _ j h1 h2; omega
  | succ d ih =>
    intro i h j h1 h2
    by_cases hz : chk i = 0
    · rw [firstBad_skip _ _ _ hz] at h
      rcases Nat.eq_or_lt_of_le h1 with h3 | h3
      · rw [← h3]; exact hz
      · exact ih h j (by omega) (by omega)
    · rw [firstBad_hit _ _ _ hz] at h
      exact absurd h hz
theorem voteErr_zero {v : Nat → Int} {m : Nat → Bool} {t : Int} (h : voteErr v m t = 0) : (∀ i, i < 3 → readErr (v i) (m i) = 0) ∧ 2 ≤ (thereTo v m 3).length := by
  unfold voteErr at h
  split at h
  · rename_i h1
    refine ⟨fun i hi => firstBad_zeros h1 i (by omega) (by omega), ?_⟩
    split at h
    · split at h
      · assumption
      · omega
    · omega
  · rename_i h1; exact absurd h h1
theorem thereTo_mem {v : Nat → Int} {m : Nat → Bool} {n k : Nat} {x : Int} (hk : k ≤ n) (h : x ∈ thereTo v m k) : ∃ i, i < n ∧ m i = false ∧ x = v i := by
  induction k with
  | zero => simp [thereTo] at h
  | succ k ih =>
    rw [thereTo, List.mem_append] at h
    rcases h with h | h
    · exact ih (by omega) h
    · cases hm : m k with
      | true => rw [hm, if_pos rfl] at h; simp at h
      | false => rw [hm, if_neg (by decide), List.mem_singleton] at h; exact ⟨k, by omega, hm, h⟩
theorem srt_bound {v : Nat → Int} {m : Nat → Bool} (h : ∀ i, i < 3 → readErr (v i) (m i) = 0) (j : Nat) : -1000000 ≤ (srt (thereTo v m 3)).getD j 0 ∧ (srt (thereTo v m 3)).getD j 0 ≤ 1000000 := by
  rw [List.getD_eq_getElem?_getD]
  by_cases hj : j < (srt (thereTo v m 3)).length
  · rw [List.getElem?_eq_getElem hj, Option.getD_some]
    have hmem := List.getElem_mem hj
    unfold srt at hmem
    rw [List.mem_mergeSort] at hmem
    obtain ⟨i, hi, hm, e⟩ := thereTo_mem (Nat.le_refl 3) hmem
    have := h i hi
    unfold readErr at this
    rw [hm, if_neg (by decide)] at this
    have e2 : (srt (thereTo v m 3))[j] = v i := e
    rw [e2]
    split at this
    · assumption
    · omega
  · rw [List.getElem?_eq_none (by omega)]; simp
theorem thereTo_succ (v : Nat → Int) (m : Nat → Bool) (k : Nat) : thereTo v m (k + 1) = thereTo v m k ++ (if m k = true then [] else [v k]) := rfl
theorem thereTo_len (v : Nat → Int) (m : Nat → Bool) (k : Nat) : (thereTo v m k).length ≤ k := by
  induction k with
  | zero => exact Nat.le_refl _
  | succ k ih => rw [thereTo, List.length_append]; split <;> simp <;> omega
set_option maxHeartbeats 8000000 in
set_option maxRecDepth 100000 in
theorem governor_VoteOf.calls (v : Nat → Int) (m : Nat → Bool) (t : Int) (w : World) :
    Calls Try.prog 25 #[.agg #[.int .i64 (v 0), .bool (m 0), .int .i64 (v 1), .bool (m 1), .int .i64 (v 2), .bool (m 2)], .int .i64 t] w fun e w' =>
      e = .returned (.tuple #[.agg #[.int .i64 (voteOf v m t).1, .bool ((voteOf v m t).2.1 0), .bool ((voteOf v m t).2.1 1), .bool ((voteOf v m t).2.1 2)], .int .i64 (voteOf v m t).2.2]) ∧ Below w.heap.size w w' := by
  have HVO := Lib.hid (rfl : voteOf v m t = voteOf v m t)
  obtain ⟨er, her⟩ : ∃ er, er = voteErr v m t := ⟨_, rfl⟩
  have HER := Lib.hid her
  obtain ⟨v0, hv0⟩ : ∃ v0, v0 = v 0 := ⟨_, rfl⟩
  obtain ⟨v1, hv1⟩ : ∃ v1, v1 = v 1 := ⟨_, rfl⟩
  obtain ⟨v2, hv2⟩ : ∃ v2, v2 = v 2 := ⟨_, rfl⟩
  obtain ⟨m0, hm0⟩ : ∃ m0, m0 = m 0 := ⟨_, rfl⟩
  obtain ⟨m1, hm1⟩ : ∃ m1, m1 = m 1 := ⟨_, rfl⟩
  obtain ⟨m2, hm2⟩ : ∃ m2, m2 = m 2 := ⟨_, rfl⟩
  rw [← hv0, ← hv1, ← hv2, ← hm0, ← hm1, ← hm2]
  have HV0 := Lib.hid hv0
  have HV1 := Lib.hid hv1
  have HV2 := Lib.hid hv2
  have HM0 := Lib.hid hm0
  have HM1 := Lib.hid hm1
  have HM2 := Lib.hid hm2
  clear her hv0 hv1 hv2 hm0 hm1 hm2
  go_enter Try.func25, Try.ntmps25
  go_wp2_with fail
  have k1 : ((w.alloc (Obj.cells #[Value.int IntKind.i64 v0, Value.bool m0, Value.int IntKind.i64 v1, Value.bool m1, Value.int IntKind.i64 v2, Value.bool m2] 65)).alloc (Obj.cells #[Value.int IntKind.i64 0, Value.bool false, Value.bool false, Value.bool false] 68)).heap[w.heap.size]? = some (Obj.cells #[Value.int IntKind.i64 v0, Value.bool m0, Value.int IntKind.i64 v1, Value.bool m1, Value.int IntKind.i64 v2, Value.bool m2] 65) :=
    (Below.heap_alloc _ _ _ (by simp)).trans (blk_new w _)
  have k2 : ((w.alloc (Obj.cells #[Value.int IntKind.i64 v0, Value.bool m0, Value.int IntKind.i64 v1, Value.bool m1, Value.int IntKind.i64 v2, Value.bool m2] 65)).alloc (Obj.cells #[Value.int IntKind.i64 0, Value.bool false, Value.bool false, Value.bool false] 68)).heap[w.heap.size + 1]? = some (Obj.cells #[Value.int IntKind.i64 0, Value.bool false, Value.bool false, Value.bool false] 68) := by
    have := blk_new (w.alloc (Obj.cells #[Value.int IntKind.i64 v0, Value.bool m0, Value.int IntKind.i64 v1, Value.bool m1, Value.int IntKind.i64 v2, Value.bool m2] 65)) (Obj.cells #[Value.int IntKind.i64 0, Value.bool false, Value.bool false, Value.bool false] 68)
    rwa [World.size_alloc] at this
  have hb1 : Below w.heap.size w ((w.alloc (Obj.cells #[Value.int IntKind.i64 v0, Value.bool m0, Value.int IntKind.i64 v1, Value.bool m1, Value.int IntKind.i64 v2, Value.bool m2] 65)).alloc (Obj.cells #[Value.int IntKind.i64 0, Value.bool false, Value.bool false, Value.bool false] 68)) := bl_alloc (bl_alloc (Below.refl _ _) _) _
  generalize ((w.alloc (Obj.cells #[Value.int IntKind.i64 v0, Value.bool m0, Value.int IntKind.i64 v1, Value.bool m1, Value.int IntKind.i64 v2, Value.bool m2] 65)).alloc (Obj.cells #[Value.int IntKind.i64 0, Value.bool false, Value.bool false, Value.bool false] 68)) = W1 at k1 k2 hb1 ⊢
  obtain ⟨fe, hfe⟩ : ∃ fe, fe = (firstBad (fun i => readErr (v i) (m i)) 0 3).2 := ⟨_, rfl⟩
  have HFE := Lib.hid hfe
  refine (each_reading 61 #[] (enters_of Try.func61 (by kernel_rfl) rfl) (fun i => readErr (v i) (m i)) (some ⟨w.heap.size, 0, none⟩) 3 3 v m W1 (vote_cells k1 HV0.out HV1.out HV2.out HM0.out HM1.out HM2.out) (by omega)
    (fun W i _ _ => Q.governor_VoteOf_1.calls (i : Int) (v i) (m i) (readErr (v i) (m i)) W (vo1_eval _ _ _))).mono ?_
  rintro e w2 ⟨rfl, hb2⟩
  rw [← hfe]
  obtain ⟨fi, hfi⟩ : ∃ fi, fi = (firstBad (fun i => readErr (v i) (m i)) 0 3).1 := ⟨_, rfl⟩
  rw [← hfi]
  have q1 := (hb2.block _ (Array.getElem?_eq_some_iff.1 k1).1).trans k1
  have q2 := (hb2.block _ (Array.getElem?_eq_some_iff.1 k2).1).trans k2
  have HB2 := Lib.hid (bl_next hb1 hb2)
  have Q1 := Lib.hid q1
  have Q2 := Lib.hid q2
  have hs2 : w.heap.size + 1 < w2.heap.size := (Array.getElem?_eq_some_iff.1 q2).1
  have c0 := (blk_cell q1 0).trans (rfl : _ = some (Value.int .i64 v0))
  have c1 := (blk_cell q1 1).trans (rfl : _ = some (Value.bool m0))
  have c2 := (blk_cell q1 2).trans (rfl : _ = some (Value.int .i64 v1))
  have c3 := (blk_cell q1 3).trans (rfl : _ = some (Value.bool m1))
  have c4 := (blk_cell q1 4).trans (rfl : _ = some (Value.int .i64 v2))
  have c5 := (blk_cell q1 5).trans (rfl : _ = some (Value.bool m2))
  clear k1 k2 hb1 hb2 q1 q2 hfe hfi
  go_upto_block 0 with fail
  go_cut [8] from 21 to 32 (fun s8 wx => Kd.R (Kd.int .i64) 3 wx w2.heap.size (fun _ => True) s8 (thereTo v m 3) ∧ Below w2.heap.size w2 wx)
  case first =>
    clear c0 c1 c2 c3 c4 c5
    go_wp2_with fail
    go_loopw [8, 21] (fun out i wr => ∃ k : Nat, k ≤ 3 ∧ i = .int .i64 (k : Nat) ∧ Hid (Kd.R (Kd.int .i64) 3 wr w2.heap.size (fun _ => True) out (thereTo v m k)) ∧ Hid (Below w2.heap.size w2 wr))
      (fun _ i _ => 3 - (intOf i).toNat)
    case atStart => exact ⟨0, by omega, rfl, Lib.hid (Kd.R_nil _ _ _ _ _), Lib.hid (Below.refl _ _)⟩
    case round =>
      obtain ⟨k, hk, rfl, HR, HBr⟩ := hrel
      by_cases hlt : k < 3
      · obtain rfl | rfl | rfl : k = 0 ∨ k = 1 ∨ k = 2 := by omega
        · go_upto_block 1 with fail
          go_cut [8] from 23 to 31 (fun s8 wx => Kd.R (Kd.int .i64) 3 wx w2.heap.size (fun _ => True) s8 (thereTo v m 1) ∧ Below w2.heap.size w2 wx)
          case first =>
            have HT := Lib.hid (thereTo_succ v m 0)
            have hix := fun w => run_index_st (P := Try.prog) w 65 #[Value.int IntKind.i64 v0, Value.bool m0, Value.int IntKind.i64 v1, Value.bool m1, Value.int IntKind.i64 v2, Value.bool m2] 0 3 64 _ Try.underlying65 (by omega) Try.underlying64 2 (by kernel_rfl) _ rfl
            simp at hix
            have HBK := Lib.hid (bl_alloc HBr.out (Obj.cells #[Value.int IntKind.i64 v0, Value.bool m0] 64))
            have HRK := Lib.hid (Kd.R_alloc HR.out (Obj.cells #[Value.int IntKind.i64 v0, Value.bool m0] 64))
            clear HR HBr
            cases m0 with
            | false =>
              rw [← HM0.out, ← HV0.out, if_neg (by decide)] at HT
              go_upto_region 7 with fail
              clear hix
              have hle := thereTo_len v m 0
              have hck : (wr.alloc (Obj.cells #[Value.int IntKind.i64 v0, Value.bool false] 64)).cell? ⟨wr.heap.size, 0, none⟩ = some (.int .i64 v0) := by simp
              have hsk : wr.heap.size < (wr.alloc (Obj.cells #[Value.int IntKind.i64 v0, Value.bool false] 64)).heap.size := by simp
              generalize (wr.alloc (Obj.cells #[Value.int IntKind.i64 v0, Value.bool false] 64)) = W3 at HBK HRK hck hsk ⊢
              generalize wr.heap.size = bk at hck hsk ⊢
              go_wp2_with (at_builtin; go_loud (refine Kd.R_append (Kd.int .i64) (w0 := w2) w2.heap.size rfl (.tmp 27) (.tmp 30) 22 3 (.int .i64 0) 8 rfl Try.underlying22 Q.info3 rfl (by decide) (by omega) _ (thereTo v m 0) v0 [.int .i64 v0] (fun _ => True) (fun _ => False) rfl rfl rfl (fun _ hk => hk.elim) (fun _ _ => trivial) HRK.out HBK.out HBK.out.size (by omega) ?_; intro v9 w5 ho hb hg hat))
              go_meet
              exact ⟨by rw [HT.out]; exact ho, hb⟩
            | true =>
              rw [← HM0.out, if_pos rfl, List.append_nil] at HT
              go_wp2_with fail
              go_meet
              exact ⟨by rw [HT.out]; exact HRK.out, HBK.out⟩
          case rest =>
            obtain ⟨hRn, hbn⟩ := hcut
            have HRN := Lib.hid hRn
            have HBN := Lib.hid hbn
            clear hRn hbn
            go_wp2_with fail
            exact ⟨⟨1, by omega, rfl, HRN, HBN⟩, by simp [intOf]⟩
        · go_upto_block 1 with fail
          go_cut [8] from 23 to 31 (fun s8 wx => Kd.R (Kd.int .i64) 3 wx w2.heap.size (fun _ => True) s8 (thereTo v m 2) ∧ Below w2.heap.size w2 wx)
          case first =>
            have HT := Lib.hid (thereTo_succ v m 1)
            have hix := fun w => run_index_st (P := Try.prog) w 65 #[Value.int IntKind.i64 v0, Value.bool m0, Value.int IntKind.i64 v1, Value.bool m1, Value.int IntKind.i64 v2, Value.bool m2] 1 3 64 _ Try.underlying65 (by omega) Try.underlying64 2 (by kernel_rfl) _ rfl
            simp at hix
            have HBK := Lib.hid (bl_alloc HBr.out (Obj.cells #[Value.int IntKind.i64 v1, Value.bool m1] 64))
            have HRK := Lib.hid (Kd.R_alloc HR.out (Obj.cells #[Value.int IntKind.i64 v1, Value.bool m1] 64))
            clear HR HBr
            cases m1 with
            | false =>
              rw [← HM1.out, ← HV1.out, if_neg (by decide)] at HT
              go_upto_region 7 with fail
              clear hix
              have hle := thereTo_len v m 1
              have hck : (wr.alloc (Obj.cells #[Value.int IntKind.i64 v1, Value.bool false] 64)).cell? ⟨wr.heap.size, 0, none⟩ = some (.int .i64 v1) := by simp
              have hsk : wr.heap.size < (wr.alloc (Obj.cells #[Value.int IntKind.i64 v1, Value.bool false] 64)).heap.size := by simp
              generalize (wr.alloc (Obj.cells #[Value.int IntKind.i64 v1, Value.bool false] 64)) = W3 at HBK HRK hck hsk ⊢
              generalize wr.heap.size = bk at hck hsk ⊢
              go_wp2_with (at_builtin; go_loud (refine Kd.R_append (Kd.int .i64) (w0 := w2) w2.heap.size rfl (.tmp 27) (.tmp 30) 22 3 (.int .i64 0) 8 rfl Try.underlying22 Q.info3 rfl (by decide) (by omega) _ (thereTo v m 1) v1 [.int .i64 v1] (fun _ => True) (fun _ => False) rfl rfl rfl (fun _ hk => hk.elim) (fun _ _ => trivial) HRK.out HBK.out HBK.out.size (by omega) ?_; intro v9 w5 ho hb hg hat))
              go_meet
              exact ⟨by rw [HT.out]; exact ho, hb⟩
            | true =>
              rw [← HM1.out, if_pos rfl, List.append_nil] at HT
              go_wp2_with fail
              go_meet
              exact ⟨by rw [HT.out]; exact HRK.out, HBK.out⟩
          case rest =>
            obtain ⟨hRn, hbn⟩ := hcut
            have HRN := Lib.hid hRn
            have HBN := Lib.hid hbn
            clear hRn hbn
            go_wp2_with fail
            exact ⟨⟨2, by omega, rfl, HRN, HBN⟩, by simp [intOf]⟩
        · go_upto_block 1 with fail
          go_cut [8] from 23 to 31 (fun s8 wx => Kd.R (Kd.int .i64) 3 wx w2.heap.size (fun _ => True) s8 (thereTo v m 3) ∧ Below w2.heap.size w2 wx)
          case first =>
            have HT := Lib.hid (thereTo_succ v m 2)
            have hix := fun w => run_index_st (P := Try.prog) w 65 #[Value.int IntKind.i64 v0, Value.bool m0, Value.int IntKind.i64 v1, Value.bool m1, Value.int IntKind.i64 v2, Value.bool m2] 2 3 64 _ Try.underlying65 (by omega) Try.underlying64 2 (by kernel_rfl) _ rfl
            simp at hix
            have HBK := Lib.hid (bl_alloc HBr.out (Obj.cells #[Value.int IntKind.i64 v2, Value.bool m2] 64))
            have HRK := Lib.hid (Kd.R_alloc HR.out (Obj.cells #[Value.int IntKind.i64 v2, Value.bool m2] 64))
            clear HR HBr
            cases m2 with
            | false =>
              rw [← HM2.out, ← HV2.out, if_neg (by decide)] at HT
              go_upto_region 7 with fail
              clear hix
              have hle := thereTo_len v m 2
              have hck : (wr.alloc (Obj.cells #[Value.int IntKind.i64 v2, Value.bool false] 64)).cell? ⟨wr.heap.size, 0, none⟩ = some (.int .i64 v2) := by simp
              have hsk : wr.heap.size < (wr.alloc (Obj.cells #[Value.int IntKind.i64 v2, Value.bool false] 64)).heap.size := by simp
              generalize (wr.alloc (Obj.cells #[Value.int IntKind.i64 v2, Value.bool false] 64)) = W3 at HBK HRK hck hsk ⊢
              generalize wr.heap.size = bk at hck hsk ⊢
              go_wp2_with (at_builtin; go_loud (refine Kd.R_append (Kd.int .i64) (w0 := w2) w2.heap.size rfl (.tmp 27) (.tmp 30) 22 3 (.int .i64 0) 8 rfl Try.underlying22 Q.info3 rfl (by decide) (by omega) _ (thereTo v m 2) v2 [.int .i64 v2] (fun _ => True) (fun _ => False) rfl rfl rfl (fun _ hk => hk.elim) (fun _ _ => trivial) HRK.out HBK.out HBK.out.size (by omega) ?_; intro v9 w5 ho hb hg hat))
              go_meet
              exact ⟨by rw [HT.out]; exact ho, hb⟩
            | true =>
              rw [← HM2.out, if_pos rfl, List.append_nil] at HT
              go_wp2_with fail
              go_meet
              exact ⟨by rw [HT.out]; exact HRK.out, HBK.out⟩
          case rest =>
            obtain ⟨hRn, hbn⟩ := hcut
            have HRN := Lib.hid hRn
            have HBN := Lib.hid hbn
            clear hRn hbn
            go_wp2_with fail
            exact ⟨⟨3, by omega, rfl, HRN, HBN⟩, by simp [intOf]⟩
      · obtain rfl : k = 3 := by omega
        go_wp2_with fail
        go_meet
        exact ⟨HR.out, HBr.out⟩
  case rest =>
    obtain ⟨hRt, hbt⟩ := hcut
    obtain ⟨A8, c8, rfl⟩ := Kd.R_slice hRt
    obtain ⟨th, hth⟩ : ∃ th, th = thereTo v m 3 := ⟨_, rfl⟩
    have hL3 : th.length ≤ 3 := by rw [hth]; exact thereTo_len v m 3
    rw [← hth] at hRt ⊢
    obtain ⟨bt, hbtt⟩ : ∃ bt : Bool, bt = decide (0 ≤ t ∧ t ≤ 1000000) := ⟨_, rfl⟩
    have HBTT := Lib.hid hbtt
    clear hbtt
    obtain ⟨u1, hu1⟩ : ∃ u1 : Int, u1 = if 0 ≤ t ∧ t ≤ 1000000 then 0 else 2 := ⟨_, rfl⟩
    obtain ⟨u2, hu2⟩ : ∃ u2 : Int, u2 = if 2 ≤ th.length then 0 else 14 := ⟨_, rfl⟩
    have her2 : er = if fe = 0 then (if u1 = 0 then u2 else u1) else fe := by
      rw [HER.out, voteErr, ← HFE.out, ← hth]
      by_cases h1 : fe = 0
      · rw [if_pos h1, if_pos h1]
        by_cases h2 : 0 ≤ t ∧ t ≤ 1000000
        · rw [if_pos h2] at hu1 ⊢; rw [if_pos hu1, hu2]
        · rw [if_neg h2] at hu1 ⊢; rw [if_neg (by omega), hu1]
      · rw [if_neg h1, if_neg h1]
    have HU1 := Lib.hid hu1
    have HU2 := Lib.hid hu2
    have HE2 := Lib.hid her2
    have HRT := Lib.hid hRt
    have HBT := Lib.hid hbt
    have HTH := Lib.hid hth
    clear hu1 hu2 her2 hRt hbt hth c0 c1 c2 c3 c4 c5
    go_wp2_with fail
    refine (Q.governor_within.calls t 0 1000000 bt _ (by rw [HBTT.out]; exact within_eval _ _ _)).mono ?_
    rintro e w5 ⟨rfl, ⟨n5, rfl⟩⟩
    go_wp2_with fail
    refine (unless_call bt 2 u1 _ (by rw [HU1.out, HBTT.out]; by_cases q : 0 ≤ t ∧ t ≤ 1000000 <;> simp [q])).mono ?_
    rintro e w5 ⟨rfl, ⟨n6, rfl⟩⟩
    go_wp2_with fail
    refine (unless_call _ 14 u2 _ (by rw [HU2.out]; by_cases q : 2 ≤ th.length <;> simp [q] <;> omega)).mono ?_
    rintro e w5 ⟨rfl, ⟨n7, rfl⟩⟩
    go_wp2_with fail
    refine (first_lit3 _ _ _ _ _ _ HE2.out).mono ?_
    rintro e w6 ⟨rfl, hd⟩
    have hb6 : Below wc.heap.size wc w6 := bl_drawn (bl_alloc (bl_drewN (Below.refl _ _) _) _) hd
    have HB6 := Lib.hid (bl_next HBT.out hb6)
    have HR6 := Lib.hid (Kd.R_below HRT.out hb6)
    have q2 := (HB6.out.block _ (Array.getElem?_eq_some_iff.1 Q2.out).1).trans Q2.out
    have q1 := (HB6.out.block _ (Array.getElem?_eq_some_iff.1 Q1.out).1).trans Q1.out
    have Q26 := Lib.hid q2
    have Q16 := Lib.hid q1
    have x0 := (blk_cell q2 0).trans (rfl : _ = some (Value.int .i64 0))
    have x1 := (blk_cell q2 1).trans (rfl : _ = some (Value.bool false))
    have x2 := (blk_cell q2 2).trans (rfl : _ = some (Value.bool false))
    have x3 := (blk_cell q2 3).trans (rfl : _ = some (Value.bool false))
    have y0 := blk_frozen q2 0
    have y1 := blk_frozen q2 1
    have y2 := blk_frozen q2 2
    have y3 := blk_frozen q2 3
    clear hb6 hd HRT HBT q1 q2
    by_cases he : er = 0
    · have HZ := Lib.hid he
      subst he
      obtain ⟨hfe0, hl2⟩ := voteErr_zero HER.out.symm
      rw [← HTH.out] at hl2
      obtain ⟨g, cap, hv8, hgb, hgl, -⟩ := Kd.R_form HR6.out (by omega)
      rw [hv8] at HR6 ⊢
      have HSI := Lib.hid (sort_ints w2.heap.size g cap w6 th (by omega) HR6.out HB6.out.size)
      clear hv8 x0 x1 x2 x3 y0 y1 y2 y3 hgl
      go_wp2_with fail
      refine HSI.out.mono ?_
      rintro e w7 ⟨rfl, hb7, hs7⟩
      have q2 := (hb7.block _ (by omega)).trans Q26.out
      have q1 := (hb7.block _ (by omega)).trans Q16.out
      have HB7 := Lib.hid (HB6.out.trans hb7)
      have z0 := hs7 0 (by omega)
      have z1 := hs7 1 (by omega)
      have HFE9 := Lib.hid hfe0
      have hsb := srt_bound hfe0
      rw [← HTH.out] at hsb
      have hb0 := hsb 0
      have hb1 := hsb 1
      obtain ⟨s0, hs0⟩ : ∃ s0, s0 = (srt th).getD 0 0 := ⟨_, rfl⟩
      obtain ⟨s1, hs1⟩ : ∃ s1, s1 = (srt th).getD 1 0 := ⟨_, rfl⟩
      rw [← hs0] at z0 hb0
      rw [← hs1] at z1 hb1
      have HS0 := Lib.hid hs0
      have HS1 := Lib.hid hs1
      have hsz7 : w2.heap.size ≤ w7.heap.size := HB7.out.size
      have Q27 := Lib.hid q2
      have Q17 := Lib.hid q1
      have x0 := (blk_cell q2 0).trans (rfl : _ = some (Value.int .i64 0))
      have x1 := (blk_cell q2 1).trans (rfl : _ = some (Value.bool false))
      have x2 := (blk_cell q2 2).trans (rfl : _ = some (Value.bool false))
      have x3 := (blk_cell q2 3).trans (rfl : _ = some (Value.bool false))
      have y0 := blk_frozen q2 0
      have y1 := blk_frozen q2 1
      have y2 := blk_frozen q2 2
      have y3 := blk_frozen q2 3
      clear hb7 hs7 hsb hs0 hs1 hfe0 HSI q1 q2
      by_cases h2 : th.length = 2
      · have h2b : ((th.length : Int) == 2) = true := by simp [h2]
        have h1l : (1 : Int) < (th.length : Int) := by omega
        have h0l : (0 : Int) < (th.length : Int) := by omega
        have hth2 : thereTo v m 3 = th := HTH.out.symm
        by_cases hc : t < s1 - s0
        · have HVE : Hid (voteOf v m t = (0, noOdd, 13)) := Lib.hid (by unfold voteOf; rw [← HER.out, if_pos rfl, hth2, if_pos h2, ← HS0.out, ← HS1.out, if_pos hc])
          clear hth2
          go_wp2_with fail
          go_quiet (fail)
          go_wp2_with fail
          obtain ⟨k0, k1, k2, k3, hbk⟩ := cells4_set (W := w7.drewN nq) (b := w.heap.size + 1) (x0 := .int .i64 0) (x1 := .bool false) (x2 := .bool false) (x3 := .bool false) ⟨_, x0⟩ ⟨_, x1⟩ ⟨_, x2⟩ ⟨_, x3⟩
          exact bodyPost_ret (v := .tuple #[.agg #[.int .i64 0, .bool false, .bool false, .bool false], .int .i64 13]) (by simp [results, Try.results25, go_sem, k0, k1, k2, k3]) rfl ⟨by rw [HVE.out]; rfl, (bl_next HB2.out (bl_drewN HB7.out nq)).trans (hbk _ (by omega))⟩
        · have HVE : Hid (voteOf v m t = ((s0 + s1) / 2, noOdd, 0)) := Lib.hid (by unfold voteOf; rw [← HER.out, if_pos rfl, hth2, if_pos h2, ← HS0.out, ← HS1.out, if_neg hc])
          clear hth2
          go_wp2_with fail
          go_quiet (fail)
          go_wp2_with fail
          have hsum : IntKind.i64.wrap (s0 + s1) = s0 + s1 := by rw [i64_w]; exact w64 (by omega) (by omega)
          clear hc
          go_region_with (fail)
          all_goals go_wp2_with fail
          all_goals
            obtain ⟨k0, k1, k2, k3, hbk⟩ := cells4_set (W := w7.drewN (nq + 1)) (b := w.heap.size + 1) (x0 := .int .i64 ((s0 + s1) / 2)) (x1 := .bool false) (x2 := .bool false) (x3 := .bool false) ⟨_, x0⟩ ⟨_, x1⟩ ⟨_, x2⟩ ⟨_, x3⟩
            exact bodyPost_ret (v := .tuple #[.agg #[.int .i64 ((s0 + s1) / 2), .bool false, .bool false, .bool false], .int .i64 0]) (by simp [results, Try.results25, go_sem, k0, k1, k2, k3]) rfl ⟨by rw [HVE.out]; rfl, (bl_next HB2.out (bl_drewN HB7.out (nq + 1))).trans (hbk _ (by omega))⟩
      · have h2b : ((th.length : Int) == 2) = false := by simp; omega
        have r0 := (blk_cell Q17.out 0).trans (rfl : _ = some (Value.int .i64 v0))
        have r1 := (blk_cell Q17.out 1).trans (rfl : _ = some (Value.bool m0))
        have r2 := (blk_cell Q17.out 2).trans (rfl : _ = some (Value.int .i64 v1))
        have r3 := (blk_cell Q17.out 3).trans (rfl : _ = some (Value.bool m1))
        have r4 := (blk_cell Q17.out 4).trans (rfl : _ = some (Value.int .i64 v2))
        have r5 := (blk_cell Q17.out 5).trans (rfl : _ = some (Value.bool m2))
        have hlt0 : w.heap.size < w7.heap.size := by omega
        go_upto_block 2 with fail
        obtain ⟨b11, hb11⟩ : ∃ b11, b11 = w7.heap.size := ⟨_, rfl⟩
        have hth3 : thereTo v m 3 = th := HTH.out.symm
        obtain ⟨hm0, hm1, hm2⟩ := all_there (v := v) (m := m) (by rw [hth3]; omega)
        have hbd : ∀ i, i < 3 → -1000000 ≤ v i ∧ v i ≤ 1000000 := by
          intro i hi
          have h9 := HFE9.out i hi
          have hmi : m i = false := by
            obtain rfl | rfl | rfl : i = 0 ∨ i = 1 ∨ i = 2 := by omega
            · exact hm0
            · exact hm1
            · exact hm2
          unfold readErr at h9
          rw [hmi, if_neg (by decide)] at h9
          split at h9
          · assumption
          · omega
        have HBD := Lib.hid hbd
        have HTH3 := Lib.hid hth3
        have HX8 : Hid (Box4 (w7.alloc (Obj.cells #[Value.int IntKind.i64 s1, Value.bool false, Value.bool false, Value.bool false] 68)) b11 s1 (odds v s1 t 0)) := by
          rw [hb11]
          have hnew := blk_new w7 (Obj.cells #[Value.int IntKind.i64 s1, Value.bool false, Value.bool false, Value.bool false] 68)
          exact Lib.hid ⟨(blk_cell hnew 0).trans rfl, (blk_cell hnew 1).trans rfl, (blk_cell hnew 2).trans rfl, (blk_cell hnew 3).trans rfl, fun j => blk_frozen hnew j⟩
        have HB8 := Lib.hid (bl_alloc (Below.refl _ w7) (Obj.cells #[Value.int IntKind.i64 s1, Value.bool false, Value.bool false, Value.bool false] 68))
        rw [← hb11]
        generalize (w7.alloc (Obj.cells #[Value.int IntKind.i64 s1, Value.bool false, Value.bool false, Value.bool false] 68)) = W8 at HX8 HB8 ⊢
        have HB11 := Lib.hid hb11
        clear hbd hth3 hm0 hm1 hm2 r0 r1 r2 r3 r4 r5 hb11 z0 z1 x0 x1 x2 x3 y0 y1 y2 y3
        go_cut [12] from 76 to 93 (fun s12 wx => s12 = .int .i64 (oddTo v s1 t 3) ∧ Box4 wx b11 s1 (odds v s1 t 3) ∧ Below w7.heap.size w7 wx)
        case first =>
          go_wp2_with fail
          go_loopw [12, 76] (fun s12 i wr => ∃ k : Nat, k ≤ 3 ∧ i = .int .i64 (k : Nat) ∧ s12 = .int .i64 (oddTo v s1 t k) ∧ Hid (Box4 wr b11 s1 (odds v s1 t k)) ∧ Hid (Below w7.heap.size w7 wr))
            (fun _ i _ => 3 - (intOf i).toNat)
          case atStart => exact ⟨0, by omega, rfl, rfl, HX8, HB8⟩
          case round =>
            obtain ⟨k, hk, rfl, rfl, HX, HBr⟩ := hrel
            have hbd := HBD.out
            have hcx := HX.out.c0
            by_cases hlt : k < 3
            · obtain rfl | rfl | rfl : k = 0 ∨ k = 1 ∨ k = 2 := by omega
              · go_upto_block 3 with fail
                go_cut [12] from 77 to 92 (fun s12 wx => s12 = .int .i64 (oddTo v s1 t 1) ∧ Box4 wx b11 s1 (odds v s1 t 1) ∧ Below w7.heap.size w7 wx)
                case first =>
                  have hix := fun w => run_index_st (P := Try.prog) w 65 #[Value.int IntKind.i64 v0, Value.bool m0, Value.int IntKind.i64 v1, Value.bool m1, Value.int IntKind.i64 v2, Value.bool m2] 0 3 64 _ Try.underlying65 (by omega) Try.underlying64 2 (by kernel_rfl) _ rfl
                  simp at hix
                  have HB9 := Lib.hid (bl_alloc HBr.out (Obj.cells #[Value.int IntKind.i64 v0, Value.bool m0] 64))
                  have HX9 := Lib.hid (HX.out.below (bl_alloc (Below.refl _ _) (Obj.cells #[Value.int IntKind.i64 v0, Value.bool m0] 64)))
                  have hq0 := HX9.out.c0
                  have HODD := Lib.hid (oddTo_succ v s1 t 0)
                  have hvb := hbd 0 (by omega)
                  rw [← HV0.out] at hvb
                  obtain ⟨a9, ha9⟩ : ∃ a9, a9 = absI (v0 - s1) := ⟨_, rfl⟩
                  have hod : oddAt v s1 t 0 = decide (t < a9) := by rw [ha9, HV0.out]; rfl
                  have HOD := Lib.hid hod
                  have HA9 := Lib.hid ha9
                  have hcnt := oddTo_bound v s1 t 0
                  obtain ⟨n9, hn9⟩ : ∃ n9, n9 = oddTo v s1 t 0 := ⟨_, rfl⟩
                  rw [← hn9] at HODD hcnt ⊢
                  have HN9 := Lib.hid hn9
                  have hbl : b11 < wr.heap.size := block_lt_of_cell hcx
                  clear hod ha9 hn9 HX HBr hbd
                  go_upto_region 22 with fail
                  clear hix
                  have hck : (wr.alloc (Obj.cells #[Value.int IntKind.i64 v0, Value.bool m0] 64)).cell? ⟨wr.heap.size, 0, none⟩ = some (.int .i64 v0) := by simp
                  have hsk : wr.heap.size < (wr.alloc (Obj.cells #[Value.int IntKind.i64 v0, Value.bool m0] 64)).heap.size := by simp
                  generalize (wr.alloc (Obj.cells #[Value.int IntKind.i64 v0, Value.bool m0] 64)) = W9 at HB9 HX9 hq0 hck hsk ⊢
                  generalize wr.heap.size = bk at hck hsk hbl ⊢
                  go_wp2_with fail
                  refine (Q.governor_size.calls (v0 - s1) a9 _ (by rw [HA9.out]; exact size_eval _ (by omega) (by omega))).mono ?_
                  rintro e w9 ⟨rfl, hb9⟩
                  have HX10 := Lib.hid (HX9.out.below hb9)
                  have HB10 := Lib.hid (bl_next HB9.out hb9)
                  have hf9 := HX10.out.fr 1
                  have hq9 := HX10.out.c1
                  clear hb9 hq0 hck hsk
                  by_cases hto : t < a9
                  · have hodk : oddAt v s1 t 0 = true := by rw [HOD.out]; simpa using hto
                    have HODK := Lib.hid hodk
                    rw [if_pos hodk] at HODD
                    clear hodk
                    go_wp2_with fail
                    go_meet
                    exact ⟨by rw [HODD.out], HX10.out.mark 0 (fun i hi => odds_mark HODK.out i hi), HB10.out.setCell (p := ⟨b11, 1, none⟩) (by rw [HB11.out]; exact Nat.le_refl _) _⟩
                  · have hodk : ¬ oddAt v s1 t 0 = true := by rw [HOD.out]; simpa using hto
                    have HODK := Lib.hid hodk
                    rw [if_neg hodk, Int.add_zero] at HODD
                    clear hodk
                    go_wp2_with fail
                    go_meet
                    exact ⟨by rw [HODD.out], HX10.out.same (fun i hi => odds_skip HODK.out i hi), HB10.out⟩
                case rest =>
                  obtain ⟨rfl, hXn, hbn⟩ := hcut
                  have HXN := Lib.hid hXn
                  have HBN := Lib.hid hbn
                  clear hXn hbn hcx
                  go_wp2_with fail
                  exact ⟨⟨1, by omega, rfl, rfl, HXN, HBN⟩, by simp [intOf]⟩
              · go_upto_block 3 with fail
                go_cut [12] from 77 to 92 (fun s12 wx => s12 = .int .i64 (oddTo v s1 t 2) ∧ Box4 wx b11 s1 (odds v s1 t 2) ∧ Below w7.heap.size w7 wx)
                case first =>
                  have hix := fun w => run_index_st (P := Try.prog) w 65 #[Value.int IntKind.i64 v0, Value.bool m0, Value.int IntKind.i64 v1, Value.bool m1, Value.int IntKind.i64 v2, Value.bool m2] 1 3 64 _ Try.underlying65 (by omega) Try.underlying64 2 (by kernel_rfl) _ rfl
                  simp at hix
                  have HB9 := Lib.hid (bl_alloc HBr.out (Obj.cells #[Value.int IntKind.i64 v1, Value.bool m1] 64))
                  have HX9 := Lib.hid (HX.out.below (bl_alloc (Below.refl _ _) (Obj.cells #[Value.int IntKind.i64 v1, Value.bool m1] 64)))
                  have hq0 := HX9.out.c0
                  have HODD := Lib.hid (oddTo_succ v s1 t 1)
                  have hvb := hbd 1 (by omega)
                  rw [← HV1.out] at hvb
                  obtain ⟨a9, ha9⟩ : ∃ a9, a9 = absI (v1 - s1) := ⟨_, rfl⟩
                  have hod : oddAt v s1 t 1 = decide (t < a9) := by rw [ha9, HV1.out]; rfl
                  have HOD := Lib.hid hod
                  have HA9 := Lib.hid ha9
                  have hcnt := oddTo_bound v s1 t 1
                  obtain ⟨n9, hn9⟩ : ∃ n9, n9 = oddTo v s1 t 1 := ⟨_, rfl⟩
                  rw [← hn9] at HODD hcnt ⊢
                  have HN9 := Lib.hid hn9
                  have hbl : b11 < wr.heap.size := block_lt_of_cell hcx
                  clear hod ha9 hn9 HX HBr hbd
                  go_upto_region 22 with fail
                  clear hix
                  have hck : (wr.alloc (Obj.cells #[Value.int IntKind.i64 v1, Value.bool m1] 64)).cell? ⟨wr.heap.size, 0, none⟩ = some (.int .i64 v1) := by simp
                  have hsk : wr.heap.size < (wr.alloc (Obj.cells #[Value.int IntKind.i64 v1, Value.bool m1] 64)).heap.size := by simp
                  generalize (wr.alloc (Obj.cells #[Value.int IntKind.i64 v1, Value.bool m1] 64)) = W9 at HB9 HX9 hq0 hck hsk ⊢
                  generalize wr.heap.size = bk at hck hsk hbl ⊢
                  go_wp2_with fail
                  refine (Q.governor_size.calls (v1 - s1) a9 _ (by rw [HA9.out]; exact size_eval _ (by omega) (by omega))).mono ?_
                  rintro e w9 ⟨rfl, hb9⟩
                  have HX10 := Lib.hid (HX9.out.below hb9)
                  have HB10 := Lib.hid (bl_next HB9.out hb9)
                  have hf9 := HX10.out.fr 2
                  have hq9 := HX10.out.c2
                  clear hb9 hq0 hck hsk
                  by_cases hto : t < a9
                  · have hodk : oddAt v s1 t 1 = true := by rw [HOD.out]; simpa using hto
                    have HODK := Lib.hid hodk
                    rw [if_pos hodk] at HODD
                    clear hodk
                    go_wp2_with fail
                    go_meet
                    exact ⟨by rw [HODD.out], HX10.out.mark 1 (fun i hi => odds_mark HODK.out i hi), HB10.out.setCell (p := ⟨b11, 2, none⟩) (by rw [HB11.out]; exact Nat.le_refl _) _⟩
                  · have hodk : ¬ oddAt v s1 t 1 = true := by rw [HOD.out]; simpa using hto
                    have HODK := Lib.hid hodk
                    rw [if_neg hodk, Int.add_zero] at HODD
                    clear hodk
                    go_wp2_with fail
                    go_meet
                    exact ⟨by rw [HODD.out], HX10.out.same (fun i hi => odds_skip HODK.out i hi), HB10.out⟩
                case rest =>
                  obtain ⟨rfl, hXn, hbn⟩ := hcut
                  have HXN := Lib.hid hXn
                  have HBN := Lib.hid hbn
                  clear hXn hbn hcx
                  go_wp2_with fail
                  exact ⟨⟨2, by omega, rfl, rfl, HXN, HBN⟩, by simp [intOf]⟩
              · go_upto_block 3 with fail
                go_cut [12] from 77 to 92 (fun s12 wx => s12 = .int .i64 (oddTo v s1 t 3) ∧ Box4 wx b11 s1 (odds v s1 t 3) ∧ Below w7.heap.size w7 wx)
                case first =>
                  have hix := fun w => run_index_st (P := Try.prog) w 65 #[Value.int IntKind.i64 v0, Value.bool m0, Value.int IntKind.i64 v1, Value.bool m1, Value.int IntKind.i64 v2, Value.bool m2] 2 3 64 _ Try.underlying65 (by omega) Try.underlying64 2 (by kernel_rfl) _ rfl
                  simp at hix
                  have HB9 := Lib.hid (bl_alloc HBr.out (Obj.cells #[Value.int IntKind.i64 v2, Value.bool m2] 64))
                  have HX9 := Lib.hid (HX.out.below (bl_alloc (Below.refl _ _) (Obj.cells #[Value.int IntKind.i64 v2, Value.bool m2] 64)))
                  have hq0 := HX9.out.c0
                  have HODD := Lib.hid (oddTo_succ v s1 t 2)
                  have hvb := hbd 2 (by omega)
                  rw [← HV2.out] at hvb
                  obtain ⟨a9, ha9⟩ : ∃ a9, a9 = absI (v2 - s1) := ⟨_, rfl⟩
                  have hod : oddAt v s1 t 2 = decide (t < a9) := by rw [ha9, HV2.out]; rfl
                  have HOD := Lib.hid hod
                  have HA9 := Lib.hid ha9
                  have hcnt := oddTo_bound v s1 t 2
                  obtain ⟨n9, hn9⟩ : ∃ n9, n9 = oddTo v s1 t 2 := ⟨_, rfl⟩
                  rw [← hn9] at HODD hcnt ⊢
                  have HN9 := Lib.hid hn9
                  have hbl : b11 < wr.heap.size := block_lt_of_cell hcx
                  clear hod ha9 hn9 HX HBr hbd
                  go_upto_region 22 with fail
                  clear hix
                  have hck : (wr.alloc (Obj.cells #[Value.int IntKind.i64 v2, Value.bool m2] 64)).cell? ⟨wr.heap.size, 0, none⟩ = some (.int .i64 v2) := by simp
                  have hsk : wr.heap.size < (wr.alloc (Obj.cells #[Value.int IntKind.i64 v2, Value.bool m2] 64)).heap.size := by simp
                  generalize (wr.alloc (Obj.cells #[Value.int IntKind.i64 v2, Value.bool m2] 64)) = W9 at HB9 HX9 hq0 hck hsk ⊢
                  generalize wr.heap.size = bk at hck hsk hbl ⊢
                  go_wp2_with fail
                  refine (Q.governor_size.calls (v2 - s1) a9 _ (by rw [HA9.out]; exact size_eval _ (by omega) (by omega))).mono ?_
                  rintro e w9 ⟨rfl, hb9⟩
                  have HX10 := Lib.hid (HX9.out.below hb9)
                  have HB10 := Lib.hid (bl_next HB9.out hb9)
                  have hf9 := HX10.out.fr 3
                  have hq9 := HX10.out.c3
                  clear hb9 hq0 hck hsk
                  by_cases hto : t < a9
                  · have hodk : oddAt v s1 t 2 = true := by rw [HOD.out]; simpa using hto
                    have HODK := Lib.hid hodk
                    rw [if_pos hodk] at HODD
                    clear hodk
                    go_wp2_with fail
                    go_meet
                    exact ⟨by rw [HODD.out], HX10.out.mark 2 (fun i hi => odds_mark HODK.out i hi), HB10.out.setCell (p := ⟨b11, 3, none⟩) (by rw [HB11.out]; exact Nat.le_refl _) _⟩
                  · have hodk : ¬ oddAt v s1 t 2 = true := by rw [HOD.out]; simpa using hto
                    have HODK := Lib.hid hodk
                    rw [if_neg hodk, Int.add_zero] at HODD
                    clear hodk
                    go_wp2_with fail
                    go_meet
                    exact ⟨by rw [HODD.out], HX10.out.same (fun i hi => odds_skip HODK.out i hi), HB10.out⟩
                case rest =>
                  obtain ⟨rfl, hXn, hbn⟩ := hcut
                  have HXN := Lib.hid hXn
                  have HBN := Lib.hid hbn
                  clear hXn hbn hcx
                  go_wp2_with fail
                  exact ⟨⟨3, by omega, rfl, rfl, HXN, HBN⟩, by simp [intOf]⟩
            · obtain rfl : k = 3 := by omega
              go_wp2_with fail
              go_meet
              exact ⟨rfl, HX.out, HBr.out⟩
        case rest =>
          obtain ⟨rfl, hXn, hbn⟩ := hcut
          have hXn := hXn.same (o' := oddAt v s1 t) (fun i hi => by unfold odds; simp [hi])
          obtain ⟨x0, x1, x2, x3, xf⟩ := hXn
          have HBN := Lib.hid hbn
          have q2 := (hbn.block _ (by omega)).trans Q27.out
          have p0 := (blk_cell q2 0).trans (rfl : _ = some (Value.int .i64 0))
          have p1 := (blk_cell q2 1).trans (rfl : _ = some (Value.bool false))
          have p2 := (blk_cell q2 2).trans (rfl : _ = some (Value.bool false))
          have p3 := (blk_cell q2 3).trans (rfl : _ = some (Value.bool false))
          have y0 := blk_frozen q2 0
          have y1 := blk_frozen q2 1
          have y2 := blk_frozen q2 2
          have y3 := blk_frozen q2 3
          have hcnt := oddTo_bound v s1 t 3
          obtain ⟨n9, hn9⟩ : ∃ n9, n9 = oddTo v s1 t 3 := ⟨_, rfl⟩
          rw [← hn9] at hcnt ⊢
          obtain ⟨o0, ho0⟩ : ∃ o, o = oddAt v s1 t 0 := ⟨_, rfl⟩
          obtain ⟨o1, ho1⟩ : ∃ o, o = oddAt v s1 t 1 := ⟨_, rfl⟩
          obtain ⟨o2, ho2⟩ : ∃ o, o = oddAt v s1 t 2 := ⟨_, rfl⟩
          rw [← ho0] at x1
          rw [← ho1] at x2
          rw [← ho2] at x3
          have HO0 := Lib.hid ho0
          have HO1 := Lib.hid ho1
          have HO2 := Lib.hid ho2
          have hth2 : thereTo v m 3 = th := HTH.out.symm
          by_cases hc : 1 < n9
          · have HVE : Hid (voteOf v m t = (0, noOdd, 13)) := Lib.hid (by unfold voteOf; rw [← HER.out, if_pos rfl, hth2, if_neg h2, ← HS1.out, ← hn9, if_pos hc])
            clear hth2 hn9 q2 xf hbn ho0 ho1 ho2
            go_wp2_with fail
            obtain ⟨k0, k1, k2, k3, hbk⟩ := cells4_set (W := wc) (b := w.heap.size + 1) (x0 := .int .i64 0) (x1 := .bool false) (x2 := .bool false) (x3 := .bool false) ⟨_, p0⟩ ⟨_, p1⟩ ⟨_, p2⟩ ⟨_, p3⟩
            exact bodyPost_ret (v := .tuple #[.agg #[.int .i64 0, .bool false, .bool false, .bool false], .int .i64 13]) (by simp [results, Try.results25, go_sem, k0, k1, k2, k3]) rfl ⟨by rw [HVE.out]; rfl, (bl_next HB2.out (bl_next HB7.out HBN.out)).trans (hbk _ (by omega))⟩
          · have HVE : Hid (voteOf v m t = (s1, oddAt v s1 t, 0)) := Lib.hid (by unfold voteOf; rw [← HER.out, if_pos rfl, hth2, if_neg h2, ← HS1.out, ← hn9, if_neg hc])
            clear hth2 hn9 q2 xf hbn ho0 ho1 ho2
            go_wp2_with fail
            obtain ⟨k0, k1, k2, k3, hbk⟩ := cells4_set (W := wc) (b := w.heap.size + 1) (x0 := .int .i64 s1) (x1 := .bool o0) (x2 := .bool o1) (x3 := .bool o2) ⟨_, p0⟩ ⟨_, p1⟩ ⟨_, p2⟩ ⟨_, p3⟩
            exact bodyPost_ret (v := .tuple #[.agg #[.int .i64 s1, .bool o0, .bool o1, .bool o2], .int .i64 0]) (by simp [results, Try.results25, go_sem, k0, k1, k2, k3]) rfl ⟨by rw [HVE.out, HO0.out, HO1.out, HO2.out], (bl_next HB2.out (bl_next HB7.out HBN.out)).trans (hbk _ (by omega))⟩
    · have hne : (er != 0) = true := by simpa using he
      have hne2 : (er == 0) = false := by simpa using he
      have HVE : Hid (voteOf v m t = (0, noOdd, er)) := Lib.hid (by unfold voteOf; rw [← HER.out, if_neg he])
      clear he
      go_wp2_with fail
      obtain ⟨k0, k1, k2, k3, hbk⟩ := cells4_set (W := w6) (b := w.heap.size + 1) (x0 := .int .i64 0) (x1 := .bool false) (x2 := .bool false) (x3 := .bool false) ⟨_, x0⟩ ⟨_, x1⟩ ⟨_, x2⟩ ⟨_, x3⟩
      exact bodyPost_ret (v := .tuple #[.agg #[.int .i64 0, .bool false, .bool false, .bool false], .int .i64 er]) (by simp [results, Try.results25, go_sem, k0, k1, k2, k3]) rfl ⟨by rw [HVE.out]; rfl, (bl_next HB2.out HB6.out).trans (hbk _ (by omega))⟩
end Go.Proofs.Ytmpondcccbmlhaa.Ext
