/- A part of the claim L: the texts Rcl, without what the claim does not lean on. -/
import Derived.ArgAppend
import Derived.Below
import Derived.BigQuiet
import Derived.Deep.AppendLies
import Derived.Deep.CutBlock
import Derived.Deep.DeepCutAuto
import Derived.Deep.Draws
import Derived.Deep.LoopGhost
import Derived.Deep.OwnRows
import Derived.Deep.QuietTactic
import Derived.Deep.RegionHeld3
import Derived.Deep.RegionWith
import Derived.Deep.WholeRow
import Derived.Ground.SlsfProg
import Derived.KernelRfl
import Derived.Laws.BitsLemmas
import Derived.Laws.BytesArg
import Derived.Laws.ComplexArith
import Derived.Laws.IdiomCopy
import Derived.Laws.MakeOwn
import Derived.Laws.OwnMore
import Derived.Laws.Rows
import Derived.Laws.Slices
import Derived.Laws.StructEq
import Derived.Lib.AppendStr
import Derived.Lib.ConvBytes
import Derived.Lib.Hide
import Derived.Lib.LazyBuf
import Derived.LoopIn
import Derived.LoopNIn
import Derived.Maps.AppendAt
import Derived.OrdersHeld
import Derived.Outline
import Derived.OwnWalk
import Derived.OwnWalkIn
import Derived.RangeFuncBound
import Derived.RangeFuncCalls
import Derived.RangeFuncLeaves
import Derived.RangeFuncNested
import Derived.RowKit
import Derived.RowKit3
import Derived.Shelf.Abstract
import Derived.Shelf.RegionOpen
import Derived.Shelf.SlSortCmp.HeapSort1
import Derived.Shelf.SlSortCmp.Insertion
import Derived.Shelf.SlSortCmp.Insertion1
import Derived.Shelf.SlSortCmp.Median1
import Derived.Shelf.SlSortCmp.PartialInsertion1
import Derived.Shelf.SlSortCmp.Partition1
import Derived.Shelf.SlSortCmp.PartitionEqual1
import Derived.Shelf.SlSortCmp.Pdq1
import Derived.Shelf.SlSortCmp.Pivot1
import Derived.Shelf.SlSortCmp.ReverseRange1
import Derived.Shelf.SlSortCmp.SiftDown1
import Derived.Shelf.SlSortCmp.Whole1
import Derived.Shelf.Slices.Empties2
import Derived.Shelf.Slices.Equal
import Derived.Shelf.Slices.In.SortNone
import Derived.Shelf.Small.Bits
import Derived.Shelf.Sort.Plain
import Derived.Shelf.Strconv.Itoa0
import Derived.Sort.CutIn
import Derived.Tactics
import Derived.TacticsInMore
import Derived.WalkKit
import Derived.WalkLawsBesides
import Derived.WideLaws
import Derived.Test.YtmpondcccbmlhaaGreatProg
import Derived.Test.YtmpondcccbmlhaaGreatzL0
import Derived.Test.YtmpondcccbmlhaaGreatzL1
import Derived.Test.YtmpondcccbmlhaaGreatzL2
import Derived.Test.YtmpondcccbmlhaaGreatzL3
import Derived.Test.YtmpondcccbmlhaaGreatzL4
import Derived.Test.YtmpondcccbmlhaaGreatzL5
import Derived.Test.YtmpondcccbmlhaaGreatzL6
import Derived.Test.YtmpondcccbmlhaaGreatzL7
import Derived.Test.YtmpondcccbmlhaaGreatzL8
import Derived.Test.YtmpondcccbmlhaaGreatzL9
import Derived.Test.YtmpondcccbmlhaaGreatzL10
import Derived.Test.YtmpondcccbmlhaaGreatzL12
import Derived.Test.YtmpondcccbmlhaaGreatzL13
import Derived.Test.YtmpondcccbmlhaaGreatzL14
import Derived.Test.YtmpondcccbmlhaaGreatzL15
import Derived.Test.YtmpondcccbmlhaaGreatzL16
import Derived.Test.YtmpondcccbmlhaaGreatzL17
import Derived.Test.YtmpondcccbmlhaaGreatzL18
import Derived.Test.YtmpondcccbmlhaaGreatzL19
import Derived.Test.YtmpondcccbmlhaaGreatzL20
import Derived.Test.YtmpondcccbmlhaaGreatzL21
import Derived.Test.YtmpondcccbmlhaaGreatzL22
import Derived.Test.YtmpondcccbmlhaaGreatzL23
import Derived.Test.YtmpondcccbmlhaaGreatzL24
import Derived.Test.YtmpondcccbmlhaaGreatzL25
import Derived.Test.YtmpondcccbmlhaaGreatzL26
import Derived.Test.YtmpondcccbmlhaaGreatzL27
import Derived.Test.YtmpondcccbmlhaaGreatzL28
import Derived.Test.YtmpondcccbmlhaaGreatzL29
import Derived.Test.YtmpondcccbmlhaaGreatzL30
import Derived.Test.YtmpondcccbmlhaaGreatzL31
import Derived.Test.YtmpondcccbmlhaaGreatzL32
import Derived.Test.YtmpondcccbmlhaaGreatzL33
import Derived.Test.YtmpondcccbmlhaaGreatzL34
import Derived.Test.YtmpondcccbmlhaaGreatzL35
import Derived.Test.YtmpondcccbmlhaaGreatzL36
import Derived.Test.YtmpondcccbmlhaaGreatzL37
import Derived.Test.YtmpondcccbmlhaaGreatzL38
import Derived.Test.YtmpondcccbmlhaaGreatzL39
import Derived.Test.YtmpondcccbmlhaaGreatzL40
import Derived.Test.YtmpondcccbmlhaaGreatzL41
import Derived.Test.YtmpondcccbmlhaaGreatzL42
import Derived.Test.YtmpondcccbmlhaaGreatzL43
import Derived.Test.YtmpondcccbmlhaaGreatzL44
import Derived.Test.YtmpondcccbmlhaaGreatzL45
import Derived.Test.YtmpondcccbmlhaaGreatzL46
import Derived.Test.YtmpondcccbmlhaaGreatzL47
namespace Go.Proofs.YtmpondcccbmlhaaGreat.Ext
open Go.RowKit Go.Proofs.YtmpondcccbmlhaaGreatW.PrintWords Go.Proofs.YtmpondcccbmlhaaGreatW.PrintLast Go.Proofs.YtmpondcccbmlhaaGreatW.PrintMore
theorem mn0_eval (x : Int) : mn 0 x = min0 x := by unfold mn min0; split <;> rfl
theorem bsize_eval (x : Int) (h0 : -1000000 ≤ x) (h1 : x ≤ 1000000) : Q.gba_Size.f x = some (absI x) := by
 unfold Q.gba_Size.f mx absI
 rw [w64 (by omega) (by omega)]
 congr 1
 split <;> split <;> omega
theorem szTo_le {lc : List Int} {lm : List (List Int)} (h : LoopOk lc lm) {i : Nat} (hi : i < lc.length) : ∀ k, k ≤ lm.length → 0 ≤ (szTo lc lm k).getD i 0 ∧ (szTo lc lm k).getD i 0 ≤ 1000 + 100 * (k : Int) := by
 intro k
 obtain ⟨-, hb, -, hm⟩ := h
 induction k with
 | zero =>
  intro _
  rw [szTo_at hi 0 (by omega), sumF]
  have := hb i
  have := absI_bound (b := 1000) this.1 this.2
  omega
 | succ k ih =>
  intro hk
  have h1 := ih (by omega)
  rw [szTo_at hi k (by omega)] at h1
  rw [szTo_at hi (k + 1) hk, sumF]
  have := (hm k (by omega)).2 i hi
  have := absI_bound (b := 100) this.1 this.2
  omega
theorem hiTo_le {lc : List Int} {lm : List (List Int)} (h : LoopOk lc lm) : ∀ k, k ≤ lm.length → -1000 - 100 * (k : Int) ≤ hiTo lc lm k ∧ hiTo lc lm k ≤ 1000 := by
 intro k
 obtain ⟨⟨h2, -⟩, hb, -, hm⟩ := h
 induction k with
 | zero => intro _; have := hb 0; simp only [hiTo]; omega
 | succ k ih =>
  intro hk
  have h1 := ih (by omega)
  have h3 := (hm k (by omega)).2 0 (by omega)
  have h4 := min0_bound (b := 100) (by omega) h3.1
  simp only [hiTo]; omega
theorem rcl_l4 {lc : List Int} {lm : List (List Int)} (h : LoopOk lc lm) {i : Nat} (hi : i < lc.length) : ∀ (d k j : Nat), lm.length - j = d → j ≤ lm.length →
  Q.gr6_CheckLoop.l4 (k + d + 1) (i : Int) ((szTo lc lm j).getD i 0) (j : Int) lc lm = if (szTo lc lm lm.length).getD i 0 ≤ 1000 then Q.gr6_CheckLoop.l3 k ((i + 1 : Nat) : Int) lc lm else some (0, 8) := by
 obtain ⟨⟨h2, h5⟩, hb, h6, hm⟩ := id h
 intro d
 induction d with
 | zero =>
  intro k j hd hj
  obtain rfl : j = lm.length := by omega
  rw [Q.gr6_CheckLoop.l4, if_neg (by omega), w64 (n := (i : Int) + 1) (by omega) (by omega)]
  rw [show ((i : Int) + 1) = ((i + 1 : Nat) : Int) by omega]
  by_cases hc : (szTo lc lm lm.length).getD i 0 ≤ 1000
  ·rw [if_neg (by omega), if_pos hc]
  ·rw [if_pos (by omega), if_neg hc]
 | succ d ih =>
  intro k j hd hj
  have hjl : j < lm.length := by omega
  have hmj := hm j hjl
  have hx := hmj.2 i hi
  have hab := absI_bound (b := 100) hx.1 hx.2
  have hs := szTo_le h hi j (by omega)
  have ht : (szTo lc lm (j + 1)).getD i 0 = (szTo lc lm j).getD i 0 + absI ((lm.getD j []).getD i 0) := by
   rw [szTo_at hi (j + 1) (by omega), szTo_at hi j (by omega), sumF]; omega
  rw [show k + (d + 1) + 1 = (k + d + 1) + 1 by omega, Q.gr6_CheckLoop.l4, if_pos (by omega), if_pos (by omega), if_pos (by omega), rdL2_nat, if_pos (by rw [hmj.1]; omega), rd_nat, bsize_eval _ (by omega) (by omega)]
  rw [Option.bind_some, w64 (n := (j : Int) + 1) (by omega) (by omega), w64 (by omega) (by omega), ← ht, show ((j : Int) + 1) = ((j + 1 : Nat) : Int) by omega]
  exact ih k (j + 1) (by omega) (by omega)
theorem rcl_l3 {lc : List Int} {lm : List (List Int)} (h : LoopOk lc lm) (r : Int) : ∀ (d k i : Nat), lc.length - i = d → i ≤ lc.length → 10 * d + 1 ≤ k →
  ((∀ j, i ≤ j → j < lc.length → (szTo lc lm lm.length).getD j 0 ≤ 1000) → r = 0) → (∀ j, i ≤ j → j < lc.length → ¬ (szTo lc lm lm.length).getD j 0 ≤ 1000 → r = 8) → Q.gr6_CheckLoop.l3 k (i : Int) lc lm = some (0, r) := by
 obtain ⟨⟨h2, h5⟩, hb, h6, hm⟩ := id h
 intro d
 induction d with
 | zero =>
  intro k i hd hi hk hr hr2
  obtain ⟨k, rfl⟩ : ∃ q, k = q + 1 := ⟨k - 1, by omega⟩
  rw [Q.gr6_CheckLoop.l3, if_neg (by omega), hr (fun j h1 h2 => by omega)]
 | succ d ih =>
  intro k i hd hi hk hr hr2
  obtain ⟨k, rfl⟩ : ∃ q, k = q + 1 := ⟨k - 1, by omega⟩
  have hil : i < lc.length := by omega
  have hx := hb i
  have h4 := rcl_l4 h hil lm.length (k - lm.length - 1) 0 (by omega) (by omega)
  rw [show k - lm.length - 1 + lm.length + 1 = k by omega] at h4
  have hz : (szTo lc lm 0).getD i 0 = absI (lc.getD i 0) := by rw [szTo_at hil 0 (by omega), sumF]; omega
  rw [hz, show ((0 : Nat) : Int) = 0 from rfl] at h4
  rw [Q.gr6_CheckLoop.l3, if_pos (by omega), if_pos (by omega), rd_nat, bsize_eval _ (by omega) (by omega)]
  rw [Option.bind_some, h4]
  by_cases hc : (szTo lc lm lm.length).getD i 0 ≤ 1000
  ·rw [if_pos hc]
   exact ih _ (i + 1) (by omega) (by omega) (by omega) (fun q => hr (fun j h1 h2 => if hj : j = i then by rw [hj]; exact hc else q j (by omega) h2)) (fun j h1 h2 h3 => hr2 j (by omega) h2 h3)
  ·rw [if_neg hc, hr2 i (Nat.le_refl _) hil hc]
theorem rcl_l2 {lc : List Int} {lm : List (List Int)} (h : LoopOk lc lm) : ∀ (d k i : Nat), lm.length - i = d → i ≤ lm.length → d + 60 ≤ k →
  Q.gr6_CheckLoop.l2 k (hiTo lc lm i) (i : Int) lc lm = some (0, if 0 < hiTo lc lm lm.length then (if maxTo (szTo lc lm lm.length) (lc.length - 1) ≤ 1000 then 0 else 8) else 3) := by
 obtain ⟨⟨h2, h5⟩, hb, h6, hm⟩ := id h
 intro d
 induction d with
 | zero =>
  intro k i hd hi hk
  obtain ⟨k, rfl⟩ : ∃ q, k = q + 1 := ⟨k - 1, by omega⟩
  obtain rfl : i = lm.length := by omega
  rw [Q.gr6_CheckLoop.l2, if_neg (by omega)]
  by_cases hp : 0 < hiTo lc lm lm.length
  ·have h3 := rcl_l3 h (if maxTo (szTo lc lm lm.length) (lc.length - 1) ≤ 1000 then 0 else 8) lc.length k 0 (by omega) (by omega) (by omega)
    (fun q => by rw [if_pos ((maxTo_le _ _ _).2 (fun j hj => q j (by omega) (by omega)))])
    (fun j _ hj hc => by rw [if_neg (fun q => hc ((maxTo_le _ _ _).1 q j (by omega)))])
   rw [show ((0 : Nat) : Int) = 0 from rfl] at h3
   rw [if_neg (by omega), if_pos hp, h3]
  ·rw [if_pos (by omega), if_neg hp]
 | succ d ih =>
  intro k i hd hi hk
  obtain ⟨k, rfl⟩ : ∃ q, k = q + 1 := ⟨k - 1, by omega⟩
  have hil : i < lm.length := by omega
  have hmi := hm i hil
  have hx := hmi.2 0 (by omega)
  have hn := min0_bound (b := 100) (by omega) hx.1
  have hh := hiTo_le h i (by omega)
  have er : rd (lm.getD i []) 0 = (lm.getD i []).getD 0 0 := rd_nat _ 0
  rw [Q.gr6_CheckLoop.l2, if_pos (by omega), if_pos (by omega), rdL2_nat, if_pos (by rw [hmi.1]; omega), er, mn0_eval, w64 (n := (i : Int) + 1) (by omega) (by omega), w64 (by omega) (by omega), show ((i : Int) + 1) = ((i + 1 : Nat) : Int) by omega]
  exact ih k (i + 1) (by omega) (by omega) (by omega)
theorem rcl_l1_ok {lc : List Int} {lm : List (List Int)} {i : Nat} (hi : i < lm.length) (h100 : (lm.getD i []).length ≤ 1000) (hn100 : lm.length ≤ 1000) (hno : NoneTo (strange (lm.getD i [])) (lm.getD i []).length) : ∀ (d k j : Nat), (lm.getD i []).length - j = d → j ≤ (lm.getD i []).length →
  Q.gr6_CheckLoop.l1 (k + d + 1) (i : Int) (j : Int) lc lm = Q.gr6_CheckLoop.l0 k ((i + 1 : Nat) : Int) lc lm := by
 intro d
 induction d with
 | zero =>
  intro k j hd hj
  rw [Q.gr6_CheckLoop.l1, if_pos (by omega), if_pos (by omega), rdL2_nat, if_neg (by omega), w64 (n := (i : Int) + 1) (by omega) (by omega)]
  rfl
 | succ d ih =>
  intro k j hd hj
  have hs := hno j (by omega)
  unfold strange at hs
  have hin : -100 ≤ (lm.getD i []).getD j 0 ∧ (lm.getD i []).getD j 0 ≤ 100 := by simpa using hs
  rw [show k + (d + 1) + 1 = (k + d + 1) + 1 by omega, Q.gr6_CheckLoop.l1, if_pos (by omega), if_pos (by omega), rdL2_nat, if_pos (by omega), if_pos (by omega), rd_nat, bwithin_eval]
  simp only [Option.bind_some, decide_eq_true_eq]
  rw [if_pos hin, w64 (n := (j : Int) + 1) (by omega) (by omega), show ((j : Int) + 1) = ((j + 1 : Nat) : Int) by omega]
  exact ih k (j + 1) (by omega) (by omega)
theorem rcl_l1_bad {lc : List Int} {lm : List (List Int)} {i : Nat} (hi : i < lm.length) (h100 : (lm.getD i []).length ≤ 1000) : ∀ (d k j : Nat), (lm.getD i []).length - j = d → j ≤ (lm.getD i []).length → d < k →
  (∃ j', j ≤ j' ∧ j' < (lm.getD i []).length ∧ strange (lm.getD i []) j' = true) → Q.gr6_CheckLoop.l1 k (i : Int) (j : Int) lc lm = some ((i : Int), 2) := by
 intro d
 induction d with
 | zero => intro k j hd hj hk ⟨j', h1, h2, _⟩; omega
 | succ d ih =>
  intro k j hd hj hk hex
  obtain ⟨k, rfl⟩ : ∃ q, k = q + 1 := ⟨k - 1, by omega⟩
  rw [Q.gr6_CheckLoop.l1, if_pos (by omega), if_pos (by omega), rdL2_nat, if_pos (by omega), if_pos (by omega), rd_nat, bwithin_eval]
  simp only [Option.bind_some, decide_eq_true_eq]
  by_cases hin : -100 ≤ (lm.getD i []).getD j 0 ∧ (lm.getD i []).getD j 0 ≤ 100
  ·rw [if_pos hin, w64 (n := (j : Int) + 1) (by omega) (by omega), show ((j : Int) + 1) = ((j + 1 : Nat) : Int) by omega]
   refine ih k (j + 1) (by omega) (by omega) (by omega) ?_
   obtain ⟨j', h1, h2, h3⟩ := hex
   refine ⟨j', ?_, h2, h3⟩
   by_cases hj' : j' = j
   ·subst hj'; unfold strange at h3; rw [decide_eq_true hin] at h3; cases h3
   ·omega
  ·rw [if_neg hin]
theorem rcl_l0 {lc : List Int} {lm : List (List Int)} (hlc : Sp.polyErr lc = 0) (h6 : lm.length ≤ 6) (h7 : ∀ i, (lm.getD i []).length ≤ 7) : ∀ (d k i : Nat), lm.length - i = d → i ≤ lm.length → 12 * d + 80 ≤ k → (∀ j, j < i → rowAt lc lm j = 0) →
  Q.gr6_CheckLoop.l0 k (i : Int) lc lm = some (if (firstBad (rowAt lc lm) i d).2 = 0 then (0, if 0 < hiTo lc lm lm.length then (if maxTo (szTo lc lm lm.length) (lc.length - 1) ≤ 1000 then 0 else 8) else 3) else firstBad (rowAt lc lm) i d) := by
 obtain ⟨h2, h5, hb, hl⟩ := poly_of hlc
 intro d
 induction d with
 | zero =>
  intro k i hd hi hk hrow
  obtain ⟨k, rfl⟩ : ∃ q, k = q + 1 := ⟨k - 1, by omega⟩
  have hi2 : i = lm.length := by omega
  have hok : LoopOk lc lm := loopOk_of hlc h6 (by rw [firstBad_none _ _ _ (fun j _ hj => hrow j (by omega))])
  have h3 := rcl_l2 hok lm.length k 0 (by omega) (by omega) (by omega)
  have er : rd lc 0 = lc.getD 0 0 := rd_nat _ 0
  rw [hiTo, show ((0 : Nat) : Int) = 0 from rfl] at h3
  rw [Q.gr6_CheckLoop.l0, if_neg (by omega), if_pos (by omega), er, h3]
  simp only [firstBad, if_true]
 | succ d ih =>
  intro k i hd hi hk hrow
  obtain ⟨k, rfl⟩ : ∃ q, k = q + 1 := ⟨k - 1, by omega⟩
  have hil : i < lm.length := by omega
  have h7i := h7 i
  rw [Q.gr6_CheckLoop.l0, if_pos (by omega), if_pos (by omega), rdL2_nat]
  have hra : rowAt lc lm i = rowErr lc.length (lm.getD i []) := rfl
  unfold rowErr at hra
  by_cases hml : (lm.getD i []).length = lc.length
  ·rw [if_pos hml] at hra
   rw [if_pos (by omega)]
   cases ha : anyTo (strange (lm.getD i [])) (lm.getD i []).length with
   | true =>
    rw [ha, if_pos rfl] at hra
    have hb2 := rcl_l1_bad (lc := lc) hil (by omega) (lm.getD i []).length k 0 (by omega) (by omega) (by omega) (by
     unfold anyTo at ha
     obtain ⟨j, hj, h3⟩ := List.any_eq_true.1 ha
     exact ⟨j, Nat.zero_le _, List.mem_range.1 hj, h3⟩)
    rw [show ((0 : Nat) : Int) = 0 from rfl] at hb2
    rw [hb2, firstBad_hit _ _ _ (by rw [hra]; decide), hra]
    rfl
   | false =>
    rw [ha, if_neg (by decide)] at hra
    have hb2 := rcl_l1_ok (lc := lc) hil (by omega) (by omega) (anyTo_false ha) (lm.getD i []).length (k - (lm.getD i []).length - 1) 0 (by omega) (by omega)
    rw [show k - (lm.getD i []).length - 1 + (lm.getD i []).length + 1 = k by omega, show ((0 : Nat) : Int) = 0 from rfl] at hb2
    rw [hb2, firstBad_skip _ _ _ hra]
    exact ih _ (i + 1) (by omega) (by omega) (by omega) (fun j hj => if hji : j = i then by rw [hji]; exact hra else hrow j (by omega))
  ·rw [if_neg hml] at hra
   rw [if_neg (by omega), firstBad_hit _ _ _ (by rw [hra]; decide), hra]
   rfl
theorem rcheckLoop_eval (lc : List Int) (lm : List (List Int)) (h7 : ∀ i, (lm.getD i []).length ≤ 7) (k : Nat) (hk : 400 ≤ k) : Q.gr6_CheckLoop.f k lc lm = some (loopErr lc lm) := by
 unfold Q.gr6_CheckLoop.f loopErr
 rw [rpolyErr_eval lc k (by omega)]
 simp only [Option.bind_some]
 by_cases h0 : Sp.polyErr lc = 0
 ·rw [if_pos h0, if_pos h0]
  by_cases h6 : lm.length ≤ 6
  ·rw [if_neg (by omega), if_pos h6]
   have := rcl_l0 h0 h6 h7 lm.length k 0 (by omega) (by omega) (by omega) (fun j hj => by omega)
   rw [show ((0 : Nat) : Int) = 0 from rfl] at this
   exact this
  ·rw [if_pos (by omega), if_neg h6]
 ·rw [if_neg h0, if_neg h0]
theorem rse_l0 (lc : List Int) (lm : List (List Int)) (s : List Int) (hs : s.length ≤ 1000) (hn : lm.length ≤ 1000) : ∀ (d k i : Nat), s.length - i = d → i ≤ s.length → d < k → Q.gr6_SetErr.l0 k s (i : Int) lc lm = some (firstBad (setChk lm.length s) i d).2 := by
 intro d
 induction d with
 | zero =>
  intro k i hd hi hk
  obtain ⟨k, rfl⟩ : ∃ q, k = q + 1 := ⟨k - 1, by omega⟩
  rw [Q.gr6_SetErr.l0, if_neg (by omega)]; rfl
 | succ d ih =>
  intro k i hd hi hk
  obtain ⟨k, rfl⟩ : ∃ q, k = q + 1 := ⟨k - 1, by omega⟩
  have ih2 := ih k (i + 1) (by omega) (by omega) (by omega)
  have hw : wrap64 ((i : Int) + 1) = ((i + 1 : Nat) : Int) := by rw [w64 (by omega) (by omega)]; omega
  rw [Q.gr6_SetErr.l0, if_pos (by omega), if_pos (by omega), rd_nat, w64 (n := (lm.length : Int) - 1) (by omega) (by omega), bwithin_eval]
  simp only [Option.bind_some, decide_eq_true_eq]
  by_cases hp : 0 ≤ s.getD i 0 ∧ s.getD i 0 ≤ (lm.length : Int) - 1
  ·have hpe : placeErr lm.length (s.getD i 0) = 0 := by unfold placeErr; rw [if_pos hp]
   rw [if_pos hp]
   by_cases hi0 : i = 0
   ·have hc : setChk lm.length s i = 0 := by unfold setChk; rw [if_pos hpe, if_pos (.inl hi0)]
    rw [if_neg (by omega), hw, ih2, firstBad_skip _ _ _ hc]
   ·rw [if_pos (by omega), w64 (n := (i : Int) - 1) (by omega) (by omega), if_pos (by omega), if_pos (by omega), show ((i : Int) - 1) = ((i - 1 : Nat) : Int) by omega, rd_nat, hw]
    by_cases hlt : s.getD (i - 1) 0 < s.getD i 0
    ·have hc : setChk lm.length s i = 0 := by unfold setChk; rw [if_pos hpe, if_pos (.inr hlt)]
     rw [if_neg (by omega), ih2, firstBad_skip _ _ _ hc]
    ·have hc : setChk lm.length s i = 9 := by unfold setChk; rw [if_pos hpe, if_neg (by omega)]
     rw [if_pos (by omega), firstBad_hit _ _ _ (by rw [hc]; decide), hc]
  ·have hpe : placeErr lm.length (s.getD i 0) = 6 := by unfold placeErr; rw [if_neg hp]
   have hc : setChk lm.length s i = 6 := by unfold setChk; rw [if_neg (by rw [hpe]; decide), hpe]
   rw [if_neg hp, firstBad_hit _ _ _ (by rw [hc]; decide), hc]
theorem rsetErr_eval (lc : List Int) (lm : List (List Int)) (s : List Int) (hs : s.length ≤ 1000) (hn : lm.length ≤ 1000) (k : Nat) (hk : s.length < k) : Q.gr6_SetErr.f k lc lm s = some (firstBad (setChk lm.length s) 0 s.length).2 :=
 rse_l0 lc lm s hs hn s.length k 0 (by omega) (by omega) hk
theorem copyLists_loop (l : List (List Int)) (hl : l.length ≤ 1000) (hx : ∀ i, (l.getD i []).length ≤ 1000) : ∀ (d k i : Nat), l.length - i = d → i ≤ l.length → d < k → Q.gba_CopyLists.l0 k l (l.take i) (i : Int) = some l := by
 intro d
 induction d with
 | zero =>
  intro k i hd hi hk
  obtain ⟨k, rfl⟩ : ∃ q, k = q + 1 := ⟨k - 1, by omega⟩
  rw [Q.gba_CopyLists.l0, if_neg (by omega), List.take_of_length_le (by omega)]
 | succ d ih =>
  intro k i hd hi hk
  obtain ⟨k, rfl⟩ : ∃ q, k = q + 1 := ⟨k - 1, by omega⟩
  have hil : i < l.length := by omega
  have hxi := hx i
  have ht : (l.take i).length ≤ 1000 := by rw [List.length_take]; omega
  rw [Q.gba_CopyLists.l0, if_pos (by omega), if_pos (by omega), rdL2_nat, copy_eval _ (by omega)]
  simp only [Option.bind_some]
  rw [if_pos (by omega), w64 (by omega) (by omega), show ((i : Int) + 1) = ((i + 1 : Nat) : Int) by omega]
  have e : l.take i ++ [l.getD i []] = l.take (i + 1) := by
   rw [List.take_succ_eq_append_getElem hil]; simp [List.getD_eq_getElem?_getD, hil]
  rw [e]
  exact ih k (i + 1) (by omega) (by omega) (by omega)
theorem copyLists_eval (l : List (List Int)) (hl : l.length ≤ 1000) (hx : ∀ i, (l.getD i []).length ≤ 1000) (k : Nat) (hk : 1001 < k) : Q.gba_CopyLists.f k l = some l := by
 have := copyLists_loop l hl hx l.length k 0 (by omega) (by omega) (by omega)
 exact this
theorem copyLoop_eval (lc : List Int) (lm : List (List Int)) (hc : lc.length ≤ 1000) (hl : lm.length ≤ 1000) (hx : ∀ i, (lm.getD i []).length ≤ 1000) (k : Nat) (hk : 1001 < k) : Q.gr6_CopyLoop.f k lc lm = some (lc, lm) := by
 unfold Q.gr6_CopyLoop.f
 rw [copy_eval lc (by omega), copyLists_eval lm hl hx k hk]
 rfl
end Go.Proofs.YtmpondcccbmlhaaGreat.Ext
