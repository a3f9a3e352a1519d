/- A part of the claim L: the texts Sumo, without what the claim does not lean on. -/
import Derived.ArgAppend
import Derived.Below
import Derived.BigQuiet
import Derived.Deep.AppendLies
import Derived.Deep.CutBlock
import Derived.Deep.DeepCutAuto
import Derived.Deep.Draws
import Derived.Deep.LoopGhost
import Derived.Deep.OwnRows
import Derived.Deep.QuietTactic
import Derived.Deep.RegionHeld3
import Derived.Deep.RegionWith
import Derived.Deep.WholeRow
import Derived.Ground.SlsfProg
import Derived.KernelRfl
import Derived.Laws.BitsLemmas
import Derived.Laws.BytesArg
import Derived.Laws.ComplexArith
import Derived.Laws.IdiomCopy
import Derived.Laws.MakeOwn
import Derived.Laws.OwnMore
import Derived.Laws.Rows
import Derived.Laws.Slices
import Derived.Laws.StructEq
import Derived.Lib.AppendStr
import Derived.Lib.ConvBytes
import Derived.Lib.Hide
import Derived.Lib.LazyBuf
import Derived.LoopIn
import Derived.LoopNIn
import Derived.Maps.AppendAt
import Derived.OrdersHeld
import Derived.Outline
import Derived.OwnWalk
import Derived.OwnWalkIn
import Derived.RangeFuncBound
import Derived.RangeFuncCalls
import Derived.RangeFuncLeaves
import Derived.RangeFuncNested
import Derived.RowKit
import Derived.RowKit3
import Derived.Shelf.Abstract
import Derived.Shelf.RegionOpen
import Derived.Shelf.SlSortCmp.HeapSort1
import Derived.Shelf.SlSortCmp.Insertion
import Derived.Shelf.SlSortCmp.Insertion1
import Derived.Shelf.SlSortCmp.Median1
import Derived.Shelf.SlSortCmp.PartialInsertion1
import Derived.Shelf.SlSortCmp.Partition1
import Derived.Shelf.SlSortCmp.PartitionEqual1
import Derived.Shelf.SlSortCmp.Pdq1
import Derived.Shelf.SlSortCmp.Pivot1
import Derived.Shelf.SlSortCmp.ReverseRange1
import Derived.Shelf.SlSortCmp.SiftDown1
import Derived.Shelf.SlSortCmp.Whole1
import Derived.Shelf.Slices.Empties2
import Derived.Shelf.Slices.Equal
import Derived.Shelf.Slices.In.SortNone
import Derived.Shelf.Small.Bits
import Derived.Shelf.Sort.Plain
import Derived.Shelf.Strconv.Itoa0
import Derived.Sort.CutIn
import Derived.Tactics
import Derived.TacticsInMore
import Derived.WalkKit
import Derived.WalkLawsBesides
import Derived.WideLaws
import Derived.Test.YtmpondcccbmlhaaGreatProg
import Derived.Test.YtmpondcccbmlhaaGreatzL0
import Derived.Test.YtmpondcccbmlhaaGreatzL1
import Derived.Test.YtmpondcccbmlhaaGreatzL2
import Derived.Test.YtmpondcccbmlhaaGreatzL3
import Derived.Test.YtmpondcccbmlhaaGreatzL4
import Derived.Test.YtmpondcccbmlhaaGreatzL5
import Derived.Test.YtmpondcccbmlhaaGreatzL6
import Derived.Test.YtmpondcccbmlhaaGreatzL7
import Derived.Test.YtmpondcccbmlhaaGreatzL8
import Derived.Test.YtmpondcccbmlhaaGreatzL9
import Derived.Test.YtmpondcccbmlhaaGreatzL10
import Derived.Test.YtmpondcccbmlhaaGreatzL12
import Derived.Test.YtmpondcccbmlhaaGreatzL13
import Derived.Test.YtmpondcccbmlhaaGreatzL14
import Derived.Test.YtmpondcccbmlhaaGreatzL15
import Derived.Test.YtmpondcccbmlhaaGreatzL16
import Derived.Test.YtmpondcccbmlhaaGreatzL17
import Derived.Test.YtmpondcccbmlhaaGreatzL18
import Derived.Test.YtmpondcccbmlhaaGreatzL19
import Derived.Test.YtmpondcccbmlhaaGreatzL20
import Derived.Test.YtmpondcccbmlhaaGreatzL21
import Derived.Test.YtmpondcccbmlhaaGreatzL22
import Derived.Test.YtmpondcccbmlhaaGreatzL23
import Derived.Test.YtmpondcccbmlhaaGreatzL24
import Derived.Test.YtmpondcccbmlhaaGreatzL25
import Derived.Test.YtmpondcccbmlhaaGreatzL26
import Derived.Test.YtmpondcccbmlhaaGreatzL27
import Derived.Test.YtmpondcccbmlhaaGreatzL28
import Derived.Test.YtmpondcccbmlhaaGreatzL29
import Derived.Test.YtmpondcccbmlhaaGreatzL30
import Derived.Test.YtmpondcccbmlhaaGreatzL31
import Derived.Test.YtmpondcccbmlhaaGreatzL32
import Derived.Test.YtmpondcccbmlhaaGreatzL33
import Derived.Test.YtmpondcccbmlhaaGreatzL34
import Derived.Test.YtmpondcccbmlhaaGreatzL35
import Derived.Test.YtmpondcccbmlhaaGreatzL36
import Derived.Test.YtmpondcccbmlhaaGreatzL37
import Derived.Test.YtmpondcccbmlhaaGreatzL38
import Derived.Test.YtmpondcccbmlhaaGreatzL39
import Derived.Test.YtmpondcccbmlhaaGreatzL40
import Derived.Test.YtmpondcccbmlhaaGreatzL41
import Derived.Test.YtmpondcccbmlhaaGreatzL42
import Derived.Test.YtmpondcccbmlhaaGreatzL43
import Derived.Test.YtmpondcccbmlhaaGreatzL44
import Derived.Test.YtmpondcccbmlhaaGreatzL45
namespace Go.Proofs.YtmpondcccbmlhaaGreat.Ext
open Go.RowKit Go.Proofs.YtmpondcccbmlhaaGreatW.PrintWords Go.Proofs.YtmpondcccbmlhaaGreatW.PrintLast Go.Proofs.YtmpondcccbmlhaaGreatW.PrintMore
def SetOk (n : Nat) (s : List Int) : Prop := ∀ i, i < s.length → 0 ≤ s.getD i 0 ∧ s.getD i 0 < n ∧ (0 < i → s.getD (i - 1) 0 < s.getD i 0)
theorem set_ge {n : Nat} {s : List Int} (h : SetOk n s) : ∀ i, i < s.length → (i : Int) ≤ s.getD i 0 := by
 intro i
 induction i with
 | zero => intro hi; exact (h 0 hi).1
 | succ i ih =>
  intro hi
  have h1 := ih (by omega)
  have h2 := (h (i + 1) hi).2.2 (by omega)
  rw [Nat.add_sub_cancel] at h2
  omega
theorem set_len {n : Nat} {s : List Int} (h : SetOk n s) : s.length ≤ n := by
 by_cases h0 : s.length = 0
 ·omega
 ·have h1 := set_ge h (s.length - 1) (by omega)
  have h2 := (h (s.length - 1) (by omega)).2.1
  omega
theorem set_nil (n : Nat) : SetOk n [] := fun i hi => by simp at hi
theorem set_snoc {n : Nat} {s : List Int} (h : SetOk n s) {i : Nat} (hf : fromOf s ≤ i) (hi : i < n) : SetOk n (s ++ [(i : Int)]) := by
 intro k hk
 rw [List.length_append, List.length_singleton] at hk
 simp only [List.getD_eq_getElem?_getD] at *
 by_cases hks : k < s.length
 ·have h1 := h k hks
  simp only [List.getD_eq_getElem?_getD] at h1
  rw [List.getElem?_append_left hks]
  refine ⟨h1.1, h1.2.1, fun h0 => ?_⟩
  rw [List.getElem?_append_left (by omega)]
  exact h1.2.2 h0
 ·have hkl : k = s.length := by omega
  subst hkl
  rw [List.getElem?_append_right (Nat.le_refl _), Nat.sub_self]
  simp only [List.getElem?_cons_zero, Option.getD_some]
  refine ⟨by omega, by omega, fun h0 => ?_⟩
  rw [List.getElem?_append_left (by omega)]
  have h1 := (h (s.length - 1) (by omega)).1
  simp only [List.getD_eq_getElem?_getD] at h1
  unfold fromOf at hf
  rw [if_neg (by omega)] at hf
  simp only [List.getD_eq_getElem?_getD] at hf
  omega
def sumF (f : Nat → Int) : Nat → Int
 | 0 => 0
 | n + 1 => sumF f n + f n
def sumS (f : Nat → Int) (s : List Int) : Nat → Int
 | 0 => 0
 | k + 1 => sumS f s k + f (s.getD k 0).toNat
theorem sumF_mono (f : Nat → Int) (hf : ∀ i, 0 ≤ f i) {a b : Nat} (h : a ≤ b) : sumF f a ≤ sumF f b := by
 induction b with
 | zero => rw [show a = 0 by omega]; exact Int.le_refl _
 | succ b ih =>
  by_cases hab : a = b + 1
  ·subst hab; exact Int.le_refl _
  ·have := ih (by omega); have := hf b; simp only [sumF]; omega
theorem sumS_le (f : Nat → Int) (hf : ∀ i, 0 ≤ f i) {n : Nat} {s : List Int} (h : SetOk n s) : ∀ k, k ≤ s.length → sumS f s k ≤ sumF f n ∧ (0 < k → sumS f s k ≤ sumF f ((s.getD (k - 1) 0).toNat + 1)) := by
 have key : ∀ k, k ≤ s.length → 0 < k → sumS f s k ≤ sumF f ((s.getD (k - 1) 0).toNat + 1) := by
  intro k
  induction k with
  | zero => intro _ h0; omega
  | succ k ih =>
   intro hk _
   rw [Nat.add_sub_cancel]
   simp only [sumS, sumF]
   by_cases hk0 : k = 0
   ·subst hk0
    have := sumF_mono f hf (Nat.zero_le ((s.getD 0 0).toNat))
    simp only [sumS, sumF] at this ⊢
    omega
   ·have h1 := ih (by omega) (by omega)
    have h2 := (h k (by omega)).2.2 (by omega)
    have h3 := (h (k - 1) (by omega)).1
    have h4 := sumF_mono f hf (show (s.getD (k - 1) 0).toNat + 1 ≤ (s.getD k 0).toNat by omega)
    omega
 intro k hk
 refine ⟨?_, key k hk⟩
 by_cases hk0 : k = 0
 ·subst hk0; exact sumF_mono f hf (Nat.zero_le n)
 ·have h1 := key k hk (by omega)
  have h2 := h (k - 1) (by omega)
  have := sumF_mono f hf (show (s.getD (k - 1) 0).toNat + 1 ≤ n by omega)
  omega
theorem sumTo_at {lc : List Int} {lm : List (List Int)} {s : List Int} {i : Nat} (hi : i < lc.length) : ∀ k, (sumTo lc lm s k).getD i 0 = lc.getD i 0 + sumS (fun m => (lm.getD m []).getD i 0) s k := by
 intro k
 induction k with
 | zero => simp [sumTo, sumS]
 | succ k ih =>
  rw [sumTo, addTo_get _ _ _ _ (by rw [sumTo_len]; omega) (by rw [sumTo_len]; exact hi), if_pos hi, ih, sumS]
  omega
theorem sumS_abs (f g : Nat → Int) (s : List Int) (h : ∀ m, -(g m) ≤ f m ∧ f m ≤ g m) : ∀ k, -(sumS g s k) ≤ sumS f s k ∧ sumS f s k ≤ sumS g s k := by
 intro k
 induction k with
 | zero => simp [sumS]
 | succ k ih => have := h (s.getD k 0).toNat; simp only [sumS]; omega
theorem absI_nat (x : Int) : 0 ≤ absI x ∧ -(absI x) ≤ x ∧ x ≤ absI x := by unfold absI; split <;> omega
theorem szTo_at {lc : List Int} {lm : List (List Int)} {i : Nat} (hi : i < lc.length) : ∀ k, k ≤ lm.length → (szTo lc lm k).getD i 0 = absI (lc.getD i 0) + sumF (fun m => absI ((lm.getD m []).getD i 0)) k := by
 intro k
 induction k with
 | zero => intro _; rw [szTo, absTo_get _ _ _ (Nat.le_refl _) hi, if_pos hi, sumF]; omega
 | succ k ih =>
  intro hk
  rw [szTo, addAbs_get _ _ _ _ (by rw [szTo_len]; omega) (by rw [szTo_len]; exact hi), if_pos hi, ih (by omega), sumF]
  omega
theorem hiTo_at (lc : List Int) (lm : List (List Int)) : ∀ k, hiTo lc lm k = lc.getD 0 0 - sumF (fun m => -(min0 ((lm.getD m []).getD 0 0))) k := by
 intro k
 induction k with
 | zero => simp [hiTo, sumF]
 | succ k ih => rw [hiTo, ih, sumF]; omega
theorem loop_sum {lc : List Int} {lm : List (List Int)} (h : (loopErr lc lm).2 = 0) {s : List Int} (hs : SetOk lm.length s) :
  SumOk lc lm s ∧ PolyOk (sumTo lc lm s s.length) ∧ 0 < ent (sumTo lc lm s s.length) 0 := by
 have hok : LoopOk lc lm := loopErr_ok (i := (loopErr lc lm).1) (Prod.ext rfl h)
 have hsl := set_len hs
 obtain ⟨⟨h2, h5⟩, hb, h6, hm⟩ := id hok
 have hso := sumOk_of hok (ls := s) (by omega) (fun k hk => ⟨(hs k hk).1, (hs k hk).2.1⟩)
 have hrest : 0 < hiTo lc lm lm.length ∧ maxTo (szTo lc lm lm.length) (lc.length - 1) ≤ 1000 := by
  unfold loopErr at h
  by_cases h0 : Sp.polyErr lc = 0
  ·rw [if_pos h0, if_pos h6] at h
   by_cases h3 : (firstBad (rowAt lc lm) 0 lm.length).2 = 0
   ·rw [if_pos h3] at h
    by_cases h4 : 0 < hiTo lc lm lm.length
    ·simp only [if_pos h4] at h
     by_cases h7 : maxTo (szTo lc lm lm.length) (lc.length - 1) ≤ 1000
     ·exact ⟨h4, h7⟩
     ·rw [if_neg h7] at h; exact absurd h (by decide)
    ·simp only [if_neg h4] at h; exact absurd h (by decide)
   ·rw [if_neg h3] at h; exact absurd h h3
  ·rw [if_neg h0] at h; exact absurd h h0
 obtain ⟨hhi, hmax⟩ := hrest
 rw [maxTo_le] at hmax
 have hlen := sumTo_len lc lm s s.length
 refine ⟨hso, ⟨by omega, by omega, fun i => ?_⟩, ?_⟩
 ·by_cases hi : i < lc.length
  ·have e1 := sumTo_at (lm := lm) (s := s) hi s.length
   have e2 := szTo_at (lm := lm) hi lm.length (Nat.le_refl _)
   have e3 := hmax i (by omega)
   rw [e2] at e3
   have e4 := (sumS_le (fun m => absI ((lm.getD m []).getD i 0)) (fun m => (absI_nat _).1) hs s.length (Nat.le_refl _)).1
   have e5 := sumS_abs (fun m => (lm.getD m []).getD i 0) (fun m => absI ((lm.getD m []).getD i 0)) s (fun m => (absI_nat _).2) s.length
   have e6 := absI_nat (lc.getD i 0)
   show ((sumTo lc lm s s.length).getD i 0).natAbs ≤ 1000
   rw [e1]
   omega
  ·rw [ent_over (by omega)]; decide
 ·have e1 := sumTo_at (lm := lm) (s := s) (show 0 < lc.length by omega) s.length
  have e2 := hiTo_at lc lm lm.length
  have hmn : ∀ x, 0 ≤ -(min0 x) ∧ min0 x ≤ x := by intro x; unfold min0; split <;> omega
  have e4 := (sumS_le (fun m => -(min0 ((lm.getD m []).getD 0 0))) (fun m => (hmn _).1) hs s.length (Nat.le_refl _)).1
  have e5 : ∀ k, -(sumS (fun m => -(min0 ((lm.getD m []).getD 0 0))) s k) ≤ sumS (fun m => (lm.getD m []).getD 0 0) s k := by
   intro k
   induction k with
   | zero => simp [sumS]
   | succ k ih => have := (hmn ((lm.getD (s.getD k 0).toNat []).getD 0 0)).2; simp only [sumS]; omega
  have e6 := e5 s.length
  show 0 < (sumTo lc lm s s.length).getD 0 0
  rw [e1]
  omega
theorem rsum_l1 {lc : List Int} {lm : List (List Int)} {s : List Int} (h : SumOk lc lm s) (hs8 : s.length ≤ 100) {i : Nat} (hi : i < s.length) : ∀ (d k j : Nat), lc.length - j = d → j ≤ lc.length →
  Q.gr6_Sum.l1 (k + d + 1) s (addTo (sumTo lc lm s i) (lm.getD (s.getD i 0).toNat []) j) (i : Int) (j : Int) lc lm = Q.gr6_Sum.l0 k s (sumTo lc lm s (i + 1)) ((i + 1 : Nat) : Int) lc lm := by
 obtain ⟨⟨h1, h1'⟩, h2, h3, h4, h5, h6⟩ := id h
 have hsi := h5 i hi
 have hml := h6 (s.getD i 0).toNat (by omega)
 intro d
 induction d with
 | zero =>
  intro k j hd hj
  obtain rfl : j = lc.length := by omega
  have hl : (addTo (sumTo lc lm s i) (lm.getD (s.getD i 0).toNat []) lc.length).length = lc.length := by rw [addTo_len, sumTo_len]
  rw [Q.gr6_Sum.l1, if_neg (by omega), w64 (n := (i : Int) + 1) (by omega) (by omega)]
  rfl
 | succ d ih =>
  intro k j hd hj
  have hjl : j < lc.length := by omega
  have hl : (addTo (sumTo lc lm s i) (lm.getD (s.getD i 0).toNat []) j).length = lc.length := by rw [addTo_len, sumTo_len]
  have er : Q.rd_L2 lm (s.getD i 0) = lm.getD (s.getD i 0).toNat [] := rfl
  have hb1 := sumTo_bound h i (by omega) j hjl
  have hb2 := hml.2 j hjl
  have hg := addTo_get (sumTo lc lm s i) (lm.getD (s.getD i 0).toNat []) j j (by rw [sumTo_len]; omega) (by rw [sumTo_len]; omega)
  rw [if_neg (by omega)] at hg
  rw [show k + (d + 1) + 1 = (k + d + 1) + 1 by omega, Q.gr6_Sum.l1, if_pos (by omega), if_pos (by omega), if_pos (by omega), if_pos (by omega), rd_nat, if_pos (by omega), if_pos (by omega), er, if_pos (by rw [hml.1]; omega), rd_nat, rd_nat, Int.toNat_natCast,
   w64 (n := (j : Int) + 1) (by omega) (by omega), w64 (by rw [hg]; omega) (by rw [hg]; omega), show ((j : Int) + 1) = ((j + 1 : Nat) : Int) by omega]
  have := ih k (j + 1) (by omega) (by omega)
  rw [addTo] at this
  exact this
theorem rsum_l0 {lc : List Int} {lm : List (List Int)} {s : List Int} (h : SumOk lc lm s) (h5 : lc.length ≤ 10) (hs8 : s.length ≤ 100) : ∀ (d k i : Nat), s.length - i = d → i ≤ s.length → 20 * d + 1 ≤ k →
  Q.gr6_Sum.l0 k s (sumTo lc lm s i) (i : Int) lc lm = some (sumTo lc lm s s.length) := by
 intro d
 induction d with
 | zero =>
  intro k i hd hi hk
  obtain ⟨k, rfl⟩ : ∃ q, k = q + 1 := ⟨k - 1, by omega⟩
  rw [Q.gr6_Sum.l0, if_neg (by omega), show i = s.length by omega]
 | succ d ih =>
  intro k i hd hi hk
  obtain ⟨k, rfl⟩ : ∃ q, k = q + 1 := ⟨k - 1, by omega⟩
  have h1 := rsum_l1 h hs8 (i := i) (by omega) lc.length (k - lc.length - 1) 0 (by omega) (by omega)
  rw [show k - lc.length - 1 + lc.length + 1 = k by omega, addTo] at h1
  rw [Q.gr6_Sum.l0, if_pos (by omega)]
  rw [show ((0 : Nat) : Int) = 0 from rfl] at h1
  rw [h1]
  exact ih _ (i + 1) (by omega) (by omega) (by omega)
theorem rsum_eval {lc : List Int} {lm : List (List Int)} {s : List Int} (h : SumOk lc lm s) (h5 : lc.length ≤ 10) (hs8 : s.length ≤ 100) (k : Nat) (hk : 3000 ≤ k) : Q.gr6_Sum.f k lc lm s = some (sumTo lc lm s s.length) := by
 unfold Q.gr6_Sum.f
 rw [copy_eval lc (by omega)]
 simp only [Option.bind_some]
 exact rsum_l0 h h5 hs8 s.length k 0 (by omega) (by omega) (by omega)
noncomputable def stabSum (lc : List Int) (lm : List (List Int)) (s : List Int) : Bool := stab (sumTo lc lm s s.length)
end Go.Proofs.YtmpondcccbmlhaaGreat.Ext
