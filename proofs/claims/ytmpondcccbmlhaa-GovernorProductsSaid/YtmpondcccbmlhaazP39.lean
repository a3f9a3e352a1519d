/- A part of the claim P: the texts PuPrd, PureGovernorProducts, without what the claim does not lean on. -/
import Derived.ArgAppend
import Derived.Below
import Derived.BigQuiet
import Derived.Deep.AppendLies
import Derived.Deep.CutBlock
import Derived.Deep.DeepCutAuto
import Derived.Deep.Draws
import Derived.Deep.LoopGhost
import Derived.Deep.OwnRows
import Derived.Deep.QuietTactic
import Derived.Deep.RegionHeld3
import Derived.Deep.RegionWith
import Derived.Deep.WholeRow
import Derived.Ground.Names2Prog
import Derived.Ground.SlgnProg
import Derived.Ground.SlsfProg
import Derived.KernelRfl
import Derived.Laws.BitsLemmas
import Derived.Laws.BytesArg
import Derived.Laws.ComplexArith
import Derived.Laws.IdiomCopy
import Derived.Laws.MakeOwn
import Derived.Laws.OwnMore
import Derived.Laws.Rows
import Derived.Laws.Slices
import Derived.Laws.StructEq
import Derived.Lib.AppendStr
import Derived.Lib.ConvBytes
import Derived.Lib.Hide
import Derived.Lib.LazyBuf
import Derived.LoopIn
import Derived.LoopNIn
import Derived.Maps.AppendAt
import Derived.OrdersHeld
import Derived.Outline
import Derived.OwnWalk
import Derived.OwnWalkIn
import Derived.RangeFuncBound
import Derived.RangeFuncCalls
import Derived.RangeFuncLeaves
import Derived.RangeFuncNested
import Derived.RowKit
import Derived.RowKit3
import Derived.Shelf.Abstract
import Derived.Shelf.RegionOpen
import Derived.Shelf.SlSortCmp.HeapSort1
import Derived.Shelf.SlSortCmp.Insertion
import Derived.Shelf.SlSortCmp.Insertion1
import Derived.Shelf.SlSortCmp.Median1
import Derived.Shelf.SlSortCmp.PartialInsertion1
import Derived.Shelf.SlSortCmp.Partition1
import Derived.Shelf.SlSortCmp.PartitionEqual1
import Derived.Shelf.SlSortCmp.Pdq1
import Derived.Shelf.SlSortCmp.Pivot1
import Derived.Shelf.SlSortCmp.ReverseRange1
import Derived.Shelf.SlSortCmp.SiftDown1
import Derived.Shelf.SlSortCmp.Whole1
import Derived.Shelf.Slices.Clone
import Derived.Shelf.Slices.Empties2
import Derived.Shelf.Slices.Equal
import Derived.Shelf.Slices.In.SortNone
import Derived.Shelf.Slices.SearchI
import Derived.Shelf.Slices.Turned
import Derived.Shelf.SlicesE.Clone
import Derived.Shelf.Small.Bits
import Derived.Shelf.Small.Wraps
import Derived.Shelf.Sort.Plain
import Derived.Shelf.Strconv.Itoa0
import Derived.Sort.CutIn
import Derived.Tactics
import Derived.TacticsInMore
import Derived.WalkKit
import Derived.WalkLawsBesides
import Derived.WideLaws
import Derived.Test.YtmpondcccbmlhaaProg
import Derived.Test.YtmpondcccbmlhaazP0
import Derived.Test.YtmpondcccbmlhaazP1
import Derived.Test.YtmpondcccbmlhaazP2
import Derived.Test.YtmpondcccbmlhaazP3
import Derived.Test.YtmpondcccbmlhaazP4
import Derived.Test.YtmpondcccbmlhaazP5
import Derived.Test.YtmpondcccbmlhaazP6
import Derived.Test.YtmpondcccbmlhaazP7
import Derived.Test.YtmpondcccbmlhaazP8
import Derived.Test.YtmpondcccbmlhaazP9
import Derived.Test.YtmpondcccbmlhaazP10
import Derived.Test.YtmpondcccbmlhaazP11
import Derived.Test.YtmpondcccbmlhaazP12
import Derived.Test.YtmpondcccbmlhaazP13
import Derived.Test.YtmpondcccbmlhaazP14
import Derived.Test.YtmpondcccbmlhaazP15
import Derived.Test.YtmpondcccbmlhaazP16
import Derived.Test.YtmpondcccbmlhaazP17
import Derived.Test.YtmpondcccbmlhaazP18
import Derived.Test.YtmpondcccbmlhaazP19
import Derived.Test.YtmpondcccbmlhaazP20
import Derived.Test.YtmpondcccbmlhaazP21
import Derived.Test.YtmpondcccbmlhaazP22
import Derived.Test.YtmpondcccbmlhaazP23
import Derived.Test.YtmpondcccbmlhaazP24
import Derived.Test.YtmpondcccbmlhaazP25
import Derived.Test.YtmpondcccbmlhaazP26
import Derived.Test.YtmpondcccbmlhaazP27
import Derived.Test.YtmpondcccbmlhaazP28
import Derived.Test.YtmpondcccbmlhaazP29
import Derived.Test.YtmpondcccbmlhaazP30
import Derived.Test.YtmpondcccbmlhaazP31
import Derived.Test.YtmpondcccbmlhaazP32
import Derived.Test.YtmpondcccbmlhaazP33
import Derived.Test.YtmpondcccbmlhaazP34
import Derived.Test.YtmpondcccbmlhaazP35
import Derived.Test.YtmpondcccbmlhaazP36
import Derived.Test.YtmpondcccbmlhaazP37
import Derived.Test.YtmpondcccbmlhaazP38
namespace Go.Proofs.Ytmpondcccbmlhaa.Ext
open Go.RowKit Go.Proofs.YtmpondcccbmlhaaW.PrintWords Go.Proofs.YtmpondcccbmlhaaW.PrintLast Go.Proofs.YtmpondcccbmlhaaW.PrintMore
def pin (a b acc : List Int) (i : Nat) : Nat → List Int
  | 0 => acc
  | j + 1 => (pin a b acc i j).set (i + j) (wrap64 ((pin a b acc i j).getD (i + j) 0 + wrap64 (a.getD i 0 * b.getD j 0)))
def pout (a b : List Int) : Nat → List Int
  | 0 => List.replicate (a.length + b.length - 1) 0
  | i + 1 => pin a b (pout a b i) i b.length
theorem pin_len (a b acc : List Int) (i j : Nat) : (pin a b acc i j).length = acc.length := by
  induction j with
  | zero => rfl
  | succ j ih => rw [pin, List.length_set, ih]
theorem pout_len (a b : List Int) (i : Nat) : (pout a b i).length = a.length + b.length - 1 := by
  induction i with
  | zero => simp [pout]
  | succ i ih => rw [pout, pin_len, ih]
theorem w_small {x : Int} (h : x.natAbs ≤ 9000000000000000000) : wrap64 x = x := w64 (by omega) (by omega)
theorem pcons {x y : Int} {l m : List Int} (h : x = y) (hy : y.natAbs ≤ 9000000000000000000) (t : l = m) : wrap64 x :: l = y :: m := by rw [h, w_small hy, t]
theorem pm {x y : Int} (hx : x.natAbs ≤ 1000) (hy : y.natAbs ≤ 1000) : (x * y).natAbs ≤ 1000000 := mul_natAbs_le hx hy
set_option linter.unusedSimpArgs false in
theorem prod_list {a b : List Int} (ha : PolyOk a) (hb : PolyOk b) (ha3 : a.length ≤ 3) (hb3 : b.length ≤ 3) :
    (∃ a0 a1 b0 b1, a = [a0, a1] ∧ b = [b0, b1] ∧ pout a b a.length = [a0 * b0, a0 * b1 + a1 * b0, a1 * b1]) ∨
    (∃ a0 a1 b0 b1 b2, a = [a0, a1] ∧ b = [b0, b1, b2] ∧ pout a b a.length = [a0 * b0, a0 * b1 + a1 * b0, a0 * b2 + a1 * b1, a1 * b2]) ∨
    (∃ a0 a1 a2 b0 b1, a = [a0, a1, a2] ∧ b = [b0, b1] ∧ pout a b a.length = [b0 * a0, b0 * a1 + b1 * a0, b0 * a2 + b1 * a1, b1 * a2]) ∨
    (∃ a0 a1 a2 b0 b1 b2, a = [a0, a1, a2] ∧ b = [b0, b1, b2] ∧ pout a b a.length = [a0 * b0, a0 * b1 + a1 * b0, a0 * b2 + a1 * b1 + a2 * b0, a1 * b2 + a2 * b1, a2 * b2]) := by
  obtain ⟨a2, -, pa⟩ := ha
  obtain ⟨b2, -, pb⟩ := hb
  match a, b, a2, ha3, b2, hb3 with
  | [x0, x1], [y0, y1], _, _, _, _ =>
    refine .inl ⟨x0, x1, y0, y1, rfl, rfl, ?_⟩
    have p0 : x0.natAbs ≤ 1000 := pa 0; have p1 : x1.natAbs ≤ 1000 := pa 1
    have q0 : y0.natAbs ≤ 1000 := pb 0; have q1 : y1.natAbs ≤ 1000 := pb 1
    have m00 := pm p0 q0; have m01 := pm p0 q1; have m10 := pm p1 q0; have m11 := pm p1 q1
    simp only [pout, pin, List.length_cons, List.length_nil, Nat.reduceAdd, Nat.reduceSub, List.replicate_succ, List.replicate_zero, List.set_cons_zero, List.set_cons_succ, List.getD_cons_zero, List.getD_cons_succ, Int.zero_add, wrap_addr, wrap_addl, wrap_wrap, Nat.add_zero, Nat.zero_add]
    exact pcons rfl (by omega) (pcons (by omega) (by omega) (pcons (by omega) (by omega) rfl))
  | [x0, x1], [y0, y1, y2], _, _, _, _ =>
    refine .inr (.inl ⟨x0, x1, y0, y1, y2, rfl, rfl, ?_⟩)
    have p0 : x0.natAbs ≤ 1000 := pa 0; have p1 : x1.natAbs ≤ 1000 := pa 1
    have q0 : y0.natAbs ≤ 1000 := pb 0; have q1 : y1.natAbs ≤ 1000 := pb 1; have q2 : y2.natAbs ≤ 1000 := pb 2
    have m00 := pm p0 q0; have m01 := pm p0 q1; have m02 := pm p0 q2; have m10 := pm p1 q0; have m11 := pm p1 q1; have m12 := pm p1 q2
    simp only [pout, pin, List.length_cons, List.length_nil, Nat.reduceAdd, Nat.reduceSub, List.replicate_succ, List.replicate_zero, List.set_cons_zero, List.set_cons_succ, List.getD_cons_zero, List.getD_cons_succ, Int.zero_add, wrap_addr, wrap_addl, wrap_wrap, Nat.add_zero, Nat.zero_add]
    exact pcons rfl (by omega) (pcons (by omega) (by omega) (pcons (by omega) (by omega) (pcons (by omega) (by omega) rfl)))
  | [x0, x1, x2], [y0, y1], _, _, _, _ =>
    refine .inr (.inr (.inl ⟨x0, x1, x2, y0, y1, rfl, rfl, ?_⟩))
    have p0 : x0.natAbs ≤ 1000 := pa 0; have p1 : x1.natAbs ≤ 1000 := pa 1; have p2 : x2.natAbs ≤ 1000 := pa 2
    have q0 : y0.natAbs ≤ 1000 := pb 0; have q1 : y1.natAbs ≤ 1000 := pb 1
    have m00 := pm q0 p0; have m01 := pm q0 p1; have m02 := pm q0 p2; have m10 := pm q1 p0; have m11 := pm q1 p1; have m12 := pm q1 p2
    simp only [pout, pin, List.length_cons, List.length_nil, Nat.reduceAdd, Nat.reduceSub, List.replicate_succ, List.replicate_zero, List.set_cons_zero, List.set_cons_succ, List.getD_cons_zero, List.getD_cons_succ, Int.zero_add, wrap_addr, wrap_addl, wrap_wrap, Nat.add_zero, Nat.zero_add, Int.mul_comm x0, Int.mul_comm x1, Int.mul_comm x2]
    exact pcons rfl (by omega) (pcons (by omega) (by omega) (pcons (by omega) (by omega) (pcons (by omega) (by omega) rfl)))
  | [x0, x1, x2], [y0, y1, y2], _, _, _, _ =>
    refine .inr (.inr (.inr ⟨x0, x1, x2, y0, y1, y2, rfl, rfl, ?_⟩))
    have p0 : x0.natAbs ≤ 1000 := pa 0; have p1 : x1.natAbs ≤ 1000 := pa 1; have p2 : x2.natAbs ≤ 1000 := pa 2
    have q0 : y0.natAbs ≤ 1000 := pb 0; have q1 : y1.natAbs ≤ 1000 := pb 1; have q2 : y2.natAbs ≤ 1000 := pb 2
    have m00 := pm p0 q0; have m01 := pm p0 q1; have m02 := pm p0 q2; have m10 := pm p1 q0; have m11 := pm p1 q1; have m12 := pm p1 q2; have m20 := pm p2 q0; have m21 := pm p2 q1; have m22 := pm p2 q2
    simp only [pout, pin, List.length_cons, List.length_nil, Nat.reduceAdd, Nat.reduceSub, List.replicate_succ, List.replicate_zero, List.set_cons_zero, List.set_cons_succ, List.getD_cons_zero, List.getD_cons_succ, Int.zero_add, wrap_addr, wrap_addl, wrap_wrap, Nat.add_zero, Nat.zero_add]
    exact pcons rfl (by omega) (pcons (by omega) (by omega) (pcons (by omega) (by omega) (pcons (by omega) (by omega) (pcons (by omega) (by omega) rfl))))
open Classical in
theorem stab_of (p : List Int) : stab p = true ↔ allRows p := by unfold stab; exact decide_eq_true_iff
theorem polyOk_prd {p : List Int} (h : Sp.polyErr p = 0) : PolyOk p ∧ 0 < ent p 0 := by
  obtain ⟨h2, h5, hb, h0⟩ := poly_of h
  refine ⟨⟨h2, h5, fun i => ?_⟩, ?_⟩
  · by_cases hi : i < p.length
    · have := hb i hi
      show (p.getD i 0).natAbs ≤ 1000
      omega
    · rw [ent_over (by omega)]; decide
  · cases p with
    | nil => simp at h2
    | cons x xs => simpa [ent] using h0
def posB (p : List Int) : Bool := p.all fun x => decide (0 < x)
theorem pos_loop (p : List Int) (hp : p.length ≤ 1000) : ∀ (d k i : Nat), p.length - i = d → i ≤ p.length → d < k → Q.guidevanelaw06_positive.l0 k p (i : Int) = some (posB (p.drop i)) := by
  intro d
  induction d with
  | zero =>
    intro k i hd hi hk
    obtain ⟨k, rfl⟩ : ∃ q, k = q + 1 := ⟨k - 1, by omega⟩
    rw [Q.guidevanelaw06_positive.l0, if_neg (by omega), List.drop_eq_nil_of_le (by omega)]; rfl
  | succ d ih =>
    intro k i hd hi hk
    obtain ⟨k, rfl⟩ : ∃ q, k = q + 1 := ⟨k - 1, by omega⟩
    rw [Q.guidevanelaw06_positive.l0, if_pos (by omega), if_pos (by omega), rd_nat, drop_getD p i (by omega)]
    by_cases h : p.getD i 0 ≤ 0
    · rw [if_pos h]
      have : ¬ 0 < p.getD i 0 := by omega
      simp only [posB, List.all_cons, decide_eq_false this, Bool.false_and]
    · rw [if_neg h, w64 (by omega) (by omega), show ((i : Int) + 1) = ((i + 1 : Nat) : Int) by omega, ih k (i + 1) (by omega) (by omega) (by omega)]
      have : 0 < p.getD i 0 := by omega
      simp only [posB, List.all_cons, decide_eq_true this, Bool.true_and]
theorem pos_eval (p : List Int) (hp : p.length ≤ 1000) (k : Nat) (hk : 1000 < k) : Q.guidevanelaw06_positive.f k p = some (posB p) := pos_loop p hp p.length k 0 (by omega) (by omega) (by omega)
theorem stab_pos {p : List Int} (h : PolyOk p) (h0 : 0 < ent p 0) (h3 : p.length ≤ 3) : stab p = posB p := by
  rw [Bool.eq_iff_iff, stab_of]
  obtain ⟨h2, -, -⟩ := h
  match p, h2, h3 with
  | [a, b], _, _ =>
    have ha : 0 < a := h0
    rw [hur2 a b ha]; simp [posB, ha]
  | [a, b, c], _, _ =>
    have ha : 0 < a := h0
    rw [hur3 a b c ha]; simp [posB, ha]
theorem prod_stab {a b : List Int} (ha : PolyOk a) (hb : PolyOk b) (ha0 : 0 < ent a 0) (hb0 : 0 < ent b 0) (ha3 : a.length ≤ 3) (hb3 : b.length ≤ 3) : stab (pout a b a.length) = (stab a && stab b) := by
  rw [Bool.eq_iff_iff, Bool.and_eq_true, stab_of, stab_of, stab_of]
  rcases prod_list ha hb ha3 hb3 with ⟨a0, a1, b0, b1, rfl, rfl, e⟩ | ⟨a0, a1, b0, b1, b2, rfl, rfl, e⟩ | ⟨a0, a1, a2, b0, b1, rfl, rfl, e⟩ | ⟨a0, a1, a2, b0, b1, b2, rfl, rfl, e⟩
  · have h1 : 0 < a0 := ha0
    have h2 : 0 < b0 := hb0
    rw [e, hur3 _ _ _ (Int.mul_pos h1 h2), hur2 _ _ h1, hur2 _ _ h2]
    exact prod11 a0 a1 b0 b1 h1 h2
  · have h1 : 0 < a0 := ha0
    have h2 : 0 < b0 := hb0
    rw [e, hur4 _ _ _ _ (Int.mul_pos h1 h2), hur2 _ _ h1, hur3 _ _ _ h2]
    exact prod12 a0 a1 b0 b1 b2 h1 h2
  · have h1 : 0 < a0 := ha0
    have h2 : 0 < b0 := hb0
    rw [e, hur4 _ _ _ _ (Int.mul_pos h2 h1), hur3 _ _ _ h1, hur2 _ _ h2]
    have := prod12 b0 b1 a0 a1 a2 h2 h1
    unfold st4 at this
    rw [this]
    constructor
    · rintro ⟨x, y, z⟩; exact ⟨⟨y, z⟩, x⟩
    · rintro ⟨⟨y, z⟩, x⟩; exact ⟨x, y, z⟩
  · have h1 : 0 < a0 := ha0
    have h2 : 0 < b0 := hb0
    rw [e, hur5 _ _ _ _ _ (Int.mul_pos h1 h2), hur3 _ _ _ h1, hur3 _ _ _ h2]
    exact prod22 a0 a1 a2 b0 b1 b2 h1 h2
theorem isStable_prd {p : List Int} (h : Sp.polyErr p = 0) (k : Nat) (hk : 60000000000000010 < k) : Q.governor_IsStable.f k p = some (stab p, 0) := by
  unfold Q.governor_IsStable.f
  rw [show governor_CheckPolynomial.f p = some (Sp.polyErr p) from rfl, h, Option.bind_some, if_pos rfl, stable_eval (polyOk_prd h).1 k hk, Option.bind_some]
theorem prd_l1 {a b acc : List Int} {i : Nat} (hi : i < a.length) (ha : a.length ≤ 3) (hb : b.length ≤ 3) (hacc : acc.length = a.length + b.length - 1) : ∀ (d k j : Nat), b.length - j = d → j ≤ b.length →
    Q.guidevanelaw06_GovernorProducts.l1 (k + d + 1) a b (pin a b acc i j) (i : Int) (j : Int) = Q.guidevanelaw06_GovernorProducts.l0 k a b (pin a b acc i b.length) ((i + 1 : Nat) : Int) := by
  intro d
  induction d with
  | zero =>
    intro k j hd hj
    obtain rfl : j = b.length := by omega
    rw [Q.guidevanelaw06_GovernorProducts.l1, if_neg (by omega), w64 (n := (i : Int) + 1) (by omega) (by omega), show ((i : Int) + 1) = ((i + 1 : Nat) : Int) by omega]
  | succ d ih =>
    intro k j hd hj
    have hl := pin_len a b acc i j
    have ih2 := ih k (j + 1) (by omega) (by omega)
    rw [pin] at ih2
    rw [show k + (d + 1) + 1 = (k + d + 1) + 1 by omega, Q.guidevanelaw06_GovernorProducts.l1, if_pos (by omega), w64 (n := (i : Int) + (j : Int)) (by omega) (by omega), if_pos (by omega), if_pos (by omega), if_pos (by omega), if_pos (by omega), if_pos (by omega), show ((i : Int) + (j : Int)) = ((i + j : Nat) : Int) by omega, rd_nat, rd_nat, rd_nat, Int.toNat_natCast, w64 (n := (j : Int) + 1) (by omega) (by omega), show ((j : Int) + 1) = ((j + 1 : Nat) : Int) by omega]
    exact ih2
theorem prd_l0 {a b : List Int} (ha : Sp.polyErr a = 0) (hb : Sp.polyErr b = 0) (ha3 : a.length ≤ 3) (hb3 : b.length ≤ 3) : ∀ (d k i : Nat), a.length - i = d → i ≤ a.length → 60000000000001000 + 10 * d < k →
    Q.guidevanelaw06_GovernorProducts.l0 k a b (pout a b i) (i : Int) = some true := by
  intro d
  induction d with
  | zero =>
    intro k i hd hi hk
    obtain ⟨k, rfl⟩ : ∃ q, k = q + 1 := ⟨k - 1, by omega⟩
    obtain rfl : i = a.length := by omega
    obtain ⟨pa, a0⟩ := polyOk_prd ha
    obtain ⟨pb, b0⟩ := polyOk_prd hb
    have hl := pout_len a b a.length
    obtain ⟨q, hq⟩ : ∃ q, k = q + 1 := ⟨k - 1, by omega⟩
    have hj : Q.guidevanelaw06_GovernorProducts.j3 k (pout a b a.length) (stab a) (stab b) false = some true := by
      rw [hq, Q.guidevanelaw06_GovernorProducts.j3, if_neg (by decide), rpolyErr_eval _ q (by omega), Option.bind_some]
      by_cases hp : Sp.polyErr (pout a b a.length) = 0
      · rw [if_pos hp, isStable_prd hp q (by omega), Option.bind_some, if_pos rfl, prod_stab pa pb a0 b0 ha3 hb3]
        cases stab a <;> simp
      · rw [if_neg hp]
    rw [Q.guidevanelaw06_GovernorProducts.l0, if_neg (by omega), copy_eval a (by omega), Option.bind_some, isStable_prd ha k (by omega), Option.bind_some, copy_eval b (by omega), Option.bind_some, isStable_prd hb k (by omega), Option.bind_some, if_pos rfl, if_pos rfl, pos_eval a (by omega) k (by omega), Option.bind_some, ← stab_pos pa a0 ha3, if_neg (by simp), pos_eval b (by omega) k (by omega), Option.bind_some, ← stab_pos pb b0 hb3]
    rw [show (stab b != stab b) = false by simp]
    exact hj
  | succ d ih =>
    intro k i hd hi hk
    obtain ⟨k, rfl⟩ : ∃ q, k = q + 1 := ⟨k - 1, by omega⟩
    have h1 := prd_l1 (a := a) (b := b) (acc := pout a b i) (i := i) (by omega) ha3 hb3 (pout_len a b i) b.length (k - b.length - 1) 0 (by omega) (by omega)
    rw [show k - b.length - 1 + b.length + 1 = k by omega, pin, show ((0 : Nat) : Int) = 0 from rfl] at h1
    rw [Q.guidevanelaw06_GovernorProducts.l0, if_pos (by omega), h1]
    exact ih _ (i + 1) (by omega) (by omega) (by omega)
theorem pure_products : Q.guidevanelaw06_GovernorProducts.Pure := by
  intro a b _ _ _ _ _ _
  refine ⟨70000000000000000, ?_⟩
  obtain ⟨K, hK⟩ : ∃ K : Nat, K = 70000000000000000 := ⟨_, rfl⟩
  rw [← hK]
  obtain ⟨q, hq⟩ : ∃ q, K = q + 1 := ⟨K - 1, by omega⟩
  have hskip : Q.guidevanelaw06_GovernorProducts.j0 K a b true = some true := by rw [hq, Q.guidevanelaw06_GovernorProducts.j0, if_pos rfl]
  unfold Q.guidevanelaw06_GovernorProducts.f guidevanelaw06_awake.f
  rw [Option.bind_some, if_pos rfl, rpolyErr_eval a K (by omega), Option.bind_some]
  by_cases ha : Sp.polyErr a = 0
  · rw [if_pos ha, rpolyErr_eval b K (by omega), Option.bind_some]
    by_cases hb : Sp.polyErr b = 0
    · rw [if_pos hb]
      obtain ⟨a2, -, -, -⟩ := poly_of ha
      obtain ⟨b2, -, -, -⟩ := poly_of hb
      by_cases ha3 : (a.length : Int) > 3
      · rw [if_pos ha3]; exact hskip
      · rw [if_neg ha3]
        by_cases hb3 : (b.length : Int) > 3
        · rw [decide_eq_true hb3]; exact hskip
        · rw [decide_eq_false hb3, hq, Q.guidevanelaw06_GovernorProducts.j0, if_neg (by decide), w64 (n := (a.length : Int) + (b.length : Int)) (by omega) (by omega), w64 (by omega) (by omega), if_pos (by omega), if_pos (by omega)]
          have e : ((a.length : Int) + (b.length : Int) - 1).toNat = a.length + b.length - 1 := by omega
          rw [e]
          exact prd_l0 ha hb (by omega) (by omega) a.length q 0 (by omega) (by omega) (by omega)
    · rw [if_neg hb]; exact hskip
  · rw [if_neg ha]; exact hskip
end Go.Proofs.Ytmpondcccbmlhaa.Ext
namespace Go.Proofs.Ytmpondcccbmlhaa
theorem Pure.GovernorProducts : Q.guidevanelaw06_GovernorProducts.Pure := Ext.pure_products
end Go.Proofs.Ytmpondcccbmlhaa
