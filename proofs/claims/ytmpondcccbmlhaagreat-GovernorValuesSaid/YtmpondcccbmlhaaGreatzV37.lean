/- A part of the claim V: the texts Rfa, without what the claim does not lean on. -/
import Derived.ArgAppend
import Derived.Below
import Derived.BigQuiet
import Derived.Deep.AppendLies
import Derived.Deep.CutBlock
import Derived.Deep.DeepCutAuto
import Derived.Deep.Draws
import Derived.Deep.LoopGhost
import Derived.Deep.OwnRows
import Derived.Deep.QuietTactic
import Derived.Deep.RegionHeld3
import Derived.KernelRfl
import Derived.Laws.BitsLemmas
import Derived.Laws.BytesArg
import Derived.Laws.IdiomCopy
import Derived.Laws.MakeOwn
import Derived.Laws.OwnMore
import Derived.Laws.Rows
import Derived.Laws.Slices
import Derived.Laws.StructEq
import Derived.Lib.AppendStr
import Derived.Lib.ConvBytes
import Derived.Lib.Hide
import Derived.Maps.AppendAt
import Derived.OrdersHeld
import Derived.Outline
import Derived.OwnWalk
import Derived.RowKit
import Derived.RowKit3
import Derived.Shelf.Abstract
import Derived.Tactics
import Derived.WalkKit
import Derived.WideLaws
import Derived.Test.YtmpondcccbmlhaaGreatProg
import Derived.Test.YtmpondcccbmlhaaGreatzV0
import Derived.Test.YtmpondcccbmlhaaGreatzV1
import Derived.Test.YtmpondcccbmlhaaGreatzV2
import Derived.Test.YtmpondcccbmlhaaGreatzV3
import Derived.Test.YtmpondcccbmlhaaGreatzV4
import Derived.Test.YtmpondcccbmlhaaGreatzV5
import Derived.Test.YtmpondcccbmlhaaGreatzV6
import Derived.Test.YtmpondcccbmlhaaGreatzV7
import Derived.Test.YtmpondcccbmlhaaGreatzV8
import Derived.Test.YtmpondcccbmlhaaGreatzV9
import Derived.Test.YtmpondcccbmlhaaGreatzV10
namespace Go.Proofs.YtmpondcccbmlhaaGreat.Ext
open Go.RowKit Go.Proofs.YtmpondcccbmlhaaGreatW.PrintWords Go.Proofs.YtmpondcccbmlhaaGreatW.PrintLast Go.Proofs.YtmpondcccbmlhaaGreatW.PrintMore
theorem copy_eval (l : List Int) (h : l.length ≤ 17592186044400) : Q.guidevanebase_CopyInts.f l = some l := by
  unfold Q.guidevanebase_CopyInts.f
  simp only [Option.bind_some, List.length_nil, List.nil_append]
  rw [if_pos (by omega)]
theorem bwithin_eval (n lo hi : Int) : Q.guidevanebase_Within.f n lo hi = some (decide (lo ≤ n ∧ n ≤ hi)) := by
  unfold Q.guidevanebase_Within.f
  by_cases h : lo ≤ n <;> simp [h]
theorem shape_eval (n : Int) : Q.guidevaneref06_shapeErr.f n = some (Sp.countErr n) := by
  unfold Q.guidevaneref06_shapeErr.f Sp.countErr
  by_cases h : n < 2
  · rw [if_pos h, if_pos h]
  · rw [if_neg h, if_neg h]
    by_cases h2 : 5 < n
    · rw [if_pos (by omega), if_pos h2]
    · rw [if_neg (by omega), if_neg h2]
theorem coefErr_cases (x : Int) : Sp.coefErr x = 0 ∨ Sp.coefErr x = 2 := by unfold Sp.coefErr; split <;> simp
theorem coefsErr_ok {x : Int} {l : List Int} (h : Sp.coefErr x = 0) : Sp.coefsErr (x :: l) = Sp.coefsErr l := by simp only [Sp.coefsErr]; rw [if_pos h]
theorem coefsErr_bad {x : Int} {l : List Int} (h : ¬ Sp.coefErr x = 0) : Sp.coefsErr (x :: l) = Sp.coefErr x := by simp only [Sp.coefsErr]; rw [if_neg h]
theorem polyErr_loop (p : List Int) (hp : 0 < p.length) (h5 : p.length ≤ 1000) : ∀ (d k i : Nat), p.length - i = d → i ≤ p.length → d < k →
    Q.guidevaneref06_PolynomialErr.l0 k p (i : Int) = some (if Sp.coefsErr (p.drop i) = 0 then (if 0 < p.headD 0 then 0 else 3) else Sp.coefsErr (p.drop i)) := by
  intro d
  induction d with
  | zero =>
    intro k i hd hi hk
    obtain ⟨k, rfl⟩ : ∃ m, k = m + 1 := ⟨k - 1, by omega⟩
    simp only [Q.guidevaneref06_PolynomialErr.l0]
    rw [if_neg (by omega), if_pos (by omega), List.drop_eq_nil_of_le (by omega)]
    have e0 : rd p 0 = p.headD 0 := by
      have := rd_nat p 0
      rw [List.getD_eq_getElem?_getD] at this
      cases p with
      | nil => simp at hp
      | cons x xs => simpa using this
    rw [e0, show Sp.coefsErr [] = 0 from rfl, if_pos rfl]
    by_cases h : 0 < p.headD 0
    · rw [if_neg (by omega), if_pos h]
    · rw [if_pos (by omega), if_neg h]
  | succ d ih =>
    intro k i hd hi hk
    obtain ⟨k, rfl⟩ : ∃ m, k = m + 1 := ⟨k - 1, by omega⟩
    simp only [Q.guidevaneref06_PolynomialErr.l0]
    rw [if_pos (by omega), if_pos (by omega), rd_nat, bwithin_eval]
    simp only [Option.bind_some, decide_eq_true_eq]
    rw [drop_getD p i (by omega)]
    by_cases h : -1000 ≤ p.getD i 0 ∧ p.getD i 0 ≤ 1000
    · have hz : Sp.coefErr (p.getD i 0) = 0 := by unfold Sp.coefErr; rw [if_pos h]
      rw [if_pos h, w64 (by omega) (by omega), show ((i : Int) + 1) = ((i + 1 : Nat) : Int) by omega, ih k (i + 1) (by omega) (by omega) (by omega), coefsErr_ok hz]
    · have hz : Sp.coefErr (p.getD i 0) = 2 := by unfold Sp.coefErr; rw [if_neg h]
      rw [if_neg h, coefsErr_bad (by omega), hz, if_neg (by omega)]
theorem rpolyErr_eval (p : List Int) (k : Nat) (hk : 10 < k) : Q.guidevaneref06_PolynomialErr.f k p = some (Sp.polyErr p) := by
  unfold Q.guidevaneref06_PolynomialErr.f Sp.polyErr
  rw [shape_eval]
  simp only [Option.bind_some]
  by_cases h : Sp.countErr p.length = 0
  · have := countErr_zero h
    have hl := polyErr_loop p (by omega) (by omega) p.length k 0 (by omega) (by omega) (by omega)
    rw [if_pos h, if_pos h]
    exact hl
  · rw [if_neg h, if_neg h]
theorem rfreqErr_eval (w : Int) : Q.guidevaneref06_FrequencyErr.f w = some (Sp.freqErr w) := by
  unfold Q.guidevaneref06_FrequencyErr.f Sp.freqErr
  rw [bwithin_eval]
  simp only [Option.bind_some, decide_eq_true_eq]
  by_cases h : 0 ≤ w ∧ w ≤ 1000
  · rw [if_pos h, if_pos h]
  · rw [if_neg h, if_neg h]
def vb : Nat → Int
  | 0 => 0
  | n + 1 => 1000 + 1000 * vb n
theorem vb_le (n : Nat) (h : n ≤ 5) : 0 ≤ vb n ∧ vb n ≤ 1001001001001000 := by
  obtain rfl | rfl | rfl | rfl | rfl | rfl : n = 0 ∨ n = 1 ∨ n = 2 ∨ n = 3 ∨ n = 4 ∨ n = 5 := by omega
  all_goals decide
theorem mul_bound {x w b : Int} (h0 : -b ≤ x) (h1 : x ≤ b) (hw : 0 ≤ w) (hw2 : w ≤ 1000) : -(1000 * b) ≤ x * w ∧ x * w ≤ 1000 * b := by
  have hb : 0 ≤ b := by omega
  have h2 : x * w ≤ b * w := Int.mul_le_mul_of_nonneg_right h1 hw
  have h3 : -b * w ≤ x * w := Int.mul_le_mul_of_nonneg_right h0 hw
  have h4 : b * w ≤ b * 1000 := Int.mul_le_mul_of_nonneg_left hw2 hb
  rw [Int.neg_mul] at h3
  omega
theorem val_loop (p : List Int) (w : Int) (h5 : p.length ≤ 5) (hp : ∀ i, i < p.length → -1000 ≤ p.getD i 0 ∧ p.getD i 0 ≤ 1000) (hw : 0 ≤ w) (hw2 : w ≤ 1000) : ∀ (d k i : Nat) (re im : Int), p.length - i = d → i ≤ p.length → -(vb i) ≤ re → re ≤ vb i → -(vb i) ≤ im → im ≤ vb i → d < k →
    Q.guidevaneref06_Value.l0 k p w (i : Int) re im = some (Sp.valFrom w (p.drop i) (re, im)) := by
  intro d
  induction d with
  | zero =>
    intro k i re im hd hi _ _ _ _ hk
    obtain ⟨k, rfl⟩ : ∃ m, k = m + 1 := ⟨k - 1, by omega⟩
    simp only [Q.guidevaneref06_Value.l0]
    rw [if_neg (by omega), List.drop_eq_nil_of_le (by omega)]; rfl
  | succ d ih =>
    intro k i re im hd hi h1 h2 h3 h4 hk
    obtain ⟨k, rfl⟩ : ∃ m, k = m + 1 := ⟨k - 1, by omega⟩
    simp only [Q.guidevaneref06_Value.l0]
    have hv := vb_le i (by omega)
    have hv1 : vb (i + 1) = 1000 + 1000 * vb i := rfl
    have hx := hp i (by omega)
    have m1 := mul_bound h3 h4 hw hw2
    have m2 := mul_bound h1 h2 hw hw2
    rw [if_pos (by omega)]
    simp only [Q.guidevanebase_GMul.f, Q.guidevanebase_GAdd.f, Option.bind_some]
    rw [Int.mul_zero, Int.mul_zero, w64 (n := (0 : Int)) (by omega) (by omega), w64 (n := im * w) (by omega) (by omega), w64 (n := re * w) (by omega) (by omega), w64 (n := (0 : Int) - im * w) (by omega) (by omega), w64 (n := re * w + 0) (by omega) (by omega),
      if_pos (by omega), rd_nat, w64 (n := (i : Int) + 1) (by omega) (by omega), w64 (n := 0 - im * w + p.getD i 0) (by omega) (by omega), w64 (n := re * w + 0 + 0) (by omega) (by omega), show ((i : Int) + 1) = ((i + 1 : Nat) : Int) by omega,
      ih k (i + 1) _ _ (by omega) (by omega) (by omega) (by omega) (by omega) (by omega) (by omega), drop_getD p i (by omega)]
    simp only [Sp.valFrom]
    congr 2
    rw [Prod.mk.injEq]
    constructor <;> omega
theorem poly_of {p : List Int} (h : Sp.polyErr p = 0) : 2 ≤ p.length ∧ p.length ≤ 5 ∧ (∀ i, i < p.length → -1000 ≤ p.getD i 0 ∧ p.getD i 0 ≤ 1000) ∧ 0 < p.headD 0 := by
  unfold Sp.polyErr at h
  split at h
  · rename_i h1
    have hc := countErr_zero h1
    split at h
    · rename_i h2
      refine ⟨hc.1, hc.2, ?_, ?_⟩
      · have key : ∀ (l : List Int), Sp.coefsErr l = 0 → ∀ i, i < l.length → -1000 ≤ l.getD i 0 ∧ l.getD i 0 ≤ 1000 := by
          intro l
          induction l with
          | nil => intro _ i hi; simp at hi
          | cons x xs ih =>
            intro hl i hi
            simp only [Sp.coefsErr] at hl
            rcases coefErr_cases x with hx | hx
            · rw [if_pos hx] at hl
              rcases i with _ | i
              · unfold Sp.coefErr at hx
                split at hx
                · simpa using ‹-1000 ≤ x ∧ x ≤ 1000›
                · omega
              · simpa using ih hl i (by simpa using hi)
            · rw [if_neg (by omega)] at hl; omega
        exact key p h2
      · split at h
        · assumption
        · omega
    · rename_i h2; exact absurd h h2
  · rename_i h1; exact absurd h h1
theorem freq_of {w : Int} (h : Sp.freqErr w = 0) : 0 ≤ w ∧ w ≤ 1000 := by
  unfold Sp.freqErr at h
  split at h
  · assumption
  · omega
theorem rvalue_eval {p : List Int} {w : Int} (hp : Sp.polyErr p = 0) (hw : Sp.freqErr w = 0) (k : Nat) (hk : 10 < k) : Q.guidevaneref06_Value.f k p w = some (Sp.val p w) := by
  obtain ⟨h2, h5, hb, -⟩ := poly_of hp
  obtain ⟨w0, w1⟩ := freq_of hw
  exact val_loop p w h5 hb w0 w1 p.length k 0 0 0 (by omega) (by omega) (by decide) (by decide) (by decide) (by decide) (by omega)
theorem grid_loop (l : List Int) (hl : l.length ≤ 20) : ∀ (d k i : Nat), l.length - i = d → i ≤ l.length → d < k →
    Q.guidevaneref06_GridErr.l0 k l (i : Int) = some (Sp.freqsErr (if i = 0 then none else some (l.getD (i - 1) 0)) (l.drop i)) := by
  intro d
  induction d with
  | zero =>
    intro k i hd hi hk
    obtain ⟨k, rfl⟩ : ∃ m, k = m + 1 := ⟨k - 1, by omega⟩
    simp only [Q.guidevaneref06_GridErr.l0]
    rw [if_neg (by omega), List.drop_eq_nil_of_le (by omega)]; rfl
  | succ d ih =>
    intro k i hd hi hk
    obtain ⟨k, rfl⟩ : ∃ m, k = m + 1 := ⟨k - 1, by omega⟩
    have ih2 := ih k (i + 1) (by omega) (by omega) (by omega)
    rw [if_neg (by omega), show i + 1 - 1 = i by omega] at ih2
    simp only [Q.guidevaneref06_GridErr.l0]
    rw [if_pos (by omega), if_pos (by omega), rd_nat, rfreqErr_eval, drop_getD l i (by omega)]
    simp only [Option.bind_some, Sp.freqsErr]
    rw [w64 (n := (i : Int) + 1) (by omega) (by omega), show ((i : Int) + 1) = ((i + 1 : Nat) : Int) by omega]
    by_cases hz : Sp.freqErr (l.getD i 0) = 0
    · rw [if_pos hz, if_pos hz]
      by_cases hi0 : i = 0
      · rw [if_neg (by omega), if_pos hi0, ih2]; rfl
      · rw [if_pos (by omega), if_neg hi0, w64 (n := (i : Int) - 1) (by omega) (by omega), if_pos (by omega), if_pos (by omega), show ((i : Int) - 1) = ((i - 1 : Nat) : Int) by omega, rd_nat]
        simp only [Option.elim_some, decide_eq_true_eq]
        by_cases hle : l.getD (i - 1) 0 < l.getD i 0
        · rw [if_neg (by omega), if_pos hle, ih2]
        · rw [if_pos (by omega), if_neg hle]
    · rw [if_neg hz, if_neg hz]
theorem rgrid_eval (l : List Int) (k : Nat) (hk : 30 < k) : Q.guidevaneref06_GridErr.f k l = some (Sp.gridErr l) := by
  unfold Q.guidevaneref06_GridErr.f Sp.gridErr
  by_cases h : 20 < (l.length : Int)
  · rw [if_pos (by omega), if_pos h]
  · rw [if_neg (by omega), if_neg h]
    exact grid_loop l (by omega) l.length k 0 (by omega) (by omega) (by omega)
theorem rquad_eval (v : Int × Int) (k : Nat) (hk : 3 < k) : Q.guidevaneref06_Quadrant.f k v.1 v.2 = some (Sp.quad v) := by
  obtain ⟨k, rfl⟩ : ∃ m, k = m + 2 := ⟨k - 2, by omega⟩
  unfold Q.guidevaneref06_Quadrant.f Sp.quad
  simp only [Q.guidevaneref06_Quadrant.j0, Q.guidevaneref06_Quadrant.j1]
  by_cases h1 : v.1 > 0 <;> by_cases h2 : v.2 ≥ 0 <;> by_cases h3 : v.1 ≤ 0 <;> by_cases h4 : v.2 > 0 <;> by_cases h5 : v.1 < 0 <;> by_cases h6 : v.2 ≤ 0 <;> simp [h1, h2, h3, h4, h5, h6] <;> omega
theorem freqs_all {b : Option Int} {l : List Int} (h : Sp.freqsErr b l = 0) : ∀ w ∈ l, Sp.freqErr w = 0 := by
  induction l generalizing b with
  | nil => simp
  | cons x xs ih =>
    simp only [Sp.freqsErr] at h
    by_cases hz : Sp.freqErr x = 0
    · rw [if_pos hz] at h
      split at h
      · intro w hw
        rcases List.mem_cons.1 hw with h2 | h2
        · rw [h2]; exact hz
        · exact ih h w h2
      · omega
    · rw [if_neg hz] at h; exact absurd h hz
theorem grid_all {l : List Int} (h : Sp.gridErr l = 0) : l.length ≤ 20 ∧ ∀ w ∈ l, Sp.freqErr w = 0 := by
  unfold Sp.gridErr at h
  split at h
  · omega
  · exact ⟨by omega, freqs_all h⟩
theorem quads_loop {p g : List Int} (hp : Sp.polyErr p = 0) (hg : ∀ w ∈ g, Sp.freqErr w = 0) (h20 : g.length ≤ 20) : ∀ (d k i : Nat) (acc : List Int), g.length - i = d → i ≤ g.length → acc.length ≤ i → d + 30 < k →
    Q.guidevaneref06_Quadrants.l0 k p g acc (i : Int) = some (match Sp.quads p (g.drop i) with | some q => (acc ++ q, true) | none => ([], false)) := by
  intro d
  induction d with
  | zero =>
    intro k i acc hd hi ha hk
    obtain ⟨k, rfl⟩ : ∃ m, k = m + 1 := ⟨k - 1, by omega⟩
    simp only [Q.guidevaneref06_Quadrants.l0]
    rw [if_neg (by omega), List.drop_eq_nil_of_le (by omega)]
    simp [Sp.quads]
  | succ d ih =>
    intro k i acc hd hi ha hk
    obtain ⟨k, rfl⟩ : ∃ m, k = m + 1 := ⟨k - 1, by omega⟩
    have hfi : Sp.freqErr (g.getD i 0) = 0 := hg _ (by rw [List.getD_eq_getElem?_getD, List.getElem?_eq_getElem (by omega : i < g.length)]; exact List.getElem_mem _)
    simp only [Q.guidevaneref06_Quadrants.l0]
    rw [if_pos (by omega), if_pos (by omega), rd_nat, rvalue_eval hp hfi k (by omega), drop_getD g i (by omega)]
    simp only [Option.bind_some, Sp.quads]
    by_cases hv : Sp.val p (g.getD i 0) = (0, 0)
    · rw [if_pos hv, if_pos (by rw [hv]; rfl)]
    · have hne : ¬ ((Sp.val p (g.getD i 0)).1 == 0 && ((Sp.val p (g.getD i 0)).2 == 0)) = true := by
        intro h
        simp only [Bool.and_eq_true, beq_iff_eq] at h
        exact hv (Prod.ext h.1 h.2)
      rw [if_neg hne, if_neg hv, rquad_eval _ k (by omega)]
      simp only [Option.bind_some]
      rw [if_pos (by omega), w64 (by omega) (by omega), show ((i : Int) + 1) = ((i + 1 : Nat) : Int) by omega, ih k (i + 1) _ (by omega) (by omega) (by simp; omega) (by omega)]
      cases Sp.quads p (g.drop (i + 1)) with
      | none => rfl
      | some q => simp
theorem rquads_eval {p g : List Int} (hp : Sp.polyErr p = 0) (hg : Sp.gridErr g = 0) (k : Nat) (hk : 60 < k) :
    Q.guidevaneref06_Quadrants.f k p g = some (match Sp.quads p g with | some q => (q, true) | none => ([], false)) := by
  obtain ⟨h20, hall⟩ := grid_all hg
  have := quads_loop hp hall h20 g.length k 0 [] (by omega) (by omega) (by simp) (by omega)
  simpa [Q.guidevaneref06_Quadrants.f] using this
theorem ints_loop (a b : List Int) (hl : a.length = b.length) (ha : a.length ≤ 1000000) : ∀ (d k i : Nat), a.length - i = d → i ≤ a.length → d < k → Q.guidevanebase_Ints.l0 k a b (i : Int) = some (decide (a.drop i = b.drop i)) := by
  intro d
  induction d with
  | zero =>
    intro k i hd hi hk
    obtain ⟨k, rfl⟩ : ∃ m, k = m + 1 := ⟨k - 1, by omega⟩
    simp only [Q.guidevanebase_Ints.l0]
    rw [if_neg (by omega), List.drop_eq_nil_of_le (by omega), List.drop_eq_nil_of_le (by omega)]
    simp
  | succ d ih =>
    intro k i hd hi hk
    obtain ⟨k, rfl⟩ : ∃ m, k = m + 1 := ⟨k - 1, by omega⟩
    simp only [Q.guidevanebase_Ints.l0]
    rw [if_pos (by omega), if_pos (by omega), if_pos (by omega), rd_nat, rd_nat, drop_getD a i (by omega), drop_getD b i (by omega)]
    by_cases h : a.getD i 0 = b.getD i 0
    · rw [if_pos h, w64 (by omega) (by omega), show ((i : Int) + 1) = ((i + 1 : Nat) : Int) by omega, ih k (i + 1) (by omega) (by omega) (by omega)]
      congr 1
      rw [decide_eq_decide, List.cons.injEq]
      exact ⟨fun e => ⟨h, e⟩, fun e => e.2⟩
    · rw [if_neg h]
      congr 1
      symm
      rw [decide_eq_false_iff_not, List.cons.injEq]
      exact fun e => h e.1
theorem ints_eval (a b : List Int) (ha : a.length ≤ 1000000) (k : Nat) (hk : a.length < k) : Q.guidevanebase_Ints.f k a b = some (decide (a = b)) := by
  unfold Q.guidevanebase_Ints.f
  by_cases hl : a.length = b.length
  · rw [if_pos (by omega)]
    exact ints_loop a b hl ha a.length k 0 (by omega) (by omega) hk
  · rw [if_neg (by omega)]
    congr 1
    symm
    rw [decide_eq_false_iff_not]
    exact fun e => hl (by rw [e])
theorem quads_len {p : List Int} : ∀ {g q : List Int}, Sp.quads p g = some q → q.length = g.length := by
  intro g
  induction g with
  | nil => intro q h; simp [Sp.quads] at h; rw [← h]
  | cons x xs ih =>
    intro q h
    simp only [Sp.quads] at h
    split at h
    · cases h
    · obtain ⟨q2, h2, rfl⟩ := Option.map_eq_some_iff.1 h
      simp [ih h2]
end Go.Proofs.YtmpondcccbmlhaaGreat.Ext
