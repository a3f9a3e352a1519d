/- A part of the claim H: the texts Rfa, without what the claim does not lean on. -/
import Derived.Test.YtmpondcccbmlhaaGreatzH9
import Derived.Test.YtmpondcccbmlhaaGreatzH20
namespace Go.Proofs.YtmpondcccbmlhaaGreat.Ext
open Go.RowKit Go.Proofs.YtmpondcccbmlhaaGreatW.PrintWords Go.Proofs.YtmpondcccbmlhaaGreatW.PrintLast Go.Proofs.YtmpondcccbmlhaaGreatW.PrintMore
theorem copy_eval (l : List Int) (h : l.length ≤ 17592186044400) : Q.gba_CopyInts.f l = some l := by
 unfold Q.gba_CopyInts.f
 simp only [Option.bind_some, List.length_nil, List.nil_append]
 rw [if_pos (by omega)]
theorem bwithin_eval (n lo hi : Int) : Q.gba_Within.f n lo hi = some (decide (lo ≤ n ∧ n ≤ hi)) := by
 unfold Q.gba_Within.f
 by_cases h : lo ≤ n <;> simp [h]
theorem shape_eval (n : Int) : Q.gr6_shapeErr.f n = some (Sp.countErr n) := by
 unfold Q.gr6_shapeErr.f Sp.countErr
 by_cases h : n < 2
 ·rw [if_pos h, if_pos h]
 ·rw [if_neg h, if_neg h]
  by_cases h2 : 5 < n
  ·rw [if_pos (by omega), if_pos h2]
  ·rw [if_neg (by omega), if_neg h2]
theorem coefErr_cases (x : Int) : Sp.coefErr x = 0 ∨ Sp.coefErr x = 2 := by unfold Sp.coefErr; split <;> simp
theorem coefsErr_ok {x : Int} {l : List Int} (h : Sp.coefErr x = 0) : Sp.coefsErr (x :: l) = Sp.coefsErr l := by simp only [Sp.coefsErr]; rw [if_pos h]
theorem coefsErr_bad {x : Int} {l : List Int} (h : ¬ Sp.coefErr x = 0) : Sp.coefsErr (x :: l) = Sp.coefErr x := by simp only [Sp.coefsErr]; rw [if_neg h]
theorem polyErr_loop (p : List Int) (hp : 0 < p.length) (h5 : p.length ≤ 1000) : ∀ (d k i : Nat), p.length - i = d → i ≤ p.length → d < k →
  Q.gr6_PolynomialErr.l0 k p (i : Int) = some (if Sp.coefsErr (p.drop i) = 0 then (if 0 < p.headD 0 then 0 else 3) else Sp.coefsErr (p.drop i)) := by
 intro d
 induction d with
 | zero =>
  intro k i hd hi hk
  obtain ⟨k, rfl⟩ : ∃ m, k = m + 1 := ⟨k - 1, by omega⟩
  simp only [Q.gr6_PolynomialErr.l0]
  rw [if_neg (by omega), if_pos (by omega), List.drop_eq_nil_of_le (by omega)]
  have e0 : rd p 0 = p.headD 0 := by
   have := rd_nat p 0
   rw [List.getD_eq_getElem?_getD] at this
   cases p with
   | nil => simp at hp
   | cons x xs => simpa using this
  rw [e0, show Sp.coefsErr [] = 0 from rfl, if_pos rfl]
  by_cases h : 0 < p.headD 0
  ·rw [if_neg (by omega), if_pos h]
  ·rw [if_pos (by omega), if_neg h]
 | succ d ih =>
  intro k i hd hi hk
  obtain ⟨k, rfl⟩ : ∃ m, k = m + 1 := ⟨k - 1, by omega⟩
  simp only [Q.gr6_PolynomialErr.l0]
  rw [if_pos (by omega), if_pos (by omega), rd_nat, bwithin_eval]
  simp only [Option.bind_some, decide_eq_true_eq]
  rw [drop_getD p i (by omega)]
  by_cases h : -1000 ≤ p.getD i 0 ∧ p.getD i 0 ≤ 1000
  ·have hz : Sp.coefErr (p.getD i 0) = 0 := by unfold Sp.coefErr; rw [if_pos h]
   rw [if_pos h, w64 (by omega) (by omega), show ((i : Int) + 1) = ((i + 1 : Nat) : Int) by omega, ih k (i + 1) (by omega) (by omega) (by omega), coefsErr_ok hz]
  ·have hz : Sp.coefErr (p.getD i 0) = 2 := by unfold Sp.coefErr; rw [if_neg h]
   rw [if_neg h, coefsErr_bad (by omega), hz, if_neg (by omega)]
theorem rpolyErr_eval (p : List Int) (k : Nat) (hk : 10 < k) : Q.gr6_PolynomialErr.f k p = some (Sp.polyErr p) := by
 unfold Q.gr6_PolynomialErr.f Sp.polyErr
 rw [shape_eval]
 simp only [Option.bind_some]
 by_cases h : Sp.countErr p.length = 0
 ·have := countErr_zero h
  have hl := polyErr_loop p (by omega) (by omega) p.length k 0 (by omega) (by omega) (by omega)
  rw [if_pos h, if_pos h]
  exact hl
 ·rw [if_neg h, if_neg h]
def vb : Nat → Int
 | 0 => 0
 | n + 1 => 1000 + 1000 * vb n
theorem poly_of {p : List Int} (h : Sp.polyErr p = 0) : 2 ≤ p.length ∧ p.length ≤ 5 ∧ (∀ i, i < p.length → -1000 ≤ p.getD i 0 ∧ p.getD i 0 ≤ 1000) ∧ 0 < p.headD 0 := by
 unfold Sp.polyErr at h
 split at h
 ·rename_i h1
  have hc := countErr_zero h1
  split at h
  ·rename_i h2
   refine ⟨hc.1, hc.2, ?_, ?_⟩
   ·have key : ∀ (l : List Int), Sp.coefsErr l = 0 → ∀ i, i < l.length → -1000 ≤ l.getD i 0 ∧ l.getD i 0 ≤ 1000 := by
     intro l
     induction l with
     | nil => intro _ i hi; simp at hi
     | cons x xs ih =>
      intro hl i hi
      simp only [Sp.coefsErr] at hl
      rcases coefErr_cases x with hx | hx
      ·rw [if_pos hx] at hl
       rcases i with _ | i
       ·unfold Sp.coefErr at hx
        split at hx
        ·simpa using ‹-1000 ≤ x ∧ x ≤ 1000›
        ·omega
       ·simpa using ih hl i (by simpa using hi)
      ·rw [if_neg (by omega)] at hl; omega
    exact key p h2
   ·split at h
    ·assumption
    ·omega
  ·rename_i h2; exact absurd h h2
 ·rename_i h1; exact absurd h h1
theorem ints_loop (a b : List Int) (hl : a.length = b.length) (ha : a.length ≤ 1000000) : ∀ (d k i : Nat), a.length - i = d → i ≤ a.length → d < k → Q.gba_Ints.l0 k a b (i : Int) = some (decide (a.drop i = b.drop i)) := by
 intro d
 induction d with
 | zero =>
  intro k i hd hi hk
  obtain ⟨k, rfl⟩ : ∃ m, k = m + 1 := ⟨k - 1, by omega⟩
  simp only [Q.gba_Ints.l0]
  rw [if_neg (by omega), List.drop_eq_nil_of_le (by omega), List.drop_eq_nil_of_le (by omega)]
  simp
 | succ d ih =>
  intro k i hd hi hk
  obtain ⟨k, rfl⟩ : ∃ m, k = m + 1 := ⟨k - 1, by omega⟩
  simp only [Q.gba_Ints.l0]
  rw [if_pos (by omega), if_pos (by omega), if_pos (by omega), rd_nat, rd_nat, drop_getD a i (by omega), drop_getD b i (by omega)]
  by_cases h : a.getD i 0 = b.getD i 0
  ·rw [if_pos h, w64 (by omega) (by omega), show ((i : Int) + 1) = ((i + 1 : Nat) : Int) by omega, ih k (i + 1) (by omega) (by omega) (by omega)]
   congr 1
   rw [decide_eq_decide, List.cons.injEq]
   exact ⟨fun e => ⟨h, e⟩, fun e => e.2⟩
  ·rw [if_neg h]
   congr 1
   symm
   rw [decide_eq_false_iff_not, List.cons.injEq]
   exact fun e => h e.1
theorem ints_eval (a b : List Int) (ha : a.length ≤ 1000000) (k : Nat) (hk : a.length < k) : Q.gba_Ints.f k a b = some (decide (a = b)) := by
 unfold Q.gba_Ints.f
 by_cases hl : a.length = b.length
 ·rw [if_pos (by omega)]
  exact ints_loop a b hl ha a.length k 0 (by omega) (by omega) hk
 ·rw [if_neg (by omega)]
  congr 1
  symm
  rw [decide_eq_false_iff_not]
  exact fun e => hl (by rw [e])
end Go.Proofs.YtmpondcccbmlhaaGreat.Ext
