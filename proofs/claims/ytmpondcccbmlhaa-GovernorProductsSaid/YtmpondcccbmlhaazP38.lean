/- A part of the claim P: the texts Shf, Rfp, without what the claim does not lean on. -/
import Derived.ArgAppend
import Derived.Below
import Derived.BigQuiet
import Derived.Deep.AppendLies
import Derived.Deep.CutBlock
import Derived.Deep.DeepCutAuto
import Derived.Deep.Draws
import Derived.Deep.LoopGhost
import Derived.Deep.OwnRows
import Derived.Deep.QuietTactic
import Derived.Deep.RegionHeld3
import Derived.KernelRfl
import Derived.Laws.BitsLemmas
import Derived.Laws.BytesArg
import Derived.Laws.IdiomCopy
import Derived.Laws.MakeOwn
import Derived.Laws.OwnMore
import Derived.Laws.Rows
import Derived.Laws.Slices
import Derived.Laws.StructEq
import Derived.Lib.AppendStr
import Derived.Lib.ConvBytes
import Derived.Lib.Hide
import Derived.Maps.AppendAt
import Derived.OrdersHeld
import Derived.Outline
import Derived.OwnWalk
import Derived.RowKit
import Derived.RowKit3
import Derived.Shelf.Abstract
import Derived.Tactics
import Derived.WalkKit
import Derived.WideLaws
import Derived.Test.YtmpondcccbmlhaaProg
import Derived.Test.YtmpondcccbmlhaazP0
import Derived.Test.YtmpondcccbmlhaazP1
import Derived.Test.YtmpondcccbmlhaazP2
import Derived.Test.YtmpondcccbmlhaazP3
import Derived.Test.YtmpondcccbmlhaazP4
import Derived.Test.YtmpondcccbmlhaazP5
import Derived.Test.YtmpondcccbmlhaazP6
import Derived.Test.YtmpondcccbmlhaazP7
import Derived.Test.YtmpondcccbmlhaazP8
import Derived.Test.YtmpondcccbmlhaazP9
import Derived.Test.YtmpondcccbmlhaazP32
import Derived.Test.YtmpondcccbmlhaazP33
namespace Go.Proofs.Ytmpondcccbmlhaa.Ext
open Go.RowKit Go.Proofs.YtmpondcccbmlhaaW.PrintWords Go.Proofs.YtmpondcccbmlhaaW.PrintLast Go.Proofs.YtmpondcccbmlhaaW.PrintMore
theorem wrap_of {x y : Int} (k : Int) (h : x = y + 18446744073709551616 * k) : wrap64 x = wrap64 y := by unfold wrap64; omega
theorem wrap_to (x : Int) : ∃ k : Int, wrap64 x = x + 18446744073709551616 * k := ⟨-((x + 9223372036854775808) / 18446744073709551616), by unfold wrap64; omega⟩
theorem wrap_addr (x y : Int) : wrap64 (x + wrap64 y) = wrap64 (x + y) := by
  obtain ⟨k, h⟩ := wrap_to y
  exact wrap_of k (by rw [h]; omega)
theorem wrap_addl (x y : Int) : wrap64 (wrap64 x + y) = wrap64 (x + y) := by
  obtain ⟨k, h⟩ := wrap_to x
  exact wrap_of k (by rw [h]; omega)
theorem wrap_wrap (x : Int) : wrap64 (wrap64 x) = wrap64 x := by
  obtain ⟨k, h⟩ := wrap_to x
  exact wrap_of k h
end Go.Proofs.Ytmpondcccbmlhaa.Ext
namespace Go.Proofs.Ytmpondcccbmlhaa.Ext
open Go.RowKit Go.Proofs.YtmpondcccbmlhaaW.PrintWords Go.Proofs.YtmpondcccbmlhaaW.PrintLast Go.Proofs.YtmpondcccbmlhaaW.PrintMore
theorem copy_eval (l : List Int) (h : l.length ≤ 17592186044400) : Q.guidevanebase_CopyInts.f l = some l := by
  unfold Q.guidevanebase_CopyInts.f
  simp only [Option.bind_some, List.length_nil, List.nil_append]
  rw [if_pos (by omega)]
theorem bwithin_eval (n lo hi : Int) : Q.guidevanebase_Within.f n lo hi = some (decide (lo ≤ n ∧ n ≤ hi)) := by
  unfold Q.guidevanebase_Within.f
  by_cases h : lo ≤ n <;> simp [h]
theorem shape_eval (n : Int) : Q.guidevaneref06_shapeErr.f n = some (Sp.countErr n) := by
  unfold Q.guidevaneref06_shapeErr.f Sp.countErr
  by_cases h : n < 2
  · rw [if_pos h, if_pos h]
  · rw [if_neg h, if_neg h]
    by_cases h2 : 5 < n
    · rw [if_pos (by omega), if_pos h2]
    · rw [if_neg (by omega), if_neg h2]
theorem coefErr_cases (x : Int) : Sp.coefErr x = 0 ∨ Sp.coefErr x = 2 := by unfold Sp.coefErr; split <;> simp
theorem coefsErr_ok {x : Int} {l : List Int} (h : Sp.coefErr x = 0) : Sp.coefsErr (x :: l) = Sp.coefsErr l := by simp only [Sp.coefsErr]; rw [if_pos h]
theorem coefsErr_bad {x : Int} {l : List Int} (h : ¬ Sp.coefErr x = 0) : Sp.coefsErr (x :: l) = Sp.coefErr x := by simp only [Sp.coefsErr]; rw [if_neg h]
theorem polyErr_loop (p : List Int) (hp : 0 < p.length) (h5 : p.length ≤ 1000) : ∀ (d k i : Nat), p.length - i = d → i ≤ p.length → d < k →
    Q.guidevaneref06_PolynomialErr.l0 k p (i : Int) = some (if Sp.coefsErr (p.drop i) = 0 then (if 0 < p.headD 0 then 0 else 3) else Sp.coefsErr (p.drop i)) := by
  intro d
  induction d with
  | zero =>
    intro k i hd hi hk
    obtain ⟨k, rfl⟩ : ∃ m, k = m + 1 := ⟨k - 1, by omega⟩
    simp only [Q.guidevaneref06_PolynomialErr.l0]
    rw [if_neg (by omega), if_pos (by omega), List.drop_eq_nil_of_le (by omega)]
    have e0 : rd p 0 = p.headD 0 := by
      have := rd_nat p 0
      rw [List.getD_eq_getElem?_getD] at this
      cases p with
      | nil => simp at hp
      | cons x xs => simpa using this
    rw [e0, show Sp.coefsErr [] = 0 from rfl, if_pos rfl]
    by_cases h : 0 < p.headD 0
    · rw [if_neg (by omega), if_pos h]
    · rw [if_pos (by omega), if_neg h]
  | succ d ih =>
    intro k i hd hi hk
    obtain ⟨k, rfl⟩ : ∃ m, k = m + 1 := ⟨k - 1, by omega⟩
    simp only [Q.guidevaneref06_PolynomialErr.l0]
    rw [if_pos (by omega), if_pos (by omega), rd_nat, bwithin_eval]
    simp only [Option.bind_some, decide_eq_true_eq]
    rw [drop_getD p i (by omega)]
    by_cases h : -1000 ≤ p.getD i 0 ∧ p.getD i 0 ≤ 1000
    · have hz : Sp.coefErr (p.getD i 0) = 0 := by unfold Sp.coefErr; rw [if_pos h]
      rw [if_pos h, w64 (by omega) (by omega), show ((i : Int) + 1) = ((i + 1 : Nat) : Int) by omega, ih k (i + 1) (by omega) (by omega) (by omega), coefsErr_ok hz]
    · have hz : Sp.coefErr (p.getD i 0) = 2 := by unfold Sp.coefErr; rw [if_neg h]
      rw [if_neg h, coefsErr_bad (by omega), hz, if_neg (by omega)]
theorem rpolyErr_eval (p : List Int) (k : Nat) (hk : 10 < k) : Q.guidevaneref06_PolynomialErr.f k p = some (Sp.polyErr p) := by
  unfold Q.guidevaneref06_PolynomialErr.f Sp.polyErr
  rw [shape_eval]
  simp only [Option.bind_some]
  by_cases h : Sp.countErr p.length = 0
  · have := countErr_zero h
    have hl := polyErr_loop p (by omega) (by omega) p.length k 0 (by omega) (by omega) (by omega)
    rw [if_pos h, if_pos h]
    exact hl
  · rw [if_neg h, if_neg h]
theorem poly_of {p : List Int} (h : Sp.polyErr p = 0) : 2 ≤ p.length ∧ p.length ≤ 5 ∧ (∀ i, i < p.length → -1000 ≤ p.getD i 0 ∧ p.getD i 0 ≤ 1000) ∧ 0 < p.headD 0 := by
  unfold Sp.polyErr at h
  split at h
  · rename_i h1
    have hc := countErr_zero h1
    split at h
    · rename_i h2
      refine ⟨hc.1, hc.2, ?_, ?_⟩
      · have key : ∀ (l : List Int), Sp.coefsErr l = 0 → ∀ i, i < l.length → -1000 ≤ l.getD i 0 ∧ l.getD i 0 ≤ 1000 := by
          intro l
          induction l with
          | nil => intro _ i hi; simp at hi
          | cons x xs ih =>
            intro hl i hi
            simp only [Sp.coefsErr] at hl
            rcases coefErr_cases x with hx | hx
            · rw [if_pos hx] at hl
              rcases i with _ | i
              · unfold Sp.coefErr at hx
                split at hx
                · simpa using ‹-1000 ≤ x ∧ x ≤ 1000›
                · omega
              · simpa using ih hl i (by simpa using hi)
            · rw [if_neg (by omega)] at hl; omega
        exact key p h2
      · split at h
        · assumption
        · omega
    · rename_i h2; exact absurd h h2
  · rename_i h1; exact absurd h h1
end Go.Proofs.Ytmpondcccbmlhaa.Ext
