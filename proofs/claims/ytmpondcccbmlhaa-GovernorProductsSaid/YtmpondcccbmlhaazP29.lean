/- A part of the claim P: the texts ExQ1, without what the claim does not lean on. -/
import Derived.ArgAppend
import Derived.Below
import Derived.BigQuiet
import Derived.Deep.AppendLies
import Derived.Deep.CutBlock
import Derived.Deep.DeepCutAuto
import Derived.Deep.Draws
import Derived.Deep.LoopGhost
import Derived.Deep.OwnRows
import Derived.Deep.QuietTactic
import Derived.Deep.RegionHeld3
import Derived.KernelRfl
import Derived.Laws.BitsLemmas
import Derived.Laws.BytesArg
import Derived.Laws.ComplexArith
import Derived.Laws.IdiomCopy
import Derived.Laws.MakeOwn
import Derived.Laws.OwnMore
import Derived.Laws.Rows
import Derived.Laws.Slices
import Derived.Laws.StructEq
import Derived.Lib.AppendStr
import Derived.Lib.ConvBytes
import Derived.Lib.Hide
import Derived.Maps.AppendAt
import Derived.OrdersHeld
import Derived.Outline
import Derived.OwnWalk
import Derived.RowKit
import Derived.RowKit3
import Derived.Shelf.Abstract
import Derived.Tactics
import Derived.WalkKit
import Derived.WalkLawsBesides
import Derived.WideLaws
import Derived.Test.YtmpondcccbmlhaaProg
import Derived.Test.YtmpondcccbmlhaazP0
import Derived.Test.YtmpondcccbmlhaazP1
import Derived.Test.YtmpondcccbmlhaazP2
import Derived.Test.YtmpondcccbmlhaazP3
import Derived.Test.YtmpondcccbmlhaazP4
import Derived.Test.YtmpondcccbmlhaazP5
import Derived.Test.YtmpondcccbmlhaazP6
import Derived.Test.YtmpondcccbmlhaazP7
import Derived.Test.YtmpondcccbmlhaazP8
import Derived.Test.YtmpondcccbmlhaazP9
import Derived.Test.YtmpondcccbmlhaazP17
import Derived.Test.YtmpondcccbmlhaazP18
namespace Go.Proofs.Ytmpondcccbmlhaa.Ext
open Go.RowKit Go.Shelf Go.Proofs.YtmpondcccbmlhaaW.PrintWords Go.Proofs.YtmpondcccbmlhaaW.PrintLast Go.Proofs.YtmpondcccbmlhaaW.PrintMore
def gridChk (l : List Int) (i : Nat) : Int := if Sp.freqErr (l.getD i 0) = 0 then (if i = 0 ∨ l.getD (i - 1) 0 < l.getD i 0 then 0 else 9) else Sp.freqErr (l.getD i 0)
theorem gridChk_zero (l : List Int) : gridChk l 0 = Sp.freqErr (l.getD 0 0) := by
  unfold gridChk
  by_cases h : Sp.freqErr (l.getD 0 0) = 0
  · rw [if_pos h, if_pos (.inl rfl), h]
  · rw [if_neg h]
set_option maxHeartbeats 2000000 in
theorem quad1_zero (x : Int) (b : Nat) (w : World) (r : Int) (hr : r = Sp.freqErr x) :
    Calls Try.prog 56 #[.int .i64 0, .int .i64 x, .pointer (some ⟨b, 0, none⟩)] w fun e w' => e = .returned (.int .i64 r) ∧ Below w.heap.size w w' := by
  have HR := Lib.hid hr
  clear hr
  have HE : Hid (r = if r = 0 then 0 else r) := Lib.hid (by by_cases h : r = 0 <;> simp [h])
  go_enter Try.func56, Try.ntmps56
  go_wp2_with fail
  refine (Q.governor_frequencyErr.calls x r _ (by rw [HR.out]; exact freqErr_eval x)).mono ?_
  rintro e w1 ⟨rfl, ⟨n1, rfl⟩⟩
  go_wp2_with fail
  refine (unless_call true 9 0 _ rfl).mono ?_
  rintro e w2 ⟨rfl, ⟨n2, rfl⟩⟩
  go_wp2_with fail
  refine (first_lit2 _ _ _ _ _ HE.out).mono ?_
  rintro e w3 ⟨rfl, hd⟩
  go_wp2_with fail
  go_ret
  exact ⟨rfl, bl_drawn (bl_alloc (bl_drewN (Below.refl _ w) _) _) hd⟩
attribute [local go_sem] max2_int in
set_option maxHeartbeats 2000000 in
theorem quad1_more (A : Addr) (n c : Nat) (j x y : Int) (b : Nat) (w : World) (hc : w.cell? ⟨b, 0, none⟩ = some (.slice (some A) n c)) (hj : 1 ≤ j) (hi : j < n) (hn : n ≤ 1000000)
    (hy : w.cell? (A.add (j.toNat - 1)) = some (.int .i64 y)) (r : Int) (hr : r = if Sp.freqErr x = 0 then (if y < x then 0 else 9) else Sp.freqErr x) :
    Calls Try.prog 56 #[.int .i64 j, .int .i64 x, .pointer (some ⟨b, 0, none⟩)] w fun e w' => e = .returned (.int .i64 r) ∧ Below w.heap.size w w' := by
  obtain ⟨f, hf⟩ : ∃ f, f = Sp.freqErr x := ⟨_, rfl⟩
  obtain ⟨u, hu⟩ : ∃ u : Int, u = if decide (y < x) = true then 0 else 9 := ⟨_, rfl⟩
  have HF := Lib.hid hf
  have HU := Lib.hid hu
  have HE : Hid (r = if f = 0 then u else f) := Lib.hid (by rw [hr, hu, ← hf]; simp only [decide_eq_true_eq])
  have h0 : (j == 0) = false := by rw [beq_eq_false_iff_ne]; omega
  have hyA : j ≤ 1 → w.cell? A = some (.int .i64 y) := fun h => by rw [show j.toNat - 1 = 0 by omega, Addr.add_zero'] at hy; exact hy
  have HYA := Lib.hid hyA
  clear hr hf hu hyA
  rcases (by omega : j ≤ 1 ∨ 1 < j) with h1 | h1
  all_goals
   (first | have hyb := HYA.out h1 | skip)
   go_enter Try.func56, Try.ntmps56
   go_wp2_with fail
   refine (Q.governor_frequencyErr.calls x f _ (by rw [HF.out]; exact freqErr_eval x)).mono ?_
   rintro e w1 ⟨rfl, ⟨n1, rfl⟩⟩
   go_wp2_with fail
   refine (unless_call _ 9 u _ HU.out).mono ?_
   rintro e w2 ⟨rfl, ⟨n2, rfl⟩⟩
   go_wp2_with fail
   refine (first_lit2 _ _ _ _ _ HE.out).mono ?_
   rintro e w3 ⟨rfl, hd⟩
   go_wp2_with fail
   go_ret
   exact ⟨rfl, bl_drawn (bl_alloc (bl_drewN (Below.refl _ w) _) _) hd⟩
end Go.Proofs.Ytmpondcccbmlhaa.Ext
