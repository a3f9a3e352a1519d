/- A part of the claim P: the texts EachInt, without what the claim does not lean on. -/
import Derived.ArgAppend
import Derived.Below
import Derived.BigQuiet
import Derived.Deep.AppendLies
import Derived.Deep.CutBlock
import Derived.Deep.DeepCutAuto
import Derived.Deep.Draws
import Derived.Deep.LoopGhost
import Derived.Deep.OwnRows
import Derived.Deep.QuietTactic
import Derived.Deep.RegionHeld3
import Derived.KernelRfl
import Derived.Laws.BitsLemmas
import Derived.Laws.BytesArg
import Derived.Laws.IdiomCopy
import Derived.Laws.MakeOwn
import Derived.Laws.OwnMore
import Derived.Laws.Rows
import Derived.Laws.Slices
import Derived.Laws.StructEq
import Derived.Lib.AppendStr
import Derived.Lib.ConvBytes
import Derived.Lib.Hide
import Derived.Maps.AppendAt
import Derived.OrdersHeld
import Derived.Outline
import Derived.OwnWalk
import Derived.RowKit
import Derived.RowKit3
import Derived.Shelf.Abstract
import Derived.Tactics
import Derived.WalkKit
import Derived.WideLaws
import Derived.Test.YtmpondcccbmlhaaProg
import Derived.Test.YtmpondcccbmlhaazP0
import Derived.Test.YtmpondcccbmlhaazP1
import Derived.Test.YtmpondcccbmlhaazP2
import Derived.Test.YtmpondcccbmlhaazP3
import Derived.Test.YtmpondcccbmlhaazP4
import Derived.Test.YtmpondcccbmlhaazP5
import Derived.Test.YtmpondcccbmlhaazP6
namespace Go.Proofs.Ytmpondcccbmlhaa.Ext
open Go.RowKit Go.Shelf Go.Proofs.YtmpondcccbmlhaaW.PrintWords Go.Proofs.YtmpondcccbmlhaaW.PrintLast Go.Proofs.YtmpondcccbmlhaaW.PrintMore
def firstBad (chk : Nat → Int) : Nat → Nat → Int × Int
  | _, 0 => (0, 0)
  | i, d + 1 => if chk i = 0 then firstBad chk (i + 1) d else ((i : Int), chk i)
theorem firstBad_skip (chk : Nat → Int) (i d : Nat) (h : chk i = 0) : firstBad chk i (d + 1) = firstBad chk (i + 1) d := by
  simp [firstBad, h]
theorem firstBad_hit (chk : Nat → Int) (i d : Nat) (h : ¬ chk i = 0) : firstBad chk i (d + 1) = ((i : Int), chk i) := by
  simp [firstBad, h]
def RestOf (chk : Nat → Int) (n k : Nat) : Prop := firstBad chk 0 n = firstBad chk k (n - k)
set_option maxHeartbeats 1000000 in
theorem each_int (g : Nat) (lb : Array Value) (eg : ∀ args w, (callFunc g args).run Try.prog w = .ok (.enter g args) w) (chk : Nat → Int) (A : Option Addr) (n c : Nat) (xs : List Int) (w : World)
    (hx : Kd.C (Kd.int .i64) w A n xs) (hn : n ≤ 1000000)
    (hk : ∀ (W : World) (i : Nat), i < n → Below w.heap.size w W → Calls Try.prog g (#[.int .i64 i, .int .i64 (xs.getD i 0)] ++ lb) W fun e w' => e = .returned (.int .i64 (chk i)) ∧ Below W.heap.size W w') :
    Calls Try.prog 46 #[.slice A n c, .func (.func g) #[] lb] w fun e w' => e = .returned (.tuple #[.int .i64 (firstBad chk 0 n).1, .int .i64 (firstBad chk 0 n).2]) ∧ Below w.heap.size w w' := by
  have HX := Lib.hid hx
  have HK := Lib.hid hk
  have EG := Lib.hid eg
  clear hx hk eg
  go_enter Try.func46, Try.ntmps46
  go_wp2_with fail
  go_loopw [11] (fun i wr => ∃ k : Nat, k ≤ n ∧ i = .int .i64 k ∧ Below w.heap.size w wr ∧ RestOf chk n k) (fun i _ => n - (intOf i).toNat)
  case atStart => exact ⟨0, Nat.zero_le _, rfl, Below.refl _ _, rfl⟩
  case round =>
    obtain ⟨k, hk, rfl, hb, hrest⟩ := hrel
    by_cases hlt : k < n
    · obtain ⟨ad, cc, rfl, _, hK, hcell⟩ := Kd.C_get HX.out 0 (k : Int) (by omega) (by omega)
      obtain rfl : cc = [.int .i64 (xs.getD k 0)] := hK
      have hc0 : wr.cell? (ad.add k) = some (.int .i64 (xs.getD k 0)) := pw_cell_below hb (by have h0 := hcell 0 _ rfl; simpa [Kd.int, Kd.scalar] using h0)
      have hcall := HK.out wr k hlt hb
      have HC := Lib.hid hcall
      have EGO := EG.out
      clear hcall hcell
      by_cases hz : chk k = 0
      · have HZ := Lib.hid hz
        clear hz
        go_wp2_with fail
        refine (HC.out).mono ?_
        rintro e w1 ⟨rfl, hb1⟩
        rw [HZ.out]
        go_wp2_with fail
        go_roundw
        case rel => exact ⟨k + 1, by omega, by go_num, hb.trans (hb1.mono hb.size), by unfold RestOf at *; rw [hrest, show n - k = (n - (k + 1)) + 1 by omega, firstBad_skip _ _ _ HZ.out]⟩
        case measure => simp [intOf]; omega
      · have HZ := Lib.hid hz
        have hne : (chk k != 0) = true := by simpa using hz
        clear hz
        go_wp2_with fail
        refine (HC.out).mono ?_
        rintro e w1 ⟨rfl, hb1⟩
        go_wp2_with fail
        go_ret2
        refine ⟨?_, hb.trans (hb1.mono hb.size)⟩
        unfold RestOf at hrest
        rw [hrest, show n - k = (n - (k + 1)) + 1 by omega, firstBad_hit _ _ _ HZ.out]
        rfl
    · have hkn : k = n := by omega
      have HR : firstBad chk 0 n = (0, 0) := by unfold RestOf at hrest; rw [hrest, hkn, Nat.sub_self]; rfl
      have H0 := Lib.hid HR
      clear HR hrest hkn
      go_wp2_with fail
      go_ret2
      rw [H0.out]
      exact ⟨rfl, hb⟩
end Go.Proofs.Ytmpondcccbmlhaa.Ext
