/- A part of the claim M: the texts IdxRows, RowsFn, without what the claim does not lean on. -/
import Derived.ArgAppend
import Derived.Below
import Derived.BigQuiet
import Derived.Deep.AppendLies
import Derived.Deep.CutBlock
import Derived.Deep.DeepCutAuto
import Derived.Deep.Draws
import Derived.Deep.LoopGhost
import Derived.Deep.OwnRows
import Derived.Deep.QuietTactic
import Derived.Deep.RegionHeld3
import Derived.KernelRfl
import Derived.Laws.BitsLemmas
import Derived.Laws.BytesArg
import Derived.Laws.IdiomCopy
import Derived.Laws.MakeOwn
import Derived.Laws.OwnMore
import Derived.Laws.Rows
import Derived.Laws.Slices
import Derived.Laws.StructEq
import Derived.Lib.AppendStr
import Derived.Lib.ConvBytes
import Derived.Lib.Hide
import Derived.Maps.AppendAt
import Derived.OrdersHeld
import Derived.Outline
import Derived.OwnWalk
import Derived.RowKit
import Derived.RowKit3
import Derived.Shelf.Abstract
import Derived.Tactics
import Derived.WalkKit
import Derived.WideLaws
import Derived.Test.YtmpondcccbmlhaaGreatProg
import Derived.Test.YtmpondcccbmlhaaGreatzM0
import Derived.Test.YtmpondcccbmlhaaGreatzM1
import Derived.Test.YtmpondcccbmlhaaGreatzM2
import Derived.Test.YtmpondcccbmlhaaGreatzM3
import Derived.Test.YtmpondcccbmlhaaGreatzM4
import Derived.Test.YtmpondcccbmlhaaGreatzM5
import Derived.Test.YtmpondcccbmlhaaGreatzM6
import Derived.Test.YtmpondcccbmlhaaGreatzM7
import Derived.Test.YtmpondcccbmlhaaGreatzM8
import Derived.Test.YtmpondcccbmlhaaGreatzM9
import Derived.Test.YtmpondcccbmlhaaGreatzM10
namespace Go.Proofs.YtmpondcccbmlhaaGreat.Ext
open Go.RowKit Go.Shelf Go.Proofs.YtmpondcccbmlhaaGreatW.PrintWords Go.Proofs.YtmpondcccbmlhaaGreatW.PrintLast Go.Proofs.YtmpondcccbmlhaaGreatW.PrintMore
def NoneTo (chk : Nat → Bool) (k : Nat) : Prop := ∀ j, j < k → chk j = false
def anyTo (chk : Nat → Bool) (n : Nat) : Bool := (List.range n).any chk
theorem anyTo_hit {chk : Nat → Bool} {n k : Nat} (hk : k < n) (h : chk k = true) : anyTo chk n = true := List.any_eq_true.2 ⟨k, List.mem_range.2 hk, h⟩
theorem anyTo_none {chk : Nat → Bool} {n : Nat} (h : NoneTo chk n) : anyTo chk n = false := by
  rw [anyTo, Bool.eq_false_iff]
  intro h2
  obtain ⟨k, hk, h3⟩ := List.any_eq_true.1 h2
  rw [h k (List.mem_range.1 hk)] at h3; cases h3
set_option maxHeartbeats 1000000 in
theorem index_rows (g : Nat) (lb : Array Value) (eg : ∀ args w, (callFunc g args).run Tryz.prog w = .ok (.enter g args) w) (chk : Nat → Bool) (A : Option Addr) (n c : Nat) (B : Nat → Option Addr) (L C : Nat → Nat) (w : World)
    (hx : ∀ k, k < n → ∃ ad, A = some ad ∧ w.cell? (ad.add k) = some (.slice (B k) (L k) (C k))) (hn : n ≤ 9223372036854775807)
    (hk : ∀ (W : World) (i : Nat), i < n → NoneTo chk i → Below w.heap.size w W → Calls Tryz.prog g (#[.slice (B i) (L i) (C i)] ++ lb) W fun e w' => e = .returned (.bool (chk i)) ∧ Below W.heap.size W w') :
    Calls Tryz.prog 151 #[.slice A n c, .func (.func g) #[] lb] w fun e w' => ∃ v : Int, e = .returned (.int .i64 v) ∧ decide (v ≥ 0) = anyTo chk n ∧ Below w.heap.size w w' := by
  have HX := Lib.hid hx
  have HK := Lib.hid hk
  have EG := Lib.hid eg
  clear hx hk eg
  go_enter Tryz.func151, Tryz.ntmps151
  go_wp2_with fail
  go_loopw [8] (fun i wr => ∃ k : Nat, k ≤ n ∧ i = .int .i64 k ∧ Below w.heap.size w wr ∧ NoneTo chk k) (fun i _ => n - (intOf i).toNat)
  case atStart => exact ⟨0, Nat.zero_le _, rfl, Below.refl _ _, fun j hj => absurd hj (by omega)⟩
  case round =>
    obtain ⟨k, hk, rfl, hb, hrest⟩ := hrel
    by_cases hlt : k < n
    · obtain ⟨ad, rfl, hcell⟩ := HX.out k hlt
      have hc0 := pw_cell_below hb hcell
      have hcall := HK.out wr k hlt hrest hb
      have HC := Lib.hid hcall
      have EGO := EG.out
      clear hcall hcell
      by_cases hz : chk k = true
      · have HZ := Lib.hid hz
        clear hz
        go_wp2_with fail
        refine (HC.out).mono ?_
        rintro e w1 ⟨rfl, hb1⟩
        rw [HZ.out]
        go_wp2_with fail
        go_ret
        refine ⟨_, rfl, ?_, hb.trans (hb1.mono hb.size)⟩
        rw [anyTo_hit hlt HZ.out]
        simp
      · have hz : chk k = false := by simpa using hz
        have HZ := Lib.hid hz
        clear hz
        go_wp2_with fail
        refine (HC.out).mono ?_
        rintro e w1 ⟨rfl, hb1⟩
        rw [HZ.out]
        go_wp2_with fail
        go_roundw
        case rel => exact ⟨k + 1, by omega, by go_num, hb.trans (hb1.mono hb.size), fun j hj => by rcases Nat.lt_succ_iff_lt_or_eq.1 hj with h | h; exact hrest j h; rw [h]; exact HZ.out⟩
        case measure => simp [intOf]; omega
    · have hkn : k = n := by omega
      have HR : anyTo chk n = false := anyTo_none (hkn ▸ hrest)
      have H0 := Lib.hid HR
      clear HR hrest hkn
      go_wp2_with fail
      go_ret
      exact ⟨_, rfl, by rw [H0.out]; rfl, hb⟩
theorem contains_rows (g : Nat) (lb : Array Value) (eg : ∀ args w, (callFunc g args).run Tryz.prog w = .ok (.enter g args) w) (chk : Nat → Bool) (A : Option Addr) (n c : Nat) (B : Nat → Option Addr) (L C : Nat → Nat) (w : World)
    (hx : ∀ k, k < n → ∃ ad, A = some ad ∧ w.cell? (ad.add k) = some (.slice (B k) (L k) (C k))) (hn : n ≤ 9223372036854775807)
    (hk : ∀ (W : World) (i : Nat), i < n → NoneTo chk i → Below w.heap.size w W → Calls Tryz.prog g (#[.slice (B i) (L i) (C i)] ++ lb) W fun e w' => e = .returned (.bool (chk i)) ∧ Below W.heap.size W w') :
    Calls Tryz.prog 107 #[.slice A n c, .func (.func g) #[] lb] w fun e w' => e = .returned (.bool (anyTo chk n)) ∧ Below w.heap.size w w' := by
  have HX := Lib.hid hx
  have HK := Lib.hid hk
  have EG := Lib.hid eg
  clear hx hk eg
  go_enter Tryz.func107, Tryz.ntmps107
  go_wp2_with fail
  refine (index_rows g lb EG.out chk A n c B L C _ HX.out hn HK.out).mono ?_
  rintro e w1 ⟨v, rfl, hv, hb⟩
  have HV := Lib.hid hv
  clear hv
  go_wp2_with fail
  go_ret
  exact ⟨by rw [← HV.out]; rfl, hb⟩
end Go.Proofs.YtmpondcccbmlhaaGreat.Ext
namespace Go.Proofs.YtmpondcccbmlhaaGreat.Ext
open Go.RowKit Go.Shelf Go.Proofs.YtmpondcccbmlhaaGreatW.PrintWords Go.Proofs.YtmpondcccbmlhaaGreatW.PrintLast Go.Proofs.YtmpondcccbmlhaaGreatW.PrintMore
theorem rows_fns {w : World} {A : Option Addr} {xs : List (List Int)} (h : Kd.C (Kd.slice 3 (Kd.int .i64)) w A xs.length xs) :
    ∃ (B : Nat → Option Addr) (C : Nat → Nat), ∀ k, k < xs.length → (∃ ad, A = some ad ∧ w.cell? (ad.add k) = some (.slice (B k) (xs.getD k []).length (C k))) ∧ (xs.getD k []).length ≤ C k ∧ Kd.C (Kd.int .i64) w (B k) (xs.getD k []).length (xs.getD k []) := by
  have H : ∀ k, ∃ BC : Option Addr × Nat, k < xs.length → (∃ ad, A = some ad ∧ w.cell? (ad.add k) = some (.slice BC.1 (xs.getD k []).length BC.2)) ∧ (xs.getD k []).length ≤ BC.2 ∧ Kd.C (Kd.int .i64) w BC.1 (xs.getD k []).length (xs.getD k []) := by
    intro k
    by_cases hk : k < xs.length
    · obtain ⟨ad, A0, c0, hA, hc, hl, hC⟩ := Q.at_L2 h (k : Int) (by omega) (by omega)
      exact ⟨(A0, c0), fun _ => ⟨⟨ad, hA, hc⟩, hl, hC⟩⟩
    · exact ⟨(none, 0), fun h => absurd h hk⟩
  obtain ⟨f, hf⟩ := Classical.skolem.1 H
  exact ⟨fun k => (f k).1, fun k => (f k).2, hf⟩
end Go.Proofs.YtmpondcccbmlhaaGreat.Ext
