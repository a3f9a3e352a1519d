/- A part of the claim P: the texts IdxRows, IdxInts, ExL1, Max, RowsFn, EachRows, without what the claim does not lean on. -/
import Derived.ArgAppend
import Derived.Below
import Derived.BigQuiet
import Derived.Deep.AppendLies
import Derived.Deep.CutBlock
import Derived.Deep.DeepCutAuto
import Derived.Deep.Draws
import Derived.Deep.LoopGhost
import Derived.Deep.OwnRows
import Derived.Deep.QuietTactic
import Derived.Deep.RegionHeld3
import Derived.KernelRfl
import Derived.Laws.BitsLemmas
import Derived.Laws.BytesArg
import Derived.Laws.IdiomCopy
import Derived.Laws.MakeOwn
import Derived.Laws.OwnMore
import Derived.Laws.Rows
import Derived.Laws.Slices
import Derived.Laws.StructEq
import Derived.Lib.AppendStr
import Derived.Lib.ConvBytes
import Derived.Lib.Hide
import Derived.Maps.AppendAt
import Derived.OrdersHeld
import Derived.Outline
import Derived.OwnWalk
import Derived.RowKit
import Derived.RowKit3
import Derived.Shelf.Abstract
import Derived.Tactics
import Derived.WalkKit
import Derived.WideLaws
import Derived.Test.YtmpondcccbmlhaaProg
import Derived.Test.YtmpondcccbmlhaazP0
import Derived.Test.YtmpondcccbmlhaazP1
import Derived.Test.YtmpondcccbmlhaazP2
import Derived.Test.YtmpondcccbmlhaazP3
import Derived.Test.YtmpondcccbmlhaazP4
import Derived.Test.YtmpondcccbmlhaazP5
import Derived.Test.YtmpondcccbmlhaazP6
import Derived.Test.YtmpondcccbmlhaazP7
import Derived.Test.YtmpondcccbmlhaazP8
import Derived.Test.YtmpondcccbmlhaazP9
namespace Go.Proofs.Ytmpondcccbmlhaa.Ext
open Go.RowKit Go.Shelf Go.Proofs.YtmpondcccbmlhaaW.PrintWords Go.Proofs.YtmpondcccbmlhaaW.PrintLast Go.Proofs.YtmpondcccbmlhaaW.PrintMore
def NoneTo (chk : Nat → Bool) (k : Nat) : Prop := ∀ j, j < k → chk j = false
def anyTo (chk : Nat → Bool) (n : Nat) : Bool := (List.range n).any chk
theorem anyTo_hit {chk : Nat → Bool} {n k : Nat} (hk : k < n) (h : chk k = true) : anyTo chk n = true := List.any_eq_true.2 ⟨k, List.mem_range.2 hk, h⟩
theorem anyTo_none {chk : Nat → Bool} {n : Nat} (h : NoneTo chk n) : anyTo chk n = false := by
  rw [anyTo, Bool.eq_false_iff]
  intro h2
  obtain ⟨k, hk, h3⟩ := List.any_eq_true.1 h2
  rw [h k (List.mem_range.1 hk)] at h3; cases h3
set_option maxHeartbeats 1000000 in
theorem index_rows (g : Nat) (lb : Array Value) (eg : ∀ args w, (callFunc g args).run Try.prog w = .ok (.enter g args) w) (chk : Nat → Bool) (A : Option Addr) (n c : Nat) (B : Nat → Option Addr) (L C : Nat → Nat) (w : World)
    (hx : ∀ k, k < n → ∃ ad, A = some ad ∧ w.cell? (ad.add k) = some (.slice (B k) (L k) (C k))) (hn : n ≤ 9223372036854775807)
    (hk : ∀ (W : World) (i : Nat), i < n → NoneTo chk i → Below w.heap.size w W → Calls Try.prog g (#[.slice (B i) (L i) (C i)] ++ lb) W fun e w' => e = .returned (.bool (chk i)) ∧ Below W.heap.size W w') :
    Calls Try.prog 77 #[.slice A n c, .func (.func g) #[] lb] w fun e w' => ∃ v : Int, e = .returned (.int .i64 v) ∧ decide (v ≥ 0) = anyTo chk n ∧ Below w.heap.size w w' := by
  have HX := Lib.hid hx
  have HK := Lib.hid hk
  have EG := Lib.hid eg
  clear hx hk eg
  go_enter Try.func77, Try.ntmps77
  go_wp2_with fail
  go_loopw [8] (fun i wr => ∃ k : Nat, k ≤ n ∧ i = .int .i64 k ∧ Below w.heap.size w wr ∧ NoneTo chk k) (fun i _ => n - (intOf i).toNat)
  case atStart => exact ⟨0, Nat.zero_le _, rfl, Below.refl _ _, fun j hj => absurd hj (by omega)⟩
  case round =>
    obtain ⟨k, hk, rfl, hb, hrest⟩ := hrel
    by_cases hlt : k < n
    · obtain ⟨ad, rfl, hcell⟩ := HX.out k hlt
      have hc0 := pw_cell_below hb hcell
      have hcall := HK.out wr k hlt hrest hb
      have HC := Lib.hid hcall
      have EGO := EG.out
      clear hcall hcell
      by_cases hz : chk k = true
      · have HZ := Lib.hid hz
        clear hz
        go_wp2_with fail
        refine (HC.out).mono ?_
        rintro e w1 ⟨rfl, hb1⟩
        rw [HZ.out]
        go_wp2_with fail
        go_ret
        refine ⟨_, rfl, ?_, hb.trans (hb1.mono hb.size)⟩
        rw [anyTo_hit hlt HZ.out]
        simp
      · have hz : chk k = false := by simpa using hz
        have HZ := Lib.hid hz
        clear hz
        go_wp2_with fail
        refine (HC.out).mono ?_
        rintro e w1 ⟨rfl, hb1⟩
        rw [HZ.out]
        go_wp2_with fail
        go_roundw
        case rel => exact ⟨k + 1, by omega, by go_num, hb.trans (hb1.mono hb.size), fun j hj => by rcases Nat.lt_succ_iff_lt_or_eq.1 hj with h | h; exact hrest j h; rw [h]; exact HZ.out⟩
        case measure => simp [intOf]; omega
    · have hkn : k = n := by omega
      have HR : anyTo chk n = false := anyTo_none (hkn ▸ hrest)
      have H0 := Lib.hid HR
      clear HR hrest hkn
      go_wp2_with fail
      go_ret
      exact ⟨_, rfl, by rw [H0.out]; rfl, hb⟩
theorem contains_rows (g : Nat) (lb : Array Value) (eg : ∀ args w, (callFunc g args).run Try.prog w = .ok (.enter g args) w) (chk : Nat → Bool) (A : Option Addr) (n c : Nat) (B : Nat → Option Addr) (L C : Nat → Nat) (w : World)
    (hx : ∀ k, k < n → ∃ ad, A = some ad ∧ w.cell? (ad.add k) = some (.slice (B k) (L k) (C k))) (hn : n ≤ 9223372036854775807)
    (hk : ∀ (W : World) (i : Nat), i < n → NoneTo chk i → Below w.heap.size w W → Calls Try.prog g (#[.slice (B i) (L i) (C i)] ++ lb) W fun e w' => e = .returned (.bool (chk i)) ∧ Below W.heap.size W w') :
    Calls Try.prog 38 #[.slice A n c, .func (.func g) #[] lb] w fun e w' => e = .returned (.bool (anyTo chk n)) ∧ Below w.heap.size w w' := by
  have HX := Lib.hid hx
  have HK := Lib.hid hk
  have EG := Lib.hid eg
  clear hx hk eg
  go_enter Try.func38, Try.ntmps38
  go_wp2_with fail
  refine (index_rows g lb EG.out chk A n c B L C _ HX.out hn HK.out).mono ?_
  rintro e w1 ⟨v, rfl, hv, hb⟩
  have HV := Lib.hid hv
  clear hv
  go_wp2_with fail
  go_ret
  exact ⟨by rw [← HV.out]; rfl, hb⟩
end Go.Proofs.Ytmpondcccbmlhaa.Ext
namespace Go.Proofs.Ytmpondcccbmlhaa.Ext
open Go.RowKit Go.Shelf Go.Proofs.YtmpondcccbmlhaaW.PrintWords Go.Proofs.YtmpondcccbmlhaaW.PrintLast Go.Proofs.YtmpondcccbmlhaaW.PrintMore
set_option maxHeartbeats 1000000 in
theorem index_ints (g : Nat) (lb : Array Value) (eg : ∀ args w, (callFunc g args).run Try.prog w = .ok (.enter g args) w) (chk : Nat → Bool) (A : Option Addr) (n c : Nat) (V : Nat → Int) (w : World)
    (hx : ∀ k, k < n → ∃ ad, A = some ad ∧ w.cell? (ad.add k) = some (.int .i64 (V k))) (hn : n ≤ 9223372036854775807)
    (hk : ∀ (W : World) (i : Nat), i < n → NoneTo chk i → Below w.heap.size w W → Calls Try.prog g (#[.int .i64 (V i)] ++ lb) W fun e w' => e = .returned (.bool (chk i)) ∧ Below W.heap.size W w') :
    Calls Try.prog 93 #[.slice A n c, .func (.func g) #[] lb] w fun e w' => ∃ v : Int, e = .returned (.int .i64 v) ∧ decide (v ≥ 0) = anyTo chk n ∧ Below w.heap.size w w' := by
  have HX := Lib.hid hx
  have HK := Lib.hid hk
  have EG := Lib.hid eg
  clear hx hk eg
  go_enter Try.func93, Try.ntmps93
  go_wp2_with fail
  go_loopw [8] (fun i wr => ∃ k : Nat, k ≤ n ∧ i = .int .i64 k ∧ Below w.heap.size w wr ∧ NoneTo chk k) (fun i _ => n - (intOf i).toNat)
  case atStart => exact ⟨0, Nat.zero_le _, rfl, Below.refl _ _, fun j hj => absurd hj (by omega)⟩
  case round =>
    obtain ⟨k, hk, rfl, hb, hrest⟩ := hrel
    by_cases hlt : k < n
    · obtain ⟨ad, rfl, hcell⟩ := HX.out k hlt
      have hc0 := pw_cell_below hb hcell
      have hcall := HK.out wr k hlt hrest hb
      have HC := Lib.hid hcall
      have EGO := EG.out
      clear hcall hcell
      by_cases hz : chk k = true
      · have HZ := Lib.hid hz
        clear hz
        go_wp2_with fail
        refine (HC.out).mono ?_
        rintro e w1 ⟨rfl, hb1⟩
        rw [HZ.out]
        go_wp2_with fail
        go_ret
        refine ⟨_, rfl, ?_, hb.trans (hb1.mono hb.size)⟩
        rw [anyTo_hit hlt HZ.out]
        simp
      · have hz : chk k = false := by simpa using hz
        have HZ := Lib.hid hz
        clear hz
        go_wp2_with fail
        refine (HC.out).mono ?_
        rintro e w1 ⟨rfl, hb1⟩
        rw [HZ.out]
        go_wp2_with fail
        go_roundw
        case rel => exact ⟨k + 1, by omega, by go_num, hb.trans (hb1.mono hb.size), fun j hj => by rcases Nat.lt_succ_iff_lt_or_eq.1 hj with h | h; exact hrest j h; rw [h]; exact HZ.out⟩
        case measure => simp [intOf]; omega
    · have hkn : k = n := by omega
      have HR : anyTo chk n = false := anyTo_none (hkn ▸ hrest)
      have H0 := Lib.hid HR
      clear HR hrest hkn
      go_wp2_with fail
      go_ret
      exact ⟨_, rfl, by rw [H0.out]; rfl, hb⟩
theorem contains_ints (g : Nat) (lb : Array Value) (eg : ∀ args w, (callFunc g args).run Try.prog w = .ok (.enter g args) w) (chk : Nat → Bool) (A : Option Addr) (n c : Nat) (V : Nat → Int) (w : World)
    (hx : ∀ k, k < n → ∃ ad, A = some ad ∧ w.cell? (ad.add k) = some (.int .i64 (V k))) (hn : n ≤ 9223372036854775807)
    (hk : ∀ (W : World) (i : Nat), i < n → NoneTo chk i → Below w.heap.size w W → Calls Try.prog g (#[.int .i64 (V i)] ++ lb) W fun e w' => e = .returned (.bool (chk i)) ∧ Below W.heap.size W w') :
    Calls Try.prog 79 #[.slice A n c, .func (.func g) #[] lb] w fun e w' => e = .returned (.bool (anyTo chk n)) ∧ Below w.heap.size w w' := by
  have HX := Lib.hid hx
  have HK := Lib.hid hk
  have EG := Lib.hid eg
  clear hx hk eg
  go_enter Try.func79, Try.ntmps79
  go_wp2_with fail
  refine (index_ints g lb EG.out chk A n c V _ HX.out hn HK.out).mono ?_
  rintro e w1 ⟨v, rfl, hv, hb⟩
  have HV := Lib.hid hv
  clear hv
  go_wp2_with fail
  go_ret
  exact ⟨by rw [← HV.out]; rfl, hb⟩
end Go.Proofs.Ytmpondcccbmlhaa.Ext
namespace Go.Proofs.Ytmpondcccbmlhaa.Ext
open Go.RowKit Go.Shelf Go.Proofs.YtmpondcccbmlhaaW.PrintWords Go.Proofs.YtmpondcccbmlhaaW.PrintLast Go.Proofs.YtmpondcccbmlhaaW.PrintMore
def strange (m : List Int) (i : Nat) : Bool := !decide (-100 ≤ m.getD i 0 ∧ m.getD i 0 ≤ 100)
def rowErr (n : Nat) (m : List Int) : Int := if m.length = n then (if anyTo (strange m) m.length = true then 2 else 0) else 10
set_option maxHeartbeats 2000000 in
set_option maxRecDepth 100000 in
theorem loop_row (i : Int) (B : Option Addr) (C : Nat) (m : List Int) (A : Option Addr) (n c b : Nat) (w : World) (hm : Kd.C (Kd.int .i64) w B m.length m) (hl : m.length ≤ 9223372036854775807) (hb : w.cell? ⟨b, 0, none⟩ = some (.slice A n c)) (r : Int) (hr : r = rowErr n m) :
    Calls Try.prog 78 #[.int .i64 i, .slice B m.length C, .pointer (some ⟨b, 0, none⟩)] w fun e w' => e = .returned (.int .i64 r) ∧ Below w.heap.size w w' := by
  have HM := Lib.hid hm
  obtain ⟨s, hs⟩ : ∃ s, s = anyTo (strange m) m.length := ⟨_, rfl⟩
  have hr2 : r = if m.length = n then (if s = true then 2 else 0) else 10 := by rw [hr, hs]; rfl
  obtain ⟨u, hu⟩ : ∃ u : Int, u = if m.length = n then 0 else 10 := ⟨_, rfl⟩
  obtain ⟨v, hv⟩ : ∃ v : Int, v = if (!s) = true then 0 else 2 := ⟨_, rfl⟩
  have hr3 : r = if u = 0 then v else u := by
    rw [hr2, hu, hv]
    by_cases h1 : m.length = n
    · rw [if_pos h1, if_pos h1]
      cases s <;> rfl
    · rw [if_neg h1, if_neg h1]; rfl
  have HS := Lib.hid hs
  have HU := Lib.hid hu
  have HV := Lib.hid hv
  have HR := Lib.hid hr3
  clear hr hr2 hr3 hu hv hs hm
  go_enter Try.func78, Try.ntmps78
  go_wp2_with fail
  refine (contains_ints 80 #[] (enters_of Try.func80 (by kernel_rfl) rfl) (strange m) B m.length C (fun k => m.getD k 0) _ ?cells hl ?chk).mono ?_
  case cells =>
    intro k hk
    obtain ⟨ad, rfl, h0⟩ := Kd.at_int HM.out (k : Int) (by omega) (by omega)
    rw [rd_nat, Int.toNat_natCast] at h0
    exact ⟨ad, rfl, h0⟩
  case chk =>
    intro W k hk _ hbW
    refine (Q.governor_CheckLoop_1_1.calls (m.getD k 0) (strange m k) W ?_).mono (fun e w' ⟨he, hd⟩ => ⟨he, hd.below⟩)
    unfold Q.governor_CheckLoop_1_1.f
    rw [isSized_eval _ _ (by omega) (by omega)]
    rfl
  rintro e w1 ⟨rfl, hb1⟩
  rw [← HS.out]
  have hc := pw_cell_below hb1 hb
  have HB := Lib.hid hb1
  clear hb1 hb
  go_wp2_with fail
  refine (unless_call _ _ u _ (by rw [HU.out]; by_cases q : m.length = n <;> simp [q]; intro q2; exact absurd (by omega) q)).mono ?_
  rintro e w2 ⟨rfl, hd2⟩
  go_wp2_with fail
  refine (unless_call _ _ v _ (by rw [HV.out])).mono ?_
  rintro e w3 ⟨rfl, hd3⟩
  go_wp2_with fail
  refine (first_lit2 _ _ _ _ r HR.out).mono ?_
  rintro e w4 ⟨rfl, hd4⟩
  go_wp2_with fail
  go_ret
  exact ⟨rfl, bl_drawn (bl_alloc (bl_drawn (bl_drawn HB.out hd2) hd3) _) hd4⟩
end Go.Proofs.Ytmpondcccbmlhaa.Ext
namespace Go.Proofs.Ytmpondcccbmlhaa.Ext
open Go.RowKit Go.Shelf Go.Proofs.YtmpondcccbmlhaaW.PrintWords Go.Proofs.YtmpondcccbmlhaaW.PrintLast Go.Proofs.YtmpondcccbmlhaaW.PrintMore
def maxTo (zs : List Int) : Nat → Int
  | 0 => zs.getD 0 0
  | k + 1 => if maxTo zs k < zs.getD (k + 1) 0 then zs.getD (k + 1) 0 else maxTo zs k
attribute [local go_sem] max2_int in
set_option maxHeartbeats 2000000 in
set_option maxRecDepth 100000 in
theorem max_ints (ad : Addr) (c : Nat) (zs : List Int) (w : World) (hC : Kd.C (Kd.int .i64) w (some ad) zs.length zs) (h0 : 0 < zs.length) (hn : zs.length ≤ 1000000) :
    Calls Try.prog 81 #[.slice (some ad) zs.length c] w fun e w' => e = .returned (.int .i64 (maxTo zs (zs.length - 1))) ∧ Below w.heap.size w w' := by
  have HC := Lib.hid hC
  obtain ⟨ad', e, hx⟩ := Kd.at_int hC (0 : Int) (by omega) (by omega)
  injection e with e
  subst e
  rw [show ((0 : Int)).toNat = 0 from rfl, Addr.add_zero'] at hx
  have hx : w.cell? ad = some (.int .i64 (maxTo zs 0)) := hx
  clear hC
  go_enter Try.func81, Try.ntmps81
  go_wp2_with fail
  clear hx
  go_loopw [3, 4] (fun m i wr => ∃ (j : Nat), 1 ≤ j ∧ j ≤ zs.length ∧ i = .int .i64 (j : Nat) ∧ m = .int .i64 (maxTo zs (j - 1)) ∧ Hid (Below w.heap.size w wr))
    (fun _ i _ => zs.length - (intOf i).toNat)
  case atStart => exact ⟨1, by omega, by omega, rfl, rfl, Lib.hid (Below.refl _ _)⟩
  case round =>
    obtain ⟨j, hj1, hj, rfl, rfl, HB⟩ := hrel
    by_cases hlt : j < zs.length
    · obtain ⟨ad', e, hx⟩ := Kd.at_int HC.out (j : Int) (by omega) (by omega)
      injection e with e
      subst e
      rw [rd_nat, Int.toNat_natCast] at hx
      have kx := pw_cell_below HB.out hx
      have hm : maxTo zs (j - 1 + 1) = if maxTo zs (j - 1) < zs.getD (j - 1 + 1) 0 then zs.getD (j - 1 + 1) 0 else maxTo zs (j - 1) := rfl
      rw [show j - 1 + 1 = j by omega] at hm
      obtain ⟨x, hx2⟩ : ∃ x, x = zs.getD j 0 := ⟨_, rfl⟩
      obtain ⟨y, hy2⟩ : ∃ y, y = maxTo zs (j - 1) := ⟨_, rfl⟩
      rw [← hx2, ← hy2] at hm
      rw [← hx2] at kx
      rw [← hy2]
      have HM := Lib.hid hm
      clear hx hx2 hy2 hm
      by_cases hc : y < x
      · have hc2 : maxTo zs (j + 1 - 1) = x := by rw [Nat.add_sub_cancel, HM.out, if_pos hc]
        have HC2 := Lib.hid hc2
        clear hc2
        go_wp2_with fail
        go_roundw
        case rel => exact ⟨j + 1, by omega, by omega, by go_num, by rw [HC2.out], HB⟩
        case measure => simp [intOf]; omega
      · have hc2 : maxTo zs (j + 1 - 1) = y := by rw [Nat.add_sub_cancel, HM.out, if_neg hc]
        have HC2 := Lib.hid hc2
        clear hc2
        go_wp2_with fail
        go_roundw
        case rel => exact ⟨j + 1, by omega, by omega, by go_num, by rw [HC2.out], HB⟩
        case measure => simp [intOf]; omega
    · have hk1 : j = zs.length := by omega
      have HK1 := Lib.hid hk1
      clear hk1
      go_wp2_with fail
      go_ret
      exact ⟨congrArg (fun q => Ending.returned (.int .i64 (maxTo zs (q - 1)))) HK1.out, HB.out⟩
end Go.Proofs.Ytmpondcccbmlhaa.Ext
namespace Go.Proofs.Ytmpondcccbmlhaa.Ext
open Go.RowKit Go.Shelf Go.Proofs.YtmpondcccbmlhaaW.PrintWords Go.Proofs.YtmpondcccbmlhaaW.PrintLast Go.Proofs.YtmpondcccbmlhaaW.PrintMore
theorem rows_fns {w : World} {A : Option Addr} {xs : List (List Int)} (h : Kd.C (Kd.slice 3 (Kd.int .i64)) w A xs.length xs) :
    ∃ (B : Nat → Option Addr) (C : Nat → Nat), ∀ k, k < xs.length → (∃ ad, A = some ad ∧ w.cell? (ad.add k) = some (.slice (B k) (xs.getD k []).length (C k))) ∧ (xs.getD k []).length ≤ C k ∧ Kd.C (Kd.int .i64) w (B k) (xs.getD k []).length (xs.getD k []) := by
  have H : ∀ k, ∃ BC : Option Addr × Nat, k < xs.length → (∃ ad, A = some ad ∧ w.cell? (ad.add k) = some (.slice BC.1 (xs.getD k []).length BC.2)) ∧ (xs.getD k []).length ≤ BC.2 ∧ Kd.C (Kd.int .i64) w BC.1 (xs.getD k []).length (xs.getD k []) := by
    intro k
    by_cases hk : k < xs.length
    · obtain ⟨ad, A0, c0, hA, hc, hl, hC⟩ := Q.at_L1 h (k : Int) (by omega) (by omega)
      exact ⟨(A0, c0), fun _ => ⟨⟨ad, hA, hc⟩, hl, hC⟩⟩
    · exact ⟨(none, 0), fun h => absurd h hk⟩
  obtain ⟨f, hf⟩ := Classical.skolem.1 H
  exact ⟨fun k => (f k).1, fun k => (f k).2, hf⟩
end Go.Proofs.Ytmpondcccbmlhaa.Ext
namespace Go.Proofs.Ytmpondcccbmlhaa.Ext
open Go.RowKit Go.Shelf Go.Proofs.YtmpondcccbmlhaaW.PrintWords Go.Proofs.YtmpondcccbmlhaaW.PrintLast Go.Proofs.YtmpondcccbmlhaaW.PrintMore
set_option maxHeartbeats 1000000 in
theorem each_rows (g : Nat) (lb : Array Value) (eg : ∀ args w, (callFunc g args).run Try.prog w = .ok (.enter g args) w) (chk : Nat → Int) (A : Option Addr) (n c : Nat) (B : Nat → Option Addr) (L C : Nat → Nat) (w : World)
    (hx : ∀ k, k < n → ∃ ad, A = some ad ∧ w.cell? (ad.add k) = some (.slice (B k) (L k) (C k))) (hn : n ≤ 1000000)
    (hk : ∀ (W : World) (i : Nat), i < n → Below w.heap.size w W → Calls Try.prog g (#[.int .i64 i, .slice (B i) (L i) (C i)] ++ lb) W fun e w' => e = .returned (.int .i64 (chk i)) ∧ Below W.heap.size W w') :
    Calls Try.prog 52 #[.slice A n c, .func (.func g) #[] lb] w fun e w' => e = .returned (.tuple #[.int .i64 (firstBad chk 0 n).1, .int .i64 (firstBad chk 0 n).2]) ∧ Below w.heap.size w w' := by
  have HX := Lib.hid hx
  have HK := Lib.hid hk
  have EG := Lib.hid eg
  clear hx hk eg
  go_enter Try.func52, Try.ntmps52
  go_wp2_with fail
  go_loopw [11] (fun i wr => ∃ k : Nat, k ≤ n ∧ i = .int .i64 k ∧ Below w.heap.size w wr ∧ RestOf chk n k) (fun i _ => n - (intOf i).toNat)
  case atStart => exact ⟨0, Nat.zero_le _, rfl, Below.refl _ _, rfl⟩
  case round =>
    obtain ⟨k, hk, rfl, hb, hrest⟩ := hrel
    by_cases hlt : k < n
    · obtain ⟨ad, rfl, hcell⟩ := HX.out k hlt
      have hc0 := pw_cell_below hb hcell
      have hcall := HK.out wr k hlt hb
      have HC := Lib.hid hcall
      have EGO := EG.out
      clear hcall hcell
      by_cases hz : chk k = 0
      · have HZ := Lib.hid hz
        clear hz
        go_wp2_with fail
        refine (HC.out).mono ?_
        rintro e w1 ⟨rfl, hb1⟩
        rw [HZ.out]
        go_wp2_with fail
        go_roundw
        case rel => exact ⟨k + 1, by omega, by go_num, hb.trans (hb1.mono hb.size), by unfold RestOf at *; rw [hrest, show n - k = (n - (k + 1)) + 1 by omega, firstBad_skip _ _ _ HZ.out]⟩
        case measure => simp [intOf]; omega
      · have HZ := Lib.hid hz
        have hne : (chk k != 0) = true := by simpa using hz
        clear hz
        go_wp2_with fail
        refine (HC.out).mono ?_
        rintro e w1 ⟨rfl, hb1⟩
        go_wp2_with fail
        go_ret2
        refine ⟨?_, hb.trans (hb1.mono hb.size)⟩
        unfold RestOf at hrest
        rw [hrest, show n - k = (n - (k + 1)) + 1 by omega, firstBad_hit _ _ _ HZ.out]
        rfl
    · have hkn : k = n := by omega
      have HR : firstBad chk 0 n = (0, 0) := by unfold RestOf at hrest; rw [hrest, hkn, Nat.sub_self]; rfl
      have H0 := Lib.hid HR
      clear HR hrest hkn
      go_wp2_with fail
      go_ret2
      rw [H0.out]
      exact ⟨rfl, hb⟩
end Go.Proofs.Ytmpondcccbmlhaa.Ext
