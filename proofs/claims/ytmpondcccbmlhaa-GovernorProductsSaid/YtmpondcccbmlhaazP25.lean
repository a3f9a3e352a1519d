/- A part of the claim P: the texts EachTwo, ExB, without what the claim does not lean on. -/
import Derived.ArgAppend
import Derived.Below
import Derived.BigQuiet
import Derived.Deep.AppendLies
import Derived.Deep.CutBlock
import Derived.Deep.DeepCutAuto
import Derived.Deep.Draws
import Derived.Deep.LoopGhost
import Derived.Deep.OwnRows
import Derived.Deep.QuietTactic
import Derived.Deep.RegionHeld3
import Derived.KernelRfl
import Derived.Laws.BitsLemmas
import Derived.Laws.BytesArg
import Derived.Laws.IdiomCopy
import Derived.Laws.MakeOwn
import Derived.Laws.OwnMore
import Derived.Laws.Rows
import Derived.Laws.Slices
import Derived.Laws.StructEq
import Derived.Lib.AppendStr
import Derived.Lib.ConvBytes
import Derived.Lib.Hide
import Derived.Maps.AppendAt
import Derived.OrdersHeld
import Derived.Outline
import Derived.OwnWalk
import Derived.RowKit
import Derived.RowKit3
import Derived.Shelf.Abstract
import Derived.Tactics
import Derived.WalkKit
import Derived.WideLaws
import Derived.Test.YtmpondcccbmlhaaProg
import Derived.Test.YtmpondcccbmlhaazP0
import Derived.Test.YtmpondcccbmlhaazP1
import Derived.Test.YtmpondcccbmlhaazP2
import Derived.Test.YtmpondcccbmlhaazP3
import Derived.Test.YtmpondcccbmlhaazP4
import Derived.Test.YtmpondcccbmlhaazP5
import Derived.Test.YtmpondcccbmlhaazP6
import Derived.Test.YtmpondcccbmlhaazP7
import Derived.Test.YtmpondcccbmlhaazP8
import Derived.Test.YtmpondcccbmlhaazP9
namespace Go.Proofs.Ytmpondcccbmlhaa.Ext
open Go.RowKit Go.Shelf Go.Proofs.YtmpondcccbmlhaaW.PrintWords Go.Proofs.YtmpondcccbmlhaaW.PrintLast Go.Proofs.YtmpondcccbmlhaaW.PrintMore
set_option maxHeartbeats 1000000 in
theorem each_range (g : Nat) (lb : Array Value) (eg : ∀ args w, (callFunc g args).run Try.prog w = .ok (.enter g args) w) (chk : Nat → Int) (A : Option Addr) (n c : Nat) (v0 : Nat → Int) (v1 : Nat → Int) (w : World)
    (hx : ∀ k, k < n → ∃ ad, A = some ad ∧ w.cell? (ad.add (k * 2)) = some (.int .i64 (v0 k)) ∧ w.cell? ⟨(ad.add (k * 2)).block, (ad.add (k * 2)).off + 1, none⟩ = some (.int .i64 (v1 k))) (hn : n ≤ 1000000)
    (hk : ∀ (W : World) (i : Nat), i < n → Below w.heap.size w W → Calls Try.prog g (#[.int .i64 i, .agg #[.int .i64 (v0 i), .int .i64 (v1 i)]] ++ lb) W fun e w' => e = .returned (.int .i64 (chk i)) ∧ Below W.heap.size W w') :
    Calls Try.prog 75 #[.slice A n c, .func (.func g) #[] lb] w fun e w' => e = .returned (.tuple #[.int .i64 (firstBad chk 0 n).1, .int .i64 (firstBad chk 0 n).2]) ∧ Below w.heap.size w w' := by
  have HX := Lib.hid hx
  have HK := Lib.hid hk
  have EG := Lib.hid eg
  clear hx hk eg
  go_enter Try.func75, Try.ntmps75
  go_wp2_with fail
  go_loopw [11] (fun i wr => ∃ k : Nat, k ≤ n ∧ i = .int .i64 k ∧ Below w.heap.size w wr ∧ RestOf chk n k) (fun i _ => n - (intOf i).toNat)
  case atStart => exact ⟨0, Nat.zero_le _, rfl, Below.refl _ _, rfl⟩
  case round =>
    obtain ⟨k, hk, rfl, hb, hrest⟩ := hrel
    by_cases hlt : k < n
    · obtain ⟨ad, rfl, hc0, hc1⟩ := HX.out k hlt
      have hb2 : Below w.heap.size w (wr.alloc (.cells #[.int .i64 (v0 k), .int .i64 (v1 k)] 39)) := hb.alloc hb.size _
      have h0 := pw_cell_below hb hc0
      have h1 := pw_cell_below hb hc1
      have hcall := HK.out _ k hlt hb2
      have HC := Lib.hid hcall
      have EGO := EG.out
      have HB2 := Lib.hid hb2
      clear hcall hc0 hc1 hb2
      by_cases hz : chk k = 0
      · have HZ := Lib.hid hz
        clear hz
        go_wp2_with fail
        refine (HC.out).mono ?_
        rintro e w1 ⟨rfl, hb1⟩
        rw [HZ.out]
        go_wp2_with fail
        go_roundw
        case rel => exact ⟨k + 1, by omega, by go_num, HB2.out.trans (hb1.mono HB2.out.size), by unfold RestOf at *; rw [hrest, show n - k = (n - (k + 1)) + 1 by omega, firstBad_skip _ _ _ HZ.out]⟩
        case measure => simp [intOf]; omega
      · have HZ := Lib.hid hz
        have hne : (chk k != 0) = true := by simpa using hz
        clear hz
        go_wp2_with fail
        refine (HC.out).mono ?_
        rintro e w1 ⟨rfl, hb1⟩
        go_wp2_with fail
        go_ret2
        refine ⟨?_, HB2.out.trans (hb1.mono HB2.out.size)⟩
        unfold RestOf at hrest
        rw [hrest, show n - k = (n - (k + 1)) + 1 by omega, firstBad_hit _ _ _ HZ.out]
        rfl
    · have hkn : k = n := by omega
      have HR : firstBad chk 0 n = (0, 0) := by unfold RestOf at hrest; rw [hrest, hkn, Nat.sub_self]; rfl
      have H0 := Lib.hid HR
      clear HR hrest hkn
      go_wp2_with fail
      go_ret2
      rw [H0.out]
      exact ⟨rfl, hb⟩
set_option maxHeartbeats 1000000 in
theorem each_reading (g : Nat) (lb : Array Value) (eg : ∀ args w, (callFunc g args).run Try.prog w = .ok (.enter g args) w) (chk : Nat → Int) (A : Option Addr) (n c : Nat) (v0 : Nat → Int) (v1 : Nat → Bool) (w : World)
    (hx : ∀ k, k < n → ∃ ad, A = some ad ∧ w.cell? (ad.add (k * 2)) = some (.int .i64 (v0 k)) ∧ w.cell? ⟨(ad.add (k * 2)).block, (ad.add (k * 2)).off + 1, none⟩ = some (.bool (v1 k))) (hn : n ≤ 1000000)
    (hk : ∀ (W : World) (i : Nat), i < n → Below w.heap.size w W → Calls Try.prog g (#[.int .i64 i, .agg #[.int .i64 (v0 i), .bool (v1 i)]] ++ lb) W fun e w' => e = .returned (.int .i64 (chk i)) ∧ Below W.heap.size W w') :
    Calls Try.prog 60 #[.slice A n c, .func (.func g) #[] lb] w fun e w' => e = .returned (.tuple #[.int .i64 (firstBad chk 0 n).1, .int .i64 (firstBad chk 0 n).2]) ∧ Below w.heap.size w w' := by
  have HX := Lib.hid hx
  have HK := Lib.hid hk
  have EG := Lib.hid eg
  clear hx hk eg
  go_enter Try.func60, Try.ntmps60
  go_wp2_with fail
  go_loopw [11] (fun i wr => ∃ k : Nat, k ≤ n ∧ i = .int .i64 k ∧ Below w.heap.size w wr ∧ RestOf chk n k) (fun i _ => n - (intOf i).toNat)
  case atStart => exact ⟨0, Nat.zero_le _, rfl, Below.refl _ _, rfl⟩
  case round =>
    obtain ⟨k, hk, rfl, hb, hrest⟩ := hrel
    by_cases hlt : k < n
    · obtain ⟨ad, rfl, hc0, hc1⟩ := HX.out k hlt
      have hb2 : Below w.heap.size w (wr.alloc (.cells #[.int .i64 (v0 k), .bool (v1 k)] 64)) := hb.alloc hb.size _
      have h0 := pw_cell_below hb hc0
      have h1 := pw_cell_below hb hc1
      have hcall := HK.out _ k hlt hb2
      have HC := Lib.hid hcall
      have EGO := EG.out
      have HB2 := Lib.hid hb2
      clear hcall hc0 hc1 hb2
      by_cases hz : chk k = 0
      · have HZ := Lib.hid hz
        clear hz
        go_wp2_with fail
        refine (HC.out).mono ?_
        rintro e w1 ⟨rfl, hb1⟩
        rw [HZ.out]
        go_wp2_with fail
        go_roundw
        case rel => exact ⟨k + 1, by omega, by go_num, HB2.out.trans (hb1.mono HB2.out.size), by unfold RestOf at *; rw [hrest, show n - k = (n - (k + 1)) + 1 by omega, firstBad_skip _ _ _ HZ.out]⟩
        case measure => simp [intOf]; omega
      · have HZ := Lib.hid hz
        have hne : (chk k != 0) = true := by simpa using hz
        clear hz
        go_wp2_with fail
        refine (HC.out).mono ?_
        rintro e w1 ⟨rfl, hb1⟩
        go_wp2_with fail
        go_ret2
        refine ⟨?_, HB2.out.trans (hb1.mono HB2.out.size)⟩
        unfold RestOf at hrest
        rw [hrest, show n - k = (n - (k + 1)) + 1 by omega, firstBad_hit _ _ _ HZ.out]
        rfl
    · have hkn : k = n := by omega
      have HR : firstBad chk 0 n = (0, 0) := by unfold RestOf at hrest; rw [hrest, hkn, Nat.sub_self]; rfl
      have H0 := Lib.hid HR
      clear HR hrest hkn
      go_wp2_with fail
      go_ret2
      rw [H0.out]
      exact ⟨rfl, hb⟩
end Go.Proofs.Ytmpondcccbmlhaa.Ext
namespace Go.Proofs.Ytmpondcccbmlhaa.Ext
open Go.RowKit Go.Shelf Go.Proofs.YtmpondcccbmlhaaW.PrintWords Go.Proofs.YtmpondcccbmlhaaW.PrintLast Go.Proofs.YtmpondcccbmlhaaW.PrintMore
open Q (S39 z39 k39)
def rangeErr (r : S39) : Int := if Sp.coefErr r.f0 = 0 then (if Sp.coefErr r.f1 = 0 then (if r.f0 ≤ r.f1 then 0 else 9) else Sp.coefErr r.f1) else Sp.coefErr r.f0
def rangeAt (l : List S39) (i : Nat) : Int := rangeErr (l.getD i z39)
def boxErr (l : List S39) : Int × Int :=
  if Sp.countErr l.length = 0 then (if (firstBad (rangeAt l) 0 l.length).2 = 0 then (0, if 0 < (l.getD 0 z39).f0 then 0 else 3) else firstBad (rangeAt l) 0 l.length) else (0, Sp.countErr l.length)
def governor_CheckBox.f (l0 : List S39) : Option (Int × Int) := some (boxErr l0)
theorem cb1_eval (i a b : Int) : Q.governor_CheckBox_1.f 4 i a b = some (if Sp.coefErr a = 0 then (if Sp.coefErr b = 0 then (if a ≤ b then 0 else 9) else Sp.coefErr b) else Sp.coefErr a) := by
  unfold Q.governor_CheckBox_1.f
  simp only [coefErr_eval, Option.bind_some, unless_eval, first3_eval _ _ _ 4 (by omega), decide_eq_true_eq]
set_option maxHeartbeats 2000000 in
theorem governor_CheckBox.calls (A0 : Option Addr) (c0 : Nat) (l0 : List S39) (r1 r2 : Int) (w : World) (hr0 : Kd.C k39 w A0 l0.length l0) (_hc0 : l0.length ≤ c0) (h : governor_CheckBox.f l0 = some (r1, r2)) :
    Calls Try.prog 37 #[.agg #[.slice A0 l0.length c0]] w fun e w' => e = .returned (.tuple #[.int .i64 r1, .int .i64 r2]) ∧ Below w.heap.size w w' := by
  have hb : boxErr l0 = (r1, r2) := Option.some.inj h
  obtain ⟨ce, hce⟩ : ∃ ce, ce = Sp.countErr l0.length := ⟨_, rfl⟩
  have HR := Lib.hid hr0
  have HCE := Lib.hid hce
  unfold boxErr at hb
  rw [← hce] at hb
  have HBX := Lib.hid hb
  clear h hr0 hb hce
  by_cases hz : ce = 0
  · have hl := countErr_zero (HCE.out.symm.trans hz)
    have hb2 := HBX.out
    rw [if_pos hz] at hb2
    have HB2 := Lib.hid hb2
    clear hb2 HBX
    subst hz
    go_enter Try.func37, Try.ntmps37
    go_wp2_with fail
    refine (Q.governor_countErr.calls 3 _ 0 _ (by rw [HCE.out]; exact countErr_eval _ 3 (by omega))).mono ?_
    rintro e w1 ⟨rfl, hb1⟩
    have hcell := (hb1.cell (p := ⟨w.heap.size, 0, none⟩) (by simp)).trans (by simp : _ = some (Value.slice A0 l0.length c0))
    have hbb : Below w.heap.size w w1 := bl_next (bl_alloc (Below.refl _ w) _) hb1
    clear hb1
    go_wp2_with fail
    refine (each_range 76 #[] (enters_of Try.func76 (by kernel_rfl) rfl) (rangeAt l0) A0 l0.length c0 (fun i => (l0.getD i z39).f0) (fun i => (l0.getD i z39).f1) _ ?cells (by omega)
      (fun W i _ _ => Q.governor_CheckBox_1.calls 4 i _ _ _ W (cb1_eval _ _ _))).mono ?_
    case cells =>
      intro k hk
      obtain ⟨ad, rfl, h0, h1⟩ := Q.at_T39 HR.out (k : Int) (by omega) (by omega)
      exact ⟨ad, rfl, pw_cell_below hbb h0, pw_cell_below hbb h1⟩
    rintro e w2 ⟨rfl, hb2⟩
    obtain ⟨i1, e1, hfb⟩ : ∃ i1 e1, firstBad (rangeAt l0) 0 l0.length = (i1, e1) := ⟨_, _, rfl⟩
    rw [hfb]
    have HB3 := HB2.out
    rw [hfb] at HB3
    have HF := Lib.hid HB3
    have hcell2 := pw_cell_below hb2 hcell
    have HBB := Lib.hid (bl_next hbb hb2)
    clear hfb HB3 HB2 hcell hbb hb2
    by_cases he : e1 = 0
    · have hf := HF.out
      dsimp only at hf
      rw [if_pos he] at hf
      obtain ⟨ad, rfl, h0, -⟩ := Q.at_T39 HR.out 0 (by omega) (by omega)
      rw [show ((0 : Int)).toNat * 2 = 0 from rfl, Addr.add_zero'] at h0
      obtain ⟨x0, hx0⟩ : ∃ x0, x0 = (l0.getD 0 z39).f0 := ⟨_, rfl⟩
      have h2 : w2.cell? ad = some (.int .i64 x0) := by rw [hx0]; exact pw_cell_below HBB.out h0
      rw [← hx0] at hf
      obtain ⟨u, hu⟩ : ∃ u : Int, u = if decide (0 < x0) = true then 0 else 3 := ⟨_, rfl⟩
      obtain ⟨rfl, rfl⟩ : r1 = 0 ∧ u = r2 := by
        injection hf with h3 h4
        refine ⟨h3.symm, ?_⟩
        rw [hu, ← h4]; simp only [decide_eq_true_eq]
      have HU := Lib.hid hu
      have hl0 : (0 : Int) < (l0.length : Int) := by omega
      clear hu hf hx0 h0 HF
      subst he
      go_wp2_with fail
      refine (unless_call _ 3 u _ HU.out).mono ?_
      rintro e w3 ⟨rfl, ⟨n3, rfl⟩⟩
      go_wp2_with fail
      go_ret2
      exact ⟨rfl, bl_drewN HBB.out _⟩
    · have hf := HF.out
      dsimp only at hf
      rw [if_neg he] at hf
      obtain ⟨rfl, rfl⟩ : i1 = r1 ∧ e1 = r2 := by injection hf with h3 h4; exact ⟨h3, h4⟩
      have hne : (e1 != 0) = true := by simpa using he
      clear hf he HF
      go_wp2_with fail
      go_ret2
      exact ⟨rfl, HBB.out⟩
  · have hb2 := HBX.out
    rw [if_neg hz] at hb2
    obtain ⟨rfl, rfl⟩ : r1 = 0 ∧ ce = r2 := by injection hb2 with h3 h4; exact ⟨h3.symm, h4⟩
    have hne : (ce != 0) = true := by simpa using hz
    clear hz hb2 HBX
    go_enter Try.func37, Try.ntmps37
    go_wp2_with fail
    refine (Q.governor_countErr.calls 3 _ ce _ (by rw [HCE.out]; exact countErr_eval _ 3 (by omega))).mono ?_
    rintro e w1 ⟨rfl, hb1⟩
    go_wp2_with fail
    go_ret2
    exact ⟨rfl, bl_next (bl_alloc (Below.refl _ w) _) hb1⟩
end Go.Proofs.Ytmpondcccbmlhaa.Ext
