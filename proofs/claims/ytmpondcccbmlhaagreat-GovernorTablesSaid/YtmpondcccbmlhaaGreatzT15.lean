/- A part of the claim T: the texts EachTwo, ExB, IdxRows, RowsFn, without what the claim does not lean on. -/
import Derived.Test.YtmpondcccbmlhaaGreatzT9
namespace Go.Proofs.YtmpondcccbmlhaaGreat.Ext
open Go.RowKit Go.Shelf Go.Proofs.YtmpondcccbmlhaaGreatW.PrintWords Go.Proofs.YtmpondcccbmlhaaGreatW.PrintLast Go.Proofs.YtmpondcccbmlhaaGreatW.PrintMore
set_option maxHeartbeats 1000000 in
theorem each_range (g : Nat) (lb : Array Value) (eg : ∀ args w, (callFunc g args).run Tryz.prog w = .ok (.enter g args) w) (chk : Nat → Int) (A : Option Addr) (n c : Nat) (v0 : Nat → Int) (v1 : Nat → Int) (w : World)
  (hx : ∀ k, k < n → ∃ ad, A = some ad ∧ w.cell? (ad.add (k * 2)) = some (.int .i64 (v0 k)) ∧ w.cell? ⟨(ad.add (k * 2)).block, (ad.add (k * 2)).off + 1, none⟩ = some (.int .i64 (v1 k))) (hn : n ≤ 1000000)
  (hk : ∀ (W : World) (i : Nat), i < n → Below w.heap.size w W → Calls Tryz.prog g (#[.int .i64 i, .agg #[.int .i64 (v0 i), .int .i64 (v1 i)]] ++ lb) W fun e w' => e = .returned (.int .i64 (chk i)) ∧ Below W.heap.size W w') :
  Calls Tryz.prog 102 #[.slice A n c, .func (.func g) #[] lb] w fun e w' => e = .returned (.tuple #[.int .i64 (firstBad chk 0 n).1, .int .i64 (firstBad chk 0 n).2]) ∧ Below w.heap.size w w' := by
 have HX := Lib.hid hx
 have HK := Lib.hid hk
 have EG := Lib.hid eg
 clear hx hk eg
 go_enter Tryz.func102, Tryz.ntmps102
 go_wp2_with fail
 go_loopw [11] (fun i wr => ∃ k : Nat, k ≤ n ∧ i = .int .i64 k ∧ Below w.heap.size w wr ∧ RestOf chk n k) (fun i _ => n - (intOf i).toNat)
 case atStart => exact ⟨0, Nat.zero_le _, rfl, Below.refl _ _, rfl⟩
 case round =>
  obtain ⟨k, hk, rfl, hb, hrest⟩ := hrel
  by_cases hlt : k < n
  ·obtain ⟨ad, rfl, hc0, hc1⟩ := HX.out k hlt
   have hb2 : Below w.heap.size w (wr.alloc (.cells #[.int .i64 (v0 k), .int .i64 (v1 k)] 58)) := hb.alloc hb.size _
   have h0 := pw_cell_below hb hc0
   have h1 := pw_cell_below hb hc1
   have hcall := HK.out _ k hlt hb2
   have HC := Lib.hid hcall
   have EGO := EG.out
   have HB2 := Lib.hid hb2
   clear hcall hc0 hc1 hb2
   by_cases hz : chk k = 0
   ·have HZ := Lib.hid hz
    clear hz
    go_wp2_with fail
    refine (HC.out).mono ?_
    rintro e w1 ⟨rfl, hb1⟩
    rw [HZ.out]
    go_wp2_with fail
    go_roundw
    case rel => exact ⟨k + 1, by omega, by go_num, HB2.out.trans (hb1.mono HB2.out.size), by unfold RestOf at *; rw [hrest, show n - k = (n - (k + 1)) + 1 by omega, firstBad_skip _ _ _ HZ.out]⟩
    case measure => simp [intOf]; omega
   ·have HZ := Lib.hid hz
    have hne : (chk k != 0) = true := by simpa using hz
    clear hz
    go_wp2_with fail
    refine (HC.out).mono ?_
    rintro e w1 ⟨rfl, hb1⟩
    go_wp2_with fail
    go_ret2
    refine ⟨?_, HB2.out.trans (hb1.mono HB2.out.size)⟩
    unfold RestOf at hrest
    rw [hrest, show n - k = (n - (k + 1)) + 1 by omega, firstBad_hit _ _ _ HZ.out]
    rfl
  ·have hkn : k = n := by omega
   have HR : firstBad chk 0 n = (0, 0) := by unfold RestOf at hrest; rw [hrest, hkn, Nat.sub_self]; rfl
   have H0 := Lib.hid HR
   clear HR hrest hkn
   go_wp2_with fail
   go_ret2
   rw [H0.out]
   exact ⟨rfl, hb⟩
set_option maxHeartbeats 1000000 in
theorem each_reading (g : Nat) (lb : Array Value) (eg : ∀ args w, (callFunc g args).run Tryz.prog w = .ok (.enter g args) w) (chk : Nat → Int) (A : Option Addr) (n c : Nat) (v0 : Nat → Int) (v1 : Nat → Bool) (w : World)
  (hx : ∀ k, k < n → ∃ ad, A = some ad ∧ w.cell? (ad.add (k * 2)) = some (.int .i64 (v0 k)) ∧ w.cell? ⟨(ad.add (k * 2)).block, (ad.add (k * 2)).off + 1, none⟩ = some (.bool (v1 k))) (hn : n ≤ 1000000)
  (hk : ∀ (W : World) (i : Nat), i < n → Below w.heap.size w W → Calls Tryz.prog g (#[.int .i64 i, .agg #[.int .i64 (v0 i), .bool (v1 i)]] ++ lb) W fun e w' => e = .returned (.int .i64 (chk i)) ∧ Below W.heap.size W w') :
  Calls Tryz.prog 137 #[.slice A n c, .func (.func g) #[] lb] w fun e w' => e = .returned (.tuple #[.int .i64 (firstBad chk 0 n).1, .int .i64 (firstBad chk 0 n).2]) ∧ Below w.heap.size w w' := by
 have HX := Lib.hid hx
 have HK := Lib.hid hk
 have EG := Lib.hid eg
 clear hx hk eg
 go_enter Tryz.func137, Tryz.ntmps137
 go_wp2_with fail
 go_loopw [11] (fun i wr => ∃ k : Nat, k ≤ n ∧ i = .int .i64 k ∧ Below w.heap.size w wr ∧ RestOf chk n k) (fun i _ => n - (intOf i).toNat)
 case atStart => exact ⟨0, Nat.zero_le _, rfl, Below.refl _ _, rfl⟩
 case round =>
  obtain ⟨k, hk, rfl, hb, hrest⟩ := hrel
  by_cases hlt : k < n
  ·obtain ⟨ad, rfl, hc0, hc1⟩ := HX.out k hlt
   have hb2 : Below w.heap.size w (wr.alloc (.cells #[.int .i64 (v0 k), .bool (v1 k)] 103)) := hb.alloc hb.size _
   have h0 := pw_cell_below hb hc0
   have h1 := pw_cell_below hb hc1
   have hcall := HK.out _ k hlt hb2
   have HC := Lib.hid hcall
   have EGO := EG.out
   have HB2 := Lib.hid hb2
   clear hcall hc0 hc1 hb2
   by_cases hz : chk k = 0
   ·have HZ := Lib.hid hz
    clear hz
    go_wp2_with fail
    refine (HC.out).mono ?_
    rintro e w1 ⟨rfl, hb1⟩
    rw [HZ.out]
    go_wp2_with fail
    go_roundw
    case rel => exact ⟨k + 1, by omega, by go_num, HB2.out.trans (hb1.mono HB2.out.size), by unfold RestOf at *; rw [hrest, show n - k = (n - (k + 1)) + 1 by omega, firstBad_skip _ _ _ HZ.out]⟩
    case measure => simp [intOf]; omega
   ·have HZ := Lib.hid hz
    have hne : (chk k != 0) = true := by simpa using hz
    clear hz
    go_wp2_with fail
    refine (HC.out).mono ?_
    rintro e w1 ⟨rfl, hb1⟩
    go_wp2_with fail
    go_ret2
    refine ⟨?_, HB2.out.trans (hb1.mono HB2.out.size)⟩
    unfold RestOf at hrest
    rw [hrest, show n - k = (n - (k + 1)) + 1 by omega, firstBad_hit _ _ _ HZ.out]
    rfl
  ·have hkn : k = n := by omega
   have HR : firstBad chk 0 n = (0, 0) := by unfold RestOf at hrest; rw [hrest, hkn, Nat.sub_self]; rfl
   have H0 := Lib.hid HR
   clear HR hrest hkn
   go_wp2_with fail
   go_ret2
   rw [H0.out]
   exact ⟨rfl, hb⟩
end Go.Proofs.YtmpondcccbmlhaaGreat.Ext
namespace Go.Proofs.YtmpondcccbmlhaaGreat.Ext
open Go.RowKit Go.Shelf Go.Proofs.YtmpondcccbmlhaaGreatW.PrintWords Go.Proofs.YtmpondcccbmlhaaGreatW.PrintLast Go.Proofs.YtmpondcccbmlhaaGreatW.PrintMore
open Q (S58 z58 k58)
def rangeErr (r : S58) : Int := if Sp.coefErr r.f0 = 0 then (if Sp.coefErr r.f1 = 0 then (if r.f0 ≤ r.f1 then 0 else 9) else Sp.coefErr r.f1) else Sp.coefErr r.f0
def rangeAt (l : List S58) (i : Nat) : Int := rangeErr (l.getD i z58)
def boxErr (l : List S58) : Int × Int :=
 if Sp.countErr l.length = 0 then (if (firstBad (rangeAt l) 0 l.length).2 = 0 then (0, if 0 < (l.getD 0 z58).f0 then 0 else 3) else firstBad (rangeAt l) 0 l.length) else (0, Sp.countErr l.length)
def gov_CheckBox.f (l0 : List S58) : Option (Int × Int) := some (boxErr l0)
theorem cb1_eval (i a b : Int) : Q.gov_CheckBox_1.f 4 i a b = some (if Sp.coefErr a = 0 then (if Sp.coefErr b = 0 then (if a ≤ b then 0 else 9) else Sp.coefErr b) else Sp.coefErr a) := by
 unfold Q.gov_CheckBox_1.f
 simp only [coefErr_eval, Option.bind_some, unless_eval, first3_eval _ _ _ 4 (by omega), decide_eq_true_eq]
set_option maxHeartbeats 2000000 in
theorem gov_CheckBox.calls (A0 : Option Addr) (c0 : Nat) (l0 : List S58) (r1 r2 : Int) (w : World) (hr0 : Kd.C k58 w A0 l0.length l0) (_hc0 : l0.length ≤ c0) (h : gov_CheckBox.f l0 = some (r1, r2)) :
  Calls Tryz.prog 27 #[.agg #[.slice A0 l0.length c0]] w fun e w' => e = .returned (.tuple #[.int .i64 r1, .int .i64 r2]) ∧ Below w.heap.size w w' := by
 have hb : boxErr l0 = (r1, r2) := Option.some.inj h
 obtain ⟨ce, hce⟩ : ∃ ce, ce = Sp.countErr l0.length := ⟨_, rfl⟩
 have HR := Lib.hid hr0
 have HCE := Lib.hid hce
 unfold boxErr at hb
 rw [← hce] at hb
 have HBX := Lib.hid hb
 clear h hr0 hb hce
 by_cases hz : ce = 0
 ·have hl := countErr_zero (HCE.out.symm.trans hz)
  have hb2 := HBX.out
  rw [if_pos hz] at hb2
  have HB2 := Lib.hid hb2
  clear hb2 HBX
  subst hz
  go_enter Tryz.func27, Tryz.ntmps27
  go_wp2_with fail
  refine (Q.gov_countErr.calls 3 _ 0 _ (by rw [HCE.out]; exact countErr_eval _ 3 (by omega))).mono ?_
  rintro e w1 ⟨rfl, hb1⟩
  have hcell := (hb1.cell (p := ⟨w.heap.size, 0, none⟩) (by simp)).trans (by simp : _ = some (Value.slice A0 l0.length c0))
  have hbb : Below w.heap.size w w1 := bl_next (bl_alloc (Below.refl _ w) _) hb1
  clear hb1
  go_wp2_with fail
  refine (each_range 103 #[] (enters_of Tryz.func103 (by kernel_rfl) rfl) (rangeAt l0) A0 l0.length c0 (fun i => (l0.getD i z58).f0) (fun i => (l0.getD i z58).f1) _ ?cells (by omega)
   (fun W i _ _ => Q.gov_CheckBox_1.calls 4 i _ _ _ W (cb1_eval _ _ _))).mono ?_
  case cells =>
   intro k hk
   obtain ⟨ad, rfl, h0, h1⟩ := Q.at_T58 HR.out (k : Int) (by omega) (by omega)
   exact ⟨ad, rfl, pw_cell_below hbb h0, pw_cell_below hbb h1⟩
  rintro e w2 ⟨rfl, hb2⟩
  obtain ⟨i1, e1, hfb⟩ : ∃ i1 e1, firstBad (rangeAt l0) 0 l0.length = (i1, e1) := ⟨_, _, rfl⟩
  rw [hfb]
  have HB3 := HB2.out
  rw [hfb] at HB3
  have HF := Lib.hid HB3
  have hcell2 := pw_cell_below hb2 hcell
  have HBB := Lib.hid (bl_next hbb hb2)
  clear hfb HB3 HB2 hcell hbb hb2
  by_cases he : e1 = 0
  ·have hf := HF.out
   dsimp only at hf
   rw [if_pos he] at hf
   obtain ⟨ad, rfl, h0, -⟩ := Q.at_T58 HR.out 0 (by omega) (by omega)
   rw [show ((0 : Int)).toNat * 2 = 0 from rfl, Addr.add_zero'] at h0
   obtain ⟨x0, hx0⟩ : ∃ x0, x0 = (l0.getD 0 z58).f0 := ⟨_, rfl⟩
   have h2 : w2.cell? ad = some (.int .i64 x0) := by rw [hx0]; exact pw_cell_below HBB.out h0
   rw [← hx0] at hf
   obtain ⟨u, hu⟩ : ∃ u : Int, u = if decide (0 < x0) = true then 0 else 3 := ⟨_, rfl⟩
   obtain ⟨rfl, rfl⟩ : r1 = 0 ∧ u = r2 := by
    injection hf with h3 h4
    refine ⟨h3.symm, ?_⟩
    rw [hu, ← h4]; simp only [decide_eq_true_eq]
   have HU := Lib.hid hu
   have hl0 : (0 : Int) < (l0.length : Int) := by omega
   clear hu hf hx0 h0 HF
   subst he
   go_wp2_with fail
   refine (unless_call _ 3 u _ HU.out).mono ?_
   rintro e w3 ⟨rfl, ⟨n3, rfl⟩⟩
   go_wp2_with fail
   go_ret2
   exact ⟨rfl, bl_drewN HBB.out _⟩
  ·have hf := HF.out
   dsimp only at hf
   rw [if_neg he] at hf
   obtain ⟨rfl, rfl⟩ : i1 = r1 ∧ e1 = r2 := by injection hf with h3 h4; exact ⟨h3, h4⟩
   have hne : (e1 != 0) = true := by simpa using he
   clear hf he HF
   go_wp2_with fail
   go_ret2
   exact ⟨rfl, HBB.out⟩
 ·have hb2 := HBX.out
  rw [if_neg hz] at hb2
  obtain ⟨rfl, rfl⟩ : r1 = 0 ∧ ce = r2 := by injection hb2 with h3 h4; exact ⟨h3.symm, h4⟩
  have hne : (ce != 0) = true := by simpa using hz
  clear hz hb2 HBX
  go_enter Tryz.func27, Tryz.ntmps27
  go_wp2_with fail
  refine (Q.gov_countErr.calls 3 _ ce _ (by rw [HCE.out]; exact countErr_eval _ 3 (by omega))).mono ?_
  rintro e w1 ⟨rfl, hb1⟩
  go_wp2_with fail
  go_ret2
  exact ⟨rfl, bl_next (bl_alloc (Below.refl _ w) _) hb1⟩
end Go.Proofs.YtmpondcccbmlhaaGreat.Ext
namespace Go.Proofs.YtmpondcccbmlhaaGreat.Ext
open Go.RowKit Go.Shelf Go.Proofs.YtmpondcccbmlhaaGreatW.PrintWords Go.Proofs.YtmpondcccbmlhaaGreatW.PrintLast Go.Proofs.YtmpondcccbmlhaaGreatW.PrintMore
def NoneTo (chk : Nat → Bool) (k : Nat) : Prop := ∀ j, j < k → chk j = false
def anyTo (chk : Nat → Bool) (n : Nat) : Bool := (List.range n).any chk
theorem anyTo_hit {chk : Nat → Bool} {n k : Nat} (hk : k < n) (h : chk k = true) : anyTo chk n = true := List.any_eq_true.2 ⟨k, List.mem_range.2 hk, h⟩
theorem anyTo_none {chk : Nat → Bool} {n : Nat} (h : NoneTo chk n) : anyTo chk n = false := by
 rw [anyTo, Bool.eq_false_iff]
 intro h2
 obtain ⟨k, hk, h3⟩ := List.any_eq_true.1 h2
 rw [h k (List.mem_range.1 hk)] at h3; cases h3
set_option maxHeartbeats 1000000 in
theorem index_rows (g : Nat) (lb : Array Value) (eg : ∀ args w, (callFunc g args).run Tryz.prog w = .ok (.enter g args) w) (chk : Nat → Bool) (A : Option Addr) (n c : Nat) (B : Nat → Option Addr) (L C : Nat → Nat) (w : World)
  (hx : ∀ k, k < n → ∃ ad, A = some ad ∧ w.cell? (ad.add k) = some (.slice (B k) (L k) (C k))) (hn : n ≤ 9223372036854775807)
  (hk : ∀ (W : World) (i : Nat), i < n → NoneTo chk i → Below w.heap.size w W → Calls Tryz.prog g (#[.slice (B i) (L i) (C i)] ++ lb) W fun e w' => e = .returned (.bool (chk i)) ∧ Below W.heap.size W w') :
  Calls Tryz.prog 151 #[.slice A n c, .func (.func g) #[] lb] w fun e w' => ∃ v : Int, e = .returned (.int .i64 v) ∧ decide (v ≥ 0) = anyTo chk n ∧ Below w.heap.size w w' := by
 have HX := Lib.hid hx
 have HK := Lib.hid hk
 have EG := Lib.hid eg
 clear hx hk eg
 go_enter Tryz.func151, Tryz.ntmps151
 go_wp2_with fail
 go_loopw [8] (fun i wr => ∃ k : Nat, k ≤ n ∧ i = .int .i64 k ∧ Below w.heap.size w wr ∧ NoneTo chk k) (fun i _ => n - (intOf i).toNat)
 case atStart => exact ⟨0, Nat.zero_le _, rfl, Below.refl _ _, fun j hj => absurd hj (by omega)⟩
 case round =>
  obtain ⟨k, hk, rfl, hb, hrest⟩ := hrel
  by_cases hlt : k < n
  ·obtain ⟨ad, rfl, hcell⟩ := HX.out k hlt
   have hc0 := pw_cell_below hb hcell
   have hcall := HK.out wr k hlt hrest hb
   have HC := Lib.hid hcall
   have EGO := EG.out
   clear hcall hcell
   by_cases hz : chk k = true
   ·have HZ := Lib.hid hz
    clear hz
    go_wp2_with fail
    refine (HC.out).mono ?_
    rintro e w1 ⟨rfl, hb1⟩
    rw [HZ.out]
    go_wp2_with fail
    go_ret
    refine ⟨_, rfl, ?_, hb.trans (hb1.mono hb.size)⟩
    rw [anyTo_hit hlt HZ.out]
    simp
   ·have hz : chk k = false := by simpa using hz
    have HZ := Lib.hid hz
    clear hz
    go_wp2_with fail
    refine (HC.out).mono ?_
    rintro e w1 ⟨rfl, hb1⟩
    rw [HZ.out]
    go_wp2_with fail
    go_roundw
    case rel => exact ⟨k + 1, by omega, by go_num, hb.trans (hb1.mono hb.size), fun j hj => by rcases Nat.lt_succ_iff_lt_or_eq.1 hj with h | h; exact hrest j h; rw [h]; exact HZ.out⟩
    case measure => simp [intOf]; omega
  ·have hkn : k = n := by omega
   have HR : anyTo chk n = false := anyTo_none (hkn ▸ hrest)
   have H0 := Lib.hid HR
   clear HR hrest hkn
   go_wp2_with fail
   go_ret
   exact ⟨_, rfl, by rw [H0.out]; rfl, hb⟩
theorem contains_rows (g : Nat) (lb : Array Value) (eg : ∀ args w, (callFunc g args).run Tryz.prog w = .ok (.enter g args) w) (chk : Nat → Bool) (A : Option Addr) (n c : Nat) (B : Nat → Option Addr) (L C : Nat → Nat) (w : World)
  (hx : ∀ k, k < n → ∃ ad, A = some ad ∧ w.cell? (ad.add k) = some (.slice (B k) (L k) (C k))) (hn : n ≤ 9223372036854775807)
  (hk : ∀ (W : World) (i : Nat), i < n → NoneTo chk i → Below w.heap.size w W → Calls Tryz.prog g (#[.slice (B i) (L i) (C i)] ++ lb) W fun e w' => e = .returned (.bool (chk i)) ∧ Below W.heap.size W w') :
  Calls Tryz.prog 107 #[.slice A n c, .func (.func g) #[] lb] w fun e w' => e = .returned (.bool (anyTo chk n)) ∧ Below w.heap.size w w' := by
 have HX := Lib.hid hx
 have HK := Lib.hid hk
 have EG := Lib.hid eg
 clear hx hk eg
 go_enter Tryz.func107, Tryz.ntmps107
 go_wp2_with fail
 refine (index_rows g lb EG.out chk A n c B L C _ HX.out hn HK.out).mono ?_
 rintro e w1 ⟨v, rfl, hv, hb⟩
 have HV := Lib.hid hv
 clear hv
 go_wp2_with fail
 go_ret
 exact ⟨by rw [← HV.out]; rfl, hb⟩
end Go.Proofs.YtmpondcccbmlhaaGreat.Ext
namespace Go.Proofs.YtmpondcccbmlhaaGreat.Ext
open Go.RowKit Go.Shelf Go.Proofs.YtmpondcccbmlhaaGreatW.PrintWords Go.Proofs.YtmpondcccbmlhaaGreatW.PrintLast Go.Proofs.YtmpondcccbmlhaaGreatW.PrintMore
theorem rows_fns {w : World} {A : Option Addr} {xs : List (List Int)} (h : Kd.C (Kd.slice 3 (Kd.int .i64)) w A xs.length xs) :
  ∃ (B : Nat → Option Addr) (C : Nat → Nat), ∀ k, k < xs.length → (∃ ad, A = some ad ∧ w.cell? (ad.add k) = some (.slice (B k) (xs.getD k []).length (C k))) ∧ (xs.getD k []).length ≤ C k ∧ Kd.C (Kd.int .i64) w (B k) (xs.getD k []).length (xs.getD k []) := by
 have H : ∀ k, ∃ BC : Option Addr × Nat, k < xs.length → (∃ ad, A = some ad ∧ w.cell? (ad.add k) = some (.slice BC.1 (xs.getD k []).length BC.2)) ∧ (xs.getD k []).length ≤ BC.2 ∧ Kd.C (Kd.int .i64) w BC.1 (xs.getD k []).length (xs.getD k []) := by
  intro k
  by_cases hk : k < xs.length
  ·obtain ⟨ad, A0, c0, hA, hc, hl, hC⟩ := Q.at_L2 h (k : Int) (by omega) (by omega)
   exact ⟨(A0, c0), fun _ => ⟨⟨ad, hA, hc⟩, hl, hC⟩⟩
  ·exact ⟨(none, 0), fun h => absurd h hk⟩
 obtain ⟨f, hf⟩ := Classical.skolem.1 H
 exact ⟨fun k => (f k).1, fun k => (f k).2, hf⟩
end Go.Proofs.YtmpondcccbmlhaaGreat.Ext
