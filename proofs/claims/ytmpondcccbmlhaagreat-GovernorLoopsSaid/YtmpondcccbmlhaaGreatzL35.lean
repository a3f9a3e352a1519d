/- A part of the claim L: the texts ExF, without what the claim does not lean on. -/
import Derived.ArgAppend
import Derived.Below
import Derived.BigQuiet
import Derived.Deep.AppendLies
import Derived.Deep.CutBlock
import Derived.Deep.DeepCutAuto
import Derived.Deep.Draws
import Derived.Deep.LoopGhost
import Derived.Deep.OwnRows
import Derived.Deep.QuietTactic
import Derived.Deep.RegionHeld3
import Derived.KernelRfl
import Derived.Laws.BitsLemmas
import Derived.Laws.BytesArg
import Derived.Laws.ComplexArith
import Derived.Laws.IdiomCopy
import Derived.Laws.MakeOwn
import Derived.Laws.OwnMore
import Derived.Laws.Rows
import Derived.Laws.Slices
import Derived.Laws.StructEq
import Derived.Lib.AppendStr
import Derived.Lib.ConvBytes
import Derived.Lib.Hide
import Derived.Lib.LazyBuf
import Derived.Maps.AppendAt
import Derived.OrdersHeld
import Derived.Outline
import Derived.OwnWalk
import Derived.RowKit
import Derived.RowKit3
import Derived.Shelf.Abstract
import Derived.Tactics
import Derived.WalkKit
import Derived.WalkLawsBesides
import Derived.WideLaws
import Derived.Test.YtmpondcccbmlhaaGreatProg
import Derived.Test.YtmpondcccbmlhaaGreatzL0
import Derived.Test.YtmpondcccbmlhaaGreatzL1
import Derived.Test.YtmpondcccbmlhaaGreatzL2
import Derived.Test.YtmpondcccbmlhaaGreatzL3
import Derived.Test.YtmpondcccbmlhaaGreatzL4
import Derived.Test.YtmpondcccbmlhaaGreatzL5
import Derived.Test.YtmpondcccbmlhaaGreatzL6
import Derived.Test.YtmpondcccbmlhaaGreatzL7
import Derived.Test.YtmpondcccbmlhaaGreatzL8
import Derived.Test.YtmpondcccbmlhaaGreatzL9
import Derived.Test.YtmpondcccbmlhaaGreatzL10
import Derived.Test.YtmpondcccbmlhaaGreatzL16
import Derived.Test.YtmpondcccbmlhaaGreatzL21
import Derived.Test.YtmpondcccbmlhaaGreatzL22
import Derived.Test.YtmpondcccbmlhaaGreatzL23
import Derived.Test.YtmpondcccbmlhaaGreatzL32
import Derived.Test.YtmpondcccbmlhaaGreatzL33
import Derived.Test.YtmpondcccbmlhaaGreatzL34
namespace Go.Proofs.YtmpondcccbmlhaaGreat.Ext
open Go.RowKit Go.Shelf Go.Proofs.YtmpondcccbmlhaaGreatW.PrintWords Go.Proofs.YtmpondcccbmlhaaGreatW.PrintLast Go.Proofs.YtmpondcccbmlhaaGreatW.PrintMore
def sumForErr (lc : List Int) (lm : List (List Int)) (ls : List Int) : List Int × Int :=
 if (loopErr lc lm).2 = 0 then
  (if (firstBad (setChk lm.length ls) 0 ls.length).2 = 0 then (sumTo lc lm ls ls.length, 0) else ([], (firstBad (setChk lm.length ls) 0 ls.length).2))
 else ([], (loopErr lc lm).2)
def gov_SumFor.f (lc : List Int) (lm : List (List Int)) (ls : List Int) : Option (List Int × Int) := if ls.length ≤ 1000000 then some (sumForErr lc lm ls) else none
theorem loopErr_ok {lc : List Int} {lm : List (List Int)} {i : Int} (h : loopErr lc lm = (i, 0)) : LoopOk lc lm := by
 unfold loopErr at h
 by_cases h0 : Sp.polyErr lc = 0
 ·rw [if_pos h0] at h
  by_cases h1 : lm.length ≤ 6
  ·rw [if_pos h1] at h
   by_cases h2 : (firstBad (rowAt lc lm) 0 lm.length).2 = 0
   ·exact loopOk_of h0 h1 h2
   ·rw [if_neg h2] at h
    rw [h] at h2; exact absurd rfl h2
  ·rw [if_neg h1] at h; injection h with _ h; cases h
 ·rw [if_neg h0] at h; injection h with _ h; exact absurd h h0
theorem sumOk_of {lc : List Int} {lm : List (List Int)} {ls : List Int} (h : LoopOk lc lm) (hl : ls.length ≤ 1000000) (hs : ∀ k, k < ls.length → 0 ≤ ls.getD k 0 ∧ ls.getD k 0 < lm.length) : SumOk lc lm ls := by
 obtain ⟨⟨a, b⟩, c, d, e⟩ := h
 refine ⟨⟨by omega, by omega⟩, fun i _ => by have := c i; omega, by omega, hl, hs, fun m hm => ⟨(e m hm).1, fun i hi => by have := (e m hm).2 i hi; omega⟩⟩
theorem set_ok {n : Nat} {l : List Int} (h : (firstBad (setChk n l) 0 l.length).2 = 0) : ∀ k, k < l.length → 0 ≤ l.getD k 0 ∧ l.getD k 0 < n := by
 intro k hk
 have h1 := firstBad_zero h k (by omega) (by omega)
 unfold setChk at h1
 by_cases h2 : placeErr n (l.getD k 0) = 0
 ·unfold placeErr at h2
  by_cases h3 : 0 ≤ l.getD k 0 ∧ l.getD k 0 ≤ (n : Int) - 1
  ·omega
  ·rw [if_neg h3] at h2; cases h2
 ·rw [if_neg h2] at h1; exact absurd h1 h2
set_option maxHeartbeats 8000000 in
set_option maxRecDepth 100000 in
theorem gov_SumFor.calls (A0 : Option Addr) (c0 : Nat) (l0 : List Int) (A1 : Option Addr) (c1 : Nat) (l1 : List (List Int)) (A2 : Option Addr) (c2 : Nat) (l2 : List Int) (r1 : List Int) (r2 : Int) (w : World) (hr0 : Kd.C (Kd.int .i64) w A0 l0.length l0) (hc0 : l0.length ≤ c0) (hr1 : Kd.C (Kd.slice 3 (Kd.int .i64)) w A1 l1.length l1) (hc1 : l1.length ≤ c1) (hr2 : Kd.C (Kd.int .i64) w A2 l2.length l2) (hc2 : l2.length ≤ c2) (h : gov_SumFor.f l0 l1 l2 = some (r1, r2)) :
  Calls Tryz.prog 41 #[.agg #[.slice A0 l0.length c0, .slice A1 l1.length c1], .slice A2 l2.length c2] w fun e w' => ∃ v0_ : Value, e = .returned (.tuple #[v0_, .int .i64 r2]) ∧ Kd.R (Kd.int .i64) 3 w' w.heap.size (fun _ => True) v0_ r1 ∧ Below w.heap.size w w' := by
 unfold gov_SumFor.f at h
 by_cases hl2 : l2.length ≤ 1000000
 ·rw [if_pos hl2] at h
  have hh : sumForErr l0 l1 l2 = (r1, r2) := Option.some.inj h
  obtain ⟨ix, er, hle⟩ : ∃ ix er, loopErr l0 l1 = (ix, er) := ⟨_, _, rfl⟩
  unfold sumForErr at hh
  rw [hle] at hh
  have HH := Lib.hid hh
  have HLE := Lib.hid hle
  have HR0 := Lib.hid hr0
  have HR1 := Lib.hid hr1
  have HR2 := Lib.hid hr2
  clear h hh hle hr0 hr1 hr2
  go_enter Tryz.func41, Tryz.ntmps41
  go_upto_region 1 with fail
  have hb1 : Below w.heap.size w ((w.alloc (Obj.cells #[Value.slice A0 l0.length c0, Value.slice A1 l1.length c1] 63)).alloc (Obj.cells #[Value.slice A2 l2.length c2] 22)) := bl_alloc (bl_alloc (Below.refl _ _) _) _
  have k1 : ((w.alloc (Obj.cells #[Value.slice A0 l0.length c0, Value.slice A1 l1.length c1] 63)).alloc (Obj.cells #[Value.slice A2 l2.length c2] 22)).cell? ⟨w.heap.size, 0, none⟩ = some (Value.slice A0 l0.length c0) := by simp
  have k2 : ((w.alloc (Obj.cells #[Value.slice A0 l0.length c0, Value.slice A1 l1.length c1] 63)).alloc (Obj.cells #[Value.slice A2 l2.length c2] 22)).cell? ⟨w.heap.size, 1, none⟩ = some (Value.slice A1 l1.length c1) := by simp
  have k3 : ((w.alloc (Obj.cells #[Value.slice A0 l0.length c0, Value.slice A1 l1.length c1] 63)).alloc (Obj.cells #[Value.slice A2 l2.length c2] 22)).cell? ⟨w.heap.size + 1, 0, none⟩ = some (Value.slice A2 l2.length c2) := by simp
  generalize ((w.alloc (Obj.cells #[Value.slice A0 l0.length c0, Value.slice A1 l1.length c1] 63)).alloc (Obj.cells #[Value.slice A2 l2.length c2] 22)) = W1 at hb1 k1 k2 k3 ⊢
  have HB1 := Lib.hid hb1
  have K1 := Lib.hid k1
  have K2 := Lib.hid k2
  have K3 := Lib.hid k3
  clear hb1
  go_wp2_with fail
  refine (gov_CheckLoop.calls A0 c0 l0 A1 c1 l1 ix er _ (Kd.C_below HR0.out HB1.out) hc0 (Kd.C_below HR1.out HB1.out) hc1 (by unfold gov_CheckLoop.f; rw [HLE.out])).mono ?_
  rintro e w2 ⟨rfl, hb2⟩
  have q1 := pw_cell_below hb2 k1
  have q2 := pw_cell_below hb2 k2
  have q3 := pw_cell_below hb2 k3
  have HB2 := Lib.hid hb2
  clear hb2 k1 k2 k3
  by_cases he : er = 0
  ·subst he
   have hok := loopErr_ok HLE.out
   have hh := HH.out
   rw [if_pos rfl] at hh
   obtain ⟨jx, se, hse⟩ : ∃ jx se, firstBad (setChk l1.length l2) 0 l2.length = (jx, se) := ⟨_, _, rfl⟩
   rw [hse] at hh
   have HSE := Lib.hid hse
   have HH2 := Lib.hid hh
   have HOK := Lib.hid hok
   have hl16 : l1.length ≤ 6 := hok.2.2.1
   clear hh hse hok HH
   go_wp2_with fail
   refine (each_int 117 #[.pointer (some ⟨w.heap.size, 0, none⟩), .pointer (some ⟨w.heap.size + 1, 0, none⟩)] (enters_of Tryz.func117 (by kernel_rfl) rfl) (setChk l1.length l2) A2 l2.length c2 l2 _ (Kd.C_below HR2.out (bl_next HB1.out HB2.out)) (by omega) ?chk).mono ?_
   case chk =>
    intro W i hi hbW
    have hbw := bl_next HB2.out hbW
    have hbww := bl_next HB1.out hbw
    have hcW := pw_cell_below hbw K2.out
    have hcS := pw_cell_below hbw K3.out
    rcases i with _ | i
    ·exact sumfor_zero (l2.getD 0 0) w.heap.size (w.heap.size + 1) A1 l1.length c1 W hcW (by omega) (setChk l1.length l2 0) (setChk_zero _ l2)
    ·obtain ⟨ad, rfl, h0⟩ := Kd.at_int HR2.out (i : Int) (by omega) (by omega)
     rw [rd_nat, Int.toNat_natCast] at h0
     have h1 := pw_cell_below hbww h0
     refine sumfor_more ad l2.length c2 ((i + 1 : Nat) : Int) (l2.getD (i + 1) 0) (l2.getD i 0) w.heap.size (w.heap.size + 1) A1 l1.length c1 W hcW (by omega) hcS (by omega) (by omega) (by omega) ?_ (setChk l1.length l2 (i + 1)) ?_
     ·rw [Int.toNat_natCast, Nat.add_sub_cancel]; exact h1
     ·unfold setChk
      rw [Nat.add_sub_cancel]
      by_cases hf0 : placeErr l1.length (l2.getD (i + 1) 0) = 0
      ·rw [if_pos hf0, if_pos hf0]
       by_cases hq : l2.getD i 0 < l2.getD (i + 1) 0
       ·rw [if_pos (Or.inr hq), if_pos hq]
       ·rw [if_neg (fun h => h.elim (fun h => by omega) hq), if_neg hq]
      ·rw [if_neg hf0, if_neg hf0]
   rintro e w3 ⟨rfl, hb3⟩
   rw [HSE.out]
   have p1 := pw_cell_below hb3 q1
   have p2 := pw_cell_below hb3 q2
   have p3 := pw_cell_below hb3 q3
   have HB3 := Lib.hid (bl_next HB2.out hb3)
   clear q1 q2 q3 hb3
   by_cases hs : se = 0
   ·subst hs
    have hh := HH2.out
    rw [if_pos rfl] at hh
    obtain ⟨rfl, rfl⟩ : sumTo l0 l1 l2 l2.length = r1 ∧ (0 : Int) = r2 := by injection hh with h1 h2; exact ⟨h1, h2⟩
    have HSO := Lib.hid (sumOk_of HOK.out hl2 (set_ok (by rw [HSE.out])))
    clear hh HH2
    go_wp2_with fail
    refine (gov_sum.calls A0 c0 l0 A1 c1 l1 A2 c2 l2 _ _ (Kd.C_below HR0.out (bl_next HB1.out HB3.out)) hc0 (Kd.C_below HR1.out (bl_next HB1.out HB3.out)) hc1 (Kd.C_below HR2.out (bl_next HB1.out HB3.out)) hc2 (by unfold gov_sum.f; rw [if_pos HSO.out])).mono ?_
    rintro e w4 ⟨v, rfl, hR, hb4⟩
    have HBE := Lib.hid (bl_next (bl_next HB1.out HB3.out) hb4)
    have HRE := Lib.hid (Kd.R_lower hR (bl_next HB1.out HB3.out).size)
    clear hR hb4
    go_wp2_with fail
    go_ret2
    exact ⟨_, rfl, HRE.out, HBE.out⟩
   ·have hh := HH2.out
    rw [if_neg hs] at hh
    obtain ⟨rfl, rfl⟩ : [] = r1 ∧ se = r2 := by injection hh with h1 h2; exact ⟨h1, h2⟩
    have hne : (se == 0) = false := by simpa using hs
    have hne2 : (se != 0) = true := by simpa using hs
    clear hh HH2 hs
    go_wp2_with fail
    go_ret2
    exact ⟨_, rfl, Kd.R_nil _ _ _ _ _, bl_next HB1.out HB3.out⟩
  ·have hh := HH.out
   rw [if_neg he] at hh
   obtain ⟨rfl, rfl⟩ : [] = r1 ∧ er = r2 := by injection hh with h1 h2; exact ⟨h1, h2⟩
   have hne : (er == 0) = false := by simpa using he
   have hne2 : (er != 0) = true := by simpa using he
   clear hh HH he
   go_wp2_with fail
   go_ret2
   exact ⟨_, rfl, Kd.R_nil _ _ _ _ _, bl_next HB1.out HB2.out⟩
 ·rw [if_neg hl2] at h; cases h
end Go.Proofs.YtmpondcccbmlhaaGreat.Ext
