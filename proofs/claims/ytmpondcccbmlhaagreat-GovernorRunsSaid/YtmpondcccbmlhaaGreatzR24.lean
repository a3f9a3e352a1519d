/- A part of the claim R: the texts ExA, without what the claim does not lean on. -/
import Derived.ArgAppend
import Derived.Below
import Derived.BigQuiet
import Derived.Deep.AppendLies
import Derived.Deep.CutBlock
import Derived.Deep.DeepCutAuto
import Derived.Deep.Draws
import Derived.Deep.LoopGhost
import Derived.Deep.OwnRows
import Derived.Deep.QuietTactic
import Derived.Deep.RegionHeld3
import Derived.KernelRfl
import Derived.Laws.BitsLemmas
import Derived.Laws.BytesArg
import Derived.Laws.IdiomCopy
import Derived.Laws.MakeOwn
import Derived.Laws.OwnMore
import Derived.Laws.Rows
import Derived.Laws.Slices
import Derived.Laws.StructEq
import Derived.Lib.AppendStr
import Derived.Lib.ConvBytes
import Derived.Lib.Hide
import Derived.Maps.AppendAt
import Derived.OrdersHeld
import Derived.Outline
import Derived.OwnWalk
import Derived.RowKit
import Derived.RowKit3
import Derived.Shelf.Abstract
import Derived.Tactics
import Derived.WalkKit
import Derived.WideLaws
import Derived.Test.YtmpondcccbmlhaaGreatProg
import Derived.Test.YtmpondcccbmlhaaGreatzR0
import Derived.Test.YtmpondcccbmlhaaGreatzR1
import Derived.Test.YtmpondcccbmlhaaGreatzR2
import Derived.Test.YtmpondcccbmlhaaGreatzR3
import Derived.Test.YtmpondcccbmlhaaGreatzR4
import Derived.Test.YtmpondcccbmlhaaGreatzR5
import Derived.Test.YtmpondcccbmlhaaGreatzR6
import Derived.Test.YtmpondcccbmlhaaGreatzR7
import Derived.Test.YtmpondcccbmlhaaGreatzR8
import Derived.Test.YtmpondcccbmlhaaGreatzR9
namespace Go.Proofs.YtmpondcccbmlhaaGreat.Ext
open Go.RowKit Go.Shelf Go.Proofs.YtmpondcccbmlhaaGreatW.PrintWords Go.Proofs.YtmpondcccbmlhaaGreatW.PrintLast Go.Proofs.YtmpondcccbmlhaaGreatW.PrintMore
def governor_CheckPolynomial.f (l0 : List Int) : Option Int := some (Sp.polyErr l0)
set_option maxHeartbeats 1000000 in
theorem governor_CheckPolynomial.calls (A0 : Option Addr) (c0 : Nat) (l0 : List Int) (r : Int) (w : World) (hr0 : Kd.C (Kd.int .i64) w A0 l0.length l0) (hc0 : l0.length ≤ c0) (h : governor_CheckPolynomial.f l0 = some r) :
    Calls Tryz.prog 64 #[.slice A0 l0.length c0] w fun e w' => e = .returned (.int .i64 r) ∧ Below w.heap.size w w' := by
  obtain rfl : Sp.polyErr l0 = r := Option.some.inj h
  clear h
  have hcnt := countErr_eval (l0.length : Int) 3 (by omega)
  have HR := Lib.hid hr0
  have HCNT := Lib.hid hcnt
  clear hr0 hcnt
  by_cases hce : Sp.countErr (l0.length : Int) = 0
  · have hl2 := countErr_zero hce
    have HCE := Lib.hid hce
    clear hce
    have HEV : Hid (Sp.polyErr l0 = if Sp.coefsErr l0 = 0 then (if 0 < l0.headD 0 then 0 else 3) else Sp.coefsErr l0) := Lib.hid (by unfold Sp.polyErr; rw [if_pos HCE.out])
    obtain ⟨pe, hpe⟩ : ∃ pe, pe = Sp.polyErr l0 := ⟨_, rfl⟩
    rw [← hpe]
    have HPE := Lib.hid hpe
    clear hpe
    go_enter Tryz.func64, Tryz.ntmps64
    go_wp2_with fail
    refine (Q.governor_countErr.calls 3 _ _ _ HCNT.out).mono ?_
    rintro e w1 ⟨rfl, hb1⟩
    rw [HCE.out]
    go_wp2_with fail
    refine (each_int 132 #[] (enters_of Tryz.func132 (by kernel_rfl) rfl) (fun i => Sp.coefErr (l0.getD i 0)) A0 l0.length c0 l0 _ (Kd.C_below HR.out hb1) (by omega)
      (fun W i _ _ => (Q.governor_CheckPolynomial_1.calls i (l0.getD i 0) _ W (cp1_eval _ _)).mono fun e w' ⟨he, hd⟩ => ⟨he, hd.below⟩)).mono ?_
    rintro e w2 ⟨rfl, hb2⟩
    rw [firstBad_coefsErr]
    obtain ⟨ce, hce⟩ : ∃ ce, ce = Sp.coefsErr l0 := ⟨_, rfl⟩
    rw [← hce]
    have HCE2 := Lib.hid hce
    clear hce
    obtain ⟨ad, rfl, h0⟩ := Kd.at_int HR.out 0 (by omega) (by omega)
    rw [show ((0 : Int)).toNat = 0 from rfl, Addr.add_zero', show rd l0 0 = l0.headD 0 by cases l0 <;> rfl] at h0
    obtain ⟨x0, hx0⟩ : ∃ x0, x0 = l0.headD 0 := ⟨_, rfl⟩
    rw [← hx0] at h0
    have HX0 := Lib.hid hx0
    clear hx0
    have h2 := pw_cell_below (hb1.trans (hb2.mono hb1.size)) h0
    have HB := Lib.hid (hb1.trans (hb2.mono hb1.size))
    clear h0 hb1 hb2
    have hl0 : (0 : Int) < (l0.length : Int) := by omega
    obtain ⟨u, hu⟩ : ∃ u : Int, u = (if decide (0 < x0) = true then 0 else 3) := ⟨_, rfl⟩
    obtain ⟨v, hv⟩ : ∃ v : Int, v = (if ce = 0 then u else ce) := ⟨_, rfl⟩
    have HU := Lib.hid hu
    have HV := Lib.hid hv
    clear hu hv
    go_wp2_with fail
    refine (unless_call _ _ _ _ HU.out).mono ?_
    rintro e w3 ⟨rfl, ⟨n3, rfl⟩⟩
    go_wp2_with fail
    refine (first_lit2 _ _ _ _ _ HV.out).mono ?_
    rintro e w4 ⟨rfl, hd4⟩
    go_wp2_with fail
    go_ret
    refine ⟨?_, bl_drawn (bl_alloc (bl_drewN HB.out n3) _) hd4⟩
    have e1 : pe = v := by
      rw [HPE.out, HEV.out, ← HCE2.out, ← HX0.out, HV.out, HU.out]
      simp only [decide_eq_true_eq]
    rw [e1]
    rfl
  · have HEV : Hid (Sp.polyErr l0 = Sp.countErr (l0.length : Int)) := Lib.hid (by unfold Sp.polyErr; rw [if_neg hce])
    rw [HEV.out]
    obtain ⟨ce, hc⟩ : ∃ ce, ce = Sp.countErr (l0.length : Int) := ⟨_, rfl⟩
    rw [← hc] at hce HCNT ⊢
    have hne : (ce != 0) = true := by simpa using hce
    clear hce hc HEV
    go_enter Tryz.func64, Tryz.ntmps64
    go_wp2_with fail
    refine (Q.governor_countErr.calls 3 _ _ _ HCNT.out).mono ?_
    rintro e w1 ⟨rfl, hb1⟩
    go_wp2_with fail
    go_ret
    exact ⟨rfl, hb1⟩
end Go.Proofs.YtmpondcccbmlhaaGreat.Ext
