/- A part of the claim H: the texts ExE, without what the claim does not lean on. -/
import Derived.Test.YtmpondcccbmlhaaGreatzH18
import Derived.Test.YtmpondcccbmlhaaGreatzH21
namespace Go.Proofs.YtmpondcccbmlhaaGreat.Ext
open Go.RowKit Go.Shelf Go.Proofs.YtmpondcccbmlhaaGreatW.PrintWords Go.Proofs.YtmpondcccbmlhaaGreatW.PrintLast Go.Proofs.YtmpondcccbmlhaaGreatW.PrintMore
def shiftErr (p : List Int) (b : Int) : Int := if Sp.polyErr p = 0 then (if -10 ≤ b ∧ b ≤ 10 then 0 else 2) else Sp.polyErr p
def gov_Shifted.f (p : List Int) (b : Int) : Option (List Int × Int) :=
 some (if shiftErr p b = 0 then (if Sp.coefsErr (shiftP p b) = 0 then (shiftP p b, 0) else ([], 8)) else ([], shiftErr p b))
theorem sh1_eval (i x : Int) : Q.gov_Shifted_1.f i x = some (Sp.coefErr x) := by
 unfold Q.gov_Shifted_1.f
 rw [coefErr_eval]
 rfl
set_option maxHeartbeats 2000000 in
set_option maxRecDepth 100000 in
theorem gov_Shifted.calls (A0 : Option Addr) (c0 : Nat) (l0 : List Int) (b : Int) (r1 : List Int) (r2 : Int) (w : World) (hr0 : Kd.C (Kd.int .i64) w A0 l0.length l0) (hc0 : l0.length ≤ c0) (h : gov_Shifted.f l0 b = some (r1, r2)) :
  Calls Tryz.prog 83 #[.slice A0 l0.length c0, .int .i64 b] w fun e w' => ∃ v0_ : Value, e = .returned (.tuple #[v0_, .int .i64 r2]) ∧ Kd.R (Kd.int .i64) 3 w' w.heap.size (fun _ => True) v0_ r1 ∧ Below w.heap.size w w' := by
 obtain ⟨pe, hpe⟩ : ∃ pe, pe = Sp.polyErr l0 := ⟨_, rfl⟩
 have HPE := Lib.hid hpe
 obtain ⟨q, hq⟩ : ∃ q : Bool, q = decide (-10 ≤ b ∧ b ≤ 10) := ⟨_, rfl⟩
 have HQ := Lib.hid hq
 obtain ⟨u, hu⟩ : ∃ u : Int, u = if q = true then 0 else 2 := ⟨_, rfl⟩
 have HU := Lib.hid hu
 obtain ⟨v, hv⟩ : ∃ v : Int, v = if pe = 0 then u else pe := ⟨_, rfl⟩
 have HV := Lib.hid hv
 have hve : shiftErr l0 b = v := by
  unfold shiftErr
  rw [hv, hu, hq, ← hpe]
  simp only [decide_eq_true_eq]
 unfold gov_Shifted.f at h
 rw [hve] at h
 have HH := Lib.hid (Option.some.inj h)
 have HR := Lib.hid hr0
 have HVE := Lib.hid hve
 clear hpe hq hu hv hve h hr0
 go_enter Tryz.func83, Tryz.ntmps83
 go_wp2_with fail
 refine (gov_CheckPolynomial.calls A0 c0 l0 pe _ HR.out hc0 (by rw [HPE.out]; rfl)).mono ?_
 rintro e w1 ⟨rfl, hb1⟩
 have HB1 := Lib.hid hb1
 clear hb1
 go_wp2_with fail
 refine (Q.gov_isSized.calls b 10 q _ (by rw [isSized_eval _ _ (by omega) (by omega), HQ.out])).mono ?_
 rintro e w2 ⟨rfl, hd2⟩
 have HB2 := Lib.hid (bl_drawn HB1.out hd2)
 clear hd2
 go_wp2_with fail
 refine (unless_call _ _ u _ HU.out).mono ?_
 rintro e w3 ⟨rfl, hd3⟩
 have HB3 := Lib.hid (bl_drawn HB2.out hd3)
 clear hd3
 go_wp2_with fail
 refine (first_lit2 _ _ _ _ _ HV.out).mono ?_
 rintro e w4 ⟨rfl, hd4⟩
 have HB4 := Lib.hid (bl_drawn (bl_alloc HB3.out _) hd4)
 clear hd4
 by_cases hz : v = 0
 ·have hh := HH.out
  rw [if_pos hz] at hh
  have hok := HVE.out
  rw [hz] at hok
  have hp : Sp.polyErr l0 = 0 := by
   unfold shiftErr at hok
   split at hok
   ·assumption
   ·exact hok
  obtain ⟨p1, p2, -, -⟩ := poly_of hp
  obtain ⟨S, hS⟩ : ∃ S, S = shiftP l0 b := ⟨_, rfl⟩
  have hSl : S.length = l0.length := by rw [hS, shiftP_len]
  rw [← hS] at hh
  have HH2 := Lib.hid hh
  have HSE := Lib.hid hS
  have HSL := Lib.hid (show S.length ≤ 1000000 by omega)
  clear hh hok hp hS hSl
  subst hz
  go_wp2_with fail
  refine (gov_shifted.calls A0 c0 l0 b S _ (Kd.C_below HR.out HB4.out) hc0 (by rw [HSE.out]; exact if_pos ⟨by omega, by omega⟩)).mono ?_
  rintro e w5 ⟨v5, rfl, hR5, hb5⟩
  obtain ⟨A5, c5, e5⟩ := Kd.R_slice hR5
  subst e5
  have HR5 := Lib.hid hR5
  have HB5 := Lib.hid (bl_next HB4.out hb5)
  have HC5 := Lib.hid (Kd.R_reads' hR5)
  clear hR5 hb5
  go_wp2_with fail
  refine (each_int 150 #[] (enters_of Tryz.func150 (by kernel_rfl) rfl) (fun i => Sp.coefErr (S.getD i 0)) A5 S.length c5 S _ HC5.out.2.2 HSL.out
   (fun W i _ _ => (Q.gov_Shifted_1.calls i (S.getD i 0) _ W (sh1_eval _ _)).mono fun e w' ⟨he, hd⟩ => ⟨he, hd.below⟩)).mono ?_
  rintro e w6 ⟨rfl, hb6⟩
  rw [firstBad_coefsErr]
  obtain ⟨ce, hce⟩ : ∃ ce, ce = Sp.coefsErr S := ⟨_, rfl⟩
  rw [← hce]
  have HB6 := Lib.hid (bl_next HB5.out hb6)
  have hh := HH2.out
  rw [← hce] at hh
  have HR6 := Lib.hid (Kd.R_below HR5.out hb6)
  have HH3 := Lib.hid hh
  clear hce hb6 hh
  by_cases h0 : ce = 0
  ·have hh := HH3.out
   rw [if_pos h0] at hh
   injection hh with h1 h2
   subst h1 h2
   have h0b : (ce != 0) = false := by simp [h0]
   clear HH3 HH2 HSE
   go_wp2_with fail
   go_ret2
   exact ⟨_, rfl, Kd.R_lower HR6.out HB4.out.size, HB6.out⟩
  ·have hh := HH3.out
   rw [if_neg h0] at hh
   injection hh with h1 h2
   subst h1 h2
   have h0b : (ce != 0) = true := by simpa using h0
   clear h0
   go_wp2_with fail
   go_ret2
   exact ⟨_, rfl, Kd.R_nil _ _ _ _ _, HB6.out⟩
 ·have hh := HH.out
  rw [if_neg hz] at hh
  have hvz : (v != 0) = true := by simpa using hz
  injection hh with h1 h2
  subst h1 h2
  clear hz
  go_wp2_with fail
  go_ret2
  exact ⟨_, rfl, Kd.R_nil _ _ _ _ _, HB4.out⟩
end Go.Proofs.YtmpondcccbmlhaaGreat.Ext
