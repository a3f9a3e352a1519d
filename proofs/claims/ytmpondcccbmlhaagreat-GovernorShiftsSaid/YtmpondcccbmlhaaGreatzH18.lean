/- A part of the claim H: the texts ExD, without what the claim does not lean on. -/
import Derived.Test.YtmpondcccbmlhaaGreatzH15
import Derived.Test.YtmpondcccbmlhaaGreatzH17
namespace Go.Proofs.YtmpondcccbmlhaaGreat.Ext
open Go.RowKit Go.Shelf Go.Proofs.YtmpondcccbmlhaaGreatW.PrintWords Go.Proofs.YtmpondcccbmlhaaGreatW.PrintLast Go.Proofs.YtmpondcccbmlhaaGreatW.PrintMore
def gov_shifted.f (p : List Int) (b : Int) : Option (List Int) := if 0 < p.length ∧ p.length ≤ 1000 then some (shiftP p b) else none
set_option maxHeartbeats 2000000 in
set_option maxRecDepth 100000 in
theorem gov_shifted.calls (A0 : Option Addr) (c0 : Nat) (l0 : List Int) (b : Int) (r : List Int) (w : World) (hr0 : Kd.C (Kd.int .i64) w A0 l0.length l0) (_hc0 : l0.length ≤ c0) (h : gov_shifted.f l0 b = some r) :
  Calls Tryz.prog 149 #[.slice A0 l0.length c0, .int .i64 b] w fun e w' => ∃ v0_ : Value, e = .returned (v0_) ∧ Kd.R (Kd.int .i64) 3 w' w.heap.size (fun _ => True) v0_ r ∧ Below w.heap.size w w' := by
 unfold gov_shifted.f at h
 by_cases hc : 0 < l0.length ∧ l0.length ≤ 1000
 ·rw [if_pos hc] at h
  obtain rfl := Option.some.inj h
  obtain ⟨hc1, hc2⟩ := hc
  obtain ⟨ad0, rfl, -⟩ := hr0.2.2 hc1
  have HR0 := Lib.hid hr0
  clear hr0 h
  go_enter Tryz.func149, Tryz.ntmps149
  go_wp2_with fail
  refine (clone_ints ad0 c0 l0 _ HR0.out (by omega)).mono ?_
  rintro e w2 ⟨v, rfl, hR, hb2⟩
  obtain ⟨g, cap, rfl, hgb, -⟩ := Kd.R_form hR hc1
  have HRr := Lib.hid hR
  have HB2 := Lib.hid hb2
  have HGB := Lib.hid hgb
  clear hR hb2 hgb
  go_wp2_with fail
  go_loopw [6] (fun i wr => ∃ (k : Nat), k + 1 ≤ l0.length ∧ i = .int .i64 ((l0.length - 1 - k : Nat) : Int) ∧ Hid (Kd.R (Kd.int .i64) 3 wr w.heap.size (fun _ => True) (.slice (some ⟨g, 0, none⟩) l0.length cap) (outTo b l0 k)) ∧ Hid (Below w.heap.size w wr))
   (fun i _ => (intOf i).toNat)
  case atStart => exact ⟨0, by omega, by go_num, HRr, HB2⟩
  case round =>
   as_aux_lemma =>
    obtain ⟨k, hk, rfl, HS, HB⟩ := hrel
    by_cases hlt : k + 1 < l0.length
    ·obtain ⟨L, hL⟩ : ∃ L, L = l0.length - 1 - k := ⟨_, rfl⟩
     rw [← hL]
     have hL0 : 0 < L := by omega
     have hL1 : L < l0.length := by omega
     obtain ⟨S, hS⟩ : ∃ S, S = outTo b l0 k := ⟨_, rfl⟩
     have hSl : S.length = l0.length := by rw [hS, outTo_len]
     have HS0 := HS.out
     rw [← hS] at HS0
     have HS2 := Lib.hid HS0
     have HSE := Lib.hid hS
     have HSL := Lib.hid hSl
     have HLE := Lib.hid hL
     clear hS hSl HS0 HS hL hlt hk
     go_wp2_with fail
     go_loopw [7] (fun i wr => ∃ (j : Nat), j ≤ L ∧ i = .int .i64 ((j : Int) + 1) ∧ Hid (Kd.R (Kd.int .i64) 3 wr w.heap.size (fun _ => True) (.slice (some ⟨g, 0, none⟩) l0.length cap) (innerTo b S j)) ∧ Hid (Below w.heap.size w wr))
      (fun i _ => L + 1 - (intOf i).toNat)
     case atStart => exact ⟨0, by omega, rfl, HS2, HB⟩
     case round =>
      as_aux_lemma =>
       obtain ⟨j, hj, rfl, HS, HB⟩ := hrel
       by_cases hjl : j < L
       ·obtain ⟨hy, hf⟩ := Kd.R_celln (0 : Int) HS.out ((j + 1 : Nat) : Int) (by omega) (by omega)
        obtain ⟨hz, -⟩ := Kd.R_celln (0 : Int) HS.out (j : Int) (by omega) (by omega)
        rw [Int.toNat_natCast] at hy hf hz
        obtain ⟨y, hy2⟩ : ∃ y, y = (innerTo b S j).getD (j + 1) 0 := ⟨_, rfl⟩
        obtain ⟨z, hz2⟩ : ∃ z, z = (innerTo b S j).getD j 0 := ⟨_, rfl⟩
        rw [show rdOf (0 : Int) (innerTo b S j) ((j + 1 : Nat) : Int) = y by rw [hy2]; rfl] at hy
        rw [show rdOf (0 : Int) (innerTo b S j) (j : Int) = z by rw [hz2]; rfl] at hz
        have HST := Lib.hid (show innerTo b S (j + 1) = (innerTo b S j).set (j + 1) (wrap64 (y + wrap64 (b * z))) by rw [innerTo, updP, ← hy2, ← hz2])
        clear hy2 hz2
        go_upto_region 8 with fail
        refine shift_region g l0.length cap j b y z _ (by omega) hc2 hy hz hf (fun _ _ _ _ _ h => h) ?_
        intro u22_ u23_ u24_ u25_ u26_ u27_ u28_ u29_ u30_ u31_ u32_ u33_ u34_
        have HP := Kd.R_putn HS.out ((j + 1 : Nat) : Int) (wrap64 (y + wrap64 (b * z)))
        rw [Int.toNat_natCast, ← HST.out] at HP
        have HP2 := Lib.hid (show Kd.R (Kd.int .i64) 3 (wr.drew.setCell ⟨g, j + 1, none⟩ (.int .i64 (wrap64 (y + wrap64 (b * z))))) w.heap.size (fun _ => True) _ _ from Kd.R_drew HP)
        have HBP := Lib.hid (show Below w.heap.size w (wr.drew.setCell ⟨g, j + 1, none⟩ (.int .i64 (wrap64 (y + wrap64 (b * z))))) from bl_drew (HB.out.setCell (p := ⟨g, j + 1, none⟩) HGB.out (.int .i64 (wrap64 (y + wrap64 (b * z))))))
        clear HP hy hz hf
        go_wp2_with fail
        exact ⟨⟨j + 1, by omega, by go_num, HP2, HBP⟩, by simp [intOf]; omega⟩
       ·have hjm : j = L := by omega
        have hst : innerTo b S j = outTo b l0 (k + 1) := by
         rw [outTo, hjm, HSE.out, HLE.out]
        rw [hst] at HS
        clear hst
        go_wp2_with fail
        have hle := HLE.out
        exact ⟨⟨k + 1, by omega, by go_num, HS, HB⟩, by simp [intOf]; omega⟩
    ·have hkl : k = l0.length - 1 := by omega
     rw [hkl] at HS
     have h0 : l0.length - 1 - k = 0 := by omega
     rw [h0]
     clear hkl h0
     go_wp2_with fail
     go_ret
     exact ⟨_, rfl, HS.out, HB.out⟩
 ·rw [if_neg hc] at h; cases h
end Go.Proofs.YtmpondcccbmlhaaGreat.Ext
