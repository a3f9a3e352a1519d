/- A part of the claim T: the texts EachRow2, Eqi, ExT1, ExT, without what the claim does not lean on. -/
import Derived.Test.YtmpondcccbmlhaaGreatzT12
import Derived.Test.YtmpondcccbmlhaaGreatzT20
import Derived.Test.YtmpondcccbmlhaaGreatzT31
namespace Go.Proofs.YtmpondcccbmlhaaGreat.Ext
open Go.RowKit Go.Shelf Go.Proofs.YtmpondcccbmlhaaGreatW.PrintWords Go.Proofs.YtmpondcccbmlhaaGreatW.PrintLast Go.Proofs.YtmpondcccbmlhaaGreatW.PrintMore
set_option maxHeartbeats 1000000 in
theorem each_rows2 (g : Nat) (lb : Array Value) (eg : ∀ args w, (callFunc g args).run Tryz.prog w = .ok (.enter g args) w) (chk : Nat → Int) (A : Option Addr) (n c : Nat) (B : Nat → Option Addr) (L C : Nat → Nat) (w : World)
  (hx : ∀ k, k < n → ∃ ad, A = some ad ∧ w.cell? (ad.add k) = some (.slice (B k) (L k) (C k))) (hn : n ≤ 1000000)
  (hk : ∀ (W : World) (i : Nat), i < n → (∀ j, j < i → chk j = 0) → Below w.heap.size w W → Calls Tryz.prog g (#[.int .i64 i, .slice (B i) (L i) (C i)] ++ lb) W fun e w' => e = .returned (.int .i64 (chk i)) ∧ Below W.heap.size W w') :
  Calls Tryz.prog 110 #[.slice A n c, .func (.func g) #[] lb] w fun e w' => e = .returned (.tuple #[.int .i64 (firstBad chk 0 n).1, .int .i64 (firstBad chk 0 n).2]) ∧ Below w.heap.size w w' := by
 have HX := Lib.hid hx
 have HK := Lib.hid hk
 have EG := Lib.hid eg
 clear hx hk eg
 go_enter Tryz.func110, Tryz.ntmps110
 go_wp2_with fail
 go_loopw [11] (fun i wr => ∃ k : Nat, k ≤ n ∧ i = .int .i64 k ∧ Below w.heap.size w wr ∧ RestOf chk n k ∧ Hid (∀ j, j < k → chk j = 0)) (fun i _ => n - (intOf i).toNat)
 case atStart => exact ⟨0, Nat.zero_le _, rfl, Below.refl _ _, rfl, Lib.hid (fun j hj => by omega)⟩
 case round =>
  obtain ⟨k, hk, rfl, hb, hrest, HPV⟩ := hrel
  by_cases hlt : k < n
  ·obtain ⟨ad, rfl, hcell⟩ := HX.out k hlt
   have hc0 := pw_cell_below hb hcell
   have hcall := HK.out wr k hlt HPV.out hb
   have HC := Lib.hid hcall
   have EGO := EG.out
   clear hcall hcell
   by_cases hz : chk k = 0
   ·have HZ := Lib.hid hz
    clear hz
    go_wp2_with fail
    refine (HC.out).mono ?_
    rintro e w1 ⟨rfl, hb1⟩
    rw [HZ.out]
    go_wp2_with fail
    go_roundw
    case rel => exact ⟨k + 1, by omega, by go_num, hb.trans (hb1.mono hb.size), by unfold RestOf at *; rw [hrest, show n - k = (n - (k + 1)) + 1 by omega, firstBad_skip _ _ _ HZ.out], Lib.hid (fun j hj => if hjk : j = k then by rw [hjk]; exact HZ.out else HPV.out j (by omega))⟩
    case measure => simp [intOf]; omega
   ·have HZ := Lib.hid hz
    have hne : (chk k != 0) = true := by simpa using hz
    clear hz
    go_wp2_with fail
    refine (HC.out).mono ?_
    rintro e w1 ⟨rfl, hb1⟩
    go_wp2_with fail
    go_ret2
    refine ⟨?_, hb.trans (hb1.mono hb.size)⟩
    unfold RestOf at hrest
    rw [hrest, show n - k = (n - (k + 1)) + 1 by omega, firstBad_hit _ _ _ HZ.out]
    rfl
  ·have hkn : k = n := by omega
   have HR : firstBad chk 0 n = (0, 0) := by unfold RestOf at hrest; rw [hrest, hkn, Nat.sub_self]; rfl
   have H0 := Lib.hid HR
   clear HR hrest hkn
   go_wp2_with fail
   go_ret2
   rw [H0.out]
   exact ⟨rfl, hb⟩
end Go.Proofs.YtmpondcccbmlhaaGreat.Ext
namespace Go.Proofs.YtmpondcccbmlhaaGreat.Ext
open Go.RowKit Go.Shelf Go.Proofs.YtmpondcccbmlhaaGreatW.PrintWords Go.Proofs.YtmpondcccbmlhaaGreatW.PrintLast Go.Proofs.YtmpondcccbmlhaaGreatW.PrintMore
theorem list_ext {xs ys : List Int} (hl : xs.length = ys.length) (h : ∀ j, j < xs.length → xs.getD j 0 = ys.getD j 0) : xs = ys := by
 refine List.ext_getElem hl (fun i h1 h2 => ?_)
 have := h i h1
 simpa [List.getD_eq_getElem?_getD, h1, h2] using this
set_option maxHeartbeats 2000000 in
set_option maxRecDepth 100000 in
theorem equal_ints (A B : Option Addr) (c d : Nat) (xs ys : List Int) (w : World) (hx : Kd.C (Kd.int .i64) w A xs.length xs) (hy : Kd.C (Kd.int .i64) w B ys.length ys) (r : Bool) (hr : r = decide (xs = ys)) :
  Calls Tryz.prog 130 #[.slice A xs.length c, .slice B ys.length d] w fun e w' => e = .returned (.bool r) ∧ Below w.heap.size w w' := by
 have hb1 := hx.2.1
 have hb2 := hy.2.1
 have HX := Lib.hid hx
 have HY := Lib.hid hy
 have HR := Lib.hid hr
 clear hx hy hr
 go_enter Tryz.func130, Tryz.ntmps130
 by_cases hl : xs.length = ys.length
 ·have HL := Lib.hid hl
  have hn : ((xs.length : Int) != (ys.length : Int)) = false := by simp [hl]
  obtain ⟨n, hxn⟩ : ∃ n, n = xs.length := ⟨_, rfl⟩
  obtain ⟨m, hym⟩ : ∃ m, m = ys.length := ⟨_, rfl⟩
  have hnm : n = m := by omega
  have HXN := Lib.hid hxn
  rw [← hxn] at hn hb1 ⊢
  rw [← hym] at hn hb2 ⊢
  have HYM := Lib.hid hym
  clear hl hxn hym
  subst hnm
  go_wp2_with fail
  go_loopw [13] (fun x wr => ∃ k : Nat, k ≤ n ∧ x = .int .i64 (k : Nat) ∧ Hid (∀ j, j < k → xs.getD j 0 = ys.getD j 0) ∧ Hid (Below w.heap.size w wr))
   (fun x _ => n - (intOf x).toNat)
  case atStart => exact ⟨0, by omega, rfl, Lib.hid (fun j hj => by omega), Lib.hid (Below.refl _ _)⟩
  case round =>
   obtain ⟨k, hk, rfl, HE, HB⟩ := hrel
   by_cases hkn : k < n
   ·obtain ⟨ad, rfl, h1⟩ := Kd.at_int HX.out (k : Int) (by omega) (by rw [← HXN.out]; omega)
    obtain ⟨ad2, rfl, h2⟩ := Kd.at_int HY.out (k : Int) (by omega) (by rw [← HYM.out]; omega)
    rw [rd_nat, Int.toNat_natCast] at h1 h2
    obtain ⟨x, hx⟩ : ∃ x, x = xs.getD k 0 := ⟨_, rfl⟩
    obtain ⟨y, hy⟩ : ∃ y, y = ys.getD k 0 := ⟨_, rfl⟩
    rw [← hx] at h1
    rw [← hy] at h2
    have k1 := pw_cell_below HB.out h1
    have k2 := pw_cell_below HB.out h2
    have HXX := Lib.hid hx
    have HYY := Lib.hid hy
    clear h1 h2 hx hy
    by_cases hxy : x = y
    ·have hd : (x != y) = false := by simp [hxy]
     have HXY := Lib.hid hxy
     clear hxy
     go_upto_region 6 with fail
     go_quiet (fail)
     go_wp2_with fail
     go_roundw
     case rel =>
      refine ⟨k + 1, by omega, by go_num, Lib.hid (fun j hj => ?_), Lib.hid (bl_drewN HB.out _)⟩
      by_cases hjk : j = k
      ·rw [hjk, ← HXX.out, ← HYY.out]; exact HXY.out
      ·exact HE.out j (by omega)
     case measure => simp [intOf]; omega
    ·have hd : (x != y) = true := by simpa using hxy
     have hrf : r = false := by
      rw [HR.out]
      refine decide_eq_false (fun e => hxy ?_)
      rw [HXX.out, HYY.out, e]
     clear hxy
     go_upto_region 6 with fail
     go_quiet (fail)
     go_wp2_with fail
     go_ret
     exact ⟨by rw [hrf]; rfl, bl_drewN HB.out _⟩
   ·have hrt : r = true := by
     rw [HR.out]
     exact decide_eq_true (list_ext HL.out (fun j hj => HE.out j (by rw [← HXN.out] at hj; omega)))
    go_wp2_with fail
    go_ret
    exact ⟨by rw [hrt]; rfl, HB.out⟩
 ·have hn : ((xs.length : Int) != (ys.length : Int)) = true := by simp; omega
  have hrf : r = false := by
   rw [HR.out]
   exact decide_eq_false (fun e => hl (by rw [e]))
  clear hl
  go_wp2_with fail
  go_ret
  exact ⟨by rw [hrf]; rfl, Below.refl _ _⟩
end Go.Proofs.YtmpondcccbmlhaaGreat.Ext
namespace Go.Proofs.YtmpondcccbmlhaaGreat.Ext
open Go Go.RowKit Go.Shelf Go.Proofs.YtmpondcccbmlhaaGreatW.PrintWords Go.Proofs.YtmpondcccbmlhaaGreatW.PrintLast Go.Proofs.YtmpondcccbmlhaaGreatW.PrintMore
def tabChk (p : List Int) (rows : List (List Int)) (k : Nat) : Int := if rows.getD k [] = row p k ∧ 0 < ent (row p k) 0 then 0 else 19
def tabErr (p : List Int) (rows : List (List Int)) : Int × Int := if Sp.polyErr p = 0 then (if rows.length = p.length then firstBad (tabChk p rows) 0 rows.length else (0, 10)) else (0, Sp.polyErr p)
def gov_CheckTable.f (p : List Int) (rows : List (List Int)) : Option (Int × Int) := some (tabErr p rows)
def ctT : Bool × List (List Nat × List Nat) := (true, [([], []), ([], []), ([], []), ([], []), ([2, 3], [2, 3]), ([1, 4], [1, 4]), ([0, 5, 5], [0, 5]), ([6, 6], [6]), ([7], [7]), ([8, 7], [7, 8]), ([9, 7], [7, 9]), ([10, 7], [7, 10]), ([7, 11], [7, 11]), ([12, 7], [12]), ([13, 13, 0, 1, 2, 3, 4, 5, 6, 7, 8, 9, 10, 11, 12, 13], [13])])
def ctB : List Nat := [0, 0, 0, 0, 12, 30, 63, 127, 255, 511, 1023, 2047, 4095, 8191, 16383]
theorem ct_tab : rtab .any (opsOf Tryz.f129 1) = ctT := by kernel_rfl
theorem ct_bits : waitsOk ctT.2 ctB = true := by kernel_rfl
set_option linter.unusedSimpArgs false in
set_option maxHeartbeats 4000000 in
set_option maxRecDepth 100000 in
theorem ct_row (T : List (List Int)) (R p : List Int) (A0 A1 B : Option Addr) (c0 n c1 C b2 b3 : Nat) (w : World) (hp : PolyOk p) (hT : T = rowsTo p T.length) (hTp : T.length < p.length) (hTn : T.length ≤ n) (hnc : n ≤ c1)
  (hP : Kd.C (Kd.int .i64) w A0 p.length p) (hc0 : p.length ≤ c0) (hTC : Kd.C (Kd.slice 3 (Kd.int .i64)) w A1 T.length T) (ha1 : ∃ ad, A1 = some ad) (hR : Kd.C (Kd.int .i64) w B R.length R)
  (h2 : w.cell? ⟨b2, 0, none⟩ = some (.slice A0 p.length c0)) (h3 : w.cell? ⟨b3, 0, none⟩ = some (.slice A1 n c1)) (_hn : n ≤ 1000000) (r : Int) (hr : r = if R = row p T.length ∧ 0 < ent (row p T.length) 0 then 0 else 19) :
  Calls Tryz.prog 129 #[.int .i64 T.length, .slice B R.length C, .pointer (some ⟨b2, 0, none⟩), .pointer (some ⟨b3, 0, none⟩)] w fun e w' => e = .returned (.int .i64 r) ∧ Below w.heap.size w w' := by
 obtain ⟨K9, hK⟩ : ∃ K : Nat, 60000000000000000 < K := ⟨60000000000000001, by omega⟩
 have hnext := next_row hp hTp K9 hK
 rw [← hT] at hnext
 obtain ⟨Y, hY⟩ : ∃ Y, Y = row p T.length := ⟨_, rfl⟩
 rw [← hY] at hnext hr
 have hY0 : 0 < Y.length := by rw [hY, row_len]; omega
 obtain ⟨q, hq⟩ : ∃ q : Bool, q = decide (R = Y) := ⟨_, rfl⟩
 obtain ⟨ad1, rfl⟩ := ha1
 have HN := Lib.hid hnext
 have HP := Lib.hid hP
 have HTC := Lib.hid hTC
 have HR := Lib.hid hR
 have HQ := Lib.hid hq
 have HTL := Lib.hid (show T.length ≤ c1 by omega)
 have hi1 : (T.length : Int) ≤ (c1 : Int) := by omega
 have hi2 : (T.length : Int) ≤ (n : Int) := by omega
 have hi0 : (0 : Int) ≤ (T.length : Int) := by omega
 have HB0 := Lib.hid (bl_drew (Below.refl w.heap.size w))
 have H2 := Lib.hid h2
 have H3 := Lib.hid h3
 have h2d : w.drew.cell? ⟨b2, 0, none⟩ = some (.slice A0 p.length c0) := h2
 have h3d : w.drew.cell? ⟨b3, 0, none⟩ = some (.slice (some ad1) n c1) := h3
 clear hY hT hP hTC hR hp hnext hK hTp hq
 cases q with
 | true =>
  have hRY : R = Y := of_decide_eq_true HQ.out.symm
  have hR0 : 0 < R.length := by rw [hRY]; exact hY0
  obtain ⟨adr, rfl, hx⟩ := Kd.at_int HR.out 0 (by omega) (by omega)
  have e0 : rd R 0 = ent Y 0 := by have := rd_nat R 0; rw [hRY] at this ⊢; simpa [ent] using this
  rw [e0, show Int.toNat 0 = 0 from rfl, Addr.add_zero'] at hx
  obtain ⟨x0, hx0⟩ : ∃ x0, x0 = ent Y 0 := ⟨_, rfl⟩
  rw [← hx0] at hx hr
  have HX := Lib.hid hx
  obtain ⟨g, hg⟩ : ∃ g : Bool, g = decide (x0 > 0) := ⟨_, rfl⟩
  have hr2 : r = if g = true then 0 else 19 := by
   rw [hr, hg]; simp only [decide_eq_true_eq]
   by_cases h : 0 < x0
   ·rw [if_pos ⟨hRY, h⟩, if_pos h]
   ·rw [if_neg (fun e => h e.2), if_neg h]
  have HR2 := Lib.hid hr2
  have hR0' : (0 : Int) < (R.length : Int) := by omega
  have HG := Lib.hid hg
  clear hr hr2 hx hx0 e0 hRY hg
  go_enter Tryz.func129, Tryz.ntmps129
  go_upto_region 1 with fail
  go_cut [6] (fun s6 wx => s6 = .int .i64 r ∧ Below w.heap.size w wx)
  case rest =>
   obtain ⟨rfl, hbx⟩ := hcut
   go_wp2_with fail
   go_ret
   exact ⟨rfl, hbx⟩
  go_region_with (first
   | (go_at_call 131; refine (Q.gov_next.calls K9 A0 c0 p (some ad1) c1 T Y _ (Kd.C_below HP.out HB0.out) hc0 (Kd.C_below HTC.out HB0.out) HTL.out HN.out).mono ?_; rintro e w2 ⟨v2, rfl, hR2, hb2⟩; obtain ⟨A5, c5, e5⟩ := Kd.R_slice hR2; subst e5; have HC5 := Lib.hid (Kd.R_reads' hR2).2.2; have HB2 := Lib.hid (bl_next HB0.out hb2); clear hR2 hb2)
   | (go_at_call 130; refine (equal_ints (some adr) A5 C c5 R Y _ (Kd.C_below HR.out HB2.out) HC5.out true HQ.out).mono ?_; rintro e w3 ⟨rfl, hb3⟩; have HB3 := Lib.hid (bl_next HB2.out hb3); have kx := pw_cell_below HB3.out HX.out; clear hb3)
   | (rw [← HG.out]; go_at_call 93; refine (unless_call g 19 r _ HR2.out).mono ?_; rintro e w4 ⟨rfl, hd4⟩; have HB4 := Lib.hid (bl_drawn HB3.out hd4); clear hd4)
   | (go_at_call 93; rw [← HG.out]; refine (unless_call g 19 r _ HR2.out).mono ?_; rintro e w4 ⟨rfl, hd4⟩; have HB4 := Lib.hid (bl_drawn HB3.out hd4); clear hd4))
  all_goals
   go_wp2_with fail
   go_meet
   exact ⟨rfl, HB4.out⟩
 | false =>
  have hRY : ¬ R = Y := of_decide_eq_false HQ.out.symm
  have hr2 : r = if false = true then 0 else 19 := by
   rw [hr, if_neg (fun e => hRY e.1)]; rfl
  have HR2 := Lib.hid hr2
  clear hr hr2 hRY
  go_enter Tryz.func129, Tryz.ntmps129
  go_upto_region 1 with fail
  refine start_ (n := 15) (S := fun w' => w'.cell? ⟨b2, 0, none⟩ = some (.slice A0 p.length c0) ∧ w'.cell? ⟨b3, 0, none⟩ = some (.slice (some ad1) n c1)) (ds := []) #[false, false, false, false, false, false, false, false, false, false, false, false, false, false, false] (by kernel_rfl) rfl rfl ⟨pw_cell_below HB0.out H2.out, pw_cell_below HB0.out H3.out⟩ (fun hHeld => ?_); refine with_tabW ct_tab ct_bits (fun HT_ HW_ => ?_)
  refine pure_ (i := 0) (N := some 7) (v := ?_) (a' := ?_) #[true, false, false, false, false, false, false, false, false, false, false, false, false, false, false] rfl rfl (any_of HT_.out (by kernel_rfl)) (fun _ _ _ h => h) (Or.inl ⟨by rfl, ?_⟩) ?_ ?_
  rotate_left
  ·intro w'
   go_simp
   with_reducible rfl
  rotate_left
  ·simp only [Act.put, List.setIfInBounds_toArray, List.set_cons_zero, List.set_cons_succ, i64_w]
   rfl
  refine take_ (i := 1) (N := some 8) (v := ?_) (a' := ?_) #[true, true, false, false, false, false, false, false, false, false, false, false, false, false, false] rfl rfl (take_ofW HT_.out HW_.out (by kernel_rfl)) (fun _ _ _ h => h) (Or.inl ⟨by rfl, ?_⟩) hHeld ?_ ?_
  rotate_left
  ·rintro w' ⟨s0, s1⟩
   go_simp
   with_reducible rfl
  rotate_left
  ·simp only [Act.put, List.setIfInBounds_toArray, List.set_cons_zero, List.set_cons_succ, i64_w]
   rfl
  refine take_ (i := 2) (N := some 9) (v := ?_) (a' := ?_) #[true, true, true, false, false, false, false, false, false, false, false, false, false, false, false] rfl rfl (take_ofW HT_.out HW_.out (by kernel_rfl)) (fun _ _ _ h => h) (Or.inl ⟨by rfl, ?_⟩) hHeld ?_ ?_
  rotate_left
  ·rintro w' ⟨s0, s1⟩
   go_simp
   with_reducible rfl
  rotate_left
  ·simp only [Act.put, List.setIfInBounds_toArray, List.set_cons_zero, List.set_cons_succ, i64_w]
   rfl
  refine pure_ (i := 3) (N := some 10) (v := ?_) (a' := ?_) #[true, true, true, true, false, false, false, false, false, false, false, false, false, false, false] rfl rfl (any_of HT_.out (by kernel_rfl)) (fun _ _ _ h => h) (Or.inl ⟨by rfl, ?_⟩) ?_ ?_
  rotate_left
  ·intro w'
   go_simp
   with_reducible rfl
  rotate_left
  ·simp only [Act.put, List.setIfInBounds_toArray, List.set_cons_zero, List.set_cons_succ, i64_w]
   rfl
  refine pure_ (i := 4) (N := some 11) (v := ?_) (a' := ?_) #[true, true, true, true, true, false, false, false, false, false, false, false, false, false, false] rfl rfl (any_of HT_.out (by kernel_rfl)) (fun _ _ _ h => h) (Or.inl ⟨by rfl, ?_⟩) ?_ ?_
  rotate_left
  ·intro w'
   go_simp
   with_reducible rfl
  rotate_left
  ·simp only [Act.put, List.setIfInBounds_toArray, List.set_cons_zero, List.set_cons_succ, i64_w]
   rfl
  refine one_ (i := 5) (N := some 12) #[true, true, true, true, true, true, false, false, false, false, false, false, false, false, false] rfl rfl (one_of HT_.out (by kernel_rfl)) (by decide) (fun K hK => ?_)
  refine goes_ Tryz.func131 (by kernel_rfl) rfl #[.slice A0 p.length c0, .slice (some ad1) T.length c1] (by rfl) rfl rfl (by (try simp only [List.map_toArray, List.map_cons, List.map_nil]); first | done | rfl) ?_
  refine (Q.gov_next.calls K9 A0 c0 p (some ad1) c1 T Y _ (Kd.C_below HP.out HB0.out) hc0 (Kd.C_below HTC.out HB0.out) HTL.out HN.out).mono ?_
  rintro e w2 ⟨v2, rfl, hR2, hb2⟩
  refine ⟨_, rfl, ?_⟩
  obtain ⟨A5, c5, e5⟩ := Kd.R_slice hR2
  subst e5
  have HC5 := Lib.hid (Kd.R_reads' hR2).2.2
  have HB2 := Lib.hid (bl_next HB0.out hb2)
  clear hR2 hb2
  refine hK.out _ _ ⟨pw_cell_below HB2.out H2.out, pw_cell_below HB2.out H3.out⟩ (fun hHeld => ?_)
  clear hK K
  refine norm_ (a' := ?_) ?_ ?_
  rotate_left
  ·show Act.put _ (some 12) _ = _
   simp only [Act.put, List.setIfInBounds_toArray, List.set_cons_zero, List.set_cons_succ, i64_w]
   rfl
  refine one_ (i := 6) (N := some 13) #[true, true, true, true, true, true, true, false, false, false, false, false, false, false, false] rfl rfl (one_of HT_.out (by kernel_rfl)) (by decide) (fun K hK => ?_)
  refine goes_ Tryz.func130 (by kernel_rfl) rfl #[.slice B R.length C, .slice A5 Y.length c5] (by rfl) rfl rfl (by (try simp only [List.map_toArray, List.map_cons, List.map_nil]); first | done | rfl) ?_
  refine (equal_ints B A5 C c5 R Y _ (Kd.C_below HR.out HB2.out) HC5.out false HQ.out).mono ?_
  rintro e w3 ⟨rfl, hb3⟩
  refine ⟨_, rfl, ?_⟩
  have HB3 := Lib.hid (bl_next HB2.out hb3)
  clear hb3
  refine hK.out _ _ ⟨pw_cell_below HB3.out H2.out, pw_cell_below HB3.out H3.out⟩ (fun hHeld => ?_)
  clear hK K
  refine norm_ (a' := ?_) ?_ ?_
  rotate_left
  ·show Act.put _ (some 13) _ = _
   simp only [Act.put, List.setIfInBounds_toArray, List.set_cons_zero, List.set_cons_succ, i64_w]
   rfl
  refine pure_ (i := 7) (N := some 14) (v := ?_) (a' := ?_) #[true, true, true, true, true, true, true, true, false, false, false, false, false, false, false] rfl rfl (any_of HT_.out (by kernel_rfl)) (fun _ _ _ h => h) (Or.inl ⟨by rfl, ?_⟩) ?_ ?_
  rotate_left
  ·intro w'
   go_simp
   with_reducible rfl
  rotate_left
  ·simp only [Act.put, List.setIfInBounds_toArray, List.set_cons_zero, List.set_cons_succ, i64_w]
   rfl
  refine one_ (i := 8) (N := some 15) #[true, true, true, true, true, true, true, true, true, false, false, false, false, false, false] rfl rfl (one_of HT_.out (by kernel_rfl)) (by decide) (fun K hK => ?_)
  refine off_ (by rfl) ?_
  refine hK.out _ _ ⟨pw_cell_below HB3.out H2.out, pw_cell_below HB3.out H3.out⟩ (fun hHeld => ?_)
  clear hK K
  refine norm_ (a' := ?_) ?_ ?_
  rotate_left
  ·show Act.put _ (some 15) _ = _
   simp only [Act.put, List.setIfInBounds_toArray, List.set_cons_zero, List.set_cons_succ, i64_w]
   rfl
  refine one_ (i := 9) (N := some 16) #[true, true, true, true, true, true, true, true, true, true, false, false, false, false, false] rfl rfl (one_of HT_.out (by kernel_rfl)) (by decide) (fun K hK => ?_)
  refine off_ (by rfl) ?_
  refine hK.out _ _ ⟨pw_cell_below HB3.out H2.out, pw_cell_below HB3.out H3.out⟩ (fun hHeld => ?_)
  clear hK K
  refine norm_ (a' := ?_) ?_ ?_
  rotate_left
  ·show Act.put _ (some 16) _ = _
   simp only [Act.put, List.setIfInBounds_toArray, List.set_cons_zero, List.set_cons_succ, i64_w]
   rfl
  refine one_ (i := 10) (N := some 17) #[true, true, true, true, true, true, true, true, true, true, true, false, false, false, false] rfl rfl (one_of HT_.out (by kernel_rfl)) (by decide) (fun K hK => ?_)
  refine off_ (by rfl) ?_
  refine hK.out _ _ ⟨pw_cell_below HB3.out H2.out, pw_cell_below HB3.out H3.out⟩ (fun hHeld => ?_)
  clear hK K
  refine norm_ (a' := ?_) ?_ ?_
  rotate_left
  ·show Act.put _ (some 17) _ = _
   simp only [Act.put, List.setIfInBounds_toArray, List.set_cons_zero, List.set_cons_succ, i64_w]
   rfl
  refine one_ (i := 11) (N := some 18) #[true, true, true, true, true, true, true, true, true, true, true, true, false, false, false] rfl rfl (one_of HT_.out (by kernel_rfl)) (by decide) (fun K hK => ?_)
  refine off_ (by rfl) ?_
  refine hK.out _ _ ⟨pw_cell_below HB3.out H2.out, pw_cell_below HB3.out H3.out⟩ (fun hHeld => ?_)
  clear hK K
  refine norm_ (a' := ?_) ?_ ?_
  rotate_left
  ·show Act.put _ (some 18) _ = _
   simp only [Act.put, List.setIfInBounds_toArray, List.set_cons_zero, List.set_cons_succ, i64_w]
   rfl
  refine pure_ (i := 12) (N := some 19) (v := ?_) (a' := ?_) #[true, true, true, true, true, true, true, true, true, true, true, true, true, false, false] rfl rfl (any_of HT_.out (by kernel_rfl)) (fun _ _ _ h => h) (Or.inl ⟨by rfl, ?_⟩) ?_ ?_
  rotate_left
  ·intro w'
   go_simp
   with_reducible rfl
  rotate_left
  ·simp only [Act.put, List.setIfInBounds_toArray, List.set_cons_zero, List.set_cons_succ, i64_w]
   rfl
  refine one_ (i := 13) (N := some 20) #[true, true, true, true, true, true, true, true, true, true, true, true, true, true, false] rfl rfl (one_of HT_.out (by kernel_rfl)) (by decide) (fun K hK => ?_)
  refine goes_ Tryz.func93 (by kernel_rfl) rfl #[.bool false, .int .i64 19] (by rfl) rfl rfl (by (try simp only [List.map_toArray, List.map_cons, List.map_nil]); first | done | rfl) ?_
  refine (unless_call false 19 r _ HR2.out).mono ?_
  rintro e w4 ⟨rfl, hd4⟩
  refine ⟨_, rfl, ?_⟩
  have HB4 := Lib.hid (bl_drawn HB3.out hd4)
  clear hd4
  refine hK.out _ _ ⟨pw_cell_below HB4.out H2.out, pw_cell_below HB4.out H3.out⟩ (fun hHeld => ?_)
  clear hK K
  refine norm_ (a' := ?_) ?_ ?_
  rotate_left
  ·show Act.put _ (some 20) _ = _
   simp only [Act.put, List.setIfInBounds_toArray, List.set_cons_zero, List.set_cons_succ, i64_w]
   rfl
  refine pure_ (i := 14) (N := some 6) (v := ?_) (a' := ?_) #[true, true, true, true, true, true, true, true, true, true, true, true, true, true, true] rfl rfl (any_of HT_.out (by kernel_rfl)) (fun _ _ _ h => h) (Or.inl ⟨by rfl, ?_⟩) ?_ ?_
  rotate_left
  ·intro w'
   go_simp
   with_reducible rfl
  rotate_left
  ·simp only [Act.put, List.setIfInBounds_toArray, List.set_cons_zero, List.set_cons_succ, i64_w]
   rfl
  refine done_ (done_of HT_.out (by kernel_rfl)) ?_
  go_wp2_with fail
  go_ret
  exact ⟨rfl, HB4.out⟩
theorem take_rows {p : List Int} {rows : List (List Int)} {i : Nat} (hi : i ≤ rows.length) (hprev : ∀ j, j < i → tabChk p rows j = 0) : rows.take i = rowsTo p i ∧ ∀ j, j < i → 0 < ent (row p j) 0 := by
 have h : ∀ j, j < i → rows.getD j [] = row p j ∧ 0 < ent (row p j) 0 := by
  intro j hj
  have := hprev j hj
  unfold tabChk at this
  split at this
  ·assumption
  ·cases this
 refine ⟨List.ext_getElem (by rw [List.length_take, rowsTo_len]; omega) (fun j h1 h2 => ?_), fun j hj => (h j hj).2⟩
 rw [rowsTo_len] at h2
 have e1 := (h j h2).1
 have e2 := rowsTo_get p i j h2
 rw [List.getD_eq_getElem?_getD, List.getElem?_eq_getElem (by omega)] at e1
 rw [List.getD_eq_getElem?_getD, List.getElem?_eq_getElem (by rw [rowsTo_len]; exact h2)] at e2
 simp only [Option.getD_some] at e1 e2
 rw [List.getElem_take, e1, e2]
theorem C_take {α : Type} {d : Kd α} {w : World} {A : Option Addr} {n : Nat} {xs : List α} (h : Kd.C d w A n xs) (k : Nat) (hk : k ≤ n) : Kd.C d w A k (xs.take k) := by
 obtain ⟨h1, h2, h3⟩ := h
 refine ⟨by rw [List.length_take]; omega, by omega, fun h0 => ?_⟩
 obtain ⟨ad, e, hc⟩ := h3 (by omega)
 refine ⟨ad, e, fun j p hj => hc j p ?_⟩
 rw [List.getElem?_take] at hj
 split at hj
 ·exact hj
 ·cases hj
end Go.Proofs.YtmpondcccbmlhaaGreat.Ext
namespace Go.Proofs.YtmpondcccbmlhaaGreat.Ext
open Go Go.RowKit Go.Shelf Go.Proofs.YtmpondcccbmlhaaGreatW.PrintWords Go.Proofs.YtmpondcccbmlhaaGreatW.PrintLast Go.Proofs.YtmpondcccbmlhaaGreatW.PrintMore
theorem polyOk_tab {p : List Int} (h : Sp.polyErr p = 0) : PolyOk p := by
 obtain ⟨h2, h5, hb, -⟩ := poly_of h
 refine ⟨h2, h5, fun i => ?_⟩
 by_cases hi : i < p.length
 ·have := hb i hi
  show (p.getD i 0).natAbs ≤ 1000
  omega
 ·rw [ent_over (by omega)]; decide
theorem lens_eval (p : List Int) (rows : List (List Int)) (u : Int) (h : u = if rows.length = p.length then 0 else 10) : u = if ((rows.length : Int) == (p.length : Int)) = true then 0 else 10 := by
 rw [h]
 by_cases hc : rows.length = p.length
 ·rw [if_pos hc, if_pos (by simp [hc])]
 ·rw [if_neg hc, if_neg (by simp; omega)]
def ckT : Bool × List (List Nat × List Nat) := (true, [([], []), ([0], [0]), ([], []), ([2], [2]), ([], []), ([4], [4]), ([3, 5], [3, 5]), ([6, 1], [6]), ([1, 7], [1, 7]), ([8, 7], [8]), ([9, 9, 0, 1, 2, 3, 4, 5, 6, 7, 8, 9], [9])])
def ckB : List Nat := [0, 1, 0, 4, 0, 16, 60, 124, 255, 511, 1023]
theorem ck_tab : rtab .any (opsOf Tryz.f62 1) = ckT := by kernel_rfl
theorem ck_bits : waitsOk ckT.2 ckB = true := by kernel_rfl
set_option linter.unusedSimpArgs false in
set_option maxHeartbeats 8000000 in
set_option maxRecDepth 100000 in
theorem gov_CheckTable.calls (A0 : Option Addr) (c0 : Nat) (l0 : List Int) (A1 : Option Addr) (c1 : Nat) (l1 : List (List Int)) (r1 r2 : Int) (w : World) (hr0 : Kd.C (Kd.int .i64) w A0 l0.length l0) (hc0 : l0.length ≤ c0) (hr1 : Kd.C (Kd.slice 3 (Kd.int .i64)) w A1 l1.length l1) (hc1 : l1.length ≤ c1) (h : gov_CheckTable.f l0 l1 = some (r1, r2)) :
  Calls Tryz.prog 62 #[.slice A0 l0.length c0, .slice A1 l1.length c1] w fun e w' => e = .returned (.tuple #[.int .i64 r1, .int .i64 r2]) ∧ Below w.heap.size w w' := by
 have hh := Option.some.inj h
 unfold tabErr at hh
 obtain ⟨pe, hpe⟩ : ∃ pe, pe = Sp.polyErr l0 := ⟨_, rfl⟩
 obtain ⟨u, hu⟩ : ∃ u : Int, u = if l1.length = l0.length then 0 else 10 := ⟨_, rfl⟩
 obtain ⟨v, hv⟩ : ∃ v : Int, v = if pe = 0 then u else pe := ⟨_, rfl⟩
 have HPE := Lib.hid hpe
 have HU := Lib.hid (lens_eval l0 l1 u hu)
 have HV := Lib.hid hv
 have HR0 := Lib.hid hr0
 have HR1 := Lib.hid hr1
 have HH := Lib.hid hh
 have HU0 := Lib.hid hu
 have hlb := hr1.2.1
 clear h hh hpe hu hv hr0 hr1
 go_enter Tryz.func62, Tryz.ntmps62
 go_upto_region 1 with fail
 have hb1 : Below w.heap.size w ((w.alloc (Obj.cells #[Value.slice A0 l0.length c0] 22)).alloc (Obj.cells #[Value.slice A1 l1.length c1] 46)) := bl_alloc (bl_alloc (Below.refl _ _) _) _
 have k2 : ((w.alloc (Obj.cells #[Value.slice A0 l0.length c0] 22)).alloc (Obj.cells #[Value.slice A1 l1.length c1] 46)).cell? ⟨w.heap.size, 0, none⟩ = some (Value.slice A0 l0.length c0) := (blk_cell (blk_alloc (blk_new w _) _) 0).trans rfl
 have k3 : ((w.alloc (Obj.cells #[Value.slice A0 l0.length c0] 22)).alloc (Obj.cells #[Value.slice A1 l1.length c1] 46)).cell? ⟨w.heap.size + 1, 0, none⟩ = some (Value.slice A1 l1.length c1) := by
  have := (blk_cell (blk_new (w.alloc (Obj.cells #[Value.slice A0 l0.length c0] 22)) (Obj.cells #[Value.slice A1 l1.length c1] 46)) 0).trans (rfl : _ = some (Value.slice A1 l1.length c1))
  rw [show (w.alloc (Obj.cells #[Value.slice A0 l0.length c0] 22)).heap.size = w.heap.size + 1 from Array.size_push _] at this
  exact this
 generalize ((w.alloc (Obj.cells #[Value.slice A0 l0.length c0] 22)).alloc (Obj.cells #[Value.slice A1 l1.length c1] 46)) = W1 at hb1 k2 k3 ⊢
 have HB1 := Lib.hid hb1
 have HK2 := Lib.hid k2
 have HK3 := Lib.hid k3
 clear hb1
 go_cut [6] (fun s6 wx => s6 = .int .i64 v ∧ Hid (Below W1.heap.size W1 wx))
 case first =>
  have HD0 := Lib.hid (bl_drew (Below.refl W1.heap.size W1))
  refine start_ (n := 11) (S := fun w' => w'.cell? ⟨w.heap.size, 0, none⟩ = some (.slice A0 l0.length c0) ∧ w'.cell? ⟨w.heap.size + 1, 0, none⟩ = some (.slice A1 l1.length c1)) (ds := []) #[false, false, false, false, false, false, false, false, false, false, false] (by kernel_rfl) rfl rfl ⟨pw_cell_below HD0.out HK2.out, pw_cell_below HD0.out HK3.out⟩ (fun hHeld => ?_); refine with_tabW ck_tab ck_bits (fun HT_ HW_ => ?_)
  refine take_ (i := 0) (N := some 7) (v := ?_) (a' := ?_) #[true, false, false, false, false, false, false, false, false, false, false] rfl rfl (take_ofW HT_.out HW_.out (by kernel_rfl)) (fun _ _ _ h => h) (Or.inl ⟨by rfl, ?_⟩) hHeld ?_ ?_
  rotate_left
  ·rintro w' ⟨s0, s1⟩
   go_simp
   with_reducible rfl
  rotate_left
  ·simp only [Act.put, List.setIfInBounds_toArray, List.set_cons_zero, List.set_cons_succ, i64_w]
   rfl
  refine take_ (i := 2) (N := some 9) (v := ?_) (a' := ?_) #[true, false, true, false, false, false, false, false, false, false, false] rfl rfl (take_ofW HT_.out HW_.out (by kernel_rfl)) (fun _ _ _ h => h) (Or.inl ⟨by rfl, ?_⟩) hHeld ?_ ?_
  rotate_left
  ·rintro w' ⟨s0, s1⟩
   go_simp
   with_reducible rfl
  rotate_left
  ·simp only [Act.put, List.setIfInBounds_toArray, List.set_cons_zero, List.set_cons_succ, i64_w]
   rfl
  refine take_ (i := 4) (N := some 11) (v := ?_) (a' := ?_) #[true, false, true, false, true, false, false, false, false, false, false] rfl rfl (take_ofW HT_.out HW_.out (by kernel_rfl)) (fun _ _ _ h => h) (Or.inl ⟨by rfl, ?_⟩) hHeld ?_ ?_
  rotate_left
  ·rintro w' ⟨s0, s1⟩
   go_simp
   with_reducible rfl
  rotate_left
  ·simp only [Act.put, List.setIfInBounds_toArray, List.set_cons_zero, List.set_cons_succ, i64_w]
   rfl
  refine pure_ (i := 3) (N := some 10) (v := ?_) (a' := ?_) #[true, false, true, true, true, false, false, false, false, false, false] rfl rfl (any_of HT_.out (by kernel_rfl)) (fun _ _ _ h => h) (Or.inl ⟨by rfl, ?_⟩) ?_ ?_
  rotate_left
  ·intro w'
   go_simp
   with_reducible rfl
  rotate_left
  ·simp only [Act.put, List.setIfInBounds_toArray, List.set_cons_zero, List.set_cons_succ, i64_w]
   rfl
  refine pure_ (i := 5) (N := some 12) (v := ?_) (a' := ?_) #[true, false, true, true, true, true, false, false, false, false, false] rfl rfl (any_of HT_.out (by kernel_rfl)) (fun _ _ _ h => h) (Or.inl ⟨by rfl, ?_⟩) ?_ ?_
  rotate_left
  ·intro w'
   go_simp
   with_reducible rfl
  rotate_left
  ·simp only [Act.put, List.setIfInBounds_toArray, List.set_cons_zero, List.set_cons_succ, i64_w]
   rfl
  refine pure_ (i := 6) (N := some 13) (v := ?_) (a' := ?_) #[true, false, true, true, true, true, true, false, false, false, false] rfl rfl (any_of HT_.out (by kernel_rfl)) (fun _ _ _ h => h) (Or.inl ⟨by rfl, ?_⟩) ?_ ?_
  rotate_left
  ·intro w'
   go_simp
   with_reducible rfl
  rotate_left
  ·simp only [Act.put, List.setIfInBounds_toArray, List.set_cons_zero, List.set_cons_succ, i64_w]
   rfl
  refine one_ (i := 1) (N := some 8) #[true, true, true, true, true, true, true, false, false, false, false] rfl rfl (one_of HT_.out (by kernel_rfl)) (by decide) (fun K hK => ?_)
  refine goes_ Tryz.func64 (by kernel_rfl) rfl #[.slice A0 l0.length c0] (by rfl) rfl rfl (by (try simp only [List.map_toArray, List.map_cons, List.map_nil]); first | done | rfl) ?_
  refine (gov_CheckPolynomial.calls A0 c0 l0 pe _ (Kd.C_below HR0.out (bl_drew HB1.out)) hc0 (by rw [HPE.out]; rfl)).mono ?_
  rintro e w2 ⟨rfl, hb2⟩
  refine ⟨_, rfl, ?_⟩
  have HB2 := Lib.hid (bl_next HD0.out hb2)
  clear hb2
  refine hK.out _ _ ⟨pw_cell_below HB2.out HK2.out, pw_cell_below HB2.out HK3.out⟩ (fun hHeld => ?_)
  clear hK K
  refine norm_ (a' := ?_) ?_ ?_
  rotate_left
  ·show Act.put _ (some 8) _ = _
   simp only [Act.put, List.setIfInBounds_toArray, List.set_cons_zero, List.set_cons_succ, i64_w]
   rfl
  refine one_ (i := 7) (N := some 14) #[true, true, true, true, true, true, true, true, false, false, false] rfl rfl (one_of HT_.out (by kernel_rfl)) (by decide) (fun K hK => ?_)
  refine goes_ Tryz.func93 (by kernel_rfl) rfl #[.bool ((l1.length : Int) == (l0.length : Int)), .int .i64 10] (by rfl) rfl rfl (by (try simp only [List.map_toArray, List.map_cons, List.map_nil]); first | done | rfl) ?_
  refine (unless_call _ 10 u _ HU.out).mono ?_
  rintro e w3 ⟨rfl, hd3⟩
  refine ⟨_, rfl, ?_⟩
  have HB3 := Lib.hid (bl_drawn HB2.out hd3)
  clear hd3
  refine hK.out _ _ ⟨pw_cell_below HB3.out HK2.out, pw_cell_below HB3.out HK3.out⟩ (fun hHeld => ?_)
  clear hK K
  refine norm_ (a' := ?_) ?_ ?_
  rotate_left
  ·show Act.put _ (some 14) _ = _
   simp only [Act.put, List.setIfInBounds_toArray, List.set_cons_zero, List.set_cons_succ, i64_w]
   rfl
  refine one_ (i := 8) (N := some 15) #[true, true, true, true, true, true, true, true, true, false, false] rfl rfl (one_of HT_.out (by kernel_rfl)) (by decide) (fun K hK => ?_)
  refine value_ (w1 := ?_) (v := ?_) (by rfl) rfl ?_ ?_
  rotate_left 2
  ·go_simp
   constructor
   ·rfl
   ·rfl
  refine hK.out _ _ ⟨pw_cell_below (bl_alloc HB3.out _) HK2.out, pw_cell_below (bl_alloc HB3.out _) HK3.out⟩ (fun hHeld => ?_)
  clear hK K
  refine norm_ (a' := ?_) ?_ ?_
  rotate_left
  ·show Act.put _ (some 15) _ = _
   simp only [Act.put, List.setIfInBounds_toArray, List.set_cons_zero, List.set_cons_succ, i64_w]
   rfl
  refine one_ (i := 9) (N := some 16) #[true, true, true, true, true, true, true, true, true, true, false] rfl rfl (one_of HT_.out (by kernel_rfl)) (by decide) (fun K hK => ?_)
  refine goes_ Tryz.func90 (by kernel_rfl) rfl #[.slice (some ⟨w3.heap.size, 0, none⟩) 2 2] (by rfl) rfl rfl (by (try simp only [List.map_toArray, List.map_cons, List.map_nil]); first | done | rfl) ?_
  refine (first_lit2 _ _ _ _ _ HV.out).mono ?_
  rintro e w4 ⟨rfl, hd4⟩
  refine ⟨_, rfl, ?_⟩
  have HB4 := Lib.hid (bl_drawn (bl_alloc HB3.out _) hd4)
  clear hd4
  refine hK.out _ _ ⟨pw_cell_below HB4.out HK2.out, pw_cell_below HB4.out HK3.out⟩ (fun hHeld => ?_)
  clear hK K
  refine norm_ (a' := ?_) ?_ ?_
  rotate_left
  ·show Act.put _ (some 16) _ = _
   simp only [Act.put, List.setIfInBounds_toArray, List.set_cons_zero, List.set_cons_succ, i64_w]
   rfl
  refine pure_ (i := 10) (N := some 6) (v := ?_) (a' := ?_) #[true, true, true, true, true, true, true, true, true, true, true] rfl rfl (any_of HT_.out (by kernel_rfl)) (fun _ _ _ h => h) (Or.inl ⟨by rfl, ?_⟩) ?_ ?_
  rotate_left
  ·intro w'
   go_simp
   with_reducible rfl
  rotate_left
  ·simp only [Act.put, List.setIfInBounds_toArray, List.set_cons_zero, List.set_cons_succ, i64_w]
   rfl
  refine done_ (done_of HT_.out (by kernel_rfl)) ?_
  go_wp2_with fail
  go_meet
  exact ⟨rfl, HB4⟩
 case rest =>
  obtain ⟨rfl, HBX⟩ := hcut
  have k2x := pw_cell_below HBX.out k2
  have k3x := pw_cell_below HBX.out k3
  have hh := HH.out
  by_cases hz : v = 0
  ·have hpe : pe = 0 := by
    have := HV.out
    by_cases hp : pe = 0
    ·exact hp
    ·rw [if_neg hp] at this; omega
   have hlen : l1.length = l0.length := by
    have h1 := HV.out
    have h2 := HU0.out
    rw [if_pos hpe] at h1
    by_cases hl : l1.length = l0.length
    ·exact hl
    ·rw [if_neg hl] at h2; omega
   have hpo : Sp.polyErr l0 = 0 := by rw [← HPE.out]; exact hpe
   rw [if_pos hpo, if_pos hlen] at hh
   have HPO := Lib.hid (polyOk_tab hpo)
   have hl5 : l1.length ≤ 5 := by rw [hlen]; exact HPO.out.len5
   have hl2 : 2 ≤ l1.length := by rw [hlen]; exact HPO.out.len2
   have HLEN := Lib.hid hlen
   have HH2 := Lib.hid hh
   obtain ⟨B, C, hBC⟩ := rows_fns HR1.out
   have HBC := Lib.hid hBC
   have HBY := Lib.hid (bl_next HB1.out HBX.out)
   have HL5 := Lib.hid hl5
   have HL2 := Lib.hid hl2
   subst hz
   clear hpe hlen hpo hh hBC k2 k3
   go_wp2_with fail
   refine (each_rows2 129 #[.pointer (some ⟨w.heap.size, 0, none⟩), .pointer (some ⟨w.heap.size + 1, 0, none⟩)] (enters_of Tryz.func129 (by kernel_rfl) rfl) (tabChk l0 l1) A1 l1.length c1 B (fun k => (l1.getD k []).length) C _ ?cells (by have := HL5.out; omega) ?chk).mono ?_
   case cells =>
    intro k hk
    obtain ⟨ad, hA, hc⟩ := (HBC.out k hk).1
    exact ⟨ad, hA, pw_cell_below HBY.out hc⟩
   case chk =>
    intro W i hi hprev hbW
    obtain ⟨hT, -⟩ := take_rows (p := l0) (rows := l1) (i := i) (by omega) hprev
    have hTl : (l1.take i).length = i := by rw [List.length_take]; omega
    have hW := bl_next HBY.out hbW
    have hCT := C_take (Kd.C_below HR1.out hW) i (by omega)
    have hres := ct_row (l1.take i) (l1.getD i []) l0 A0 A1 (B i) c0 l1.length c1 (C i) w.heap.size (w.heap.size + 1) W HPO.out (by rw [hTl]; exact hT) (by rw [hTl, ← HLEN.out]; exact hi) (by rw [hTl]; omega) hc1
     (Kd.C_below HR0.out hW) hc0 (by rw [hTl]; exact hCT) (by obtain ⟨ad, hA, -⟩ := (HBC.out i hi).1; exact ⟨ad, hA⟩) (Kd.C_below (HBC.out i hi).2.2 hW) (pw_cell_below (bl_next HBX.out hbW) HK2.out) (pw_cell_below (bl_next HBX.out hbW) HK3.out) (by have := HL5.out; omega) (tabChk l0 l1 i) (by rw [hTl]; rfl)
    rw [hTl] at hres
    exact hres
   rintro e w9 ⟨rfl, hb9⟩
   have HB9 := Lib.hid (bl_next HBY.out hb9)
   clear hb9
   rw [HH2.out]
   go_wp2_with fail
   go_ret2
   exact ⟨rfl, HB9.out⟩
  ·have e1 : r1 = 0 ∧ r2 = v := by
    by_cases hp : pe = 0
    ·have hpo : Sp.polyErr l0 = 0 := by rw [← HPE.out]; exact hp
     have h1 := HV.out
     rw [if_pos hp] at h1
     have h2 := HU0.out
     by_cases hl : l1.length = l0.length
     ·rw [if_pos hl] at h2; omega
     ·rw [if_neg hl] at h2
      rw [if_pos hpo, if_neg hl] at hh
      injection hh with h3 h4
      exact ⟨h3.symm, by rw [← h4, h1, h2]⟩
    ·have hpo : ¬ Sp.polyErr l0 = 0 := by rw [← HPE.out]; exact hp
     have h1 := HV.out
     rw [if_neg hp] at h1
     rw [if_neg hpo] at hh
     injection hh with h3 h4
     exact ⟨h3.symm, by rw [← h4, h1, HPE.out]⟩
   have hvz : (v != 0) = true := by simpa using hz
   clear hz hh
   obtain ⟨rfl, rfl⟩ := e1
   go_wp2_with fail
   go_ret2
   exact ⟨rfl, bl_next HB1.out HBX.out⟩
end Go.Proofs.YtmpondcccbmlhaaGreat.Ext
