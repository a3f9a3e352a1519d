/- A part of the claim T: the texts Rtb, Tbs, ExA, without what the claim does not lean on. -/
import Derived.Test.YtmpondcccbmlhaaGreatzT18
import Derived.Test.YtmpondcccbmlhaaGreatzT19
namespace Go.Proofs.YtmpondcccbmlhaaGreat.Ext
open Go.RowKit Go.Proofs.YtmpondcccbmlhaaGreatW.PrintWords Go.Proofs.YtmpondcccbmlhaaGreatW.PrintLast Go.Proofs.YtmpondcccbmlhaaGreatW.PrintMore
theorem bsize_abs (x : Int) (h0 : -9000000000000000000 ≤ x) (h1 : x ≤ 9000000000000000000) : T.gba_Size.f x = some (x.natAbs : Int) := by
 unfold T.gba_Size.f mx
 rw [w64 (by omega) (by omega)]
 split <;> (congr 1; omega)
theorem rgcd_l0 : ∀ (n : Nat) (a b : Int), b.natAbs ≤ n → a.natAbs ≤ 9000000000000000000 → b.natAbs ≤ 9000000000000000000 → ∀ k, n + 2 ≤ k → T.gba_Gcd.l0 k a b = some ((Nat.gcd a.natAbs b.natAbs : Nat) : Int) := by
 intro n
 induction n with
 | zero =>
  intro a b hb ha hb2 k hk
  obtain ⟨k, rfl⟩ : ∃ m, k = m + 1 := ⟨k - 1, by omega⟩
  have hb0 : b = 0 := by omega
  rw [T.gba_Gcd.l0, if_pos hb0, bsize_abs a (by omega) (by omega), hb0]
  simp
 | succ n ih =>
  intro a b hb ha hb2 k hk
  obtain ⟨k, rfl⟩ : ∃ m, k = m + 1 := ⟨k - 1, by omega⟩
  rw [T.gba_Gcd.l0]
  by_cases hb0 : b = 0
  ·rw [if_pos hb0, bsize_abs a (by omega) (by omega), hb0]
   simp
  ·have hm : (Int.tmod a b).natAbs = a.natAbs % b.natAbs := Int.natAbs_tmod a b
   have hlt : a.natAbs % b.natAbs < b.natAbs := Nat.mod_lt _ (by omega)
   rw [if_neg hb0, ih b (Int.tmod a b) (by omega) hb2 (by omega) k (by omega), hm, Nat.gcd_comm a.natAbs, Nat.gcd_rec b.natAbs a.natAbs, Nat.gcd_comm]
theorem rgcd_eval (a b : Int) (B : Nat) (hB : B ≤ 9000000000000000000) (ha : a.natAbs ≤ B) (hb : b.natAbs ≤ B) (k : Nat) (hk : B + 2 ≤ k) : T.gba_Gcd.f k a b = some ((Nat.gcd a.natAbs b.natAbs : Nat) : Int) :=
 rgcd_l0 b.natAbs a b (Nat.le_refl _) (by omega) (by omega) k (by omega)
theorem rred_l1 (x : List Int) (g : Nat) (hg : 0 < g) (hgb : g ≤ 9000000000000000000) (hx : x.length ≤ 1000000) (hb : ∀ i, (ent x i).natAbs ≤ 9000000000000000000) (hdv : ∀ i, (g : Int) ∣ ent x i) :
  ∀ (d k i : Nat) (acc : List Int), x.length - i = d → i ≤ x.length → acc.length = i → d < k →
   T.gr6_reduced.l1 k x (g : Int) acc (i : Int) = some (acc ++ (x.drop i).map (· / (g : Int))) := by
 intro d
 induction d with
 | zero =>
  intro k i acc hd hi ha hk
  obtain ⟨k, rfl⟩ : ∃ m, k = m + 1 := ⟨k - 1, by omega⟩
  rw [T.gr6_reduced.l1, if_neg (by omega), List.drop_of_length_le (by omega)]
  simp
 | succ d ih =>
  intro k i acc hd hi ha hk
  obtain ⟨k, rfl⟩ : ∃ m, k = m + 1 := ⟨k - 1, by omega⟩
  have hil : i < x.length := by omega
  rw [T.gr6_reduced.l1, if_pos (by omega), if_pos (by omega), if_neg (by omega), if_pos (by omega), rd_nat]
  obtain ⟨q, hq⟩ := hdv i
  have hq2 : x.getD i 0 = (g : Int) * q := hq
  have hqd : x.getD i 0 / (g : Int) = q := by rw [hq2]; exact Int.mul_ediv_cancel_left _ (by omega)
  have hqt : Int.tdiv (x.getD i 0) (g : Int) = q := by rw [hq2]; exact Int.mul_tdiv_cancel_left _ (by omega)
  have hqb : q.natAbs ≤ 9000000000000000000 := by
   have hb2 := hb i
   rw [hq, Int.natAbs_mul, Int.natAbs_natCast] at hb2
   have : 1 * q.natAbs ≤ g * q.natAbs := Nat.mul_le_mul_right _ (by omega)
   omega
  rw [hqt, w64 (n := q) (by omega) (by omega), w64 (n := (i : Int) + 1) (by omega) (by omega)]
  have := ih k (i + 1) (acc ++ [q]) (by omega) (by omega) (by simp [ha]) (by omega)
  rw [show ((i + 1 : Nat) : Int) = (i : Int) + 1 by omega] at this
  rw [this, drop_getD x i hil, List.map_cons, hqd, List.append_assoc]
  rfl
theorem gcd_le {g y B : Nat} (hg : g ≤ B) (hy : y ≤ B) : Nat.gcd g y ≤ B := by
 by_cases h : g = 0
 ·subst h; rw [Nat.gcd_zero_left]; exact hy
 ·exact Nat.le_trans (Nat.gcd_le_left _ (by omega)) hg
theorem rred_l0 (x : List Int) (B : Nat) (hB : B ≤ 9000000000000000000) (hx : x.length ≤ 1000000) (hb : ∀ i, (ent x i).natAbs ≤ B) :
  ∀ (d k i g : Nat), x.length - i = d → i ≤ x.length → g ≤ B → g = (x.take i).foldl (fun g y => Nat.gcd g y.natAbs) 0 → d + (B + 2) + x.length + 2 ≤ k →
   T.gr6_reduced.l0 k x (g : Int) (i : Int) = some (red x) := by
 intro d
 induction d with
 | zero =>
  intro k i g hd hi hgB hg hk
  obtain ⟨k, rfl⟩ : ∃ m, k = m + 1 := ⟨k - 1, by omega⟩
  rw [T.gr6_reduced.l0, if_neg (by omega)]
  have hgx : g = gcdL x := by rw [hg, List.take_of_length_le (by omega)]; rfl
  unfold red
  by_cases h0 : g = 0
  ·rw [if_pos (by omega), if_pos (by omega)]
  ·rw [if_neg (by omega), if_neg (by omega), ← hgx]
   have := rred_l1 x g (by omega) (by omega) hx (fun i => by have := hb i; omega) (fun j => by
    rw [hgx]
    by_cases hj : j < x.length
    ·exact gcdL_dvd x _ (ent_mem hj)
    ·rw [ent_over (by omega)]; exact Int.dvd_zero _) x.length k 0 [] (by omega) (by omega) rfl (by omega)
   rw [show ((0 : Nat) : Int) = 0 from rfl, List.nil_append, List.drop_zero] at this
   exact this
 | succ d ih =>
  intro k i g hd hi hgB hg hk
  obtain ⟨k, rfl⟩ : ∃ m, k = m + 1 := ⟨k - 1, by omega⟩
  have hbi : (x.getD i 0).natAbs ≤ B := hb i
  rw [T.gr6_reduced.l0, if_pos (by omega), if_pos (by omega), rd_nat, rgcd_eval _ _ B hB (by omega) hbi k (by omega)]
  simp only [Option.bind_some, Int.natAbs_natCast]
  rw [w64 (by omega) (by omega)]
  have := ih k (i + 1) (Nat.gcd g (x.getD i 0).natAbs) (by omega) (by omega) (gcd_le hgB hbi) ?_ (by omega)
  ·rw [show ((i + 1 : Nat) : Int) = (i : Int) + 1 by omega] at this
   exact this
  ·rw [List.take_succ_eq_append_getElem (by omega), List.foldl_append, List.foldl_cons, List.foldl_nil, ← hg]
   congr 1
   rw [List.getD_eq_getElem?_getD, List.getElem?_eq_getElem (by omega)]; rfl
theorem rreduced_eval (x : List Int) (B : Nat) (hB : B ≤ 9000000000000000000) (hx : x.length ≤ 1000000) (hb : ∀ i, (ent x i).natAbs ≤ B) (k : Nat) (hk : 2 * x.length + B + 4 ≤ k) : T.gr6_reduced.f k x = some (red x) := by
 have := rred_l0 x B hB hx hb x.length k 0 0 (by omega) (by omega) (by omega) rfl (by omega)
 exact this
theorem rentry_eval (l : List Int) (i : Nat) : T.gr6_entry.f l (i : Int) = some (ent l i) := by
 unfold T.gr6_entry.f ent
 by_cases h : i < l.length
 ·rw [if_pos (by omega), if_pos (by omega), rd_nat]
 ·rw [if_neg (by omega), List.getD_eq_getElem?_getD, List.getElem?_eq_none (by omega)]; rfl
end Go.Proofs.YtmpondcccbmlhaaGreat.Ext
namespace Go.Proofs.YtmpondcccbmlhaaGreat.Ext
open Go.RowKit Go.Proofs.YtmpondcccbmlhaaGreatW.PrintWords Go.Proofs.YtmpondcccbmlhaaGreatW.PrintLast Go.Proofs.YtmpondcccbmlhaaGreatW.PrintMore
theorem poly_ok {p : List Int} (h : 2 ≤ p.length ∧ p.length ≤ 5 ∧ ∀ x ∈ p, -1000 ≤ x ∧ x ≤ 1000) : PolyOk p := by
 refine ⟨h.1, h.2.1, fun i => ?_⟩
 by_cases hi : i < p.length
 ·have := h.2.2 _ (ent_mem hi); omega
 ·rw [ent_over (by omega)]; decide
theorem table_is {p : List Int} {k : Nat} (h1 : 1 ≤ k) (h2 : k ≤ p.length) (hp : ∀ j, j + 1 < k → 0 < ent (row p j) 0) (he : k = p.length ∨ ent (row p (k - 1)) 0 ≤ 0) : tableOf p = rowsTo p k := by
 obtain ⟨m, m1, m2, m3, m4, m5⟩ := tabGo_spec p p.length 0 (by omega) (by omega)
 have hm : m = k := by
  by_cases hlt : m < k
  ·obtain ⟨n1, n2⟩ := m5 (by omega)
   have := hp (m - 1) (by omega)
   omega
  ·by_cases hgt : k < m
   ·have := m4 (k - 1) (by omega) (by omega)
    rcases he with he | he <;> omega
   ·omega
 rw [← hm]; exact m3
def evenc (p : List Int) (i : Nat) : List Int := (List.range ((i + 1) / 2)).map fun j => ent p (2 * j)
def oddc (p : List Int) (i : Nat) : List Int := (List.range (i / 2)).map fun j => ent p (2 * j + 1)
theorem evenc_even {p : List Int} {i : Nat} (h : i % 2 = 0) : evenc p (i + 1) = evenc p i ++ [ent p i] := by
 unfold evenc
 rw [show (i + 1 + 1) / 2 = (i + 1) / 2 + 1 by omega, List.range_succ, List.map_append, List.map_cons, List.map_nil, show 2 * ((i + 1) / 2) = i by omega]
theorem evenc_odd {p : List Int} {i : Nat} (h : ¬ i % 2 = 0) : evenc p (i + 1) = evenc p i := by
 unfold evenc
 rw [show (i + 1 + 1) / 2 = (i + 1) / 2 by omega]
theorem oddc_odd {p : List Int} {i : Nat} (h : ¬ i % 2 = 0) : oddc p (i + 1) = oddc p i ++ [ent p i] := by
 unfold oddc
 rw [show (i + 1) / 2 = i / 2 + 1 by omega, List.range_succ, List.map_append, List.map_cons, List.map_nil, show 2 * (i / 2) + 1 = i by omega]
theorem oddc_even {p : List Int} {i : Nat} (h : i % 2 = 0) : oddc p (i + 1) = oddc p i := by
 unfold oddc
 rw [show (i + 1) / 2 = i / 2 by omega]
theorem evenc_len (p : List Int) (i : Nat) : (evenc p i).length = (i + 1) / 2 := by simp [evenc]
theorem oddc_len (p : List Int) (i : Nat) : (oddc p i).length = i / 2 := by simp [oddc]
theorem evenc_row {p : List Int} (h : PolyOk p) : red (evenc p p.length) = row p 0 := by
 have h2 := h.len2
 show red (evenc p p.length) = red (rawRow p 0 [] [])
 congr 1
 refine eq_of_ent (by rw [evenc_len, rawRow_len]; omega) fun j hj => ?_
 rw [evenc_len] at hj
 rw [raw_ent]
 unfold evenc
 rw [ent_map, if_pos hj, if_pos (by omega), if_pos (by omega)]
 rfl
theorem oddc_row {p : List Int} (h : PolyOk p) : red (oddc p p.length) = row p 1 := by
 have h2 := h.len2
 show red (oddc p p.length) = red (rawRow p 1 [] (row p 0))
 congr 1
 refine eq_of_ent (by rw [oddc_len, rawRow_len]; omega) fun j hj => ?_
 rw [oddc_len] at hj
 rw [raw_ent]
 unfold oddc
 rw [ent_map, if_pos hj, if_pos (by omega), if_pos (by omega)]
theorem evenc_bound {p : List Int} (h : PolyOk p) (n i : Nat) : (ent (evenc p n) i).natAbs ≤ 1000 := by
 unfold evenc; rw [ent_map]; split
 ·exact h.pb _
 ·decide
theorem oddc_bound {p : List Int} (h : PolyOk p) (n i : Nat) : (ent (oddc p n) i).natAbs ≤ 1000 := by
 unfold oddc; rw [ent_map]; split
 ·exact h.pb _
 ·decide
theorem red_evenc {p : List Int} (h : PolyOk p) (k : Nat) (hk : 2000 ≤ k) : T.gr6_reduced.f k (evenc p p.length) = some (row p 0) := by
 have h5 := h.len5
 rw [rreduced_eval _ 1000 (by omega) (by rw [evenc_len]; omega) (evenc_bound h _) k (by rw [evenc_len]; omega), evenc_row h]
theorem red_oddc {p : List Int} (h : PolyOk p) (k : Nat) (hk : 2000 ≤ k) : T.gr6_reduced.f k (oddc p p.length) = some (row p 1) := by
 have h5 := h.len5
 rw [rreduced_eval _ 1000 (by omega) (by rw [oddc_len]; omega) (oddc_bound h _) k (by rw [oddc_len]; omega), oddc_row h]
def laterTo (p : List Int) (k j : Nat) : List Int := (List.range j).map fun i => ent (row p (k - 1)) 0 * ent (row p (k - 2)) (i + 1) - ent (row p (k - 2)) 0 * ent (row p (k - 1)) (i + 1)
theorem later_next (p : List Int) (k j : Nat) : laterTo p k (j + 1) = laterTo p k j ++ [ent (row p (k - 1)) 0 * ent (row p (k - 2)) (j + 1) - ent (row p (k - 2)) 0 * ent (row p (k - 1)) (j + 1)] := by
 unfold laterTo; rw [List.range_succ, List.map_append]; rfl
theorem later_len (p : List Int) (k j : Nat) : (laterTo p k j).length = j := by simp [laterTo]
theorem later_bounds {p : List Int} (h : PolyOk p) {k : Nat} (h2 : 2 ≤ k) (hk : k < p.length) (i : Nat) :
  (ent (row p (k - 1)) 0 * ent (row p (k - 2)) (i + 1)).natAbs ≤ 8000000000000000 ∧ (ent (row p (k - 2)) 0 * ent (row p (k - 1)) (i + 1)).natAbs ≤ 8000000000000000 := by
 have h5 := h.len5
 have hb := bnd_le (a := k - 2) (b := k - 1) (by omega) (by omega)
 have m1 := mul_natAbs_le (row_bound h (k - 1) (by omega) 0) (row_bound h (k - 2) (by omega) (i + 1))
 have m2 := mul_natAbs_le (row_bound h (k - 2) (by omega) 0) (row_bound h (k - 1) (by omega) (i + 1))
 rw [Nat.mul_comm] at m1
 omega
theorem red_later {p : List Int} (h : PolyOk p) {k : Nat} (h2 : 2 ≤ k) (hk : k < p.length) (q : Nat) (hq : 20000000000000000 ≤ q) : T.gr6_reduced.f q (laterTo p k ((p.length - 1 - k) / 2 + 1)) = some (row p k) := by
 have h5 := h.len5
 have hb : ∀ i, (ent (laterTo p k ((p.length - 1 - k) / 2 + 1)) i).natAbs ≤ 16000000000000000 := by
  intro i
  unfold laterTo; rw [ent_map]; split
  ·have := later_bounds h h2 hk i; omega
  ·decide
 rw [rreduced_eval _ 16000000000000000 (by omega) (by rw [later_len]; omega) hb q (by rw [later_len]; omega)]
 obtain ⟨k, rfl⟩ : ∃ k', k = k' + 2 := ⟨k - 2, by omega⟩
 rw [row_step]
 congr 2
end Go.Proofs.YtmpondcccbmlhaaGreat.Ext
namespace Go.Proofs.YtmpondcccbmlhaaGreat.Ext
open Go.RowKit Go.Shelf Go.Proofs.YtmpondcccbmlhaaGreatW.PrintWords Go.Proofs.YtmpondcccbmlhaaGreatW.PrintLast Go.Proofs.YtmpondcccbmlhaaGreatW.PrintMore
def gov_CheckPolynomial.f (l0 : List Int) : Option Int := some (Sp.polyErr l0)
set_option maxHeartbeats 1000000 in
theorem gov_CheckPolynomial.calls (A0 : Option Addr) (c0 : Nat) (l0 : List Int) (r : Int) (w : World) (hr0 : Kd.C (Kd.int .i64) w A0 l0.length l0) (hc0 : l0.length ≤ c0) (h : gov_CheckPolynomial.f l0 = some r) :
  Calls Tryz.prog 64 #[.slice A0 l0.length c0] w fun e w' => e = .returned (.int .i64 r) ∧ Below w.heap.size w w' := by
 obtain rfl : Sp.polyErr l0 = r := Option.some.inj h
 clear h
 have hcnt := countErr_eval (l0.length : Int) 3 (by omega)
 have HR := Lib.hid hr0
 have HCNT := Lib.hid hcnt
 clear hr0 hcnt
 by_cases hce : Sp.countErr (l0.length : Int) = 0
 ·have hl2 := countErr_zero hce
  have HCE := Lib.hid hce
  clear hce
  have HEV : Hid (Sp.polyErr l0 = if Sp.coefsErr l0 = 0 then (if 0 < l0.headD 0 then 0 else 3) else Sp.coefsErr l0) := Lib.hid (by unfold Sp.polyErr; rw [if_pos HCE.out])
  obtain ⟨pe, hpe⟩ : ∃ pe, pe = Sp.polyErr l0 := ⟨_, rfl⟩
  rw [← hpe]
  have HPE := Lib.hid hpe
  clear hpe
  go_enter Tryz.func64, Tryz.ntmps64
  go_wp2_with fail
  refine (Q.gov_countErr.calls 3 _ _ _ HCNT.out).mono ?_
  rintro e w1 ⟨rfl, hb1⟩
  rw [HCE.out]
  go_wp2_with fail
  refine (each_int 132 #[] (enters_of Tryz.func132 (by kernel_rfl) rfl) (fun i => Sp.coefErr (l0.getD i 0)) A0 l0.length c0 l0 _ (Kd.C_below HR.out hb1) (by omega)
   (fun W i _ _ => (Q.gov_CheckPolynomial_1.calls i (l0.getD i 0) _ W (cp1_eval _ _)).mono fun e w' ⟨he, hd⟩ => ⟨he, hd.below⟩)).mono ?_
  rintro e w2 ⟨rfl, hb2⟩
  rw [firstBad_coefsErr]
  obtain ⟨ce, hce⟩ : ∃ ce, ce = Sp.coefsErr l0 := ⟨_, rfl⟩
  rw [← hce]
  have HCE2 := Lib.hid hce
  clear hce
  obtain ⟨ad, rfl, h0⟩ := Kd.at_int HR.out 0 (by omega) (by omega)
  rw [show ((0 : Int)).toNat = 0 from rfl, Addr.add_zero', show rd l0 0 = l0.headD 0 by cases l0 <;> rfl] at h0
  obtain ⟨x0, hx0⟩ : ∃ x0, x0 = l0.headD 0 := ⟨_, rfl⟩
  rw [← hx0] at h0
  have HX0 := Lib.hid hx0
  clear hx0
  have h2 := pw_cell_below (hb1.trans (hb2.mono hb1.size)) h0
  have HB := Lib.hid (hb1.trans (hb2.mono hb1.size))
  clear h0 hb1 hb2
  have hl0 : (0 : Int) < (l0.length : Int) := by omega
  obtain ⟨u, hu⟩ : ∃ u : Int, u = (if decide (0 < x0) = true then 0 else 3) := ⟨_, rfl⟩
  obtain ⟨v, hv⟩ : ∃ v : Int, v = (if ce = 0 then u else ce) := ⟨_, rfl⟩
  have HU := Lib.hid hu
  have HV := Lib.hid hv
  clear hu hv
  go_wp2_with fail
  refine (unless_call _ _ _ _ HU.out).mono ?_
  rintro e w3 ⟨rfl, ⟨n3, rfl⟩⟩
  go_wp2_with fail
  refine (first_lit2 _ _ _ _ _ HV.out).mono ?_
  rintro e w4 ⟨rfl, hd4⟩
  go_wp2_with fail
  go_ret
  refine ⟨?_, bl_drawn (bl_alloc (bl_drewN HB.out n3) _) hd4⟩
  have e1 : pe = v := by
   rw [HPE.out, HEV.out, ← HCE2.out, ← HX0.out, HV.out, HU.out]
   simp only [decide_eq_true_eq]
  rw [e1]
  rfl
 ·have HEV : Hid (Sp.polyErr l0 = Sp.countErr (l0.length : Int)) := Lib.hid (by unfold Sp.polyErr; rw [if_neg hce])
  rw [HEV.out]
  obtain ⟨ce, hc⟩ : ∃ ce, ce = Sp.countErr (l0.length : Int) := ⟨_, rfl⟩
  rw [← hc] at hce HCNT ⊢
  have hne : (ce != 0) = true := by simpa using hce
  clear hce hc HEV
  go_enter Tryz.func64, Tryz.ntmps64
  go_wp2_with fail
  refine (Q.gov_countErr.calls 3 _ _ _ HCNT.out).mono ?_
  rintro e w1 ⟨rfl, hb1⟩
  go_wp2_with fail
  go_ret
  exact ⟨rfl, hb1⟩
end Go.Proofs.YtmpondcccbmlhaaGreat.Ext
