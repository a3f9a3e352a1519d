/- A part of the claim H: the texts Lem, ExA, EachTwo, ExB, without what the claim does not lean on. -/
import Derived.Test.YtmpondcccbmlhaaGreatzH7
import Derived.Test.YtmpondcccbmlhaaGreatzH8
namespace Go.Proofs.YtmpondcccbmlhaaGreat.Ext
open Go.RowKit Go.Proofs.YtmpondcccbmlhaaGreatW.PrintWords Go.Proofs.YtmpondcccbmlhaaGreatW.PrintLast Go.Proofs.YtmpondcccbmlhaaGreatW.PrintMore
theorem bl_alloc {w W : World} (h : Below w.heap.size w W) (o : Obj) : Below w.heap.size w (W.alloc o) := h.alloc h.size o
theorem bl_next {w W W' : World} (h : Below w.heap.size w W) (h' : Below W.heap.size W W') : Below w.heap.size w W' := h.trans (h'.mono h.size)
theorem bl_drawn {w W W' : World} (h : Below w.heap.size w W) (h' : Drawn0 W W') : Below w.heap.size w W' := bl_next h h'.below
theorem bl_drew {w W : World} (h : Below w.heap.size w W) : Below w.heap.size w W.drew := below_drew h
theorem bl_drewN {w W : World} (h : Below w.heap.size w W) (n : Nat) : Below w.heap.size w (W.drewN n) := pbN h n
theorem rd_nat (l : List Int) (k : Nat) : rd l (k : Int) = l.getD k 0 := by simp [rd]
theorem w64 {n : Int} (h0 : -9223372036854775808 ≤ n) (h1 : n ≤ 9223372036854775807) : wrap64 n = n := by unfold wrap64; omega
theorem drop_getD (l : List Int) (i : Nat) (h : i < l.length) : l.drop i = l.getD i 0 :: l.drop (i + 1) := by
 rw [List.drop_eq_getElem_cons h, List.getD_eq_getElem?_getD, List.getElem?_eq_getElem h]; rfl
theorem first_loop (l : List Int) (hl : l.length ≤ 1000000) : ∀ (d k i : Nat), i ≤ l.length → l.length - i = d → d < k →
  Q.gov_first.l0 k l (l.length : Int) (i : Int) = some (Sp.firstErr (l.drop i)) := by
 intro d
 induction d with
 | zero =>
  intro k i hi hd hk
  obtain ⟨k, rfl⟩ : ∃ m, k = m + 1 := ⟨k - 1, by omega⟩
  simp only [Q.gov_first.l0]
  rw [if_neg (by omega), show i = l.length by omega, List.drop_length]
  rfl
 | succ d ih =>
  intro k i hi hd hk
  obtain ⟨k, rfl⟩ : ∃ m, k = m + 1 := ⟨k - 1, by omega⟩
  simp only [Q.gov_first.l0]
  rw [if_pos (by omega), if_pos (by omega), if_pos (by omega), rd_nat, drop_getD l i (by omega), w64 (by omega) (by omega)]
  by_cases h : l.getD i 0 = 0
  ·rw [if_pos h, show ((i : Int) + 1) = ((i + 1 : Nat) : Int) by omega, ih k (i + 1) (by omega) (by omega) (by omega)]
   simp only [Sp.firstErr]
   rw [if_pos h]
  ·rw [if_neg h]
   simp only [Sp.firstErr]
   rw [if_neg h]
theorem first_eval (l : List Int) (hl : l.length ≤ 1000000) (k : Nat) (hk : l.length < k) : Q.gov_first.f k l = some (Sp.firstErr l) := by
 have := first_loop l hl l.length k 0 (by omega) (by omega) hk
 simpa [Q.gov_first.f] using this
theorem unless_eval (b : Bool) (e : Int) : Q.gov_unless.f b e = some (if b = true then 0 else e) := by
 unfold Q.gov_unless.f; split <;> rfl
theorem within_eval (n lo hi : Int) : Q.gov_within.f n lo hi = some (decide (lo ≤ n ∧ n ≤ hi)) := by
 unfold Q.gov_within.f
 by_cases h : lo ≤ n <;> simp [h]
theorem isSized_eval (n m : Int) (h0 : 0 ≤ m) (h1 : m ≤ 1000000000000) : Q.gov_isSized.f n m = some (decide (-m ≤ n ∧ n ≤ m)) := by
 unfold Q.gov_isSized.f
 rw [w64 (by omega) (by omega), within_eval]; rfl
theorem coefErr_eval (x : Int) : Q.gov_coefErr.f x = some (Sp.coefErr x) := by
 unfold Q.gov_coefErr.f
 rw [isSized_eval x 1000 (by omega) (by omega)]
 simp only [Option.bind_some, unless_eval, Sp.coefErr, decide_eq_true_eq]
theorem freqErr_eval (x : Int) : Q.gov_frequencyErr.f x = some (Sp.freqErr x) := by
 unfold Q.gov_frequencyErr.f
 rw [within_eval]
 simp only [Option.bind_some, unless_eval, Sp.freqErr, decide_eq_true_eq]
theorem first2_eval (a b : Int) (k : Nat) (hk : 3 ≤ k) : Q.gov_first.f k [a, b] = some (if a = 0 then b else a) := by
 rw [first_eval [a, b] (by simp) k (by simp only [List.length_cons, List.length_nil]; omega)]
 simp only [Sp.firstErr]
 by_cases h : a = 0 <;> by_cases h2 : b = 0 <;> simp [h, h2]
theorem first3_eval (a b c : Int) (k : Nat) (hk : 4 ≤ k) : Q.gov_first.f k [a, b, c] = some (if a = 0 then (if b = 0 then c else b) else a) := by
 rw [first_eval [a, b, c] (by simp) k (by simp only [List.length_cons, List.length_nil]; omega)]
 simp only [Sp.firstErr]
 by_cases h : a = 0 <;> by_cases h2 : b = 0 <;> by_cases h3 : c = 0 <;> simp [h, h2, h3]
theorem countErr_eval (n : Int) (k : Nat) (hk : 3 ≤ k) : Q.gov_countErr.f k n = some (Sp.countErr n) := by
 unfold Q.gov_countErr.f
 simp only [Option.bind_some, unless_eval, decide_eq_true_eq, first2_eval _ _ k hk, Sp.countErr]
 by_cases h : n < 2
 ·rw [if_neg (by omega : ¬ n ≥ 2), if_pos h]; rfl
 ·rw [if_pos (by omega : n ≥ 2), if_neg h, if_pos rfl]
  by_cases h5 : 5 < n
  ·rw [if_neg (by omega : ¬ n ≤ 5), if_pos h5]
  ·rw [if_pos (by omega : n ≤ 5), if_neg h5]
theorem cp1_eval (i x : Int) : Q.gov_CheckPolynomial_1.f i x = some (Sp.coefErr x) := by
 unfold Q.gov_CheckPolynomial_1.f
 rw [coefErr_eval]; rfl
theorem firstBad_coefs (chk : Int → Int) (l : List Int) : ∀ (d i : Nat), i + d = l.length →
  (firstBad (fun j => chk (l.getD j 0)) i d).2 = ((l.drop i).find? (fun x => decide (chk x ≠ 0))).elim 0 chk := by
 intro d
 induction d with
 | zero => intro i h; rw [show i = l.length by omega, List.drop_length]; rfl
 | succ d ih =>
  intro i h
  rw [drop_getD l i (by omega)]
  by_cases hz : chk (l.getD i 0) = 0
  ·rw [firstBad_skip _ _ _ hz, ih (i + 1) (by omega), List.find?_cons_of_neg (by simp only [decide_eq_true_eq]; omega)]
  ·rw [firstBad_hit _ _ _ hz, List.find?_cons_of_pos (by simp only [decide_eq_true_eq]; omega)]
   rfl
theorem coefsErr_find (l : List Int) : (l.find? (fun x => decide (Sp.coefErr x ≠ 0))).elim 0 Sp.coefErr = Sp.coefsErr l := by
 induction l with
 | nil => rfl
 | cons x l ih =>
  simp only [Sp.coefsErr]
  by_cases hz : Sp.coefErr x = 0
  ·rw [if_pos hz, List.find?_cons_of_neg (by simp only [decide_eq_true_eq]; omega)]; exact ih
  ·rw [if_neg hz, List.find?_cons_of_pos (by simp only [decide_eq_true_eq]; omega)]; rfl
theorem firstBad_coefsErr (l : List Int) : (firstBad (fun j => Sp.coefErr (l.getD j 0)) 0 l.length).2 = Sp.coefsErr l := by
 rw [firstBad_coefs Sp.coefErr l l.length 0 (by omega), List.drop_zero, coefsErr_find]
theorem countErr_zero {n : Nat} (h : Sp.countErr (n : Int) = 0) : 2 ≤ n ∧ n ≤ 5 := by
 unfold Sp.countErr at h
 by_cases h1 : (n : Int) < 2
 ·rw [if_pos h1] at h; omega
 ·rw [if_neg h1] at h
  by_cases h2 : 5 < (n : Int)
  ·rw [if_pos h2] at h; omega
  ·omega
theorem C_new (w : World) (t : TypeId) (xs : List Int) (h : xs.length ≤ 1000000) :
  Kd.C (Kd.int .i64) (w.alloc (.cells (xs.map (Value.int .i64)).toArray t)) (some ⟨w.heap.size, 0, none⟩) xs.length xs := by
 refine ⟨rfl, by omega, fun _ => ⟨_, rfl, fun j p hj => ⟨[.int .i64 p], rfl, rfl, fun i u hu => ?_⟩⟩⟩
 obtain ⟨rfl, rfl⟩ : i = 0 ∧ .int .i64 p = u := by
  rcases i with _ | i
  ·simpa using hu
  ·simp at hu
 have e1 : (Kd.int .i64).sz = 1 := rfl
 rw [e1, Nat.mul_one, Nat.add_zero, add_plain]
 refine (blk_cell (blk_new w _) j).trans ?_
 simp [hj]
theorem first_lit2 (w : World) (t : TypeId) (a b r : Int) (h : r = if a = 0 then b else a) : Calls Tryz.prog 90 #[.slice (some ⟨w.heap.size, 0, none⟩) 2 2] (w.alloc (.cells #[.int .i64 a, .int .i64 b] t)) fun e w' =>
  e = .returned (.int .i64 r) ∧ Drawn0 (w.alloc (.cells #[.int .i64 a, .int .i64 b] t)) w' :=
 Q.gov_first.calls 3 _ 2 [a, b] _ _ (C_new w t [a, b] (by simp)) (by simp) (by rw [h]; exact first2_eval a b 3 (by omega))
theorem first_lit3 (w : World) (t : TypeId) (a b c r : Int) (h : r = if a = 0 then (if b = 0 then c else b) else a) : Calls Tryz.prog 90 #[.slice (some ⟨w.heap.size, 0, none⟩) 3 3] (w.alloc (.cells #[.int .i64 a, .int .i64 b, .int .i64 c] t)) fun e w' =>
  e = .returned (.int .i64 r) ∧ Drawn0 (w.alloc (.cells #[.int .i64 a, .int .i64 b, .int .i64 c] t)) w' :=
 Q.gov_first.calls 4 _ 3 [a, b, c] _ _ (C_new w t [a, b, c] (by simp)) (by simp) (by rw [h]; exact first3_eval a b c 4 (by omega))
theorem unless_call (b : Bool) (e0 r : Int) (w : World) (h : r = if b = true then 0 else e0) : Calls Tryz.prog 93 #[.bool b, .int .i64 e0] w fun e w' => e = .returned (.int .i64 r) ∧ Drawn0 w w' :=
 Q.gov_unless.calls b e0 r w (by rw [h]; exact unless_eval b e0)
end Go.Proofs.YtmpondcccbmlhaaGreat.Ext
namespace Go.Proofs.YtmpondcccbmlhaaGreat.Ext
open Go.RowKit Go.Shelf Go.Proofs.YtmpondcccbmlhaaGreatW.PrintWords Go.Proofs.YtmpondcccbmlhaaGreatW.PrintLast Go.Proofs.YtmpondcccbmlhaaGreatW.PrintMore
def gov_CheckPolynomial.f (l0 : List Int) : Option Int := some (Sp.polyErr l0)
set_option maxHeartbeats 1000000 in
theorem gov_CheckPolynomial.calls (A0 : Option Addr) (c0 : Nat) (l0 : List Int) (r : Int) (w : World) (hr0 : Kd.C (Kd.int .i64) w A0 l0.length l0) (hc0 : l0.length ≤ c0) (h : gov_CheckPolynomial.f l0 = some r) :
  Calls Tryz.prog 64 #[.slice A0 l0.length c0] w fun e w' => e = .returned (.int .i64 r) ∧ Below w.heap.size w w' := by
 obtain rfl : Sp.polyErr l0 = r := Option.some.inj h
 clear h
 have hcnt := countErr_eval (l0.length : Int) 3 (by omega)
 have HR := Lib.hid hr0
 have HCNT := Lib.hid hcnt
 clear hr0 hcnt
 by_cases hce : Sp.countErr (l0.length : Int) = 0
 ·have hl2 := countErr_zero hce
  have HCE := Lib.hid hce
  clear hce
  have HEV : Hid (Sp.polyErr l0 = if Sp.coefsErr l0 = 0 then (if 0 < l0.headD 0 then 0 else 3) else Sp.coefsErr l0) := Lib.hid (by unfold Sp.polyErr; rw [if_pos HCE.out])
  obtain ⟨pe, hpe⟩ : ∃ pe, pe = Sp.polyErr l0 := ⟨_, rfl⟩
  rw [← hpe]
  have HPE := Lib.hid hpe
  clear hpe
  go_enter Tryz.func64, Tryz.ntmps64
  go_wp2_with fail
  refine (Q.gov_countErr.calls 3 _ _ _ HCNT.out).mono ?_
  rintro e w1 ⟨rfl, hb1⟩
  rw [HCE.out]
  go_wp2_with fail
  refine (each_int 132 #[] (enters_of Tryz.func132 (by kernel_rfl) rfl) (fun i => Sp.coefErr (l0.getD i 0)) A0 l0.length c0 l0 _ (Kd.C_below HR.out hb1) (by omega)
   (fun W i _ _ => (Q.gov_CheckPolynomial_1.calls i (l0.getD i 0) _ W (cp1_eval _ _)).mono fun e w' ⟨he, hd⟩ => ⟨he, hd.below⟩)).mono ?_
  rintro e w2 ⟨rfl, hb2⟩
  rw [firstBad_coefsErr]
  obtain ⟨ce, hce⟩ : ∃ ce, ce = Sp.coefsErr l0 := ⟨_, rfl⟩
  rw [← hce]
  have HCE2 := Lib.hid hce
  clear hce
  obtain ⟨ad, rfl, h0⟩ := Kd.at_int HR.out 0 (by omega) (by omega)
  rw [show ((0 : Int)).toNat = 0 from rfl, Addr.add_zero', show rd l0 0 = l0.headD 0 by cases l0 <;> rfl] at h0
  obtain ⟨x0, hx0⟩ : ∃ x0, x0 = l0.headD 0 := ⟨_, rfl⟩
  rw [← hx0] at h0
  have HX0 := Lib.hid hx0
  clear hx0
  have h2 := pw_cell_below (hb1.trans (hb2.mono hb1.size)) h0
  have HB := Lib.hid (hb1.trans (hb2.mono hb1.size))
  clear h0 hb1 hb2
  have hl0 : (0 : Int) < (l0.length : Int) := by omega
  obtain ⟨u, hu⟩ : ∃ u : Int, u = (if decide (0 < x0) = true then 0 else 3) := ⟨_, rfl⟩
  obtain ⟨v, hv⟩ : ∃ v : Int, v = (if ce = 0 then u else ce) := ⟨_, rfl⟩
  have HU := Lib.hid hu
  have HV := Lib.hid hv
  clear hu hv
  go_wp2_with fail
  refine (unless_call _ _ _ _ HU.out).mono ?_
  rintro e w3 ⟨rfl, ⟨n3, rfl⟩⟩
  go_wp2_with fail
  refine (first_lit2 _ _ _ _ _ HV.out).mono ?_
  rintro e w4 ⟨rfl, hd4⟩
  go_wp2_with fail
  go_ret
  refine ⟨?_, bl_drawn (bl_alloc (bl_drewN HB.out n3) _) hd4⟩
  have e1 : pe = v := by
   rw [HPE.out, HEV.out, ← HCE2.out, ← HX0.out, HV.out, HU.out]
   simp only [decide_eq_true_eq]
  rw [e1]
  rfl
 ·have HEV : Hid (Sp.polyErr l0 = Sp.countErr (l0.length : Int)) := Lib.hid (by unfold Sp.polyErr; rw [if_neg hce])
  rw [HEV.out]
  obtain ⟨ce, hc⟩ : ∃ ce, ce = Sp.countErr (l0.length : Int) := ⟨_, rfl⟩
  rw [← hc] at hce HCNT ⊢
  have hne : (ce != 0) = true := by simpa using hce
  clear hce hc HEV
  go_enter Tryz.func64, Tryz.ntmps64
  go_wp2_with fail
  refine (Q.gov_countErr.calls 3 _ _ _ HCNT.out).mono ?_
  rintro e w1 ⟨rfl, hb1⟩
  go_wp2_with fail
  go_ret
  exact ⟨rfl, hb1⟩
end Go.Proofs.YtmpondcccbmlhaaGreat.Ext
namespace Go.Proofs.YtmpondcccbmlhaaGreat.Ext
open Go.RowKit Go.Shelf Go.Proofs.YtmpondcccbmlhaaGreatW.PrintWords Go.Proofs.YtmpondcccbmlhaaGreatW.PrintLast Go.Proofs.YtmpondcccbmlhaaGreatW.PrintMore
set_option maxHeartbeats 1000000 in
theorem each_range (g : Nat) (lb : Array Value) (eg : ∀ args w, (callFunc g args).run Tryz.prog w = .ok (.enter g args) w) (chk : Nat → Int) (A : Option Addr) (n c : Nat) (v0 : Nat → Int) (v1 : Nat → Int) (w : World)
  (hx : ∀ k, k < n → ∃ ad, A = some ad ∧ w.cell? (ad.add (k * 2)) = some (.int .i64 (v0 k)) ∧ w.cell? ⟨(ad.add (k * 2)).block, (ad.add (k * 2)).off + 1, none⟩ = some (.int .i64 (v1 k))) (hn : n ≤ 1000000)
  (hk : ∀ (W : World) (i : Nat), i < n → Below w.heap.size w W → Calls Tryz.prog g (#[.int .i64 i, .agg #[.int .i64 (v0 i), .int .i64 (v1 i)]] ++ lb) W fun e w' => e = .returned (.int .i64 (chk i)) ∧ Below W.heap.size W w') :
  Calls Tryz.prog 102 #[.slice A n c, .func (.func g) #[] lb] w fun e w' => e = .returned (.tuple #[.int .i64 (firstBad chk 0 n).1, .int .i64 (firstBad chk 0 n).2]) ∧ Below w.heap.size w w' := by
 have HX := Lib.hid hx
 have HK := Lib.hid hk
 have EG := Lib.hid eg
 clear hx hk eg
 go_enter Tryz.func102, Tryz.ntmps102
 go_wp2_with fail
 go_loopw [11] (fun i wr => ∃ k : Nat, k ≤ n ∧ i = .int .i64 k ∧ Below w.heap.size w wr ∧ RestOf chk n k) (fun i _ => n - (intOf i).toNat)
 case atStart => exact ⟨0, Nat.zero_le _, rfl, Below.refl _ _, rfl⟩
 case round =>
  obtain ⟨k, hk, rfl, hb, hrest⟩ := hrel
  by_cases hlt : k < n
  ·obtain ⟨ad, rfl, hc0, hc1⟩ := HX.out k hlt
   have hb2 : Below w.heap.size w (wr.alloc (.cells #[.int .i64 (v0 k), .int .i64 (v1 k)] 58)) := hb.alloc hb.size _
   have h0 := pw_cell_below hb hc0
   have h1 := pw_cell_below hb hc1
   have hcall := HK.out _ k hlt hb2
   have HC := Lib.hid hcall
   have EGO := EG.out
   have HB2 := Lib.hid hb2
   clear hcall hc0 hc1 hb2
   by_cases hz : chk k = 0
   ·have HZ := Lib.hid hz
    clear hz
    go_wp2_with fail
    refine (HC.out).mono ?_
    rintro e w1 ⟨rfl, hb1⟩
    rw [HZ.out]
    go_wp2_with fail
    go_roundw
    case rel => exact ⟨k + 1, by omega, by go_num, HB2.out.trans (hb1.mono HB2.out.size), by unfold RestOf at *; rw [hrest, show n - k = (n - (k + 1)) + 1 by omega, firstBad_skip _ _ _ HZ.out]⟩
    case measure => simp [intOf]; omega
   ·have HZ := Lib.hid hz
    have hne : (chk k != 0) = true := by simpa using hz
    clear hz
    go_wp2_with fail
    refine (HC.out).mono ?_
    rintro e w1 ⟨rfl, hb1⟩
    go_wp2_with fail
    go_ret2
    refine ⟨?_, HB2.out.trans (hb1.mono HB2.out.size)⟩
    unfold RestOf at hrest
    rw [hrest, show n - k = (n - (k + 1)) + 1 by omega, firstBad_hit _ _ _ HZ.out]
    rfl
  ·have hkn : k = n := by omega
   have HR : firstBad chk 0 n = (0, 0) := by unfold RestOf at hrest; rw [hrest, hkn, Nat.sub_self]; rfl
   have H0 := Lib.hid HR
   clear HR hrest hkn
   go_wp2_with fail
   go_ret2
   rw [H0.out]
   exact ⟨rfl, hb⟩
set_option maxHeartbeats 1000000 in
theorem each_reading (g : Nat) (lb : Array Value) (eg : ∀ args w, (callFunc g args).run Tryz.prog w = .ok (.enter g args) w) (chk : Nat → Int) (A : Option Addr) (n c : Nat) (v0 : Nat → Int) (v1 : Nat → Bool) (w : World)
  (hx : ∀ k, k < n → ∃ ad, A = some ad ∧ w.cell? (ad.add (k * 2)) = some (.int .i64 (v0 k)) ∧ w.cell? ⟨(ad.add (k * 2)).block, (ad.add (k * 2)).off + 1, none⟩ = some (.bool (v1 k))) (hn : n ≤ 1000000)
  (hk : ∀ (W : World) (i : Nat), i < n → Below w.heap.size w W → Calls Tryz.prog g (#[.int .i64 i, .agg #[.int .i64 (v0 i), .bool (v1 i)]] ++ lb) W fun e w' => e = .returned (.int .i64 (chk i)) ∧ Below W.heap.size W w') :
  Calls Tryz.prog 137 #[.slice A n c, .func (.func g) #[] lb] w fun e w' => e = .returned (.tuple #[.int .i64 (firstBad chk 0 n).1, .int .i64 (firstBad chk 0 n).2]) ∧ Below w.heap.size w w' := by
 have HX := Lib.hid hx
 have HK := Lib.hid hk
 have EG := Lib.hid eg
 clear hx hk eg
 go_enter Tryz.func137, Tryz.ntmps137
 go_wp2_with fail
 go_loopw [11] (fun i wr => ∃ k : Nat, k ≤ n ∧ i = .int .i64 k ∧ Below w.heap.size w wr ∧ RestOf chk n k) (fun i _ => n - (intOf i).toNat)
 case atStart => exact ⟨0, Nat.zero_le _, rfl, Below.refl _ _, rfl⟩
 case round =>
  obtain ⟨k, hk, rfl, hb, hrest⟩ := hrel
  by_cases hlt : k < n
  ·obtain ⟨ad, rfl, hc0, hc1⟩ := HX.out k hlt
   have hb2 : Below w.heap.size w (wr.alloc (.cells #[.int .i64 (v0 k), .bool (v1 k)] 103)) := hb.alloc hb.size _
   have h0 := pw_cell_below hb hc0
   have h1 := pw_cell_below hb hc1
   have hcall := HK.out _ k hlt hb2
   have HC := Lib.hid hcall
   have EGO := EG.out
   have HB2 := Lib.hid hb2
   clear hcall hc0 hc1 hb2
   by_cases hz : chk k = 0
   ·have HZ := Lib.hid hz
    clear hz
    go_wp2_with fail
    refine (HC.out).mono ?_
    rintro e w1 ⟨rfl, hb1⟩
    rw [HZ.out]
    go_wp2_with fail
    go_roundw
    case rel => exact ⟨k + 1, by omega, by go_num, HB2.out.trans (hb1.mono HB2.out.size), by unfold RestOf at *; rw [hrest, show n - k = (n - (k + 1)) + 1 by omega, firstBad_skip _ _ _ HZ.out]⟩
    case measure => simp [intOf]; omega
   ·have HZ := Lib.hid hz
    have hne : (chk k != 0) = true := by simpa using hz
    clear hz
    go_wp2_with fail
    refine (HC.out).mono ?_
    rintro e w1 ⟨rfl, hb1⟩
    go_wp2_with fail
    go_ret2
    refine ⟨?_, HB2.out.trans (hb1.mono HB2.out.size)⟩
    unfold RestOf at hrest
    rw [hrest, show n - k = (n - (k + 1)) + 1 by omega, firstBad_hit _ _ _ HZ.out]
    rfl
  ·have hkn : k = n := by omega
   have HR : firstBad chk 0 n = (0, 0) := by unfold RestOf at hrest; rw [hrest, hkn, Nat.sub_self]; rfl
   have H0 := Lib.hid HR
   clear HR hrest hkn
   go_wp2_with fail
   go_ret2
   rw [H0.out]
   exact ⟨rfl, hb⟩
end Go.Proofs.YtmpondcccbmlhaaGreat.Ext
namespace Go.Proofs.YtmpondcccbmlhaaGreat.Ext
open Go.RowKit Go.Shelf Go.Proofs.YtmpondcccbmlhaaGreatW.PrintWords Go.Proofs.YtmpondcccbmlhaaGreatW.PrintLast Go.Proofs.YtmpondcccbmlhaaGreatW.PrintMore
open Q (S58 z58 k58)
def rangeErr (r : S58) : Int := if Sp.coefErr r.f0 = 0 then (if Sp.coefErr r.f1 = 0 then (if r.f0 ≤ r.f1 then 0 else 9) else Sp.coefErr r.f1) else Sp.coefErr r.f0
def rangeAt (l : List S58) (i : Nat) : Int := rangeErr (l.getD i z58)
def boxErr (l : List S58) : Int × Int :=
 if Sp.countErr l.length = 0 then (if (firstBad (rangeAt l) 0 l.length).2 = 0 then (0, if 0 < (l.getD 0 z58).f0 then 0 else 3) else firstBad (rangeAt l) 0 l.length) else (0, Sp.countErr l.length)
def gov_CheckBox.f (l0 : List S58) : Option (Int × Int) := some (boxErr l0)
theorem cb1_eval (i a b : Int) : Q.gov_CheckBox_1.f 4 i a b = some (if Sp.coefErr a = 0 then (if Sp.coefErr b = 0 then (if a ≤ b then 0 else 9) else Sp.coefErr b) else Sp.coefErr a) := by
 unfold Q.gov_CheckBox_1.f
 simp only [coefErr_eval, Option.bind_some, unless_eval, first3_eval _ _ _ 4 (by omega), decide_eq_true_eq]
set_option maxHeartbeats 2000000 in
theorem gov_CheckBox.calls (A0 : Option Addr) (c0 : Nat) (l0 : List S58) (r1 r2 : Int) (w : World) (hr0 : Kd.C k58 w A0 l0.length l0) (_hc0 : l0.length ≤ c0) (h : gov_CheckBox.f l0 = some (r1, r2)) :
  Calls Tryz.prog 27 #[.agg #[.slice A0 l0.length c0]] w fun e w' => e = .returned (.tuple #[.int .i64 r1, .int .i64 r2]) ∧ Below w.heap.size w w' := by
 have hb : boxErr l0 = (r1, r2) := Option.some.inj h
 obtain ⟨ce, hce⟩ : ∃ ce, ce = Sp.countErr l0.length := ⟨_, rfl⟩
 have HR := Lib.hid hr0
 have HCE := Lib.hid hce
 unfold boxErr at hb
 rw [← hce] at hb
 have HBX := Lib.hid hb
 clear h hr0 hb hce
 by_cases hz : ce = 0
 ·have hl := countErr_zero (HCE.out.symm.trans hz)
  have hb2 := HBX.out
  rw [if_pos hz] at hb2
  have HB2 := Lib.hid hb2
  clear hb2 HBX
  subst hz
  go_enter Tryz.func27, Tryz.ntmps27
  go_wp2_with fail
  refine (Q.gov_countErr.calls 3 _ 0 _ (by rw [HCE.out]; exact countErr_eval _ 3 (by omega))).mono ?_
  rintro e w1 ⟨rfl, hb1⟩
  have hcell := (hb1.cell (p := ⟨w.heap.size, 0, none⟩) (by simp)).trans (by simp : _ = some (Value.slice A0 l0.length c0))
  have hbb : Below w.heap.size w w1 := bl_next (bl_alloc (Below.refl _ w) _) hb1
  clear hb1
  go_wp2_with fail
  refine (each_range 103 #[] (enters_of Tryz.func103 (by kernel_rfl) rfl) (rangeAt l0) A0 l0.length c0 (fun i => (l0.getD i z58).f0) (fun i => (l0.getD i z58).f1) _ ?cells (by omega)
   (fun W i _ _ => Q.gov_CheckBox_1.calls 4 i _ _ _ W (cb1_eval _ _ _))).mono ?_
  case cells =>
   intro k hk
   obtain ⟨ad, rfl, h0, h1⟩ := Q.at_T58 HR.out (k : Int) (by omega) (by omega)
   exact ⟨ad, rfl, pw_cell_below hbb h0, pw_cell_below hbb h1⟩
  rintro e w2 ⟨rfl, hb2⟩
  obtain ⟨i1, e1, hfb⟩ : ∃ i1 e1, firstBad (rangeAt l0) 0 l0.length = (i1, e1) := ⟨_, _, rfl⟩
  rw [hfb]
  have HB3 := HB2.out
  rw [hfb] at HB3
  have HF := Lib.hid HB3
  have hcell2 := pw_cell_below hb2 hcell
  have HBB := Lib.hid (bl_next hbb hb2)
  clear hfb HB3 HB2 hcell hbb hb2
  by_cases he : e1 = 0
  ·have hf := HF.out
   dsimp only at hf
   rw [if_pos he] at hf
   obtain ⟨ad, rfl, h0, -⟩ := Q.at_T58 HR.out 0 (by omega) (by omega)
   rw [show ((0 : Int)).toNat * 2 = 0 from rfl, Addr.add_zero'] at h0
   obtain ⟨x0, hx0⟩ : ∃ x0, x0 = (l0.getD 0 z58).f0 := ⟨_, rfl⟩
   have h2 : w2.cell? ad = some (.int .i64 x0) := by rw [hx0]; exact pw_cell_below HBB.out h0
   rw [← hx0] at hf
   obtain ⟨u, hu⟩ : ∃ u : Int, u = if decide (0 < x0) = true then 0 else 3 := ⟨_, rfl⟩
   obtain ⟨rfl, rfl⟩ : r1 = 0 ∧ u = r2 := by
    injection hf with h3 h4
    refine ⟨h3.symm, ?_⟩
    rw [hu, ← h4]; simp only [decide_eq_true_eq]
   have HU := Lib.hid hu
   have hl0 : (0 : Int) < (l0.length : Int) := by omega
   clear hu hf hx0 h0 HF
   subst he
   go_wp2_with fail
   refine (unless_call _ 3 u _ HU.out).mono ?_
   rintro e w3 ⟨rfl, ⟨n3, rfl⟩⟩
   go_wp2_with fail
   go_ret2
   exact ⟨rfl, bl_drewN HBB.out _⟩
  ·have hf := HF.out
   dsimp only at hf
   rw [if_neg he] at hf
   obtain ⟨rfl, rfl⟩ : i1 = r1 ∧ e1 = r2 := by injection hf with h3 h4; exact ⟨h3, h4⟩
   have hne : (e1 != 0) = true := by simpa using he
   clear hf he HF
   go_wp2_with fail
   go_ret2
   exact ⟨rfl, HBB.out⟩
 ·have hb2 := HBX.out
  rw [if_neg hz] at hb2
  obtain ⟨rfl, rfl⟩ : r1 = 0 ∧ ce = r2 := by injection hb2 with h3 h4; exact ⟨h3.symm, h4⟩
  have hne : (ce != 0) = true := by simpa using hz
  clear hz hb2 HBX
  go_enter Tryz.func27, Tryz.ntmps27
  go_wp2_with fail
  refine (Q.gov_countErr.calls 3 _ ce _ (by rw [HCE.out]; exact countErr_eval _ 3 (by omega))).mono ?_
  rintro e w1 ⟨rfl, hb1⟩
  go_wp2_with fail
  go_ret2
  exact ⟨rfl, bl_next (bl_alloc (Below.refl _ w) _) hb1⟩
end Go.Proofs.YtmpondcccbmlhaaGreat.Ext
