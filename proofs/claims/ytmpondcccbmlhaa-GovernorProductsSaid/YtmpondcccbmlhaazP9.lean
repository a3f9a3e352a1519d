/- A part of the claim P: the texts Lem, ExA, Q15, without what the claim does not lean on. -/
import Derived.ArgAppend
import Derived.Below
import Derived.BigQuiet
import Derived.Deep.AppendLies
import Derived.Deep.CutBlock
import Derived.Deep.DeepCutAuto
import Derived.Deep.Draws
import Derived.Deep.LoopGhost
import Derived.Deep.OwnRows
import Derived.Deep.QuietTactic
import Derived.Deep.RegionHeld3
import Derived.KernelRfl
import Derived.Laws.BitsLemmas
import Derived.Laws.BytesArg
import Derived.Laws.IdiomCopy
import Derived.Laws.MakeOwn
import Derived.Laws.OwnMore
import Derived.Laws.Rows
import Derived.Laws.Slices
import Derived.Laws.StructEq
import Derived.Lib.AppendStr
import Derived.Lib.ConvBytes
import Derived.Lib.Hide
import Derived.Maps.AppendAt
import Derived.OrdersHeld
import Derived.Outline
import Derived.OwnWalk
import Derived.RowKit
import Derived.RowKit3
import Derived.Shelf.Abstract
import Derived.Tactics
import Derived.WalkKit
import Derived.WideLaws
import Derived.Test.YtmpondcccbmlhaaProg
import Derived.Test.YtmpondcccbmlhaazP0
import Derived.Test.YtmpondcccbmlhaazP1
import Derived.Test.YtmpondcccbmlhaazP2
import Derived.Test.YtmpondcccbmlhaazP3
import Derived.Test.YtmpondcccbmlhaazP4
import Derived.Test.YtmpondcccbmlhaazP5
import Derived.Test.YtmpondcccbmlhaazP6
import Derived.Test.YtmpondcccbmlhaazP7
import Derived.Test.YtmpondcccbmlhaazP8
namespace Go.Proofs.Ytmpondcccbmlhaa.Ext
open Go.RowKit Go.Proofs.YtmpondcccbmlhaaW.PrintWords Go.Proofs.YtmpondcccbmlhaaW.PrintLast Go.Proofs.YtmpondcccbmlhaaW.PrintMore
theorem bl_alloc {w W : World} (h : Below w.heap.size w W) (o : Obj) : Below w.heap.size w (W.alloc o) := h.alloc h.size o
theorem bl_next {w W W' : World} (h : Below w.heap.size w W) (h' : Below W.heap.size W W') : Below w.heap.size w W' := h.trans (h'.mono h.size)
theorem bl_drawn {w W W' : World} (h : Below w.heap.size w W) (h' : Drawn0 W W') : Below w.heap.size w W' := bl_next h h'.below
theorem bl_drew {w W : World} (h : Below w.heap.size w W) : Below w.heap.size w W.drew := below_drew h
theorem bl_drewN {w W : World} (h : Below w.heap.size w W) (n : Nat) : Below w.heap.size w (W.drewN n) := pw_below_drewN h n
theorem rd_nat (l : List Int) (k : Nat) : rd l (k : Int) = l.getD k 0 := by simp [rd]
theorem w64 {n : Int} (h0 : -9223372036854775808 ≤ n) (h1 : n ≤ 9223372036854775807) : wrap64 n = n := by unfold wrap64; omega
theorem drop_getD (l : List Int) (i : Nat) (h : i < l.length) : l.drop i = l.getD i 0 :: l.drop (i + 1) := by
  rw [List.drop_eq_getElem_cons h, List.getD_eq_getElem?_getD, List.getElem?_eq_getElem h]; rfl
theorem first_loop (l : List Int) (hl : l.length ≤ 1000000) : ∀ (d k i : Nat), i ≤ l.length → l.length - i = d → d < k →
    Q.governor_first.l0 k l (l.length : Int) (i : Int) = some (Sp.firstErr (l.drop i)) := by
  intro d
  induction d with
  | zero =>
    intro k i hi hd hk
    obtain ⟨k, rfl⟩ : ∃ m, k = m + 1 := ⟨k - 1, by omega⟩
    simp only [Q.governor_first.l0]
    rw [if_neg (by omega), show i = l.length by omega, List.drop_length]
    rfl
  | succ d ih =>
    intro k i hi hd hk
    obtain ⟨k, rfl⟩ : ∃ m, k = m + 1 := ⟨k - 1, by omega⟩
    simp only [Q.governor_first.l0]
    rw [if_pos (by omega), if_pos (by omega), if_pos (by omega), rd_nat, drop_getD l i (by omega), w64 (by omega) (by omega)]
    by_cases h : l.getD i 0 = 0
    · rw [if_pos h, show ((i : Int) + 1) = ((i + 1 : Nat) : Int) by omega, ih k (i + 1) (by omega) (by omega) (by omega)]
      simp only [Sp.firstErr]
      rw [if_pos h]
    · rw [if_neg h]
      simp only [Sp.firstErr]
      rw [if_neg h]
theorem first_eval (l : List Int) (hl : l.length ≤ 1000000) (k : Nat) (hk : l.length < k) : Q.governor_first.f k l = some (Sp.firstErr l) := by
  have := first_loop l hl l.length k 0 (by omega) (by omega) hk
  simpa [Q.governor_first.f] using this
theorem unless_eval (b : Bool) (e : Int) : Q.governor_unless.f b e = some (if b = true then 0 else e) := by
  unfold Q.governor_unless.f; split <;> rfl
theorem within_eval (n lo hi : Int) : Q.governor_within.f n lo hi = some (decide (lo ≤ n ∧ n ≤ hi)) := by
  unfold Q.governor_within.f
  by_cases h : lo ≤ n <;> simp [h]
theorem isSized_eval (n m : Int) (h0 : 0 ≤ m) (h1 : m ≤ 1000000000000) : Q.governor_isSized.f n m = some (decide (-m ≤ n ∧ n ≤ m)) := by
  unfold Q.governor_isSized.f
  rw [w64 (by omega) (by omega), within_eval]; rfl
theorem coefErr_eval (x : Int) : Q.governor_coefErr.f x = some (Sp.coefErr x) := by
  unfold Q.governor_coefErr.f
  rw [isSized_eval x 1000 (by omega) (by omega)]
  simp only [Option.bind_some, unless_eval, Sp.coefErr, decide_eq_true_eq]
theorem freqErr_eval (x : Int) : Q.governor_frequencyErr.f x = some (Sp.freqErr x) := by
  unfold Q.governor_frequencyErr.f
  rw [within_eval]
  simp only [Option.bind_some, unless_eval, Sp.freqErr, decide_eq_true_eq]
theorem first2_eval (a b : Int) (k : Nat) (hk : 3 ≤ k) : Q.governor_first.f k [a, b] = some (if a = 0 then b else a) := by
  rw [first_eval [a, b] (by simp) k (by simp only [List.length_cons, List.length_nil]; omega)]
  simp only [Sp.firstErr]
  by_cases h : a = 0 <;> by_cases h2 : b = 0 <;> simp [h, h2]
theorem first3_eval (a b c : Int) (k : Nat) (hk : 4 ≤ k) : Q.governor_first.f k [a, b, c] = some (if a = 0 then (if b = 0 then c else b) else a) := by
  rw [first_eval [a, b, c] (by simp) k (by simp only [List.length_cons, List.length_nil]; omega)]
  simp only [Sp.firstErr]
  by_cases h : a = 0 <;> by_cases h2 : b = 0 <;> by_cases h3 : c = 0 <;> simp [h, h2, h3]
theorem countErr_eval (n : Int) (k : Nat) (hk : 3 ≤ k) : Q.governor_countErr.f k n = some (Sp.countErr n) := by
  unfold Q.governor_countErr.f
  simp only [Option.bind_some, unless_eval, decide_eq_true_eq, first2_eval _ _ k hk, Sp.countErr]
  by_cases h : n < 2
  · rw [if_neg (by omega : ¬ n ≥ 2), if_pos h]; rfl
  · rw [if_pos (by omega : n ≥ 2), if_neg h, if_pos rfl]
    by_cases h5 : 5 < n
    · rw [if_neg (by omega : ¬ n ≤ 5), if_pos h5]
    · rw [if_pos (by omega : n ≤ 5), if_neg h5]
theorem cp1_eval (i x : Int) : Q.governor_CheckPolynomial_1.f i x = some (Sp.coefErr x) := by
  unfold Q.governor_CheckPolynomial_1.f
  rw [coefErr_eval]; rfl
theorem firstBad_coefs (chk : Int → Int) (l : List Int) : ∀ (d i : Nat), i + d = l.length →
    (firstBad (fun j => chk (l.getD j 0)) i d).2 = ((l.drop i).find? (fun x => decide (chk x ≠ 0))).elim 0 chk := by
  intro d
  induction d with
  | zero => intro i h; rw [show i = l.length by omega, List.drop_length]; rfl
  | succ d ih =>
    intro i h
    rw [drop_getD l i (by omega)]
    by_cases hz : chk (l.getD i 0) = 0
    · rw [firstBad_skip _ _ _ hz, ih (i + 1) (by omega), List.find?_cons_of_neg (by simp only [decide_eq_true_eq]; omega)]
    · rw [firstBad_hit _ _ _ hz, List.find?_cons_of_pos (by simp only [decide_eq_true_eq]; omega)]
      rfl
theorem coefsErr_find (l : List Int) : (l.find? (fun x => decide (Sp.coefErr x ≠ 0))).elim 0 Sp.coefErr = Sp.coefsErr l := by
  induction l with
  | nil => rfl
  | cons x l ih =>
    simp only [Sp.coefsErr]
    by_cases hz : Sp.coefErr x = 0
    · rw [if_pos hz, List.find?_cons_of_neg (by simp only [decide_eq_true_eq]; omega)]; exact ih
    · rw [if_neg hz, List.find?_cons_of_pos (by simp only [decide_eq_true_eq]; omega)]; rfl
theorem firstBad_coefsErr (l : List Int) : (firstBad (fun j => Sp.coefErr (l.getD j 0)) 0 l.length).2 = Sp.coefsErr l := by
  rw [firstBad_coefs Sp.coefErr l l.length 0 (by omega), List.drop_zero, coefsErr_find]
theorem countErr_zero {n : Nat} (h : Sp.countErr (n : Int) = 0) : 2 ≤ n ∧ n ≤ 5 := by
  unfold Sp.countErr at h
  by_cases h1 : (n : Int) < 2
  · rw [if_pos h1] at h; omega
  · rw [if_neg h1] at h
    by_cases h2 : 5 < (n : Int)
    · rw [if_pos h2] at h; omega
    · omega
theorem C_new (w : World) (t : TypeId) (xs : List Int) (h : xs.length ≤ 1000000) :
    Kd.C (Kd.int .i64) (w.alloc (.cells (xs.map (Value.int .i64)).toArray t)) (some ⟨w.heap.size, 0, none⟩) xs.length xs := by
  refine ⟨rfl, by omega, fun _ => ⟨_, rfl, fun j p hj => ⟨[.int .i64 p], rfl, rfl, fun i u hu => ?_⟩⟩⟩
  obtain ⟨rfl, rfl⟩ : i = 0 ∧ .int .i64 p = u := by
    rcases i with _ | i
    · simpa using hu
    · simp at hu
  have e1 : (Kd.int .i64).sz = 1 := rfl
  rw [e1, Nat.mul_one, Nat.add_zero, add_plain]
  refine (blk_cell (blk_new w _) j).trans ?_
  simp [hj]
theorem first_lit2 (w : World) (t : TypeId) (a b r : Int) (h : r = if a = 0 then b else a) : Calls Try.prog 48 #[.slice (some ⟨w.heap.size, 0, none⟩) 2 2] (w.alloc (.cells #[.int .i64 a, .int .i64 b] t)) fun e w' =>
    e = .returned (.int .i64 r) ∧ Drawn0 (w.alloc (.cells #[.int .i64 a, .int .i64 b] t)) w' :=
  Q.governor_first.calls 3 _ 2 [a, b] _ _ (C_new w t [a, b] (by simp)) (by simp) (by rw [h]; exact first2_eval a b 3 (by omega))
theorem first_lit3 (w : World) (t : TypeId) (a b c r : Int) (h : r = if a = 0 then (if b = 0 then c else b) else a) : Calls Try.prog 48 #[.slice (some ⟨w.heap.size, 0, none⟩) 3 3] (w.alloc (.cells #[.int .i64 a, .int .i64 b, .int .i64 c] t)) fun e w' =>
    e = .returned (.int .i64 r) ∧ Drawn0 (w.alloc (.cells #[.int .i64 a, .int .i64 b, .int .i64 c] t)) w' :=
  Q.governor_first.calls 4 _ 3 [a, b, c] _ _ (C_new w t [a, b, c] (by simp)) (by simp) (by rw [h]; exact first3_eval a b c 4 (by omega))
theorem unless_call (b : Bool) (e0 r : Int) (w : World) (h : r = if b = true then 0 else e0) : Calls Try.prog 49 #[.bool b, .int .i64 e0] w fun e w' => e = .returned (.int .i64 r) ∧ Drawn0 w w' :=
  Q.governor_unless.calls b e0 r w (by rw [h]; exact unless_eval b e0)
end Go.Proofs.Ytmpondcccbmlhaa.Ext
namespace Go.Proofs.Ytmpondcccbmlhaa.Ext
open Go.RowKit Go.Shelf Go.Proofs.YtmpondcccbmlhaaW.PrintWords Go.Proofs.YtmpondcccbmlhaaW.PrintLast Go.Proofs.YtmpondcccbmlhaaW.PrintMore
def governor_CheckPolynomial.f (l0 : List Int) : Option Int := some (Sp.polyErr l0)
set_option maxHeartbeats 1000000 in
theorem governor_CheckPolynomial.calls (A0 : Option Addr) (c0 : Nat) (l0 : List Int) (r : Int) (w : World) (hr0 : Kd.C (Kd.int .i64) w A0 l0.length l0) (hc0 : l0.length ≤ c0) (h : governor_CheckPolynomial.f l0 = some r) :
    Calls Try.prog 33 #[.slice A0 l0.length c0] w fun e w' => e = .returned (.int .i64 r) ∧ Below w.heap.size w w' := by
  obtain rfl : Sp.polyErr l0 = r := Option.some.inj h
  clear h
  have hcnt := countErr_eval (l0.length : Int) 3 (by omega)
  have HR := Lib.hid hr0
  have HCNT := Lib.hid hcnt
  clear hr0 hcnt
  by_cases hce : Sp.countErr (l0.length : Int) = 0
  · have hl2 := countErr_zero hce
    have HCE := Lib.hid hce
    clear hce
    have HEV : Hid (Sp.polyErr l0 = if Sp.coefsErr l0 = 0 then (if 0 < l0.headD 0 then 0 else 3) else Sp.coefsErr l0) := Lib.hid (by unfold Sp.polyErr; rw [if_pos HCE.out])
    obtain ⟨pe, hpe⟩ : ∃ pe, pe = Sp.polyErr l0 := ⟨_, rfl⟩
    rw [← hpe]
    have HPE := Lib.hid hpe
    clear hpe
    go_enter Try.func33, Try.ntmps33
    go_wp2_with fail
    refine (Q.governor_countErr.calls 3 _ _ _ HCNT.out).mono ?_
    rintro e w1 ⟨rfl, hb1⟩
    rw [HCE.out]
    go_wp2_with fail
    refine (each_int 72 #[] (enters_of Try.func72 (by kernel_rfl) rfl) (fun i => Sp.coefErr (l0.getD i 0)) A0 l0.length c0 l0 _ (Kd.C_below HR.out hb1) (by omega)
      (fun W i _ _ => (Q.governor_CheckPolynomial_1.calls i (l0.getD i 0) _ W (cp1_eval _ _)).mono fun e w' ⟨he, hd⟩ => ⟨he, hd.below⟩)).mono ?_
    rintro e w2 ⟨rfl, hb2⟩
    rw [firstBad_coefsErr]
    obtain ⟨ce, hce⟩ : ∃ ce, ce = Sp.coefsErr l0 := ⟨_, rfl⟩
    rw [← hce]
    have HCE2 := Lib.hid hce
    clear hce
    obtain ⟨ad, rfl, h0⟩ := Kd.at_int HR.out 0 (by omega) (by omega)
    rw [show ((0 : Int)).toNat = 0 from rfl, Addr.add_zero', show rd l0 0 = l0.headD 0 by cases l0 <;> rfl] at h0
    obtain ⟨x0, hx0⟩ : ∃ x0, x0 = l0.headD 0 := ⟨_, rfl⟩
    rw [← hx0] at h0
    have HX0 := Lib.hid hx0
    clear hx0
    have h2 := pw_cell_below (hb1.trans (hb2.mono hb1.size)) h0
    have HB := Lib.hid (hb1.trans (hb2.mono hb1.size))
    clear h0 hb1 hb2
    have hl0 : (0 : Int) < (l0.length : Int) := by omega
    obtain ⟨u, hu⟩ : ∃ u : Int, u = (if decide (0 < x0) = true then 0 else 3) := ⟨_, rfl⟩
    obtain ⟨v, hv⟩ : ∃ v : Int, v = (if ce = 0 then u else ce) := ⟨_, rfl⟩
    have HU := Lib.hid hu
    have HV := Lib.hid hv
    clear hu hv
    go_wp2_with fail
    refine (unless_call _ _ _ _ HU.out).mono ?_
    rintro e w3 ⟨rfl, ⟨n3, rfl⟩⟩
    go_wp2_with fail
    refine (first_lit2 _ _ _ _ _ HV.out).mono ?_
    rintro e w4 ⟨rfl, hd4⟩
    go_wp2_with fail
    go_ret
    refine ⟨?_, bl_drawn (bl_alloc (bl_drewN HB.out n3) _) hd4⟩
    have e1 : pe = v := by
      rw [HPE.out, HEV.out, ← HCE2.out, ← HX0.out, HV.out, HU.out]
      simp only [decide_eq_true_eq]
    rw [e1]
    rfl
  · have HEV : Hid (Sp.polyErr l0 = Sp.countErr (l0.length : Int)) := Lib.hid (by unfold Sp.polyErr; rw [if_neg hce])
    rw [HEV.out]
    obtain ⟨ce, hc⟩ : ∃ ce, ce = Sp.countErr (l0.length : Int) := ⟨_, rfl⟩
    rw [← hc] at hce HCNT ⊢
    have hne : (ce != 0) = true := by simpa using hce
    clear hce hc HEV
    go_enter Try.func33, Try.ntmps33
    go_wp2_with fail
    refine (Q.governor_countErr.calls 3 _ _ _ HCNT.out).mono ?_
    rintro e w1 ⟨rfl, hb1⟩
    go_wp2_with fail
    go_ret
    exact ⟨rfl, hb1⟩
end Go.Proofs.Ytmpondcccbmlhaa.Ext
namespace Go.Proofs.Ytmpondcccbmlhaa.Q
open Go.RowKit Go.Proofs.YtmpondcccbmlhaaW.PrintWords Go.Proofs.YtmpondcccbmlhaaW.PrintLast Go.Proofs.YtmpondcccbmlhaaW.PrintMore
attribute [local go_sem] max2_int min2_int max_two min_two max_three min_three max_four min_four   
set_option linter.unusedVariables false
set_option linter.unusedSimpArgs false
open Go.Proofs.Ytmpondcccbmlhaa.Ext
def governor_IsStable.f (k : Nat) (l0 : List Int) : Option (Bool × Int) := (governor_CheckPolynomial.f l0).bind fun t137 => (if t137 = 0 then ((governor_isStable.f k l0).bind fun t138 => (some (t138, 0))) else (some (false, t137)))
set_option maxHeartbeats 8000000 in
set_option maxRecDepth 100000 in
theorem governor_IsStable.calls (k : Nat) (A0 : Option Addr) (c0 : Nat) (l0 : List Int) (r1 : Bool) (r2 : Int) (w : World) (hr0 : Kd.C (Kd.int .i64) w A0 l0.length l0) (hc0 : l0.length ≤ c0) (h : governor_IsStable.f k l0 = some (r1, r2)) :
    Calls Try.prog 8 #[.slice A0 l0.length c0] w fun e w' => e = .returned (.tuple #[.bool r1, .int .i64 r2]) ∧ Below w.heap.size w w' := by
  have HR0 := Aside0.mk hr0
  have HC0 := Aside0.mk hc0
  clear hr0 hc0
  have HB := Aside0.mk (Below.refl w.heap.size w)
  have H : ((governor_CheckPolynomial.f l0).bind fun t137 => (if t137 = 0 then ((governor_isStable.f k l0).bind fun t138 => (some (t138, 0))) else (some (false, t137)))) = some (r1, r2) := h
  clear h
  replace H := Option.bind_eq_some_iff.mp H
  obtain ⟨t137, A20, H⟩ := H
  replace H : (if t137 = 0 then ((governor_isStable.f k l0).bind fun t138 => (some (t138, 0))) else (some (false, t137))) = some (r1, r2) := H
  have A2 := Aside0.mk A20
  clear A20
  by_cases c3 : t137 = 0
  · rw [if_pos c3] at H
    have c3b0 : (t137 == 0) = true := beq_iff_eq.mpr c3
    have c3b1 : (t137 != 0) = false := bne_eq_false_iff_eq.mpr c3
    clear c3
    replace H := Option.bind_eq_some_iff.mp H
    obtain ⟨t138, A40, H⟩ := H
    replace H : (some (t138, 0)) = some (r1, r2) := H
    have A4 := Aside0.mk A40
    clear A40
    simp only [Option.some.injEq, Prod.mk.injEq] at H
    obtain ⟨rfl, rfl⟩ := H
    go_enter Try.func8, Try.ntmps8
    go_wp2_with (first | ((with_reducible refine gate_callee (f := 33) rfl ?_); refine goesL_ (some 6) rfl rfl Try.func33 (by kernel_rfl) rfl #[.slice A0 l0.length c0] rfl (by (try simp only [List.map_toArray, List.map_cons, List.map_nil]); first | done | rfl | (simp only [List.length_drop, List.length_take]; rfl)) ?_; (with_reducible refine (governor_CheckPolynomial.calls _ _ l0 t137 _ ?side1 ?side2 A2.out).mono ?_); (case side1 => repeat (first | exact HR0.out | (with_reducible refine Kd.C_alloc ?_ _) | (with_reducible refine Kd.C_drewN ?_ _) | (with_reducible refine Kd.C_drew ?_))); (case side2 => exact HC0.out); rintro e w5 ⟨rfl, hb⟩; refine ⟨_, rfl, ?_⟩; have n0_ := Aside0.mk (below_step (by repeat (first | (with_reducible first | exact HB.out | apply below_alloc | apply pw_below_drewN | apply below_drew1) | exact HB.out)) hb); clear HB; have HB := n0_; clear n0_; (try clear hb); (try clear hb2); (try clear hk); (try clear hi)) | ((with_reducible refine gate_callee (f := 34) rfl ?_); refine goesL_ (some 11) rfl rfl Try.func34 (by kernel_rfl) rfl #[.slice A0 l0.length c0] rfl (by (try simp only [List.map_toArray, List.map_cons, List.map_nil]); first | done | rfl | (simp only [List.length_drop, List.length_take]; rfl)) ?_; (with_reducible refine (governor_isStable.calls k _ _ l0 t138 _ ?side1 ?side2 A4.out).mono ?_); (case side1 => repeat (first | exact (Kd.C_below HR0.out HB.out) | (with_reducible refine Kd.C_alloc ?_ _) | (with_reducible refine Kd.C_drewN ?_ _) | (with_reducible refine Kd.C_drew ?_))); (case side2 => exact HC0.out); rintro e w6 ⟨rfl, hb⟩; refine ⟨_, rfl, ?_⟩; have n0_ := Aside0.mk (below_step (by repeat (first | (with_reducible first | exact HB.out | apply below_alloc | apply pw_below_drewN | apply below_drew1) | exact HB.out)) hb); clear HB; have HB := n0_; clear n0_; (try clear hb); (try clear hb2); (try clear hk); (try clear hi)))
    go_ret2
    exact ⟨by first | rfl | (simp [errW_none, errW_some] <;> rfl) | (simp [*, errW_none, errW_some] <;> rfl), by repeat (first | (with_reducible first | exact HB.out | apply below_alloc | apply pw_below_drewN | apply below_drew1) | exact HB.out)⟩
  · rw [if_neg c3] at H
    have c3b0 : (t137 == 0) = false := beq_eq_false_iff_ne.mpr c3
    have c3b1 : (t137 != 0) = true := bne_iff_ne.mpr c3
    simp only [Option.some.injEq, Prod.mk.injEq] at H
    obtain ⟨rfl, rfl⟩ := H
    go_enter Try.func8, Try.ntmps8
    go_wp2_with (first | ((with_reducible refine gate_callee (f := 33) rfl ?_); refine goesL_ (some 6) rfl rfl Try.func33 (by kernel_rfl) rfl #[.slice A0 l0.length c0] rfl (by (try simp only [List.map_toArray, List.map_cons, List.map_nil]); first | done | rfl | (simp only [List.length_drop, List.length_take]; rfl)) ?_; (with_reducible refine (governor_CheckPolynomial.calls _ _ l0 t137 _ ?side1 ?side2 A2.out).mono ?_); (case side1 => repeat (first | exact HR0.out | (with_reducible refine Kd.C_alloc ?_ _) | (with_reducible refine Kd.C_drewN ?_ _) | (with_reducible refine Kd.C_drew ?_))); (case side2 => exact HC0.out); rintro e w7 ⟨rfl, hb⟩; refine ⟨_, rfl, ?_⟩; have n0_ := Aside0.mk (below_step (by repeat (first | (with_reducible first | exact HB.out | apply below_alloc | apply pw_below_drewN | apply below_drew1) | exact HB.out)) hb); clear HB; have HB := n0_; clear n0_; (try clear hb); (try clear hb2); (try clear hk); (try clear hi)))
    go_ret2
    exact ⟨by first | rfl | (simp [errW_none, errW_some] <;> rfl) | (simp [*, errW_none, errW_some] <;> rfl), by repeat (first | (with_reducible first | exact HB.out | apply below_alloc | apply pw_below_drewN | apply below_drew1) | exact HB.out)⟩
end Go.Proofs.Ytmpondcccbmlhaa.Q
