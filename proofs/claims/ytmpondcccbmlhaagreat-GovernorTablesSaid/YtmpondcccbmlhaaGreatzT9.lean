/- A part of the claim T: the texts Lem, without what the claim does not lean on. -/
import Derived.Test.YtmpondcccbmlhaaGreatzT7
import Derived.Test.YtmpondcccbmlhaaGreatzT8
namespace Go.Proofs.YtmpondcccbmlhaaGreat.Ext
open Go.RowKit Go.Proofs.YtmpondcccbmlhaaGreatW.PrintWords Go.Proofs.YtmpondcccbmlhaaGreatW.PrintLast Go.Proofs.YtmpondcccbmlhaaGreatW.PrintMore
theorem bl_alloc {w W : World} (h : Below w.heap.size w W) (o : Obj) : Below w.heap.size w (W.alloc o) := h.alloc h.size o
theorem bl_next {w W W' : World} (h : Below w.heap.size w W) (h' : Below W.heap.size W W') : Below w.heap.size w W' := h.trans (h'.mono h.size)
theorem bl_drawn {w W W' : World} (h : Below w.heap.size w W) (h' : Drawn0 W W') : Below w.heap.size w W' := bl_next h h'.below
theorem bl_drew {w W : World} (h : Below w.heap.size w W) : Below w.heap.size w W.drew := below_drew h
theorem bl_drewN {w W : World} (h : Below w.heap.size w W) (n : Nat) : Below w.heap.size w (W.drewN n) := pbN h n
theorem rd_nat (l : List Int) (k : Nat) : rd l (k : Int) = l.getD k 0 := by simp [rd]
theorem w64 {n : Int} (h0 : -9223372036854775808 ≤ n) (h1 : n ≤ 9223372036854775807) : wrap64 n = n := by unfold wrap64; omega
theorem drop_getD (l : List Int) (i : Nat) (h : i < l.length) : l.drop i = l.getD i 0 :: l.drop (i + 1) := by
 rw [List.drop_eq_getElem_cons h, List.getD_eq_getElem?_getD, List.getElem?_eq_getElem h]; rfl
theorem first_loop (l : List Int) (hl : l.length ≤ 1000000) : ∀ (d k i : Nat), i ≤ l.length → l.length - i = d → d < k →
  Q.gov_first.l0 k l (l.length : Int) (i : Int) = some (Sp.firstErr (l.drop i)) := by
 intro d
 induction d with
 | zero =>
  intro k i hi hd hk
  obtain ⟨k, rfl⟩ : ∃ m, k = m + 1 := ⟨k - 1, by omega⟩
  simp only [Q.gov_first.l0]
  rw [if_neg (by omega), show i = l.length by omega, List.drop_length]
  rfl
 | succ d ih =>
  intro k i hi hd hk
  obtain ⟨k, rfl⟩ : ∃ m, k = m + 1 := ⟨k - 1, by omega⟩
  simp only [Q.gov_first.l0]
  rw [if_pos (by omega), if_pos (by omega), if_pos (by omega), rd_nat, drop_getD l i (by omega), w64 (by omega) (by omega)]
  by_cases h : l.getD i 0 = 0
  ·rw [if_pos h, show ((i : Int) + 1) = ((i + 1 : Nat) : Int) by omega, ih k (i + 1) (by omega) (by omega) (by omega)]
   simp only [Sp.firstErr]
   rw [if_pos h]
  ·rw [if_neg h]
   simp only [Sp.firstErr]
   rw [if_neg h]
theorem first_eval (l : List Int) (hl : l.length ≤ 1000000) (k : Nat) (hk : l.length < k) : Q.gov_first.f k l = some (Sp.firstErr l) := by
 have := first_loop l hl l.length k 0 (by omega) (by omega) hk
 simpa [Q.gov_first.f] using this
theorem unless_eval (b : Bool) (e : Int) : Q.gov_unless.f b e = some (if b = true then 0 else e) := by
 unfold Q.gov_unless.f; split <;> rfl
theorem within_eval (n lo hi : Int) : Q.gov_within.f n lo hi = some (decide (lo ≤ n ∧ n ≤ hi)) := by
 unfold Q.gov_within.f
 by_cases h : lo ≤ n <;> simp [h]
theorem isSized_eval (n m : Int) (h0 : 0 ≤ m) (h1 : m ≤ 1000000000000) : Q.gov_isSized.f n m = some (decide (-m ≤ n ∧ n ≤ m)) := by
 unfold Q.gov_isSized.f
 rw [w64 (by omega) (by omega), within_eval]; rfl
theorem coefErr_eval (x : Int) : Q.gov_coefErr.f x = some (Sp.coefErr x) := by
 unfold Q.gov_coefErr.f
 rw [isSized_eval x 1000 (by omega) (by omega)]
 simp only [Option.bind_some, unless_eval, Sp.coefErr, decide_eq_true_eq]
theorem freqErr_eval (x : Int) : Q.gov_frequencyErr.f x = some (Sp.freqErr x) := by
 unfold Q.gov_frequencyErr.f
 rw [within_eval]
 simp only [Option.bind_some, unless_eval, Sp.freqErr, decide_eq_true_eq]
theorem first2_eval (a b : Int) (k : Nat) (hk : 3 ≤ k) : Q.gov_first.f k [a, b] = some (if a = 0 then b else a) := by
 rw [first_eval [a, b] (by simp) k (by simp only [List.length_cons, List.length_nil]; omega)]
 simp only [Sp.firstErr]
 by_cases h : a = 0 <;> by_cases h2 : b = 0 <;> simp [h, h2]
theorem first3_eval (a b c : Int) (k : Nat) (hk : 4 ≤ k) : Q.gov_first.f k [a, b, c] = some (if a = 0 then (if b = 0 then c else b) else a) := by
 rw [first_eval [a, b, c] (by simp) k (by simp only [List.length_cons, List.length_nil]; omega)]
 simp only [Sp.firstErr]
 by_cases h : a = 0 <;> by_cases h2 : b = 0 <;> by_cases h3 : c = 0 <;> simp [h, h2, h3]
theorem countErr_eval (n : Int) (k : Nat) (hk : 3 ≤ k) : Q.gov_countErr.f k n = some (Sp.countErr n) := by
 unfold Q.gov_countErr.f
 simp only [Option.bind_some, unless_eval, decide_eq_true_eq, first2_eval _ _ k hk, Sp.countErr]
 by_cases h : n < 2
 ·rw [if_neg (by omega : ¬ n ≥ 2), if_pos h]; rfl
 ·rw [if_pos (by omega : n ≥ 2), if_neg h, if_pos rfl]
  by_cases h5 : 5 < n
  ·rw [if_neg (by omega : ¬ n ≤ 5), if_pos h5]
  ·rw [if_pos (by omega : n ≤ 5), if_neg h5]
theorem cp1_eval (i x : Int) : Q.gov_CheckPolynomial_1.f i x = some (Sp.coefErr x) := by
 unfold Q.gov_CheckPolynomial_1.f
 rw [coefErr_eval]; rfl
theorem firstBad_coefs (chk : Int → Int) (l : List Int) : ∀ (d i : Nat), i + d = l.length →
  (firstBad (fun j => chk (l.getD j 0)) i d).2 = ((l.drop i).find? (fun x => decide (chk x ≠ 0))).elim 0 chk := by
 intro d
 induction d with
 | zero => intro i h; rw [show i = l.length by omega, List.drop_length]; rfl
 | succ d ih =>
  intro i h
  rw [drop_getD l i (by omega)]
  by_cases hz : chk (l.getD i 0) = 0
  ·rw [firstBad_skip _ _ _ hz, ih (i + 1) (by omega), List.find?_cons_of_neg (by simp only [decide_eq_true_eq]; omega)]
  ·rw [firstBad_hit _ _ _ hz, List.find?_cons_of_pos (by simp only [decide_eq_true_eq]; omega)]
   rfl
theorem coefsErr_find (l : List Int) : (l.find? (fun x => decide (Sp.coefErr x ≠ 0))).elim 0 Sp.coefErr = Sp.coefsErr l := by
 induction l with
 | nil => rfl
 | cons x l ih =>
  simp only [Sp.coefsErr]
  by_cases hz : Sp.coefErr x = 0
  ·rw [if_pos hz, List.find?_cons_of_neg (by simp only [decide_eq_true_eq]; omega)]; exact ih
  ·rw [if_neg hz, List.find?_cons_of_pos (by simp only [decide_eq_true_eq]; omega)]; rfl
theorem firstBad_coefsErr (l : List Int) : (firstBad (fun j => Sp.coefErr (l.getD j 0)) 0 l.length).2 = Sp.coefsErr l := by
 rw [firstBad_coefs Sp.coefErr l l.length 0 (by omega), List.drop_zero, coefsErr_find]
theorem countErr_zero {n : Nat} (h : Sp.countErr (n : Int) = 0) : 2 ≤ n ∧ n ≤ 5 := by
 unfold Sp.countErr at h
 by_cases h1 : (n : Int) < 2
 ·rw [if_pos h1] at h; omega
 ·rw [if_neg h1] at h
  by_cases h2 : 5 < (n : Int)
  ·rw [if_pos h2] at h; omega
  ·omega
theorem C_new (w : World) (t : TypeId) (xs : List Int) (h : xs.length ≤ 1000000) :
  Kd.C (Kd.int .i64) (w.alloc (.cells (xs.map (Value.int .i64)).toArray t)) (some ⟨w.heap.size, 0, none⟩) xs.length xs := by
 refine ⟨rfl, by omega, fun _ => ⟨_, rfl, fun j p hj => ⟨[.int .i64 p], rfl, rfl, fun i u hu => ?_⟩⟩⟩
 obtain ⟨rfl, rfl⟩ : i = 0 ∧ .int .i64 p = u := by
  rcases i with _ | i
  ·simpa using hu
  ·simp at hu
 have e1 : (Kd.int .i64).sz = 1 := rfl
 rw [e1, Nat.mul_one, Nat.add_zero, add_plain]
 refine (blk_cell (blk_new w _) j).trans ?_
 simp [hj]
theorem first_lit2 (w : World) (t : TypeId) (a b r : Int) (h : r = if a = 0 then b else a) : Calls Tryz.prog 90 #[.slice (some ⟨w.heap.size, 0, none⟩) 2 2] (w.alloc (.cells #[.int .i64 a, .int .i64 b] t)) fun e w' =>
  e = .returned (.int .i64 r) ∧ Drawn0 (w.alloc (.cells #[.int .i64 a, .int .i64 b] t)) w' :=
 Q.gov_first.calls 3 _ 2 [a, b] _ _ (C_new w t [a, b] (by simp)) (by simp) (by rw [h]; exact first2_eval a b 3 (by omega))
theorem first_lit3 (w : World) (t : TypeId) (a b c r : Int) (h : r = if a = 0 then (if b = 0 then c else b) else a) : Calls Tryz.prog 90 #[.slice (some ⟨w.heap.size, 0, none⟩) 3 3] (w.alloc (.cells #[.int .i64 a, .int .i64 b, .int .i64 c] t)) fun e w' =>
  e = .returned (.int .i64 r) ∧ Drawn0 (w.alloc (.cells #[.int .i64 a, .int .i64 b, .int .i64 c] t)) w' :=
 Q.gov_first.calls 4 _ 3 [a, b, c] _ _ (C_new w t [a, b, c] (by simp)) (by simp) (by rw [h]; exact first3_eval a b c 4 (by omega))
theorem unless_call (b : Bool) (e0 r : Int) (w : World) (h : r = if b = true then 0 else e0) : Calls Tryz.prog 93 #[.bool b, .int .i64 e0] w fun e w' => e = .returned (.int .i64 r) ∧ Drawn0 w w' :=
 Q.gov_unless.calls b e0 r w (by rw [h]; exact unless_eval b e0)
end Go.Proofs.YtmpondcccbmlhaaGreat.Ext
