/- A part of the claim P: the texts Flt, without what the claim does not lean on. -/
import Derived.Laws.ComplexArith
namespace Go.Proofs.Ytmpondcccbmlhaa.Flt
open Ieee
def Rep (x : Nat) (n : Int) : Prop := ∃ s m k, double.read x = .number s m (-(k : Nat) : Int) ∧ m = n.natAbs * 2 ^ k ∧ (n ≠ 0 → s = decide (n < 0))
theorem log2_of {n l : Nat} (h0 : 2 ^ l ≤ n) (h1 : n < 2 ^ (l + 1)) : n.log2 = l := by
  have hn : n ≠ 0 := by have := Nat.two_pow_pos l; omega
  exact (Nat.log2_eq_iff hn).2 ⟨h0, h1⟩
theorem cut_even_exact (s : Bool) (q d n : Nat) (hn : n = q * 2 ^ d) (hd : d ≤ n.log2 + 2) : Toward.even.cut s n d = q := by
  unfold Toward.cut
  have hg : 1 <<< min d (n.log2 + 2) = 2 ^ d := by rw [Nat.min_eq_left hd, Nat.one_shiftLeft]
  have hp := Nat.two_pow_pos d
  have h1 : n / 2 ^ d = q := by rw [hn, Nat.mul_div_cancel _ hp]
  have h2 : n % 2 ^ d = 0 := by rw [hn, Nat.mul_mod_left]
  simp only [hg, h1, h2]
  have h3 : decide (2 ^ d < 2 * 0) = false := by simp
  have h4 : (2 ^ d == 2 * 0) = false := by
    rw [beq_eq_false_iff_ne]; omega
  rw [h3, h4]; simp
theorem cut_zero_exact (s : Bool) (q d n : Nat) (hn : n = q * 2 ^ d) (hd : q = 0 ∨ d ≤ n.log2 + 2) : Toward.zero.cut s n d = q := by
  unfold Toward.cut
  rcases hd with rfl | hd
  · rw [Nat.zero_mul] at hn; subst hn; simp
  · have hg : 1 <<< min d (n.log2 + 2) = 2 ^ d := by rw [Nat.min_eq_left hd, Nat.one_shiftLeft]
    have hp := Nat.two_pow_pos d
    simp only [hg]
    rw [hn, Nat.mul_div_cancel _ hp]; simp
theorem exists_log (n : Nat) (h : 0 < n) : ∃ l, 2 ^ l ≤ n ∧ n < 2 ^ (l + 1) :=
  ⟨n.log2, Nat.log2_self_le (by omega), Nat.lt_log2_self⟩
theorem log2_shift {n l k : Nat} (h0 : 2 ^ l ≤ n) (h1 : n < 2 ^ (l + 1)) : (n * 2 ^ k).log2 = l + k := by
  refine log2_of ?_ ?_
  · rw [Nat.pow_add]; exact Nat.mul_le_mul_right _ h0
  · rw [show l + k + 1 = (l + 1) + k by omega, Nat.pow_add (m := l + 1)]; exact Nat.mul_lt_mul_of_pos_right h1 (Nat.two_pow_pos k)
theorem two52 : (double.binade : Nat) = 2 ^ 52 := rfl
theorem least_d : double.leastPlace = -1074 := by decide
theorem inf_d : double.infRung = 2047 * 2 ^ 52 := by decide
theorem binade_n : (double.binade : Nat) = 4503599627370496 := by decide +kernel
theorem inf_n : double.infRung = 9218868437227405312 := by decide +kernel
theorem sign_n : double.signWeight = 9223372036854775808 := by decide +kernel
theorem neg_of (s : Bool) (z : Nat) (hz : z < 9223372036854775808) : ((if s = true then 9223372036854775808 + z else z) / 9223372036854775808 % 2 == 1) = s ∧ (if s = true then 9223372036854775808 + z else z) % 9223372036854775808 = z := by
  cases s
  · have e : (if (false = true) then 9223372036854775808 + z else z) = z := rfl
    rw [e, Nat.div_eq_of_lt hz, Nat.mod_eq_of_lt hz]; exact ⟨rfl, rfl⟩
  · have e : (if (true = true) then 9223372036854775808 + z else z) = 9223372036854775808 + z := rfl
    rw [e, Nat.add_div_left _ (by omega), Nat.div_eq_of_lt hz, Nat.add_mod_left, Nat.mod_eq_of_lt hz]; exact ⟨rfl, rfl⟩
theorem read_word (s : Bool) (l q : Nat) (hl : l ≤ 52) (h0 : 4503599627370496 ≤ q) (h1 : q < 9007199254740992) :
    double.read (double.word s ((l + 1022) * 4503599627370496 + q)) = .number s q ((l : Int) - 52) := by
  obtain ⟨z, hz⟩ : ∃ z, z = (l + 1022) * 4503599627370496 + q := ⟨_, rfl⟩
  rw [← hz]
  obtain ⟨hn, hm⟩ := neg_of s z (by omega)
  have e1 : 4503599627370496 + z % 4503599627370496 = q := by omega
  have e2 : z / 4503599627370496 = l + 1023 := by omega
  have e3 : ¬ z < 4503599627370496 := by omega
  have e4 : z < 9218868437227405312 := by omega
  have e5 : ((-1074 : Int) + ((l + 1023 - 1 : Nat) : Int)) = (l : Int) - 52 := by omega
  simp only [Format.read, Format.word, sign_n, binade_n, inf_n, least_d, hn, hm, e1, e2, e5, if_neg e3, if_pos e4]
theorem read_nearest (s : Bool) (n k : Nat) (hn : n < 2 ^ 53) : ∃ j m, double.read (double.nearest s (n * 2 ^ k) (-(k : Nat) : Int)) = .number s m (-(j : Nat) : Int) ∧ m = n * 2 ^ j := by
  rcases Nat.eq_zero_or_pos n with rfl | hpos
  · obtain ⟨j, hj⟩ : ∃ j : Nat, j = 1074 := ⟨_, rfl⟩
    refine ⟨j, 0, ?_, (Nat.zero_mul _).symm⟩
    subst hj
    have e : double.nearest s (0 * 2 ^ k) (-(k : Nat) : Int) = double.word s 0 := by
      unfold Format.nearest; rw [if_pos (by simp)]
    rw [e]
    cases s <;> decide +kernel
  · obtain ⟨l, h0, h1⟩ := exists_log n hpos
    have hl : l ≤ 52 := by
      rcases Nat.lt_or_ge 52 l with h | h
      · have : 2 ^ 53 ≤ 2 ^ l := Nat.pow_le_pow_right (by omega) (by omega)
        omega
      · exact h
    refine ⟨52 - l, n * 2 ^ (52 - l), ?_, rfl⟩
    have hmag : n * 2 ^ k ≠ 0 := by have := Nat.two_pow_pos k; have := Nat.mul_pos hpos this; omega
    have hlog : (n * 2 ^ k).log2 = l + k := log2_shift h0 h1
    have hlast : max (-(k : Nat) + ((n * 2 ^ k).log2 : Nat) - (double.fractionBits : Nat) : Int) double.leastPlace = (l : Int) - 52 := by
      rw [hlog, least_d]
      have : (double.fractionBits : Nat) = 52 := rfl
      rw [this]
      omega
    have hkept : Toward.even.cut s ((n * 2 ^ k) <<< (-(k : Nat) - ((l : Int) - 52) : Int).toNat) (((l : Int) - 52) - -(k : Nat) : Int).toNat = n * 2 ^ (52 - l) := by
      rcases Nat.lt_or_ge 52 (k + l) with h | h
      · rw [show (-(k : Nat) - ((l : Int) - 52) : Int).toNat = 0 by omega, Nat.shiftLeft_zero,
          show (((l : Int) - 52) - -(k : Nat) : Int).toNat = k + l - 52 by omega]
        refine cut_even_exact s _ _ _ ?_ (by rw [hlog]; omega)
        rw [Nat.mul_assoc, ← Nat.pow_add]
        exact congrArg (fun x => n * 2 ^ x) (by omega)
      · rw [show (((l : Int) - 52) - -(k : Nat) : Int).toNat = 0 by omega,
          show (-(k : Nat) - ((l : Int) - 52) : Int).toNat = 52 - l - k by omega, Nat.shiftLeft_eq, Nat.mul_assoc, ← Nat.pow_add,
          show k + (52 - l - k) = 52 - l by omega]
        exact cut_even_exact s _ 0 _ (by simp) (by omega)
    have hb0 : 2 ^ 52 ≤ n * 2 ^ (52 - l) := by
      rw [show (52 : Nat) = l + (52 - l) by omega, Nat.pow_add, show l + (52 - l) - l = 52 - l by omega]
      exact Nat.mul_le_mul_right _ h0
    have hb1 : n * 2 ^ (52 - l) < 2 ^ 53 := by
      rw [show (53 : Nat) = (l + 1) + (52 - l) by omega, Nat.pow_add (m := l + 1)]
      exact Nat.mul_lt_mul_of_pos_right h1 (Nat.two_pow_pos _)
    have hnear : double.nearest s (n * 2 ^ k) (-(k : Nat) : Int) = double.word s ((l + 1022) * 2 ^ 52 + n * 2 ^ (52 - l)) := by
      unfold Format.nearest
      rw [if_neg hmag]
      dsimp only
      rw [hlast, hkept, least_d, two52, inf_d, show ((l : Int) - 52 - -1074).toNat = l + 1022 by omega]
      rw [Nat.min_eq_left (by omega)]
    rw [hnear]
    generalize hq : n * 2 ^ (52 - l) = q at hb0 hb1 ⊢
    have h52 : (2 : Nat) ^ 52 = 4503599627370496 := by decide +kernel
    have h53 : (2 : Nat) ^ 53 = 9007199254740992 := by decide +kernel
    rw [h52] at hb0 ⊢
    rw [h53] at hb1
    rw [read_word s l q hl hb0 hb1]
    congr 1
    omega
theorem rep_write (n : Int) (s : Bool) (k : Nat) (hn : n.natAbs < 2 ^ 53) (hs : n ≠ 0 → s = decide (n < 0)) : Rep (double.write (.number s (n.natAbs * 2 ^ k) (-(k : Nat) : Int))) n := by
  obtain ⟨j, m, hj, hm⟩ := read_nearest s n.natAbs k hn
  exact ⟨s, m, j, hj, hm, hs⟩
theorem rep_ofInt (n : Int) (hn : n.natAbs < 2 ^ 53) : Rep (floatOfInt .f64 n) n := by
  have h := rep_write n (decide (n < 0)) 0 hn (fun _ => rfl)
  rw [Nat.pow_zero, Nat.mul_one] at h
  exact h
theorem rep_mul {x y : Nat} {a b : Int} (hx : Rep x a) (hy : Rep y b) (h : (a * b).natAbs < 2 ^ 53) : ∃ r, floatBits .mul .f64 x y = some r ∧ Rep r (a * b) := by
  obtain ⟨s, m, i, hr, rfl, hs⟩ := hx
  obtain ⟨t, n, j, hr', rfl, ht⟩ := hy
  refine ⟨_, show Format.mul double x y = some (double.write (.number (s ^^ t) ((a * b).natAbs * 2 ^ (i + j)) (-((i + j : Nat) : Int)))) from ?_, rep_write (a * b) (s ^^ t) (i + j) h ?_⟩
  · unfold Format.mul
    rw [hr, hr']
    simp only [Datum.product, Option.map_some]
    congr 2
    congr 1
    · rw [Int.natAbs_mul, Nat.pow_add]; simp only [Nat.mul_left_comm, Nat.mul_assoc]
    · omega
  · intro hne
    have ha : a ≠ 0 := by rintro rfl; simp at hne
    have hb : b ≠ 0 := by rintro rfl; simp at hne
    rw [hs ha, ht hb]
    by_cases h1 : a < 0 <;> by_cases h2 : b < 0
    · have : 0 < a * b := Int.mul_pos_of_neg_of_neg h1 h2
      simp [h1, h2]; omega
    · have : a * b < 0 := Int.mul_neg_of_neg_of_pos h1 (by omega)
      simp [h1, h2, this]
    · have : a * b < 0 := Int.mul_neg_of_pos_of_neg (by omega) h2
      simp [h1, h2, this]
    · have : 0 < a * b := Int.mul_pos (by omega) (by omega)
      simp [h1, h2]; omega
theorem signed_of {a : Int} {s : Bool} {i d : Nat} (hs : a ≠ 0 → s = decide (a < 0)) : signed s (a.natAbs * 2 ^ i) d = a * ((2 ^ (i + d) : Nat) : Int) := by
  unfold signed
  have e : (a.natAbs * 2 ^ i) <<< d = a.natAbs * 2 ^ (i + d) := by rw [Nat.shiftLeft_eq, Nat.mul_assoc, ← Nat.pow_add]
  rw [e]
  by_cases h0 : a = 0
  · subst h0; cases s <;> simp
  · rw [hs h0]
    by_cases h1 : a < 0
    · simp only [h1, decide_true, if_true]
      rw [Int.natCast_mul, Int.ofNat_natAbs_of_nonpos (by omega), Int.neg_mul, Int.neg_neg]
    · simp only [h1, decide_false, Bool.false_eq_true, if_false]
      rw [Int.natCast_mul, Int.natAbs_of_nonneg (by omega)]
theorem rep_sum {s t : Bool} {i j : Nat} {a b : Int} (hs : a ≠ 0 → s = decide (a < 0)) (ht : b ≠ 0 → t = decide (b < 0)) (h : (a + b).natAbs < 2 ^ 53) :
    ∃ r, (Datum.sum (.number s (a.natAbs * 2 ^ i) (-(i : Nat) : Int)) (.number t (b.natAbs * 2 ^ j) (-(j : Nat) : Int))).map double.write = some r ∧ Rep r (a + b) := by
  obtain ⟨M, hM⟩ : ∃ M : Nat, M = max i j := ⟨_, rfl⟩
  have hbase : min (-(i : Nat) : Int) (-(j : Nat) : Int) = (-(M : Nat) : Int) := by omega
  have hpos : (0 : Int) < ((2 ^ M : Nat) : Int) := by have := Nat.two_pow_pos M; omega
  have htot : signed s (a.natAbs * 2 ^ i) (-(i : Nat) - -(M : Nat) : Int).toNat + signed t (b.natAbs * 2 ^ j) (-(j : Nat) - -(M : Nat) : Int).toNat = (a + b) * ((2 ^ M : Nat) : Int) := by
    rw [signed_of hs, signed_of ht, show i + (-(i : Nat) - -(M : Nat) : Int).toNat = M by omega, show j + (-(j : Nat) - -(M : Nat) : Int).toNat = M by omega, Int.add_mul]
  refine ⟨_, by simp only [Datum.sum, Option.map_some, hbase, htot]; rfl, ?_⟩
  have habs : ((a + b) * ((2 ^ M : Nat) : Int)).natAbs = (a + b).natAbs * 2 ^ M := by rw [Int.natAbs_mul, Int.natAbs_natCast]
  rw [habs]
  refine rep_write (a + b) _ M h (fun hne => ?_)
  have h1 : ¬ (a + b) * ((2 ^ M : Nat) : Int) = 0 := fun e => by
    rcases Int.mul_eq_zero.1 e with e | e
    · exact hne e
    · omega
  rw [if_neg h1]
  by_cases h2 : a + b < 0
  · have := Int.mul_neg_of_neg_of_pos h2 hpos
    rw [decide_eq_true this, decide_eq_true h2]
  · have h3 : 0 < a + b := by omega
    have := Int.mul_pos h3 hpos
    have h4 : ¬ (a + b) * ((2 ^ M : Nat) : Int) < 0 := by omega
    simp only [h2, h4, decide_false]
theorem rep_add {x y : Nat} {a b : Int} (hx : Rep x a) (hy : Rep y b) (h : (a + b).natAbs < 2 ^ 53) : ∃ r, floatBits .add .f64 x y = some r ∧ Rep r (a + b) := by
  obtain ⟨s, m, i, hr, rfl, hs⟩ := hx
  obtain ⟨t, n, j, hr', rfl, ht⟩ := hy
  obtain ⟨r, h1, h2⟩ := rep_sum hs ht h (i := i) (j := j)
  refine ⟨r, ?_, h2⟩
  show Format.add double x y = some r
  unfold Format.add
  rw [hr, hr']; exact h1
theorem rep_sub {x y : Nat} {a b : Int} (hx : Rep x a) (hy : Rep y b) (h : (a - b).natAbs < 2 ^ 53) : ∃ r, floatBits .sub .f64 x y = some r ∧ Rep r (a - b) := by
  obtain ⟨s, m, i, hr, rfl, hs⟩ := hx
  obtain ⟨t, n, j, hr', rfl, ht⟩ := hy
  have ht' : -b ≠ 0 → (!t) = decide (-b < 0) := fun hne => by
    rw [ht (by omega)]
    by_cases h1 : b < 0
    · have h2 : ¬ (0 : Int) < b := by omega
      simp [h1, h2]
    · have h2 : (0 : Int) < b := by omega
      simp [h1, h2]
  obtain ⟨r, h1, h2⟩ := rep_sum (b := -b) hs ht' (by rw [← Int.sub_eq_add_neg]; exact h) (i := i) (j := j)
  refine ⟨r, ?_, by rw [Int.sub_eq_add_neg]; exact h2⟩
  show Format.sub double x y = some r
  unfold Format.sub
  rw [hr, hr']
  rw [Int.natAbs_neg] at h1
  exact h1
theorem rep_toInt {x : Nat} {n : Int} (hx : Rep x n) (h : n.natAbs < 2 ^ 53) : floatToIntVal .f64 x .i64 = some n := by
  obtain ⟨s, m, k, hr, rfl, hs⟩ := hx
  have hd : FloatKind.decode .f64 x = .number s (n.natAbs * 2 ^ k) (-(k : Nat) : Int) := hr
  have hcut : Toward.zero.cut s ((n.natAbs * 2 ^ k) <<< (-(k : Nat) : Int).toNat) (-(-(k : Nat) : Int)).toNat = n.natAbs := by
    rw [show (-(k : Nat) : Int).toNat = 0 by omega, Nat.shiftLeft_zero, show (-(-(k : Nat) : Int)).toNat = k by omega]
    refine cut_zero_exact s _ k _ rfl ?_
    rcases Nat.eq_zero_or_pos n.natAbs with h0 | h0
    · exact .inl h0
    · obtain ⟨l, h1, h2⟩ := exists_log _ h0
      rw [log2_shift h1 h2]
      exact .inr (by omega)
  have ht : (FloatKind.decode .f64 x).toInt .zero = some n := by
    rw [hd]
    simp only [Datum.toInt, Datum.integral, hcut]
    congr 1
    have := signed_of (i := 0) (d := 0) hs
    simpa using this
  unfold floatToIntVal
  rw [ht]
  simp only
  have h1 : IntKind.i64.min = -9223372036854775808 := rfl
  have h2 : IntKind.i64.max = 9223372036854775807 := rfl
  rw [if_pos (by rw [h1, h2]; omega)]
theorem rep_cmul {x y u v : Nat} {a b c d : Int} (hx : Rep x a) (hy : Rep y b) (hu : Rep u c) (hv : Rep v d) (B : Nat) (hB : 4 * B < 2 ^ 53)
    (h1 : (a * c).natAbs ≤ B) (h2 : (b * d).natAbs ≤ B) (h3 : (a * d).natAbs ≤ B) (h4 : (b * c).natAbs ≤ B) :
    ∃ r s, cMulBits x y u v = some (r, s) ∧ Rep r (a * c - b * d) ∧ Rep s (a * d + b * c) := by
  obtain ⟨p1, e1, r1⟩ := rep_mul hx hu (by omega)
  obtain ⟨p2, e2, r2⟩ := rep_mul hy hv (by omega)
  obtain ⟨p3, e3, r3⟩ := rep_sub r1 r2 (by omega)
  obtain ⟨p4, e4, r4⟩ := rep_mul hx hv (by omega)
  obtain ⟨p5, e5, r5⟩ := rep_mul hy hu (by omega)
  obtain ⟨p6, e6, r6⟩ := rep_add r4 r5 (by omega)
  exact ⟨p3, p6, by simp [cMulBits, e1, e2, e3, e4, e5, e6], r3, r6⟩
theorem rep_cadd {x y u v : Nat} {a b c d : Int} (hx : Rep x a) (hy : Rep y b) (hu : Rep u c) (hv : Rep v d) (h1 : (a + c).natAbs < 2 ^ 53) (h2 : (b + d).natAbs < 2 ^ 53) :
    ∃ r s, cSumBits .add .f64 x y u v = some (r, s) ∧ Rep r (a + c) ∧ Rep s (b + d) := by
  obtain ⟨p1, e1, r1⟩ := rep_add hx hu h1
  obtain ⟨p2, e2, r2⟩ := rep_add hy hv h2
  exact ⟨p1, p2, by simp [cSumBits, e1, e2], r1, r2⟩
theorem rep_zero : Rep 0 0 := by
  obtain ⟨j, hj⟩ : ∃ j : Nat, j = 1074 := ⟨_, rfl⟩
  refine ⟨false, 0, j, ?_, (Nat.zero_mul _).symm, fun h => absurd rfl h⟩
  subst hj
  decide +kernel
theorem rep_one : Rep 4607182418800017408 1 := ⟨false, 2 ^ 52, 52, by decide +kernel, rfl, fun _ => rfl⟩
end Go.Proofs.Ytmpondcccbmlhaa.Flt
