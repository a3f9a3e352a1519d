/- A part of the claim W: the texts Khar, Hur, without what the claim does not lean on. -/
namespace Go.Proofs.YtmpondcccbmlhaaGreat.Ext
def st5 (a b c d e : Int) : Prop := 0 < b ∧ 0 < e ∧ 0 < b * c - a * d ∧ 0 < d * (b * c - a * d) - b * b * e
def st4 (a b c d : Int) : Prop := 0 < b ∧ 0 < d ∧ 0 < b * c - a * d
theorem pos_of_mul {x y : Int} (hx : 0 < x) (h : 0 < x * y) : 0 < y := by
  by_cases h2 : 0 < y
  · exact h2
  · have := Int.mul_nonpos_of_nonneg_of_nonpos (Int.le_of_lt hx) (by omega : y ≤ 0); omega
theorem st5_d {a b c d e : Int} (_ha : 0 < a) (h : st5 a b c d e) : 0 < d := by
  obtain ⟨hb, he, hD, hE⟩ := h
  have h1 : 0 < b * b * e := Int.mul_pos (Int.mul_pos hb hb) he
  have h2 : 0 < (b * c - a * d) * d := by rw [Int.mul_comm]; omega
  exact pos_of_mul hD h2
theorem le_mul {x y z : Int} (hx : 0 ≤ x) (h : y ≤ z) : x * y ≤ x * z := Int.mul_le_mul_of_nonneg_left h hx
theorem quad_form (A C E b0 b1 d0 d1 b d : Int) (hA : 0 < A) (hb0 : 0 < b0) (hd0 : 0 < d0) (h1 : b0 ≤ b) (h2 : b ≤ b1) (h3 : d0 ≤ d) (h4 : d ≤ d1)
    (hu : 0 < d0 * (b1 * C - A * d0) - b1 * b1 * E) (hv : 0 < d1 * (b0 * C - A * d1) - b0 * b0 * E) : 0 < d * (b * C - A * d) - b * b * E := by
  by_cases hs : b0 = b1 ∧ d0 = d1
  · obtain ⟨rfl, rfl⟩ := hs
    obtain rfl : b = b0 := by omega
    obtain rfl : d = d0 := by omega
    exact hu
  · obtain ⟨qu, hqu⟩ : ∃ q, q = d0 * (b1 * C - A * d0) - b1 * b1 * E := ⟨_, rfl⟩
    obtain ⟨qv, hqv⟩ : ∃ q, q = d1 * (b0 * C - A * d1) - b0 * b0 * E := ⟨_, rfl⟩
    obtain ⟨q, hq⟩ : ∃ q, q = d * (b * C - A * d) - b * b * E := ⟨_, rfl⟩
    obtain ⟨M, hM⟩ : ∃ M, M = C * (b1 * d1 + b0 * d0) - 2 * (A * (d0 * d1)) - 2 * (E * (b0 * b1)) := ⟨_, rfl⟩
    rw [← hqu] at hu; rw [← hqv] at hv; rw [← hq]
    have hb1 : 0 < b1 := by omega
    have hMp : 0 < M := by
      have e : (b1 * b0) * M = b0 * b0 * qu + b1 * b1 * qv + A * ((d0 * b0 - d1 * b1) * (d0 * b0 - d1 * b1)) := by rw [hM, hqu, hqv]; grind
      have p1 : 0 < b0 * b0 * qu := Int.mul_pos (Int.mul_pos hb0 hb0) hu
      have p2 : 0 < b1 * b1 * qv := Int.mul_pos (Int.mul_pos hb1 hb1) hv
      have p3 : 0 ≤ A * ((d0 * b0 - d1 * b1) * (d0 * b0 - d1 * b1)) := Int.mul_nonneg (Int.le_of_lt hA) (by
        rcases Int.le_total 0 (d0 * b0 - d1 * b1) with h | h
        · exact Int.mul_nonneg h h
        · exact Int.mul_nonneg_of_nonpos_of_nonpos h h)
      exact pos_of_mul (Int.mul_pos hb1 hb0) (by omega)
    obtain ⟨D, hD⟩ : ∃ D, D = b1 * d1 - b0 * d0 := ⟨_, rfl⟩
    obtain ⟨l, hl⟩ : ∃ l, l = b * d1 - d * b0 := ⟨_, rfl⟩
    obtain ⟨m, hm⟩ : ∃ m, m = b1 * d - d0 * b := ⟨_, rfl⟩
    have hl0 : 0 ≤ l := by
      have e1 := le_mul (x := b) (by omega) h4
      have e2 := le_mul (x := d) (by omega) h1
      rw [Int.mul_comm d b] at e2; omega
    have hm0 : 0 ≤ m := by
      have e1 := le_mul (x := d) (by omega) h2
      have e2 := le_mul (x := b) (by omega) h3
      rw [Int.mul_comm d b1, Int.mul_comm d b] at e1; rw [Int.mul_comm b d0] at e2; omega
    have hDp : 0 < D := by
      have e1 := le_mul (x := b1) (by omega) (by omega : d0 ≤ d1)
      have e2 := le_mul (x := d0) (by omega) (by omega : b0 ≤ b1)
      rw [Int.mul_comm d0 b0, Int.mul_comm d0 b1] at e2
      by_cases hbb : b0 = b1
      · have : 0 < b1 * (d1 - d0) := Int.mul_pos hb1 (by omega)
        rw [Int.mul_sub] at this; omega
      · have : 0 < d0 * (b1 - b0) := Int.mul_pos hd0 (by omega)
        rw [Int.mul_sub, Int.mul_comm d0 b1, Int.mul_comm d0 b0] at this; omega
    have key : (D * D) * q = l * l * qu + m * m * qv + l * m * M := by rw [hD, hq, hl, hm, hM, hqu, hqv]; grind
    have hbD : b * D = l * b1 + m * b0 := by rw [hD, hl, hm]; grind
    have q1 : 0 ≤ l * l * qu := Int.mul_nonneg (Int.mul_nonneg hl0 hl0) (Int.le_of_lt hu)
    have q2 : 0 ≤ m * m * qv := Int.mul_nonneg (Int.mul_nonneg hm0 hm0) (Int.le_of_lt hv)
    have q3 : 0 ≤ l * m * M := Int.mul_nonneg (Int.mul_nonneg hl0 hm0) (Int.le_of_lt hMp)
    refine pos_of_mul (Int.mul_pos hDp hDp) ?_
    rw [key]
    by_cases hl1 : 0 < l
    · have := Int.mul_pos (Int.mul_pos hl1 hl1) hu; omega
    · by_cases hm1 : 0 < m
      · have := Int.mul_pos (Int.mul_pos hm1 hm1) hv; omega
      · have e1 : l = 0 := by omega
        have e2 : m = 0 := by omega
        rw [e1, e2] at hbD
        have := Int.mul_pos (by omega : 0 < b) hDp
        omega
theorem khar5 (a0 a1 b0 b1 c0 c1 d0 d1 e0 e1 a b c d e : Int) (ha0 : 0 < a0) (ha : a0 ≤ a ∧ a ≤ a1) (hb : b0 ≤ b ∧ b ≤ b1) (hc : c0 ≤ c ∧ c ≤ c1) (hd : d0 ≤ d ∧ d ≤ d1) (he : e0 ≤ e ∧ e ≤ e1)
    (k1 : st5 a0 b1 c1 d0 e0) (k2 : st5 a1 b0 c0 d1 e1) (k3 : st5 a1 b1 c0 d0 e1) : st5 a b c d e := by
  have hb0 := k2.1
  have he0 := k1.2.1
  have hd0 := st5_d (by omega) k3
  have h := quad_form a1 c0 e1 b0 b1 d0 d1 b d (by omega) hb0 hd0 hb.1 hb.2 hd.1 hd.2 k3.2.2.2 k2.2.2.2
  have hbp : 0 < b := by omega
  have hdp : 0 < d := by omega
  have m1 := le_mul (x := d) (by omega) (le_mul (x := b) (by omega) hc.1)
  have m2 := le_mul (x := d) (by omega) (Int.mul_le_mul_of_nonneg_right ha.2 (by omega : 0 ≤ d))
  have m3 := le_mul (x := b * b) (Int.mul_nonneg (by omega) (by omega)) he.2
  rw [Int.mul_sub] at h
  have hE : 0 < d * (b * c - a * d) - b * b * e := by rw [Int.mul_sub]; omega
  refine ⟨hbp, by omega, ?_, hE⟩
  have hp : 0 < b * b * e := Int.mul_pos (Int.mul_pos hbp hbp) (by omega)
  exact pos_of_mul hdp (by omega)
theorem khar4 (a0 a1 b0 b1 c0 c1 d0 d1 a b c d : Int) (ha0 : 0 < a0) (ha : a0 ≤ a ∧ a ≤ a1) (hb : b0 ≤ b ∧ b ≤ b1) (hc : c0 ≤ c ∧ c ≤ c1) (hd : d0 ≤ d ∧ d ≤ d1)
    (k1 : st4 a1 b1 c0 d0) (k3 : st4 a1 b0 c0 d1) : st4 a b c d := by
  have hb0 := k3.1
  have hd0 := k1.2.1
  have hD := k3.2.2
  have had : 0 < a1 * d1 := Int.mul_pos (by omega) (by omega)
  have hc0 : 0 < c0 := pos_of_mul hb0 (by omega)
  have m1 := Int.mul_le_mul hb.1 hc.1 (by omega) (by omega : 0 ≤ b)
  have m2 := Int.mul_le_mul ha.2 hd.2 (by omega) (by omega : 0 ≤ a1)
  exact ⟨by omega, by omega, by omega⟩
end Go.Proofs.YtmpondcccbmlhaaGreat.Ext
namespace Go.Proofs.YtmpondcccbmlhaaGreat.Ext
def ent (l : List Int) (i : Nat) : Int := l.getD i 0
def gcdL (l : List Int) : Nat := l.foldl (fun g x => Nat.gcd g x.natAbs) 0
def red (l : List Int) : List Int := if gcdL l = 0 then l else l.map (· / (gcdL l : Int))
def rawRow (p : List Int) (k : Nat) (a b : List Int) : List Int :=
  (List.range ((p.length - 1 - k) / 2 + 1)).map fun j => if k < 2 then ent p (2 * j + k) else ent b 0 * ent a (j + 1) - ent a 0 * ent b (j + 1)
def tabRow (p : List Int) : Nat → List Int × List Int   
  | 0 => (red (rawRow p 0 [] []), [])
  | k + 1 => (red (rawRow p (k + 1) (tabRow p k).2 (tabRow p k).1), (tabRow p k).1)
def row (p : List Int) (k : Nat) : List Int := (tabRow p k).1
theorem foldl_gcd_dvd (l : List Int) (g : Nat) : (l.foldl (fun g x => Nat.gcd g x.natAbs) g) ∣ g ∧ ∀ x ∈ l, (l.foldl (fun g x => Nat.gcd g x.natAbs) g) ∣ x.natAbs := by
  induction l generalizing g with
  | nil => simp
  | cons x xs ih =>
    simp only [List.foldl_cons]
    have h := ih (Nat.gcd g x.natAbs)
    refine ⟨Nat.dvd_trans h.1 (Nat.gcd_dvd_left _ _), fun y hy => ?_⟩
    rcases List.mem_cons.1 hy with h2 | h2
    · subst h2; exact Nat.dvd_trans h.1 (Nat.gcd_dvd_right _ _)
    · exact h.2 y h2
theorem gcdL_dvd (l : List Int) (x : Int) (h : x ∈ l) : (gcdL l : Int) ∣ x := by
  have := (foldl_gcd_dvd l 0).2 x h
  exact Int.ofNat_dvd_left.2 this
theorem red_scale (l : List Int) : ∃ g : Int, 0 < g ∧ ∀ i, ent l i = g * ent (red l) i := by
  unfold red
  by_cases h : gcdL l = 0
  · rw [if_pos h]; exact ⟨1, by omega, fun i => by omega⟩
  · rw [if_neg h]
    refine ⟨gcdL l, by omega, fun i => ?_⟩
    unfold ent
    rw [List.getD_eq_getElem?_getD, List.getD_eq_getElem?_getD, List.getElem?_map]
    by_cases hi : i < l.length
    · rw [List.getElem?_eq_getElem hi]
      simp only [Option.map_some, Option.getD_some]
      have hd := gcdL_dvd l l[i] (List.getElem_mem hi)
      rw [Int.mul_ediv_cancel' hd]
    · rw [List.getElem?_eq_none (by omega)]; simp
theorem sgn {g x y : Int} (hg : 0 < g) (h : x = g * y) : 0 < y ↔ 0 < x := by
  subst h
  exact ⟨fun h => Int.mul_pos hg h, fun h => by
    by_cases h2 : 0 < y
    · exact h2
    · have := Int.mul_nonpos_of_nonneg_of_nonpos (Int.le_of_lt hg) (by omega : y ≤ 0); omega⟩
theorem ent_map (f : Nat → Int) (n j : Nat) : ent ((List.range n).map f) j = if j < n then f j else 0 := by
  by_cases h : j < n
  · rw [if_pos h]; simp [ent, List.getD_eq_getElem?_getD, h]
  · rw [if_neg h, ent, List.getD_eq_getElem?_getD, List.getElem?_eq_none (by simp; omega)]; rfl
theorem raw_ent (p : List Int) (k : Nat) (a b : List Int) (j : Nat) : ent (rawRow p k a b) j = if j < (p.length - 1 - k) / 2 + 1 then (if k < 2 then ent p (2 * j + k) else ent b 0 * ent a (j + 1) - ent a 0 * ent b (j + 1)) else 0 := ent_map _ _ _
def allRows (p : List Int) : Prop := ∀ k, k < p.length → 0 < ent (row p k) 0
theorem row0 (p : List Int) : ∃ g : Int, 0 < g ∧ ∀ i, i < (p.length - 1) / 2 + 1 → ent p (2 * i) = g * ent (row p 0) i := by
  obtain ⟨g, hg, h⟩ := red_scale (rawRow p 0 [] [])
  refine ⟨g, hg, fun i hi => ?_⟩
  have := h i
  rw [raw_ent, if_pos (by omega), if_pos (by omega)] at this
  exact this
theorem row1 (p : List Int) : ∃ g : Int, 0 < g ∧ ∀ i, i < (p.length - 1 - 1) / 2 + 1 → ent p (2 * i + 1) = g * ent (row p 1) i := by
  obtain ⟨g, hg, h⟩ := red_scale (rawRow p 1 [] (row p 0))
  refine ⟨g, hg, fun i hi => ?_⟩
  have := h i
  rw [raw_ent, if_pos (by omega), if_pos (by omega)] at this
  exact this
theorem row2 (p : List Int) (k : Nat) : ∃ g : Int, 0 < g ∧ ∀ i, ent (row p (k + 1)) 0 * ent (row p k) (i + 1) - ent (row p k) 0 * ent (row p (k + 1)) (i + 1) = g * ent (row p (k + 2)) i ∨ (p.length - 1 - (k + 2)) / 2 + 1 ≤ i := by
  obtain ⟨g, hg, h⟩ := red_scale (rawRow p (k + 2) (row p k) (row p (k + 1)))
  refine ⟨g, hg, fun i => ?_⟩
  have := h i
  by_cases hi : i < (p.length - 1 - (k + 2)) / 2 + 1
  · left
    rw [raw_ent, if_pos hi, if_neg (by omega)] at this
    exact this
  · right; omega
theorem ent_out (p : List Int) (k i : Nat) (h : (p.length - 1 - k) / 2 + 1 ≤ i) : ent (row p k) i = 0 := by
  have hl : ∀ l : List Int, (red l).length = l.length := by intro l; unfold red; split <;> simp
  have hr : ∀ a b, (rawRow p k a b).length = (p.length - 1 - k) / 2 + 1 := by intro a b; simp [rawRow]
  cases k with
  | zero => unfold row tabRow ent; rw [List.getD_eq_getElem?_getD, List.getElem?_eq_none (by rw [hl, hr]; exact h)]; rfl
  | succ k => unfold row tabRow ent; rw [List.getD_eq_getElem?_getD, List.getElem?_eq_none (by rw [hl, hr]; exact h)]; rfl
theorem hur2 (a b : Int) (ha : 0 < a) : allRows [a, b] ↔ 0 < b := by
  obtain ⟨g0, h0, e0⟩ := row0 [a, b]
  obtain ⟨g1, h1, e1⟩ := row1 [a, b]
  have s0 : a = _ := e0 0 (by simp)
  have s1 : b = _ := e1 0 (by simp)
  have t0 := sgn h0 s0
  have t1 := sgn h1 s1
  constructor
  · intro h; exact t1.1 (h 1 (by simp))
  · intro h k hk
    simp at hk
    obtain rfl | rfl : k = 0 ∨ k = 1 := by omega
    · exact t0.2 ha
    · exact t1.2 h
theorem hur3 (a b c : Int) (ha : 0 < a) : allRows [a, b, c] ↔ 0 < b ∧ 0 < c := by
  obtain ⟨g0, h0, e0⟩ := row0 [a, b, c]
  obtain ⟨g1, h1, e1⟩ := row1 [a, b, c]
  obtain ⟨g2, h2, e2⟩ := row2 [a, b, c] 0
  have s0 : a = _ := e0 0 (by simp)
  have s0' : c = _ := e0 1 (by simp)
  have s1 : b = _ := e1 0 (by simp)
  have s1' : ent (row [a, b, c] 1) 1 = 0 := ent_out _ _ _ (by simp)
  have s2 := (e2 0).resolve_right (by simp)
  simp only [Nat.zero_add] at s2
  have t0 := sgn h0 s0
  have t0' := sgn h0 s0'
  have t1 := sgn h1 s1
  rw [s1', Int.mul_zero, Int.sub_zero] at s2
  have t2 := sgn h2 s2
  constructor
  · intro h
    have k1 := h 1 (by simp)
    have k2 := h 2 (by simp)
    refine ⟨t1.1 k1, ?_⟩
    have := t2.1 k2
    exact t0'.1 ((sgn k1 rfl).2 this)
  · rintro ⟨hb, hc⟩ k hk
    simp at hk
    obtain rfl | rfl | rfl : k = 0 ∨ k = 1 ∨ k = 2 := by omega
    · exact t0.2 ha
    · exact t1.2 hb
    · exact t2.2 (Int.mul_pos (t1.2 hb) (t0'.2 hc))
theorem hur4 (a b c d : Int) (ha : 0 < a) : allRows [a, b, c, d] ↔ 0 < b ∧ 0 < d ∧ 0 < b * c - a * d := by
  obtain ⟨g0, h0, e0⟩ := row0 [a, b, c, d]
  obtain ⟨g1, h1, e1⟩ := row1 [a, b, c, d]
  obtain ⟨g2, h2, e2⟩ := row2 [a, b, c, d] 0
  obtain ⟨g3, h3, e3⟩ := row2 [a, b, c, d] 1
  have s0 : a = _ := e0 0 (by simp)
  have s0' : c = _ := e0 1 (by simp)
  have s1 : b = _ := e1 0 (by simp)
  have s1' : d = _ := e1 1 (by simp)
  have s2 := (e2 0).resolve_right (by simp)
  have s2' : ent (row [a, b, c, d] 2) 1 = 0 := ent_out _ _ _ (by simp)
  have s3 := (e3 0).resolve_right (by simp)
  simp only [Nat.zero_add, Nat.reduceAdd] at s2 s3
  rw [s2', Int.mul_zero, Int.sub_zero] at s3
  have t0 := sgn h0 s0
  have t0' := sgn h0 s0'
  have t1 := sgn h1 s1
  have t1' := sgn h1 s1'
  have e : b * c - a * d = (g0 * g1 * g2) * ent (row [a, b, c, d] 2) 0 := by
    rw [Int.mul_assoc, ← s2]
    conv => lhs; rw [s0, s0', s1, s1']
    grind
  have t2 := sgn (Int.mul_pos (Int.mul_pos h0 h1) h2) e
  have t3 := sgn h3 s3
  constructor
  · intro h
    have k1 := h 1 (by simp)
    have k2 := h 2 (by simp)
    have k3 := h 3 (by simp)
    exact ⟨t1.1 k1, t1'.1 ((sgn k2 rfl).2 (t3.1 k3)), t2.1 k2⟩
  · rintro ⟨hb, hd, hD⟩ k hk
    simp at hk
    obtain rfl | rfl | rfl | rfl : k = 0 ∨ k = 1 ∨ k = 2 ∨ k = 3 := by omega
    · exact t0.2 ha
    · exact t1.2 hb
    · exact t2.2 hD
    · exact t3.2 (Int.mul_pos (t2.2 hD) (t1'.2 hd))
theorem aux5 (b d e D g0 g1 g2 g3 a2 b0 b1 x y : Int) {z : Int} (s0 : e = g0 * a2) (s1 : b = g1 * b0) (s1' : d = g1 * b1) (f2 : D = g0 * g1 * g2 * x) (s2' : b0 * a2 = g2 * y) (s3 : x * b1 - b0 * y = g3 * z) :
    d * D - b * b * e = (g0 * g1 * g2 * g1 * g3) * z := by
  have h1 : d * D - b * b * e = g0 * g1 * g1 * (g2 * x * b1 - b0 * (b0 * a2)) := by subst s0 s1 s1' f2; grind
  rw [h1, s2']
  have h2 : g2 * x * b1 - b0 * (g2 * y) = g2 * (x * b1 - b0 * y) := by grind
  rw [h2, s3]
  grind
theorem hur5 (a b c d e : Int) (ha : 0 < a) : allRows [a, b, c, d, e] ↔ 0 < b ∧ 0 < e ∧ 0 < b * c - a * d ∧ 0 < d * (b * c - a * d) - b * b * e := by
  obtain ⟨g0, h0, e0⟩ := row0 [a, b, c, d, e]
  obtain ⟨g1, h1, e1⟩ := row1 [a, b, c, d, e]
  obtain ⟨g2, h2, e2⟩ := row2 [a, b, c, d, e] 0
  obtain ⟨g3, h3, e3⟩ := row2 [a, b, c, d, e] 1
  obtain ⟨g4, h4, e4⟩ := row2 [a, b, c, d, e] 2
  have s0 : a = _ := e0 0 (by simp)
  have s0' : c = _ := e0 1 (by simp)
  have s0'' : e = _ := e0 2 (by simp)
  have s1 : b = _ := e1 0 (by simp)
  have s1' : d = _ := e1 1 (by simp)
  have s1'' : ent (row [a, b, c, d, e] 1) 2 = 0 := ent_out _ _ _ (by simp)
  have s2 := (e2 0).resolve_right (by simp)
  have s2' := (e2 1).resolve_right (by simp)
  have s3 := (e3 0).resolve_right (by simp)
  have s3' : ent (row [a, b, c, d, e] 3) 1 = 0 := ent_out _ _ _ (by simp)
  have s4 := (e4 0).resolve_right (by simp)
  simp only [Nat.zero_add, Nat.reduceAdd] at s2 s2' s3 s4
  rw [s1'', Int.mul_zero, Int.sub_zero] at s2'
  rw [s3', Int.mul_zero, Int.sub_zero] at s4
  have t0 := sgn h0 s0
  have t0'' := sgn h0 s0''
  have t1 := sgn h1 s1
  have f2 : b * c - a * d = (g0 * g1 * g2) * ent (row [a, b, c, d, e] 2) 0 := by
    rw [Int.mul_assoc, ← s2]
    conv => lhs; rw [s0, s0', s1, s1']
    grind
  have f3 : d * (b * c - a * d) - b * b * e = (g0 * g1 * g2 * g1 * g3) * ent (row [a, b, c, d, e] 3) 0 := by
    exact aux5 _ _ _ _ _ _ _ _ _ _ _ _ _ s0'' s1 s1' f2 s2' s3
  have t2 := sgn (Int.mul_pos (Int.mul_pos h0 h1) h2) f2
  have t3 := sgn (Int.mul_pos (Int.mul_pos (Int.mul_pos (Int.mul_pos h0 h1) h2) h1) h3) f3
  have t4 := sgn h4 s4
  have t2' := sgn h2 s2'
  constructor
  · intro h
    have k1 := h 1 (by simp)
    have k2 := h 2 (by simp)
    have k3 := h 3 (by simp)
    have k4 := h 4 (by simp)
    exact ⟨t1.1 k1, t0''.1 ((sgn k1 rfl).2 (t2'.1 ((sgn k3 rfl).2 (t4.1 k4)))), t2.1 k2, t3.1 k3⟩
  · rintro ⟨hb, he, hD, hE⟩ k hk
    simp at hk
    obtain rfl | rfl | rfl | rfl | rfl : k = 0 ∨ k = 1 ∨ k = 2 ∨ k = 3 ∨ k = 4 := by omega
    · exact t0.2 ha
    · exact t1.2 hb
    · exact t2.2 hD
    · exact t3.2 hE
    · exact t4.2 (Int.mul_pos (t3.2 hE) (t2'.2 (Int.mul_pos (t1.2 hb) (t0''.2 he))))
end Go.Proofs.YtmpondcccbmlhaaGreat.Ext
