/- A part of the claim P: the texts Khar, Prd, without what the claim does not lean on. -/
namespace Go.Proofs.Ytmpondcccbmlhaa.Ext
def st5 (a b c d e : Int) : Prop := 0 < b ∧ 0 < e ∧ 0 < b * c - a * d ∧ 0 < d * (b * c - a * d) - b * b * e
def st4 (a b c d : Int) : Prop := 0 < b ∧ 0 < d ∧ 0 < b * c - a * d
def st3 (b c : Int) : Prop := 0 < b ∧ 0 < c
theorem pos_of_mul {x y : Int} (hx : 0 < x) (h : 0 < x * y) : 0 < y := by
  by_cases h2 : 0 < y
  · exact h2
  · have := Int.mul_nonpos_of_nonneg_of_nonpos (Int.le_of_lt hx) (by omega : y ≤ 0); omega
theorem st5_d {a b c d e : Int} (_ha : 0 < a) (h : st5 a b c d e) : 0 < d := by
  obtain ⟨hb, he, hD, hE⟩ := h
  have h1 : 0 < b * b * e := Int.mul_pos (Int.mul_pos hb hb) he
  have h2 : 0 < (b * c - a * d) * d := by rw [Int.mul_comm]; omega
  exact pos_of_mul hD h2
end Go.Proofs.Ytmpondcccbmlhaa.Ext
namespace Go.Proofs.Ytmpondcccbmlhaa.Ext
theorem mul_neg_split {x y : Int} (h : 0 < x * y) : (0 < x ∧ 0 < y) ∨ (x < 0 ∧ y < 0) := by
  rcases Int.lt_trichotomy 0 x with hx | hx | hx
  · exact .inl ⟨hx, pos_of_mul hx h⟩
  · rw [← hx] at h; omega
  · refine .inr ⟨hx, ?_⟩
    have : 0 < (-x) * (-y) := by rw [Int.neg_mul_neg]; exact h
    have := pos_of_mul (by omega : 0 < -x) this
    omega
theorem sq_nonneg (x : Int) : 0 ≤ x * x := by
  rcases Int.le_total 0 x with h | h
  · exact Int.mul_nonneg h h
  · exact Int.mul_nonneg_of_nonpos_of_nonpos h h
theorem prod11 (a0 a1 b0 b1 : Int) (ha : 0 < a0) (hb : 0 < b0) : st3 (a0 * b1 + a1 * b0) (a1 * b1) ↔ 0 < a1 ∧ 0 < b1 := by
  constructor
  · rintro ⟨h1, h2⟩
    rcases mul_neg_split h2 with h | ⟨h3, h4⟩
    · exact h
    · have e1 : a0 * b1 < 0 := Int.mul_neg_of_pos_of_neg ha h4
      have e2 : a1 * b0 < 0 := Int.mul_neg_of_neg_of_pos h3 hb
      omega
  · rintro ⟨h1, h2⟩
    have e1 := Int.mul_pos ha h2
    have e2 := Int.mul_pos h1 hb
    exact ⟨by omega, Int.mul_pos h1 h2⟩
theorem prod12 (a0 a1 b0 b1 b2 : Int) (ha : 0 < a0) (hb : 0 < b0) : st4 (a0 * b0) (a0 * b1 + a1 * b0) (a0 * b2 + a1 * b1) (a1 * b2) ↔ 0 < a1 ∧ 0 < b1 ∧ 0 < b2 := by
  have key : (a0 * b1 + a1 * b0) * (a0 * b2 + a1 * b1) - a0 * b0 * (a1 * b2) = b1 * (a1 * (a0 * b1 + a1 * b0) + a0 * a0 * b2) := by grind
  unfold st4
  rw [key]
  constructor
  · rintro ⟨h1, h2, h3⟩
    rcases mul_neg_split h2 with ⟨h4, h5⟩ | ⟨h4, h5⟩
    · have e1 := Int.mul_pos h4 h1
      have e2 : 0 < a0 * a0 * b2 := Int.mul_pos (Int.mul_pos ha ha) h5
      rw [Int.mul_comm] at h3
      exact ⟨h4, pos_of_mul (by omega) h3, h5⟩
    · exfalso
      have e0 : a1 * b0 < 0 := Int.mul_neg_of_neg_of_pos h4 hb
      have e3 : 0 < b1 := pos_of_mul ha (by omega)
      have e1 : a1 * (a0 * b1 + a1 * b0) < 0 := Int.mul_neg_of_neg_of_pos h4 h1
      have e2 : a0 * a0 * b2 < 0 := Int.mul_neg_of_pos_of_neg (Int.mul_pos ha ha) h5
      have := pos_of_mul e3 h3
      omega
  · rintro ⟨h1, h2, h3⟩
    have e1 := Int.mul_pos ha h2
    have e2 := Int.mul_pos h1 hb
    have e3 : 0 < a1 * (a0 * b1 + a1 * b0) := Int.mul_pos h1 (by omega)
    have e4 : 0 < a0 * a0 * b2 := Int.mul_pos (Int.mul_pos ha ha) h3
    exact ⟨by omega, Int.mul_pos h1 h3, Int.mul_pos h2 (by omega)⟩
theorem prod22 (a0 a1 a2 b0 b1 b2 : Int) (ha : 0 < a0) (hb : 0 < b0) :
    st5 (a0 * b0) (a0 * b1 + a1 * b0) (a0 * b2 + a1 * b1 + a2 * b0) (a1 * b2 + a2 * b1) (a2 * b2) ↔ (0 < a1 ∧ 0 < a2) ∧ 0 < b1 ∧ 0 < b2 := by
  have hab : 0 < a0 * b0 := Int.mul_pos ha hb
  have key : (a1 * b2 + a2 * b1) * ((a0 * b1 + a1 * b0) * (a0 * b2 + a1 * b1 + a2 * b0) - a0 * b0 * (a1 * b2 + a2 * b1)) - (a0 * b1 + a1 * b0) * (a0 * b1 + a1 * b0) * (a2 * b2)
      = (a1 * b1) * ((a0 * b2 - a2 * b0) * (a0 * b2 - a2 * b0) + (a0 * b1 + a1 * b0) * (a1 * b2 + a2 * b1)) := by grind
  constructor
  · intro h
    have hd := st5_d hab h
    obtain ⟨h1, h2, h3, h4⟩ := h
    rw [key] at h4
    have e1 : 0 < (a0 * b2 - a2 * b0) * (a0 * b2 - a2 * b0) + (a0 * b1 + a1 * b0) * (a1 * b2 + a2 * b1) := by
      have := sq_nonneg (a0 * b2 - a2 * b0)
      have := Int.mul_pos h1 hd
      omega
    rw [Int.mul_comm] at h4
    have h5 := pos_of_mul e1 h4
    rcases mul_neg_split h5 with ⟨h6, h7⟩ | ⟨h6, h7⟩
    · rcases mul_neg_split h2 with ⟨h8, h9⟩ | ⟨h8, h9⟩
      · exact ⟨⟨h6, h8⟩, h7, h9⟩
      · have := Int.mul_neg_of_pos_of_neg h6 h9
        have := Int.mul_neg_of_neg_of_pos h8 h7
        omega
    · have := Int.mul_neg_of_pos_of_neg ha h7
      have := Int.mul_neg_of_neg_of_pos h6 hb
      omega
  · rintro ⟨⟨h1, h2⟩, h3, h4⟩
    have p1 := Int.mul_pos ha h3
    have p2 := Int.mul_pos h1 hb
    have p3 := Int.mul_pos h1 h4
    have p4 := Int.mul_pos h2 h3
    refine ⟨by omega, Int.mul_pos h2 h4, ?_, ?_⟩
    · have e : (a0 * b1 + a1 * b0) * (a0 * b2 + a1 * b1 + a2 * b0) - a0 * b0 * (a1 * b2 + a2 * b1) = (a0 * b1) * (a0 * b2) + (a0 * b1) * (a1 * b1) + (a1 * b0) * (a1 * b1) + (a1 * b0) * (a2 * b0) := by grind
      rw [e]
      have q1 := Int.mul_pos p1 (Int.mul_pos ha h4)
      have q2 := Int.mul_pos p1 (Int.mul_pos h1 h3)
      have q3 := Int.mul_pos p2 (Int.mul_pos h1 h3)
      have q4 := Int.mul_pos p2 (Int.mul_pos h2 hb)
      omega
    · rw [key]
      have q1 := sq_nonneg (a0 * b2 - a2 * b0)
      have q2 := Int.mul_pos (by omega : 0 < a0 * b1 + a1 * b0) (by omega : 0 < a1 * b2 + a2 * b1)
      exact Int.mul_pos (Int.mul_pos h1 h3) (by omega)
end Go.Proofs.Ytmpondcccbmlhaa.Ext
