/- A part of the claim P: the texts Sets, without what the claim does not lean on. -/
namespace Go.Proofs.Ytmpondcccbmlhaa.Ext
def bitsTo (m : Nat) : Nat → List Int
  | 0 => []
  | i + 1 => bitsTo m i ++ (if m.testBit i = true then [(i : Int)] else [])
def maskTo (n s : Nat) : Nat → List (List Int)
  | 0 => []
  | m + 1 => maskTo n s m ++ (if (bitsTo m n).length = s then [bitsTo m n] else [])
def combos (n : Nat) : Nat → Nat → List (List Int)
  | _, 0 => [[]]
  | 0, _ + 1 => []
  | d + 1, s + 1 => (combos n d s).map (((n - d - 1 : Nat) : Int) :: ·) ++ combos n d (s + 1)
def setsTo (n : Nat) : Nat → List (List Int)
  | 0 => []
  | s + 1 => setsTo n s ++ combos n n s
def cmpL : List Int → List Int → Int
  | [], [] => 0
  | [], _ :: _ => -1
  | _ :: _, [] => 1
  | x :: xs, y :: ys => if x < y then -1 else if y < x then 1 else cmpL xs ys
theorem cmpL_self (l : List Int) : cmpL l l = 0 := by
  induction l with
  | nil => rfl
  | cons x xs ih => simp [cmpL, ih]
theorem cmpL_trans (a b c : List Int) (h1 : cmpL a b < 0) (h2 : cmpL b c < 0) : cmpL a c < 0 := by
  induction a generalizing b c with
  | nil =>
    cases b with
    | nil => simp [cmpL] at h1
    | cons y ys =>
      cases c with
      | nil => simp [cmpL] at h2
      | cons z zs => simp [cmpL]
  | cons x xs ih =>
    cases b with
    | nil => simp [cmpL] at h1
    | cons y ys =>
      cases c with
      | nil => simp [cmpL] at h2
      | cons z zs =>
        simp only [cmpL] at h1 h2 ⊢
        split at h1
        · split at h2
          · rw [if_pos (by omega)]; omega
          · split at h2
            · omega
            · rw [if_pos (by omega)]; omega
        · split at h1
          · omega
          · split at h2
            · rw [if_pos (by omega)]; omega
            · split at h2
              · omega
              · rw [if_neg (by omega), if_neg (by omega)]
                exact ih ys zs h1 h2
theorem cmpL_ntrans (a b c : List Int) (h1 : ¬ cmpL a b < 0) (h2 : ¬ cmpL b c < 0) : ¬ cmpL a c < 0 := by
  induction a generalizing b c with
  | nil =>
    cases b with
    | nil => exact h2
    | cons y ys => simp [cmpL] at h1
  | cons x xs ih =>
    cases b with
    | nil =>
      cases c with
      | nil => simp [cmpL]
      | cons z zs => simp [cmpL] at h2
    | cons y ys =>
      cases c with
      | nil => simp [cmpL]
      | cons z zs =>
        simp only [cmpL] at h1 h2 ⊢
        split at h1
        · omega
        · split at h1
          · split at h2
            · omega
            · split at h2
              · rw [if_neg (by omega), if_pos (by omega)]; omega
              · rw [if_neg (by omega), if_pos (by omega)]; omega
          · split at h2
            · omega
            · split at h2
              · rw [if_neg (by omega), if_pos (by omega)]; omega
              · rw [if_neg (by omega), if_neg (by omega)]
                exact ih ys zs h1 h2
theorem cmpL_asymm (a b : List Int) (h1 : cmpL a b < 0) : ¬ cmpL b a < 0 := by
  intro h2
  have := cmpL_trans a b a h1 h2
  rw [cmpL_self] at this; omega
theorem sorted_uniq {α : Type} (lt : α → α → Prop) (ha : ∀ a b, lt a b → ¬ lt b a) : ∀ (l1 l2 : List α), l1.Perm l2 → l1.Pairwise lt → l2.Pairwise lt → l1 = l2 := by
  intro l1
  induction l1 with
  | nil => intro l2 hp _ _; exact (List.nil_perm.1 hp).symm
  | cons a t ih =>
    intro l2 hp h1 h2
    cases l2 with
    | nil => exact absurd hp.symm (by simp)
    | cons b u =>
      rw [List.pairwise_cons] at h1 h2
      have hab : a = b := by
        have h3 : a ∈ b :: u := hp.mem_iff.1 (by simp)
        have h4 : b ∈ a :: t := hp.mem_iff.2 (by simp)
        rcases List.mem_cons.1 h3 with h5 | h5
        · exact h5
        · rcases List.mem_cons.1 h4 with h6 | h6
          · exact h6.symm
          · exact absurd (h1.1 b h6) (ha _ _ (h2.1 a h5))
      subst hab
      rw [ih u (List.Perm.cons_inv hp) h1.2 h2.2]
theorem combos_sorted : ∀ n, n < 7 → ∀ s, s < 7 → (combos n n s).Pairwise (fun a b => cmpL a b < 0) := by decide +kernel
theorem combos_perm : ∀ n, n < 7 → ∀ s, s < 7 → (maskTo n s (2 ^ n)).isPerm (combos n n s) = true := by decide +kernel
end Go.Proofs.Ytmpondcccbmlhaa.Ext
