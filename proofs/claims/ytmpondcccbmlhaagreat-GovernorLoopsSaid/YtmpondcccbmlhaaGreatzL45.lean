/- A part of the claim L: the texts Uns, without what the claim does not lean on. -/
import Derived.Test.YtmpondcccbmlhaaGreatzL27
namespace Go.Proofs.YtmpondcccbmlhaaGreat.Ext
def fromOf (b : List Int) : Nat := if b.length = 0 then 0 else (b.getD (b.length - 1) 0).toNat + 1
def searchFrom (g : Nat → List Int × Bool) : Nat → Nat → List Int × Bool
 | 0, _ => ([], false)
 | d + 1, i => if (g i).2 = true then g i else searchFrom g d (i + 1)
def unstOf (P : List Int → Bool) (n : Nat) : Nat → List Int → List Int × Bool
 | 0, b => (b, !P b)
 | m + 1, b => searchFrom (fun i => unstOf P n m (b ++ [(i : Int)])) (n - fromOf b) (fromOf b)
def unstSizes (P : List Int → Bool) (n : Nat) : Nat → Nat → List Int × Bool
 | 0, _ => ([], false)
 | d + 1, s => if (unstOf P n s []).2 = true then unstOf P n s [] else unstSizes P n d (s + 1)
def pick (e : List Int) : Option (List Int) → List Int × Bool
 | some s => (s, true)
 | none => (e, false)
theorem fromOf_snoc (b : List Int) (i : Nat) : fromOf (b ++ [(i : Int)]) = i + 1 := by
 unfold fromOf
 rw [if_neg (by simp), List.length_append, List.length_singleton, Nat.add_sub_cancel, List.getD_eq_getElem?_getD, List.getElem?_append_right (Nat.le_refl _), Nat.sub_self]
 simp
theorem unst_find (P : List Int → Bool) (n : Nat) : ∀ (m : Nat) (b : List Int), fromOf b ≤ n → unstOf P n m b = pick (if m = 0 then b else []) (((combos n (n - fromOf b) m).find? (fun s => !P (b ++ s))).map (b ++ ·)) := by
 intro m
 induction m with
 | zero =>
  intro b _
  have e : combos n (n - fromOf b) 0 = [[]] := by cases (n - fromOf b) <;> rfl
  rw [e, unstOf, List.find?_cons, List.append_nil]
  cases P b <;> simp [pick]
 | succ m ih =>
  intro b hb
  rw [unstOf, if_neg (by omega)]
  have key : ∀ d i, n - i = d → i ≤ n → searchFrom (fun i => unstOf P n m (b ++ [(i : Int)])) d i = pick [] (((combos n d (m + 1)).find? (fun s => !P (b ++ s))).map (b ++ ·)) := by
   intro d
   induction d with
   | zero => intro i _ _; rfl
   | succ d ihd =>
    intro i hd hi
    have e := ih (b ++ [(i : Int)]) (by rw [fromOf_snoc]; omega)
    rw [fromOf_snoc, show n - (i + 1) = d by omega] at e
    have e2 : (fun s => !P (b ++ [(i : Int)] ++ s)) = (fun s => !P (b ++ s)) ∘ (fun s => (i : Int) :: s) := by
     funext s; simp
    rw [searchFrom, combos, List.find?_append, List.find?_map, show n - d - 1 = i by omega]
    rw [e2] at e
    simp only [e]
    cases hf : (combos n d m).find? ((fun s => !P (b ++ s)) ∘ (fun s => (i : Int) :: s)) with
    | some s => simp [pick]
    | none =>
     simp only [Option.map_none, Option.none_or, pick, Bool.false_eq_true, if_false]
     exact ihd (i + 1) (by omega) (by omega)
  exact key _ _ rfl hb
def tailSets (n : Nat) : Nat → Nat → List (List Int)
 | 0, _ => []
 | d + 1, s => combos n n s ++ tailSets n d (s + 1)
theorem setsTo_tail (n : Nat) : ∀ d s, setsTo n (s + d) = setsTo n s ++ tailSets n d s := by
 intro d
 induction d with
 | zero => intro s; simp [tailSets]
 | succ d ih =>
  intro s
  rw [show s + (d + 1) = (s + 1) + d by omega, ih (s + 1), setsTo, tailSets, List.append_assoc]
theorem unst_sizes (P : List Int → Bool) (n : Nat) : ∀ d s, unstSizes P n d s = pick [] ((tailSets n d s).find? (fun s => !P s)) := by
 intro d
 induction d with
 | zero => intro s; rfl
 | succ d ih =>
  intro s
  have e := unst_find P n s [] (by simp [fromOf])
  have e0 : n - fromOf [] = n := by simp [fromOf]
  rw [e0] at e
  simp only [List.nil_append, Option.map_id'] at e
  have e' : unstOf P n s [] = pick [] ((combos n n s).find? (fun s => !P s)) := by
   rw [e]; congr 1
   ·split <;> rfl
  rw [unstSizes, tailSets, List.find?_append, e']
  cases hf : (combos n n s).find? (fun s => !P s) with
  | some t => simp [pick]
  | none =>
   simp only [Option.none_or, pick, Bool.false_eq_true, if_false]
   exact ih (s + 1)
theorem unst_all (P : List Int → Bool) (n : Nat) : unstSizes P n (n + 1) 0 = pick [] ((setsTo n (n + 1)).find? (fun s => !P s)) := by
 have := setsTo_tail n (n + 1) 0
 rw [Nat.zero_add] at this
 rw [unst_sizes, this]
 rfl
theorem combos_erase : ∀ n, n < 7 → ∀ m, m < 7 → ∀ s ∈ combos n n (m + 1), ∀ k, k < m + 1 → s.eraseIdx k ∈ combos n n m := by decide +kernel
def okSet (n m : Nat) (s : List Int) : Bool := decide (s.length = m) && (List.range m).all fun i => decide (0 ≤ s.getD i 0) && decide (s.getD i 0 < (n : Int)) && (decide (i = 0) || decide (s.getD (i - 1) 0 < s.getD i 0))
theorem combos_ok : ∀ n, n < 7 → ∀ m, m < 8 → ∀ s ∈ combos n n m, okSet n m s = true := by decide +kernel
theorem combos_are (n : Nat) (hn : n < 7) (m : Nat) (hm : m < 8) (s : List Int) (hs : s ∈ combos n n m) : s.length = m ∧ ∀ i, i < m → 0 ≤ s.getD i 0 ∧ s.getD i 0 < n ∧ (0 < i → s.getD (i - 1) 0 < s.getD i 0) := by
 have h := combos_ok n hn m hm s hs
 unfold okSet at h
 rw [Bool.and_eq_true, decide_eq_true_eq, List.all_eq_true] at h
 refine ⟨h.1, fun i hi => ?_⟩
 have h2 := h.2 i (List.mem_range.2 hi)
 simp only [Bool.and_eq_true, Bool.or_eq_true, decide_eq_true_eq] at h2
 refine ⟨h2.1.1, h2.1.2, fun h0 => ?_⟩
 rcases h2.2 with h3 | h3
 ·omega
 ·exact h3
theorem setsTo_mem {n : Nat} {t : List Int} : ∀ {k : Nat}, t ∈ setsTo n k → ∃ m, m < k ∧ t ∈ combos n n m := by
 intro k
 induction k with
 | zero => intro h; simp [setsTo] at h
 | succ k ih =>
  intro h
  rw [setsTo, List.mem_append] at h
  rcases h with h | h
  ·obtain ⟨m, hm, ht⟩ := ih h; exact ⟨m, by omega, ht⟩
  ·exact ⟨k, by omega, h⟩
theorem mem_setsTo {n m : Nat} {t : List Int} (ht : t ∈ combos n n m) : ∀ {k : Nat}, m < k → t ∈ setsTo n k := by
 intro k
 induction k with
 | zero => intro h; omega
 | succ k ih =>
  intro h
  rw [setsTo, List.mem_append]
  by_cases hk : m < k
  ·exact .inl (ih hk)
  ·exact .inr (by rw [show k = m by omega]; exact ht)
theorem first_set {P : List Int → Bool} {n : Nat} (hn : n < 7) {s : List Int} (h : (setsTo n (n + 1)).find? (fun s => !P s) = some s) :
  P s = false ∧ s ∈ combos n n s.length ∧ s.length ≤ n ∧ ∀ k, k < s.length → s.eraseIdx k ∈ combos n n (s.length - 1) ∧ P (s.eraseIdx k) = true := by
 have h1 := List.find?_some h
 have h2 := List.mem_of_find?_eq_some h
 obtain ⟨m, hm, hs⟩ := setsTo_mem h2
 have hl := (combos_are n hn m (by omega) s hs).1
 refine ⟨by simpa using h1, by rw [hl]; exact hs, by omega, fun k hk => ?_⟩
 rcases m with _ | m
 ·omega
 ·have he := combos_erase n hn m (by omega) s hs k (by omega)
  refine ⟨by rw [hl]; exact he, ?_⟩
  have hsp := setsTo_tail n (n - m) (m + 1)
  rw [show m + 1 + (n - m) = n + 1 by omega] at hsp
  rw [hsp, List.find?_append] at h
  cases hf : (setsTo n (m + 1)).find? (fun s => !P s) with
  | none =>
   have := List.find?_eq_none.1 hf _ (mem_setsTo he (by omega))
   simpa using this
  | some t =>
   rw [hf] at h
   obtain rfl : t = s := by simpa using h
   obtain ⟨q, hq, ht⟩ := setsTo_mem (List.mem_of_find?_eq_some hf)
   have := (combos_are n hn q (by omega) t ht).1
   omega
end Go.Proofs.YtmpondcccbmlhaaGreat.Ext
