/- A part of the claim P: the texts Tab, without what the claim does not lean on. -/
import Derived.ArgAppend
import Derived.Below
import Derived.BigQuiet
import Derived.Deep.AppendLies
import Derived.Deep.CutBlock
import Derived.Deep.DeepCutAuto
import Derived.Deep.Draws
import Derived.Deep.LoopGhost
import Derived.Deep.OwnRows
import Derived.Deep.QuietTactic
import Derived.Deep.RegionHeld3
import Derived.KernelRfl
import Derived.Laws.BitsLemmas
import Derived.Laws.BytesArg
import Derived.Laws.IdiomCopy
import Derived.Laws.MakeOwn
import Derived.Laws.OwnMore
import Derived.Laws.Rows
import Derived.Laws.Slices
import Derived.Laws.StructEq
import Derived.Lib.AppendStr
import Derived.Lib.ConvBytes
import Derived.Lib.Hide
import Derived.Maps.AppendAt
import Derived.OrdersHeld
import Derived.Outline
import Derived.OwnWalk
import Derived.RowKit
import Derived.RowKit3
import Derived.Shelf.Abstract
import Derived.Tactics
import Derived.WalkKit
import Derived.WideLaws
import Derived.Test.YtmpondcccbmlhaaProg
import Derived.Test.YtmpondcccbmlhaazP0
import Derived.Test.YtmpondcccbmlhaazP1
import Derived.Test.YtmpondcccbmlhaazP2
import Derived.Test.YtmpondcccbmlhaazP3
import Derived.Test.YtmpondcccbmlhaazP4
import Derived.Test.YtmpondcccbmlhaazP5
import Derived.Test.YtmpondcccbmlhaazP6
import Derived.Test.YtmpondcccbmlhaazP7
import Derived.Test.YtmpondcccbmlhaazP8
import Derived.Test.YtmpondcccbmlhaazP9
import Derived.Test.YtmpondcccbmlhaazP32
namespace Go.Proofs.Ytmpondcccbmlhaa.Ext
open Go.RowKit Go.Proofs.YtmpondcccbmlhaaW.PrintWords Go.Proofs.YtmpondcccbmlhaaW.PrintLast Go.Proofs.YtmpondcccbmlhaaW.PrintMore
theorem size_abs (x : Int) (h0 : -9000000000000000000 ≤ x) (h1 : x ≤ 9000000000000000000) : Q.governor_size.f x = some (x.natAbs : Int) := by
  unfold Q.governor_size.f
  rw [w64 (by omega) (by omega)]
  unfold mx
  congr 1
  split <;> omega
theorem entry_eval (l : List Int) (i : Nat) : Q.governor_entry.f l (i : Int) = some (ent l i) := by
  unfold Q.governor_entry.f ent
  by_cases h : i < l.length
  · rw [if_pos (by omega), if_pos (by omega), rd_nat]
  · rw [if_neg (by omega), List.getD_eq_getElem?_getD, List.getElem?_eq_none (by omega)]; rfl
theorem red_l1 (x0 x7 : List Int) (x8 x9 : Int) : ∀ (n : Nat) (a b : Int), b.natAbs ≤ n → ∃ (d : Nat) (a' : Int), d ≤ n + 1 ∧ a'.natAbs = Nat.gcd a.natAbs b.natAbs ∧
    ∀ k, d ≤ k → Q.governor_reduced.l1 k x0 a b x7 x8 x9 = Q.governor_reduced.l0 (k - d) x0 a' x7 x8 (wrap64 (x9 + 1)) := by
  intro n
  induction n with
  | zero =>
    intro a b hb
    have hb0 : b = 0 := by omega
    refine ⟨1, a, by omega, by rw [hb0]; simp, fun k hk => ?_⟩
    obtain ⟨k, rfl⟩ : ∃ m, k = m + 1 := ⟨k - 1, by omega⟩
    simp only [Q.governor_reduced.l1]
    rw [if_pos hb0]; rfl
  | succ n ih =>
    intro a b hb
    by_cases hb0 : b = 0
    · refine ⟨1, a, by omega, by rw [hb0]; simp, fun k hk => ?_⟩
      obtain ⟨k, rfl⟩ : ∃ m, k = m + 1 := ⟨k - 1, by omega⟩
      simp only [Q.governor_reduced.l1]
      rw [if_pos hb0]; rfl
    · have hm : (Int.tmod a b).natAbs = a.natAbs % b.natAbs := Int.natAbs_tmod a b
      have hlt : a.natAbs % b.natAbs < b.natAbs := Nat.mod_lt _ (by omega)
      obtain ⟨d, a', h1, h2, h3⟩ := ih b (Int.tmod a b) (by omega)
      refine ⟨d + 1, a', by omega, ?_, fun k hk => ?_⟩
      · rw [h2, hm, Nat.gcd_comm a.natAbs, Nat.gcd_rec b.natAbs a.natAbs, Nat.gcd_comm]
      · obtain ⟨k, rfl⟩ : ∃ m, k = m + 1 := ⟨k - 1, by omega⟩
        simp only [Q.governor_reduced.l1]
        rw [if_neg hb0, h3 k (by omega), show k + 1 - (d + 1) = k - d by omega]
theorem red_l2 (x : List Int) (a : Int) (ha : a ≠ 0) (hab : a.natAbs ≤ 9000000000000000000) (hx : x.length ≤ 1000000) (hb : ∀ i, (ent x i).natAbs ≤ 9000000000000000000) (hdv : ∀ i, (a.natAbs : Int) ∣ ent x i) :
    ∀ (d k i : Nat) (y : List Int), x.length - i = d → i ≤ x.length → y.length = x.length → (∀ j, j < x.length → ent y j = if j < i then ent x j / (a.natAbs : Int) else ent x j) → d < k →
      Q.governor_reduced.l2 k y a (x.length : Int) (i : Int) = some (x.map (· / (a.natAbs : Int))) := by
  intro d
  induction d with
  | zero =>
    intro k i y hd hi hy he hk
    obtain ⟨k, rfl⟩ : ∃ m, k = m + 1 := ⟨k - 1, by omega⟩
    simp only [Q.governor_reduced.l2]
    rw [if_neg (by omega)]
    congr 1
    refine List.ext_getElem (by simp [hy]) fun j h1 h2 => ?_
    have h := he j (by omega)
    rw [if_pos (by omega)] at h
    unfold ent at h
    rw [List.getD_eq_getElem?_getD, List.getElem?_eq_getElem h1, List.getD_eq_getElem?_getD, List.getElem?_eq_getElem (by omega : j < x.length)] at h
    simpa using h
  | succ d ih =>
    intro k i y hd hi hy he hk
    obtain ⟨k, rfl⟩ : ∃ m, k = m + 1 := ⟨k - 1, by omega⟩
    simp only [Q.governor_reduced.l2]
    rw [if_pos (by omega), if_pos (by omega), if_pos (by omega), size_abs a (by omega) (by omega)]
    simp only [Option.bind_some]
    rw [if_neg (by omega), rd_nat, w64 (n := (i : Int) + 1) (by omega) (by omega), show ((i : Int) + 1) = ((i + 1 : Nat) : Int) by omega, Int.toNat_natCast]
    have h := he i (by omega)
    rw [if_neg (by omega)] at h
    have h2 : y.getD i 0 = ent x i := h
    obtain ⟨q, hq⟩ := hdv i
    have hqd : (ent x i) / (a.natAbs : Int) = q := by rw [hq]; exact Int.mul_ediv_cancel_left _ (by omega)
    have hqt : Int.tdiv (ent x i) (a.natAbs : Int) = q := by rw [hq]; exact Int.mul_tdiv_cancel_left _ (by omega)
    have hqb : q.natAbs ≤ 9000000000000000000 := by
      have hb2 := hb i
      rw [hq, Int.natAbs_mul, Int.natAbs_natCast] at hb2
      have : 1 * q.natAbs ≤ a.natAbs * q.natAbs := Nat.mul_le_mul_right _ (by omega)
      omega
    rw [h2, hqt, w64 (n := q) (by omega) (by omega)]
    refine ih k (i + 1) _ (by omega) (by omega) (by rw [List.length_set]; exact hy) ?_ (by omega)
    intro j hj
    unfold ent
    simp only [List.getD_eq_getElem?_getD, List.getElem?_set]
    by_cases hij : i = j
    · subst hij
      rw [if_pos rfl, if_pos (by omega), if_pos (by omega), Option.getD_some]
      have : x[i]?.getD 0 = ent x i := by unfold ent; rw [List.getD_eq_getElem?_getD]
      rw [this, hqd]
    · rw [if_neg hij]
      have h3 := he j hj
      unfold ent at h3
      rw [List.getD_eq_getElem?_getD, List.getD_eq_getElem?_getD] at h3
      rw [h3]
      by_cases hji : j < i
      · rw [if_pos hji, if_pos (by omega)]
      · rw [if_neg hji, if_neg (by omega)]
theorem ent_mem {l : List Int} {i : Nat} (h : i < l.length) : ent l i ∈ l := by
  unfold ent; rw [List.getD_eq_getElem?_getD, List.getElem?_eq_getElem h]; exact List.getElem_mem h
theorem ent_over {l : List Int} {i : Nat} (h : l.length ≤ i) : ent l i = 0 := by
  unfold ent; rw [List.getD_eq_getElem?_getD, List.getElem?_eq_none h]; rfl
theorem red_l0 (x : List Int) (B : Nat) (hB : B ≤ 9000000000000000000) (hx : x.length ≤ 1000000) (hb : ∀ i, (ent x i).natAbs ≤ B) :
    ∀ (d k i : Nat) (a : Int), x.length - i = d → i ≤ x.length → a.natAbs = (x.take i).foldl (fun g y => Nat.gcd g y.natAbs) 0 → d * (B + 2) + x.length + 2 ≤ k →
      Q.governor_reduced.l0 k x a x (x.length : Int) (i : Int) = some (red x) := by
  intro d
  induction d with
  | zero =>
    intro k i a hd hi ha hk
    obtain ⟨k, rfl⟩ : ∃ m, k = m + 1 := ⟨k - 1, by omega⟩
    simp only [Q.governor_reduced.l0]
    rw [if_neg (by omega)]
    have hg : a.natAbs = gcdL x := by rw [ha, List.take_of_length_le (by omega)]; rfl
    unfold red
    by_cases h0 : a = 0
    · rw [if_pos h0, if_pos (by omega)]
    · rw [if_neg h0, if_neg (by omega), ← hg]
      have hle : gcdL x ≤ 9000000000000000000 := by
        by_cases hz : ∀ y ∈ x, y = 0
        · exfalso
          apply h0
          have : gcdL x = 0 := by
            unfold gcdL
            clear ha hg hk hd hi hb
            induction x with
            | nil => rfl
            | cons y ys ih =>
              rw [List.foldl_cons, hz y (by simp)]
              exact ih (by simp at hx; omega) (fun z hz2 => hz z (by simp [hz2]))
          omega
        · have : ∃ y ∈ x, y ≠ 0 := by
            refine Classical.byContradiction fun hc => hz fun y hy => Classical.byContradiction fun hn => hc ⟨y, hy, hn⟩
          obtain ⟨y, hy, hyn⟩ := this
          obtain ⟨j, hj, e⟩ := List.getElem_of_mem hy
          have hd := gcdL_dvd x y hy
          have h2 := Nat.le_of_dvd (by omega) (Int.ofNat_dvd_left.1 hd)
          have h3 := hb j
          have : ent x j = y := by unfold ent; rw [List.getD_eq_getElem?_getD, List.getElem?_eq_getElem hj]; exact e
          rw [this] at h3; omega
      have := red_l2 x a h0 (by omega) hx (fun i => by have := hb i; omega) (fun j => by
        rw [hg]
        by_cases hj : j < x.length
        · exact gcdL_dvd x _ (ent_mem hj)
        · rw [ent_over (by omega)]; exact Int.dvd_zero _) x.length k 0 x (by omega) (by omega) rfl (fun j _ => by rw [if_neg (by omega)]) (by omega)
      exact this
  | succ d ih =>
    intro k i a hd hi ha hk
    obtain ⟨k, rfl⟩ : ∃ m, k = m + 1 := ⟨k - 1, by omega⟩
    simp only [Q.governor_reduced.l0]
    rw [if_pos (by omega), if_pos (by omega), if_pos (by omega), rd_nat]
    obtain ⟨e, a', h1, h2, h3⟩ := red_l1 x x (x.length : Int) (i : Int) (x.getD i 0).natAbs a (x.getD i 0) (Nat.le_refl _)
    have hbi : (x.getD i 0).natAbs ≤ B := hb i
    have hmul : (d + 1) * (B + 2) = d * (B + 2) + (B + 2) := by rw [Nat.add_mul, Nat.one_mul]
    rw [h3 k (by omega), w64 (by omega) (by omega), show ((i : Int) + 1) = ((i + 1 : Nat) : Int) by omega]
    refine ih _ (i + 1) a' (by omega) (by omega) ?_ (by omega)
    rw [h2, ha, List.take_succ_eq_append_getElem (by omega), List.foldl_append, List.foldl_cons, List.foldl_nil]
    congr 1
    rw [List.getD_eq_getElem?_getD, List.getElem?_eq_getElem (by omega)]; rfl
theorem reduced_eval (x : List Int) (B : Nat) (hB : B ≤ 9000000000000000000) (hx : x.length ≤ 1000000) (hb : ∀ i, (ent x i).natAbs ≤ B) (k : Nat) (hk : x.length * (B + 2) + x.length + 2 ≤ k) : Q.governor_reduced.f k x = some (red x) := by
  have := red_l0 x B hB hx hb x.length k 0 0 (by omega) (by omega) rfl hk
  simpa [Q.governor_reduced.f] using this
theorem rdL2_nat (l : List (List Int)) (k : Nat) : Q.rd_L1 l (k : Int) = l.getD k [] := by simp [Q.rd_L1]
theorem rawRow_len (p : List Int) (k : Nat) (a b : List Int) : (rawRow p k a b).length = (p.length - 1 - k) / 2 + 1 := by simp [rawRow]
theorem eq_of_ent {a b : List Int} (hl : a.length = b.length) (h : ∀ j, j < a.length → ent a j = ent b j) : a = b := by
  refine List.ext_getElem hl fun j h1 h2 => ?_
  have := h j h1
  unfold ent at this
  rw [List.getD_eq_getElem?_getD, List.getElem?_eq_getElem h1, List.getD_eq_getElem?_getD, List.getElem?_eq_getElem h2] at this
  simpa using this
theorem ent_set (y : List Int) (i j : Nat) (v : Int) (hi : i < y.length) : ent (y.set i v) j = if j = i then v else ent y j := by
  unfold ent
  simp only [List.getD_eq_getElem?_getD, List.getElem?_set]
  by_cases h : i = j
  · subst h; rw [if_pos rfl, if_pos hi, if_pos rfl]; rfl
  · rw [if_neg h, if_neg (fun e => h e.symm)]
theorem mul_natAbs_le {x y : Int} {a b : Nat} (h1 : x.natAbs ≤ a) (h2 : y.natAbs ≤ b) : (x * y).natAbs ≤ a * b := by
  rw [Int.natAbs_mul]; exact Nat.mul_le_mul h1 h2
structure RowsOk (p : List Int) (R : List (List Int)) (Ba Bb : Nat) : Prop where
  len2 : 2 ≤ p.length
  len5 : p.length ≤ 5
  lt : R.length < p.length
  pb : ∀ i, (ent p i).natAbs ≤ 1000
  na : 2 ≤ R.length → 0 < (R.getD (R.length - 2) []).length
  nb : 2 ≤ R.length → 0 < (R.getD (R.length - 1) []).length
  ba : 2 ≤ R.length → ∀ i, (ent (R.getD (R.length - 2) []) i).natAbs ≤ Ba
  bb : 2 ≤ R.length → ∀ i, (ent (R.getD (R.length - 1) []) i).natAbs ≤ Bb
  big : Ba * Bb ≤ 4000000000000000000
theorem raw_bound {p : List Int} {R : List (List Int)} {Ba Bb : Nat} (h : RowsOk p R Ba Bb) (j : Nat) :
    (ent (rawRow p R.length (R.getD (R.length - 2) []) (R.getD (R.length - 1) [])) j).natAbs ≤ max 1000 (2 * (Ba * Bb)) := by
  rw [raw_ent]
  split
  · split
    · have := h.pb (2 * j + R.length); omega
    · rename_i h2
      have h2 : 2 ≤ R.length := by omega
      have m1 := mul_natAbs_le (h.bb h2 0) (h.ba h2 (j + 1))
      have m2 := mul_natAbs_le (h.ba h2 0) (h.bb h2 (j + 1))
      rw [Nat.mul_comm Bb Ba] at m1
      omega
  · simp
theorem next_loop {p : List Int} {R : List (List Int)} {Ba Bb : Nat} (h : RowsOk p R Ba Bb) (m : Nat) (hm : m = (p.length - 1 - R.length) / 2 + 1) (F : Nat) (hF : 3 * (max 1000 (2 * (Ba * Bb)) + 2) + 5 ≤ F) :
    ∀ (d k i : Nat) (y : List Int), m - i = d → i ≤ m → y.length = m →
      (∀ j, j < i → ent y j = ent (rawRow p R.length (R.getD (R.length - 2) []) (R.getD (R.length - 1) [])) j) → d + F < k →
      Q.governor_next.l0 k p R (R.length : Int) y (m : Int) (i : Int) = some (red (rawRow p R.length (R.getD (R.length - 2) []) (R.getD (R.length - 1) []))) := by
  obtain ⟨h2, h5, hlt, hp, hna, hnb, hba, hbb, hbig⟩ := h
  have hm3 : m ≤ 3 := by omega
  intro d
  induction d with
  | zero =>
    intro k i y hd hi hy he hk
    obtain ⟨k, rfl⟩ : ∃ m, k = m + 1 := ⟨k - 1, by omega⟩
    simp only [Q.governor_next.l0]
    rw [if_neg (by omega)]
    have hye : y = rawRow p R.length (R.getD (R.length - 2) []) (R.getD (R.length - 1) []) := eq_of_ent (by rw [hy, rawRow_len, hm]) (fun j hj => he j (by omega))
    rw [hye, reduced_eval _ (max 1000 (2 * (Ba * Bb))) (by omega) (by rw [rawRow_len]; omega) (raw_bound ⟨h2, h5, hlt, hp, hna, hnb, hba, hbb, hbig⟩) k ?_]
    · rfl
    · rw [rawRow_len]
      have h3 : (p.length - 1 - R.length) / 2 + 1 ≤ 3 := by omega
      have h4 : ((p.length - 1 - R.length) / 2 + 1) * (max 1000 (2 * (Ba * Bb)) + 2) ≤ 3 * (max 1000 (2 * (Ba * Bb)) + 2) := Nat.mul_le_mul_right _ h3
      omega
  | succ d ih =>
    intro k i y hd hi hy he hk
    obtain ⟨k, rfl⟩ : ∃ m, k = m + 1 := ⟨k - 1, by omega⟩
    simp only [Q.governor_next.l0]
    rw [if_pos (by omega)]
    have hstep : ∀ v : Int, v = ent (rawRow p R.length (R.getD (R.length - 2) []) (R.getD (R.length - 1) [])) i →
        Q.governor_next.l0 k p R (R.length : Int) (y.set (i : Int).toNat v) (m : Int) (wrap64 ((i : Int) + 1)) = some (red (rawRow p R.length (R.getD (R.length - 2) []) (R.getD (R.length - 1) []))) := by
      intro v hv
      rw [w64 (by omega) (by omega), show ((i : Int) + 1) = ((i + 1 : Nat) : Int) by omega, Int.toNat_natCast]
      refine ih k (i + 1) _ (by omega) (by omega) (by rw [List.length_set]; exact hy) (fun j hj => ?_) (by omega)
      rw [ent_set _ _ _ _ (by omega)]
      by_cases hji : j = i
      · rw [if_pos hji, hv, hji]
      · rw [if_neg hji]; exact he j (by omega)
    by_cases hR : R.length < 2
    · rw [if_pos (by omega), w64 (n := 2 * (i : Int)) (by omega) (by omega), w64 (by omega) (by omega), show (2 * (i : Int) + (R.length : Int)) = ((2 * i + R.length : Nat) : Int) by omega, entry_eval]
      simp only [Option.bind_some]
      rw [if_pos (by omega), if_pos (by omega)]
      refine hstep _ ?_
      rw [raw_ent, if_pos (by omega), if_pos hR]
    · have hR2 : 2 ≤ R.length := by omega
      rw [if_neg (by omega), w64 (n := (R.length : Int) - 2) (by omega) (by omega), w64 (n := (R.length : Int) - 1) (by omega) (by omega), show ((R.length : Int) - 2) = ((R.length - 2 : Nat) : Int) by omega, show ((R.length : Int) - 1) = ((R.length - 1 : Nat) : Int) by omega,
        rdL2_nat, rdL2_nat, if_pos (by omega), if_pos (by omega), if_pos (by omega), if_pos (by omega), if_pos (by have := hnb hR2; omega), w64 (n := (i : Int) + 1) (by omega) (by omega), show ((i : Int) + 1) = ((i + 1 : Nat) : Int) by omega, entry_eval]
      simp only [Option.bind_some]
      rw [if_pos (by have := hna hR2; omega), entry_eval]
      simp only [Option.bind_some]
      rw [if_pos (by omega), if_pos (by omega)]
      have e0 : ∀ l : List Int, rd l 0 = ent l 0 := fun l => by have := rd_nat l 0; simpa [ent] using this
      rw [e0, e0]
      have m1 := mul_natAbs_le (hbb hR2 0) (hba hR2 (i + 1))
      have m2 := mul_natAbs_le (hba hR2 0) (hbb hR2 (i + 1))
      rw [Nat.mul_comm Bb Ba] at m1
      rw [w64 (n := ent (R.getD (R.length - 1) []) 0 * ent (R.getD (R.length - 2) []) (i + 1)) (by omega) (by omega), w64 (n := ent (R.getD (R.length - 2) []) 0 * ent (R.getD (R.length - 1) []) (i + 1)) (by omega) (by omega), w64 (by omega) (by omega)]
      have hw := hstep (ent (R.getD (R.length - 1) []) 0 * ent (R.getD (R.length - 2) []) (i + 1) - ent (R.getD (R.length - 2) []) 0 * ent (R.getD (R.length - 1) []) (i + 1)) (by rw [raw_ent, if_pos (by omega), if_neg hR])
      rw [w64 (by omega) (by omega)] at hw
      exact hw
theorem next_eval {p : List Int} {R : List (List Int)} {Ba Bb : Nat} (h : RowsOk p R Ba Bb) (k : Nat) (hk : 3 * (max 1000 (2 * (Ba * Bb)) + 2) + 8 < k) :
    Q.governor_next.f k p R = some (red (rawRow p R.length (R.getD (R.length - 2) []) (R.getD (R.length - 1) []))) := by
  have h5 := h.len5
  have hlt := h.lt
  unfold Q.governor_next.f
  have e1 : wrap64 ((wrap64 (Int.tdiv (wrap64 ((wrap64 ((p.length : Int) - 1)) - (R.length : Int))) 2)) + 1) = (((p.length - 1 - R.length) / 2 + 1 : Nat) : Int) := by
    rw [w64 (n := (p.length : Int) - 1) (by omega) (by omega), w64 (n := (p.length : Int) - 1 - (R.length : Int)) (by omega) (by omega), Int.tdiv_eq_ediv_of_nonneg (by omega), w64 (n := ((p.length : Int) - 1 - (R.length : Int)) / 2) (by omega) (by omega), w64 (by omega) (by omega)]
    omega
  rw [e1, Int.toNat_natCast, if_pos (by omega), if_pos (by omega)]
  simp only [Option.bind_some, List.length_replicate]
  exact next_loop h ((p.length - 1 - R.length) / 2 + 1) rfl _ (Nat.le_refl _) _ k 0 _ rfl (by omega) (by simp) (fun j hj => absurd hj (by omega)) (by omega)
theorem red_len (l : List Int) : (red l).length = l.length := by unfold red; split <;> simp
theorem row_len (p : List Int) (k : Nat) : (row p k).length = (p.length - 1 - k) / 2 + 1 := by
  cases k with
  | zero => unfold row tabRow; rw [red_len, rawRow_len]
  | succ k => unfold row tabRow; rw [red_len, rawRow_len]
theorem red_le (l : List Int) (i : Nat) : (ent (red l) i).natAbs ≤ (ent l i).natAbs := by
  obtain ⟨g, hg, h⟩ := red_scale l
  rw [h i, Int.natAbs_mul]
  have : 1 * (ent (red l) i).natAbs ≤ g.natAbs * (ent (red l) i).natAbs := Nat.mul_le_mul_right _ (by omega)
  omega
def bnd : Nat → Nat
  | 0 => 1000
  | 1 => 1000
  | 2 => 2000000
  | 3 => 4000000000
  | _ => 16000000000000000
structure PolyOk (p : List Int) : Prop where
  len2 : 2 ≤ p.length
  len5 : p.length ≤ 5
  pb : ∀ i, (ent p i).natAbs ≤ 1000
theorem row_step (p : List Int) (k : Nat) : row p (k + 2) = red (rawRow p (k + 2) (row p k) (row p (k + 1))) := rfl
theorem row_bound {p : List Int} (h : PolyOk p) : ∀ k, k < 5 → ∀ i, (ent (row p k) i).natAbs ≤ bnd k := by
  have h0 : ∀ i, (ent (row p 0) i).natAbs ≤ 1000 := fun i => by
    refine Nat.le_trans (red_le _ i) ?_
    rw [raw_ent]; split
    · rw [if_pos (by omega)]; exact h.pb _
    · simp
  have h1 : ∀ i, (ent (row p 1) i).natAbs ≤ 1000 := fun i => by
    refine Nat.le_trans (red_le _ i) ?_
    rw [raw_ent]; split
    · rw [if_pos (by omega)]; exact h.pb _
    · simp
  have hs : ∀ k A B, (∀ i, (ent (row p k) i).natAbs ≤ A) → (∀ i, (ent (row p (k + 1)) i).natAbs ≤ B) → ∀ i, (ent (row p (k + 2)) i).natAbs ≤ 2 * (A * B) := by
    intro k A B hA hB i
    rw [row_step]
    refine Nat.le_trans (red_le _ i) ?_
    rw [raw_ent]; split
    · rw [if_neg (by omega)]
      have m1 := mul_natAbs_le (hB 0) (hA (i + 1))
      have m2 := mul_natAbs_le (hA 0) (hB (i + 1))
      rw [Nat.mul_comm B A] at m1
      omega
    · simp
  have h2 := hs 0 1000 1000 h0 h1
  have h3 := hs 1 1000 2000000 h1 h2
  have h4 := hs 2 2000000 4000000000 h2 h3
  intro k hk
  obtain rfl | rfl | rfl | rfl | rfl : k = 0 ∨ k = 1 ∨ k = 2 ∨ k = 3 ∨ k = 4 := by omega
  · exact h0
  · exact h1
  · exact h2
  · exact h3
  · exact h4
def rowsTo (p : List Int) (k : Nat) : List (List Int) := (List.range k).map (row p)
theorem rowsTo_len (p : List Int) (k : Nat) : (rowsTo p k).length = k := by simp [rowsTo]
theorem rowsTo_get (p : List Int) (k i : Nat) (h : i < k) : (rowsTo p k).getD i [] = row p i := by simp [rowsTo, List.getD_eq_getElem?_getD, h]
theorem rowsTo_succ (p : List Int) (k : Nat) : rowsTo p (k + 1) = rowsTo p k ++ [row p k] := by simp [rowsTo, List.range_succ]
theorem bnd_le {a b : Nat} (hb : b < 4) (h : a < b) : bnd a * bnd b ≤ 8000000000000000 := by
  obtain rfl | rfl | rfl | rfl : b = 0 ∨ b = 1 ∨ b = 2 ∨ b = 3 := by omega
  · omega
  · obtain rfl : a = 0 := by omega
    decide
  · obtain rfl | rfl : a = 0 ∨ a = 1 := by omega
    all_goals decide
  · obtain rfl | rfl | rfl : a = 0 ∨ a = 1 ∨ a = 2 := by omega
    all_goals decide
theorem rowsOk {p : List Int} (h : PolyOk p) {k : Nat} (hk : k < p.length) : RowsOk p (rowsTo p k) (bnd (k - 2)) (bnd (k - 1)) := by
  have h5 := h.len5
  refine ⟨h.len2, h.len5, by rw [rowsTo_len]; exact hk, h.pb, ?_, ?_, ?_, ?_, ?_⟩
  · intro h2; rw [rowsTo_len] at h2 ⊢; rw [rowsTo_get _ _ _ (by omega), row_len]; omega
  · intro h2; rw [rowsTo_len] at h2 ⊢; rw [rowsTo_get _ _ _ (by omega), row_len]; omega
  · intro h2; rw [rowsTo_len] at h2 ⊢; rw [rowsTo_get _ _ _ (by omega)]; exact row_bound h _ (by omega)
  · intro h2; rw [rowsTo_len] at h2 ⊢; rw [rowsTo_get _ _ _ (by omega)]; exact row_bound h _ (by omega)
  · by_cases h2 : 2 ≤ k
    · have := bnd_le (a := k - 2) (b := k - 1) (by omega) (by omega); omega
    · have e1 : k - 2 = 0 := by omega
      have e2 : k - 1 = 0 := by omega
      rw [e1, e2]; decide
theorem next_row {p : List Int} (h : PolyOk p) {k : Nat} (hk : k < p.length) (q : Nat) (hq : 60000000000000000 < q) : Q.governor_next.f q p (rowsTo p k) = some (row p k) := by
  have h5 := h.len5
  have hb : bnd (k - 2) * bnd (k - 1) ≤ 8000000000000000 := by
    by_cases h2 : 2 ≤ k
    · exact bnd_le (a := k - 2) (b := k - 1) (by omega) (by omega)
    · have e1 : k - 2 = 0 := by omega
      have e2 : k - 1 = 0 := by omega
      rw [e1, e2]; decide
  rw [next_eval (rowsOk h hk) q (by omega), rowsTo_len]
  congr 1
  obtain rfl | rfl | ⟨k, rfl⟩ : k = 0 ∨ k = 1 ∨ ∃ m, k = m + 2 := by
    rcases k with _ | _ | k
    · exact .inl rfl
    · exact .inr (.inl rfl)
    · exact .inr (.inr ⟨k, rfl⟩)
  · show red (rawRow p 0 _ _) = red (rawRow p 0 [] [])
    unfold rawRow
    congr 1
  · show red (rawRow p 1 _ _) = red (rawRow p 1 [] (row p 0))
    unfold rawRow
    congr 1
  · rw [show k + 2 - 2 = k by omega, show k + 2 - 1 = k + 1 by omega, rowsTo_get _ _ _ (by omega), rowsTo_get _ _ _ (by omega)]
    rfl
def tabGo (p : List Int) : Nat → Nat → List (List Int)
  | 0, i => rowsTo p i
  | d + 1, i => if ent (row p i) 0 ≤ 0 then rowsTo p (i + 1) else tabGo p d (i + 1)
def tableOf (p : List Int) : List (List Int) := tabGo p p.length 0
theorem table_loop {p : List Int} (h : PolyOk p) : ∀ (d k i : Nat), p.length - i = d → i ≤ p.length → 60000000000000000 + d + 1 < k → Q.governor_table.l0 k p (rowsTo p i) = some (tabGo p d i) := by
  have h5 := h.len5
  intro d
  induction d with
  | zero =>
    intro k i hd hi hk
    obtain ⟨k, rfl⟩ : ∃ m, k = m + 1 := ⟨k - 1, by omega⟩
    simp only [Q.governor_table.l0]
    rw [if_neg (by rw [rowsTo_len]; omega)]; rfl
  | succ d ih =>
    intro k i hd hi hk
    obtain ⟨k, rfl⟩ : ∃ m, k = m + 1 := ⟨k - 1, by omega⟩
    simp only [Q.governor_table.l0]
    rw [if_pos (by rw [rowsTo_len]; omega), next_row h (by omega) k (by omega)]
    simp only [Option.bind_some]
    rw [if_pos (by rw [rowsTo_len]; omega), if_pos (by rw [row_len]; omega), ← rowsTo_succ]
    have e0 : rd (row p i) 0 = ent (row p i) 0 := by have := rd_nat (row p i) 0; simpa [ent] using this
    rw [e0, tabGo]
    by_cases hh : ent (row p i) 0 ≤ 0
    · rw [if_pos hh, if_pos hh]
    · rw [if_neg hh, if_neg hh]; exact ih k (i + 1) (by omega) (by omega) (by omega)
theorem table_eval {p : List Int} (h : PolyOk p) (k : Nat) (hk : 60000000000000010 < k) : Q.governor_table.f k p = some (tableOf p) := by
  have h5 := h.len5
  have := table_loop h p.length k 0 (by omega) (by omega) (by omega)
  simpa [Q.governor_table.f, rowsTo, tableOf] using this
theorem tabGo_spec (p : List Int) : ∀ d i, p.length - i = d → i ≤ p.length → ∃ m, i ≤ m ∧ m ≤ p.length ∧ tabGo p d i = rowsTo p m ∧ (∀ j, i ≤ j → j + 1 < m → 0 < ent (row p j) 0) ∧
    (m < p.length → i < m ∧ ent (row p (m - 1)) 0 ≤ 0) := by
  intro d
  induction d with
  | zero => intro i hd hi; exact ⟨i, Nat.le_refl _, hi, rfl, fun j h1 h2 => by omega, fun h => by omega⟩
  | succ d ih =>
    intro i hd hi
    rw [tabGo]
    by_cases hh : ent (row p i) 0 ≤ 0
    · rw [if_pos hh]
      exact ⟨i + 1, by omega, by omega, rfl, fun j h1 h2 => by omega, fun _ => ⟨by omega, hh⟩⟩
    · rw [if_neg hh]
      obtain ⟨m, h1, h2, h3, h4, h5⟩ := ih (i + 1) (by omega) (by omega)
      refine ⟨m, by omega, h2, h3, fun j hj1 hj2 => ?_, fun hm => ?_⟩
      · by_cases hji : j = i
        · subst hji; omega
        · exact h4 j (by omega) hj2
      · have := h5 hm; exact ⟨by omega, this.2⟩
open Classical in
noncomputable def stab (p : List Int) : Bool := decide (allRows p)
theorem stable_eval {p : List Int} (h : PolyOk p) (k : Nat) (hk : 60000000000000010 < k) : Q.governor_isStable.f k p = some (stab p) := by
  have h2 := h.len2
  have h5 := h.len5
  unfold Q.governor_isStable.f
  rw [table_eval h k hk]
  simp only [Option.bind_some]
  obtain ⟨m, -, hm, he, hpos, hneg⟩ := tabGo_spec p p.length 0 (by omega) (by omega)
  have he2 : tableOf p = rowsTo p m := he
  rw [he2, rowsTo_len]
  by_cases hml : m = p.length
  · rw [if_pos (by omega), w64 (by omega) (by omega), if_pos (by omega), if_pos (by omega), show ((m : Int) - 1) = ((m - 1 : Nat) : Int) by omega, rdL2_nat, rowsTo_get _ _ _ (by omega), if_pos (by rw [row_len]; omega)]
    congr 1
    have e0 : rd (row p (m - 1)) 0 = ent (row p (m - 1)) 0 := by have := rd_nat (row p (m - 1)) 0; simpa [ent] using this
    rw [e0]
    unfold stab
    rw [decide_eq_decide]
    constructor
    · intro hl j hj
      by_cases hjm : j + 1 < m
      · exact hpos j (by omega) hjm
      · rw [show j = m - 1 by omega]; exact hl
    · intro ha; exact ha (m - 1) (by omega)
  · rw [if_neg (by omega)]
    congr 1
    unfold stab
    symm
    rw [decide_eq_false_iff_not]
    intro ha
    have := hneg (by omega)
    have := ha (m - 1) (by omega)
    omega
end Go.Proofs.Ytmpondcccbmlhaa.Ext
