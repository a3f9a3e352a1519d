/- A part of the claim H: the texts Q26, Q27, Q32, PuMar, Roo, PuShi, PureGovernorShifts, without what the claim does not lean on. -/
import Derived.Test.YtmpondcccbmlhaaGreatzH41
import Derived.Test.YtmpondcccbmlhaaGreatzH42
import Derived.Test.YtmpondcccbmlhaaGreatzH44
namespace Go.Proofs.YtmpondcccbmlhaaGreat.Q
open Go.RowKit Go.Proofs.YtmpondcccbmlhaaGreatW.PrintWords Go.Proofs.YtmpondcccbmlhaaGreatW.PrintLast Go.Proofs.YtmpondcccbmlhaaGreatW.PrintMore
attribute [local go_sem] max2_int min2_int max_two min_two max_three min_three max_four min_four   
set_option linter.unusedVariables false
set_option linter.unusedSimpArgs false
open Go.Proofs.YtmpondcccbmlhaaGreat.Ext
def gr6_Stable.f (l0 : List Int) : Option (Bool) := (gr6_Table.f l0).bind fun t237 => (if (t237.length : Int) = (l0.length : Int) then (if 0 ≤ (wrap64 ((t237.length : Int) - 1)) then (if (wrap64 ((t237.length : Int) - 1)) < (t237.length : Int) then (if 0 < ((rd_L2 t237 (wrap64 ((t237.length : Int) - 1))).length : Int) then (some (decide ((rd (rd_L2 t237 (wrap64 ((t237.length : Int) - 1))) 0) > 0))) else (none)) else (none)) else (none)) else (some false))
end Go.Proofs.YtmpondcccbmlhaaGreat.Q
namespace Go.Proofs.YtmpondcccbmlhaaGreat.Q
open Go.RowKit Go.Proofs.YtmpondcccbmlhaaGreatW.PrintWords Go.Proofs.YtmpondcccbmlhaaGreatW.PrintLast Go.Proofs.YtmpondcccbmlhaaGreatW.PrintMore
attribute [local go_sem] max2_int min2_int max_two min_two max_three min_three max_four min_four   
set_option linter.unusedVariables false
set_option linter.unusedSimpArgs false
def gr6_Margin.l0 : Nat → List Int → Int → Int → Option (Int × Bool)
 | 0, _, _, _ => none
 | k + 1, x0, x4, x5 => if x5 ≤ 10 then ((gr6_Shifted.f k x0 (wrap64 (-x5))).bind fun bt757 => (if bt757.2 = 0 then ((gr6_PolynomialErr.f k bt757.1).bind fun t761 => (if t761 = 0 then ((gr6_Stable.f bt757.1).bind fun t762 => (if t762 = true then (gr6_Margin.l0 k x0 x5 (wrap64 (x5 + 1))) else (gr6_Margin.l0 k x0 x4 (wrap64 (x5 + 1))))) else (gr6_Margin.l0 k x0 x4 (wrap64 (x5 + 1))))) else (gr6_Margin.l0 k x0 x4 (wrap64 (x5 + 1))))) else (some (x4, true))
def gr6_Margin.f (k : Nat) (l0 : List Int) : Option (Int × Bool) := (gr6_Stable.f l0).bind fun t756 => (if t756 = true then (gr6_Margin.l0 k l0 0 1) else (some (0, false)))
end Go.Proofs.YtmpondcccbmlhaaGreat.Q
namespace Go.Proofs.YtmpondcccbmlhaaGreat.Q
open Go.RowKit Go.Proofs.YtmpondcccbmlhaaGreatW.PrintWords Go.Proofs.YtmpondcccbmlhaaGreatW.PrintLast Go.Proofs.YtmpondcccbmlhaaGreatW.PrintMore
attribute [local go_sem] max2_int min2_int max_two min_two max_three min_three max_four min_four   
set_option linter.unusedVariables false
set_option linter.unusedSimpArgs false
open Go.Proofs.YtmpondcccbmlhaaGreat.Ext
def gl6_GovernorMargins.f (k : Nat) (l0 : List Int) (a1 : Int) : Option (Bool) := (gl6_awake.f).bind fun t763 => (if t763 = true then ((gl6_short.f l0).bind fun t764 => (if t764 = true then ((gba_CopyInts.f l0).bind fun t765 => ((gov_Shifted.f t765 a1).bind fun bt768 => ((gba_CopyInts.f l0).bind fun t772 => ((gov_MarginOf.f k t772).bind fun bt775 => ((gr6_PolynomialErr.f k l0).bind fun t777 => (if t777 = 0 then ((gr6_Shifted.f k l0 a1).bind fun bt778 => ((gr6_Margin.f k l0).bind fun bt782 => (if bt768.2 = bt778.2 then ((gba_Ints.f k bt768.1 bt778.1).bind fun t784 => (if t784 = true then (if bt782.2 = true then (if bt775.2 = 0 then (if bt775.1 = bt782.1 then (some true) else (some false)) else (some false)) else (if bt775.2 = 12 then (some (bt775.1 == 0)) else (some false))) else (some false))) else (some false)))) else (if bt768.2 = t777 then (if bt775.2 = t777 then (if (bt768.1.length : Int) = 0 then (some (bt775.1 == 0)) else (some false)) else (some false)) else (some false)))))))) else (some true))) else (some false))
def gl6_GovernorMargins.Pure : Prop := ∀ (l0 : List Int) (a1 : Int), l0.length ≤ maxLen → l0.length * 8 ≤ 140737488351232 → (∀ x ∈ l0, (Lit.int .i64 x).wf = true) → (Lit.int .i64 a1).wf = true → ∃ k, gl6_GovernorMargins.f k l0 a1 = some true
end Go.Proofs.YtmpondcccbmlhaaGreat.Q
namespace Go.Proofs.YtmpondcccbmlhaaGreat.Ext
open Go.RowKit Go.Proofs.YtmpondcccbmlhaaGreatW.PrintWords Go.Proofs.YtmpondcccbmlhaaGreatW.PrintLast Go.Proofs.YtmpondcccbmlhaaGreatW.PrintMore
theorem polyOk_of {p : List Int} (h : Sp.polyErr p = 0) : PolyOk p := by
 obtain ⟨h2, h5, hb, -⟩ := poly_of h
 refine ⟨h2, h5, fun i => ?_⟩
 by_cases hi : i < p.length
 ·have := hb i hi
  show (p.getD i 0).natAbs ≤ 1000
  omega
 ·rw [ent_over (by omega)]; decide
noncomputable def good (p : List Int) (m : Nat) : Bool := decide (Sp.polyErr (shiftP p (-(m : Int))) = 0) && stab (shiftP p (-(m : Int)))
noncomputable def downTo (p : List Int) : Nat → Nat
 | 0 => 0
 | m + 1 => if good p (m + 1) = true then m + 1 else downTo p m
theorem mar_l0 (p : List Int) (h2 : 2 ≤ p.length) (h5 : p.length ≤ 5) : ∀ (m k : Nat), m ≤ 10 → 60000000000000010 + m < k → Q.gov_MarginOf.l0 k p (m : Int) = some ((downTo p m : Int), 0) := by
 intro m
 induction m with
 | zero =>
  intro k hm hk
  obtain ⟨k, rfl⟩ : ∃ q, k = q + 1 := ⟨k - 1, by omega⟩
  rw [Q.gov_MarginOf.l0, if_neg (by omega)]; rfl
 | succ m ih =>
  intro k hm hk
  obtain ⟨k, rfl⟩ : ∃ q, k = q + 1 := ⟨k - 1, by omega⟩
  have e1 : gov_shifted.f p (-((m + 1 : Nat) : Int)) = some (shiftP p (-((m + 1 : Nat) : Int))) := if_pos ⟨by omega, by omega⟩
  rw [Q.gov_MarginOf.l0, if_pos (by omega), w64 (n := -((m + 1 : Nat) : Int)) (by omega) (by omega), e1]
  simp only [Option.bind_some]
  have hg : good p (m + 1) = (decide (Sp.polyErr (shiftP p (-((m + 1 : Nat) : Int))) = 0) && stab (shiftP p (-((m + 1 : Nat) : Int)))) := rfl
  obtain ⟨S, hS⟩ : ∃ S, S = shiftP p (-((m + 1 : Nat) : Int)) := ⟨_, rfl⟩
  rw [← hS] at hg ⊢
  rw [show gov_CheckPolynomial.f S = some (Sp.polyErr S) from rfl]
  simp only [Option.bind_some]
  have hw : wrap64 (((m + 1 : Nat) : Int) - 1) = (m : Int) := by rw [w64 (by omega) (by omega)]; omega
  rw [downTo, hw, ih k (by omega) (by omega), hg]
  by_cases hp : Sp.polyErr S = 0
  ·rw [if_pos hp, stable_eval (polyOk_of hp) k (by omega)]
   simp only [Option.bind_some]
   cases stab S <;> simp [hp]
  ·rw [if_neg hp]
   simp [hp]
end Go.Proofs.YtmpondcccbmlhaaGreat.Ext
namespace Go.Proofs.YtmpondcccbmlhaaGreat.Ext
open Go.RowKit Go.Proofs.YtmpondcccbmlhaaGreatW.PrintWords Go.Proofs.YtmpondcccbmlhaaGreatW.PrintLast Go.Proofs.YtmpondcccbmlhaaGreatW.PrintMore
def mulN (r : Int) (out : List Int) : Nat → List Int
 | 0 => out ++ [0]
 | k + 1 => (mulN r out k).set (k + 1) (wrap64 ((mulN r out k).getD (k + 1) 0 - wrap64 (r * out.getD k 0)))
def prodTo (rs : List Int) : Nat → List Int
 | 0 => [1]
 | i + 1 => mulN (rs.getD i 0) (prodTo rs i) (prodTo rs i).length
def nearTo (rs : List Int) : Nat → Int
 | 0 => -8
 | i + 1 => mx (nearTo rs i) (rs.getD i 0)
theorem mulN_len (r : Int) (out : List Int) (k : Nat) : (mulN r out k).length = out.length + 1 := by
 induction k with
 | zero => simp [mulN]
 | succ k ih => rw [mulN, List.length_set, ih]
theorem prodTo_len (rs : List Int) (i : Nat) : (prodTo rs i).length = i + 1 := by
 induction i with
 | zero => rfl
 | succ i ih => rw [prodTo, mulN_len, ih]
def hurB : List Int → Bool
 | [_, b] => decide (0 < b)
 | [_, b, c] => decide (0 < b ∧ 0 < c)
 | [a, b, c, d] => decide (0 < b ∧ 0 < d ∧ 0 < b * c - a * d)
 | _ => false
theorem hurB_stab {p : List Int} (h2 : 2 ≤ p.length) (h4 : p.length ≤ 4) (h0 : 0 < ent p 0) : hurB p = stab p := by
 rw [Bool.eq_iff_iff, stab_iff]
 match p, h2, h4 with
 | [a, b], _, _ => rw [hur2 a b (show 0 < a from h0)]; simp [hurB]
 | [a, b, c], _, _ => rw [hur3 a b c (show 0 < a from h0)]; simp [hurB]
 | [a, b, c, d], _, _ => rw [hur4 a b c d (show 0 < a from h0)]; simp [hurB]
def okRoots (rs : List Int) : Bool :=
 decide (Sp.polyErr (prodTo rs rs.length) = 0) && (hurB (prodTo rs rs.length) && (decide (0 ≤ -(nearTo rs rs.length) - 1 ∧ -(nearTo rs rs.length) - 1 ≤ 10) &&
  (List.range 10).all fun i => (decide (Sp.polyErr (shiftP (prodTo rs rs.length) (-((i + 1 : Nat) : Int))) = 0) && hurB (shiftP (prodTo rs rs.length) (-((i + 1 : Nat) : Int)))) == decide (((i + 1 : Nat) : Int) ≤ -(nearTo rs rs.length) - 1)))
theorem roots1 : ∀ a, a < 8 → okRoots [-((a : Nat) : Int) - 1] = true := by decide +kernel
theorem roots2 : ∀ a, a < 8 → ∀ b, b < 8 → okRoots [-((a : Nat) : Int) - 1, -((b : Nat) : Int) - 1] = true := by decide +kernel
theorem roots3 : ∀ a, a < 8 → ∀ b, b < 8 → ∀ c, c < 8 → okRoots [-((a : Nat) : Int) - 1, -((b : Nat) : Int) - 1, -((c : Nat) : Int) - 1] = true := by decide +kernel
theorem root_nat {x : Int} (h : -8 ≤ x ∧ x ≤ -1) : ∃ n, n < 8 ∧ x = -((n : Nat) : Int) - 1 := ⟨(-x - 1).toNat, by omega, by omega⟩
theorem roots_ok {rs : List Int} (h1 : 0 < rs.length) (h3 : rs.length ≤ 3) (hr : ∀ i, i < rs.length → -8 ≤ rs.getD i 0 ∧ rs.getD i 0 ≤ -1) : okRoots rs = true := by
 match rs, h1, h3 with
 | [x], _, _ =>
  obtain ⟨a, ha, ea⟩ := root_nat (hr 0 (by simp))
  have ea' : x = -((a : Nat) : Int) - 1 := by simpa using ea
  rw [ea']; exact roots1 a ha
 | [x, y], _, _ =>
  obtain ⟨a, ha, ea⟩ := root_nat (hr 0 (by simp))
  obtain ⟨b, hb, eb⟩ := root_nat (hr 1 (by simp))
  have ea' : x = -((a : Nat) : Int) - 1 := by simpa using ea
  have eb' : y = -((b : Nat) : Int) - 1 := by simpa using eb
  rw [ea', eb']; exact roots2 a ha b hb
 | [x, y, z], _, _ =>
  obtain ⟨a, ha, ea⟩ := root_nat (hr 0 (by simp))
  obtain ⟨b, hb, eb⟩ := root_nat (hr 1 (by simp))
  obtain ⟨c, hc, ec⟩ := root_nat (hr 2 (by simp))
  have ea' : x = -((a : Nat) : Int) - 1 := by simpa using ea
  have eb' : y = -((b : Nat) : Int) - 1 := by simpa using eb
  have ec' : z = -((c : Nat) : Int) - 1 := by simpa using ec
  rw [ea', eb', ec']; exact roots3 a ha b hb c hc
theorem downTo_eq {p : List Int} {n : Int} (h0 : 0 ≤ n) : ∀ m, (∀ j, 1 ≤ j → j ≤ m → good p j = decide ((j : Int) ≤ n)) → (downTo p m : Int) = if (m : Int) ≤ n then (m : Int) else n := by
 intro m
 induction m with
 | zero => intro _; rw [if_pos (by omega)]; rfl
 | succ m ih =>
  intro h
  have ih2 := ih (fun j h1 h2 => h j h1 (by omega))
  rw [downTo, h (m + 1) (by omega) (Nat.le_refl _)]
  by_cases hm : ((m + 1 : Nat) : Int) ≤ n
  ·rw [if_pos (decide_eq_true hm), if_pos hm]
  ·rw [if_neg (by rw [decide_eq_true_eq]; exact hm), if_neg hm, ih2]
   split <;> omega
theorem head_ent (p : List Int) : p.headD 0 = ent p 0 := by cases p <;> simp [ent]
theorem shiftP_head {p : List Int} (h2 : 2 ≤ p.length) (h5 : p.length ≤ 5) (b : Int) : (shiftP p b).headD 0 = p.headD 0 := by
 match p, h2, h5 with
 | [_, _], _, _ => rfl
 | [_, _, _], _, _ => rfl
 | [_, _, _, _], _, _ => rfl
 | [_, _, _, _, _], _, _ => rfl
theorem root_final {rs : List Int} (h1 : 0 < rs.length) (h3 : rs.length ≤ 3) (hr : ∀ i, i < rs.length → -8 ≤ rs.getD i 0 ∧ rs.getD i 0 ≤ -1) (k : Nat) (hk : 60000000000001000 < k) :
  Q.gov_MarginOf.f k (prodTo rs rs.length) = some (-(nearTo rs rs.length) - 1, 0) ∧ Q.gov_IsStable.f k (prodTo rs rs.length) = some (true, 0) ∧ (0 ≤ -(nearTo rs rs.length) - 1 ∧ -(nearTo rs rs.length) - 1 ≤ 10) := by
 have hok := roots_ok h1 h3 hr
 have hl := prodTo_len rs rs.length
 unfold okRoots at hok
 obtain ⟨p, hp⟩ : ∃ p, p = prodTo rs rs.length := ⟨_, rfl⟩
 obtain ⟨n, hn⟩ : ∃ n, n = -(nearTo rs rs.length) - 1 := ⟨_, rfl⟩
 rw [← hp, ← hn] at hok
 rw [← hp] at hl
 rw [← hp, ← hn]
 clear hp hn
 simp only [Bool.and_eq_true, decide_eq_true_eq] at hok
 obtain ⟨hpe, hh, hn, hall⟩ := hok
 rw [List.all_eq_true] at hall
 obtain ⟨-, -, -, hhd⟩ := poly_of hpe
 rw [head_ent] at hhd
 have hst : stab p = true := by rw [← hurB_stab (by omega) (by omega) hhd]; exact hh
 have hgood : ∀ j, 1 ≤ j → j ≤ 10 → good p j = decide ((j : Int) ≤ n) := by
  intro j hj1 hj2
  have h4 := hall (j - 1) (List.mem_range.2 (by omega))
  rw [show j - 1 + 1 = j by omega] at h4
  have hsl := shiftP_len p (-(j : Int))
  have hsh := shiftP_head (p := p) (by omega) (by omega) (-(j : Int))
  rw [head_ent, head_ent] at hsh
  have h5 := beq_iff_eq.1 h4
  rw [hurB_stab (by omega) (by omega) (by omega)] at h5
  exact h5
 have hd := downTo_eq (p := p) hn.1 10 hgood
 have hd2 : (downTo p 10 : Int) = n := by rw [hd]; split <;> omega
 have hcp : gov_CheckPolynomial.f p = some (Sp.polyErr p) := rfl
 have e2 : Q.gov_IsStable.f k p = some (true, 0) := by
  unfold Q.gov_IsStable.f
  rw [hcp, hpe, Option.bind_some, if_pos rfl, stable_eval (polyOk_of hpe) k (by omega), Option.bind_some, hst]
 refine ⟨?_, e2, hn⟩
 have e3 := mar_l0 p (by omega) (by omega) 10 k (by omega) (by omega)
 rw [show ((10 : Nat) : Int) = 10 from rfl, hd2] at e3
 unfold Q.gov_MarginOf.f
 rw [e2, Option.bind_some, unless_eval, Option.bind_some, first_eval _ (by simp) k (by simp; omega), Option.bind_some, if_pos (by decide), e3]
end Go.Proofs.YtmpondcccbmlhaaGreat.Ext
namespace Go.Proofs.YtmpondcccbmlhaaGreat.Ext
open Go.RowKit Go.Proofs.YtmpondcccbmlhaaGreatW.PrintWords Go.Proofs.YtmpondcccbmlhaaGreatW.PrintLast Go.Proofs.YtmpondcccbmlhaaGreatW.PrintMore
theorem shi_l2 {rs out : List Int} {nr : Int} {i : Nat} (hi : i < rs.length) (h3 : rs.length ≤ 3) (ho : out.length ≤ 100) : ∀ (d k j : Nat), out.length - j = d → j ≤ out.length →
  Q.gl6_GovernorShifts.l2 (k + d + 1) rs out nr (i : Int) (mulN (rs.getD i 0) out j) (j : Int) = Q.gl6_GovernorShifts.l1 k rs (mulN (rs.getD i 0) out out.length) nr ((i + 1 : Nat) : Int) := by
 intro d
 induction d with
 | zero =>
  intro k j hd hj
  obtain rfl : j = out.length := by omega
  rw [Q.gl6_GovernorShifts.l2, if_neg (by omega), w64 (n := (i : Int) + 1) (by omega) (by omega), show ((i : Int) + 1) = ((i + 1 : Nat) : Int) by omega]
 | succ d ih =>
  intro k j hd hj
  have hl := mulN_len (rs.getD i 0) out j
  have ih2 := ih k (j + 1) (by omega) (by omega)
  rw [mulN] at ih2
  rw [show k + (d + 1) + 1 = (k + d + 1) + 1 by omega, Q.gl6_GovernorShifts.l2, if_pos (by omega), w64 (n := (j : Int) + 1) (by omega) (by omega), if_pos (by omega), if_pos (by rw [hl]; omega), if_pos (by omega), if_pos (by omega), if_pos (by omega), show ((j : Int) + 1) = ((j + 1 : Nat) : Int) by omega, rd_nat, rd_nat, rd_nat, Int.toNat_natCast]
  exact ih2
theorem shi_l1 {rs : List Int} (h1 : 0 < rs.length) (h3 : rs.length ≤ 3) : ∀ (d k i : Nat), rs.length - i = d → i ≤ rs.length → 60000000000002000 + 10 * d < k → (∀ j, j < i → -8 ≤ rs.getD j 0 ∧ rs.getD j 0 ≤ -1) →
  Q.gl6_GovernorShifts.l1 k rs (prodTo rs i) (nearTo rs i) (i : Int) = some true := by
 intro d
 induction d with
 | zero =>
  intro k i hd hi hk hr
  obtain ⟨k, rfl⟩ : ∃ q, k = q + 1 := ⟨k - 1, by omega⟩
  obtain rfl : i = rs.length := by omega
  obtain ⟨e1, e2, e3, e4⟩ := root_final h1 h3 hr k (by omega)
  have hl := prodTo_len rs rs.length
  rw [Q.gl6_GovernorShifts.l1, if_neg (by omega), copy_eval _ (by omega), Option.bind_some, e1, Option.bind_some, e2, Option.bind_some, if_pos rfl, if_pos rfl, if_pos rfl, w64 (n := -(nearTo rs rs.length)) (by omega) (by omega), w64 (by omega) (by omega)]
  simp
 | succ d ih =>
  intro k i hd hi hk hr
  obtain ⟨k, rfl⟩ : ∃ q, k = q + 1 := ⟨k - 1, by omega⟩
  have hl := prodTo_len rs i
  rw [Q.gl6_GovernorShifts.l1, if_pos (by omega), if_pos (by omega), rd_nat, bwithin_eval, Option.bind_some]
  by_cases hin : -8 ≤ rs.getD i 0 ∧ rs.getD i 0 ≤ -1
  ·rw [if_pos (decide_eq_true hin), copy_eval _ (by omega), Option.bind_some, if_pos (by omega)]
   have h2 := shi_l2 (rs := rs) (out := prodTo rs i) (nr := mx (nearTo rs i) (rs.getD i 0)) (i := i) (by omega) h3 (by omega) (prodTo rs i).length (k - (prodTo rs i).length - 1) 0 (by omega) (by omega)
   rw [show k - (prodTo rs i).length - 1 + (prodTo rs i).length + 1 = k by omega, mulN, show ((0 : Nat) : Int) = 0 from rfl] at h2
   rw [h2]
   exact ih _ (i + 1) (by omega) (by omega) (by omega) (fun j hj => if hji : j = i then by rw [hji]; exact hin else hr j (by omega))
  ·rw [if_neg (by rw [decide_eq_true_eq]; exact hin)]
theorem shi_j2 (rs : List Int) (k : Nat) (hk : 60000000000003000 < k) : Q.gl6_GovernorShifts.j2 k rs = some true := by
 obtain ⟨k, rfl⟩ : ∃ q, k = q + 1 := ⟨k - 1, by omega⟩
 obtain ⟨q, rfl⟩ : ∃ q, k = q + 1 := ⟨k - 1, by omega⟩
 rw [Q.gl6_GovernorShifts.j2]
 by_cases h0 : (rs.length : Int) = 0
 ·rw [if_pos h0, Q.gl6_GovernorShifts.j3, if_pos rfl]
 ·rw [if_neg h0, Q.gl6_GovernorShifts.j3]
  by_cases h3 : (rs.length : Int) > 3
  ·rw [if_pos (decide_eq_true h3)]
  ·rw [if_neg (by rw [decide_eq_true_eq]; exact h3)]
   exact shi_l1 (rs := rs) (by omega) (by omega) rs.length q 0 (by omega) (by omega) (by omega) (fun j hj => by omega)
theorem coefs_all : ∀ {q : List Int}, Sp.coefsErr q = 0 → ∀ x ∈ q, -1000 ≤ x ∧ x ≤ 1000 := by
 intro q
 induction q with
 | nil => intro _ x hx; simp at hx
 | cons y ys ih =>
  intro h x hx
  rcases coefErr_cases y with hy | hy
  ·rw [coefsErr_ok hy] at h
   rcases List.mem_cons.1 hx with rfl | hx
   ·unfold Sp.coefErr at hy
    split at hy
    ·assumption
    ·omega
   ·exact ih h x hx
  ·rw [coefsErr_bad (by omega)] at h; omega
theorem poly_coefs {p : List Int} (h : Sp.polyErr p = 0) : Sp.countErr p.length = 0 ∧ Sp.coefsErr p = 0 := by
 unfold Sp.polyErr at h
 split at h
 ·rename_i h1
  split at h
  ·rename_i h2; exact ⟨h1, h2⟩
  ·rename_i h2; exact absurd h h2
 ·rename_i h1; exact absurd h h1
theorem map_wrap {l : List Int} (h : ∀ x ∈ l, -1000 ≤ x ∧ x ≤ 1000) : l.map wrap64 = l := by
 induction l with
 | nil => rfl
 | cons x xs ih =>
  have hx := h x (by simp)
  rw [List.map_cons, ih (fun y hy => h y (by simp [hy])), w64 (by omega) (by omega)]
theorem back_eq {p : List Int} (h : Sp.polyErr p = 0) (b : Int) : shiftP (shiftP p b) (-b) = p := by
 obtain ⟨h2, h5, -, -⟩ := poly_of h
 have hc := coefs_all (poly_coefs h).2
 rw [shift_back h2 h5]
 cases p with
 | nil => simp at h2
 | cons x xs =>
  rw [List.headD_cons, List.tail_cons, map_wrap (fun y hy => hc y (by simp [hy]))]
theorem shifted_poly {p : List Int} (h : Sp.polyErr p = 0) (b : Int) (hc : Sp.coefsErr (shiftP p b) = 0) : Sp.polyErr (shiftP p b) = 0 := by
 obtain ⟨h2, h5, -, h0⟩ := poly_of h
 unfold Sp.polyErr
 rw [shiftP_len, if_pos (poly_coefs h).1, if_pos hc, shiftP_head h2 h5, if_pos h0]
theorem Shifted_ok {p : List Int} (h : Sp.polyErr p = 0) {b : Int} (hb : -10 ≤ b ∧ b ≤ 10) : gov_Shifted.f p b = some (if Sp.coefsErr (shiftP p b) = 0 then (shiftP p b, 0) else ([], 8)) := by
 have e : shiftErr p b = 0 := by unfold shiftErr; rw [if_pos h, if_pos hb]
 unfold gov_Shifted.f
 rw [if_pos e]
theorem shi_l0 {p S rs : List Int} {b : Int} (h : Sp.polyErr p = 0) (hb : -10 ≤ b ∧ b ≤ 10) (hS : S = shiftP p b) (hc : Sp.coefsErr (shiftP p b) = 0) : ∀ (d k i : Nat), p.length - i = d → i ≤ p.length → 60000000000004000 + d < k →
  Q.gl6_GovernorShifts.l0 k p b rs S (hornerTo b p i) (i : Int) = some true := by
 obtain ⟨h2, h5, -, -⟩ := poly_of h
 have hl : S.length = p.length := by rw [hS, shiftP_len]
 intro d
 induction d with
 | zero =>
  intro k i hd hi hk
  obtain ⟨k, rfl⟩ : ∃ q, k = q + 1 := ⟨k - 1, by omega⟩
  obtain rfl : i = p.length := by omega
  have e1 : gov_Shifted.f S (wrap64 (-b)) = some (p, 0) := by
   rw [w64 (by omega) (by omega), hS, Shifted_ok (shifted_poly h b hc) (by omega), back_eq h b, if_pos (poly_coefs h).2]
  have e2 : rd S ((p.length - 1 : Nat) : Int) = hornerTo b p p.length := by rw [rd_nat, hS]; exact shift_last h2 h5 b
  rw [Q.gl6_GovernorShifts.l0, if_neg (by omega), copy_eval S (by omega), Option.bind_some, e1, Option.bind_some, if_pos rfl, ints_eval p p (by omega) k (by omega), Option.bind_some, if_pos (decide_eq_true rfl), hl, w64 (n := (p.length : Int) - 1) (by omega) (by omega), if_pos (by omega), if_pos (by omega), show ((p.length : Int) - 1) = ((p.length - 1 : Nat) : Int) by omega, if_pos e2]
  exact shi_j2 rs k (by omega)
 | succ d ih =>
  intro k i hd hi hk
  obtain ⟨k, rfl⟩ : ∃ q, k = q + 1 := ⟨k - 1, by omega⟩
  rw [Q.gl6_GovernorShifts.l0, if_pos (by omega), if_pos (by omega), rd_nat, w64 (n := (i : Int) + 1) (by omega) (by omega), show ((i : Int) + 1) = ((i + 1 : Nat) : Int) by omega]
  exact ih k (i + 1) (by omega) (by omega) (by omega)
theorem pure_shifts : Q.gl6_GovernorShifts.Pure := by
 intro p b rs _ _ _ _ _ _ _
 refine ⟨70000000000000000, ?_⟩
 obtain ⟨K, hK⟩ : ∃ K : Nat, K = 70000000000000000 := ⟨_, rfl⟩
 rw [← hK]
 unfold Q.gl6_GovernorShifts.f gl6_awake.f
 rw [Option.bind_some, if_pos rfl, rpolyErr_eval p K (by omega), Option.bind_some]
 by_cases h : Sp.polyErr p = 0
 ·obtain ⟨h2, h5, -, -⟩ := poly_of h
  rw [if_pos h, copy_eval p (by omega), Option.bind_some]
  by_cases hb : -10 ≤ b ∧ b ≤ 10
  ·rw [Shifted_ok h hb, Option.bind_some]
   by_cases hc : Sp.coefsErr (shiftP p b) = 0
   ·obtain ⟨q, hq⟩ : ∃ q, K = q + 1 := ⟨K - 1, by omega⟩
    have hl := shi_l0 (rs := rs) h hb rfl hc p.length q 0 (by omega) (by omega) (by omega)
    rw [hornerTo, show ((0 : Nat) : Int) = 0 from rfl] at hl
    rw [if_pos hc, if_pos rfl, rpolyErr_eval _ K (by omega), Option.bind_some, if_pos (shifted_poly h b hc), shiftP_len, hq, Q.gl6_GovernorShifts.j0, if_neg (by simp)]
    exact hl
   ·rw [if_neg hc, if_neg (by decide), if_neg (by decide), if_pos rfl]
    exact shi_j2 rs K (by omega)
  ·have e : shiftErr p b = 2 := by unfold shiftErr; rw [if_pos h, if_neg hb]
   have e2 : gov_Shifted.f p b = some ([], 2) := by unfold gov_Shifted.f; rw [e, if_neg (by decide)]
   rw [e2, Option.bind_some, if_neg (by decide), if_pos rfl]
   exact shi_j2 rs K (by omega)
 ·rw [if_neg h]
end Go.Proofs.YtmpondcccbmlhaaGreat.Ext
namespace Go.Proofs.YtmpondcccbmlhaaGreat
theorem Pure.GovernorShifts : Q.gl6_GovernorShifts.Pure := Ext.pure_shifts
end Go.Proofs.YtmpondcccbmlhaaGreat
