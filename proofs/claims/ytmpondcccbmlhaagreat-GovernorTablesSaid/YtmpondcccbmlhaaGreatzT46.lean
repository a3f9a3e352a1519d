/- A part of the claim T: the texts PuTab, without what the claim does not lean on. -/
import Derived.Test.YtmpondcccbmlhaaGreatzT45
namespace Go.Proofs.YtmpondcccbmlhaaGreat.Ext
open Go.RowKit Go.Proofs.YtmpondcccbmlhaaGreatW.PrintWords Go.Proofs.YtmpondcccbmlhaaGreatW.PrintLast Go.Proofs.YtmpondcccbmlhaaGreatW.PrintMore
theorem copyRows_loop (l : List (List Int)) (hl : l.length ≤ 1000) (hx : ∀ i, (l.getD i []).length ≤ 1000) : ∀ (d k i : Nat), l.length - i = d → i ≤ l.length → d < k → Q.gba_CopyLists.l0 k l (l.take i) (i : Int) = some l := by
 intro d
 induction d with
 | zero =>
  intro k i hd hi hk
  obtain ⟨k, rfl⟩ : ∃ q, k = q + 1 := ⟨k - 1, by omega⟩
  rw [Q.gba_CopyLists.l0, if_neg (by omega), List.take_of_length_le (by omega)]
 | succ d ih =>
  intro k i hd hi hk
  obtain ⟨k, rfl⟩ : ∃ q, k = q + 1 := ⟨k - 1, by omega⟩
  have hil : i < l.length := by omega
  have hxi := hx i
  have ht : (l.take i).length ≤ 1000 := by rw [List.length_take]; omega
  rw [Q.gba_CopyLists.l0, if_pos (by omega), if_pos (by omega), rdL2_nat, copy_eval _ (by omega), Option.bind_some, if_pos (by omega), w64 (by omega) (by omega), show ((i : Int) + 1) = ((i + 1 : Nat) : Int) by omega]
  have e : l.take i ++ [l.getD i []] = l.take (i + 1) := by
   rw [List.take_succ_eq_append_getElem hil]; simp [List.getD_eq_getElem?_getD, hil]
  rw [e]
  exact ih k (i + 1) (by omega) (by omega) (by omega)
theorem copyRows_eval (l : List (List Int)) (hl : l.length ≤ 1000) (hx : ∀ i, (l.getD i []).length ≤ 1000) (k : Nat) (hk : 1001 < k) : Q.gba_CopyLists.f k l = some l := by
 have := copyRows_loop l hl hx l.length k 0 (by omega) (by omega) (by omega)
 exact this
theorem rct_loop {p : List Int} (hp : PolyOk p) {rows : List (List Int)} (hn : rows.length = p.length) (h7 : ∀ i, (rows.getD i []).length ≤ 7) {m : Nat} (hm : m ≤ p.length) (hneg : m < p.length → 0 < m ∧ ent (row p (m - 1)) 0 ≤ 0) : ∀ (d k i : Nat), rows.length - i = d → i ≤ rows.length → d + 20 < k →
  (∀ j, j < i → tabChk p rows j = 0) → Q.gr6_CheckTable.l0 k rows (rowsTo p m) (i : Int) = some (firstBad (tabChk p rows) i d) := by
 have h5 := hp.len5
 intro d
 induction d with
 | zero =>
  intro k i hd hi hk hprev
  obtain ⟨k, rfl⟩ : ∃ q, k = q + 1 := ⟨k - 1, by omega⟩
  rw [Q.gr6_CheckTable.l0, if_neg (by omega)]; rfl
 | succ d ih =>
  intro k i hd hi hk hprev
  obtain ⟨k, rfl⟩ : ∃ q, k = q + 1 := ⟨k - 1, by omega⟩
  have him : i < m := by
   by_cases h : i < m
   ·exact h
   ·obtain ⟨h1, h2⟩ := hneg (by omega)
    have h3 := hprev (m - 1) (by omega)
    unfold tabChk at h3
    split at h3
    ·rename_i h4; omega
    ·cases h3
  have hl := rowsTo_len p m
  have hrl := row_len p i
  have h7i := h7 i
  rw [Q.gr6_CheckTable.l0, if_pos (by omega), if_neg (by rw [hl]; omega), if_pos (by omega), if_pos (by rw [hl]; omega), rdL2_nat, rdL2_nat, rowsTo_get _ _ _ him, ints_eval _ _ (by omega) k (by omega), Option.bind_some]
  by_cases he : rows.getD i [] = row p i
  ·rw [if_pos (decide_eq_true he), he, if_pos (by omega)]
   have e0 : rd (row p i) 0 = ent (row p i) 0 := by have := rd_nat (row p i) 0; simpa [ent] using this
   rw [e0]
   by_cases hpos : 0 < ent (row p i) 0
   ·have hc : tabChk p rows i = 0 := if_pos ⟨he, hpos⟩
    rw [if_neg (by omega), firstBad_skip _ _ _ hc, w64 (by omega) (by omega), show ((i : Int) + 1) = ((i + 1 : Nat) : Int) by omega]
    exact ih k (i + 1) (by omega) (by omega) (by omega) (fun j hj => if hji : j = i then by rw [hji]; exact hc else hprev j (by omega))
   ·have hc : tabChk p rows i = 19 := if_neg (fun e => hpos e.2)
    rw [if_pos (by omega), firstBad_hit _ _ _ (by rw [hc]; decide), hc]
  ·have hc : tabChk p rows i = 19 := if_neg (fun e => he e.1)
   rw [if_neg (by rw [decide_eq_true_eq]; exact he), firstBad_hit _ _ _ (by rw [hc]; decide), hc]
theorem rct_eval {p : List Int} (hp : PolyOk p) {rows : List (List Int)} (h7 : ∀ i, (rows.getD i []).length ≤ 7) (k : Nat) (hk : 1000 < k) :
  Q.gr6_CheckTable.f k p rows = some (if rows.length = p.length then firstBad (tabChk p rows) 0 rows.length else (0, 10)) := by
 have h5 := hp.len5
 unfold Q.gr6_CheckTable.f
 by_cases hn : rows.length = p.length
 ·rw [if_pos (by omega), if_pos hn, rtable_eval hp, Option.bind_some]
  obtain ⟨m, -, hm, he, -, hneg⟩ := tabGo_spec p p.length 0 (by omega) (by omega)
  have he2 : tableOf p = rowsTo p m := he
  rw [he2]
  exact rct_loop hp hn h7 hm (fun h => hneg h) rows.length k 0 (by omega) (by omega) (by omega) (fun j hj => by omega)
 ·rw [if_neg (by omega), if_neg hn]
theorem tab_final (p : List Int) (rows : List (List Int)) (hp7 : p.length ≤ 7) (hr7 : rows.length ≤ 7) (h7 : ∀ i, (rows.getD i []).length ≤ 7) (k : Nat) (hk : 60000000000001000 < k) :
  Q.gl6_GovernorTables.l0 (k + 1) p rows (rows.length : Int) = some true := by
 rw [Q.gl6_GovernorTables.l0, if_neg (by omega), copy_eval p (by omega), Option.bind_some]
 have hcp : gov_CheckPolynomial.f p = some (Sp.polyErr p) := rfl
 have hct : gov_CheckTable.f p rows = some (tabErr p rows) := rfl
 by_cases h0 : Sp.polyErr p = 0
 ·have hpo := polyOk_tab h0
  have h5 := hpo.len5
  have e1 : Q.gov_TableOf.f k p = some (tableOf p, 0) := by
   unfold Q.gov_TableOf.f
   rw [hcp, h0, Option.bind_some, if_pos rfl, table_eval hpo k (by omega), Option.bind_some]
  have e2 : Q.gov_IsStable.f k p = some (stab p, 0) := by
   unfold Q.gov_IsStable.f
   rw [hcp, h0, Option.bind_some, if_pos rfl, stable_eval hpo k (by omega), Option.bind_some]
  obtain ⟨m, -, hm, he, -, -⟩ := tabGo_spec p p.length 0 (by omega) (by omega)
  have he2 : tableOf p = rowsTo p m := he
  have e3 : Q.gba_Lists.f k (tableOf p) (tableOf p) = some true := by
   refine lists_refl _ (by rw [he2, rowsTo_len]; omega) (fun i => ?_) k (by omega)
   rw [he2]
   by_cases hi : i < m
   ·rw [rowsTo_get _ _ _ hi, row_len]; omega
   ·rw [List.getD_eq_getElem?_getD, List.getElem?_eq_none (by rw [rowsTo_len]; omega)]; simp
  have e4 : tabErr p rows = (if rows.length = p.length then firstBad (tabChk p rows) 0 rows.length else (0, 10)) := by unfold tabErr; rw [if_pos h0]
  rw [e1, Option.bind_some, Option.bind_some, e2, Option.bind_some, Option.bind_some, copyRows_eval rows (by omega) (fun i => by have := h7 i; omega) k (by omega), Option.bind_some, hct, Option.bind_some, rpolyErr_eval p k (by omega), Option.bind_some, Option.bind_some, hcp, Option.bind_some, if_pos rfl, if_pos h0,
   rct_eval hpo h7 k (by omega), Option.bind_some, if_pos rfl, rtable_eval hpo, Option.bind_some, e3, Option.bind_some, if_pos rfl, if_pos rfl, rstable_eval hpo, Option.bind_some, if_pos (by simp), e4, if_pos rfl]
  simp
 ·have e1 : Q.gov_TableOf.f k p = some ([], Sp.polyErr p) := by
   unfold Q.gov_TableOf.f
   rw [hcp, Option.bind_some, if_neg h0]
  have e2 : Q.gov_IsStable.f k p = some (false, Sp.polyErr p) := by
   unfold Q.gov_IsStable.f
   rw [hcp, Option.bind_some, if_neg h0]
  have e4 : tabErr p rows = (0, Sp.polyErr p) := by unfold tabErr; rw [if_neg h0]
  rw [e1, Option.bind_some, Option.bind_some, e2, Option.bind_some, Option.bind_some, copyRows_eval rows (by omega) (fun i => by have := h7 i; omega) k (by omega), Option.bind_some, hct, Option.bind_some, rpolyErr_eval p k (by omega), Option.bind_some, Option.bind_some, hcp, Option.bind_some, if_pos rfl, if_neg h0, e4, if_pos rfl, if_pos rfl, if_pos rfl]
  simp
theorem tab_rows (p : List Int) (rows : List (List Int)) (hp7 : p.length ≤ 7) (hr7 : rows.length ≤ 7) : ∀ (d k i : Nat), rows.length - i = d → i ≤ rows.length → 60000000000001000 + d + 1 < k → (∀ j, j < i → (rows.getD j []).length ≤ 7) →
  Q.gl6_GovernorTables.l0 k p rows (i : Int) = some true := by
 intro d
 induction d with
 | zero =>
  intro k i hd hi hk hj
  obtain ⟨k, rfl⟩ : ∃ q, k = q + 1 := ⟨k - 1, by omega⟩
  obtain rfl : i = rows.length := by omega
  exact tab_final p rows hp7 hr7 (fun j => by
   by_cases hjl : j < rows.length
   ·exact hj j hjl
   ·rw [List.getD_eq_getElem?_getD, List.getElem?_eq_none (by omega)]; simp) k (by omega)
 | succ d ih =>
  intro k i hd hi hk hj
  obtain ⟨k, rfl⟩ : ∃ q, k = q + 1 := ⟨k - 1, by omega⟩
  rw [Q.gl6_GovernorTables.l0, if_pos (by omega), if_pos (by omega), rdL2_nat]
  unfold Q.gl6_short.f
  rw [Option.bind_some]
  by_cases h : (rows.getD i []).length ≤ 7
  ·rw [if_pos (decide_eq_true (by omega)), w64 (by omega) (by omega), show ((i : Int) + 1) = ((i + 1 : Nat) : Int) by omega]
   exact ih k (i + 1) (by omega) (by omega) (by omega) (fun j h1 => if hji : j = i then by rw [hji]; exact h else hj j (by omega))
  ·rw [if_neg (by rw [decide_eq_true_eq]; omega)]
theorem pure_tables (p : List Int) (rows : List (List Int)) (k : Nat) (hk : 60000000000002000 < k) : Q.gl6_GovernorTables.f k p rows = some true := by
 obtain ⟨k, rfl⟩ : ∃ q, k = q + 1 := ⟨k - 1, by omega⟩
 unfold Q.gl6_GovernorTables.f gl6_awake.f Q.gl6_short.f
 rw [Option.bind_some, if_pos rfl, Option.bind_some]
 by_cases h7 : (p.length : Int) ≤ 7
 ·rw [if_pos (decide_eq_true h7), Q.gl6_GovernorTables.j0]
  by_cases hr : (rows.length : Int) > 7
  ·rw [if_pos (decide_eq_true hr)]
  ·rw [if_neg (by rw [decide_eq_true_eq]; exact hr)]
   exact tab_rows p rows (by omega) (by omega) rows.length k 0 (by omega) (by omega) (by omega) (fun j hj => by omega)
 ·rw [if_neg (by rw [decide_eq_true_eq]; exact h7), Q.gl6_GovernorTables.j0, if_pos rfl]
end Go.Proofs.YtmpondcccbmlhaaGreat.Ext
