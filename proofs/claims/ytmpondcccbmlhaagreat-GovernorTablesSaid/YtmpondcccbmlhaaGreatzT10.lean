/- A part of the claim T: the texts Opn, Opb, without what the claim does not lean on. -/
import Derived.ChangeArms
import Derived.ChangeSlices
import Derived.DataElems
import Derived.Test.YtmpondcccbmlhaaGreatzT9
namespace Go.Proofs.YtmpondcccbmlhaaGreat.Ext
open Go.ChangeShapes Go.WideShapes Go.RowKit Go.Proofs.YtmpondcccbmlhaaGreatW.PrintWords Go.Proofs.YtmpondcccbmlhaaGreatW.PrintLast Go.Proofs.YtmpondcccbmlhaaGreatW.PrintMore
def Opens {α : Type} (P : Program) (t : TypeId) (kd : Kd α) (G : α → Prop) : Prop :=
 ∀ (H : Type) (enc : TypeId × Value → H) (W : World) (sp : Nat → Bool) (held : Bool) (fuel : Nat) (cs : List Value) (y : DataW H × List MemPlace), DataW.trod enc P W 0 sp held fuel t cs = some y → ∃ x, kd.K W x cs ∧ G x
theorem opens_int {P : Program} {t : TypeId} {k : IntKind} (ht : P.underlying t = some (.int k)) : Opens P t (Kd.int k) (fun n => (Lit.int k n).wf = true) := by
 intro H enc W sp held fuel cs y h
 obtain ⟨n, rfl, _, hw⟩ := DataW.trod_int ht h
 exact ⟨n, rfl, hw⟩
theorem cells_at {w : World} {base : Nat} {a : Addr} {n : Nat} {cs : List Value} (h : w.cells? base a n = some cs) : cs.length = n ∧ ∀ i u, cs[i]? = some u → w.cell? (a.add i) = some u := by
 have hs := World.cells?_some h
 refine ⟨hs.2.1, fun i u hu => ?_⟩
 have hi : i < n := by have := (List.getElem?_eq_some_iff.1 hu).1; omega
 rw [hs.2.2 i hi, hu]
theorem list_of {α : Type} (R : Nat → α → Prop) : ∀ n, (∀ i, i < n → ∃ x, R i x) → ∃ xs : List α, xs.length = n ∧ ∀ i x, xs[i]? = some x → R i x := by
 intro n
 induction n with
 | zero => intro _; exact ⟨[], rfl, fun i x h => by simp at h⟩
 | succ n ih =>
  intro h
  obtain ⟨xs, hl, hx⟩ := ih (fun i hi => h i (by omega))
  obtain ⟨x, hr⟩ := h n (by omega)
  refine ⟨xs ++ [x], by simp [hl], fun i y hy => ?_⟩
  by_cases hi : i < n
  ·rw [List.getElem?_append_left (by omega)] at hy; exact hx i y hy
  ·rw [List.getElem?_append_right (by omega)] at hy
   have hin : i = n := by
    have := (List.getElem?_eq_some_iff.1 hy).1
    simp at this; omega
   subst hin
   rw [hl, Nat.sub_self] at hy
   have : x = y := by simpa using hy
   subst this; exact hr
theorem maxLen_le : maxLen ≤ 9223372036854775807 := by decide
theorem opens_slice {α : Type} {P : Program} {t e : TypeId} {kd : Kd α} {G : α → Prop} (e' : Nat) (ht : P.underlying t = some (.slice e)) (hk : kd.sz = P.cellsOf e) (ho : Opens P e kd G) : Opens P t (Kd.slice e' kd) (fun xs => xs.length ≤ maxLen ∧ ∀ x ∈ xs, G x) := by
 intro H enc W sp held fuel cs y h
 rcases DataW.trod_slice ht h with ⟨rfl, _⟩ | ⟨a, len, cap, elems, rest, n, _, rfl, _, hb, hl, hm, hlen, hel, _, _⟩
 ·exact ⟨[], ⟨none, 0, rfl, Nat.le_refl _, rfl, by simp, fun h0 => absurd h0 (by simp)⟩, Nat.zero_le _, fun x hx => by simp at hx⟩
 ·have each : ∀ i, i < len → ∃ x : α, (∃ c, c.length = kd.sz ∧ kd.K W x c ∧ ∀ j u, c[j]? = some u → W.cell? (a.add (i * kd.sz + j)) = some u) ∧ G x := by
   intro i hi
   have h1 := hel i hi
   rw [List.getElem?_eq_getElem (by omega), Option.bind_eq_some_iff] at h1
   obtain ⟨c, hc, hy⟩ := h1
   obtain ⟨x, hx, hg⟩ := ho H enc W sp held n c _ hy
   obtain ⟨hcl, hcu⟩ := cells_at hc
   refine ⟨x, ⟨c, by rw [hcl, hk], hx, fun j u hu => ?_⟩, hg⟩
   have := hcu j u hu
   rw [add_add, ← hk] at this
   exact this
  obtain ⟨xs, hxl, hxs⟩ := list_of _ len each
  refine ⟨xs, ⟨some a, cap, by rw [hxl], by omega, rfl, by have := maxLen_le; omega, fun _ => ⟨a, rfl, fun j p hj => ?_⟩⟩, by omega, fun x hx => ?_⟩
  ·obtain ⟨c, h1, h2, h3⟩ := (hxs j p hj).1
   exact ⟨c, h1, h2, h3⟩
  ·obtain ⟨i, hi⟩ := List.getElem?_of_mem hx
   exact (hxs i x hi).2
theorem opens_at {α : Type} {P : Program} {t : TypeId} {kd : Kd α} {G : α → Prop} (ho : Opens P t kd G) {H : Type} {enc : TypeId × Value → H} {W : World} {sp : Nat → Bool} {held : Bool} {v : Value} {d : DataW H} {p : List MemPlace} (h : DataW.Trod enc P W 0 sp held t v d p) :
  ∃ x, kd.K W x v.cells.toList ∧ G x := by
 obtain ⟨fuel, hf⟩ := h
 exact ho H enc W sp held fuel _ _ hf
theorem opens_sl {α : Type} {P : Program} {t : TypeId} {e' : Nat} {kd : Kd α} {G : List α → Prop} (ho : Opens P t (Kd.slice e' kd) G) {H : Type} {enc : TypeId × Value → H} {W : World} {sp : Nat → Bool} {held : Bool} {a : Option Addr} {len cap : Nat} {d : DataW H} {p : List MemPlace} (h : DataW.Trod enc P W 0 sp held t (.slice a len cap) d p) :
  ∃ xs, len = xs.length ∧ xs.length ≤ cap ∧ Kd.C kd W a xs.length xs ∧ G xs := by
 obtain ⟨xs, ⟨A, c, hcs, hl, hC⟩, hg⟩ := opens_at ho h
 have : [Value.slice a len cap] = [.slice A xs.length c] := hcs
 simp only [List.cons.injEq, Value.slice.injEq, and_true] at this
 obtain ⟨rfl, rfl, rfl⟩ := this
 exact ⟨xs, rfl, hl, hC, hg⟩
end Go.Proofs.YtmpondcccbmlhaaGreat.Ext
namespace Go.Proofs.YtmpondcccbmlhaaGreat.Ext
open Go.ChangeShapes Go.WideShapes Go.RowKit Go.Proofs.YtmpondcccbmlhaaGreatW.PrintWords Go.Proofs.YtmpondcccbmlhaaGreatW.PrintLast Go.Proofs.YtmpondcccbmlhaaGreatW.PrintMore
open Q (S58 z58 k58)
theorem opens_num : Opens Tryz.prog 3 (Kd.int .i64) (fun n => (Lit.int .i64 n).wf = true) := opens_int Tryz.underlying3
theorem opens_nums : Opens Tryz.prog 22 (Kd.slice 3 (Kd.int .i64)) (fun xs => xs.length ≤ maxLen ∧ ∀ x ∈ xs, (Lit.int .i64 x).wf = true) := opens_slice 3 Tryz.underlying22 (by kernel_rfl) opens_num
theorem opens_lists : Opens Tryz.prog 46 (Kd.slice 22 (Kd.slice 3 (Kd.int .i64))) (fun xs => xs.length ≤ maxLen ∧ ∀ x ∈ xs, (x.length ≤ maxLen ∧ ∀ n ∈ x, (Lit.int .i64 n).wf = true)) := opens_slice 22 Tryz.underlying46 (by kernel_rfl) opens_nums
end Go.Proofs.YtmpondcccbmlhaaGreat.Ext
