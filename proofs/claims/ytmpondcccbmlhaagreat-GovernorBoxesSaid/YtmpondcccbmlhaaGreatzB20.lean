/- A part of the claim B: the texts Boxs, without what the claim does not lean on. -/
import Derived.ArgAppend
import Derived.Below
import Derived.BigQuiet
import Derived.Deep.AppendLies
import Derived.Deep.CutBlock
import Derived.Deep.DeepCutAuto
import Derived.Deep.Draws
import Derived.Deep.LoopGhost
import Derived.Deep.OwnRows
import Derived.Deep.QuietTactic
import Derived.Deep.RegionHeld3
import Derived.Deep.WholeRow
import Derived.KernelRfl
import Derived.Laws.BitsLemmas
import Derived.Laws.BytesArg
import Derived.Laws.IdiomCopy
import Derived.Laws.MakeOwn
import Derived.Laws.OwnMore
import Derived.Laws.Rows
import Derived.Laws.Slices
import Derived.Laws.StructEq
import Derived.Lib.AppendStr
import Derived.Lib.ConvBytes
import Derived.Lib.Hide
import Derived.Maps.AppendAt
import Derived.OrdersHeld
import Derived.Outline
import Derived.OwnWalk
import Derived.RowKit
import Derived.RowKit3
import Derived.Shelf.Abstract
import Derived.Tactics
import Derived.WalkKit
import Derived.WalkLawsBesides
import Derived.WideLaws
import Derived.Test.YtmpondcccbmlhaaGreatProg
import Derived.Test.YtmpondcccbmlhaaGreatzB0
import Derived.Test.YtmpondcccbmlhaaGreatzB1
import Derived.Test.YtmpondcccbmlhaaGreatzB2
import Derived.Test.YtmpondcccbmlhaaGreatzB3
import Derived.Test.YtmpondcccbmlhaaGreatzB4
import Derived.Test.YtmpondcccbmlhaaGreatzB5
import Derived.Test.YtmpondcccbmlhaaGreatzB6
import Derived.Test.YtmpondcccbmlhaaGreatzB7
import Derived.Test.YtmpondcccbmlhaaGreatzB8
import Derived.Test.YtmpondcccbmlhaaGreatzB9
import Derived.Test.YtmpondcccbmlhaaGreatzB11
import Derived.Test.YtmpondcccbmlhaaGreatzB12
import Derived.Test.YtmpondcccbmlhaaGreatzB13
import Derived.Test.YtmpondcccbmlhaaGreatzB14
import Derived.Test.YtmpondcccbmlhaaGreatzB15
import Derived.Test.YtmpondcccbmlhaaGreatzB16
import Derived.Test.YtmpondcccbmlhaaGreatzB17
import Derived.Test.YtmpondcccbmlhaaGreatzB18
import Derived.Test.YtmpondcccbmlhaaGreatzB19
namespace Go.Proofs.YtmpondcccbmlhaaGreat.Ext
open Go.RowKit Go.Proofs.YtmpondcccbmlhaaGreatW.PrintWords Go.Proofs.YtmpondcccbmlhaaGreatW.PrintLast Go.Proofs.YtmpondcccbmlhaaGreatW.PrintMore
open Q (S58 z58 k58)
theorem copyBox_eval (l : List S58) (h : l.length ≤ 1000000) : Q.guidevaneref06_CopyBox.f l = some l := by
  unfold Q.guidevaneref06_CopyBox.f Q.guidevanebase_CopyRanges.f
  simp only [Option.bind_some, List.nil_append, List.length_nil]
  rw [if_pos (by omega)]
  rfl
theorem rdBox_nat (l : List S58) (i : Nat) : Q.rd_T58 l (i : Int) = l.getD i z58 := by simp [Q.rd_T58]
theorem firstBad_nil {chk : Nat → Int} : ∀ {d i : Nat}, (firstBad chk i d).2 = 0 → ∀ j, i ≤ j → j < i + d → chk j = 0 := by
  intro d
  induction d with
  | zero => intro i _ j h1 h2; omega
  | succ d ih =>
    intro i h j h1 h2
    by_cases hc : chk i = 0
    · rw [firstBad_skip _ _ _ hc] at h
      by_cases hj : j = i
      · subst hj; exact hc
      · exact ih h j (by omega) (by omega)
    · rw [firstBad_hit _ _ _ hc] at h
      exact absurd h hc
theorem box_loop (l : List S58) (h0 : 0 < l.length) (h5 : l.length ≤ 1000) : ∀ (d k i : Nat), l.length - i = d → i ≤ l.length → 2 * d + 1 ≤ k →
    Q.guidevaneref06_CheckBox.l0 k (i : Int) l = some (if (firstBad (rangeAt l) i d).2 = 0 then (0, if 0 < (l.getD 0 z58).f0 then 0 else 3) else firstBad (rangeAt l) i d) := by
  intro d
  induction d with
  | zero =>
    intro k i hd hi hk
    obtain ⟨k, rfl⟩ : ∃ k', k = k' + 1 := ⟨k - 1, by omega⟩
    have e0 : Q.rd_T58 l 0 = l.getD 0 z58 := rdBox_nat l 0
    rw [Q.guidevaneref06_CheckBox.l0, if_neg (by omega), if_pos (by omega), e0]
    simp only [firstBad, if_true]
    by_cases hp : 0 < (l.getD 0 z58).f0
    · rw [if_pos hp, if_neg (by omega)]
    · rw [if_neg hp, if_pos (by omega)]
  | succ d ih =>
    intro k i hd hi hk
    obtain ⟨k, rfl⟩ : ∃ k', k = k' + 2 := ⟨k - 2, by omega⟩
    have hl : i < l.length := by omega
    rw [Q.guidevaneref06_CheckBox.l0, if_pos (by omega), if_pos (by omega), rdBox_nat]
    simp only [bwithin_eval, Option.bind_some, decide_eq_true_eq]
    have ih' := ih k (i + 1) (by omega) (by omega) (by omega)
    have e1 : ((i + 1 : Nat) : Int) = (i : Int) + 1 := by omega
    rw [e1] at ih'
    have hw : wrap64 ((i : Int) + 1) = (i : Int) + 1 := w64 (by omega) (by omega)
    have ha : rangeAt l i = rangeErr (l.getD i z58) := rfl
    generalize l.getD i z58 = r at ha
    by_cases c1 : -1000 ≤ r.f0 ∧ r.f0 ≤ 1000
    · rw [if_pos c1]
      by_cases c2 : -1000 ≤ r.f1 ∧ r.f1 ≤ 1000
      · have b2 : (!decide (-1000 ≤ r.f1 ∧ r.f1 ≤ 1000)) = false := by simp [c2]
        rw [b2, Q.guidevaneref06_CheckBox.j1, if_neg (by decide)]
        by_cases c3 : r.f0 ≤ r.f1
        · rw [if_neg (by omega), hw, ih', firstBad_skip _ _ _ (by rw [ha]; unfold rangeErr Sp.coefErr; rw [if_pos c1, if_pos c2, if_pos rfl, if_pos rfl, if_pos c3])]
        · have e9 : rangeAt l i = 9 := by rw [ha]; unfold rangeErr Sp.coefErr; rw [if_pos c1, if_pos c2, if_pos rfl, if_pos rfl, if_neg c3]
          rw [if_pos (by omega), firstBad_hit _ _ _ (by rw [e9]; decide), e9]
          rfl
      · have b2 : (!decide (-1000 ≤ r.f1 ∧ r.f1 ≤ 1000)) = true := by simp [c2]
        have e2 : rangeAt l i = 2 := by rw [ha]; unfold rangeErr Sp.coefErr; rw [if_pos c1, if_neg c2, if_pos rfl, if_neg (by decide)]
        rw [b2, Q.guidevaneref06_CheckBox.j1, if_pos rfl, firstBad_hit _ _ _ (by rw [e2]; decide), e2]
        rfl
    · have e2 : rangeAt l i = 2 := by rw [ha]; unfold rangeErr Sp.coefErr; rw [if_neg c1, if_neg (by decide)]
      rw [if_neg c1, Q.guidevaneref06_CheckBox.j1, if_pos rfl, firstBad_hit _ _ _ (by rw [e2]; decide), e2]
      rfl
theorem rcheckBox_eval (l : List S58) (k : Nat) (hk : 20 < k) : Q.guidevaneref06_CheckBox.f k l = some (boxErr l) := by
  unfold Q.guidevaneref06_CheckBox.f boxErr
  rw [shape_eval]
  simp only [Option.bind_some]
  by_cases hc : Sp.countErr l.length = 0
  · have h25 := countErr_zero hc
    rw [if_pos hc, if_pos hc]
    have := box_loop l (by omega) (by omega) l.length k 0 (by omega) (by omega) (by omega)
    exact this
  · rw [if_neg hc, if_neg hc]
structure BoxOk (l : List S58) : Prop where
  len2 : 2 ≤ l.length
  len5 : l.length ≤ 5
  at_ : ∀ i, i < l.length → -1000 ≤ (l.getD i z58).f0 ∧ (l.getD i z58).f0 ≤ (l.getD i z58).f1 ∧ (l.getD i z58).f1 ≤ 1000
  lead : 0 < (l.getD 0 z58).f0
theorem rangeErr_zero {r : S58} (h : rangeErr r = 0) : -1000 ≤ r.f0 ∧ r.f0 ≤ r.f1 ∧ r.f1 ≤ 1000 := by
  unfold rangeErr Sp.coefErr at h
  by_cases c1 : -1000 ≤ r.f0 ∧ r.f0 ≤ 1000
  · rw [if_pos c1, if_pos rfl] at h
    by_cases c2 : -1000 ≤ r.f1 ∧ r.f1 ≤ 1000
    · rw [if_pos c2, if_pos rfl] at h
      by_cases c3 : r.f0 ≤ r.f1
      · exact ⟨c1.1, c3, c2.2⟩
      · rw [if_neg c3] at h; exact absurd h (by decide)
    · rw [if_neg c2, if_neg (by decide)] at h; exact absurd h (by decide)
  · rw [if_neg c1, if_neg (by decide)] at h; exact absurd h (by decide)
theorem box_of {l : List S58} (h : (boxErr l).2 = 0) : BoxOk l := by
  unfold boxErr at h
  by_cases hc : Sp.countErr l.length = 0
  · rw [if_pos hc] at h
    have h25 := countErr_zero hc
    by_cases hb : (firstBad (rangeAt l) 0 l.length).2 = 0
    · rw [if_pos hb] at h
      refine ⟨h25.1, h25.2, fun i hi => rangeErr_zero (firstBad_nil hb i (by omega) (by omega)), ?_⟩
      by_cases hp : 0 < (l.getD 0 z58).f0
      · exact hp
      · simp only [if_neg hp] at h; exact absurd h (by decide)
    · rw [if_neg hb] at h; exact absurd h hb
  · rw [if_neg hc] at h; exact absurd h hc
theorem ok_box {l : List S58} (h : BoxOk l) : (boxErr l).2 = 0 := by
  obtain ⟨h2, h5, ha, hp⟩ := h
  unfold boxErr
  have hc : Sp.countErr l.length = 0 := by unfold Sp.countErr; rw [if_neg (by omega), if_neg (by omega)]
  have hb : firstBad (rangeAt l) 0 l.length = (0, 0) := firstBad_none _ _ _ (fun j _ hj => by
    have := ha j (by omega)
    unfold rangeAt rangeErr Sp.coefErr
    have c1 : -1000 ≤ (l.getD j z58).f0 ∧ (l.getD j z58).f0 ≤ 1000 := ⟨this.1, by omega⟩
    have c2 : -1000 ≤ (l.getD j z58).f1 ∧ (l.getD j z58).f1 ≤ 1000 := ⟨by omega, this.2.2⟩
    simp only [if_pos c1, if_pos c2, if_pos this.2.1, if_true])
  rw [if_pos hc, hb, if_pos rfl, if_pos hp]
structure InBox (l : List S58) (p : List Int) : Prop where
  len : p.length = l.length
  at_ : ∀ i, i < l.length → (l.getD i z58).f0 ≤ ent p i ∧ ent p i ≤ (l.getD i z58).f1
theorem in_ok {l : List S58} {p : List Int} (h : BoxOk l) (hp : InBox l p) : PolyOk p ∧ 0 < ent p 0 := by
  obtain ⟨h2, h5, ha, hl⟩ := h
  obtain ⟨hn, hi⟩ := hp
  refine ⟨⟨by omega, by omega, fun i => ?_⟩, by have := hi 0 (by omega); omega⟩
  by_cases hil : i < l.length
  · have := ha i hil; have := hi i hil; omega
  · rw [ent_over (by omega)]; decide
theorem corner_in {l : List S58} (h : BoxOk l) (pat : List Bool) : InBox l (corner pat l) := by
  refine ⟨by simp [corner], fun i hi => ?_⟩
  have e : ent (corner pat l) i = cornerAt pat l i := by unfold corner; rw [ent_map, if_pos hi]
  rw [e]
  unfold cornerAt
  have := h.at_ i hi
  split <;> omega
theorem allStable_eval : ∀ (cs : List (List Int)), (∀ c ∈ cs, PolyOk c) → allStable cs = some (cs.all stab) := by
  intro cs
  induction cs with
  | nil => intro _; rfl
  | cons c cs ih =>
    intro h
    unfold allStable
    rw [stable_eval (h c (by simp)) K0 (by unfold K0; omega)]
    simp only [Option.bind_some, List.all_cons]
    cases hb : stab c with
    | true => rw [if_pos rfl, ih (fun x hx => h x (by simp [hx]))]; simp
    | false => rw [if_neg (by decide)]; simp
noncomputable def robust (l : List S58) : Bool := (cornersOf l).all stab
theorem isRobust_eval {l : List S58} (h : BoxOk l) : governor_IsRobust.f l = some (robust l, 0) := by
  unfold governor_IsRobust.f
  rw [if_pos (ok_box h), allStable_eval]
  · rfl
  · intro c hc
    obtain ⟨pat, _, rfl⟩ := List.mem_map.1 hc
    exact (in_ok h (corner_in h pat)).1
end Go.Proofs.YtmpondcccbmlhaaGreat.Ext
