/- A part of the claim P: the texts ExL, without what the claim does not lean on. -/
import Derived.ArgAppend
import Derived.Below
import Derived.BigQuiet
import Derived.Deep.AppendLies
import Derived.Deep.CutBlock
import Derived.Deep.DeepCutAuto
import Derived.Deep.Draws
import Derived.Deep.LoopGhost
import Derived.Deep.OwnRows
import Derived.Deep.QuietTactic
import Derived.Deep.RegionHeld3
import Derived.KernelRfl
import Derived.Laws.BitsLemmas
import Derived.Laws.BytesArg
import Derived.Laws.ComplexArith
import Derived.Laws.IdiomCopy
import Derived.Laws.MakeOwn
import Derived.Laws.OwnMore
import Derived.Laws.Rows
import Derived.Laws.Slices
import Derived.Laws.StructEq
import Derived.Lib.AppendStr
import Derived.Lib.ConvBytes
import Derived.Lib.Hide
import Derived.Maps.AppendAt
import Derived.OrdersHeld
import Derived.Outline
import Derived.OwnWalk
import Derived.RowKit
import Derived.RowKit3
import Derived.Shelf.Abstract
import Derived.Tactics
import Derived.WalkKit
import Derived.WalkLawsBesides
import Derived.WideLaws
import Derived.Test.YtmpondcccbmlhaaProg
import Derived.Test.YtmpondcccbmlhaazP0
import Derived.Test.YtmpondcccbmlhaazP1
import Derived.Test.YtmpondcccbmlhaazP2
import Derived.Test.YtmpondcccbmlhaazP3
import Derived.Test.YtmpondcccbmlhaazP4
import Derived.Test.YtmpondcccbmlhaazP5
import Derived.Test.YtmpondcccbmlhaazP6
import Derived.Test.YtmpondcccbmlhaazP7
import Derived.Test.YtmpondcccbmlhaazP8
import Derived.Test.YtmpondcccbmlhaazP9
import Derived.Test.YtmpondcccbmlhaazP17
import Derived.Test.YtmpondcccbmlhaazP18
import Derived.Test.YtmpondcccbmlhaazP19
namespace Go.Proofs.Ytmpondcccbmlhaa.Ext
open Go.RowKit Go.Shelf Go.Proofs.YtmpondcccbmlhaaW.PrintWords Go.Proofs.YtmpondcccbmlhaaW.PrintLast Go.Proofs.YtmpondcccbmlhaaW.PrintMore
def absI (x : Int) : Int := if 0 ≤ x then x else -x
def min0 (x : Int) : Int := if x < 0 then x else 0
def absTo (lc : List Int) : Nat → List Int
  | 0 => List.replicate lc.length 0
  | j + 1 => (absTo lc j).set j (absI (lc.getD j 0))
def addAbs (acc m : List Int) : Nat → List Int
  | 0 => acc
  | j + 1 => (addAbs acc m j).set j ((addAbs acc m j).getD j 0 + absI (m.getD j 0))
def szTo (lc : List Int) (lm : List (List Int)) : Nat → List Int
  | 0 => absTo lc lc.length
  | k + 1 => addAbs (szTo lc lm k) (lm.getD k []) lc.length
def hiTo (lc : List Int) (lm : List (List Int)) : Nat → Int
  | 0 => lc.getD 0 0
  | k + 1 => hiTo lc lm k + min0 ((lm.getD k []).getD 0 0)
def rowAt (lc : List Int) (lm : List (List Int)) (k : Nat) : Int := rowErr lc.length (lm.getD k [])
def loopErr (lc : List Int) (lm : List (List Int)) : Int × Int :=
  if Sp.polyErr lc = 0 then
    (if lm.length ≤ 6 then
      (if (firstBad (rowAt lc lm) 0 lm.length).2 = 0 then
        (0, if 0 < hiTo lc lm lm.length then (if maxTo (szTo lc lm lm.length) (lc.length - 1) ≤ 1000 then 0 else 8) else 3)
       else firstBad (rowAt lc lm) 0 lm.length)
     else (0, 8))
  else (0, Sp.polyErr lc)
def governor_CheckLoop.f (l0 : List Int) (l1 : List (List Int)) : Option (Int × Int) := some (loopErr l0 l1)
theorem size_eval (x : Int) (h0 : -1000000000000 ≤ x) (h1 : x ≤ 1000000000000) : Q.governor_size.f x = some (absI x) := by
  unfold Q.governor_size.f
  rw [w64 (by omega) (by omega)]
  unfold mx absI
  congr 1
  split <;> split <;> omega
theorem absI_bound {x b : Int} (h0 : -b ≤ x) (h1 : x ≤ b) : 0 ≤ absI x ∧ absI x ≤ b := by unfold absI; split <;> omega
theorem min0_bound {x b : Int} (hb : 0 ≤ b) (h0 : -b ≤ x) : -b ≤ min0 x ∧ min0 x ≤ 0 := by unfold min0; split <;> omega
theorem firstBad_zero {chk : Nat → Int} : ∀ {d i : Nat}, (firstBad chk i d).2 = 0 → ∀ j, i ≤ j → j < i + d → chk j = 0 := by
  intro d
  induction d with
  | zero => intro i _ j h1 h2; omega
  | succ d ih =>
    intro i h j h1 h2
    by_cases hz : chk i = 0
    · rw [firstBad_skip _ _ _ hz] at h
      rcases Nat.eq_or_lt_of_le h1 with h3 | h3
      · rw [← h3]; exact hz
      · exact ih h j (by omega) (by omega)
    · rw [firstBad_hit _ _ _ hz] at h
      exact absurd h hz
theorem anyTo_false {chk : Nat → Bool} {n : Nat} (h : anyTo chk n = false) : NoneTo chk n := by
  intro j hj
  cases hc : chk j with
  | false => rfl
  | true => rw [anyTo_hit hj hc] at h; cases h
theorem rowErr_zero {n : Nat} {m : List Int} (h : rowErr n m = 0) : m.length = n ∧ ∀ i, i < n → -100 ≤ m.getD i 0 ∧ m.getD i 0 ≤ 100 := by
  unfold rowErr at h
  by_cases hl : m.length = n
  · rw [if_pos hl] at h
    refine ⟨hl, fun i hi => ?_⟩
    cases ha : anyTo (strange m) m.length with
    | true => rw [ha] at h; simp at h
    | false =>
      have := anyTo_false ha i (by omega)
      unfold strange at this
      simpa using this
  · rw [if_neg hl] at h; omega
theorem absTo_len (lc : List Int) (j : Nat) : (absTo lc j).length = lc.length := by
  induction j with
  | zero => simp [absTo]
  | succ j ih => rw [absTo, List.length_set, ih]
theorem addAbs_len (acc m : List Int) (j : Nat) : (addAbs acc m j).length = acc.length := by
  induction j with
  | zero => rfl
  | succ j ih => rw [addAbs, List.length_set, ih]
theorem szTo_len (lc : List Int) (lm : List (List Int)) (k : Nat) : (szTo lc lm k).length = lc.length := by
  induction k with
  | zero => exact absTo_len _ _
  | succ k ih => rw [szTo, addAbs_len, ih]
theorem absTo_get (lc : List Int) (j i : Nat) (hj : j ≤ lc.length) (hi : i < lc.length) : (absTo lc j).getD i 0 = if i < j then absI (lc.getD i 0) else 0 := by
  induction j with
  | zero => simp [absTo, List.getD_eq_getElem?_getD, hi]
  | succ j ih =>
    have ih2 := ih (by omega)
    simp only [absTo, List.getD_eq_getElem?_getD, List.getElem?_set, absTo_len] at ih2 ⊢
    by_cases h : j = i
    · subst h
      rw [if_pos rfl, if_pos hi, if_pos (by omega)]
      rfl
    · rw [if_neg h, ih2]
      by_cases h2 : i < j
      · rw [if_pos h2, if_pos (by omega)]
      · rw [if_neg h2, if_neg (by omega)]
theorem addAbs_get (acc m : List Int) (j i : Nat) (hj : j ≤ acc.length) (hi : i < acc.length) : (addAbs acc m j).getD i 0 = acc.getD i 0 + if i < j then absI (m.getD i 0) else 0 := by
  induction j with
  | zero => simp [addAbs]
  | succ j ih =>
    have ih2 := ih (by omega)
    simp only [addAbs, List.getD_eq_getElem?_getD, List.getElem?_set, addAbs_len] at ih2 ⊢
    by_cases h : j = i
    · subst h
      rw [if_pos rfl, if_pos hi, if_pos (by omega)]
      simp only [Option.getD_some]
      rw [ih2, if_neg (by omega)]; omega
    · rw [if_neg h, ih2]
      by_cases h2 : i < j
      · rw [if_pos h2, if_pos (by omega)]
      · rw [if_neg h2, if_neg (by omega)]
def LoopOk (lc : List Int) (lm : List (List Int)) : Prop :=
  (2 ≤ lc.length ∧ lc.length ≤ 5) ∧ (∀ i, -1000 ≤ lc.getD i 0 ∧ lc.getD i 0 ≤ 1000) ∧ lm.length ≤ 6 ∧
    (∀ m, m < lm.length → (lm.getD m []).length = lc.length ∧ ∀ i, i < lc.length → -100 ≤ (lm.getD m []).getD i 0 ∧ (lm.getD m []).getD i 0 ≤ 100)
theorem szTo_bound {lc : List Int} {lm : List (List Int)} (h : LoopOk lc lm) (k : Nat) (hk : k ≤ lm.length) (i : Nat) (hi : i < lc.length) :
    0 ≤ (szTo lc lm k).getD i 0 ∧ (szTo lc lm k).getD i 0 ≤ 1000 * (k + 1 : Int) := by
  induction k with
  | zero =>
    rw [szTo, absTo_get _ _ _ (Nat.le_refl _) hi, if_pos hi]
    have := absI_bound (h.2.1 i).1 (h.2.1 i).2
    omega
  | succ k ih =>
    have ih2 := ih (by omega)
    rw [szTo, addAbs_get _ _ _ _ (by rw [szTo_len]; omega) (by rw [szTo_len]; exact hi), if_pos hi]
    have hm := (h.2.2.2 k (by omega)).2 i hi
    have := absI_bound hm.1 hm.2
    omega
theorem hiTo_bound {lc : List Int} {lm : List (List Int)} (h : LoopOk lc lm) (k : Nat) (hk : k ≤ lm.length) : -1000 * (k + 1 : Int) ≤ hiTo lc lm k ∧ hiTo lc lm k ≤ 1000 := by
  induction k with
  | zero => have := h.2.1 0; simp only [hiTo]; omega
  | succ k ih =>
    have ih2 := ih (by omega)
    rw [hiTo]
    have hm := (h.2.2.2 k (by omega)).2 0 (by have := h.1; omega)
    have := min0_bound (b := 100) (by omega) hm.1
    omega
theorem loopOk_of {lc : List Int} {lm : List (List Int)} (h0 : Sp.polyErr lc = 0) (h1 : lm.length ≤ 6) (h2 : (firstBad (rowAt lc lm) 0 lm.length).2 = 0) : LoopOk lc lm := by
  obtain ⟨a, b, c, -⟩ := polyErr_zero h0
  exact ⟨⟨a, b⟩, c, h1, fun m hm => rowErr_zero (firstBad_zero h2 m (by omega) (by omega))⟩
theorem min2_0 (k : IntKind) (x : Int) : Builtin.min2 (.int .i64 0) (.int k x) = pure (.int .i64 (min0 x)) := min2_int .i64 k 0 x
attribute [local go_sem] min2_0 in
set_option maxHeartbeats 8000000 in
set_option maxRecDepth 100000 in
theorem governor_CheckLoop.calls (A0 : Option Addr) (c0 : Nat) (l0 : List Int) (A1 : Option Addr) (c1 : Nat) (l1 : List (List Int)) (r1 r2 : Int) (w : World) (hr0 : Kd.C (Kd.int .i64) w A0 l0.length l0) (hc0 : l0.length ≤ c0) (hr1 : Kd.C (Kd.slice 3 (Kd.int .i64)) w A1 l1.length l1) (_hc1 : l1.length ≤ c1) (h : governor_CheckLoop.f l0 l1 = some (r1, r2)) :
    Calls Try.prog 42 #[.agg #[.slice A0 l0.length c0, .slice A1 l1.length c1]] w fun e w' => e = .returned (.tuple #[.int .i64 r1, .int .i64 r2]) ∧ Below w.heap.size w w' := by
  obtain ⟨pe, hpe⟩ : ∃ pe, pe = Sp.polyErr l0 := ⟨_, rfl⟩
  have HPE := Lib.hid hpe
  obtain ⟨u, hu⟩ : ∃ u : Int, u = if l1.length ≤ 6 then 0 else 8 := ⟨_, rfl⟩
  have HU := Lib.hid hu
  obtain ⟨v, hv⟩ : ∃ v : Int, v = if pe = 0 then u else pe := ⟨_, rfl⟩
  have HV := Lib.hid hv
  have hh : loopErr l0 l1 = (r1, r2) := Option.some.inj h
  have HH := Lib.hid hh
  have HR0 := Lib.hid hr0
  have HR1 := Lib.hid hr1
  have hbig : l1.length ≤ 9223372036854775807 := hr1.2.1
  clear hu hv h hh hpe hr0 hr1
  go_enter Try.func42, Try.ntmps42
  go_upto_region 1 with fail
  have hb1 : Below w.heap.size w (w.alloc (Obj.cells #[Value.slice A0 l0.length c0, Value.slice A1 l1.length c1] 33)) := bl_alloc (Below.refl _ _) _
  have hc1 : (w.alloc (Obj.cells #[Value.slice A0 l0.length c0, Value.slice A1 l1.length c1] 33)).cell? ⟨w.heap.size, 0, none⟩ = some (Value.slice A0 l0.length c0) := by simp
  have hc2 : (w.alloc (Obj.cells #[Value.slice A0 l0.length c0, Value.slice A1 l1.length c1] 33)).cell? ⟨w.heap.size, 1, none⟩ = some (Value.slice A1 l1.length c1) := by simp
  generalize (w.alloc (Obj.cells #[Value.slice A0 l0.length c0, Value.slice A1 l1.length c1] 33)) = W1 at hb1 hc1 hc2 ⊢
  have HB1 := Lib.hid hb1
  have HC1 := Lib.hid hc1
  have HC2 := Lib.hid hc2
  clear hb1
  go_cut [4] (fun s4 wx => s4 = .int .i64 v ∧ Below W1.heap.size W1 wx)
  case first =>
    as_aux_lemma =>
      go_region_with (first
        | (go_at_call 33; refine (governor_CheckPolynomial.calls _ _ l0 pe _ (Kd.C_below HR0.out (by repeat (first | exact HB1.out | apply bl_alloc | apply bl_drew))) hc0 (by rw [HPE.out]; rfl)).mono ?_; rintro e w1 ⟨rfl, hb1⟩; have hcell := pw_cell_below (bl_next (by repeat (first | exact Below.refl _ _ | apply bl_alloc | apply bl_drew)) hb1 : Below W1.heap.size W1 w1) HC1.out; have hcell2 := pw_cell_below (bl_next (by repeat (first | exact Below.refl _ _ | apply bl_alloc | apply bl_drew)) hb1 : Below W1.heap.size W1 w1) HC2.out; have hbb : Below W1.heap.size W1 w1 := bl_next (by repeat (first | exact Below.refl _ _ | apply bl_alloc | apply bl_drew)) hb1; clear hb1)
        | (go_at_call 49; refine (unless_call _ _ u _ (by rw [HU.out]; by_cases q : l1.length ≤ 6 <;> simp [q] <;> omega)).mono ?_; rintro e w2 ⟨rfl, ⟨n2, rfl⟩⟩)
        | (go_at_call 48; refine (first_lit2 _ _ _ _ _ HV.out).mono ?_; rintro e w3 ⟨rfl, hd⟩))
      all_goals (go_wp2_with fail; go_meet; refine ⟨rfl, bl_drawn (bl_alloc (bl_drewN hbb _) _) hd⟩)
  case rest =>
    obtain ⟨rfl, hb⟩ := hcut
    have HB := Lib.hid hb
    have k1 := pw_cell_below hb hc1
    have k2 := pw_cell_below hb hc2
    clear hb hc1 hc2
    by_cases hz : v = 0
    · have hpe0 : pe = 0 := by
        have := HV.out
        by_cases h0 : pe = 0
        · exact h0
        · rw [if_neg h0] at this; omega
      have hu0 : u = 0 := by have := HV.out; rw [if_pos hpe0] at this; omega
      have hlen : l1.length ≤ 6 := by
        have := HU.out
        by_cases h0 : l1.length ≤ 6
        · exact h0
        · rw [if_neg h0] at this; omega
      have hpz : Sp.polyErr l0 = 0 := by rw [← HPE.out]; exact hpe0
      have hh := HH.out
      unfold loopErr at hh
      rw [if_pos hpz, if_pos hlen] at hh
      obtain ⟨ix, er, hfb⟩ : ∃ ix er, firstBad (rowAt l0 l1) 0 l1.length = (ix, er) := ⟨_, _, rfl⟩
      rw [hfb] at hh
      have HFB := Lib.hid hfb
      have HH2 := Lib.hid hh
      have HPZ := Lib.hid hpz
      clear hh hfb hpz hu0 hpe0 HH HPE HU HV
      subst hz
      obtain ⟨B, C, hBC⟩ := rows_fns HR1.out
      have HBC := Lib.hid hBC
      clear hBC
      go_wp2_with fail
      refine (each_rows 78 #[.pointer (some ⟨w.heap.size, 0, none⟩)] (enters_of Try.func78 (by kernel_rfl) rfl) (rowAt l0 l1) A1 l1.length c1 B (fun k => (l1.getD k []).length) C _ ?cells (by omega) ?chk).mono ?_
      case cells =>
        intro k hk
        obtain ⟨ad, hA, hc⟩ := (HBC.out k hk).1
        exact ⟨ad, hA, pw_cell_below (bl_next HB1.out HB.out) hc⟩
      case chk =>
        intro W i hi hbW
        exact loop_row i (B i) (C i) (l1.getD i []) A0 l0.length c0 w.heap.size W (Kd.C_below (HBC.out i hi).2.2 (bl_next (bl_next HB1.out HB.out) hbW)) (HBC.out i hi).2.2.2.1 (pw_cell_below (bl_next HB.out hbW) HC1.out) _ rfl
      rintro e w2 ⟨rfl, hb2⟩
      rw [HFB.out]
      have HB2 := Lib.hid (bl_next HB.out hb2)
      have kc1 := pw_cell_below HB2.out HC1.out
      have kc2 := pw_cell_below HB2.out HC2.out
      clear k1 k2 hb2 HB
      by_cases he : er = 0
      · subst he
        have hok := loopOk_of HPZ.out hlen (by rw [HFB.out])
        have hh := HH2.out
        rw [if_pos rfl] at hh
        have HH3 := Lib.hid hh
        have HOK := Lib.hid hok
        clear hh hok HH2
        obtain ⟨ad0, e0, hx0⟩ := Kd.at_int HR0.out (0 : Int) (by omega) (by have := HOK.out.1; omega)
        subst e0
        rw [show ((0 : Int)).toNat = 0 from rfl, Addr.add_zero'] at hx0
        have hx0 : w.cell? ad0 = some (.int .i64 (hiTo l0 l1 0)) := hx0
        have kx0 := pw_cell_below (bl_next HB1.out HB2.out) hx0
        have hl05 := HOK.out.1
        clear hx0
        go_upto_region 9 with (first | ((with_reducible refine gate_dst (N := 46) rfl ?_); refine Kd.R_make (Kd.int .i64) (w0 := W1) W1.heap.size 3 rfl (N := 46) rfl 22 _ _ rfl (l0.length : Int) rfl rfl Try.underlying22 (.int .i64 0) 8 Q.info3 rfl (by decide) (by omega) 0 (ok := fun _ => True) (okp := fun _ => True) rfl (fun _ hk => hk) trivial (by omega) (by omega) HB2.out HB2.out.size ?_; intro v1 w3 ho hb hg hnew))
        have ho1 : Kd.R (Kd.int .i64) 3 w3 W1.heap.size (fun _ => True) v1 (absTo l0 0) := by simpa [absTo] using ho
        obtain ⟨g, cap, rfl, hgb, -⟩ := Kd.R_form ho1 (by rw [absTo_len]; omega)
        rw [absTo_len] at ho1
        rw [absTo_len]
        have HO1 := Lib.hid ho1
        have HB3 := Lib.hid hb
        have HGB := Lib.hid hgb
        have k3 := pw_cell_below hb HC1.out
        clear ho ho1 hg hnew hb hgb kc1 kc2
        go_wp2_with fail
        clear k3 kx0
        go_loopw [50] (fun i wr => ∃ (j : Nat), j ≤ l0.length ∧ i = .int .i64 (j : Nat) ∧ Hid (Kd.R (Kd.int .i64) 3 wr W1.heap.size (fun _ => True) (.slice (some ⟨g, 0, none⟩) l0.length cap) (absTo l0 j)) ∧ Hid (Below W1.heap.size W1 wr))
          (fun i _ => l0.length - (intOf i).toNat)
        case atStart => exact ⟨0, by omega, rfl, HO1, HB3⟩
        case round =>
          as_aux_lemma =>
            obtain ⟨j, hj, rfl, HS, HB⟩ := hrel
            by_cases hjl : j < l0.length
            · obtain ⟨ad', e0, hx⟩ := Kd.at_int HR0.out (j : Int) (by omega) (by omega)
              injection e0 with e0
              subst e0
              rw [rd_nat, Int.toNat_natCast] at hx
              have kx := pw_cell_below (bl_next HB1.out HB.out) hx
              obtain ⟨x, hx2⟩ : ∃ x, x = l0.getD j 0 := ⟨_, rfl⟩
              have hxb := HOK.out.2.1 j
              have hst : absTo l0 (j + 1) = (absTo l0 j).set j (absI (l0.getD j 0)) := rfl
              rw [← hx2] at kx hxb hst
              have HST := Lib.hid hst
              have HXB := Lib.hid hxb
              clear hx hx2 hst hxb
              go_wp2_with fail
              refine (Q.governor_size.calls x (absI x) _ (size_eval _ (by have := HXB.out; omega) (by have := HXB.out; omega))).mono ?_
              rintro e w4 ⟨rfl, hd⟩
              have hS4 := Kd.R_below HS.out hd
              have HB4 := Lib.hid (bl_next HB.out hd)
              obtain ⟨hy, hf⟩ := Kd.R_celln (0 : Int) hS4 (j : Int) (by omega) (by omega)
              rw [Int.toNat_natCast] at hy hf
              have hP := Kd.R_putn hS4 (j : Int) (absI x)
              rw [Int.toNat_natCast, ← HST.out] at hP
              have HP := Lib.hid hP
              have HBP := Lib.hid (HB4.out.setCell (p := ⟨g, j, none⟩) HGB.out (.int .i64 (absI x)))
              clear hS4 hP hd
              go_wp2_with fail
              exact ⟨⟨j + 1, by omega, by go_num, HP, HBP⟩, by simp [intOf]; omega⟩
            · have hjm : j = l0.length := by omega
              have hst : absTo l0 j = szTo l0 l1 0 := by rw [hjm]; rfl
              rw [hst] at HS
              have k2 := pw_cell_below HB.out HC2.out
              clear hjm hst
              go_wp2_with fail
              clear k2
              go_loopw [7, 64] (fun hi i wr => ∃ (k : Nat), k ≤ l1.length ∧ i = .int .i64 (k : Nat) ∧ hi = .int .i64 (hiTo l0 l1 k) ∧ Hid (Kd.R (Kd.int .i64) 3 wr W1.heap.size (fun _ => True) (.slice (some ⟨g, 0, none⟩) l0.length cap) (szTo l0 l1 k)) ∧ Hid (Below W1.heap.size W1 wr))
                (fun _ i _ => l1.length - (intOf i).toNat)
              case atStart => exact ⟨0, by omega, rfl, rfl, HS, HB⟩
              case round =>
                as_aux_lemma =>
                  obtain ⟨k, hk, rfl, rfl, HS, HB⟩ := hrel
                  by_cases hlt : k < l1.length
                  · have hbw : Below w.heap.size w wr := bl_next HB1.out HB.out
                    obtain ⟨⟨ad1, rfl, hm⟩, -, hC⟩ := HBC.out k hlt
                    obtain ⟨hml, hmb⟩ := HOK.out.2.2.2 k hlt
                    obtain ⟨m, hmm⟩ : ∃ m, m = l1.getD k [] := ⟨_, rfl⟩
                    rw [← hmm] at hm hC hml hmb
                    have km := pw_cell_below hbw hm
                    obtain ⟨Bk, hBk⟩ : ∃ b, b = B k := ⟨_, rfl⟩
                    obtain ⟨Ck, hCk⟩ : ∃ b, b = C k := ⟨_, rfl⟩
                    rw [← hBk, ← hCk] at km
                    rw [← hBk] at hC
                    obtain ⟨ad, rfl, hx0⟩ := Kd.at_int hC (0 : Int) (by omega) (by omega)
                    rw [show ((0 : Int)).toNat = 0 from rfl, Addr.add_zero'] at hx0
                    have hx0 : w.cell? ad = some (.int .i64 (m.getD 0 0)) := hx0
                    have kx0 := pw_cell_below hbw hx0
                    obtain ⟨x0, hx02⟩ : ∃ x0, x0 = m.getD 0 0 := ⟨_, rfl⟩
                    have hx0b := hmb 0 (by omega)
                    have hst : hiTo l0 l1 (k + 1) = hiTo l0 l1 k + min0 (m.getD 0 0) := by rw [hiTo, hmm]
                    have hhb := hiTo_bound HOK.out k hk
                    rw [← hx02] at kx0 hx0b hst
                    obtain ⟨h0, hh0⟩ : ∃ h, h = hiTo l0 l1 k := ⟨_, rfl⟩
                    rw [← hh0] at hst hhb
                    rw [← hh0]
                    have hmn := min0_bound (b := 100) (by omega) hx0b.1
                    have hw : IntKind.i64.wrap (h0 + min0 x0) = h0 + min0 x0 := by rw [i64_w]; exact w64 (by omega) (by omega)
                    obtain ⟨S, hS⟩ : ∃ S, S = szTo l0 l1 k := ⟨_, rfl⟩
                    have hs0 := HS.out
                    rw [← hS] at hs0
                    have hSl : S.length = l0.length := by rw [hS, szTo_len]
                    have hSb : ∀ i, i < l0.length → 0 ≤ S.getD i 0 ∧ S.getD i 0 ≤ 10000 := by
                      intro i hi
                      have := szTo_bound HOK.out k hk i hi
                      rw [← hS] at this
                      omega
                    have HS2 := Lib.hid hs0
                    have HSL := Lib.hid hSl
                    have HSB := Lib.hid hSb
                    have HSE := Lib.hid hS
                    have HMM := Lib.hid hmm
                    have HMB := Lib.hid hmb
                    have HST := Lib.hid hst
                    have HCM := Lib.hid hC
                    have hm0 : (0 : Int) < (m.length : Int) := by omega
                    clear hm hC hmm hmb hx0 hx02 hst hh0 hBk hCk hs0 hSl hSb hS HS hbw
                    obtain ⟨h1, hh1⟩ : ∃ h, h = hiTo l0 l1 (k + 1) := ⟨_, rfl⟩
                    have hhw : h1 = h0 + min0 x0 := by rw [hh1]; exact HST.out
                    have HH1 := Lib.hid hh1
                    have HHW := Lib.hid hhw
                    clear hh1 hhw hw hmn
                    go_upto_region 17 with fail
                    go_cut [7] (fun s7 wx => s7 = .int .i64 h1 ∧ wx = wr)
                    case first =>
                      go_wp2_with fail
                      all_goals (go_meet; refine ⟨?_, rfl⟩)
                      all_goals (rw [HHW.out, min0]; first | (rw [if_pos (by omega)]; done) | (rw [if_neg (by omega)]; first | done | rw [Int.add_zero]))
                    case rest =>
                      obtain ⟨rfl, rfl⟩ := hcut
                      have HML := Lib.hid hml
                      clear hml hm0
                      go_wp2_with fail
                      clear km kx0
                      go_loopw [76] (fun i wr => ∃ (j : Nat), j ≤ l0.length ∧ i = .int .i64 (j : Nat) ∧ Hid (Kd.R (Kd.int .i64) 3 wr W1.heap.size (fun _ => True) (.slice (some ⟨g, 0, none⟩) l0.length cap) (addAbs S m j)) ∧ Hid (Below W1.heap.size W1 wr))
                        (fun i _ => l0.length - (intOf i).toNat)
                      case atStart => exact ⟨0, by omega, rfl, HS2, HB⟩
                      case round =>
                        as_aux_lemma =>
                          obtain ⟨j, hj, rfl, HS, HB⟩ := hrel
                          by_cases hjl : j < l0.length
                          · have hbw : Below w.heap.size w wr := bl_next HB1.out HB.out
                            obtain ⟨ad', e0, hx⟩ := Kd.at_int HCM.out (j : Int) (by omega) (by have := HML.out; omega)
                            injection e0 with e0
                            subst e0
                            rw [rd_nat, Int.toNat_natCast] at hx
                            have kx := pw_cell_below hbw hx
                            obtain ⟨x, hx2⟩ : ∃ x, x = m.getD j 0 := ⟨_, rfl⟩
                            obtain ⟨y, hy2⟩ : ∃ y, y = (addAbs S m j).getD j 0 := ⟨_, rfl⟩
                            have hxb := HMB.out j hjl
                            have hyb := HSB.out j hjl
                            have hye : y = S.getD j 0 := by rw [hy2, addAbs_get _ _ _ _ (by rw [HSL.out]; omega) (by rw [HSL.out]; exact hjl), if_neg (by omega)]; omega
                            have hst : addAbs S m (j + 1) = (addAbs S m j).set j (y + absI x) := by rw [addAbs, ← hx2, ← hy2]
                            rw [← hye] at hyb
                            rw [← hx2] at kx hxb
                            have hab := absI_bound (b := 100) hxb.1 hxb.2
                            obtain ⟨hy, hf⟩ := Kd.R_celln (0 : Int) HS.out (j : Int) (by omega) (by omega)
                            rw [Int.toNat_natCast, show rdOf (0 : Int) (addAbs S m j) (j : Int) = y by rw [hy2]; rfl] at hy
                            rw [Int.toNat_natCast] at hf
                            have HST := Lib.hid hst
                            have HXB := Lib.hid hxb
                            have HRD := Lib.hid (show rdOf (0 : Int) (addAbs S m j) (j : Int) = y by rw [hy2]; rfl)
                            have HW := Lib.hid (show IntKind.i64.wrap (y + absI x) = y + absI x by rw [i64_w]; exact w64 (by omega) (by omega))
                            clear hx hx2 hy2 hxb hye hst hbw
                            go_wp2_with fail
                            go_region_with (go_at_call 64; refine (Q.governor_size.calls x (absI x) _ (size_eval _ (by have := HXB.out; omega) (by have := HXB.out; omega))).mono ?_; rintro e w4 ⟨rfl, hd⟩; have hS4 := Kd.R_below (Kd.R_drew HS.out) hd; have HB4 := Lib.hid (bl_next (bl_drew HB.out) hd); obtain ⟨hy4, hf4⟩ := Kd.R_celln (0 : Int) hS4 (j : Int) (by omega) (by omega); rw [Int.toNat_natCast] at hy4 hf4)
                            all_goals
                              try rw [HRD.out]
                              rw [HW.out]
                              have hP := Kd.R_putn hS4 (j : Int) (y + absI x)
                              rw [Int.toNat_natCast, ← HST.out] at hP
                              have HP := Lib.hid hP
                              have HBP := Lib.hid (HB4.out.setCell (p := ⟨g, j, none⟩) HGB.out (.int .i64 (y + absI x)))
                              clear hS4 hP hy4 hf4 hy hf hd
                              go_wp2_with fail
                              exact ⟨⟨j + 1, by omega, by go_num, HP, HBP⟩, by simp [intOf]; omega⟩
                          · have hjm : j = l0.length := by omega
                            have hst : addAbs S m j = szTo l0 l1 (k + 1) := by rw [szTo, hjm, HSE.out, HMM.out]
                            rw [hst] at HS
                            clear hjm hst
                            go_wp2_with fail
                            exact ⟨⟨k + 1, by omega, by go_num, by rw [HH1.out], HS, HB⟩, by simp [intOf]; omega⟩
                  · have hkl : k = l1.length := by omega
                    obtain ⟨H, hH⟩ : ∃ H, H = hiTo l0 l1 k := ⟨_, rfl⟩
                    rw [← hH]
                    rw [hkl] at hH HS
                    have HHE := Lib.hid hH
                    have hne : 0 < (szTo l0 l1 l1.length).length := by rw [szTo_len]; omega
                    obtain ⟨M, hM⟩ : ∃ M, M = maxTo (szTo l0 l1 l1.length) (l0.length - 1) := ⟨_, rfl⟩
                    have HME := Lib.hid hM
                    obtain ⟨a, ha⟩ : ∃ a : Int, a = if 0 < H then 0 else 3 := ⟨_, rfl⟩
                    obtain ⟨b, hb⟩ : ∃ b : Int, b = if M ≤ 1000 then 0 else 8 := ⟨_, rfl⟩
                    have HA := Lib.hid ha
                    have HBb := Lib.hid hb
                    have hr : r1 = 0 ∧ r2 = if a = 0 then b else a := by
                      have := HH3.out
                      rw [← HHE.out, ← HME.out] at this
                      injection this with h1 h2
                      refine ⟨h1.symm, ?_⟩
                      rw [← h2, HA.out, HBb.out]
                      by_cases q : 0 < H
                      · rw [if_pos q, if_pos q, if_pos rfl]
                      · rw [if_neg q, if_neg q, if_neg (by decide)]
                    obtain ⟨rfl, hr2⟩ := hr
                    have HR2 := Lib.hid hr2
                    have HRd := Lib.hid (Kd.R_reads' HS.out)
                    clear hkl hH hM ha hb hr2
                    go_wp2_with fail
                    refine (unless_call _ _ a _ (by rw [HA.out]; simp)).mono ?_
                    rintro e wa ⟨rfl, hda⟩
                    go_wp2_with fail
                    have hmx := max_ints ⟨g, 0, none⟩ cap (szTo l0 l1 l1.length) wa (Kd.C_below HRd.out.2.2 hda.below) hne (by rw [szTo_len]; omega)
                    rw [szTo_len, ← HME.out] at hmx
                    refine hmx.mono ?_
                    rintro e wb ⟨rfl, hdb⟩
                    go_wp2_with fail
                    refine (unless_call _ _ b _ (by rw [HBb.out]; simp)).mono ?_
                    rintro e wc ⟨rfl, hdc⟩
                    go_wp2_with fail
                    refine (first_lit2 _ _ _ _ r2 HR2.out).mono ?_
                    rintro e wd ⟨rfl, hdd⟩
                    go_wp2_with fail
                    go_ret2
                    exact ⟨rfl, bl_drawn (bl_alloc (bl_drawn (bl_next (bl_drawn (bl_next HB1.out HB.out) hda) hdb) hdc) _) hdd⟩
      · have hh := HH2.out
        rw [if_neg he] at hh
        obtain ⟨rfl, rfl⟩ : ix = r1 ∧ er = r2 := by injection hh with h1 h2; exact ⟨h1, h2⟩
        have hne : (er == 0) = false := by simpa using he
        have hne2 : (er != 0) = true := by simpa using he
        clear hh HH2 he
        go_wp2_with fail
        go_ret2
        exact ⟨rfl, bl_next HB1.out HB2.out⟩
    · have hr : (0 : Int) = r1 ∧ v = r2 := by
        have hh := HH.out
        unfold loopErr at hh
        have h1 := HV.out
        by_cases h0 : Sp.polyErr l0 = 0
        · rw [HPE.out, if_pos h0] at h1
          have h2 : ¬ l1.length ≤ 6 := fun h2 => by have := HU.out; rw [if_pos h2] at this; omega
          rw [if_pos h0, if_neg h2] at hh
          have h3 := HU.out
          rw [if_neg h2] at h3
          injection hh with h4 h5
          exact ⟨h4, by omega⟩
        · rw [HPE.out, if_neg h0] at h1
          rw [if_neg h0] at hh
          injection hh with h4 h5
          exact ⟨h4, by omega⟩
      obtain ⟨rfl, rfl⟩ := hr
      have hne : (v == 0) = false := by simpa using hz
      have hne2 : (v != 0) = true := by simpa using hz
      clear hz HH HV HU HPE
      go_wp2_with fail
      go_ret2
      exact ⟨rfl, bl_next HB1.out HB.out⟩
end Go.Proofs.Ytmpondcccbmlhaa.Ext
