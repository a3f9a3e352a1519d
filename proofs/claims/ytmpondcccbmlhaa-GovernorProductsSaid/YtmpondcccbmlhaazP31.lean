/- A part of the claim P: the texts ExQ, without what the claim does not lean on. -/
import Derived.ArgAppend
import Derived.Below
import Derived.BigQuiet
import Derived.Deep.AppendLies
import Derived.Deep.CutBlock
import Derived.Deep.DeepCutAuto
import Derived.Deep.Draws
import Derived.Deep.LoopGhost
import Derived.Deep.OwnRows
import Derived.Deep.QuietTactic
import Derived.Deep.RegionHeld3
import Derived.Deep.RegionWith
import Derived.KernelRfl
import Derived.Laws.BitsLemmas
import Derived.Laws.BytesArg
import Derived.Laws.ComplexArith
import Derived.Laws.IdiomCopy
import Derived.Laws.MakeOwn
import Derived.Laws.OwnMore
import Derived.Laws.Rows
import Derived.Laws.Slices
import Derived.Laws.StructEq
import Derived.Lib.AppendStr
import Derived.Lib.ConvBytes
import Derived.Lib.Hide
import Derived.Maps.AppendAt
import Derived.OrdersHeld
import Derived.Outline
import Derived.OwnWalk
import Derived.RowKit
import Derived.RowKit3
import Derived.Shelf.Abstract
import Derived.Tactics
import Derived.WalkKit
import Derived.WalkLawsBesides
import Derived.WideLaws
import Derived.Test.YtmpondcccbmlhaaProg
import Derived.Test.YtmpondcccbmlhaazP0
import Derived.Test.YtmpondcccbmlhaazP1
import Derived.Test.YtmpondcccbmlhaazP2
import Derived.Test.YtmpondcccbmlhaazP3
import Derived.Test.YtmpondcccbmlhaazP4
import Derived.Test.YtmpondcccbmlhaazP5
import Derived.Test.YtmpondcccbmlhaazP6
import Derived.Test.YtmpondcccbmlhaazP7
import Derived.Test.YtmpondcccbmlhaazP8
import Derived.Test.YtmpondcccbmlhaazP9
import Derived.Test.YtmpondcccbmlhaazP17
import Derived.Test.YtmpondcccbmlhaazP18
import Derived.Test.YtmpondcccbmlhaazP29
import Derived.Test.YtmpondcccbmlhaazP30
namespace Go.Proofs.Ytmpondcccbmlhaa.Ext
open Go.RowKit Go.Shelf Go.Deep Go.Proofs.YtmpondcccbmlhaaW.PrintWords Go.Proofs.YtmpondcccbmlhaaW.PrintLast Go.Proofs.YtmpondcccbmlhaaW.PrintMore
def governor_QuadrantsOf.f (p g : List Int) : Option (List Int × Int) :=
  some (if Sp.polyErr p = 0 then (if Sp.gridErr g = 0 then ((Sp.quads p g).elim ([], 11) fun q => (q, 0)) else ([], Sp.gridErr g)) else ([], Sp.polyErr p))
theorem firstBad_grid (l : List Int) : ∀ (d i : Nat), i + d = l.length → (firstBad (gridChk l) i d).2 = Sp.freqsErr (if i = 0 then none else some (l.getD (i - 1) 0)) (l.drop i) := by
  intro d
  induction d with
  | zero => intro i h; rw [show i = l.length by omega, List.drop_length]; rfl
  | succ d ih =>
    intro i h
    rw [drop_getD l i (by omega)]
    simp only [Sp.freqsErr]
    by_cases hf : Sp.freqErr (l.getD i 0) = 0
    · rw [if_pos hf]
      by_cases hb : i = 0 ∨ l.getD (i - 1) 0 < l.getD i 0
      · have hz : gridChk l i = 0 := by unfold gridChk; rw [if_pos hf, if_pos hb]
        have he : Option.elim (if i = 0 then none else some (l.getD (i - 1) 0)) true (fun b => decide (b < l.getD i 0)) = true := by
          by_cases h0 : i = 0
          · rw [if_pos h0]; rfl
          · rw [if_neg h0]; simpa using hb.resolve_left h0
        rw [firstBad_skip _ _ _ hz, ih (i + 1) (by omega), if_pos he, if_neg (by omega), Nat.add_sub_cancel]
      · have hz : gridChk l i = 9 := by unfold gridChk; rw [if_pos hf, if_neg hb]
        have he : ¬ Option.elim (if i = 0 then none else some (l.getD (i - 1) 0)) true (fun b => decide (b < l.getD i 0)) = true := by
          have h0 : ¬ i = 0 := fun h => hb (.inl h)
          rw [if_neg h0]
          simpa using fun h => hb (.inr h)
        rw [firstBad_hit _ _ _ (by rw [hz]; decide), if_neg he, hz]
    · rw [if_neg hf]
      have hz : gridChk l i = Sp.freqErr (l.getD i 0) := by unfold gridChk; rw [if_neg hf]
      rw [firstBad_hit _ _ _ (by rw [hz]; exact hf), hz]
theorem firstBad_gridErr (l : List Int) : (firstBad (gridChk l) 0 l.length).2 = Sp.freqsErr none l := by
  rw [firstBad_grid l l.length 0 (by omega), List.drop_zero, if_pos rfl]
theorem freqsErr_zero : ∀ (l : List Int) (b : Option Int), Sp.freqsErr b l = 0 → ∀ j, j < l.length → Sp.freqErr (l.getD j 0) = 0 := by
  intro l
  induction l with
  | nil => intro b _ j hj; simp at hj
  | cons x l ih =>
    intro b h j hj
    simp only [Sp.freqsErr] at h
    by_cases h1 : Sp.freqErr x = 0
    · rw [if_pos h1] at h
      by_cases h2 : b.elim true (fun b => decide (b < x)) = true
      · rw [if_pos h2] at h
        cases j with
        | zero => exact h1
        | succ j => exact ih _ h j (by simpa using hj)
      · rw [if_neg h2] at h; omega
    · rw [if_neg h1] at h; exact absurd h h1
theorem valFrom_bound (w : Int) (h0 : 0 ≤ w) (h1 : w ≤ 1000) : ∀ (l : List Int) (j : Nat) (v : Int × Int), (∀ i, -1000 ≤ l.getD i 0 ∧ l.getD i 0 ≤ 1000) → v.1.natAbs ≤ Mb j → v.2.natAbs ≤ Mb j →
    (Sp.valFrom w l v).1.natAbs ≤ Mb (l.length + j) ∧ (Sp.valFrom w l v).2.natAbs ≤ Mb (l.length + j) := by
  intro l
  induction l with
  | nil => intro j v _ a b; simp only [Sp.valFrom, List.length_nil, Nat.zero_add]; exact ⟨a, b⟩
  | cons x l ih =>
    intro j v hc a b
    have k1 := abs_mul_le a h0 h1
    have k2 := abs_mul_le b h0 h1
    have hx := hc 0
    rw [List.getD_cons_zero] at hx
    have e1 : Mb (j + 1) = 1000 * Mb j + 1000 := rfl
    have := ih (j + 1) (x - v.2 * w, v.1 * w) (fun i => by have := hc (i + 1); rwa [List.getD_cons_succ] at this) (by rw [e1]; show (x - v.2 * w).natAbs ≤ _; omega) (by rw [e1]; show (v.1 * w).natAbs ≤ _; omega)
    rw [List.length_cons, show l.length + 1 + j = l.length + (j + 1) by omega]
    exact this
theorem val_bound {p : List Int} {w : Int} (hp : Sp.polyErr p = 0) (hw : Sp.freqErr w = 0) : (Sp.val p w).1.natAbs ≤ 1001001001001000 ∧ (Sp.val p w).2.natAbs ≤ 1001001001001000 := by
  obtain ⟨h2, h5, hc, -⟩ := polyErr_zero hp
  obtain ⟨h0, h1⟩ := freqErr_zero hw
  have := valFrom_bound w h0 h1 p 0 (0, 0) hc (by decide) (by decide)
  have hM := Mb_le (p.length + 0) (by omega)
  exact ⟨Nat.le_trans this.1 hM, Nat.le_trans this.2 hM⟩
theorem quadrant_loop (x a b : Int) (k : Nat) (hx : 0 ≤ x ∧ x ≤ 10) (ha : -9000000000000000000 ≤ a ∧ a ≤ 9000000000000000000) (_hb : -9000000000000000000 ≤ b ∧ b ≤ 9000000000000000000) :
    Q.governor_quadrant.l0 (k + 1) x a b = if 0 < a ∧ 0 ≤ b then some x else Q.governor_quadrant.l0 k (x + 1) b (-a) := by
  simp only [Q.governor_quadrant.l0]
  rw [w64 (by omega) (by omega), w64 (by omega) (by omega)]
  by_cases h1 : a > 0
  · rw [if_pos h1]
    by_cases h2 : b ≥ 0
    · rw [if_pos h2, if_pos ⟨h1, h2⟩]
    · rw [if_neg h2, if_neg (fun h => h2 h.2)]
  · rw [if_neg h1, if_neg (fun h => h1 h.1)]
theorem quadrant_eval (a b : Int) (ha : a.natAbs ≤ 1001001001001000) (hb : b.natAbs ≤ 1001001001001000) (hz : ¬ (a = 0 ∧ b = 0)) : Q.governor_quadrant.f 5 a b = some (Sp.quad (a, b)) := by
  unfold Q.governor_quadrant.f Sp.quad
  dsimp only
  rw [quadrant_loop 0 a b 4 (by omega) (by omega) (by omega), quadrant_loop _ b (-a) 3 (by omega) (by omega) (by omega), quadrant_loop _ (-a) (-b) 2 (by omega) (by omega) (by omega), quadrant_loop _ (-b) (- -a) 1 (by omega) (by omega) (by omega)]
  by_cases h1 : 0 < a ∧ 0 ≤ b
  · rw [if_pos h1, if_pos h1]
  · rw [if_neg h1, if_neg h1]
    by_cases h2 : a ≤ 0 ∧ 0 < b
    · rw [if_pos h2, if_pos (by omega)]; rfl
    · rw [if_neg h2, if_neg (by omega)]
      by_cases h3 : a < 0 ∧ b ≤ 0
      · rw [if_pos h3, if_pos (by omega)]; rfl
      · rw [if_neg h3, if_neg (by omega), if_pos (by omega)]; rfl
theorem quads_step (p l : List Int) (k : Nat) (h : k < l.length) (qs : List Int) (hq : Sp.quads p l = (Sp.quads p (l.drop k)).map (qs ++ ·)) :
    (Sp.val p (l.getD k 0) = (0, 0) → Sp.quads p l = none) ∧ (¬ Sp.val p (l.getD k 0) = (0, 0) → Sp.quads p l = (Sp.quads p (l.drop (k + 1))).map ((qs ++ [Sp.quad (Sp.val p (l.getD k 0))]) ++ ·)) := by
  rw [drop_getD l k h] at hq
  constructor
  · intro hz
    rw [hq]
    simp only [Sp.quads]
    rw [if_pos hz]; rfl
  · intro hz
    rw [hq]
    simp only [Sp.quads]
    rw [if_neg hz, Option.map_map]
    congr 1
    funext z
    simp
attribute [local go_sem high] eq_gauss
set_option maxHeartbeats 4000000 in
theorem governor_QuadrantsOf.calls (A0 : Option Addr) (c0 : Nat) (l0 : List Int) (A1 : Option Addr) (c1 : Nat) (l1 : List Int) (r1 : List Int) (r2 : Int) (w : World) (hr0 : Kd.C (Kd.int .i64) w A0 l0.length l0) (hc0 : l0.length ≤ c0) (hr1 : Kd.C (Kd.int .i64) w A1 l1.length l1) (_hc1 : l1.length ≤ c1) (h : governor_QuadrantsOf.f l0 l1 = some (r1, r2)) :
    Calls Try.prog 21 #[.slice A0 l0.length c0, .slice A1 l1.length c1] w fun e w' => ∃ v0_ : Value, e = .returned (.tuple #[v0_, .int .i64 r2]) ∧ Kd.R (Kd.int .i64) 3 w' w.heap.size (fun _ => True) v0_ r1 ∧ Below w.heap.size w w' := by
  obtain ⟨pe, hpe⟩ : ∃ pe, pe = Sp.polyErr l0 := ⟨_, rfl⟩
  have HPE := Lib.hid hpe
  obtain ⟨u, hu⟩ : ∃ u : Int, u = if decide ((l1.length : Int) ≤ 20) = true then 0 else 8 := ⟨_, rfl⟩
  have HU := Lib.hid hu
  obtain ⟨v, hv⟩ : ∃ v : Int, v = if pe = 0 then u else pe := ⟨_, rfl⟩
  have HV := Lib.hid hv
  have HH := Lib.hid h
  have HR0 := Lib.hid hr0
  have HR1 := Lib.hid hr1
  clear hu hv h hpe hr0 hr1
  go_enter Try.func21, Try.ntmps21
  go_upto_region 1 with fail
  go_cut [6] (fun s6 wx => s6 = .int .i64 v ∧ wx.cell? ⟨w.heap.size, 0, none⟩ = some (.slice A1 l1.length c1) ∧ Below w.heap.size w wx ∧ w.heap.size < wx.heap.size)
  case first =>
    go_region_with (first
      | (go_at_call 33; refine (governor_CheckPolynomial.calls _ _ l0 pe _ (Kd.C_below HR0.out (by repeat (first | exact Below.refl _ _ | apply bl_alloc | apply bl_drew))) hc0 (by rw [HPE.out]; rfl)).mono ?_; rintro e w1 ⟨rfl, hb1⟩; have hcell := (hb1.cell (p := ⟨w.heap.size, 0, none⟩) (by simp)).trans (by simp : _ = some (Value.slice A1 l1.length c1)); have hbb : Below w.heap.size w w1 := bl_next (by repeat (first | exact Below.refl _ _ | apply bl_alloc | apply bl_drew)) hb1; have hsz : w.heap.size < w1.heap.size := Nat.lt_of_lt_of_le (by simp) hb1.size; clear hb1)
      | (go_at_call 49; refine (unless_call _ _ _ _ HU.out).mono ?_; rintro e w2 ⟨rfl, ⟨n2, rfl⟩⟩)
      | (go_at_call 48; refine (first_lit2 _ _ _ _ _ HV.out).mono ?_; rintro e w3 ⟨rfl, hd⟩))
    all_goals (go_wp2_with fail; go_meet; refine ⟨rfl, ?_, bl_drawn (bl_alloc (bl_drewN hbb _) _) hd, ?_⟩)
    all_goals first
      | exact pw_cell_below (bl_drawn (bl_alloc (bl_drewN (Below.refl _ w1) _) _) hd) hcell
      | exact Nat.lt_of_lt_of_le hsz (bl_drawn (bl_alloc (bl_drewN (Below.refl _ w1) _) _) hd).size
  case rest =>
    obtain ⟨rfl, hcb, hb, hsz⟩ := hcut
    have hf : (if Sp.polyErr l0 = 0 then (if Sp.gridErr l1 = 0 then ((Sp.quads l0 l1).elim ([], 11) fun q => (q, 0)) else ([], Sp.gridErr l1)) else ([], Sp.polyErr l0)) = (r1, r2) := Option.some.inj HH.out
    by_cases hz : v = 0
    · have hpe0 : pe = 0 := by
        have := HV.out
        by_cases h0 : pe = 0
        · exact h0
        · rw [if_neg h0] at this; omega
      have hu0 : u = 0 := by have := HV.out; rw [if_pos hpe0] at this; omega
      have hlen : l1.length ≤ 20 := by
        have := HU.out
        by_cases h0 : (l1.length : Int) ≤ 20
        · omega
        · rw [if_neg (by simpa using h0)] at this; omega
      have hpz : Sp.polyErr l0 = 0 := by rw [← HPE.out]; exact hpe0
      have hge : Sp.gridErr l1 = Sp.freqsErr none l1 := by unfold Sp.gridErr; rw [if_neg (by omega)]
      rw [if_pos hpz, hge] at hf
      obtain ⟨fe, hfe⟩ : ∃ fe, fe = Sp.freqsErr none l1 := ⟨_, rfl⟩
      rw [← hfe] at hf
      have HFE := Lib.hid hfe
      have HF := Lib.hid hf
      have HPZ := Lib.hid hpz
      clear hpe0 hu0 hpz hge hfe hf HV HU HPE HH
      subst hz
      go_wp2_with fail
      refine (each_int 56 #[.pointer (some ⟨w.heap.size, 0, none⟩)] (enters_of Try.func56 (by kernel_rfl) rfl) (gridChk l1) A1 l1.length c1 l1 _ (Kd.C_below HR1.out hb) (by omega) ?chk).mono ?_
      case chk =>
        intro W i hi hbW
        have hcW := pw_cell_below hbW hcb
        have hbw := bl_next hb hbW
        rcases i with _ | i
        · exact quad1_zero (l1.getD 0 0) w.heap.size W (gridChk l1 0) (gridChk_zero l1)
        · obtain ⟨ad, rfl, h0⟩ := Kd.at_int HR1.out (i : Int) (by omega) (by omega)
          rw [rd_nat, Int.toNat_natCast] at h0
          have h1 := pw_cell_below hbw h0
          refine quad1_more ad l1.length c1 ((i + 1 : Nat) : Int) (l1.getD (i + 1) 0) (l1.getD i 0) w.heap.size W hcW (by omega) (by omega) (by omega) ?_ (gridChk l1 (i + 1)) ?_
          · rw [Int.toNat_natCast, Nat.add_sub_cancel]; exact h1
          · unfold gridChk
            rw [Nat.add_sub_cancel]
            by_cases hf0 : Sp.freqErr (l1.getD (i + 1) 0) = 0
            · rw [if_pos hf0, if_pos hf0]
              by_cases hq : l1.getD i 0 < l1.getD (i + 1) 0
              · rw [if_pos (Or.inr hq), if_pos hq]
              · rw [if_neg (fun h => h.elim (fun h => by omega) hq), if_neg hq]
            · rw [if_neg hf0, if_neg hf0]
      rintro e w2 ⟨rfl, hb2⟩
      rw [firstBad_gridErr, ← HFE.out]
      have hcb2 := pw_cell_below hb2 hcb
      have hbw2 := bl_next hb hb2
      clear hcb hb hsz hb2
      by_cases hfz : fe = 0
      · have HF2 := HF.out
        rw [if_pos hfz] at HF2
        have HF3 := Lib.hid HF2
        clear HF HF2
        subst hfz
        go_wp2_with fail
        go_loopw [7, 32] (fun out i wr => ∃ (k : Nat) (qs : List Int), k ≤ l1.length ∧ i = .int .i64 (k : Nat) ∧ Hid (Kd.R (Kd.int .i64) 3 wr w.heap.size (fun _ => True) out qs) ∧ Hid (Below w.heap.size w wr) ∧ Hid (qs.length = k ∧ Sp.quads l0 l1 = (Sp.quads l0 (l1.drop k)).map (qs ++ ·)))
          (fun _ i _ => l1.length - (intOf i).toNat)
        case atStart => exact ⟨0, [], by omega, rfl, Lib.hid (Kd.R_nil _ _ _ _ _), Lib.hid hbw2, Lib.hid ⟨rfl, by simp⟩⟩
        case round =>
          obtain ⟨k, qs, hk, rfl, HO, HB, HQ⟩ := hrel
          by_cases hlt : k < l1.length
          · obtain ⟨ad, rfl, h0⟩ := Kd.at_int HR1.out (k : Int) (by omega) (by omega)
            rw [rd_nat, Int.toNat_natCast] at h0
            have hfq := freqsErr_zero l1 none HFE.out.symm k hlt
            obtain ⟨g, hg⟩ : ∃ g, g = l1.getD k 0 := ⟨_, rfl⟩
            rw [← hg] at h0 hfq
            have h1 := pw_cell_below HB.out h0
            obtain ⟨re, im, hval⟩ : ∃ re im, Sp.val l0 g = (re, im) := ⟨_, _, rfl⟩
            have hbd := val_bound HPZ.out hfq
            rw [hval] at hbd
            have HVAL := Lib.hid hval
            have HFQ := Lib.hid hfq
            have HG := Lib.hid hg
            obtain ⟨sp1, sp2⟩ := quads_step l0 l1 k hlt qs HQ.out.2
            rw [← hg, hval] at sp1 sp2
            clear h0 hval hfq hg
            by_cases hz : re = 0 ∧ im = 0
            · have hnone : Sp.quads l0 l1 = none := sp1 (by rw [hz.1, hz.2])
              have hzb : (re == 0 && (im == 0)) = true := by rw [hz.1, hz.2]; rfl
              have HF4 := HF3.out
              rw [hnone] at HF4
              obtain ⟨rfl, rfl⟩ : r1 = [] ∧ (11 : Int) = r2 := by injection HF4 with h1 h2; exact ⟨h1.symm, h2⟩
              clear sp1 sp2 hz hnone HF4
              go_wp2_with fail
              refine (governor_value.calls A0 c0 l0 g re im _ (Kd.C_below HR0.out HB.out) hc0 (by unfold governor_value.f; rw [if_pos ⟨HPZ.out, HFQ.out⟩, HVAL.out])).mono ?_
              rintro e w3 ⟨rfl, hb3⟩
              go_wp2_with fail
              go_ret2
              exact ⟨_, rfl, Kd.R_nil _ _ _ _ _, bl_alloc (bl_next HB.out hb3) _⟩
            · have hsome := sp2 (by intro e; injection e with h1 h2; exact hz ⟨h1, h2⟩)
              have hzb : (re == 0 && (im == 0)) = false := by
                rw [Bool.and_eq_false_iff, beq_eq_false_iff_ne, beq_eq_false_iff_ne]
                by_cases h1 : re = 0
                · exact .inr (fun h2 => hz ⟨h1, h2⟩)
                · exact .inl h1
              have HQE := Lib.hid (quadrant_eval re im hbd.1 hbd.2 hz)
              obtain ⟨q, hq⟩ : ∃ q, q = Sp.quad (re, im) := ⟨_, rfl⟩
              rw [← hq] at hsome HQE
              have HSM := Lib.hid hsome
              clear sp1 sp2 hz hsome hq hbd
              go_wp2_with fail
              refine (governor_value.calls A0 c0 l0 g re im _ (Kd.C_below HR0.out HB.out) hc0 (by unfold governor_value.f; rw [if_pos ⟨HPZ.out, HFQ.out⟩, HVAL.out])).mono ?_
              rintro e w3 ⟨rfl, hb3⟩
              go_wp2_with fail
              refine (Q.governor_quadrant.calls 5 re im q _ HQE.out).mono ?_
              rintro e w4 ⟨rfl, hb4⟩
              have HB4 := Lib.hid (bl_next (bl_alloc (bl_next HB.out hb3) _) hb4)
              have HO4 := Lib.hid (Kd.R_below (Kd.R_alloc (Kd.R_below HO.out hb3) _) hb4)
              clear hb3 hb4 HO HB
              go_wp2_with (at_builtin; refine Kd.R_append (Kd.int .i64) (w0 := w) w.heap.size rfl (.tmp 42) (.tmp 45) 22 3 (.int .i64 0) 8 rfl Try.underlying22 Q.info3 rfl (by decide) (by omega) _ qs q [.int .i64 q] (fun _ => True) (fun _ => False) rfl rfl rfl (fun _ hk => hk.elim) (fun _ _ => trivial) HO4.out HB4.out HB4.out.size (by have := HQ.out.1; omega) ?_; intro v1 w5 ho hb hg hat)
              go_roundw
              case rel => exact ⟨k + 1, qs ++ [q], by omega, by go_num, Lib.hid ho, Lib.hid hb, Lib.hid ⟨by rw [List.length_append, HQ.out.1]; rfl, HSM.out⟩⟩
              case measure => simp [intOf]; omega
          · have hqs := HQ.out.2
            rw [show k = l1.length by omega, List.drop_length] at hqs
            have HF4 := HF3.out
            rw [hqs] at HF4
            obtain ⟨rfl, rfl⟩ : r1 = qs ∧ (0 : Int) = r2 := by
              have e1 : (qs ++ [], (0 : Int)) = (r1, r2) := HF4
              rw [List.append_nil] at e1
              injection e1 with h1 h2; exact ⟨h1.symm, h2⟩
            clear hqs HF4
            go_wp2_with fail
            go_ret2
            exact ⟨_, rfl, HO.out, HB.out⟩
      · have HF2 := HF.out
        rw [if_neg hfz] at HF2
        obtain ⟨rfl, rfl⟩ : r1 = [] ∧ fe = r2 := by injection HF2 with h1 h2; exact ⟨h1.symm, h2⟩
        have hne : (fe == 0) = false := by simpa using hfz
        have hne2 : (fe != 0) = true := by simpa using hfz
        clear HF HF2 hfz
        go_wp2_with fail
        go_ret2
        exact ⟨_, rfl, Kd.R_nil _ _ _ _ _, hbw2⟩
    · have hr : r1 = [] ∧ v = r2 := by
        by_cases h0 : Sp.polyErr l0 = 0
        · rw [if_pos h0] at hf
          have h1 := HV.out
          rw [HPE.out, if_pos h0, HU.out] at h1
          have h2 : ¬ (l1.length : Int) ≤ 20 := fun h2 => by rw [if_pos (by simpa using h2)] at h1; exact hz h1
          rw [if_neg (by simpa using h2)] at h1
          have h3 : Sp.gridErr l1 = 8 := by unfold Sp.gridErr; rw [if_pos (by omega)]
          rw [h3, if_neg (by decide)] at hf
          injection hf with h4 h5
          exact ⟨h4.symm, by rw [h1]; exact h5⟩
        · rw [if_neg h0] at hf
          have h1 := HV.out
          rw [HPE.out, if_neg h0] at h1
          injection hf with h4 h5
          exact ⟨h4.symm, by rw [h1]; exact h5⟩
      obtain ⟨rfl, rfl⟩ := hr
      have hne : (v == 0) = false := by simpa using hz
      have hne2 : (v != 0) = true := by simpa using hz
      clear hf hz HV HU HPE HH
      go_wp2_with fail
      go_ret2
      exact ⟨_, rfl, Kd.R_nil _ _ _ _ _, hb⟩
end Go.Proofs.Ytmpondcccbmlhaa.Ext
