/- A part of the claim P: the texts ExV, without what the claim does not lean on. -/
import Derived.ArgAppend
import Derived.Below
import Derived.BigQuiet
import Derived.Deep.AppendLies
import Derived.Deep.CutBlock
import Derived.Deep.DeepCutAuto
import Derived.Deep.Draws
import Derived.Deep.LoopGhost
import Derived.Deep.OwnRows
import Derived.Deep.QuietTactic
import Derived.Deep.RegionHeld3
import Derived.KernelRfl
import Derived.Laws.BitsLemmas
import Derived.Laws.BytesArg
import Derived.Laws.ComplexArith
import Derived.Laws.IdiomCopy
import Derived.Laws.MakeOwn
import Derived.Laws.OwnMore
import Derived.Laws.Rows
import Derived.Laws.Slices
import Derived.Laws.StructEq
import Derived.Lib.AppendStr
import Derived.Lib.ConvBytes
import Derived.Lib.Hide
import Derived.Maps.AppendAt
import Derived.OrdersHeld
import Derived.Outline
import Derived.OwnWalk
import Derived.RowKit
import Derived.RowKit3
import Derived.Shelf.Abstract
import Derived.Tactics
import Derived.WalkKit
import Derived.WalkLawsBesides
import Derived.WideLaws
import Derived.Test.YtmpondcccbmlhaaProg
import Derived.Test.YtmpondcccbmlhaazP0
import Derived.Test.YtmpondcccbmlhaazP1
import Derived.Test.YtmpondcccbmlhaazP2
import Derived.Test.YtmpondcccbmlhaazP3
import Derived.Test.YtmpondcccbmlhaazP4
import Derived.Test.YtmpondcccbmlhaazP5
import Derived.Test.YtmpondcccbmlhaazP6
import Derived.Test.YtmpondcccbmlhaazP7
import Derived.Test.YtmpondcccbmlhaazP8
import Derived.Test.YtmpondcccbmlhaazP9
import Derived.Test.YtmpondcccbmlhaazP17
namespace Go.Proofs.Ytmpondcccbmlhaa.Ext
open Go.RowKit Go.Shelf Go.Proofs.YtmpondcccbmlhaaW.PrintWords Go.Proofs.YtmpondcccbmlhaaW.PrintLast Go.Proofs.YtmpondcccbmlhaaW.PrintMore
def governor_value.f (l0 : List Int) (a1 : Int) : Option (Int × Int) := if Sp.polyErr l0 = 0 ∧ Sp.freqErr a1 = 0 then some (Sp.val l0 a1) else none
theorem polyErr_zero {l : List Int} (h : Sp.polyErr l = 0) : 2 ≤ l.length ∧ l.length ≤ 5 ∧ (∀ j, -1000 ≤ l.getD j 0 ∧ l.getD j 0 ≤ 1000) ∧ 0 < l.headD 0 := by
  unfold Sp.polyErr at h
  by_cases h1 : Sp.countErr (l.length : Int) = 0
  · rw [if_pos h1] at h
    obtain ⟨h2, h3⟩ := countErr_zero h1
    by_cases h4 : Sp.coefsErr l = 0
    · rw [if_pos h4] at h
      by_cases h5 : 0 < l.headD 0
      · refine ⟨h2, h3, ?_, h5⟩
        clear h h1 h2 h3 h5
        induction l with
        | nil => intro j; simp
        | cons x l ih =>
          simp only [Sp.coefsErr] at h4
          by_cases h6 : Sp.coefErr x = 0
          · rw [if_pos h6] at h4
            intro j
            cases j with
            | zero =>
              unfold Sp.coefErr at h6
              by_cases h7 : -1000 ≤ x ∧ x ≤ 1000
              · exact h7
              · rw [if_neg h7] at h6; omega
            | succ j => exact ih h4 j
          · rw [if_neg h6] at h4; exact absurd h4 h6
      · rw [if_neg h5] at h; omega
    · rw [if_neg h4] at h; exact absurd h h4
  · rw [if_neg h1] at h; exact absurd h h1
theorem freqErr_zero {w : Int} (h : Sp.freqErr w = 0) : 0 ≤ w ∧ w ≤ 1000 := by
  unfold Sp.freqErr at h
  by_cases h1 : 0 ≤ w ∧ w ≤ 1000
  · exact h1
  · rw [if_neg h1] at h; omega
def Mb : Nat → Nat
  | 0 => 0
  | k + 1 => 1000 * Mb k + 1000
theorem Mb_le : ∀ k, k ≤ 5 → Mb k ≤ 1001001001001000 := by
  intro k hk
  match k, hk with
  | 0, _ => decide
  | 1, _ => decide
  | 2, _ => decide
  | 3, _ => decide
  | 4, _ => decide
  | 5, _ => decide
theorem abs_mul_le {a w : Int} {M : Nat} (h : a.natAbs ≤ M) (h0 : 0 ≤ w) (h1 : w ≤ 1000) : (a * w).natAbs ≤ 1000 * M := by
  rw [Int.natAbs_mul, Nat.mul_comm]
  exact Nat.mul_le_mul (by omega) h
theorem round_value {x y r0 s0 : Nat} {a b w n : Int} {M : Nat} (hx : Flt.Rep x a) (hy : Flt.Rep y b) (hr : Flt.Rep r0 0) (hs : Flt.Rep s0 w) (h0 : 0 ≤ w) (h1 : w ≤ 1000)
    (ha : a.natAbs ≤ M) (hb : b.natAbs ≤ M) (hM : 1000 * M ≤ 1001001001001000) (hn : -1000 ≤ n ∧ n ≤ 1000) :
    ∃ u v p q, cMulBits x y r0 s0 = some (u, v) ∧ cSumBits .add .f64 u v (floatOfInt .f64 n) 0 = some (p, q) ∧ Flt.Rep p (n - b * w) ∧ Flt.Rep q (a * w) ∧
      (n - b * w).natAbs ≤ 1000 * M + 1000 ∧ (a * w).natAbs ≤ 1000 * M + 1000 := by
  have k1 := abs_mul_le ha h0 h1
  have k2 := abs_mul_le hb h0 h1
  obtain ⟨u, v, e1, r1, r2⟩ := Flt.rep_cmul hx hy hr hs 1001001001001000 (by decide) (by simp) (by omega) (by omega) (by simp)
  obtain ⟨p, q, e2, r3, r4⟩ := Flt.rep_cadd r1 r2 (Flt.rep_ofInt n (by omega)) Flt.rep_zero (by rw [Int.mul_zero]; omega) (by rw [Int.mul_zero]; omega)
  refine ⟨u, v, p, q, e1, e2, ?_, ?_, by omega, by omega⟩
  · rw [show n - b * w = a * 0 - b * w + n by rw [Int.mul_zero]; omega]; exact r3
  · rw [show a * w = a * w + b * 0 + 0 by rw [Int.mul_zero]; omega]; exact r4
theorem valFrom_step (w : Int) (l : List Int) (k : Nat) (v : Int × Int) (h : k < l.length) : Sp.valFrom w (l.drop k) v = Sp.valFrom w (l.drop (k + 1)) (l.getD k 0 - v.2 * w, v.1 * w) := by
  rw [drop_getD l k h]; rfl
set_option maxHeartbeats 2000000 in
theorem governor_value.calls (A0 : Option Addr) (c0 : Nat) (l0 : List Int) (a1 : Int) (r1 : Int) (r2 : Int) (w : World) (hr0 : Kd.C (Kd.int .i64) w A0 l0.length l0) (_hc0 : l0.length ≤ c0) (h : governor_value.f l0 a1 = some (r1, r2)) :
    Calls Try.prog 58 #[.slice A0 l0.length c0, .int .i64 a1] w fun e w' => e = .returned (.agg #[.int .i64 r1, .int .i64 r2]) ∧ Below w.heap.size w w' := by
  unfold governor_value.f at h
  by_cases hv : Sp.polyErr l0 = 0 ∧ Sp.freqErr a1 = 0
  · rw [if_pos hv] at h
    obtain ⟨hp, hf⟩ := hv
    obtain ⟨hl2, hl5, hcf, -⟩ := polyErr_zero hp
    obtain ⟨hf0, hf1⟩ := freqErr_zero hf
    have hval : Sp.val l0 a1 = (r1, r2) := Option.some.inj h
    have HVAL := Lib.hid hval
    have HR := Lib.hid hr0
    have HCF := Lib.hid hcf
    clear h hp hf hval hr0 hcf
    obtain ⟨fw, hfw⟩ : ∃ fw, fw = floatOfInt .f64 a1 := ⟨_, rfl⟩
    have RW : Flt.Rep fw a1 := by rw [hfw]; exact Flt.rep_ofInt a1 (by omega)
    obtain ⟨t0, s0, et, rt, rs⟩ := Flt.rep_cmul Flt.rep_zero Flt.rep_one RW Flt.rep_zero 1000 (by decide) (by simp) (by simp) (by simp) (by omega)
    have RT : Flt.Rep t0 0 := by rw [show (0 : Int) = 0 * a1 - 1 * 0 by omega]; exact rt
    have RS : Flt.Rep s0 a1 := by rw [show a1 = 0 * 0 + 1 * a1 by omega]; exact rs
    have hat := fun (wx : World) => run_complex_mul (P := Try.prog) wx 127 _ _ _ _ _ _ et
    have hfw' := hfw.symm
    have HRT := Lib.hid RT
    have HRS := Lib.hid RS
    clear et rt rs RT RS RW hfw
    go_enter Try.func58, Try.ntmps58
    go_wp2_with fail
    have HAT := Lib.hid hat
    have HFW := Lib.hid hfw'
    clear hat hfw'
    go_loop [5, 15] (fun sm i => ∃ k x y a b, k ≤ l0.length ∧ i = .int .i64 (k : Nat) ∧ sm = .complex .f64 x y ∧ Hid (Flt.Rep x a ∧ Flt.Rep y b ∧ a.natAbs ≤ Mb k ∧ b.natAbs ≤ Mb k ∧ Sp.val l0 a1 = Sp.valFrom a1 (l0.drop k) (a, b))) (fun _ i => l0.length - (intOf i).toNat)
    case atStart => exact ⟨0, 0, 0, 0, 0, by omega, rfl, rfl, ⟨Flt.rep_zero, Flt.rep_zero, by decide, by decide, by rw [List.drop_zero]; rfl⟩⟩
    case round =>
      obtain ⟨k, x, y, a, b, hk, rfl, rfl, H⟩ := hrel
      by_cases hlt : k < l0.length
      · obtain ⟨ad, rfl, h0⟩ := Kd.at_int HR.out (k : Int) (by omega) (by omega)
        rw [rd_nat] at h0
        have hb0 := HCF.out k
        obtain ⟨n, hn⟩ : ∃ n, n = l0.getD k 0 := ⟨_, rfl⟩
        rw [← hn] at h0 hb0
        have HN := Lib.hid hn
        have h1 := pw_cell_below ((Below.refl _ w).alloc (Nat.le_refl _) (.cells #[.int .i64 0, .int .i64 0] 100)) h0
        rw [Int.toNat_natCast] at h1
        obtain ⟨ra, rb, ba, bb, hv⟩ := H.out
        have hM := Mb_le (k + 1) (by omega)
        have e1 : Mb (k + 1) = 1000 * Mb k + 1000 := rfl
        obtain ⟨u, v, p, q, em, ea, rp, rq, bp, bq⟩ := round_value ra rb HRT.out HRS.out hf0 hf1 ba bb (by omega) hb0
        obtain ⟨fn, hfn⟩ : ∃ fn, fn = floatOfInt .f64 n := ⟨_, rfl⟩
        rw [← hfn] at ea
        have hfn' := hfn.symm
        have hmul := fun (wx : World) => run_complex_mul (P := Try.prog) wx 127 _ _ _ _ _ _ em
        have hadd := fun (wx : World) => run_complex_sum (P := Try.prog) wx .add (.inl rfl) 127 .f64 _ _ _ _ _ _ ea
        have HNEW : Hid (Flt.Rep p (n - b * a1) ∧ Flt.Rep q (a * a1) ∧ (n - b * a1).natAbs ≤ Mb (k + 1) ∧ (a * a1).natAbs ≤ Mb (k + 1) ∧ Sp.val l0 a1 = Sp.valFrom a1 (l0.drop (k + 1)) (n - b * a1, a * a1)) :=
          Lib.hid ⟨rp, rq, by rw [e1]; exact bp, by rw [e1]; exact bq, by rw [hv, valFrom_step _ _ _ _ hlt, ← HN.out]⟩
        clear hn h0 H ra rb ba bb hv hM e1 em ea rp rq bp bq hfn hb0
        go_wp2_with fail
        go_round
        case rel => exact ⟨k + 1, p, q, _, _, by omega, by go_num, rfl, HNEW⟩
        case measure => simp [intOf]; omega
      · obtain ⟨ra, rb, ba, bb, hv⟩ := H.out
        have hM := Mb_le k (by omega)
        rw [show k = l0.length by omega, List.drop_length] at hv
        have hval : (a, b) = (r1, r2) := by rw [← HVAL.out, hv]; rfl
        obtain ⟨rfl, rfl⟩ : a = r1 ∧ b = r2 := by injection hval with h1 h2; exact ⟨h1, h2⟩
        have ca := fun (wx : World) => run_convert_float_int (P := Try.prog) wx 128 3 .f64 .i64 x a (by kernel_rfl) (by kernel_rfl) (Flt.rep_toInt ra (by omega))
        have cb := fun (wx : World) => run_convert_float_int (P := Try.prog) wx 128 3 .f64 .i64 y b (by kernel_rfl) (by kernel_rfl) (Flt.rep_toInt rb (by omega))
        clear H ra rb ba bb hv hM hval
        go_wp2_with fail
        exact bodyPost_ret (v := .agg #[.int .i64 a, .int .i64 b]) (by simp [results, Try.results58, go_sem]) rfl ⟨rfl, ((Below.refl _ w).alloc (Nat.le_refl _) _)⟩
  · rw [if_neg hv] at h; cases h
end Go.Proofs.Ytmpondcccbmlhaa.Ext
