/- A part of the claim P: the texts ExR, without what the claim does not lean on. -/
import Derived.ArgAppend
import Derived.Below
import Derived.BigQuiet
import Derived.Deep.AppendLies
import Derived.Deep.CutBlock
import Derived.Deep.DeepCutAuto
import Derived.Deep.Draws
import Derived.Deep.LoopGhost
import Derived.Deep.OwnRows
import Derived.Deep.QuietTactic
import Derived.Deep.RegionHeld3
import Derived.Deep.WholeRow
import Derived.KernelRfl
import Derived.Laws.BitsLemmas
import Derived.Laws.BytesArg
import Derived.Laws.IdiomCopy
import Derived.Laws.MakeOwn
import Derived.Laws.OwnMore
import Derived.Laws.Rows
import Derived.Laws.Slices
import Derived.Laws.StructEq
import Derived.Lib.AppendStr
import Derived.Lib.ConvBytes
import Derived.Lib.Hide
import Derived.Maps.AppendAt
import Derived.OrdersHeld
import Derived.Outline
import Derived.OwnWalk
import Derived.RowKit
import Derived.RowKit3
import Derived.Shelf.Abstract
import Derived.Tactics
import Derived.WalkKit
import Derived.WalkLawsBesides
import Derived.WideLaws
import Derived.Test.YtmpondcccbmlhaaProg
import Derived.Test.YtmpondcccbmlhaazP0
import Derived.Test.YtmpondcccbmlhaazP1
import Derived.Test.YtmpondcccbmlhaazP2
import Derived.Test.YtmpondcccbmlhaazP3
import Derived.Test.YtmpondcccbmlhaazP4
import Derived.Test.YtmpondcccbmlhaazP5
import Derived.Test.YtmpondcccbmlhaazP6
import Derived.Test.YtmpondcccbmlhaazP7
import Derived.Test.YtmpondcccbmlhaazP8
import Derived.Test.YtmpondcccbmlhaazP9
import Derived.Test.YtmpondcccbmlhaazP19
import Derived.Test.YtmpondcccbmlhaazP23
import Derived.Test.YtmpondcccbmlhaazP24
import Derived.Test.YtmpondcccbmlhaazP25
namespace Go.Proofs.Ytmpondcccbmlhaa.Ext
open Go.RowKit Go.Shelf Go.Proofs.YtmpondcccbmlhaaW.PrintWords Go.Proofs.YtmpondcccbmlhaaW.PrintLast Go.Proofs.YtmpondcccbmlhaaW.PrintMore
open Q (S39 z39 k39)
def K0 : Nat := 100000000000000000000
def allStable : List (List Int) → Option Bool
  | [] => some true
  | c :: cs => (Q.governor_isStable.f K0 c).bind fun b => if b = true then allStable cs else some false
def governor_IsRobust.f (l0 : List S39) : Option (Bool × Int) :=
  if (boxErr l0).2 = 0 then (allStable (cornersOf l0)).bind fun b => some (b, 0) else some (false, (boxErr l0).2)
theorem allStable_chk (cs : List (List Int)) (b : Bool) (h : allStable cs = some b) :
    ∃ chk : Nat → Bool, (∀ i, i < cs.length → NoneTo chk i → Q.governor_isStable.f K0 (cs.getD i []) = some (!chk i)) ∧ b = !anyTo chk cs.length := by
  refine ⟨fun i => (Q.governor_isStable.f K0 (cs.getD i [])) == some false, ?_, ?_⟩
  · induction cs generalizing b with
    | nil => intro i hi; exact absurd hi (by simp)
    | cons c cs ih =>
      intro i hi hn
      simp only [allStable] at h
      obtain ⟨d, hd, h⟩ := Option.bind_eq_some_iff.1 h
      rcases i with _ | i
      · simp only [List.getD_cons_zero, hd]
        cases d <;> rfl
      · have h0 := hn 0 (by omega)
        simp only [List.getD_cons_zero, hd] at h0
        cases d with
        | false => exact absurd h0 (by decide)
        | true =>
          rw [if_pos rfl] at h
          have := ih b h i (by simpa using hi) (fun j hj => by have := hn (j + 1) (by omega); simpa using this)
          simpa using this
  · induction cs generalizing b with
    | nil => simp only [allStable] at h; rw [← Option.some.inj h]; rfl
    | cons c cs ih =>
      simp only [allStable] at h
      obtain ⟨d, hd, h⟩ := Option.bind_eq_some_iff.1 h
      unfold anyTo
      rw [List.length_cons, List.range_succ_eq_map, List.any_cons, List.any_map]
      simp only [List.getD_cons_zero, hd]
      cases d with
      | false => rw [if_neg (by decide)] at h; rw [← Option.some.inj h]; rfl
      | true =>
        rw [if_pos rfl] at h
        have h2 := ih b h
        rw [h2]; unfold anyTo
        simp [Function.comp_def]
theorem boxErr_len {l : List S39} {i : Int} (h : boxErr l = (i, 0)) : 1 ≤ l.length ∧ l.length ≤ 5 := by
  unfold boxErr at h
  by_cases hz : Sp.countErr l.length = 0
  · have := countErr_zero hz; omega
  · rw [if_neg hz] at h
    injection h with _ h
    exact absurd h hz
theorem cornersOf_len (l : List S39) : (cornersOf l).length = 4 := rfl
set_option maxHeartbeats 4000000 in
set_option maxRecDepth 100000 in
theorem governor_IsRobust.calls (A0 : Option Addr) (c0 : Nat) (l0 : List S39) (r1 : Bool) (r2 : Int) (w : World) (hr0 : Kd.C k39 w A0 l0.length l0) (hc0 : l0.length ≤ c0) (h : governor_IsRobust.f l0 = some (r1, r2)) :
    Calls Try.prog 14 #[.agg #[.slice A0 l0.length c0]] w fun e w' => e = .returned (.tuple #[.bool r1, .int .i64 r2]) ∧ Below w.heap.size w w' := by
  have HR := Lib.hid hr0
  unfold governor_IsRobust.f at h
  obtain ⟨ix, er, hbe⟩ : ∃ ix er, boxErr l0 = (ix, er) := ⟨_, _, rfl⟩
  rw [hbe] at h
  have HBE := Lib.hid hbe
  have HH := Lib.hid h
  clear hr0 hbe h
  go_enter Try.func14, Try.ntmps14
  go_wp2_with fail
  refine (governor_CheckBox.calls A0 c0 l0 ix er _ (Kd.C_alloc HR.out _) hc0 (by unfold governor_CheckBox.f; rw [HBE.out])).mono ?_
  rintro e w1 ⟨rfl, hb1⟩
  have hcell := (hb1.cell (p := ⟨w.heap.size, 0, none⟩) (by simp)).trans (by simp : _ = some (Value.slice A0 l0.length c0))
  have HB := Lib.hid (bl_next (bl_alloc (Below.refl _ w) _) hb1)
  clear hb1
  by_cases he : er = 0
  · have hh := HH.out
    rw [if_pos he] at hh
    obtain ⟨b, hb, hh⟩ := Option.bind_eq_some_iff.1 hh
    obtain ⟨rfl, rfl⟩ : b = r1 ∧ (0 : Int) = r2 := by injection hh with hh; injection hh with h1 h2; exact ⟨h1, h2⟩
    obtain ⟨chk, hchk, rfl⟩ := allStable_chk _ b hb
    have HCHK := Lib.hid hchk
    subst he
    have HL := Lib.hid (boxErr_len HBE.out)
    clear hh hb hchk HH
    go_wp2_with fail
    refine (governor_corners.calls A0 c0 l0 (cornersOf l0) _ (Kd.C_below HR.out HB.out) hc0 (by unfold governor_corners.f; rw [if_pos HL.out])).mono ?_
    rintro e w2 ⟨v, rfl, hs, hb2⟩
    obtain ⟨A4, c4, rfl⟩ := Kd.S_slice hs
    have HS := Lib.hid hs
    have HB2 := Lib.hid (bl_next HB.out hb2)
    clear hs hb2
    obtain ⟨B, C, hBC⟩ := rows_fns (Kd.S_reads' HS.out).2.2
    go_wp2_with fail
    refine (contains_rows 40 #[] (enters_of Try.func40 (by kernel_rfl) rfl) chk A4 (cornersOf l0).length c4 B (fun k => ((cornersOf l0).getD k []).length) C _ (fun k hk => (hBC k hk).1) (by rw [cornersOf_len]; omega) ?chk).mono ?_
    case chk =>
      intro W i hi hn hbW
      refine (Q.governor_IsRobust_1.calls K0 (B i) (C i) ((cornersOf l0).getD i []) (chk i) W (Kd.C_below (hBC i hi).2.2 hbW) (hBC i hi).2.1 ?_)
      unfold Q.governor_IsRobust_1.f
      rw [HCHK.out i hi hn]
      simp
    rintro e w3 ⟨rfl, hb3⟩
    have HB3 := Lib.hid (bl_next HB2.out hb3)
    clear hb3 hBC
    go_wp2_with fail
    go_ret2
    exact ⟨rfl, HB3.out⟩
  · have hh := HH.out
    rw [if_neg he] at hh
    obtain ⟨rfl, rfl⟩ : false = r1 ∧ er = r2 := by injection hh with hh; injection hh with h1 h2; exact ⟨h1, h2⟩
    have hne : (er == 0) = false := by simpa using he
    have hne2 : (er != 0) = true := by simpa using he
    clear hh HH he
    go_wp2_with fail
    go_ret2
    exact ⟨rfl, HB.out⟩
end Go.Proofs.Ytmpondcccbmlhaa.Ext
