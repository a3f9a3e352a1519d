/- A part of the claim R: the texts ExJ, without what the claim does not lean on. -/
import Derived.ArgAppend
import Derived.Below
import Derived.BigQuiet
import Derived.Deep.AppendLies
import Derived.Deep.CutBlock
import Derived.Deep.DeepCutAuto
import Derived.Deep.Draws
import Derived.Deep.LoopGhost
import Derived.Deep.OwnRows
import Derived.Deep.QuietTactic
import Derived.Deep.RegionHeld3
import Derived.Deep.RegionWith
import Derived.KernelRfl
import Derived.Laws.BitsLemmas
import Derived.Laws.BytesArg
import Derived.Laws.IdiomCopy
import Derived.Laws.MakeOwn
import Derived.Laws.OwnMore
import Derived.Laws.Rows
import Derived.Laws.Slices
import Derived.Laws.StructEq
import Derived.Lib.AppendStr
import Derived.Lib.ConvBytes
import Derived.Lib.Hide
import Derived.Maps.AppendAt
import Derived.OrdersHeld
import Derived.Outline
import Derived.OwnWalk
import Derived.RowKit
import Derived.RowKit3
import Derived.Shelf.Abstract
import Derived.Tactics
import Derived.WalkKit
import Derived.WideLaws
import Derived.Test.YtmpondcccbmlhaaGreatProg
import Derived.Test.YtmpondcccbmlhaaGreatzR0
import Derived.Test.YtmpondcccbmlhaaGreatzR1
import Derived.Test.YtmpondcccbmlhaaGreatzR2
import Derived.Test.YtmpondcccbmlhaaGreatzR3
import Derived.Test.YtmpondcccbmlhaaGreatzR4
import Derived.Test.YtmpondcccbmlhaaGreatzR5
import Derived.Test.YtmpondcccbmlhaaGreatzR6
import Derived.Test.YtmpondcccbmlhaaGreatzR7
import Derived.Test.YtmpondcccbmlhaaGreatzR8
import Derived.Test.YtmpondcccbmlhaaGreatzR9
import Derived.Test.YtmpondcccbmlhaaGreatzR12
import Derived.Test.YtmpondcccbmlhaaGreatzR13
import Derived.Test.YtmpondcccbmlhaaGreatzR14
import Derived.Test.YtmpondcccbmlhaaGreatzR15
namespace Go.Proofs.YtmpondcccbmlhaaGreat.Ext
open Go.RowKit Go.Shelf Go.Proofs.YtmpondcccbmlhaaGreatW.PrintWords Go.Proofs.YtmpondcccbmlhaaGreatW.PrintLast Go.Proofs.YtmpondcccbmlhaaGreatW.PrintMore
def runFrom (lo hi rate b n d s : Int) : Int → List Int → List Int
  | _, [] => []
  | at_, x :: xs => stepOf at_ lo hi rate (wantOf b n d s x) :: runFrom lo hi rate b n d s (stepOf at_ lo hi rate (wantOf b n d s x)) xs
def devsErr (l : List Int) : Int := (firstBad (fun i => speedErr (l.getD i 0)) 0 l.length).2
def runErr (at_ lo hi rate b n d s : Int) (l : List Int) : Int :=
  if gateErr at_ lo hi rate = 0 then (if rulesErr b n d s = 0 then (if (l.length : Int) ≤ 200 then devsErr l else 8) else rulesErr b n d s) else gateErr at_ lo hi rate
def governor_GateRun.f (at_ lo hi rate b n d s : Int) (l : List Int) : Option (List Int × Int) :=
  some (if runErr at_ lo hi rate b n d s l = 0 then (runFrom lo hi rate b n d s at_ l, 0) else ([], runErr at_ lo hi rate b n d s l))
theorem firstBad_nil2 {chk : Nat → Int} : ∀ {d i : Nat}, (firstBad chk i d).2 = 0 → ∀ j, i ≤ j → j < i + d → chk j = 0 := by
  intro d
  induction d with
  | zero => intro i _ j h1 h2; omega
  | succ d ih =>
    intro i h j h1 h2
    by_cases hc : chk i = 0
    · rw [firstBad_skip _ _ _ hc] at h
      by_cases hj : j = i
      · subst hj; exact hc
      · exact ih h j (by omega) (by omega)
    · rw [firstBad_hit _ _ _ hc] at h
      exact absurd h hc
theorem dev1 (i x : Int) (w : World) (r : Int) (hr : r = speedErr x) :
    Calls Tryz.prog 127 #[.int .i64 i, .int .i64 x] w fun e w' => e = .returned (.int .i64 r) ∧ Below w.heap.size w w' := by
  have HR := Lib.hid hr
  clear hr
  go_enter Tryz.func127, Tryz.ntmps127
  go_wp2_with fail
  refine (Q.governor_speedErr.calls x r _ (by rw [HR.out]; exact speedErr_eval x)).mono ?_
  rintro e w1 ⟨rfl, ⟨n1, rfl⟩⟩
  go_wp2_with fail
  go_ret
  exact ⟨rfl, bl_drewN (Below.refl _ _) _⟩
theorem runFrom_step (lo hi rate b n d s at_ : Int) (l : List Int) (k : Nat) (h : k < l.length) : runFrom lo hi rate b n d s at_ (l.drop k) =
    stepOf at_ lo hi rate (wantOf b n d s (l.getD k 0)) :: runFrom lo hi rate b n d s (stepOf at_ lo hi rate (wantOf b n d s (l.getD k 0))) (l.drop (k + 1)) := by
  rw [drop_getD l k h]; rfl
set_option maxHeartbeats 8000000 in
set_option maxRecDepth 100000 in
theorem governor_GateRun.calls (at_ lo hi rate b n d s : Int) (A : Option Addr) (c : Nat) (l : List Int) (r1 : List Int) (r2 : Int) (w : World) (hr : Kd.C (Kd.int .i64) w A l.length l) (_hc : l.length ≤ c) (h : governor_GateRun.f at_ lo hi rate b n d s l = some (r1, r2)) :
    Calls Tryz.prog 58 #[.agg #[.int .i64 at_, .int .i64 lo, .int .i64 hi, .int .i64 rate], .agg #[.int .i64 b, .int .i64 n, .int .i64 d, .int .i64 s], .slice A l.length c] w fun e w' => ∃ v0_ : Value, e = .returned (.tuple #[v0_, .int .i64 r2]) ∧ Kd.R (Kd.int .i64) 3 w' w.heap.size (fun _ => True) v0_ r1 ∧ Below w.heap.size w w' := by
  obtain ⟨ge, hge⟩ : ∃ ge, ge = gateErr at_ lo hi rate := ⟨_, rfl⟩
  have HGE := Lib.hid hge
  obtain ⟨re, hre⟩ : ∃ re, re = rulesErr b n d s := ⟨_, rfl⟩
  have HRE := Lib.hid hre
  obtain ⟨u, hu⟩ : ∃ u : Int, u = if decide ((l.length : Int) ≤ 200) = true then 0 else 8 := ⟨_, rfl⟩
  have HU := Lib.hid hu
  obtain ⟨v, hv⟩ : ∃ v : Int, v = if ge = 0 then (if re = 0 then u else re) else ge := ⟨_, rfl⟩
  have HV := Lib.hid hv
  have HH := Lib.hid h
  have HR := Lib.hid hr
  clear hge hre hu hv h hr
  go_enter Tryz.func58, Tryz.ntmps58
  go_upto_region 1 with fail
  have BG : ((w.alloc (.cells #[.int .i64 at_, .int .i64 lo, .int .i64 hi, .int .i64 rate] 75)).alloc (.cells #[.int .i64 b, .int .i64 n, .int .i64 d, .int .i64 s] 77)).heap[w.heap.size]? = some (.cells #[.int .i64 at_, .int .i64 lo, .int .i64 hi, .int .i64 rate] 75 (0, 0)) := blk_alloc (blk_new w _) _
  have BR : ((w.alloc (.cells #[.int .i64 at_, .int .i64 lo, .int .i64 hi, .int .i64 rate] 75)).alloc (.cells #[.int .i64 b, .int .i64 n, .int .i64 d, .int .i64 s] 77)).heap[w.heap.size + 1]? = some (.cells #[.int .i64 b, .int .i64 n, .int .i64 d, .int .i64 s] 77 (0, 0)) := by
    have := blk_new (w.alloc (.cells #[.int .i64 at_, .int .i64 lo, .int .i64 hi, .int .i64 rate] 75)) (.cells #[.int .i64 b, .int .i64 n, .int .i64 d, .int .i64 s] 77)
    rw [show (w.alloc (.cells #[.int .i64 at_, .int .i64 lo, .int .i64 hi, .int .i64 rate] 75)).heap.size = w.heap.size + 1 from Array.size_push _] at this
    exact this
  have HB : Below w.heap.size w ((w.alloc (.cells #[.int .i64 at_, .int .i64 lo, .int .i64 hi, .int .i64 rate] 75)).alloc (.cells #[.int .i64 b, .int .i64 n, .int .i64 d, .int .i64 s] 77)) := bl_alloc (bl_alloc (Below.refl _ _) _) _
  generalize (w.alloc (.cells #[.int .i64 at_, .int .i64 lo, .int .i64 hi, .int .i64 rate] 75)).alloc (.cells #[.int .i64 b, .int .i64 n, .int .i64 d, .int .i64 s] 77) = w1 at BG BR HB ⊢
  go_cut [8] (fun s8 wx => s8 = .int .i64 v ∧ Hid (wx.heap[w.heap.size]? = some (.cells #[.int .i64 at_, .int .i64 lo, .int .i64 hi, .int .i64 rate] 75 (0, 0))) ∧ Hid (wx.heap[w.heap.size + 1]? = some (.cells #[.int .i64 b, .int .i64 n, .int .i64 d, .int .i64 s] 77 (0, 0))) ∧ Hid (Below w.heap.size w wx))
  case first =>
    have c0 : w1.cell? ⟨w.heap.size, 0, none⟩ = some (.int .i64 at_) := (blk_cell BG 0).trans rfl
    have c1 : w1.cell? ⟨w.heap.size, 1, none⟩ = some (.int .i64 lo) := (blk_cell BG 1).trans rfl
    have c2 : w1.cell? ⟨w.heap.size, 2, none⟩ = some (.int .i64 hi) := (blk_cell BG 2).trans rfl
    have c3 : w1.cell? ⟨w.heap.size, 3, none⟩ = some (.int .i64 rate) := (blk_cell BG 3).trans rfl
    have r0 : w1.cell? ⟨w.heap.size + 1, 0, none⟩ = some (.int .i64 b) := (blk_cell BR 0).trans rfl
    have r1 : w1.cell? ⟨w.heap.size + 1, 1, none⟩ = some (.int .i64 n) := (blk_cell BR 1).trans rfl
    have r2 : w1.cell? ⟨w.heap.size + 1, 2, none⟩ = some (.int .i64 d) := (blk_cell BR 2).trans rfl
    have r3 : w1.cell? ⟨w.heap.size + 1, 3, none⟩ = some (.int .i64 s) := (blk_cell BR 3).trans rfl
    go_region_with (first
      | (go_at_call 52; refine (Q.governor_CheckGate.calls 6 at_ lo hi rate ge _ (by rw [HGE.out]; exact checkGate_eval _ _ _ _ 6 (by omega))).mono ?_; rintro e w2 ⟨rfl, hb2⟩; have n0_ := blk_below (g := w.heap.size) (o := .cells #[.int .i64 at_, .int .i64 lo, .int .i64 hi, .int .i64 rate] 75 (0, 0)) (by (with_reducible repeat (first | refine blk_drewN ?_ _ | refine blk_drew ?_ | refine blk_alloc ?_ _)); exact BG) hb2; have n1_ := blk_below (g := w.heap.size + 1) (o := .cells #[.int .i64 b, .int .i64 n, .int .i64 d, .int .i64 s] 77 (0, 0)) (by (with_reducible repeat (first | refine blk_drewN ?_ _ | refine blk_drew ?_ | refine blk_alloc ?_ _)); exact BR) hb2; have n2_ := bl_next (by repeat (first | exact HB | apply bl_alloc | apply bl_drewN | apply bl_drew)) hb2; clear c0 c1 c2 c3 r0 r1 r2 r3; clear BG BR HB hb2; have BG := n0_; have BR := n1_; have HB := n2_; clear n0_ n1_ n2_; have c0 : w2.cell? ⟨w.heap.size, 0, none⟩ = some (.int .i64 at_) := (blk_cell BG 0).trans rfl; have c1 : w2.cell? ⟨w.heap.size, 1, none⟩ = some (.int .i64 lo) := (blk_cell BG 1).trans rfl; have c2 : w2.cell? ⟨w.heap.size, 2, none⟩ = some (.int .i64 hi) := (blk_cell BG 2).trans rfl; have c3 : w2.cell? ⟨w.heap.size, 3, none⟩ = some (.int .i64 rate) := (blk_cell BG 3).trans rfl; have r0 : w2.cell? ⟨w.heap.size + 1, 0, none⟩ = some (.int .i64 b) := (blk_cell BR 0).trans rfl; have r1 : w2.cell? ⟨w.heap.size + 1, 1, none⟩ = some (.int .i64 n) := (blk_cell BR 1).trans rfl; have r2 : w2.cell? ⟨w.heap.size + 1, 2, none⟩ = some (.int .i64 d) := (blk_cell BR 2).trans rfl; have r3 : w2.cell? ⟨w.heap.size + 1, 3, none⟩ = some (.int .i64 s) := (blk_cell BR 3).trans rfl)
      | (go_at_call 53; refine (Q.governor_CheckRules.calls b n d s re _ (by rw [HRE.out]; exact checkRules_eval _ _ _ _)).mono ?_; rintro e w3 ⟨rfl, hb3⟩; have n0_ := blk_below (g := w.heap.size) (o := .cells #[.int .i64 at_, .int .i64 lo, .int .i64 hi, .int .i64 rate] 75 (0, 0)) (by (with_reducible repeat (first | refine blk_drewN ?_ _ | refine blk_drew ?_ | refine blk_alloc ?_ _)); exact BG) hb3; have n1_ := blk_below (g := w.heap.size + 1) (o := .cells #[.int .i64 b, .int .i64 n, .int .i64 d, .int .i64 s] 77 (0, 0)) (by (with_reducible repeat (first | refine blk_drewN ?_ _ | refine blk_drew ?_ | refine blk_alloc ?_ _)); exact BR) hb3; have n2_ := bl_next (by repeat (first | exact HB | apply bl_alloc | apply bl_drewN | apply bl_drew)) hb3; clear c0 c1 c2 c3 r0 r1 r2 r3; clear BG BR HB hb3; have BG := n0_; have BR := n1_; have HB := n2_; clear n0_ n1_ n2_; have c0 : w3.cell? ⟨w.heap.size, 0, none⟩ = some (.int .i64 at_) := (blk_cell BG 0).trans rfl; have c1 : w3.cell? ⟨w.heap.size, 1, none⟩ = some (.int .i64 lo) := (blk_cell BG 1).trans rfl; have c2 : w3.cell? ⟨w.heap.size, 2, none⟩ = some (.int .i64 hi) := (blk_cell BG 2).trans rfl; have c3 : w3.cell? ⟨w.heap.size, 3, none⟩ = some (.int .i64 rate) := (blk_cell BG 3).trans rfl; have r0 : w3.cell? ⟨w.heap.size + 1, 0, none⟩ = some (.int .i64 b) := (blk_cell BR 0).trans rfl; have r1 : w3.cell? ⟨w.heap.size + 1, 1, none⟩ = some (.int .i64 n) := (blk_cell BR 1).trans rfl; have r2 : w3.cell? ⟨w.heap.size + 1, 2, none⟩ = some (.int .i64 d) := (blk_cell BR 2).trans rfl; have r3 : w3.cell? ⟨w.heap.size + 1, 3, none⟩ = some (.int .i64 s) := (blk_cell BR 3).trans rfl)
      | (go_at_call 93; refine (unless_call _ _ _ _ HU.out).mono ?_; rintro e w4 ⟨rfl, hd4⟩; have hb4 := hd4.below; clear hd4; have n0_ := blk_below (g := w.heap.size) (o := .cells #[.int .i64 at_, .int .i64 lo, .int .i64 hi, .int .i64 rate] 75 (0, 0)) (by (with_reducible repeat (first | refine blk_drewN ?_ _ | refine blk_drew ?_ | refine blk_alloc ?_ _)); exact BG) hb4; have n1_ := blk_below (g := w.heap.size + 1) (o := .cells #[.int .i64 b, .int .i64 n, .int .i64 d, .int .i64 s] 77 (0, 0)) (by (with_reducible repeat (first | refine blk_drewN ?_ _ | refine blk_drew ?_ | refine blk_alloc ?_ _)); exact BR) hb4; have n2_ := bl_next (by repeat (first | exact HB | apply bl_alloc | apply bl_drewN | apply bl_drew)) hb4; clear c0 c1 c2 c3 r0 r1 r2 r3; clear BG BR HB hb4; have BG := n0_; have BR := n1_; have HB := n2_; clear n0_ n1_ n2_; have c0 : w4.cell? ⟨w.heap.size, 0, none⟩ = some (.int .i64 at_) := (blk_cell BG 0).trans rfl; have c1 : w4.cell? ⟨w.heap.size, 1, none⟩ = some (.int .i64 lo) := (blk_cell BG 1).trans rfl; have c2 : w4.cell? ⟨w.heap.size, 2, none⟩ = some (.int .i64 hi) := (blk_cell BG 2).trans rfl; have c3 : w4.cell? ⟨w.heap.size, 3, none⟩ = some (.int .i64 rate) := (blk_cell BG 3).trans rfl; have r0 : w4.cell? ⟨w.heap.size + 1, 0, none⟩ = some (.int .i64 b) := (blk_cell BR 0).trans rfl; have r1 : w4.cell? ⟨w.heap.size + 1, 1, none⟩ = some (.int .i64 n) := (blk_cell BR 1).trans rfl; have r2 : w4.cell? ⟨w.heap.size + 1, 2, none⟩ = some (.int .i64 d) := (blk_cell BR 2).trans rfl; have r3 : w4.cell? ⟨w.heap.size + 1, 3, none⟩ = some (.int .i64 s) := (blk_cell BR 3).trans rfl)
      | (go_at_call 90; refine (first_lit3 _ _ _ _ _ _ HV.out).mono ?_; rintro e w5 ⟨rfl, hd5⟩; have hb5 := hd5.below; clear hd5; have n0_ := blk_below (g := w.heap.size) (o := .cells #[.int .i64 at_, .int .i64 lo, .int .i64 hi, .int .i64 rate] 75 (0, 0)) (by (with_reducible repeat (first | refine blk_drewN ?_ _ | refine blk_drew ?_ | refine blk_alloc ?_ _)); exact BG) hb5; have n1_ := blk_below (g := w.heap.size + 1) (o := .cells #[.int .i64 b, .int .i64 n, .int .i64 d, .int .i64 s] 77 (0, 0)) (by (with_reducible repeat (first | refine blk_drewN ?_ _ | refine blk_drew ?_ | refine blk_alloc ?_ _)); exact BR) hb5; have n2_ := bl_next (by repeat (first | exact HB | apply bl_alloc | apply bl_drewN | apply bl_drew)) hb5; clear c0 c1 c2 c3 r0 r1 r2 r3; clear BG BR HB hb5; have BG := n0_; have BR := n1_; have HB := n2_; clear n0_ n1_ n2_; have c0 : w5.cell? ⟨w.heap.size, 0, none⟩ = some (.int .i64 at_) := (blk_cell BG 0).trans rfl; have c1 : w5.cell? ⟨w.heap.size, 1, none⟩ = some (.int .i64 lo) := (blk_cell BG 1).trans rfl; have c2 : w5.cell? ⟨w.heap.size, 2, none⟩ = some (.int .i64 hi) := (blk_cell BG 2).trans rfl; have c3 : w5.cell? ⟨w.heap.size, 3, none⟩ = some (.int .i64 rate) := (blk_cell BG 3).trans rfl; have r0 : w5.cell? ⟨w.heap.size + 1, 0, none⟩ = some (.int .i64 b) := (blk_cell BR 0).trans rfl; have r1 : w5.cell? ⟨w.heap.size + 1, 1, none⟩ = some (.int .i64 n) := (blk_cell BR 1).trans rfl; have r2 : w5.cell? ⟨w.heap.size + 1, 2, none⟩ = some (.int .i64 d) := (blk_cell BR 2).trans rfl; have r3 : w5.cell? ⟨w.heap.size + 1, 3, none⟩ = some (.int .i64 s) := (blk_cell BR 3).trans rfl))
    all_goals (go_wp2_with fail; go_meet; exact ⟨rfl, Lib.hid BG, Lib.hid BR, Lib.hid HB⟩)
  case rest =>
    obtain ⟨rfl, HG, HRR, HBx⟩ := hcut
    have hf := HH.out
    unfold governor_GateRun.f at hf
    have hf1 := Option.some.inj hf
    clear hf
    by_cases hz : v = 0
    · have hge0 : ge = 0 := by
        have := HV.out
        by_cases h0 : ge = 0
        · exact h0
        · rw [if_neg h0] at this; omega
      have hre0 : re = 0 := by
        have := HV.out
        rw [if_pos hge0] at this
        by_cases h0 : re = 0
        · exact h0
        · rw [if_neg h0] at this; omega
      have hu0 : u = 0 := by have := HV.out; rw [if_pos hge0, if_pos hre0] at this; omega
      have hlen : l.length ≤ 200 := by
        have := HU.out
        by_cases h0 : (l.length : Int) ≤ 200
        · omega
        · rw [if_neg (by simpa using h0)] at this; omega
      have hgz : gateErr at_ lo hi rate = 0 := by rw [← HGE.out]; exact hge0
      have hrz : rulesErr b n d s = 0 := by rw [← HRE.out]; exact hre0
      have hre : runErr at_ lo hi rate b n d s l = devsErr l := by unfold runErr; rw [if_pos hgz, if_pos hrz, if_pos (by omega)]
      rw [hre] at hf1
      obtain ⟨fe, hfe⟩ : ∃ fe, fe = devsErr l := ⟨_, rfl⟩
      rw [← hfe] at hf1
      have HFE := Lib.hid hfe
      have HF := Lib.hid hf1
      have HRZ := Lib.hid hrz
      clear hge0 hre0 hu0 hgz hrz hre hfe hf1 HV HU HGE HRE HH
      subst hz
      go_wp2_with fail
      refine (each_int 127 #[] (enters_of Tryz.func127 (by kernel_rfl) rfl) (fun i => speedErr (l.getD i 0)) A l.length c l _ (Kd.C_below HR.out HBx.out) (by omega) ?chk).mono ?_
      case chk =>
        intro W i hi hbW
        exact dev1 (i : Int) (l.getD i 0) W _ rfl
      rintro e w2 ⟨rfl, hb2⟩
      have hd : (firstBad (fun i => speedErr (l.getD i 0)) 0 l.length).2 = fe := HFE.out.symm
      rw [hd]
      generalize (firstBad (fun i => speedErr (l.getD i 0)) 0 l.length).1 = f1
      have HD := Lib.hid hd
      have BG := blk_below HG.out hb2
      have BR := blk_below HRR.out hb2
      have HB := bl_next HBx.out hb2
      clear hd hb2 HG HRR HBx
      by_cases hfz : fe = 0
      · have HF2 := HF.out
        rw [if_pos hfz] at HF2
        have HF3 := Lib.hid HF2
        have HD2 := Lib.hid (HD.out.trans hfz)
        clear HF HF2 HD
        subst hfz
        have c0 : w2.cell? ⟨w.heap.size, 0, none⟩ = some (.int .i64 at_) := (blk_cell BG 0).trans rfl
        have c1 : w2.cell? ⟨w.heap.size, 1, none⟩ = some (.int .i64 lo) := (blk_cell BG 1).trans rfl
        have c2 : w2.cell? ⟨w.heap.size, 2, none⟩ = some (.int .i64 hi) := (blk_cell BG 2).trans rfl
        have c3 : w2.cell? ⟨w.heap.size, 3, none⟩ = some (.int .i64 rate) := (blk_cell BG 3).trans rfl
        go_wp2_with fail
        have BS0 : (w2.alloc (.cells #[.int .i64 at_, .int .i64 lo, .int .i64 hi, .int .i64 rate] 165)).heap[w2.heap.size]? = some (.cells #[.int .i64 at_, .int .i64 lo, .int .i64 hi, .int .i64 rate] 165 (0, 0)) := blk_new w2 _
        have BR0 := blk_alloc BR (.cells #[.int .i64 at_, .int .i64 lo, .int .i64 hi, .int .i64 rate] 165)
        have HB0 := bl_alloc HB (.cells #[.int .i64 at_, .int .i64 lo, .int .i64 hi, .int .i64 rate] 165)
        have hlt2 := blk_lt BR
        have HBW := Lib.hid HB.size
        clear c0 c1 c2 c3 BG BR HB
        go_loopw [10, 37] (fun out i wr => ∃ (k : Nat) (qs : List Int) (atk : Int), k ≤ l.length ∧ i = .int .i64 (k : Nat) ∧ Hid (Kd.R (Kd.int .i64) 3 wr w.heap.size (fun j => j ≠ w2.heap.size ∧ j ≠ w.heap.size + 1) out qs) ∧ Hid (Below w.heap.size w wr) ∧
            Hid (wr.heap[w2.heap.size]? = some (.cells #[.int .i64 atk, .int .i64 lo, .int .i64 hi, .int .i64 rate] 165 (0, 0))) ∧ Hid (wr.heap[w.heap.size + 1]? = some (.cells #[.int .i64 b, .int .i64 n, .int .i64 d, .int .i64 s] 77 (0, 0))) ∧
            Hid (qs.length = k ∧ runFrom lo hi rate b n d s at_ l = qs ++ runFrom lo hi rate b n d s atk (l.drop k)))
          (fun _ i _ => l.length - (intOf i).toNat)
        case atStart => exact ⟨0, [], at_, by omega, rfl, Lib.hid (Kd.R_nil _ _ _ _ _), Lib.hid HB0, Lib.hid BS0, Lib.hid BR0, Lib.hid ⟨rfl, by simp⟩⟩
        case round =>
          obtain ⟨k, qs, atk, hk, rfl, HO, HBk, HS, HRk, HQ⟩ := hrel
          by_cases hlt : k < l.length
          · obtain ⟨ad, rfl, h0⟩ := Kd.at_int HR.out (k : Int) (by omega) (by omega)
            rw [rd_nat, Int.toNat_natCast] at h0
            obtain ⟨x, hx⟩ : ∃ x, x = l.getD k 0 := ⟨_, rfl⟩
            rw [← hx] at h0
            have h1 := pw_cell_below HBk.out h0
            have HSP := Lib.hid (show speedErr x = 0 by rw [hx]; exact firstBad_nil2 HD2.out k (by omega) (by omega))
            have HX := Lib.hid hx
            clear hx h0
            have r0 : wr.cell? ⟨w.heap.size + 1, 0, none⟩ = some (.int .i64 b) := (blk_cell HRk.out 0).trans rfl
            have r1_ : wr.cell? ⟨w.heap.size + 1, 1, none⟩ = some (.int .i64 n) := (blk_cell HRk.out 1).trans rfl
            have r2_ : wr.cell? ⟨w.heap.size + 1, 2, none⟩ = some (.int .i64 d) := (blk_cell HRk.out 2).trans rfl
            have r3 : wr.cell? ⟨w.heap.size + 1, 3, none⟩ = some (.int .i64 s) := (blk_cell HRk.out 3).trans rfl
            go_wp2_with fail
            refine (Q.governor_wanted.calls b n d s x (wantOf b n d s x) _ (wanted_eval HRZ.out HSP.out)).mono ?_
            rintro e w4 ⟨rfl, hb4⟩
            have HS4 := Lib.hid (blk_below HS.out hb4)
            have HR4 := Lib.hid (blk_below HRk.out hb4)
            have HO4 := Lib.hid (Kd.R_below HO.out hb4)
            have HB4 := Lib.hid (bl_next HBk.out hb4)
            clear hb4 r0 r1_ r2_ r3 h1 HO HBk HS HRk
            go_wp2_with fail
            refine (gate_step.calls w2.heap.size atk lo hi rate (wantOf b n d s x) (stepOf atk lo hi rate (wantOf b n d s x)) _ HS4.out rfl).mono ?_
            rintro e w5 ⟨rfl, w6, hb6, rfl⟩
            have HS5 := Lib.hid (blk_put (blk_below HS4.out hb6) 0 (.int .i64 (stepOf atk lo hi rate (wantOf b n d s x))) (cs' := #[.int .i64 (stepOf atk lo hi rate (wantOf b n d s x)), .int .i64 lo, .int .i64 hi, .int .i64 rate]) rfl)
            have HR5 := Lib.hid (blk_far (p := ⟨w2.heap.size, 0, none⟩) (blk_below HR4.out hb6) (by show w.heap.size + 1 ≠ w2.heap.size; omega) (.int .i64 (stepOf atk lo hi rate (wantOf b n d s x))))
            have HO5 := Lib.hid (Kd.R_far (p := ⟨w2.heap.size, 0, none⟩) (Kd.R_below HO4.out hb6) (fun _ hk => hk.1) (.int .i64 (stepOf atk lo hi rate (wantOf b n d s x))))
            have HB5 := Lib.hid (below_set (j := 0) (v := .int .i64 (stepOf atk lo hi rate (wantOf b n d s x))) (bl_next HB4.out hb6) HBW.out)
            generalize hst : stepOf atk lo hi rate (wantOf b n d s x) = st at HS5 HR5 HO5 HB5 ⊢
            have HST := Lib.hid hst
            clear hst hb6 HS4 HR4 HO4 HB4
            generalize w6.setCell ⟨w2.heap.size, 0, none⟩ (.int .i64 st) = w7 at HS5 HR5 HO5 HB5 ⊢
            have q0 : w7.cell? ⟨w2.heap.size, 0, none⟩ = some (.int .i64 st) := (blk_cell HS5.out 0).trans rfl
            go_wp2_with (at_builtin; refine Kd.R_append (Kd.int .i64) (w0 := w) w.heap.size rfl (.tmp 45) (.tmp 49) 22 3 (.int .i64 0) 8 rfl Tryz.underlying22 Q.info3 rfl (by decide) (by omega) _ qs st [.int .i64 st] (fun j => j ≠ w2.heap.size ∧ j ≠ w.heap.size + 1) (fun _ => False) rfl rfl rfl (fun _ hk => hk.elim) (fun j hj => ⟨by have := blk_lt HS5.out; omega, by have := blk_lt HR5.out; omega⟩) HO5.out HB5.out HB5.out.size (by have := HQ.out.1; omega) ?_; intro v1 w8 ho hb hg hat)
            go_roundw
            case rel =>
              refine ⟨k + 1, qs ++ [st], st, by omega, by go_num, Lib.hid ho, Lib.hid hb, Lib.hid (blk_grown HS5.out hg ?_), Lib.hid (blk_grown HR5.out hg ?_), Lib.hid ⟨by rw [List.length_append, HQ.out.1]; rfl, ?_⟩⟩
              · intro e; exact (HO5.out.1 _ e.symm).1 rfl
              · intro e; exact (HO5.out.1 _ e.symm).2 rfl
              · rw [HQ.out.2, runFrom_step lo hi rate b n d s atk l k hlt, ← HX.out, HST.out, List.append_assoc]; rfl
            case measure => simp [intOf]; omega
          · have hq := HQ.out.2
            rw [show k = l.length by omega, List.drop_length] at hq
            have HF4 := HF3.out
            rw [hq] at HF4
            obtain ⟨rfl, rfl⟩ : r1 = qs ∧ (0 : Int) = r2 := by
              have e1 : (qs ++ [], (0 : Int)) = (r1, r2) := HF4
              rw [List.append_nil] at e1
              injection e1 with h1 h2; exact ⟨h1.symm, h2⟩
            clear hq HF4
            go_wp2_with fail
            go_ret2
            exact ⟨_, rfl, Kd.R_mono HO.out (fun _ _ => trivial), HBk.out⟩
      · have HF2 := HF.out
        rw [if_neg hfz] at HF2
        obtain ⟨rfl, rfl⟩ : r1 = [] ∧ fe = r2 := by injection HF2 with h1 h2; exact ⟨h1.symm, h2⟩
        have hne : (fe == 0) = false := by simpa using hfz
        have hne2 : (fe != 0) = true := by simpa using hfz
        clear HF HF2 hfz
        go_wp2_with fail
        go_ret2
        exact ⟨_, rfl, Kd.R_nil _ _ _ _ _, HB⟩
    · have hr : r1 = [] ∧ v = r2 := by
        have hv : runErr at_ lo hi rate b n d s l = v := by
          have h1 := HV.out
          unfold runErr
          rw [← HGE.out, ← HRE.out]
          by_cases h0 : ge = 0
          · rw [if_pos h0] at h1
            rw [if_pos h0]
            by_cases h2 : re = 0
            · rw [if_pos h2] at h1
              rw [if_pos h2]
              have h3 := HU.out
              by_cases h4 : (l.length : Int) ≤ 200
              · rw [if_pos (by simpa using h4)] at h3; omega
              · rw [if_neg (by simpa using h4)] at h3; rw [if_neg h4]; omega
            · rw [if_neg h2] at h1
              rw [if_neg h2, h1]
          · rw [if_neg h0] at h1
            rw [if_neg h0, h1]
        rw [hv, if_neg hz] at hf1
        injection hf1 with h1 h2
        exact ⟨h1.symm, h2⟩
      obtain ⟨rfl, rfl⟩ := hr
      have hne : (v == 0) = false := by simpa using hz
      have hne2 : (v != 0) = true := by simpa using hz
      clear hf1 hz HV HU HGE HRE HH
      go_wp2_with fail
      go_ret2
      exact ⟨_, rfl, Kd.R_nil _ _ _ _ _, HBx.out⟩
end Go.Proofs.YtmpondcccbmlhaaGreat.Ext
