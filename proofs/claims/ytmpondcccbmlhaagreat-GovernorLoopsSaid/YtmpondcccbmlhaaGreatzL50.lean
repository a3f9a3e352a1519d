/- A part of the claim L: the texts ExN, Q28, PuLoop, without what the claim does not lean on. -/
import Derived.ArgAppend
import Derived.Below
import Derived.BigQuiet
import Derived.Deep.AppendLies
import Derived.Deep.CutBlock
import Derived.Deep.DeepCutAuto
import Derived.Deep.Draws
import Derived.Deep.LoopGhost
import Derived.Deep.OwnRows
import Derived.Deep.QuietTactic
import Derived.Deep.RegionHeld3
import Derived.Deep.RegionWith
import Derived.Deep.WholeRow
import Derived.Ground.SlsfProg
import Derived.KernelRfl
import Derived.Laws.BitsLemmas
import Derived.Laws.BytesArg
import Derived.Laws.ComplexArith
import Derived.Laws.IdiomCopy
import Derived.Laws.MakeOwn
import Derived.Laws.OwnMore
import Derived.Laws.Rows
import Derived.Laws.Slices
import Derived.Laws.StructEq
import Derived.Lib.AppendStr
import Derived.Lib.ConvBytes
import Derived.Lib.Hide
import Derived.Lib.LazyBuf
import Derived.LoopIn
import Derived.LoopNIn
import Derived.Maps.AppendAt
import Derived.OrdersHeld
import Derived.Outline
import Derived.OwnWalk
import Derived.OwnWalkIn
import Derived.RangeFuncBound
import Derived.RangeFuncCalls
import Derived.RangeFuncLeaves
import Derived.RangeFuncNested
import Derived.RowKit
import Derived.RowKit3
import Derived.Shelf.Abstract
import Derived.Shelf.RegionOpen
import Derived.Shelf.SlSortCmp.HeapSort1
import Derived.Shelf.SlSortCmp.Insertion
import Derived.Shelf.SlSortCmp.Insertion1
import Derived.Shelf.SlSortCmp.Median1
import Derived.Shelf.SlSortCmp.PartialInsertion1
import Derived.Shelf.SlSortCmp.Partition1
import Derived.Shelf.SlSortCmp.PartitionEqual1
import Derived.Shelf.SlSortCmp.Pdq1
import Derived.Shelf.SlSortCmp.Pivot1
import Derived.Shelf.SlSortCmp.ReverseRange1
import Derived.Shelf.SlSortCmp.SiftDown1
import Derived.Shelf.SlSortCmp.Whole1
import Derived.Shelf.Slices.Empties2
import Derived.Shelf.Slices.Equal
import Derived.Shelf.Slices.In.SortNone
import Derived.Shelf.Small.Bits
import Derived.Shelf.Sort.Plain
import Derived.Shelf.Strconv.Itoa0
import Derived.Sort.CutIn
import Derived.Tactics
import Derived.TacticsInMore
import Derived.WalkKit
import Derived.WalkLawsBesides
import Derived.WideLaws
import Derived.Test.YtmpondcccbmlhaaGreatProg
import Derived.Test.YtmpondcccbmlhaaGreatzL0
import Derived.Test.YtmpondcccbmlhaaGreatzL1
import Derived.Test.YtmpondcccbmlhaaGreatzL2
import Derived.Test.YtmpondcccbmlhaaGreatzL3
import Derived.Test.YtmpondcccbmlhaaGreatzL4
import Derived.Test.YtmpondcccbmlhaaGreatzL5
import Derived.Test.YtmpondcccbmlhaaGreatzL6
import Derived.Test.YtmpondcccbmlhaaGreatzL7
import Derived.Test.YtmpondcccbmlhaaGreatzL8
import Derived.Test.YtmpondcccbmlhaaGreatzL9
import Derived.Test.YtmpondcccbmlhaaGreatzL10
import Derived.Test.YtmpondcccbmlhaaGreatzL12
import Derived.Test.YtmpondcccbmlhaaGreatzL13
import Derived.Test.YtmpondcccbmlhaaGreatzL14
import Derived.Test.YtmpondcccbmlhaaGreatzL15
import Derived.Test.YtmpondcccbmlhaaGreatzL16
import Derived.Test.YtmpondcccbmlhaaGreatzL17
import Derived.Test.YtmpondcccbmlhaaGreatzL18
import Derived.Test.YtmpondcccbmlhaaGreatzL19
import Derived.Test.YtmpondcccbmlhaaGreatzL20
import Derived.Test.YtmpondcccbmlhaaGreatzL21
import Derived.Test.YtmpondcccbmlhaaGreatzL22
import Derived.Test.YtmpondcccbmlhaaGreatzL23
import Derived.Test.YtmpondcccbmlhaaGreatzL24
import Derived.Test.YtmpondcccbmlhaaGreatzL25
import Derived.Test.YtmpondcccbmlhaaGreatzL26
import Derived.Test.YtmpondcccbmlhaaGreatzL27
import Derived.Test.YtmpondcccbmlhaaGreatzL28
import Derived.Test.YtmpondcccbmlhaaGreatzL29
import Derived.Test.YtmpondcccbmlhaaGreatzL30
import Derived.Test.YtmpondcccbmlhaaGreatzL31
import Derived.Test.YtmpondcccbmlhaaGreatzL32
import Derived.Test.YtmpondcccbmlhaaGreatzL33
import Derived.Test.YtmpondcccbmlhaaGreatzL34
import Derived.Test.YtmpondcccbmlhaaGreatzL35
import Derived.Test.YtmpondcccbmlhaaGreatzL36
import Derived.Test.YtmpondcccbmlhaaGreatzL37
import Derived.Test.YtmpondcccbmlhaaGreatzL38
import Derived.Test.YtmpondcccbmlhaaGreatzL39
import Derived.Test.YtmpondcccbmlhaaGreatzL40
import Derived.Test.YtmpondcccbmlhaaGreatzL41
import Derived.Test.YtmpondcccbmlhaaGreatzL42
import Derived.Test.YtmpondcccbmlhaaGreatzL43
import Derived.Test.YtmpondcccbmlhaaGreatzL44
import Derived.Test.YtmpondcccbmlhaaGreatzL45
import Derived.Test.YtmpondcccbmlhaaGreatzL46
import Derived.Test.YtmpondcccbmlhaaGreatzL47
import Derived.Test.YtmpondcccbmlhaaGreatzL48
import Derived.Test.YtmpondcccbmlhaaGreatzL49
namespace Go.Proofs.YtmpondcccbmlhaaGreat.Ext
open Go Go.RowKit Go.Shelf Go.Proofs.YtmpondcccbmlhaaGreatW.PrintWords Go.Proofs.YtmpondcccbmlhaaGreatW.PrintLast Go.Proofs.YtmpondcccbmlhaaGreatW.PrintMore
set_option linter.unusedVariables false
def UnCall (l0 : List Int) (l1 : List (List Int)) (m : Nat) (b : List Int) : Prop :=
 ∀ (A0 : Option Addr) (c0 : Nat) (A1 : Option Addr) (c1 : Nat) (A2 : Option Addr) (c2 : Nat) (w : World) (base : Nat), base ≤ w.heap.size → Kd.C (Kd.int .i64) w A0 l0.length l0 → l0.length ≤ c0 → Kd.C (Kd.slice 3 (Kd.int .i64)) w A1 l1.length l1 → l1.length ≤ c1 →
  Kd.R (Kd.int .i64) 3 w base (fun _ => True) (.slice A2 b.length c2) b →
  Calls Tryz.prog 121 #[.agg #[.slice A0 l0.length c0, .slice A1 l1.length c1], .slice A2 b.length c2, .int .i64 (m : Nat)] w fun e w' =>
   ∃ v0 : Value, e = .returned (.tuple #[v0, .bool (unstOf (stabSum l0 l1) l1.length m b).2]) ∧ Kd.R (Kd.int .i64) 3 w' base (fun _ => True) v0 (unstOf (stabSum l0 l1) l1.length m b).1 ∧ Below w.heap.size w w'
set_option maxHeartbeats 4000000 in
set_option maxRecDepth 100000 in
theorem un_zero {l0 : List Int} {l1 : List (List Int)} (hOK : (loopErr l0 l1).2 = 0) (b : List Int) (hb : SetOk l1.length b) : UnCall l0 l1 0 b := by
 intro A0 c0 A1 c1 A2 c2 w base hbase hr0 hc0 hr1 hc1 hr2
 obtain ⟨hso, hpo, -⟩ := loop_sum hOK hb
 have h6 : l1.length ≤ 6 := (loopErr_ok (i := (loopErr l0 l1).1) (Prod.ext rfl hOK)).2.2.1
 have hl5 : l0.length ≤ 5 := (loopErr_ok (i := (loopErr l0 l1).1) (Prod.ext rfl hOK)).1.2
 have hsl := set_len hb
 have hl2 := (Kd.R_reads' hr2).2.1
 have HR0 := Lib.hid hr0
 have HR1 := Lib.hid hr1
 have HR2 := Lib.hid hr2
 obtain ⟨s, hs⟩ : ∃ s, s = stabSum l0 l1 b := ⟨_, rfl⟩
 have hs2 : Q.gr6_Stable.f (sumTo l0 l1 b b.length) = some s := by rw [hs]; exact rstable_eval hpo
 have hval : unstOf (stabSum l0 l1) l1.length 0 b = (b, !s) := by rw [hs]; rfl
 rw [hval]
 have hsum := rsum_eval hso (by omega) (by omega) 3000 (Nat.le_refl _)
 obtain ⟨S, hS⟩ : ∃ S, S = sumTo l0 l1 b b.length := ⟨_, rfl⟩
 rw [← hS] at hs2 hsum
 have HST := Lib.hid hs2
 have HSUM := Lib.hid hsum
 clear hs hs2 hval hS hsum hso hpo hr0 hr1 hr2
 go_enter Tryz.func121, Tryz.ntmps121
 go_upto_region 1 with fail
 have hb1 : Below w.heap.size w (w.alloc (Obj.cells #[Value.slice A0 l0.length c0, Value.slice A1 l1.length c1] 63)) := bl_alloc (Below.refl _ _) _
 have k0 : (w.alloc (Obj.cells #[Value.slice A0 l0.length c0, Value.slice A1 l1.length c1] 63)).cell? ⟨w.heap.size, 0, none⟩ = some (Value.slice A0 l0.length c0) := by simp
 have k1 : (w.alloc (Obj.cells #[Value.slice A0 l0.length c0, Value.slice A1 l1.length c1] 63)).cell? ⟨w.heap.size, 1, none⟩ = some (Value.slice A1 l1.length c1) := by simp
 generalize (w.alloc (Obj.cells #[Value.slice A0 l0.length c0, Value.slice A1 l1.length c1] 63)) = W1 at hb1 k0 k1 ⊢
 have HB1 := Lib.hid hb1
 clear hb1
 go_wp2_with fail
 refine (Q.gr6_Sum.calls 3000 A0 c0 l0 A1 c1 l1 A2 c2 b S _ (Kd.C_below HR0.out HB1.out) hc0 (Kd.C_below HR1.out HB1.out) hc1 (Kd.C_below (Kd.R_reads' HR2.out).2.2 HB1.out) hl2 HSUM.out).mono ?_
 rintro e w2 ⟨v2, rfl, hR2, hb2⟩
 obtain ⟨A5, c5, e5⟩ := Kd.R_slice hR2
 subst e5
 have hl5' := (Kd.R_reads' hR2).2.1
 have HC5 := Lib.hid (Kd.R_reads' hR2).2.2
 have HB2 := Lib.hid (bl_next HB1.out hb2)
 clear hR2 hb2 k0 k1
 go_wp2_with fail
 refine (Q.gr6_Stable.calls A5 c5 S s _ HC5.out hl5' HST.out).mono ?_
 rintro e w3 ⟨rfl, hb3⟩
 have HB3 := Lib.hid (bl_next HB2.out hb3)
 clear hb3
 go_wp2_with fail
 go_ret2
 exact ⟨_, rfl, Kd.R_below HR2.out HB3.out, HB3.out⟩
set_option maxHeartbeats 4000000 in
set_option maxRecDepth 100000 in
theorem un_succ {l0 : List Int} {l1 : List (List Int)} (hOK : (loopErr l0 l1).2 = 0) (m : Nat) (hm : m ≤ 100) (IH : ∀ b, SetOk l1.length b → UnCall l0 l1 m b) (b : List Int) (hb : SetOk l1.length b) : UnCall l0 l1 (m + 1) b := by
 intro A0 c0 A1 c1 A2 c2 w base hbase hr0 hc0 hr1 hc1 hr2
 have h6 : l1.length ≤ 6 := (loopErr_ok (i := (loopErr l0 l1).1) (Prod.ext rfl hOK)).2.2.1
 have hsl := set_len hb
 have hl2 := (Kd.R_reads' hr2).2.1
 have HR0 := Lib.hid hr0
 have HR1 := Lib.hid hr1
 have HR2 := Lib.hid hr2
 obtain ⟨g, hg⟩ : ∃ g : Nat → List Int × Bool, g = fun (i : Nat) => unstOf (stabSum l0 l1) l1.length m (b ++ [(i : Int)]) := ⟨_, rfl⟩
 obtain ⟨fr, hfr⟩ : ∃ fr, fr = fromOf b := ⟨_, rfl⟩
 obtain ⟨R, hR⟩ : ∃ R, R = searchFrom g (l1.length - fr) fr := ⟨_, rfl⟩
 have hval : unstOf (stabSum l0 l1) l1.length (m + 1) b = R := by rw [hR, hg, hfr]; rfl
 rw [hval]
 have HG := Lib.hid hg
 have HFR := Lib.hid hfr
 have HRV := Lib.hid hR
 have HIH := Lib.hid IH
 have HSB := Lib.hid hb
 have hfrn : fr ≤ l1.length := by
  rw [hfr]; unfold fromOf
  split
  ·omega
  ·have := hb (b.length - 1) (by omega); omega
 have hmz : decide (((m + 1 : Nat) : Int) = 0) = false := decide_eq_false (by omega)
 have HLL : Hid (0 < b.length → 0 ≤ b.getD (b.length - 1) 0 ∧ b.getD (b.length - 1) 0 + 1 = (fr : Int)) := Lib.hid (fun h0 => by
  have h1 := hb (b.length - 1) (by omega)
  rw [hfr]; unfold fromOf; rw [if_neg (by omega)]; omega)
 have HFZ : Hid (b.length = 0 → fr = 0) := Lib.hid (fun h0 => by rw [hfr]; unfold fromOf; rw [if_pos h0])
 clear hg hfr hR hval IH hb hr0 hr1 hr2 hOK
 go_enter Tryz.func121, Tryz.ntmps121
 go_upto_region 1 with fail
 have hb1 : Below w.heap.size w (w.alloc (Obj.cells #[Value.slice A0 l0.length c0, Value.slice A1 l1.length c1] 63)) := bl_alloc (Below.refl _ _) _
 have k0 : (w.alloc (Obj.cells #[Value.slice A0 l0.length c0, Value.slice A1 l1.length c1] 63)).cell? ⟨w.heap.size, 0, none⟩ = some (Value.slice A0 l0.length c0) := by simp
 have k1 : (w.alloc (Obj.cells #[Value.slice A0 l0.length c0, Value.slice A1 l1.length c1] 63)).cell? ⟨w.heap.size, 1, none⟩ = some (Value.slice A1 l1.length c1) := by simp
 have hsz : w.heap.size < (w.alloc (Obj.cells #[Value.slice A0 l0.length c0, Value.slice A1 l1.length c1] 63)).heap.size := by simp
 generalize (w.alloc (Obj.cells #[Value.slice A0 l0.length c0, Value.slice A1 l1.length c1] 63)) = W1 at hb1 k0 k1 hsz ⊢
 have HB1 := Lib.hid hb1
 have HK0 := Lib.hid k0
 have HK1 := Lib.hid k1
 clear hb1 k0 k1
 go_upto_if 22 with fail
 go_cut [8] from 23 to 29 (fun s8 wx => s8 = .int .i64 (fr : Int) ∧ wx = W1)
 case first =>
  by_cases hb0 : b.length = 0
  ·have hfz := HFZ.out hb0
   have hdb : decide ((b.length : Int) > 0) = false := decide_eq_false (by omega)
   have hbp : decide (0 < b.length) = false := decide_eq_false (by omega)
   go_wp2_with fail
   all_goals (go_meet; first | exact ⟨by rw [hfz]; rfl, rfl⟩)
  ·have hdb : decide ((b.length : Int) > 0) = true := decide_eq_true (by omega)
   have hbp : decide (0 < b.length) = true := decide_eq_true (by omega)
   obtain ⟨adb, rfl, hx⟩ := Kd.at_int (Kd.R_reads' HR2.out).2.2 ((b.length - 1 : Nat) : Int) (by omega) (by omega)
   rw [rd_nat, Int.toNat_natCast] at hx
   obtain ⟨x, hxx⟩ : ∃ x, x = b.getD (b.length - 1) 0 := ⟨_, rfl⟩
   have hll := HLL.out (by omega)
   rw [← hxx] at hx hll
   have kx := pw_cell_below HB1.out hx
   have hw1 : IntKind.i64.wrap ((b.length : Int) - 1) = ((b.length - 1 : Nat) : Int) := by rw [i64_w, w64 (by omega) (by omega)]; omega
   have hw2 : IntKind.i64.wrap (x + 1) = (fr : Int) := by rw [i64_w, w64 (by omega) (by omega)]; exact hll.2
   clear hxx hx
   go_wp2_with fail
   all_goals (go_meet; exact ⟨by first | rfl | rw [← hll.2], rfl⟩)
 case rest =>
  obtain ⟨rfl, rfl⟩ := hcut
  go_wp2_with fail
  go_loopw [9] (fun x9 wr => ∃ i : Nat, fr ≤ i ∧ i ≤ l1.length ∧ x9 = .int .i64 (i : Nat) ∧ Hid (R = searchFrom g (l1.length - i) i) ∧ Hid (Below w.heap.size w wr) ∧ Hid (wr.cell? ⟨w.heap.size, 0, none⟩ = some (Value.slice A0 l0.length c0)) ∧ Hid (wr.cell? ⟨w.heap.size, 1, none⟩ = some (Value.slice A1 l1.length c1)) ∧ w.heap.size < wr.heap.size)
   (fun x9 _ => l1.length - (intOf x9).toNat)
  case atStart => exact ⟨fr, by omega, hfrn, rfl, HRV, HB1, HK0, HK1, hsz⟩
  case round =>
   obtain ⟨i, hi0, hi1, rfl, HRi, HBi, HKi0, HKi1, hszi⟩ := hrel
   have k0 := HKi0.out
   have k1 := HKi1.out
   by_cases hil : i < l1.length
   ·have hdl : decide ((i : Int) < (l1.length : Int)) = true := decide_eq_true (by omega)
    go_upto_region 9 with fail
    obtain ⟨ok, hok⟩ : ∃ ok, ok = (g i).2 := ⟨_, rfl⟩
    obtain ⟨rs, hrs⟩ : ∃ rs, rs = (g i).1 := ⟨_, rfl⟩
    have HOKE := Lib.hid hok
    have HRSE := Lib.hid hrs
    have HSTEP : Hid (R = if (g i).2 = true then g i else searchFrom g (l1.length - (i + 1)) (i + 1)) := Lib.hid (by
     rw [HRi.out, show l1.length - i = (l1.length - (i + 1)) + 1 by omega, searchFrom])
    refine un_region w.heap.size l0.length c0 l1.length c1 c2 i m A0 A1 A2 b rs ok ((m + 1 : Nat) : Int) _ (by omega) (by omega) (by omega) (by omega) k0 k1 (Kd.C_below (Kd.R_reads' HR2.out).2.2 HBi.out) hl2 ?hcall (fun _ _ _ _ _ h => h) ?_
    case hcall =>
     intro A6 c6 w6 hb6 ho6
     have hset := set_snoc HSB.out (i := i) (by rw [← HFR.out]; exact hi0) hil
     have hcc := HIH.out (b ++ [(i : Int)]) hset A0 c0 A1 c1 A6 c6 w6 _ hb6.size (Kd.C_below HR0.out (bl_next HBi.out hb6)) hc0 (Kd.C_below HR1.out (bl_next HBi.out hb6)) hc1 (by rw [List.length_append, List.length_singleton]; exact ho6)
     rw [List.length_append, List.length_singleton] at hcc
     rw [HOKE.out, HRSE.out, HG.out]
     exact hcc
    intro v0 w9 u38_ u39_ u40_ u41_ u42_ u43_ u44_ u45_ u46_ u47_ u48_ u49_ ho hb
    have HO9 := Lib.hid ho
    have HB9 := Lib.hid (bl_next HBi.out hb)
    have HC0 := Lib.hid (pw_cell_below hb k0)
    have HC1 := Lib.hid (pw_cell_below hb k1)
    have HSZ := hb.size
    have HLO := Lib.hid (show base ≤ wr.heap.size by omega)
    clear ho hb hok hrs k0 k1
    cases ok with
    | true =>
     go_wp2_with fail
     go_ret2
     have hR1 : R = g i := by rw [HSTEP.out, if_pos HOKE.out.symm]
     exact ⟨v0, by rw [hR1, ← HOKE.out]; rfl, by rw [hR1, ← HRSE.out]; exact Kd.R_lower HO9.out HLO.out, HB9.out⟩
    | false =>
     go_wp2_with fail
     go_roundw
     case rel =>
      exact ⟨i + 1, by omega, by omega, by go_num, Lib.hid (by rw [HSTEP.out, ← HOKE.out]; rfl), HB9, HC0, HC1, by omega⟩
     case measure => simp [intOf]; omega
   ·have hdl : decide ((i : Int) < (l1.length : Int)) = false := decide_eq_false (by omega)
    have hR0 : R = ([], false) := by rw [HRi.out, show l1.length - i = 0 by omega]; rfl
    go_wp2_with fail
    go_ret2
    exact ⟨.slice none 0 0, by rw [hR0]; rfl, by rw [hR0]; exact Kd.R_nil _ _ _ _ _, HBi.out⟩
theorem un_all {l0 : List Int} {l1 : List (List Int)} (hOK : (loopErr l0 l1).2 = 0) : ∀ (m : Nat), m ≤ 100 → ∀ b, SetOk l1.length b → UnCall l0 l1 m b := by
 intro m
 induction m with
 | zero => intro _ b hb; exact un_zero hOK b hb
 | succ m ih => intro hm b hb; exact un_succ hOK m (by omega) (ih (by omega)) b hb
noncomputable def gr6_Unstable.f (l0 : List Int) (l1 : List (List Int)) : Option (List Int × Bool) := if (loopErr l0 l1).2 = 0 then some (unstSizes (stabSum l0 l1) l1.length (l1.length + 1) 0) else none
set_option maxHeartbeats 4000000 in
set_option maxRecDepth 100000 in
theorem gr6_Unstable.calls (A0 : Option Addr) (c0 : Nat) (l0 : List Int) (A1 : Option Addr) (c1 : Nat) (l1 : List (List Int)) (r1 : List Int) (r2 : Bool) (w : World) (hr0 : Kd.C (Kd.int .i64) w A0 l0.length l0) (hc0 : l0.length ≤ c0) (hr1 : Kd.C (Kd.slice 3 (Kd.int .i64)) w A1 l1.length l1) (hc1 : l1.length ≤ c1) (h : gr6_Unstable.f l0 l1 = some (r1, r2)) :
  Calls Tryz.prog 46 #[.agg #[.slice A0 l0.length c0, .slice A1 l1.length c1]] w fun e w' => ∃ v0_ : Value, e = .returned (.tuple #[v0_, .bool r2]) ∧ Kd.R (Kd.int .i64) 3 w' w.heap.size (fun _ => True) v0_ r1 ∧ Below w.heap.size w w' := by
 unfold gr6_Unstable.f at h
 by_cases hOK : (loopErr l0 l1).2 = 0
 ·rw [if_pos hOK] at h
  have h6 : l1.length ≤ 6 := (loopErr_ok (i := (loopErr l0 l1).1) (Prod.ext rfl hOK)).2.2.1
  have HRV := Lib.hid (show (r1, r2) = unstSizes (stabSum l0 l1) l1.length (l1.length + 1 - 0) 0 from (Option.some.inj h).symm)
  have HUN := Lib.hid (un_all hOK)
  have HR0 := Lib.hid hr0
  have HR1 := Lib.hid hr1
  clear h hOK hr0 hr1
  go_enter Tryz.func46, Tryz.ntmps46
  go_upto_region 1 with fail
  have hb1 : Below w.heap.size w (w.alloc (Obj.cells #[Value.slice A0 l0.length c0, Value.slice A1 l1.length c1] 63)) := bl_alloc (Below.refl _ _) _
  have k0 : (w.alloc (Obj.cells #[Value.slice A0 l0.length c0, Value.slice A1 l1.length c1] 63)).cell? ⟨w.heap.size, 0, none⟩ = some (Value.slice A0 l0.length c0) := by simp
  have k1 : (w.alloc (Obj.cells #[Value.slice A0 l0.length c0, Value.slice A1 l1.length c1] 63)).cell? ⟨w.heap.size, 1, none⟩ = some (Value.slice A1 l1.length c1) := by simp
  have hsz : w.heap.size < (w.alloc (Obj.cells #[Value.slice A0 l0.length c0, Value.slice A1 l1.length c1] 63)).heap.size := by simp
  generalize (w.alloc (Obj.cells #[Value.slice A0 l0.length c0, Value.slice A1 l1.length c1] 63)) = W1 at hb1 k0 k1 hsz ⊢
  have HB1 := Lib.hid hb1
  have HK0 := Lib.hid k0
  have HK1 := Lib.hid k1
  clear hb1 k0 k1
  go_wp2_with fail
  go_loopw [4] (fun x4 wr => ∃ s : Nat, s ≤ l1.length + 1 ∧ x4 = .int .i64 (s : Nat) ∧ Hid ((r1, r2) = unstSizes (stabSum l0 l1) l1.length (l1.length + 1 - s) s) ∧ Hid (Below w.heap.size w wr) ∧ Hid (wr.cell? ⟨w.heap.size, 0, none⟩ = some (Value.slice A0 l0.length c0)) ∧ Hid (wr.cell? ⟨w.heap.size, 1, none⟩ = some (Value.slice A1 l1.length c1)) ∧ w.heap.size < wr.heap.size)
   (fun x4 _ => l1.length + 1 - (intOf x4).toNat)
  case atStart => exact ⟨0, by omega, rfl, HRV, HB1, HK0, HK1, hsz⟩
  case round =>
   obtain ⟨s, hs1, rfl, HRs, HBs, HKs0, HKs1, hszs⟩ := hrel
   have k0 := HKs0.out
   have k1 := HKs1.out
   by_cases hsl : s ≤ l1.length
   ·have hdl : decide ((s : Int) ≤ (l1.length : Int)) = true := decide_eq_true (by omega)
    have hcc := HUN.out s (by omega) [] (set_nil _) A0 c0 A1 c1 none 0 wr wr.heap.size (Nat.le_refl _) (Kd.C_below HR0.out HBs.out) hc0 (Kd.C_below HR1.out HBs.out) hc1 (Kd.R_nil _ _ _ _ _)
    have HSTEP := Lib.hid (show (r1, r2) = if (unstOf (stabSum l0 l1) l1.length s []).2 = true then unstOf (stabSum l0 l1) l1.length s [] else unstSizes (stabSum l0 l1) l1.length (l1.length - s) (s + 1) from by
     rw [HRs.out, show l1.length + 1 - s = (l1.length - s) + 1 by omega, unstSizes])
    obtain ⟨ok, hok⟩ : ∃ ok, ok = (unstOf (stabSum l0 l1) l1.length s []).2 := ⟨_, rfl⟩
    obtain ⟨rs, hrs⟩ : ∃ rs, rs = (unstOf (stabSum l0 l1) l1.length s []).1 := ⟨_, rfl⟩
    rw [← hok, ← hrs, List.length_nil] at hcc
    have HOKE := Lib.hid hok
    have HRSE := Lib.hid hrs
    have HCC := Lib.hid hcc
    clear hok hrs hcc
    go_wp2_with fail
    refine HCC.out.mono ?_
    rintro e w9 ⟨v0, rfl, ho, hb⟩
    have HO9 := Lib.hid ho
    have HB9 := Lib.hid (bl_next HBs.out hb)
    have HC0 := Lib.hid (pw_cell_below hb k0)
    have HC1 := Lib.hid (pw_cell_below hb k1)
    have HSZ := hb.size
    have HLO := Lib.hid (show w.heap.size ≤ wr.heap.size by omega)
    clear ho hb k0 k1
    cases ok with
    | true =>
     have hR1 := HSTEP.out
     rw [if_pos HOKE.out.symm] at hR1
     have e1 : r1 = rs := by rw [HRSE.out, ← hR1]
     have e2 : r2 = true := by rw [HOKE.out, ← hR1]
     subst e1 e2
     clear hR1
     go_wp2_with fail
     go_ret2
     exact ⟨v0, rfl, Kd.R_lower HO9.out HLO.out, HB9.out⟩
    | false =>
     go_wp2_with fail
     go_roundw
     case rel =>
      exact ⟨s + 1, by omega, by go_num, Lib.hid (by rw [HSTEP.out, ← HOKE.out, show l1.length + 1 - (s + 1) = l1.length - s by omega]; rfl), HB9, HC0, HC1, by omega⟩
     case measure => simp [intOf]; omega
   ·have hdl : decide ((s : Int) ≤ (l1.length : Int)) = false := decide_eq_false (by omega)
    have hR0 := HRs.out
    rw [show l1.length + 1 - s = 0 by omega] at hR0
    injection hR0 with e1 e2
    subst e1 e2
    go_wp2_with fail
    go_ret2
    exact ⟨.slice none 0 0, rfl, Kd.R_nil _ _ _ _ _, HBs.out⟩
 ·rw [if_neg hOK] at h; cases h
end Go.Proofs.YtmpondcccbmlhaaGreat.Ext
namespace Go.Proofs.YtmpondcccbmlhaaGreat.Q
open Go.RowKit Go.Proofs.YtmpondcccbmlhaaGreatW.PrintWords Go.Proofs.YtmpondcccbmlhaaGreatW.PrintLast Go.Proofs.YtmpondcccbmlhaaGreatW.PrintMore
attribute [local go_sem] max2_int min2_int max_two min_two max_three min_three max_four min_four   
set_option linter.unusedVariables false
set_option linter.unusedSimpArgs false
open Go.Proofs.YtmpondcccbmlhaaGreat.Ext
mutual
noncomputable def gl6_GovernorLoops.j0 : Nat → List Int → Bool → List Int → List (List Int) → Option (Bool)
 | 0, _, _, _, _ => none
 | k + 1, x1, x31, x391000, x391001 => if x31 = true then (some true) else ((gr6_CopyLoop.f k x391000 x391001).bind fun bt393 => ((gov_CheckLoop.f bt393.1 bt393.2).bind fun bt399 => ((gr6_CopyLoop.f k x391000 x391001).bind fun bt401 => ((gba_CopyInts.f x1).bind fun t407 => ((gov_SumFor.f bt401.1 bt401.2 t407).bind fun bt410 => ((gr6_CopyLoop.f k x391000 x391001).bind fun bt414 => ((gov_UnstableSet.f bt414.1 bt414.2).bind fun bt420 => ((gr6_CheckLoop.f k x391000 x391001).bind fun bt424 => (if bt399.2 = bt424.2 then (gl6_GovernorLoops.j1 k x1 bt410.1 bt410.2 bt420.1 bt420.2 bt424.2 (bt399.1 != bt424.1) x391000 x391001) else (gl6_GovernorLoops.j1 k x1 bt410.1 bt410.2 bt420.1 bt420.2 bt424.2 true x391000 x391001))))))))))
noncomputable def gl6_GovernorLoops.j1 : Nat → List Int → List Int → Int → List Int → Int → Int → Bool → List Int → List (List Int) → Option (Bool)
 | 0, _, _, _, _, _, _, _, _, _ => none
 | k + 1, x1, x7, x8, x9, x10, x12, x64, x391000, x391001 => if x64 = true then (some false) else (if x12 = 0 then ((gr6_SetErr.f k x391000 x391001 x1).bind fun t426 => (if t426 = 0 then (if x8 = 0 then ((gr6_Sum.f k x391000 x391001 x1).bind fun t427 => ((gba_Ints.f k x7 t427).bind fun t430 => (gl6_GovernorLoops.j2 k x9 x10 (!t430) x391000 x391001))) else (gl6_GovernorLoops.j2 k x9 x10 true x391000 x391001)) else (if x8 = t426 then (if (x7.length : Int) = 0 then (gl6_GovernorLoops.j2 k x9 x10 false x391000 x391001) else (gl6_GovernorLoops.j2 k x9 x10 true x391000 x391001)) else (gl6_GovernorLoops.j2 k x9 x10 true x391000 x391001)))) else (if x8 = x12 then (if x10 = x12 then (some ((wrap64 ((x7.length : Int) + (x9.length : Int))) == 0)) else (some false)) else (some false)))
noncomputable def gl6_GovernorLoops.j2 : Nat → List Int → Int → Bool → List Int → List (List Int) → Option (Bool)
 | 0, _, _, _, _, _ => none
 | k + 1, x9, x10, x113, x391000, x391001 => if x113 = true then (some false) else ((gr6_Unstable.f x391000 x391001).bind fun bt431 => (if bt431.2 = true then (if x10 = 0 then ((gba_Ints.f k x9 bt431.1).bind fun t435 => (gl6_GovernorLoops.j3 k x9 (!t435) x391000 x391001)) else (gl6_GovernorLoops.j3 k x9 true x391000 x391001)) else (if x10 = 12 then (some ((x9.length : Int) == 0)) else (some false))))
noncomputable def gl6_GovernorLoops.j3 : Nat → List Int → Bool → List Int → List (List Int) → Option (Bool)
 | 0, _, _, _, _ => none
 | k + 1, x9, x135, x391000, x391001 => if x135 = true then (some false) else (gl6_GovernorLoops.l0 k x9 (-1) x391000 x391001)
noncomputable def gl6_GovernorLoops.l0 : Nat → List Int → Int → List Int → List (List Int) → Option (Bool)
 | 0, _, _, _, _ => none
 | k + 1, x9, x15, x391000, x391001 => if x15 < (x9.length : Int) then (gl6_GovernorLoops.l1 k x9 x15 ([] : List Int) 0 x391000 x391001) else (some true)
noncomputable def gl6_GovernorLoops.l1 : Nat → List Int → Int → List Int → Int → List Int → List (List Int) → Option (Bool)
 | 0, _, _, _, _, _, _ => none
 | k + 1, x9, x15, x16, x17, x391000, x391001 => if x17 < (x9.length : Int) then (if x17 = x15 then (gl6_GovernorLoops.l1 k x9 x15 x16 (wrap64 (x17 + 1)) x391000 x391001) else (if 0 ≤ x17 then (if x16.length < 17592186044416 then (gl6_GovernorLoops.l1 k x9 x15 (x16 ++ [rd x9 x17]) (wrap64 (x17 + 1)) x391000 x391001) else (none)) else (none))) else ((gr6_CopyLoop.f k x391000 x391001).bind fun bt440 => ((gov_SumFor.f bt440.1 bt440.2 x16).bind fun bt446 => (if bt446.2 = 0 then ((gr6_PolynomialErr.f k bt446.1).bind fun t450 => (gl6_GovernorLoops.j6 k x9 x15 bt446.1 (t450 != 0) x391000 x391001)) else (gl6_GovernorLoops.j6 k x9 x15 bt446.1 true x391000 x391001))))
noncomputable def gl6_GovernorLoops.j6 : Nat → List Int → Int → List Int → Bool → List Int → List (List Int) → Option (Bool)
 | 0, _, _, _, _, _, _ => none
 | k + 1, x9, x15, x18, x171, x391000, x391001 => if x171 = true then (some false) else ((gov_IsStable.f k x18).bind fun bt451 => (if bt451.2 = 0 then (if (bt451.1 != (decide (x15 ≥ 0))) = true then (some false) else (gl6_GovernorLoops.l0 k x9 (wrap64 (x15 + 1)) x391000 x391001)) else (some false)))
end
noncomputable def gl6_GovernorLoops.f (k : Nat) (l0_0 : List Int) (l0_1 : List (List Int)) (l1 : List Int) : Option (Bool) := (gl6_awake.f).bind fun t391 => (if t391 = true then ((gl6_fewMachines.f k l0_0 l0_1).bind fun t392 => (if t392 = true then (gl6_GovernorLoops.j0 k l1 (decide ((l1.length : Int) > 8)) l0_0 l0_1) else (gl6_GovernorLoops.j0 k l1 true l0_0 l0_1))) else (some false))
set_option maxHeartbeats 8000000 in
set_option maxRecDepth 100000 in
theorem gl6_GovernorLoops.calls (k : Nat) (A0_0 : Option Addr) (c0_0 : Nat) (l0_0 : List Int) (A0_1 : Option Addr) (c0_1 : Nat) (l0_1 : List (List Int)) (A1 : Option Addr) (c1 : Nat) (l1 : List Int) (r : Bool) (w : World) (hr0_0 : Kd.C (Kd.int .i64) w A0_0 l0_0.length l0_0) (hc0_0 : l0_0.length ≤ c0_0) (hr0_1 : Kd.C (Kd.slice 3 (Kd.int .i64)) w A0_1 l0_1.length l0_1) (hc0_1 : l0_1.length ≤ c0_1) (hr1 : Kd.C (Kd.int .i64) w A1 l1.length l1) (hc1 : l1.length ≤ c1) (h : gl6_GovernorLoops.f k l0_0 l0_1 l1 = some r) :
  Calls Tryz.prog 6 #[.agg #[.slice A0_0 l0_0.length c0_0, .slice A0_1 l0_1.length c0_1], .slice A1 l1.length c1] w fun e w' => e = .returned (.bool r) ∧ Below w.heap.size w w' := by
 have hu63 := Tryz.underlying63
 have HR0_0 := Asd.mk hr0_0
 have HC0_0 := Asd.mk hc0_0
 clear hr0_0 hc0_0
 have HR0_1 := Asd.mk hr0_1
 have HC0_1 := Asd.mk hc0_1
 clear hr0_1 hc0_1
 have HR1 := Asd.mk hr1
 have HC1 := Asd.mk hc1
 clear hr1 hc1
 have HB := Asd.mk (Below.refl w.heap.size w)
 have H : ((gl6_awake.f).bind fun t391 => (if t391 = true then ((gl6_fewMachines.f k l0_0 l0_1).bind fun t392 => (if t392 = true then (gl6_GovernorLoops.j0 k l1 (decide ((l1.length : Int) > 8)) l0_0 l0_1) else (gl6_GovernorLoops.j0 k l1 true l0_0 l0_1))) else (some false))) = some r := h
 clear h
 replace H := Option.bind_eq_some_iff.mp H
 obtain ⟨t391, A30, H⟩ := H
 replace H : (if t391 = true then ((gl6_fewMachines.f k l0_0 l0_1).bind fun t392 => (if t392 = true then (gl6_GovernorLoops.j0 k l1 (decide ((l1.length : Int) > 8)) l0_0 l0_1) else (gl6_GovernorLoops.j0 k l1 true l0_0 l0_1))) else (some false)) = some r := H
 have A3 := Asd.mk A30
 clear A30
 by_cases c4 : t391 = true
 ·subst c4
  have H1 : ((gl6_fewMachines.f k l0_0 l0_1).bind fun t392 => (if t392 = true then (gl6_GovernorLoops.j0 k l1 (decide ((l1.length : Int) > 8)) l0_0 l0_1) else (gl6_GovernorLoops.j0 k l1 true l0_0 l0_1))) = some r := by rw [if_pos rfl] at H; exact H
  clear H
  have H := H1
  clear H1
  have HC5 := Asd.mk H
  clear H
  go_enter Tryz.func6, Tryz.ntmps6
  go_upto_region 3 with (first | ((with_reducible refine gate_dst (N := 2) rfl ?_); (try (refine gate_guard (by rfl) ?_; dsimp only)); refine box_event ?hg (N := 2) ?hd (cs := #[.slice A0_0 l0_0.length c0_0, .slice A0_1 l0_1.length c0_1]) (t := 63) ?hr ?_; (case hd => rfl); (case hg => rfl); (case hr => first | (go_simp; done) | (go_simp; rfl)); intro gb390 hg w6 hbox hb; have n0_ := Asd.mk (below_step (by repeat (first | (with_reducible first | exact HB.out | apply below_alloc | apply pbN | apply bd1) | exact HB.out)) hb); have n1_ := Asd.mk (hbox); have n2_ := Asd.mk ((by rw [hg]; exact (below_size (by repeat (first | (with_reducible first | exact HB.out | apply below_alloc | apply pbN | apply bd1) | exact HB.out))) : w.heap.size ≤ gb390)); have n3_ := Asd.mk ((by rw [hg]; exact (below_size (by repeat (first | (with_reducible first | exact HB.out | apply below_alloc | apply pbN | apply bd1) | exact HB.out))) : w.heap.size ≤ gb390)); clear HB; have HB := n0_; have BK390 := n1_; have GW390 := n2_; have GE390 := n3_; clear n0_ n1_ n2_ n3_; clear hb hbox hg) | ((with_reducible refine gate_callee (f := 16) rfl ?_); refine goesL_ (some 22) rfl rfl Tryz.func16 (by kernel_rfl) rfl #[] rfl (by (try simp only [List.map_toArray, List.map_cons, List.map_nil]); first | done | rfl | (simp only [List.length_drop, List.length_take]; rfl)) ?_; (with_reducible refine (gl6_awake.calls  true _ A3.out).mono ?_); rintro e w7 ⟨rfl, hb⟩; refine ⟨_, rfl, ?_⟩; have n0_ := Asd.mk (blk_below (g := gb390) (o := .cells #[.slice A0_0 l0_0.length c0_0, .slice A0_1 l0_1.length c0_1] 63 (0, 0)) (by (with_reducible repeat (first | refine blk_drewN ?_ _ | refine blk_drew ?_ | refine blk_alloc ?_ _)); exact BK390.out) hb); have n1_ := Asd.mk (below_step (by repeat (first | (with_reducible first | exact HB.out | apply below_alloc | apply pbN | apply bd1 | refine below_set ?_ GE390.out) | exact HB.out)) hb); clear BK390; clear HB; have BK390 := n0_; have HB := n1_; clear n0_ n1_; (try clear hb); (try clear hb2); (try clear hk); (try clear hi)))
  (try simp only [Act.put, List.setIfInBounds_toArray, List.set_cons_zero, List.set_cons_succ])
  go_cut [31] (fun v31 wc => ∃ (kq : Nat) (x31_4 : Bool), v31 = .bool x31_4 ∧ Asd (gl6_GovernorLoops.j0 kq l1 x31_4 l0_0 l0_1 = some r) ∧ Asd (kq ≤ k) ∧ Asd (wc.heap[gb390]? = some (.cells #[(.slice A0_0 l0_0.length c0_0), (.slice A0_1 l0_1.length c0_1)] 63 (0, 0))) ∧ Asd (Below w.heap.size w wc))
  case first =>
   have H := HC5.out
   clear HC5
   replace H := Option.bind_eq_some_iff.mp H
   obtain ⟨t392, A80, H⟩ := H
   replace H : (if t392 = true then (gl6_GovernorLoops.j0 k l1 (decide ((l1.length : Int) > 8)) l0_0 l0_1) else (gl6_GovernorLoops.j0 k l1 true l0_0 l0_1)) = some r := H
   have A8 := Asd.mk A80
   clear A80
   by_cases c9 : t392 = true
   ·subst c9
    have H1 : (gl6_GovernorLoops.j0 k l1 (decide ((l1.length : Int) > 8)) l0_0 l0_1) = some r := by rw [if_pos rfl] at H; exact H
    clear H
    have H := H1
    clear H1
    have H' := Asd.mk H
    clear H
    have hcz10_0 : w7.cell? ⟨gb390, 0, none⟩ = some (.slice A0_0 l0_0.length c0_0) := (blk_cell BK390.out 0).trans rfl
    have hcz10_1 : w7.cell? ⟨gb390, 1, none⟩ = some (.slice A0_1 l0_1.length c0_1) := (blk_cell BK390.out 1).trans rfl
    have hfz10_0 := blk_frozen BK390.out 0
    have hfz10_1 := blk_frozen BK390.out 1
    go_wp2_with (first | ((with_reducible refine gate_callee (f := 38) rfl ?_); refine goesL_ (some 25) rfl rfl Tryz.func38 (by kernel_rfl) rfl #[.agg #[.slice A0_0 l0_0.length c0_0, .slice A0_1 l0_1.length c0_1]] rfl (by (try simp only [List.map_toArray, List.map_cons, List.map_nil]); first | done | rfl | (simp only [List.length_drop, List.length_take]; rfl)) ?_; (with_reducible refine (gl6_fewMachines.calls k _ _ l0_0 _ _ l0_1 true _ ?side1 ?side2 ?side3 ?side4 A8.out).mono ?_); (case side1 => repeat (first | exact (Kd.C_below HR0_0.out HB.out) | (with_reducible refine Kd.C_alloc ?_ _) | (with_reducible refine Kd.C_drewN ?_ _) | (with_reducible refine Kd.C_drew ?_))); (case side2 => exact HC0_0.out); (case side3 => repeat (first | exact (Kd.C_below HR0_1.out HB.out) | (with_reducible refine Kd.C_alloc ?_ _) | (with_reducible refine Kd.C_drewN ?_ _) | (with_reducible refine Kd.C_drew ?_))); (case side4 => exact HC0_1.out); rintro e w11 ⟨rfl, hb⟩; refine ⟨_, rfl, ?_⟩; have n0_ := Asd.mk (blk_below (g := gb390) (o := .cells #[.slice A0_0 l0_0.length c0_0, .slice A0_1 l0_1.length c0_1] 63 (0, 0)) (by (with_reducible repeat (first | refine blk_drewN ?_ _ | refine blk_drew ?_ | refine blk_alloc ?_ _)); exact BK390.out) hb); have n1_ := Asd.mk (below_step (by repeat (first | (with_reducible first | exact HB.out | apply below_alloc | apply pbN | apply bd1 | refine below_set ?_ GE390.out) | exact HB.out)) hb); clear BK390; clear HB; have BK390 := n0_; have HB := n1_; clear n0_ n1_; (try clear hb); (try clear hb2); (try clear hk); (try clear hi)))
    go_meet
    case rel => exact ⟨_, (decide ((l1.length : Int) > 8)), (by first | rfl | (simp; done) | (simp [*]; done)), H', ⟨by first | omega | exact Nat.le_refl _⟩, ⟨by (with_reducible repeat (first | refine blk_drewN ?_ _ | refine blk_drew ?_ | refine blk_alloc ?_ _)); exact BK390.out⟩, ⟨by repeat (first | (with_reducible first | exact HB.out | apply below_alloc | apply pbN | apply bd1 | refine below_set ?_ GE390.out) | exact HB.out)⟩⟩
   ·replace c9 := Bool.eq_false_iff.mpr c9
    subst c9
    have H1 : (gl6_GovernorLoops.j0 k l1 true l0_0 l0_1) = some r := by rw [if_neg (show ¬ (false = true) by decide)] at H; exact H
    clear H
    have H := H1
    clear H1
    have H' := Asd.mk H
    clear H
    have hcz12_0 : w7.cell? ⟨gb390, 0, none⟩ = some (.slice A0_0 l0_0.length c0_0) := (blk_cell BK390.out 0).trans rfl
    have hcz12_1 : w7.cell? ⟨gb390, 1, none⟩ = some (.slice A0_1 l0_1.length c0_1) := (blk_cell BK390.out 1).trans rfl
    have hfz12_0 := blk_frozen BK390.out 0
    have hfz12_1 := blk_frozen BK390.out 1
    go_wp2_with (first | ((with_reducible refine gate_callee (f := 38) rfl ?_); refine goesL_ (some 25) rfl rfl Tryz.func38 (by kernel_rfl) rfl #[.agg #[.slice A0_0 l0_0.length c0_0, .slice A0_1 l0_1.length c0_1]] rfl (by (try simp only [List.map_toArray, List.map_cons, List.map_nil]); first | done | rfl | (simp only [List.length_drop, List.length_take]; rfl)) ?_; (with_reducible refine (gl6_fewMachines.calls k _ _ l0_0 _ _ l0_1 false _ ?side1 ?side2 ?side3 ?side4 A8.out).mono ?_); (case side1 => repeat (first | exact (Kd.C_below HR0_0.out HB.out) | (with_reducible refine Kd.C_alloc ?_ _) | (with_reducible refine Kd.C_drewN ?_ _) | (with_reducible refine Kd.C_drew ?_))); (case side2 => exact HC0_0.out); (case side3 => repeat (first | exact (Kd.C_below HR0_1.out HB.out) | (with_reducible refine Kd.C_alloc ?_ _) | (with_reducible refine Kd.C_drewN ?_ _) | (with_reducible refine Kd.C_drew ?_))); (case side4 => exact HC0_1.out); rintro e w13 ⟨rfl, hb⟩; refine ⟨_, rfl, ?_⟩; have n0_ := Asd.mk (blk_below (g := gb390) (o := .cells #[.slice A0_0 l0_0.length c0_0, .slice A0_1 l0_1.length c0_1] 63 (0, 0)) (by (with_reducible repeat (first | refine blk_drewN ?_ _ | refine blk_drew ?_ | refine blk_alloc ?_ _)); exact BK390.out) hb); have n1_ := Asd.mk (below_step (by repeat (first | (with_reducible first | exact HB.out | apply below_alloc | apply pbN | apply bd1 | refine below_set ?_ GE390.out) | exact HB.out)) hb); clear BK390; clear HB; have BK390 := n0_; have HB := n1_; clear n0_ n1_; (try clear hb); (try clear hb2); (try clear hk); (try clear hi)))
    go_meet
    case rel => exact ⟨_, (true), (by first | rfl | (simp; done) | (simp [*]; done)), H', ⟨by first | omega | exact Nat.le_refl _⟩, ⟨by (with_reducible repeat (first | refine blk_drewN ?_ _ | refine blk_drew ?_ | refine blk_alloc ?_ _)); exact BK390.out⟩, ⟨by repeat (first | (with_reducible first | exact HB.out | apply below_alloc | apply pbN | apply bd1 | refine below_set ?_ GE390.out) | exact HB.out)⟩⟩
  case rest =>
   clear HC5
   try clear c1
   try clear p2
   try clear c3
   try clear c4
   try clear c6
   try clear c9
   try clear hcz10_0
   try clear hcz10_1
   try clear hcz12_0
   try clear hcz12_1
   try clear hfz10_0
   try clear hfz10_1
   try clear hfz12_0
   try clear hfz12_1
   obtain ⟨kq, x31_4, rfl, HA, HJ4, BK390, HB⟩ := hcut
   cases kq with
   | zero => exact absurd HA.out (by simp [gl6_GovernorLoops.j0])
   | succ kj4 =>
    have H := HA.out
    clear HA
    simp only [gl6_GovernorLoops.j0] at H
    by_cases c14 : x31_4 = true
    ·subst c14
     have H1 : (some true) = some r := by rw [if_pos rfl] at H; exact H
     clear H
     have H := H1
     clear H1
     obtain rfl := Option.some.inj H
     go_wp2
     go_ret
     exact ⟨by first | rfl | (simp [errW_none, errW_some] <;> rfl) | (simp [*, errW_none, errW_some] <;> rfl), by repeat (first | (with_reducible first | exact HB.out | apply below_alloc | apply pbN | apply bd1 | refine below_set ?_ GE390.out) | exact HB.out)⟩
    ·replace c14 := Bool.eq_false_iff.mpr c14
     subst c14
     have H1 : ((gr6_CopyLoop.f kj4 l0_0 l0_1).bind fun bt393 => ((gov_CheckLoop.f bt393.1 bt393.2).bind fun bt399 => ((gr6_CopyLoop.f kj4 l0_0 l0_1).bind fun bt401 => ((gba_CopyInts.f l1).bind fun t407 => ((gov_SumFor.f bt401.1 bt401.2 t407).bind fun bt410 => ((gr6_CopyLoop.f kj4 l0_0 l0_1).bind fun bt414 => ((gov_UnstableSet.f bt414.1 bt414.2).bind fun bt420 => ((gr6_CheckLoop.f kj4 l0_0 l0_1).bind fun bt424 => (if bt399.2 = bt424.2 then (gl6_GovernorLoops.j1 kj4 l1 bt410.1 bt410.2 bt420.1 bt420.2 bt424.2 (bt399.1 != bt424.1) l0_0 l0_1) else (gl6_GovernorLoops.j1 kj4 l1 bt410.1 bt410.2 bt420.1 bt420.2 bt424.2 true l0_0 l0_1)))))))))) = some r := by rw [if_neg (show ¬ (false = true) by decide)] at H; exact H
     clear H
     have H := H1
     clear H1
     replace H := Option.bind_eq_some_iff.mp H
     obtain ⟨⟨t393, t396⟩, A150, H⟩ := H
     replace H : ((gov_CheckLoop.f t393 t396).bind fun bt399 => ((gr6_CopyLoop.f kj4 l0_0 l0_1).bind fun bt401 => ((gba_CopyInts.f l1).bind fun t407 => ((gov_SumFor.f bt401.1 bt401.2 t407).bind fun bt410 => ((gr6_CopyLoop.f kj4 l0_0 l0_1).bind fun bt414 => ((gov_UnstableSet.f bt414.1 bt414.2).bind fun bt420 => ((gr6_CheckLoop.f kj4 l0_0 l0_1).bind fun bt424 => (if bt399.2 = bt424.2 then (gl6_GovernorLoops.j1 kj4 l1 bt410.1 bt410.2 bt420.1 bt420.2 bt424.2 (bt399.1 != bt424.1) l0_0 l0_1) else (gl6_GovernorLoops.j1 kj4 l1 bt410.1 bt410.2 bt420.1 bt420.2 bt424.2 true l0_0 l0_1))))))))) = some r := H
     have A15 := Asd.mk A150
     clear A150
     replace H := Option.bind_eq_some_iff.mp H
     obtain ⟨⟨t399, t400⟩, A160, H⟩ := H
     replace H : ((gr6_CopyLoop.f kj4 l0_0 l0_1).bind fun bt401 => ((gba_CopyInts.f l1).bind fun t407 => ((gov_SumFor.f bt401.1 bt401.2 t407).bind fun bt410 => ((gr6_CopyLoop.f kj4 l0_0 l0_1).bind fun bt414 => ((gov_UnstableSet.f bt414.1 bt414.2).bind fun bt420 => ((gr6_CheckLoop.f kj4 l0_0 l0_1).bind fun bt424 => (if t400 = bt424.2 then (gl6_GovernorLoops.j1 kj4 l1 bt410.1 bt410.2 bt420.1 bt420.2 bt424.2 (t399 != bt424.1) l0_0 l0_1) else (gl6_GovernorLoops.j1 kj4 l1 bt410.1 bt410.2 bt420.1 bt420.2 bt424.2 true l0_0 l0_1)))))))) = some r := H
     have A16 := Asd.mk A160
     clear A160
     replace H := Option.bind_eq_some_iff.mp H
     obtain ⟨⟨t401, t404⟩, A170, H⟩ := H
     replace H : ((gba_CopyInts.f l1).bind fun t407 => ((gov_SumFor.f t401 t404 t407).bind fun bt410 => ((gr6_CopyLoop.f kj4 l0_0 l0_1).bind fun bt414 => ((gov_UnstableSet.f bt414.1 bt414.2).bind fun bt420 => ((gr6_CheckLoop.f kj4 l0_0 l0_1).bind fun bt424 => (if t400 = bt424.2 then (gl6_GovernorLoops.j1 kj4 l1 bt410.1 bt410.2 bt420.1 bt420.2 bt424.2 (t399 != bt424.1) l0_0 l0_1) else (gl6_GovernorLoops.j1 kj4 l1 bt410.1 bt410.2 bt420.1 bt420.2 bt424.2 true l0_0 l0_1))))))) = some r := H
     have A17 := Asd.mk A170
     clear A170
     replace H := Option.bind_eq_some_iff.mp H
     obtain ⟨t407, A180, H⟩ := H
     replace H : ((gov_SumFor.f t401 t404 t407).bind fun bt410 => ((gr6_CopyLoop.f kj4 l0_0 l0_1).bind fun bt414 => ((gov_UnstableSet.f bt414.1 bt414.2).bind fun bt420 => ((gr6_CheckLoop.f kj4 l0_0 l0_1).bind fun bt424 => (if t400 = bt424.2 then (gl6_GovernorLoops.j1 kj4 l1 bt410.1 bt410.2 bt420.1 bt420.2 bt424.2 (t399 != bt424.1) l0_0 l0_1) else (gl6_GovernorLoops.j1 kj4 l1 bt410.1 bt410.2 bt420.1 bt420.2 bt424.2 true l0_0 l0_1)))))) = some r := H
     have A18 := Asd.mk A180
     clear A180
     replace H := Option.bind_eq_some_iff.mp H
     obtain ⟨⟨t410, t413⟩, A190, H⟩ := H
     replace H : ((gr6_CopyLoop.f kj4 l0_0 l0_1).bind fun bt414 => ((gov_UnstableSet.f bt414.1 bt414.2).bind fun bt420 => ((gr6_CheckLoop.f kj4 l0_0 l0_1).bind fun bt424 => (if t400 = bt424.2 then (gl6_GovernorLoops.j1 kj4 l1 t410 t413 bt420.1 bt420.2 bt424.2 (t399 != bt424.1) l0_0 l0_1) else (gl6_GovernorLoops.j1 kj4 l1 t410 t413 bt420.1 bt420.2 bt424.2 true l0_0 l0_1))))) = some r := H
     have A19 := Asd.mk A190
     clear A190
     replace H := Option.bind_eq_some_iff.mp H
     obtain ⟨⟨t414, t417⟩, A200, H⟩ := H
     replace H : ((gov_UnstableSet.f t414 t417).bind fun bt420 => ((gr6_CheckLoop.f kj4 l0_0 l0_1).bind fun bt424 => (if t400 = bt424.2 then (gl6_GovernorLoops.j1 kj4 l1 t410 t413 bt420.1 bt420.2 bt424.2 (t399 != bt424.1) l0_0 l0_1) else (gl6_GovernorLoops.j1 kj4 l1 t410 t413 bt420.1 bt420.2 bt424.2 true l0_0 l0_1)))) = some r := H
     have A20 := Asd.mk A200
     clear A200
     replace H := Option.bind_eq_some_iff.mp H
     obtain ⟨⟨t420, t423⟩, A210, H⟩ := H
     replace H : ((gr6_CheckLoop.f kj4 l0_0 l0_1).bind fun bt424 => (if t400 = bt424.2 then (gl6_GovernorLoops.j1 kj4 l1 t410 t413 t420 t423 bt424.2 (t399 != bt424.1) l0_0 l0_1) else (gl6_GovernorLoops.j1 kj4 l1 t410 t413 t420 t423 bt424.2 true l0_0 l0_1))) = some r := H
     have A21 := Asd.mk A210
     clear A210
     replace H := Option.bind_eq_some_iff.mp H
     obtain ⟨⟨t424, t425⟩, A220, H⟩ := H
     replace H : (if t400 = t425 then (gl6_GovernorLoops.j1 kj4 l1 t410 t413 t420 t423 t425 (t399 != t424) l0_0 l0_1) else (gl6_GovernorLoops.j1 kj4 l1 t410 t413 t420 t423 t425 true l0_0 l0_1)) = some r := H
     have A22 := Asd.mk A220
     clear A220
     have HC23 := Asd.mk H
     clear H
     have hcz24_0 : wc.cell? ⟨gb390, 0, none⟩ = some (.slice A0_0 l0_0.length c0_0) := (blk_cell BK390.out 0).trans rfl
     have hcz24_1 : wc.cell? ⟨gb390, 1, none⟩ = some (.slice A0_1 l0_1.length c0_1) := (blk_cell BK390.out 1).trans rfl
     have hfz24_0 := blk_frozen BK390.out 0
     have hfz24_1 := blk_frozen BK390.out 1
     go_upto_region 9 with (first | ((with_reducible refine gate_callee (f := 40) rfl ?_); refine goesL_ (some 34) rfl rfl Tryz.func40 (by kernel_rfl) rfl #[.agg #[.slice A0_0 l0_0.length c0_0, .slice A0_1 l0_1.length c0_1]] rfl (by (try simp only [List.map_toArray, List.map_cons, List.map_nil]); first | done | rfl | (simp only [List.length_drop, List.length_take]; rfl)) ?_; (with_reducible refine (gr6_CopyLoop.calls kj4 _ _ l0_0 _ _ l0_1 t393 t396 _ ?side1 ?side2 ?side3 ?side4 A15.out).mono ?_); (case side1 => repeat (first | exact (Kd.C_below HR0_0.out HB.out) | (with_reducible refine Kd.C_alloc ?_ _) | (with_reducible refine Kd.C_drewN ?_ _) | (with_reducible refine Kd.C_drew ?_))); (case side2 => exact HC0_0.out); (case side3 => repeat (first | exact (Kd.C_below HR0_1.out HB.out) | (with_reducible refine Kd.C_alloc ?_ _) | (with_reducible refine Kd.C_drewN ?_ _) | (with_reducible refine Kd.C_drew ?_))); (case side4 => exact HC0_1.out); rintro e w25 ⟨v394, v397, rfl, ho0, ho1, hb⟩; refine ⟨_, rfl, ?_⟩; have n0_ := Asd.mk (Kd.R_lower ho0 (below_size (by repeat (first | (with_reducible first | exact HB.out | apply below_alloc | apply pbN | apply bd1 | refine below_set ?_ GE390.out) | exact HB.out)))); have n1_ := Asd.mk (Kd.S_lower ho1 (below_size (by repeat (first | (with_reducible first | exact HB.out | apply below_alloc | apply pbN | apply bd1 | refine below_set ?_ GE390.out) | exact HB.out)))); have n2_ := Asd.mk (blk_below (g := gb390) (o := .cells #[.slice A0_0 l0_0.length c0_0, .slice A0_1 l0_1.length c0_1] 63 (0, 0)) (by (with_reducible repeat (first | refine blk_drewN ?_ _ | refine blk_drew ?_ | refine blk_alloc ?_ _)); exact BK390.out) hb); have n3_ := Asd.mk (below_step (by repeat (first | (with_reducible first | exact HB.out | apply below_alloc | apply pbN | apply bd1 | refine below_set ?_ GE390.out) | exact HB.out)) hb); clear BK390; clear HB; have HO395 := n0_; have HO398 := n1_; have BK390 := n2_; have HB := n3_; clear n0_ n1_ n2_ n3_; (try clear hb); (try clear hb2); (try clear hk); (try clear hi); (try clear ho0); (try clear ho1); obtain ⟨Ao26, co26, eo26⟩ := Kd.R_slice HO395.out; subst eo26; obtain ⟨Ao27, co27, eo27⟩ := Kd.S_slice HO398.out; subst eo27) | ((with_reducible refine gate_callee (f := 39) rfl ?_); refine goesL_ (some 35) rfl rfl Tryz.func39 (by kernel_rfl) rfl #[.agg #[.slice Ao26 t393.length co26, .slice Ao27 t396.length co27]] rfl (by (try simp only [List.map_toArray, List.map_cons, List.map_nil]); first | done | rfl | (simp only [List.length_drop, List.length_take]; rfl)) ?_; (with_reducible refine (gov_CheckLoop.calls _ _ t393 _ _ t396 t399 t400 _ ?side1 ?side2 ?side3 ?side4 A16.out).mono ?_); (case side1 => repeat (first | exact (Kd.R_reads' HO395.out).2.2 | (with_reducible refine Kd.C_alloc ?_ _) | (with_reducible refine Kd.C_drewN ?_ _) | (with_reducible refine Kd.C_drew ?_))); (case side2 => exact (Kd.R_reads' HO395.out).2.1); (case side3 => repeat (first | exact (Kd.S_reads' HO398.out).2.2 | (with_reducible refine Kd.C_alloc ?_ _) | (with_reducible refine Kd.C_drewN ?_ _) | (with_reducible refine Kd.C_drew ?_))); (case side4 => exact (Kd.S_reads' HO398.out).2.1); rintro e w28 ⟨rfl, hb⟩; refine ⟨_, rfl, ?_⟩; have n0_ := Asd.mk (Kd.R_below (by (with_reducible repeat (first | apply Kd.R_alloc | apply Kd.R_drewN | apply Kd.R_drew)); exact HO395.out) hb); have n1_ := Asd.mk (Kd.S_below (by (with_reducible repeat (first | apply Kd.S_alloc | apply Kd.S_drewN | apply Kd.S_drew)); exact HO398.out) hb); have n2_ := Asd.mk (blk_below (g := gb390) (o := .cells #[.slice A0_0 l0_0.length c0_0, .slice A0_1 l0_1.length c0_1] 63 (0, 0)) (by (with_reducible repeat (first | refine blk_drewN ?_ _ | refine blk_drew ?_ | refine blk_alloc ?_ _)); exact BK390.out) hb); have n3_ := Asd.mk (below_step (by repeat (first | (with_reducible first | exact HB.out | apply below_alloc | apply pbN | apply bd1 | refine below_set ?_ GE390.out) | exact HB.out)) hb); clear HO395; clear HO398; clear BK390; clear HB; have HO395 := n0_; have HO398 := n1_; have BK390 := n2_; have HB := n3_; clear n0_ n1_ n2_ n3_; (try clear hb); (try clear hb2); (try clear hk); (try clear hi); have hcz29_0 : w28.cell? ⟨gb390, 0, none⟩ = some (.slice A0_0 l0_0.length c0_0) := (blk_cell BK390.out 0).trans rfl; have hcz29_1 : w28.cell? ⟨gb390, 1, none⟩ = some (.slice A0_1 l0_1.length c0_1) := (blk_cell BK390.out 1).trans rfl; have hfz29_0 := blk_frozen BK390.out 0; have hfz29_1 := blk_frozen BK390.out 1) | ((with_reducible refine gate_callee (f := 40) rfl ?_); refine goesL_ (some 40) rfl rfl Tryz.func40 (by kernel_rfl) rfl #[.agg #[.slice A0_0 l0_0.length c0_0, .slice A0_1 l0_1.length c0_1]] rfl (by (try simp only [List.map_toArray, List.map_cons, List.map_nil]); first | done | rfl | (simp only [List.length_drop, List.length_take]; rfl)) ?_; (with_reducible refine (gr6_CopyLoop.calls kj4 _ _ l0_0 _ _ l0_1 t401 t404 _ ?side1 ?side2 ?side3 ?side4 A17.out).mono ?_); (case side1 => repeat (first | exact (Kd.C_below HR0_0.out HB.out) | (with_reducible refine Kd.C_alloc ?_ _) | (with_reducible refine Kd.C_drewN ?_ _) | (with_reducible refine Kd.C_drew ?_))); (case side2 => exact HC0_0.out); (case side3 => repeat (first | exact (Kd.C_below HR0_1.out HB.out) | (with_reducible refine Kd.C_alloc ?_ _) | (with_reducible refine Kd.C_drewN ?_ _) | (with_reducible refine Kd.C_drew ?_))); (case side4 => exact HC0_1.out); rintro e w30 ⟨v402, v405, rfl, ho0, ho1, hb⟩; refine ⟨_, rfl, ?_⟩; have n0_ := Asd.mk (Kd.R_elder' (by (with_reducible repeat (first | apply Kd.R_alloc | apply Kd.R_drewN | apply Kd.R_drew)); exact HO395.out) (Kd.R_base ho0) hb); have n1_ := Asd.mk (Kd.S_mono (Kd.S_told (Kd.S_told (Kd.S_old (by (with_reducible repeat (first | apply Kd.S_alloc | apply Kd.S_drewN | apply Kd.S_drew)); exact HO398.out) hb) (Kd.R_base ho0)) (Kd.S_base ho1)) (fun _ h_ => h_.1)); have n2_ := Asd.mk (Kd.R_lower (Kd.R_new' ho0 (Kd.R_lt (by (with_reducible repeat (first | apply Kd.R_alloc | apply Kd.R_drewN | apply Kd.R_drew)); exact HO395.out))) (below_size (by repeat (first | (with_reducible first | exact HB.out | apply below_alloc | apply pbN | apply bd1 | refine below_set ?_ GE390.out) | exact HB.out)))); have n3_ := Asd.mk (Kd.S_lower (Kd.S_new' (Kd.S_new' ho1 (Kd.R_lt (by (with_reducible repeat (first | apply Kd.R_alloc | apply Kd.R_drewN | apply Kd.R_drew)); exact HO395.out))) (Kd.S_lt (by (with_reducible repeat (first | apply Kd.S_alloc | apply Kd.S_drewN | apply Kd.S_drew)); exact HO398.out))) (below_size (by repeat (first | (with_reducible first | exact HB.out | apply below_alloc | apply pbN | apply bd1 | refine below_set ?_ GE390.out) | exact HB.out)))); have n4_ := Asd.mk (blk_below (g := gb390) (o := .cells #[.slice A0_0 l0_0.length c0_0, .slice A0_1 l0_1.length c0_1] 63 (0, 0)) (by (with_reducible repeat (first | refine blk_drewN ?_ _ | refine blk_drew ?_ | refine blk_alloc ?_ _)); exact BK390.out) hb); have n5_ := Asd.mk (below_step (by repeat (first | (with_reducible first | exact HB.out | apply below_alloc | apply pbN | apply bd1 | refine below_set ?_ GE390.out) | exact HB.out)) hb); clear HO395; clear HO398; clear BK390; clear HB; have HO395 := n0_; have HO398 := n1_; have HO403 := n2_; have HO406 := n3_; have BK390 := n4_; have HB := n5_; clear n0_ n1_ n2_ n3_ n4_ n5_; (try clear hb); (try clear hb2); (try clear hk); (try clear hi); (try clear ho0); (try clear ho1)) | ((with_reducible refine gate_callee (f := 19) rfl ?_); refine goesL_ (some 42) rfl rfl Tryz.func19 (by kernel_rfl) rfl #[.slice A1 l1.length c1] rfl (by (try simp only [List.map_toArray, List.map_cons, List.map_nil]); first | done | rfl | (simp only [List.length_drop, List.length_take]; rfl)) ?_; (with_reducible refine (gba_CopyInts.calls _ _ l1 t407 _ ?side1 ?side2 A18.out).mono ?_); (case side1 => repeat (first | exact (Kd.C_below HR1.out HB.out) | (with_reducible refine Kd.C_alloc ?_ _) | (with_reducible refine Kd.C_drewN ?_ _) | (with_reducible refine Kd.C_drew ?_))); (case side2 => exact HC1.out); rintro e w31 ⟨v408, rfl, ho0, hb⟩; refine ⟨_, rfl, ?_⟩; have n0_ := Asd.mk (Kd.R_elder' (by (with_reducible repeat (first | apply Kd.R_alloc | apply Kd.R_drewN | apply Kd.R_drew)); exact HO395.out) (Kd.R_base ho0) hb); have n1_ := Asd.mk (Kd.S_elder' (by (with_reducible repeat (first | apply Kd.S_alloc | apply Kd.S_drewN | apply Kd.S_drew)); exact HO398.out) (Kd.R_base ho0) hb); have n2_ := Asd.mk (Kd.R_elder' (by (with_reducible repeat (first | apply Kd.R_alloc | apply Kd.R_drewN | apply Kd.R_drew)); exact HO403.out) (Kd.R_base ho0) hb); have n3_ := Asd.mk (Kd.S_elder' (by (with_reducible repeat (first | apply Kd.S_alloc | apply Kd.S_drewN | apply Kd.S_drew)); exact HO406.out) (Kd.R_base ho0) hb); have n4_ := Asd.mk (Kd.R_lower (Kd.R_new' (Kd.R_new' ho0 (Kd.R_lt (by (with_reducible repeat (first | apply Kd.R_alloc | apply Kd.R_drewN | apply Kd.R_drew)); exact HO395.out))) (Kd.R_lt (by (with_reducible repeat (first | apply Kd.R_alloc | apply Kd.R_drewN | apply Kd.R_drew)); exact HO403.out))) (below_size (by repeat (first | (with_reducible first | exact HB.out | apply below_alloc | apply pbN | apply bd1 | refine below_set ?_ GE390.out) | exact HB.out)))); have n5_ := Asd.mk (blk_below (g := gb390) (o := .cells #[.slice A0_0 l0_0.length c0_0, .slice A0_1 l0_1.length c0_1] 63 (0, 0)) (by (with_reducible repeat (first | refine blk_drewN ?_ _ | refine blk_drew ?_ | refine blk_alloc ?_ _)); exact BK390.out) hb); have n6_ := Asd.mk (below_step (by repeat (first | (with_reducible first | exact HB.out | apply below_alloc | apply pbN | apply bd1 | refine below_set ?_ GE390.out) | exact HB.out)) hb); clear HO395; clear HO398; clear HO403; clear HO406; clear BK390; clear HB; have HO395 := n0_; have HO398 := n1_; have HO403 := n2_; have HO406 := n3_; have HO409 := n4_; have BK390 := n5_; have HB := n6_; clear n0_ n1_ n2_ n3_ n4_ n5_ n6_; (try clear hb); (try clear hb2); (try clear hk); (try clear hi); (try clear ho0); obtain ⟨Ao32, co32, eo32⟩ := Kd.R_slice HO403.out; subst eo32; obtain ⟨Ao33, co33, eo33⟩ := Kd.S_slice HO406.out; subst eo33; obtain ⟨Ao34, co34, eo34⟩ := Kd.R_slice HO409.out; subst eo34) | ((with_reducible refine gate_callee (f := 41) rfl ?_); refine goesL_ (some 43) rfl rfl Tryz.func41 (by kernel_rfl) rfl #[.agg #[.slice Ao32 t401.length co32, .slice Ao33 t404.length co33], .slice Ao34 t407.length co34] rfl (by (try simp only [List.map_toArray, List.map_cons, List.map_nil]); first | done | rfl | (simp only [List.length_drop, List.length_take]; rfl)) ?_; (with_reducible refine (gov_SumFor.calls _ _ t401 _ _ t404 _ _ t407 t410 t413 _ ?side1 ?side2 ?side3 ?side4 ?side5 ?side6 A19.out).mono ?_); (case side1 => repeat (first | exact (Kd.R_reads' HO403.out).2.2 | (with_reducible refine Kd.C_alloc ?_ _) | (with_reducible refine Kd.C_drewN ?_ _) | (with_reducible refine Kd.C_drew ?_))); (case side2 => exact (Kd.R_reads' HO403.out).2.1); (case side3 => repeat (first | exact (Kd.S_reads' HO406.out).2.2 | (with_reducible refine Kd.C_alloc ?_ _) | (with_reducible refine Kd.C_drewN ?_ _) | (with_reducible refine Kd.C_drew ?_))); (case side4 => exact (Kd.S_reads' HO406.out).2.1); (case side5 => repeat (first | exact (Kd.R_reads' HO409.out).2.2 | (with_reducible refine Kd.C_alloc ?_ _) | (with_reducible refine Kd.C_drewN ?_ _) | (with_reducible refine Kd.C_drew ?_))); (case side6 => exact (Kd.R_reads' HO409.out).2.1); rintro e w35 ⟨v411, rfl, ho0, hb⟩; refine ⟨_, rfl, ?_⟩; have n0_ := Asd.mk (Kd.R_elder' (by (with_reducible repeat (first | apply Kd.R_alloc | apply Kd.R_drewN | apply Kd.R_drew)); exact HO395.out) (Kd.R_base ho0) hb); have n1_ := Asd.mk (Kd.S_elder' (by (with_reducible repeat (first | apply Kd.S_alloc | apply Kd.S_drewN | apply Kd.S_drew)); exact HO398.out) (Kd.R_base ho0) hb); have n2_ := Asd.mk (Kd.R_elder' (by (with_reducible repeat (first | apply Kd.R_alloc | apply Kd.R_drewN | apply Kd.R_drew)); exact HO403.out) (Kd.R_base ho0) hb); have n3_ := Asd.mk (Kd.S_elder' (by (with_reducible repeat (first | apply Kd.S_alloc | apply Kd.S_drewN | apply Kd.S_drew)); exact HO406.out) (Kd.R_base ho0) hb); have n4_ := Asd.mk (Kd.R_elder' (by (with_reducible repeat (first | apply Kd.R_alloc | apply Kd.R_drewN | apply Kd.R_drew)); exact HO409.out) (Kd.R_base ho0) hb); have n5_ := Asd.mk (Kd.R_lower (Kd.R_new' (Kd.R_new' (Kd.R_new' ho0 (Kd.R_lt (by (with_reducible repeat (first | apply Kd.R_alloc | apply Kd.R_drewN | apply Kd.R_drew)); exact HO395.out))) (Kd.R_lt (by (with_reducible repeat (first | apply Kd.R_alloc | apply Kd.R_drewN | apply Kd.R_drew)); exact HO403.out))) (Kd.R_lt (by (with_reducible repeat (first | apply Kd.R_alloc | apply Kd.R_drewN | apply Kd.R_drew)); exact HO409.out))) (below_size (by repeat (first | (with_reducible first | exact HB.out | apply below_alloc | apply pbN | apply bd1 | refine below_set ?_ GE390.out) | exact HB.out)))); have n6_ := Asd.mk (blk_below (g := gb390) (o := .cells #[.slice A0_0 l0_0.length c0_0, .slice A0_1 l0_1.length c0_1] 63 (0, 0)) (by (with_reducible repeat (first | refine blk_drewN ?_ _ | refine blk_drew ?_ | refine blk_alloc ?_ _)); exact BK390.out) hb); have n7_ := Asd.mk (below_step (by repeat (first | (with_reducible first | exact HB.out | apply below_alloc | apply pbN | apply bd1 | refine below_set ?_ GE390.out) | exact HB.out)) hb); clear HO395; clear HO398; clear HO403; clear HO406; clear HO409; clear BK390; clear HB; have HO395 := n0_; have HO398 := n1_; have HO403 := n2_; have HO406 := n3_; have HO409 := n4_; have HO412 := n5_; have BK390 := n6_; have HB := n7_; clear n0_ n1_ n2_ n3_ n4_ n5_ n6_ n7_; (try clear hb); (try clear hb2); (try clear hk); (try clear hi); (try clear ho0); have hcz36_0 : w35.cell? ⟨gb390, 0, none⟩ = some (.slice A0_0 l0_0.length c0_0) := (blk_cell BK390.out 0).trans rfl; have hcz36_1 : w35.cell? ⟨gb390, 1, none⟩ = some (.slice A0_1 l0_1.length c0_1) := (blk_cell BK390.out 1).trans rfl; have hfz36_0 := blk_frozen BK390.out 0; have hfz36_1 := blk_frozen BK390.out 1) | ((with_reducible refine gate_callee (f := 40) rfl ?_); refine goesL_ (some 48) rfl rfl Tryz.func40 (by kernel_rfl) rfl #[.agg #[.slice A0_0 l0_0.length c0_0, .slice A0_1 l0_1.length c0_1]] rfl (by (try simp only [List.map_toArray, List.map_cons, List.map_nil]); first | done | rfl | (simp only [List.length_drop, List.length_take]; rfl)) ?_; (with_reducible refine (gr6_CopyLoop.calls kj4 _ _ l0_0 _ _ l0_1 t414 t417 _ ?side1 ?side2 ?side3 ?side4 A20.out).mono ?_); (case side1 => repeat (first | exact (Kd.C_below HR0_0.out HB.out) | (with_reducible refine Kd.C_alloc ?_ _) | (with_reducible refine Kd.C_drewN ?_ _) | (with_reducible refine Kd.C_drew ?_))); (case side2 => exact HC0_0.out); (case side3 => repeat (first | exact (Kd.C_below HR0_1.out HB.out) | (with_reducible refine Kd.C_alloc ?_ _) | (with_reducible refine Kd.C_drewN ?_ _) | (with_reducible refine Kd.C_drew ?_))); (case side4 => exact HC0_1.out); rintro e w37 ⟨v415, v418, rfl, ho0, ho1, hb⟩; refine ⟨_, rfl, ?_⟩; have n0_ := Asd.mk (Kd.R_elder' (by (with_reducible repeat (first | apply Kd.R_alloc | apply Kd.R_drewN | apply Kd.R_drew)); exact HO395.out) (Kd.R_base ho0) hb); have n1_ := Asd.mk (Kd.S_mono (Kd.S_told (Kd.S_told (Kd.S_old (by (with_reducible repeat (first | apply Kd.S_alloc | apply Kd.S_drewN | apply Kd.S_drew)); exact HO398.out) hb) (Kd.R_base ho0)) (Kd.S_base ho1)) (fun _ h_ => h_.1)); have n2_ := Asd.mk (Kd.R_elder' (by (with_reducible repeat (first | apply Kd.R_alloc | apply Kd.R_drewN | apply Kd.R_drew)); exact HO403.out) (Kd.R_base ho0) hb); have n3_ := Asd.mk (Kd.S_mono (Kd.S_told (Kd.S_told (Kd.S_old (by (with_reducible repeat (first | apply Kd.S_alloc | apply Kd.S_drewN | apply Kd.S_drew)); exact HO406.out) hb) (Kd.R_base ho0)) (Kd.S_base ho1)) (fun _ h_ => h_.1)); have n4_ := Asd.mk (Kd.R_elder' (by (with_reducible repeat (first | apply Kd.R_alloc | apply Kd.R_drewN | apply Kd.R_drew)); exact HO409.out) (Kd.R_base ho0) hb); have n5_ := Asd.mk (Kd.R_elder' (by (with_reducible repeat (first | apply Kd.R_alloc | apply Kd.R_drewN | apply Kd.R_drew)); exact HO412.out) (Kd.R_base ho0) hb); have n6_ := Asd.mk (Kd.R_lower (Kd.R_new' (Kd.R_new' (Kd.R_new' (Kd.R_new' ho0 (Kd.R_lt (by (with_reducible repeat (first | apply Kd.R_alloc | apply Kd.R_drewN | apply Kd.R_drew)); exact HO395.out))) (Kd.R_lt (by (with_reducible repeat (first | apply Kd.R_alloc | apply Kd.R_drewN | apply Kd.R_drew)); exact HO403.out))) (Kd.R_lt (by (with_reducible repeat (first | apply Kd.R_alloc | apply Kd.R_drewN | apply Kd.R_drew)); exact HO409.out))) (Kd.R_lt (by (with_reducible repeat (first | apply Kd.R_alloc | apply Kd.R_drewN | apply Kd.R_drew)); exact HO412.out))) (below_size (by repeat (first | (with_reducible first | exact HB.out | apply below_alloc | apply pbN | apply bd1 | refine below_set ?_ GE390.out) | exact HB.out)))); have n7_ := Asd.mk (Kd.S_lower (Kd.S_new' (Kd.S_new' (Kd.S_new' (Kd.S_new' (Kd.S_new' (Kd.S_new' ho1 (Kd.R_lt (by (with_reducible repeat (first | apply Kd.R_alloc | apply Kd.R_drewN | apply Kd.R_drew)); exact HO395.out))) (Kd.S_lt (by (with_reducible repeat (first | apply Kd.S_alloc | apply Kd.S_drewN | apply Kd.S_drew)); exact HO398.out))) (Kd.R_lt (by (with_reducible repeat (first | apply Kd.R_alloc | apply Kd.R_drewN | apply Kd.R_drew)); exact HO403.out))) (Kd.S_lt (by (with_reducible repeat (first | apply Kd.S_alloc | apply Kd.S_drewN | apply Kd.S_drew)); exact HO406.out))) (Kd.R_lt (by (with_reducible repeat (first | apply Kd.R_alloc | apply Kd.R_drewN | apply Kd.R_drew)); exact HO409.out))) (Kd.R_lt (by (with_reducible repeat (first | apply Kd.R_alloc | apply Kd.R_drewN | apply Kd.R_drew)); exact HO412.out))) (below_size (by repeat (first | (with_reducible first | exact HB.out | apply below_alloc | apply pbN | apply bd1 | refine below_set ?_ GE390.out) | exact HB.out)))); have n8_ := Asd.mk (blk_below (g := gb390) (o := .cells #[.slice A0_0 l0_0.length c0_0, .slice A0_1 l0_1.length c0_1] 63 (0, 0)) (by (with_reducible repeat (first | refine blk_drewN ?_ _ | refine blk_drew ?_ | refine blk_alloc ?_ _)); exact BK390.out) hb); have n9_ := Asd.mk (below_step (by repeat (first | (with_reducible first | exact HB.out | apply below_alloc | apply pbN | apply bd1 | refine below_set ?_ GE390.out) | exact HB.out)) hb); clear HO395; clear HO398; clear HO403; clear HO406; clear HO409; clear HO412; clear BK390; clear HB; have HO395 := n0_; have HO398 := n1_; have HO403 := n2_; have HO406 := n3_; have HO409 := n4_; have HO412 := n5_; have HO416 := n6_; have HO419 := n7_; have BK390 := n8_; have HB := n9_; clear n0_ n1_ n2_ n3_ n4_ n5_ n6_ n7_ n8_ n9_; (try clear hb); (try clear hb2); (try clear hk); (try clear hi); (try clear ho0); (try clear ho1); obtain ⟨Ao38, co38, eo38⟩ := Kd.R_slice HO416.out; subst eo38; obtain ⟨Ao39, co39, eo39⟩ := Kd.S_slice HO419.out; subst eo39) | ((with_reducible refine gate_callee (f := 42) rfl ?_); refine goesL_ (some 49) rfl rfl Tryz.func42 (by kernel_rfl) rfl #[.agg #[.slice Ao38 t414.length co38, .slice Ao39 t417.length co39]] rfl (by (try simp only [List.map_toArray, List.map_cons, List.map_nil]); first | done | rfl | (simp only [List.length_drop, List.length_take]; rfl)) ?_; (with_reducible refine (gov_UnstableSet.calls _ _ t414 _ _ t417 t420 t423 _ ?side1 ?side2 ?side3 ?side4 A21.out).mono ?_); (case side1 => repeat (first | exact (Kd.R_reads' HO416.out).2.2 | (with_reducible refine Kd.C_alloc ?_ _) | (with_reducible refine Kd.C_drewN ?_ _) | (with_reducible refine Kd.C_drew ?_))); (case side2 => exact (Kd.R_reads' HO416.out).2.1); (case side3 => repeat (first | exact (Kd.S_reads' HO419.out).2.2 | (with_reducible refine Kd.C_alloc ?_ _) | (with_reducible refine Kd.C_drewN ?_ _) | (with_reducible refine Kd.C_drew ?_))); (case side4 => exact (Kd.S_reads' HO419.out).2.1); rintro e w40 ⟨v421, rfl, ho0, hb⟩; refine ⟨_, rfl, ?_⟩; have n0_ := Asd.mk (Kd.R_elder' (by (with_reducible repeat (first | apply Kd.R_alloc | apply Kd.R_drewN | apply Kd.R_drew)); exact HO395.out) (Kd.R_base ho0) hb); have n1_ := Asd.mk (Kd.S_elder' (by (with_reducible repeat (first | apply Kd.S_alloc | apply Kd.S_drewN | apply Kd.S_drew)); exact HO398.out) (Kd.R_base ho0) hb); have n2_ := Asd.mk (Kd.R_elder' (by (with_reducible repeat (first | apply Kd.R_alloc | apply Kd.R_drewN | apply Kd.R_drew)); exact HO403.out) (Kd.R_base ho0) hb); have n3_ := Asd.mk (Kd.S_elder' (by (with_reducible repeat (first | apply Kd.S_alloc | apply Kd.S_drewN | apply Kd.S_drew)); exact HO406.out) (Kd.R_base ho0) hb); have n4_ := Asd.mk (Kd.R_elder' (by (with_reducible repeat (first | apply Kd.R_alloc | apply Kd.R_drewN | apply Kd.R_drew)); exact HO409.out) (Kd.R_base ho0) hb); have n5_ := Asd.mk (Kd.R_elder' (by (with_reducible repeat (first | apply Kd.R_alloc | apply Kd.R_drewN | apply Kd.R_drew)); exact HO412.out) (Kd.R_base ho0) hb); have n6_ := Asd.mk (Kd.R_elder' (by (with_reducible repeat (first | apply Kd.R_alloc | apply Kd.R_drewN | apply Kd.R_drew)); exact HO416.out) (Kd.R_base ho0) hb); have n7_ := Asd.mk (Kd.S_elder' (by (with_reducible repeat (first | apply Kd.S_alloc | apply Kd.S_drewN | apply Kd.S_drew)); exact HO419.out) (Kd.R_base ho0) hb); have n8_ := Asd.mk (Kd.R_lower (Kd.R_new' (Kd.R_new' (Kd.R_new' (Kd.R_new' (Kd.R_new' ho0 (Kd.R_lt (by (with_reducible repeat (first | apply Kd.R_alloc | apply Kd.R_drewN | apply Kd.R_drew)); exact HO395.out))) (Kd.R_lt (by (with_reducible repeat (first | apply Kd.R_alloc | apply Kd.R_drewN | apply Kd.R_drew)); exact HO403.out))) (Kd.R_lt (by (with_reducible repeat (first | apply Kd.R_alloc | apply Kd.R_drewN | apply Kd.R_drew)); exact HO409.out))) (Kd.R_lt (by (with_reducible repeat (first | apply Kd.R_alloc | apply Kd.R_drewN | apply Kd.R_drew)); exact HO412.out))) (Kd.R_lt (by (with_reducible repeat (first | apply Kd.R_alloc | apply Kd.R_drewN | apply Kd.R_drew)); exact HO416.out))) (below_size (by repeat (first | (with_reducible first | exact HB.out | apply below_alloc | apply pbN | apply bd1 | refine below_set ?_ GE390.out) | exact HB.out)))); have n9_ := Asd.mk (blk_below (g := gb390) (o := .cells #[.slice A0_0 l0_0.length c0_0, .slice A0_1 l0_1.length c0_1] 63 (0, 0)) (by (with_reducible repeat (first | refine blk_drewN ?_ _ | refine blk_drew ?_ | refine blk_alloc ?_ _)); exact BK390.out) hb); have n10_ := Asd.mk (below_step (by repeat (first | (with_reducible first | exact HB.out | apply below_alloc | apply pbN | apply bd1 | refine below_set ?_ GE390.out) | exact HB.out)) hb); clear HO395; clear HO398; clear HO403; clear HO406; clear HO409; clear HO412; clear HO416; clear HO419; clear BK390; clear HB; have HO395 := n0_; have HO398 := n1_; have HO403 := n2_; have HO406 := n3_; have HO409 := n4_; have HO412 := n5_; have HO416 := n6_; have HO419 := n7_; have HO422 := n8_; have BK390 := n9_; have HB := n10_; clear n0_ n1_ n2_ n3_ n4_ n5_ n6_ n7_ n8_ n9_ n10_; (try clear hb); (try clear hb2); (try clear hk); (try clear hi); (try clear ho0); have hcz41_0 : w40.cell? ⟨gb390, 0, none⟩ = some (.slice A0_0 l0_0.length c0_0) := (blk_cell BK390.out 0).trans rfl; have hcz41_1 : w40.cell? ⟨gb390, 1, none⟩ = some (.slice A0_1 l0_1.length c0_1) := (blk_cell BK390.out 1).trans rfl; have hfz41_0 := blk_frozen BK390.out 0; have hfz41_1 := blk_frozen BK390.out 1) | ((with_reducible refine gate_callee (f := 43) rfl ?_); refine goesL_ (some 54) rfl rfl Tryz.func43 (by kernel_rfl) rfl #[.agg #[.slice A0_0 l0_0.length c0_0, .slice A0_1 l0_1.length c0_1]] rfl (by (try simp only [List.map_toArray, List.map_cons, List.map_nil]); first | done | rfl | (simp only [List.length_drop, List.length_take]; rfl)) ?_; (with_reducible refine (gr6_CheckLoop.calls kj4 _ _ l0_0 _ _ l0_1 t424 t425 _ ?side1 ?side2 ?side3 ?side4 A22.out).mono ?_); (case side1 => repeat (first | exact (Kd.C_below HR0_0.out HB.out) | (with_reducible refine Kd.C_alloc ?_ _) | (with_reducible refine Kd.C_drewN ?_ _) | (with_reducible refine Kd.C_drew ?_))); (case side2 => exact HC0_0.out); (case side3 => repeat (first | exact (Kd.C_below HR0_1.out HB.out) | (with_reducible refine Kd.C_alloc ?_ _) | (with_reducible refine Kd.C_drewN ?_ _) | (with_reducible refine Kd.C_drew ?_))); (case side4 => exact HC0_1.out); rintro e w42 ⟨rfl, hb⟩; refine ⟨_, rfl, ?_⟩; have n0_ := Asd.mk (Kd.R_below (by (with_reducible repeat (first | apply Kd.R_alloc | apply Kd.R_drewN | apply Kd.R_drew)); exact HO395.out) hb); have n1_ := Asd.mk (Kd.S_below (by (with_reducible repeat (first | apply Kd.S_alloc | apply Kd.S_drewN | apply Kd.S_drew)); exact HO398.out) hb); have n2_ := Asd.mk (Kd.R_below (by (with_reducible repeat (first | apply Kd.R_alloc | apply Kd.R_drewN | apply Kd.R_drew)); exact HO403.out) hb); have n3_ := Asd.mk (Kd.S_below (by (with_reducible repeat (first | apply Kd.S_alloc | apply Kd.S_drewN | apply Kd.S_drew)); exact HO406.out) hb); have n4_ := Asd.mk (Kd.R_below (by (with_reducible repeat (first | apply Kd.R_alloc | apply Kd.R_drewN | apply Kd.R_drew)); exact HO409.out) hb); have n5_ := Asd.mk (Kd.R_below (by (with_reducible repeat (first | apply Kd.R_alloc | apply Kd.R_drewN | apply Kd.R_drew)); exact HO412.out) hb); have n6_ := Asd.mk (Kd.R_below (by (with_reducible repeat (first | apply Kd.R_alloc | apply Kd.R_drewN | apply Kd.R_drew)); exact HO416.out) hb); have n7_ := Asd.mk (Kd.S_below (by (with_reducible repeat (first | apply Kd.S_alloc | apply Kd.S_drewN | apply Kd.S_drew)); exact HO419.out) hb); have n8_ := Asd.mk (Kd.R_below (by (with_reducible repeat (first | apply Kd.R_alloc | apply Kd.R_drewN | apply Kd.R_drew)); exact HO422.out) hb); have n9_ := Asd.mk (blk_below (g := gb390) (o := .cells #[.slice A0_0 l0_0.length c0_0, .slice A0_1 l0_1.length c0_1] 63 (0, 0)) (by (with_reducible repeat (first | refine blk_drewN ?_ _ | refine blk_drew ?_ | refine blk_alloc ?_ _)); exact BK390.out) hb); have n10_ := Asd.mk (below_step (by repeat (first | (with_reducible first | exact HB.out | apply below_alloc | apply pbN | apply bd1 | refine below_set ?_ GE390.out) | exact HB.out)) hb); clear HO395; clear HO398; clear HO403; clear HO406; clear HO409; clear HO412; clear HO416; clear HO419; clear HO422; clear BK390; clear HB; have HO395 := n0_; have HO398 := n1_; have HO403 := n2_; have HO406 := n3_; have HO409 := n4_; have HO412 := n5_; have HO416 := n6_; have HO419 := n7_; have HO422 := n8_; have BK390 := n9_; have HB := n10_; clear n0_ n1_ n2_ n3_ n4_ n5_ n6_ n7_ n8_ n9_ n10_; (try clear hb); (try clear hb2); (try clear hk); (try clear hi)))
     (try simp only [Act.put, List.setIfInBounds_toArray, List.set_cons_zero, List.set_cons_succ])
     go_cut [64] (fun v64 wc => ∃ (kq : Nat) (x64_22 : Bool), v64 = .bool x64_22 ∧ Asd (gl6_GovernorLoops.j1 kq l1 t410 t413 t420 t423 t425 x64_22 l0_0 l0_1 = some r) ∧ Asd (kq ≤ kj4) ∧ Asd (Kd.R (Kd.int .i64) 3 wc w.heap.size (fun k_ => some k_ ≠ (v421 : Value).ownBlock) v411 t410) ∧ Asd (Kd.R (Kd.int .i64) 3 wc w.heap.size (fun k_ => some k_ ≠ (v411 : Value).ownBlock) v421 t420) ∧ Asd (wc.heap[gb390]? = some (.cells #[(.slice A0_0 l0_0.length c0_0), (.slice A0_1 l0_1.length c0_1)] 63 (0, 0))) ∧ Asd (Below w.heap.size w wc))
     case first =>
      have H := HC23.out
      clear HC23
      by_cases c43 : t400 = t425
      ·rw [if_pos c43] at H
       have c43b0 : (t400 == t425) = true := beq_iff_eq.mpr c43
       have c43b1 : (t400 != t425) = false := bne_eq_false_iff_eq.mpr c43
       clear c43
       (first | rw [c43b0] | (simp only [i64_w, i32_w]; rw [c43b0]) | skip)
       have H' := Asd.mk H
       clear H
       go_wp2
       go_meet
       case rel => exact ⟨_, ((t399 != t424)), (by first | rfl | (simp; done) | (simp [*]; done)), H', ⟨by have := HJ4.out; first | omega | exact Nat.le_refl _⟩, ⟨by (with_reducible repeat (first | apply Kd.R_alloc | apply Kd.R_drewN | apply Kd.R_drew)); exact Kd.R_mono HO412.out (fun _ hk => hk.2)⟩, ⟨by (with_reducible repeat (first | apply Kd.R_alloc | apply Kd.R_drewN | apply Kd.R_drew)); exact Kd.R_mono HO422.out (fun _ hk => hk.1.2)⟩, ⟨by (with_reducible repeat (first | refine blk_drewN ?_ _ | refine blk_drew ?_ | refine blk_alloc ?_ _)); exact BK390.out⟩, ⟨by repeat (first | (with_reducible first | exact HB.out | apply below_alloc | apply pbN | apply bd1 | refine below_set ?_ GE390.out) | exact HB.out)⟩⟩
      ·rw [if_neg c43] at H
       have c43b0 : (t400 == t425) = false := beq_eq_false_iff_ne.mpr c43
       have c43b1 : (t400 != t425) = true := bne_iff_ne.mpr c43
       (first | rw [c43b0] | (simp only [i64_w, i32_w]; rw [c43b0]) | skip)
       have H' := Asd.mk H
       clear H
       go_wp2
       go_meet
       case rel => exact ⟨_, (true), (by first | rfl | (simp; done) | (simp [*]; done)), H', ⟨by have := HJ4.out; first | omega | exact Nat.le_refl _⟩, ⟨by (with_reducible repeat (first | apply Kd.R_alloc | apply Kd.R_drewN | apply Kd.R_drew)); exact Kd.R_mono HO412.out (fun _ hk => hk.2)⟩, ⟨by (with_reducible repeat (first | apply Kd.R_alloc | apply Kd.R_drewN | apply Kd.R_drew)); exact Kd.R_mono HO422.out (fun _ hk => hk.1.2)⟩, ⟨by (with_reducible repeat (first | refine blk_drewN ?_ _ | refine blk_drew ?_ | refine blk_alloc ?_ _)); exact BK390.out⟩, ⟨by repeat (first | (with_reducible first | exact HB.out | apply below_alloc | apply pbN | apply bd1 | refine below_set ?_ GE390.out) | exact HB.out)⟩⟩
     case rest =>
      clear HC23
      try clear c1
      try clear p2
      try clear c3
      try clear c4
      try clear c6
      try clear c9
      try clear c14
      try clear c16
      try clear c19
      try clear c38
      try clear c39
      try clear c40
      try clear c41
      try clear c42
      try clear c43
      try clear c43b0
      try clear c43b1
      try clear hcz10_0
      try clear hcz10_1
      try clear hcz12_0
      try clear hcz12_1
      try clear hcz24_0
      try clear hcz24_1
      try clear hcz29_0
      try clear hcz29_1
      try clear hcz36_0
      try clear hcz36_1
      try clear hcz41_0
      try clear hcz41_1
      try clear hfz10_0
      try clear hfz10_1
      try clear hfz12_0
      try clear hfz12_1
      try clear hfz24_0
      try clear hfz24_1
      try clear hfz29_0
      try clear hfz29_1
      try clear hfz36_0
      try clear hfz36_1
      try clear hfz41_0
      try clear hfz41_1
      try clear p2
      obtain ⟨kq, x64_22, rfl, HA, HJ22, HO_7, HO_9, BK390, HB⟩ := hcut
      cases kq with
      | zero => exact absurd HA.out (by simp [gl6_GovernorLoops.j1])
      | succ kj22 =>
       have H := HA.out
       clear HA
       simp only [gl6_GovernorLoops.j1] at H
       by_cases c44 : x64_22 = true
       ·subst c44
        have H1 : (some false) = some r := by rw [if_pos rfl] at H; exact H
        clear H
        have H := H1
        clear H1
        obtain rfl := Option.some.inj H
        go_wp2
        go_ret
        exact ⟨by first | rfl | (simp [errW_none, errW_some] <;> rfl) | (simp [*, errW_none, errW_some] <;> rfl), by repeat (first | (with_reducible first | exact HB.out | apply below_alloc | apply pbN | apply bd1 | refine below_set ?_ GE390.out) | exact HB.out)⟩
       ·replace c44 := Bool.eq_false_iff.mpr c44
        subst c44
        have H1 : (if t425 = 0 then ((gr6_SetErr.f kj22 l0_0 l0_1 l1).bind fun t426 => (if t426 = 0 then (if t413 = 0 then ((gr6_Sum.f kj22 l0_0 l0_1 l1).bind fun t427 => ((gba_Ints.f kj22 t410 t427).bind fun t430 => (gl6_GovernorLoops.j2 kj22 t420 t423 (!t430) l0_0 l0_1))) else (gl6_GovernorLoops.j2 kj22 t420 t423 true l0_0 l0_1)) else (if t413 = t426 then (if (t410.length : Int) = 0 then (gl6_GovernorLoops.j2 kj22 t420 t423 false l0_0 l0_1) else (gl6_GovernorLoops.j2 kj22 t420 t423 true l0_0 l0_1)) else (gl6_GovernorLoops.j2 kj22 t420 t423 true l0_0 l0_1)))) else (if t413 = t425 then (if t423 = t425 then (some ((wrap64 ((t410.length : Int) + (t420.length : Int))) == 0)) else (some false)) else (some false))) = some r := by rw [if_neg (show ¬ (false = true) by decide)] at H; exact H
        clear H
        have H := H1
        clear H1
        by_cases c45 : t425 = 0
        ·rw [if_pos c45] at H
         have c45b0 : (t425 == 0) = true := beq_iff_eq.mpr c45
         have c45b1 : (t425 != 0) = false := bne_eq_false_iff_eq.mpr c45
         clear c45
         replace H := Option.bind_eq_some_iff.mp H
         obtain ⟨t426, A460, H⟩ := H
         replace H : (if t426 = 0 then (if t413 = 0 then ((gr6_Sum.f kj22 l0_0 l0_1 l1).bind fun t427 => ((gba_Ints.f kj22 t410 t427).bind fun t430 => (gl6_GovernorLoops.j2 kj22 t420 t423 (!t430) l0_0 l0_1))) else (gl6_GovernorLoops.j2 kj22 t420 t423 true l0_0 l0_1)) else (if t413 = t426 then (if (t410.length : Int) = 0 then (gl6_GovernorLoops.j2 kj22 t420 t423 false l0_0 l0_1) else (gl6_GovernorLoops.j2 kj22 t420 t423 true l0_0 l0_1)) else (gl6_GovernorLoops.j2 kj22 t420 t423 true l0_0 l0_1))) = some r := H
         have A46 := Asd.mk A460
         clear A460
         have HC47 := Asd.mk H
         clear H
         have hcz48_0 : wc.cell? ⟨gb390, 0, none⟩ = some (.slice A0_0 l0_0.length c0_0) := (blk_cell BK390.out 0).trans rfl
         have hcz48_1 : wc.cell? ⟨gb390, 1, none⟩ = some (.slice A0_1 l0_1.length c0_1) := (blk_cell BK390.out 1).trans rfl
         have hfz48_0 := blk_frozen BK390.out 0
         have hfz48_1 := blk_frozen BK390.out 1
         go_upto_region 14 with (first | ((with_reducible refine gate_callee (f := 44) rfl ?_); refine goesL_ (some 85) rfl rfl Tryz.func44 (by kernel_rfl) rfl #[.agg #[.slice A0_0 l0_0.length c0_0, .slice A0_1 l0_1.length c0_1], .slice A1 l1.length c1] rfl (by (try simp only [List.map_toArray, List.map_cons, List.map_nil]); first | done | rfl | (simp only [List.length_drop, List.length_take]; rfl)) ?_; (with_reducible refine (gr6_SetErr.calls kj22 _ _ l0_0 _ _ l0_1 _ _ l1 t426 _ ?side1 ?side2 ?side3 ?side4 ?side5 ?side6 A46.out).mono ?_); (case side1 => repeat (first | exact (Kd.C_below HR0_0.out HB.out) | (with_reducible refine Kd.C_alloc ?_ _) | (with_reducible refine Kd.C_drewN ?_ _) | (with_reducible refine Kd.C_drew ?_))); (case side2 => exact HC0_0.out); (case side3 => repeat (first | exact (Kd.C_below HR0_1.out HB.out) | (with_reducible refine Kd.C_alloc ?_ _) | (with_reducible refine Kd.C_drewN ?_ _) | (with_reducible refine Kd.C_drew ?_))); (case side4 => exact HC0_1.out); (case side5 => repeat (first | exact (Kd.C_below HR1.out HB.out) | (with_reducible refine Kd.C_alloc ?_ _) | (with_reducible refine Kd.C_drewN ?_ _) | (with_reducible refine Kd.C_drew ?_))); (case side6 => exact HC1.out); rintro e w49 ⟨rfl, hb⟩; refine ⟨_, rfl, ?_⟩; have n0_ := Asd.mk (Kd.R_below (by (with_reducible repeat (first | apply Kd.R_alloc | apply Kd.R_drewN | apply Kd.R_drew)); exact HO_7.out) hb); have n1_ := Asd.mk (Kd.R_below (by (with_reducible repeat (first | apply Kd.R_alloc | apply Kd.R_drewN | apply Kd.R_drew)); exact HO_9.out) hb); have n2_ := Asd.mk (blk_below (g := gb390) (o := .cells #[.slice A0_0 l0_0.length c0_0, .slice A0_1 l0_1.length c0_1] 63 (0, 0)) (by (with_reducible repeat (first | refine blk_drewN ?_ _ | refine blk_drew ?_ | refine blk_alloc ?_ _)); exact BK390.out) hb); have n3_ := Asd.mk (below_step (by repeat (first | (with_reducible first | exact HB.out | apply below_alloc | apply pbN | apply bd1 | refine below_set ?_ GE390.out) | exact HB.out)) hb); clear HO_7; clear HO_9; clear BK390; clear HB; have HO_7 := n0_; have HO_9 := n1_; have BK390 := n2_; have HB := n3_; clear n0_ n1_ n2_ n3_; (try clear hb); (try clear hb2); (try clear hk); (try clear hi)))
         (try simp only [Act.put, List.setIfInBounds_toArray, List.set_cons_zero, List.set_cons_succ])
         go_cut [113] (fun v113 wc => ∃ (kq : Nat) (x113_46 : Bool), v113 = .bool x113_46 ∧ Asd (gl6_GovernorLoops.j2 kq t420 t423 x113_46 l0_0 l0_1 = some r) ∧ Asd (kq ≤ kj22) ∧ Asd (Kd.R (Kd.int .i64) 3 wc w.heap.size (fun _ => True) v421 t420) ∧ Asd (wc.heap[gb390]? = some (.cells #[(.slice A0_0 l0_0.length c0_0), (.slice A0_1 l0_1.length c0_1)] 63 (0, 0))) ∧ Asd (Below w.heap.size w wc))
         case first =>
          have H := HC47.out
          clear HC47
          by_cases c50 : t426 = 0
          ·rw [if_pos c50] at H
           have c50b0 : (t426 == 0) = true := beq_iff_eq.mpr c50
           have c50b1 : (t426 != 0) = false := bne_eq_false_iff_eq.mpr c50
           clear c50
           (first | rw [c50b0] | (simp only [i64_w, i32_w]; rw [c50b0]) | skip)
           by_cases c51 : t413 = 0
           ·rw [if_pos c51] at H
            have c51b0 : (t413 == 0) = true := beq_iff_eq.mpr c51
            have c51b1 : (t413 != 0) = false := bne_eq_false_iff_eq.mpr c51
            clear c51
            replace H := Option.bind_eq_some_iff.mp H
            obtain ⟨t427, A520, H⟩ := H
            replace H : ((gba_Ints.f kj22 t410 t427).bind fun t430 => (gl6_GovernorLoops.j2 kj22 t420 t423 (!t430) l0_0 l0_1)) = some r := H
            have A52 := Asd.mk A520
            clear A520
            replace H := Option.bind_eq_some_iff.mp H
            obtain ⟨t430, A530, H⟩ := H
            replace H : (gl6_GovernorLoops.j2 kj22 t420 t423 (!t430) l0_0 l0_1) = some r := H
            have A53 := Asd.mk A530
            clear A530
            have H' := Asd.mk H
            clear H
            have hcz54_0 : w49.cell? ⟨gb390, 0, none⟩ = some (.slice A0_0 l0_0.length c0_0) := (blk_cell BK390.out 0).trans rfl
            have hcz54_1 : w49.cell? ⟨gb390, 1, none⟩ = some (.slice A0_1 l0_1.length c0_1) := (blk_cell BK390.out 1).trans rfl
            have hfz54_0 := blk_frozen BK390.out 0
            have hfz54_1 := blk_frozen BK390.out 1
            go_wp2_with (first | (go_at_call 45; (with_reducible refine (gr6_Sum.calls kj22 _ _ l0_0 _ _ l0_1 _ _ l1 t427 _ ?side1 ?side2 ?side3 ?side4 ?side5 ?side6 A52.out).mono ?_); (case side1 => repeat (first | exact (Kd.C_below HR0_0.out HB.out) | (with_reducible refine Kd.C_alloc ?_ _) | (with_reducible refine Kd.C_drewN ?_ _) | (with_reducible refine Kd.C_drew ?_))); (case side2 => exact HC0_0.out); (case side3 => repeat (first | exact (Kd.C_below HR0_1.out HB.out) | (with_reducible refine Kd.C_alloc ?_ _) | (with_reducible refine Kd.C_drewN ?_ _) | (with_reducible refine Kd.C_drew ?_))); (case side4 => exact HC0_1.out); (case side5 => repeat (first | exact (Kd.C_below HR1.out HB.out) | (with_reducible refine Kd.C_alloc ?_ _) | (with_reducible refine Kd.C_drewN ?_ _) | (with_reducible refine Kd.C_drew ?_))); (case side6 => exact HC1.out); rintro e w55 ⟨v428, rfl, ho0, hb⟩; have n0_ := Asd.mk (Kd.R_elder' (by (with_reducible repeat (first | apply Kd.R_alloc | apply Kd.R_drewN | apply Kd.R_drew)); exact HO_7.out) (Kd.R_base ho0) hb); have n1_ := Asd.mk (Kd.R_elder' (by (with_reducible repeat (first | apply Kd.R_alloc | apply Kd.R_drewN | apply Kd.R_drew)); exact HO_9.out) (Kd.R_base ho0) hb); have n2_ := Asd.mk (Kd.R_lower (Kd.R_new' (Kd.R_new' ho0 (Kd.R_lt (by (with_reducible repeat (first | apply Kd.R_alloc | apply Kd.R_drewN | apply Kd.R_drew)); exact HO_7.out))) (Kd.R_lt (by (with_reducible repeat (first | apply Kd.R_alloc | apply Kd.R_drewN | apply Kd.R_drew)); exact HO_9.out))) (below_size (by repeat (first | (with_reducible first | exact HB.out | apply below_alloc | apply pbN | apply bd1 | refine below_set ?_ GE390.out) | exact HB.out)))); have n3_ := Asd.mk (blk_below (g := gb390) (o := .cells #[.slice A0_0 l0_0.length c0_0, .slice A0_1 l0_1.length c0_1] 63 (0, 0)) (by (with_reducible repeat (first | refine blk_drewN ?_ _ | refine blk_drew ?_ | refine blk_alloc ?_ _)); exact BK390.out) hb); have n4_ := Asd.mk (below_step (by repeat (first | (with_reducible first | exact HB.out | apply below_alloc | apply pbN | apply bd1 | refine below_set ?_ GE390.out) | exact HB.out)) hb); clear HO_7; clear HO_9; clear BK390; clear HB; have HO_7 := n0_; have HO_9 := n1_; have HO429 := n2_; have BK390 := n3_; have HB := n4_; clear n0_ n1_ n2_ n3_ n4_; (try clear hb); (try clear hb2); (try clear hk); (try clear hi); (try clear ho0); obtain ⟨Ao56, co56, eo56⟩ := Kd.R_slice HO_7.out; subst eo56; obtain ⟨Ao57, co57, eo57⟩ := Kd.R_slice HO429.out; subst eo57) | (go_at_call 26; (with_reducible refine (gba_Ints.calls kj22 _ _ t410 _ _ t427 t430 _ ?side1 ?side2 ?side3 ?side4 A53.out).mono ?_); (case side1 => repeat (first | exact (Kd.R_reads' HO_7.out).2.2 | (with_reducible refine Kd.C_alloc ?_ _) | (with_reducible refine Kd.C_drewN ?_ _) | (with_reducible refine Kd.C_drew ?_))); (case side2 => exact (Kd.R_reads' HO_7.out).2.1); (case side3 => repeat (first | exact (Kd.R_reads' HO429.out).2.2 | (with_reducible refine Kd.C_alloc ?_ _) | (with_reducible refine Kd.C_drewN ?_ _) | (with_reducible refine Kd.C_drew ?_))); (case side4 => exact (Kd.R_reads' HO429.out).2.1); rintro e w' ⟨rfl, ⟨nd, rfl⟩⟩))
            go_meet
            case rel => exact ⟨_, (!t430), (by first | rfl | (simp; done) | (simp [*]; done)), H', ⟨by have := HJ4.out; have := HJ22.out; first | omega | exact Nat.le_refl _⟩, ⟨by (with_reducible repeat (first | apply Kd.R_alloc | apply Kd.R_drewN | apply Kd.R_drew)); exact Kd.R_mono HO_9.out (fun _ hk => trivial)⟩, ⟨by (with_reducible repeat (first | refine blk_drewN ?_ _ | refine blk_drew ?_ | refine blk_alloc ?_ _)); exact BK390.out⟩, ⟨by repeat (first | (with_reducible first | exact HB.out | apply below_alloc | apply pbN | apply bd1 | refine below_set ?_ GE390.out) | exact HB.out)⟩⟩
           ·rw [if_neg c51] at H
            have c51b0 : (t413 == 0) = false := beq_eq_false_iff_ne.mpr c51
            have c51b1 : (t413 != 0) = true := bne_iff_ne.mpr c51
            have H' := Asd.mk H
            clear H
            go_wp2
            go_meet
            case rel => exact ⟨_, (true), (by first | rfl | (simp; done) | (simp [*]; done)), H', ⟨by have := HJ4.out; have := HJ22.out; first | omega | exact Nat.le_refl _⟩, ⟨by (with_reducible repeat (first | apply Kd.R_alloc | apply Kd.R_drewN | apply Kd.R_drew)); exact Kd.R_mono HO_9.out (fun _ hk => trivial)⟩, ⟨by (with_reducible repeat (first | refine blk_drewN ?_ _ | refine blk_drew ?_ | refine blk_alloc ?_ _)); exact BK390.out⟩, ⟨by repeat (first | (with_reducible first | exact HB.out | apply below_alloc | apply pbN | apply bd1 | refine below_set ?_ GE390.out) | exact HB.out)⟩⟩
          ·rw [if_neg c50] at H
           have c50b0 : (t426 == 0) = false := beq_eq_false_iff_ne.mpr c50
           have c50b1 : (t426 != 0) = true := bne_iff_ne.mpr c50
           (first | rw [c50b0] | (simp only [i64_w, i32_w]; rw [c50b0]) | skip)
           by_cases c58 : t413 = t426
           ·rw [if_pos c58] at H
            have c58b0 : (t413 == t426) = true := beq_iff_eq.mpr c58
            have c58b1 : (t413 != t426) = false := bne_eq_false_iff_eq.mpr c58
            clear c58
            by_cases c59 : (t410.length : Int) = 0
            ·rw [if_pos c59] at H
             have c59b0 : ((t410.length : Int) == 0) = true := beq_iff_eq.mpr c59
             have c59b1 : ((t410.length : Int) != 0) = false := bne_eq_false_iff_eq.mpr c59
             clear c59
             have H' := Asd.mk H
             clear H
             obtain ⟨Ao60, co60, eo60⟩ := Kd.R_slice HO_7.out
             subst eo60
             go_wp2
             go_meet
             case rel => exact ⟨_, (false), (by first | rfl | (simp; done) | (simp [*]; done)), H', ⟨by have := HJ4.out; have := HJ22.out; first | omega | exact Nat.le_refl _⟩, ⟨by (with_reducible repeat (first | apply Kd.R_alloc | apply Kd.R_drewN | apply Kd.R_drew)); exact Kd.R_mono HO_9.out (fun _ hk => trivial)⟩, ⟨by (with_reducible repeat (first | refine blk_drewN ?_ _ | refine blk_drew ?_ | refine blk_alloc ?_ _)); exact BK390.out⟩, ⟨by repeat (first | (with_reducible first | exact HB.out | apply below_alloc | apply pbN | apply bd1 | refine below_set ?_ GE390.out) | exact HB.out)⟩⟩
            ·rw [if_neg c59] at H
             have c59b0 : ((t410.length : Int) == 0) = false := beq_eq_false_iff_ne.mpr c59
             have c59b1 : ((t410.length : Int) != 0) = true := bne_iff_ne.mpr c59
             have c59b2 : ¬ (t410 = []) := fun h_ => c59 (by rw [h_]; rfl)
             have H' := Asd.mk H
             clear H
             obtain ⟨Ao61, co61, eo61⟩ := Kd.R_slice HO_7.out
             subst eo61
             go_wp2
             go_meet
             case rel => exact ⟨_, (true), (by first | rfl | (simp; done) | (simp [*]; done)), H', ⟨by have := HJ4.out; have := HJ22.out; first | omega | exact Nat.le_refl _⟩, ⟨by (with_reducible repeat (first | apply Kd.R_alloc | apply Kd.R_drewN | apply Kd.R_drew)); exact Kd.R_mono HO_9.out (fun _ hk => trivial)⟩, ⟨by (with_reducible repeat (first | refine blk_drewN ?_ _ | refine blk_drew ?_ | refine blk_alloc ?_ _)); exact BK390.out⟩, ⟨by repeat (first | (with_reducible first | exact HB.out | apply below_alloc | apply pbN | apply bd1 | refine below_set ?_ GE390.out) | exact HB.out)⟩⟩
           ·rw [if_neg c58] at H
            have c58b0 : (t413 == t426) = false := beq_eq_false_iff_ne.mpr c58
            have c58b1 : (t413 != t426) = true := bne_iff_ne.mpr c58
            have H' := Asd.mk H
            clear H
            go_wp2
            go_meet
            case rel => exact ⟨_, (true), (by first | rfl | (simp; done) | (simp [*]; done)), H', ⟨by have := HJ4.out; have := HJ22.out; first | omega | exact Nat.le_refl _⟩, ⟨by (with_reducible repeat (first | apply Kd.R_alloc | apply Kd.R_drewN | apply Kd.R_drew)); exact Kd.R_mono HO_9.out (fun _ hk => trivial)⟩, ⟨by (with_reducible repeat (first | refine blk_drewN ?_ _ | refine blk_drew ?_ | refine blk_alloc ?_ _)); exact BK390.out⟩, ⟨by repeat (first | (with_reducible first | exact HB.out | apply below_alloc | apply pbN | apply bd1 | refine below_set ?_ GE390.out) | exact HB.out)⟩⟩
         case rest =>
          clear HC47
          try clear c1
          try clear p2
          try clear c3
          try clear c4
          try clear c5
          try clear c6
          try clear p6
          try clear c9
          try clear c14
          try clear c16
          try clear c19
          try clear c38
          try clear c39
          try clear c40
          try clear c41
          try clear c42
          try clear c43
          try clear c43b0
          try clear c43b1
          try clear c44
          try clear c45
          try clear c45b0
          try clear c45b1
          try clear c50
          try clear c50b0
          try clear c50b1
          try clear c51
          try clear c51b0
          try clear c51b1
          try clear c58
          try clear c58b0
          try clear c58b1
          try clear c59
          try clear c59b0
          try clear c59b1
          try clear c59b2
          try clear hcz10_0
          try clear hcz10_1
          try clear hcz12_0
          try clear hcz12_1
          try clear hcz24_0
          try clear hcz24_1
          try clear hcz29_0
          try clear hcz29_1
          try clear hcz36_0
          try clear hcz36_1
          try clear hcz41_0
          try clear hcz41_1
          try clear hcz48_0
          try clear hcz48_1
          try clear hcz54_0
          try clear hcz54_1
          try clear hfz10_0
          try clear hfz10_1
          try clear hfz12_0
          try clear hfz12_1
          try clear hfz24_0
          try clear hfz24_1
          try clear hfz29_0
          try clear hfz29_1
          try clear hfz36_0
          try clear hfz36_1
          try clear hfz41_0
          try clear hfz41_1
          try clear hfz48_0
          try clear hfz48_1
          try clear hfz54_0
          try clear hfz54_1
          try clear p2
          obtain ⟨kq, x113_46, rfl, HA, HJ46, HO_9, BK390, HB⟩ := hcut
          cases kq with
          | zero => exact absurd HA.out (by simp [gl6_GovernorLoops.j2])
          | succ kj46 =>
           have H := HA.out
           clear HA
           simp only [gl6_GovernorLoops.j2] at H
           by_cases c62 : x113_46 = true
           ·subst c62
            have H1 : (some false) = some r := by rw [if_pos rfl] at H; exact H
            clear H
            have H := H1
            clear H1
            obtain rfl := Option.some.inj H
            go_wp2
            go_ret
            exact ⟨by first | rfl | (simp [errW_none, errW_some] <;> rfl) | (simp [*, errW_none, errW_some] <;> rfl), by repeat (first | (with_reducible first | exact HB.out | apply below_alloc | apply pbN | apply bd1 | refine below_set ?_ GE390.out) | exact HB.out)⟩
           ·replace c62 := Bool.eq_false_iff.mpr c62
            subst c62
            have H1 : ((gr6_Unstable.f l0_0 l0_1).bind fun bt431 => (if bt431.2 = true then (if t423 = 0 then ((gba_Ints.f kj46 t420 bt431.1).bind fun t435 => (gl6_GovernorLoops.j3 kj46 t420 (!t435) l0_0 l0_1)) else (gl6_GovernorLoops.j3 kj46 t420 true l0_0 l0_1)) else (if t423 = 12 then (some ((t420.length : Int) == 0)) else (some false)))) = some r := by rw [if_neg (show ¬ (false = true) by decide)] at H; exact H
            clear H
            have H := H1
            clear H1
            replace H := Option.bind_eq_some_iff.mp H
            obtain ⟨⟨t431, t434⟩, A630, H⟩ := H
            replace H : (if t434 = true then (if t423 = 0 then ((gba_Ints.f kj46 t420 t431).bind fun t435 => (gl6_GovernorLoops.j3 kj46 t420 (!t435) l0_0 l0_1)) else (gl6_GovernorLoops.j3 kj46 t420 true l0_0 l0_1)) else (if t423 = 12 then (some ((t420.length : Int) == 0)) else (some false))) = some r := H
            have A63 := Asd.mk A630
            clear A630
            by_cases c64 : t434 = true
            ·subst c64
             have H1 : (if t423 = 0 then ((gba_Ints.f kj46 t420 t431).bind fun t435 => (gl6_GovernorLoops.j3 kj46 t420 (!t435) l0_0 l0_1)) else (gl6_GovernorLoops.j3 kj46 t420 true l0_0 l0_1)) = some r := by rw [if_pos rfl] at H; exact H
             clear H
             have H := H1
             clear H1
             have HC65 := Asd.mk H
             clear H
             have hcz66_0 : wc.cell? ⟨gb390, 0, none⟩ = some (.slice A0_0 l0_0.length c0_0) := (blk_cell BK390.out 0).trans rfl
             have hcz66_1 : wc.cell? ⟨gb390, 1, none⟩ = some (.slice A0_1 l0_1.length c0_1) := (blk_cell BK390.out 1).trans rfl
             have hfz66_0 := blk_frozen BK390.out 0
             have hfz66_1 := blk_frozen BK390.out 1
             go_upto_region 19 with (first | ((with_reducible refine gate_callee (f := 46) rfl ?_); refine goesL_ (some 116) rfl rfl Tryz.func46 (by kernel_rfl) rfl #[.agg #[.slice A0_0 l0_0.length c0_0, .slice A0_1 l0_1.length c0_1]] rfl (by (try simp only [List.map_toArray, List.map_cons, List.map_nil]); first | done | rfl | (simp only [List.length_drop, List.length_take]; rfl)) ?_; (with_reducible refine (gr6_Unstable.calls _ _ l0_0 _ _ l0_1 t431 true _ ?side1 ?side2 ?side3 ?side4 A63.out).mono ?_); (case side1 => repeat (first | exact (Kd.C_below HR0_0.out HB.out) | (with_reducible refine Kd.C_alloc ?_ _) | (with_reducible refine Kd.C_drewN ?_ _) | (with_reducible refine Kd.C_drew ?_))); (case side2 => exact HC0_0.out); (case side3 => repeat (first | exact (Kd.C_below HR0_1.out HB.out) | (with_reducible refine Kd.C_alloc ?_ _) | (with_reducible refine Kd.C_drewN ?_ _) | (with_reducible refine Kd.C_drew ?_))); (case side4 => exact HC0_1.out); rintro e w67 ⟨v432, rfl, ho0, hb⟩; refine ⟨_, rfl, ?_⟩; have n0_ := Asd.mk (Kd.R_elder' (by (with_reducible repeat (first | apply Kd.R_alloc | apply Kd.R_drewN | apply Kd.R_drew)); exact HO_9.out) (Kd.R_base ho0) hb); have n1_ := Asd.mk (Kd.R_lower (Kd.R_new' ho0 (Kd.R_lt (by (with_reducible repeat (first | apply Kd.R_alloc | apply Kd.R_drewN | apply Kd.R_drew)); exact HO_9.out))) (below_size (by repeat (first | (with_reducible first | exact HB.out | apply below_alloc | apply pbN | apply bd1 | refine below_set ?_ GE390.out) | exact HB.out)))); have n2_ := Asd.mk (blk_below (g := gb390) (o := .cells #[.slice A0_0 l0_0.length c0_0, .slice A0_1 l0_1.length c0_1] 63 (0, 0)) (by (with_reducible repeat (first | refine blk_drewN ?_ _ | refine blk_drew ?_ | refine blk_alloc ?_ _)); exact BK390.out) hb); have n3_ := Asd.mk (below_step (by repeat (first | (with_reducible first | exact HB.out | apply below_alloc | apply pbN | apply bd1 | refine below_set ?_ GE390.out) | exact HB.out)) hb); clear HO_9; clear BK390; clear HB; have HO_9 := n0_; have HO433 := n1_; have BK390 := n2_; have HB := n3_; clear n0_ n1_ n2_ n3_; (try clear hb); (try clear hb2); (try clear hk); (try clear hi); (try clear ho0)))
             (try simp only [Act.put, List.setIfInBounds_toArray, List.set_cons_zero, List.set_cons_succ])
             go_cut [135] (fun v135 wc => ∃ (kq : Nat) (x135_64 : Bool), v135 = .bool x135_64 ∧ Asd (gl6_GovernorLoops.j3 kq t420 x135_64 l0_0 l0_1 = some r) ∧ Asd (kq ≤ kj46) ∧ Asd (Kd.R (Kd.int .i64) 3 wc w.heap.size (fun _ => True) v421 t420) ∧ Asd (wc.heap[gb390]? = some (.cells #[(.slice A0_0 l0_0.length c0_0), (.slice A0_1 l0_1.length c0_1)] 63 (0, 0))) ∧ Asd (Below w.heap.size w wc))
             case first =>
              have H := HC65.out
              clear HC65
              by_cases c68 : t423 = 0
              ·rw [if_pos c68] at H
               have c68b0 : (t423 == 0) = true := beq_iff_eq.mpr c68
               have c68b1 : (t423 != 0) = false := bne_eq_false_iff_eq.mpr c68
               clear c68
               (first | rw [c68b0] | (simp only [i64_w, i32_w]; rw [c68b0]) | skip)
               replace H := Option.bind_eq_some_iff.mp H
               obtain ⟨t435, A690, H⟩ := H
               replace H : (gl6_GovernorLoops.j3 kj46 t420 (!t435) l0_0 l0_1) = some r := H
               have A69 := Asd.mk A690
               clear A690
               have H' := Asd.mk H
               clear H
               obtain ⟨Ao70, co70, eo70⟩ := Kd.R_slice HO_9.out
               subst eo70
               obtain ⟨Ao71, co71, eo71⟩ := Kd.R_slice HO433.out
               subst eo71
               go_wp2_with (first | (go_at_call 26; (with_reducible refine (gba_Ints.calls kj46 _ _ t420 _ _ t431 t435 _ ?side1 ?side2 ?side3 ?side4 A69.out).mono ?_); (case side1 => repeat (first | exact (Kd.R_reads' HO_9.out).2.2 | (with_reducible refine Kd.C_alloc ?_ _) | (with_reducible refine Kd.C_drewN ?_ _) | (with_reducible refine Kd.C_drew ?_))); (case side2 => exact (Kd.R_reads' HO_9.out).2.1); (case side3 => repeat (first | exact (Kd.R_reads' HO433.out).2.2 | (with_reducible refine Kd.C_alloc ?_ _) | (with_reducible refine Kd.C_drewN ?_ _) | (with_reducible refine Kd.C_drew ?_))); (case side4 => exact (Kd.R_reads' HO433.out).2.1); rintro e w' ⟨rfl, ⟨nd, rfl⟩⟩))
               go_meet
               case rel => exact ⟨_, (!t435), (by first | rfl | (simp; done) | (simp [*]; done)), H', ⟨by have := HJ4.out; have := HJ22.out; have := HJ46.out; first | omega | exact Nat.le_refl _⟩, ⟨by (with_reducible repeat (first | apply Kd.R_alloc | apply Kd.R_drewN | apply Kd.R_drew)); exact Kd.R_mono HO_9.out (fun _ hk => trivial)⟩, ⟨by (with_reducible repeat (first | refine blk_drewN ?_ _ | refine blk_drew ?_ | refine blk_alloc ?_ _)); exact BK390.out⟩, ⟨by repeat (first | (with_reducible first | exact HB.out | apply below_alloc | apply pbN | apply bd1 | refine below_set ?_ GE390.out) | exact HB.out)⟩⟩
              ·rw [if_neg c68] at H
               have c68b0 : (t423 == 0) = false := beq_eq_false_iff_ne.mpr c68
               have c68b1 : (t423 != 0) = true := bne_iff_ne.mpr c68
               (first | rw [c68b0] | (simp only [i64_w, i32_w]; rw [c68b0]) | skip)
               have H' := Asd.mk H
               clear H
               go_wp2
               go_meet
               case rel => exact ⟨_, (true), (by first | rfl | (simp; done) | (simp [*]; done)), H', ⟨by have := HJ4.out; have := HJ22.out; have := HJ46.out; first | omega | exact Nat.le_refl _⟩, ⟨by (with_reducible repeat (first | apply Kd.R_alloc | apply Kd.R_drewN | apply Kd.R_drew)); exact Kd.R_mono HO_9.out (fun _ hk => trivial)⟩, ⟨by (with_reducible repeat (first | refine blk_drewN ?_ _ | refine blk_drew ?_ | refine blk_alloc ?_ _)); exact BK390.out⟩, ⟨by repeat (first | (with_reducible first | exact HB.out | apply below_alloc | apply pbN | apply bd1 | refine below_set ?_ GE390.out) | exact HB.out)⟩⟩
             case rest =>
              clear HC65
              try clear c1
              try clear p2
              try clear c3
              try clear c4
              try clear c5
              try clear c6
              try clear p6
              try clear c9
              try clear c14
              try clear c16
              try clear c19
              try clear c38
              try clear c39
              try clear c40
              try clear c41
              try clear c42
              try clear c43
              try clear c43b0
              try clear c43b1
              try clear c44
              try clear c45
              try clear c45b0
              try clear c45b1
              try clear c46
              try clear c50
              try clear c50b0
              try clear c50b1
              try clear c51
              try clear c51b0
              try clear c51b1
              try clear c58
              try clear c58b0
              try clear c58b1
              try clear c59
              try clear c59b0
              try clear c59b1
              try clear c59b2
              try clear c62
              try clear c64
              try clear p64
              try clear c68
              try clear c68b0
              try clear c68b1
              try clear hcz10_0
              try clear hcz10_1
              try clear hcz12_0
              try clear hcz12_1
              try clear hcz24_0
              try clear hcz24_1
              try clear hcz29_0
              try clear hcz29_1
              try clear hcz36_0
              try clear hcz36_1
              try clear hcz41_0
              try clear hcz41_1
              try clear hcz48_0
              try clear hcz48_1
              try clear hcz54_0
              try clear hcz54_1
              try clear hcz66_0
              try clear hcz66_1
              try clear hfz10_0
              try clear hfz10_1
              try clear hfz12_0
              try clear hfz12_1
              try clear hfz24_0
              try clear hfz24_1
              try clear hfz29_0
              try clear hfz29_1
              try clear hfz36_0
              try clear hfz36_1
              try clear hfz41_0
              try clear hfz41_1
              try clear hfz48_0
              try clear hfz48_1
              try clear hfz54_0
              try clear hfz54_1
              try clear hfz66_0
              try clear hfz66_1
              try clear p2
              try clear p6
              obtain ⟨kq, x135_64, rfl, HA, HJ64, HO_9, BK390, HB⟩ := hcut
              cases kq with
              | zero => exact absurd HA.out (by simp [gl6_GovernorLoops.j3])
              | succ kj64 =>
               have H := HA.out
               clear HA
               simp only [gl6_GovernorLoops.j3] at H
               by_cases c72 : x135_64 = true
               ·subst c72
                have H1 : (some false) = some r := by rw [if_pos rfl] at H; exact H
                clear H
                have H := H1
                clear H1
                obtain rfl := Option.some.inj H
                go_wp2
                go_ret
                exact ⟨by first | rfl | (simp [errW_none, errW_some] <;> rfl) | (simp [*, errW_none, errW_some] <;> rfl), by repeat (first | (with_reducible first | exact HB.out | apply below_alloc | apply pbN | apply bd1 | refine below_set ?_ GE390.out) | exact HB.out)⟩
               ·replace c72 := Bool.eq_false_iff.mpr c72
                subst c72
                have H1 : (gl6_GovernorLoops.l0 kj64 t420 (-1) l0_0 l0_1) = some r := by rw [if_neg (show ¬ (false = true) by decide)] at H; exact H
                clear H
                have H := H1
                clear H1
                have H' := Asd.mk H
                clear H
                go_wp2
                go_loopg [15] kj64 (fun kq v15 w' => ∃ (x15_5 : Int), v15 = .int .i64 x15_5 ∧ Asd (gl6_GovernorLoops.l0 kq t420 x15_5 l0_0 l0_1 = some r) ∧ Asd (kq ≤ kj64) ∧ Asd (Kd.R (Kd.int .i64) 3 w' w.heap.size (fun _ => True) v421 t420) ∧ Asd (w'.heap[gb390]? = some (.cells #[(.slice A0_0 l0_0.length c0_0), (.slice A0_1 l0_1.length c0_1)] 63 (0, 0))) ∧ Asd (Below w.heap.size w w'))
                case atStart => exact ⟨((-1)), (by first | rfl | (simp; done) | (simp [*]; done)), H', ⟨Nat.le_refl _⟩, ⟨by (with_reducible repeat (first | apply Kd.R_alloc | apply Kd.R_drewN | apply Kd.R_drew)); exact HO_9.out⟩, ⟨by (with_reducible repeat (first | refine blk_drewN ?_ _ | refine blk_drew ?_ | refine blk_alloc ?_ _)); exact BK390.out⟩, ⟨by repeat (first | (with_reducible first | exact HB.out | apply below_alloc | apply pbN | apply bd1 | refine below_set ?_ GE390.out) | exact HB.out)⟩⟩
                case round =>
                 clear H'
                 try clear c1
                 try clear p2
                 try clear c3
                 try clear c4
                 try clear c5
                 try clear c6
                 try clear p6
                 try clear c7
                 try clear c9
                 try clear c14
                 try clear c16
                 try clear c19
                 try clear c38
                 try clear c39
                 try clear c40
                 try clear c41
                 try clear c42
                 try clear c43
                 try clear c43b0
                 try clear c43b1
                 try clear c44
                 try clear c45
                 try clear c45b0
                 try clear c45b1
                 try clear c46
                 try clear c50
                 try clear c50b0
                 try clear c50b1
                 try clear c51
                 try clear c51b0
                 try clear c51b1
                 try clear c58
                 try clear c58b0
                 try clear c58b1
                 try clear c59
                 try clear c59b0
                 try clear c59b1
                 try clear c59b2
                 try clear c62
                 try clear c64
                 try clear p64
                 try clear c68
                 try clear c68b0
                 try clear c68b1
                 try clear c72
                 try clear hcz10_0
                 try clear hcz10_1
                 try clear hcz12_0
                 try clear hcz12_1
                 try clear hcz24_0
                 try clear hcz24_1
                 try clear hcz29_0
                 try clear hcz29_1
                 try clear hcz36_0
                 try clear hcz36_1
                 try clear hcz41_0
                 try clear hcz41_1
                 try clear hcz48_0
                 try clear hcz48_1
                 try clear hcz54_0
                 try clear hcz54_1
                 try clear hcz66_0
                 try clear hcz66_1
                 try clear hfz10_0
                 try clear hfz10_1
                 try clear hfz12_0
                 try clear hfz12_1
                 try clear hfz24_0
                 try clear hfz24_1
                 try clear hfz29_0
                 try clear hfz29_1
                 try clear hfz36_0
                 try clear hfz36_1
                 try clear hfz41_0
                 try clear hfz41_1
                 try clear hfz48_0
                 try clear hfz48_1
                 try clear hfz54_0
                 try clear hfz54_1
                 try clear hfz66_0
                 try clear hfz66_1
                 try clear p2
                 try clear p6
                 try clear p64
                 obtain ⟨x15_5, rfl, HA, HK5, HO_9, BK390, HB⟩ := hrel
                 cases gk with
                 | zero => exact absurd HA.out (by simp [gl6_GovernorLoops.l0])
                 | succ k5 =>
                  have H := HA.out
                  clear HA
                  simp only [gl6_GovernorLoops.l0] at H
                  by_cases c73 : x15_5 < (t420.length : Int)
                  ·rw [if_pos c73] at H
                   have c73b0 : decide (x15_5 < (t420.length : Int)) = true := decide_eq_true c73
                   clear c73
                   have H' := Asd.mk H
                   clear H
                   obtain ⟨Ao74, co74, eo74⟩ := Kd.R_slice HO_9.out
                   subst eo74
                   go_wp2
                   go_loopg [16, 17] k5 (fun kq v16 v17 w' => ∃ (x16_6 : List Int) (x17_6 : Int), v17 = .int .i64 x17_6 ∧ Asd (gl6_GovernorLoops.l1 kq t420 x15_5 x16_6 x17_6 l0_0 l0_1 = some r) ∧ Asd (kq ≤ k5) ∧ Asd (Kd.R (Kd.int .i64) 3 w' w.heap.size (fun k_ => some k_ ≠ (v16 : Value).ownBlock) (.slice Ao74 t420.length co74) t420) ∧ Asd (Kd.R (Kd.int .i64) 3 w' w.heap.size (fun k_ => some k_ ≠ ((.slice Ao74 t420.length co74) : Value).ownBlock) v16 x16_6) ∧ Asd (w'.heap[gb390]? = some (.cells #[(.slice A0_0 l0_0.length c0_0), (.slice A0_1 l0_1.length c0_1)] 63 (0, 0))) ∧ Asd (Below w.heap.size w w'))
                   case atStart => exact ⟨(([] : List Int)), (0), (by first | rfl | (simp; done) | (simp [*]; done)), H', ⟨Nat.le_refl _⟩, ⟨by (with_reducible repeat (first | apply Kd.R_alloc | apply Kd.R_drewN | apply Kd.R_drew)); exact Kd.R_mono HO_9.out (fun _ hk => (by simp [Value.ownBlock]))⟩, ⟨by first | exact Kd.R_nil _ _ _ _ _ | exact Kd.N_nil _ _ _ _ _ | exact Kd.V_nil _ _ _ _ _ | exact Kd.Q_nil _ _ _ _ _ | exact Kd.S_nil _ _ _ _ _⟩, ⟨by (with_reducible repeat (first | refine blk_drewN ?_ _ | refine blk_drew ?_ | refine blk_alloc ?_ _)); exact BK390.out⟩, ⟨by repeat (first | (with_reducible first | exact HB.out | apply below_alloc | apply pbN | apply bd1 | refine below_set ?_ GE390.out) | exact HB.out)⟩⟩
                   case round =>
                    clear H'
                    try clear c1
                    try clear p2
                    try clear c3
                    try clear c4
                    try clear c5
                    try clear c6
                    try clear p6
                    try clear c7
                    try clear c9
                    try clear c14
                    try clear c16
                    try clear c19
                    try clear c38
                    try clear c39
                    try clear c40
                    try clear c41
                    try clear c42
                    try clear c43
                    try clear c43b0
                    try clear c43b1
                    try clear c44
                    try clear c45
                    try clear c45b0
                    try clear c45b1
                    try clear c46
                    try clear c50
                    try clear c50b0
                    try clear c50b1
                    try clear c51
                    try clear c51b0
                    try clear c51b1
                    try clear c58
                    try clear c58b0
                    try clear c58b1
                    try clear c59
                    try clear c59b0
                    try clear c59b1
                    try clear c59b2
                    try clear c62
                    try clear c64
                    try clear p64
                    try clear c68
                    try clear c68b0
                    try clear c68b1
                    try clear c72
                    try clear c73
                    try clear c73b0
                    try clear hcz10_0
                    try clear hcz10_1
                    try clear hcz12_0
                    try clear hcz12_1
                    try clear hcz24_0
                    try clear hcz24_1
                    try clear hcz29_0
                    try clear hcz29_1
                    try clear hcz36_0
                    try clear hcz36_1
                    try clear hcz41_0
                    try clear hcz41_1
                    try clear hcz48_0
                    try clear hcz48_1
                    try clear hcz54_0
                    try clear hcz54_1
                    try clear hcz66_0
                    try clear hcz66_1
                    try clear hfz10_0
                    try clear hfz10_1
                    try clear hfz12_0
                    try clear hfz12_1
                    try clear hfz24_0
                    try clear hfz24_1
                    try clear hfz29_0
                    try clear hfz29_1
                    try clear hfz36_0
                    try clear hfz36_1
                    try clear hfz41_0
                    try clear hfz41_1
                    try clear hfz48_0
                    try clear hfz48_1
                    try clear hfz54_0
                    try clear hfz54_1
                    try clear hfz66_0
                    try clear hfz66_1
                    try clear p2
                    try clear p6
                    try clear p64
                    obtain ⟨x16_6, x17_6, rfl, HA, HK6, HO_9, HO_16, BK390, HB⟩ := hrel
                    cases gk with
                    | zero => exact absurd HA.out (by simp [gl6_GovernorLoops.l1])
                    | succ k6 =>
                     have H := HA.out
                     clear HA
                     simp only [gl6_GovernorLoops.l1] at H
                     by_cases c75 : x17_6 < (t420.length : Int)
                     ·rw [if_pos c75] at H
                      have c75b0 : decide (x17_6 < (t420.length : Int)) = true := decide_eq_true c75
                      clear c75
                      by_cases c76 : x17_6 = x15_5
                      ·rw [if_pos c76] at H
                       have c76b0 : (x17_6 == x15_5) = true := beq_iff_eq.mpr c76
                       have c76b1 : (x17_6 != x15_5) = false := bne_eq_false_iff_eq.mpr c76
                       clear c76
                       have H' := Asd.mk H
                       clear H
                       go_wp2
                       go_roundg k6
                       case measure => have := HJ4.out; have := HJ22.out; have := HJ46.out; have := HJ64.out; have := HK5.out; have := HK6.out; omega
                       case rel => exact ⟨(x16_6), (wrap64 (x17_6 + 1)), (by first | rfl | (simp; done) | (simp [*]; done)), H', ⟨by have := HJ4.out; have := HJ22.out; have := HJ46.out; have := HJ64.out; have := HK5.out; have := HK6.out; omega⟩, ⟨by (with_reducible repeat (first | apply Kd.R_alloc | apply Kd.R_drewN | apply Kd.R_drew)); exact HO_9.out⟩, ⟨by (with_reducible repeat (first | apply Kd.R_alloc | apply Kd.R_drewN | apply Kd.R_drew)); exact HO_16.out⟩, ⟨by (with_reducible repeat (first | refine blk_drewN ?_ _ | refine blk_drew ?_ | refine blk_alloc ?_ _)); exact BK390.out⟩, ⟨by repeat (first | (with_reducible first | exact HB.out | apply below_alloc | apply pbN | apply bd1 | refine below_set ?_ GE390.out) | exact HB.out)⟩⟩
                      ·rw [if_neg c76] at H
                       have c76b0 : (x17_6 == x15_5) = false := beq_eq_false_iff_ne.mpr c76
                       have c76b1 : (x17_6 != x15_5) = true := bne_iff_ne.mpr c76
                       by_cases c77 : 0 ≤ x17_6
                       ·rw [if_pos c77] at H
                        have c77b0 : decide (0 ≤ x17_6) = true := decide_eq_true c77
                        clear c77
                        by_cases c78 : x16_6.length < 17592186044416
                        ·rw [if_pos c78] at H
                         have LMc78 := Asd.mk c78
                         clear c78
                         obtain ⟨y437, hy437⟩ : ∃ y_ : List Int, y_ = (x16_6 ++ [rd t420 x17_6]) := ⟨_, rfl⟩
                         replace H : (gl6_GovernorLoops.l1 k6 t420 x15_5 y437 (wrap64 (x17_6 + 1)) l0_0 l0_1) = some r := by first | (rw [hy437]; with_reducible exact H) | (have H2_ := (Option.bind_some _ _).symm.trans H; rw [hy437]; with_reducible exact H2_) | (have H2_ := (Option.bind_some _ _).symm.trans H; with_reducible exact H2_) | with_reducible exact H | (rw [hy437]; exact H) | exact H
                         have Ny437 := Asd.mk hy437
                         clear hy437
                         have H' := Asd.mk H
                         clear H
                         have p436 : 0 ≤ (x17_6 : Int) := of_decide_eq_true (by first | (with_reducible assumption) | assumption)
                         have q436 : x17_6 < (t420.length : Int) := of_decide_eq_true (by first | (with_reducible assumption) | assumption)
                         obtain ⟨ad436, e436, hx436_0⟩ := Kd.at_int (Kd.R_reads' HO_9.out).2.2 x17_6 p436 q436
                         cases e436
                         replace p436 := eq_true p436
                         replace q436 := eq_true q436
                         go_wp2_with (first | ((with_reducible refine gate_builtin (b := .append) (xs := #[.tmp 151, .tmp 156]) rfl ?_); (try (refine gate_guard (by rfl) ?_; dsimp only)); at_builtin; refine Kd.R_append (Kd.int .i64) (w0 := w) w.heap.size rfl (.tmp 151) (.tmp 156) 22 3 (.int .i64 0) 8 rfl Tryz.underlying22 info3 rfl (by decide) (by omega) u16 x16_6 (rd t420 x17_6) [.int .i64 (rd t420 x17_6)] (fun k_ => some k_ ≠ (.slice (some ad436) t420.length co74 : Value).ownBlock) (fun _ => False) rfl rfl ?aP (fun _ hk => hk.elim) ?aF ?aO ?aB ?aS ?aL ?_; (case aP => exact rfl); (case aB => exact (by repeat (first | (with_reducible first | exact HB.out | apply below_alloc | apply pbN | apply bd1 | refine below_set ?_ GE390.out) | exact HB.out))); (case aF => exact (fun k_ hk => Kd.fresh' (Kd.R_lt (by (with_reducible repeat (first | apply Kd.R_alloc | apply Kd.R_drewN | apply Kd.R_drew)); exact HO_9.out)) k_ hk)); (case aO => exact (by (with_reducible repeat (first | apply Kd.R_alloc | apply Kd.R_drewN | apply Kd.R_drew)); exact HO_16.out)); (case aS => exact (below_size (by repeat (first | (with_reducible first | exact HB.out | apply below_alloc | apply pbN | apply bd1 | refine below_set ?_ GE390.out) | exact HB.out)))); (case aL => have := LMc78.out; omega); intro v438 w79 ho hb hg hat; rw [← Ny437.out] at ho; have n0_ := Asd.mk (Kd.R_after (ok := (fun _ => True)) (by (with_reducible repeat (first | apply Kd.R_alloc | apply Kd.R_drewN | apply Kd.R_drew)); exact Kd.R_mono HO_9.out (fun _ hk => ⟨trivial, hk⟩)) hg hat); have n1_ := Asd.mk (blk_grown (g := gb390) (o := .cells #[.slice A0_0 l0_0.length c0_0, .slice A0_1 l0_1.length c0_1] 63 (0, 0)) (by (with_reducible repeat (first | refine blk_drewN ?_ _ | refine blk_drew ?_ | refine blk_alloc ?_ _)); exact BK390.out) hg (Kd.R_ne HO_16.out BK390.out (by decide))); have n2_ := Asd.mk (hb); have n3_ := Asd.mk (ho); clear HO_9; clear BK390; clear HB; clear HO_16; have HO_9 := n0_; have BK390 := n1_; have HB := n2_; have HO439 := n3_; clear n0_ n1_ n2_ n3_; clear ho hb hg hat))
                         go_roundg k6
                         case measure => have := HJ4.out; have := HJ22.out; have := HJ46.out; have := HJ64.out; have := HK5.out; have := HK6.out; omega
                         case rel => exact ⟨(y437), (wrap64 (x17_6 + 1)), (by first | rfl | (simp; done) | (simp [*]; done)), H', ⟨by have := HJ4.out; have := HJ22.out; have := HJ46.out; have := HJ64.out; have := HK5.out; have := HK6.out; omega⟩, ⟨by (with_reducible repeat (first | apply Kd.R_alloc | apply Kd.R_drewN | apply Kd.R_drew)); exact Kd.R_mono HO_9.out (fun _ hk => hk.2)⟩, ⟨by (with_reducible repeat (first | apply Kd.R_alloc | apply Kd.R_drewN | apply Kd.R_drew)); exact HO439.out⟩, ⟨by (with_reducible repeat (first | refine blk_drewN ?_ _ | refine blk_drew ?_ | refine blk_alloc ?_ _)); exact BK390.out⟩, ⟨by repeat (first | (with_reducible first | exact HB.out | apply below_alloc | apply pbN | apply bd1 | refine below_set ?_ GE390.out) | exact HB.out)⟩⟩
                        ·rw [if_neg c78] at H
                         exact absurd H (by simp)
                       ·rw [if_neg c77] at H
                        exact absurd H (by simp)
                     ·rw [if_neg c75] at H
                      have c75b0 : decide (x17_6 < (t420.length : Int)) = false := decide_eq_false c75
                      clear c75
                      replace H := Option.bind_eq_some_iff.mp H
                      obtain ⟨⟨t440, t443⟩, A800, H⟩ := H
                      replace H : ((gov_SumFor.f t440 t443 x16_6).bind fun bt446 => (if bt446.2 = 0 then ((gr6_PolynomialErr.f k6 bt446.1).bind fun t450 => (gl6_GovernorLoops.j6 k6 t420 x15_5 bt446.1 (t450 != 0) l0_0 l0_1)) else (gl6_GovernorLoops.j6 k6 t420 x15_5 bt446.1 true l0_0 l0_1))) = some r := H
                      have A80 := Asd.mk A800
                      clear A800
                      replace H := Option.bind_eq_some_iff.mp H
                      obtain ⟨⟨t446, t449⟩, A810, H⟩ := H
                      replace H : (if t449 = 0 then ((gr6_PolynomialErr.f k6 t446).bind fun t450 => (gl6_GovernorLoops.j6 k6 t420 x15_5 t446 (t450 != 0) l0_0 l0_1)) else (gl6_GovernorLoops.j6 k6 t420 x15_5 t446 true l0_0 l0_1)) = some r := H
                      have A81 := Asd.mk A810
                      clear A810
                      have HC82 := Asd.mk H
                      clear H
                      have hcz83_0 : wr.cell? ⟨gb390, 0, none⟩ = some (.slice A0_0 l0_0.length c0_0) := (blk_cell BK390.out 0).trans rfl
                      have hcz83_1 : wr.cell? ⟨gb390, 1, none⟩ = some (.slice A0_1 l0_1.length c0_1) := (blk_cell BK390.out 1).trans rfl
                      have hfz83_0 := blk_frozen BK390.out 0
                      have hfz83_1 := blk_frozen BK390.out 1
                      go_upto_region 31 with (first | ((with_reducible refine gate_callee (f := 40) rfl ?_); refine goesL_ (some 160) rfl rfl Tryz.func40 (by kernel_rfl) rfl #[.agg #[.slice A0_0 l0_0.length c0_0, .slice A0_1 l0_1.length c0_1]] rfl (by (try simp only [List.map_toArray, List.map_cons, List.map_nil]); first | done | rfl | (simp only [List.length_drop, List.length_take]; rfl)) ?_; (with_reducible refine (gr6_CopyLoop.calls k6 _ _ l0_0 _ _ l0_1 t440 t443 _ ?side1 ?side2 ?side3 ?side4 A80.out).mono ?_); (case side1 => repeat (first | exact (Kd.C_below HR0_0.out HB.out) | (with_reducible refine Kd.C_alloc ?_ _) | (with_reducible refine Kd.C_drewN ?_ _) | (with_reducible refine Kd.C_drew ?_))); (case side2 => exact HC0_0.out); (case side3 => repeat (first | exact (Kd.C_below HR0_1.out HB.out) | (with_reducible refine Kd.C_alloc ?_ _) | (with_reducible refine Kd.C_drewN ?_ _) | (with_reducible refine Kd.C_drew ?_))); (case side4 => exact HC0_1.out); rintro e w84 ⟨v441, v444, rfl, ho0, ho1, hb⟩; refine ⟨_, rfl, ?_⟩; have n0_ := Asd.mk (Kd.R_elder' (by (with_reducible repeat (first | apply Kd.R_alloc | apply Kd.R_drewN | apply Kd.R_drew)); exact HO_9.out) (Kd.R_base ho0) hb); have n1_ := Asd.mk (Kd.R_elder' (by (with_reducible repeat (first | apply Kd.R_alloc | apply Kd.R_drewN | apply Kd.R_drew)); exact HO_16.out) (Kd.R_base ho0) hb); have n2_ := Asd.mk (Kd.R_lower (Kd.R_new' (Kd.R_new' ho0 (Kd.R_lt (by (with_reducible repeat (first | apply Kd.R_alloc | apply Kd.R_drewN | apply Kd.R_drew)); exact HO_9.out))) (Kd.R_lt (by (with_reducible repeat (first | apply Kd.R_alloc | apply Kd.R_drewN | apply Kd.R_drew)); exact HO_16.out))) (below_size (by repeat (first | (with_reducible first | exact HB.out | apply below_alloc | apply pbN | apply bd1 | refine below_set ?_ GE390.out) | exact HB.out)))); have n3_ := Asd.mk (Kd.S_lower (Kd.S_new' (Kd.S_new' ho1 (Kd.R_lt (by (with_reducible repeat (first | apply Kd.R_alloc | apply Kd.R_drewN | apply Kd.R_drew)); exact HO_9.out))) (Kd.R_lt (by (with_reducible repeat (first | apply Kd.R_alloc | apply Kd.R_drewN | apply Kd.R_drew)); exact HO_16.out))) (below_size (by repeat (first | (with_reducible first | exact HB.out | apply below_alloc | apply pbN | apply bd1 | refine below_set ?_ GE390.out) | exact HB.out)))); have n4_ := Asd.mk (blk_below (g := gb390) (o := .cells #[.slice A0_0 l0_0.length c0_0, .slice A0_1 l0_1.length c0_1] 63 (0, 0)) (by (with_reducible repeat (first | refine blk_drewN ?_ _ | refine blk_drew ?_ | refine blk_alloc ?_ _)); exact BK390.out) hb); have n5_ := Asd.mk (below_step (by repeat (first | (with_reducible first | exact HB.out | apply below_alloc | apply pbN | apply bd1 | refine below_set ?_ GE390.out) | exact HB.out)) hb); clear HO_9; clear HO_16; clear BK390; clear HB; have HO_9 := n0_; have HO_16 := n1_; have HO442 := n2_; have HO445 := n3_; have BK390 := n4_; have HB := n5_; clear n0_ n1_ n2_ n3_ n4_ n5_; (try clear hb); (try clear hb2); (try clear hk); (try clear hi); (try clear ho0); (try clear ho1); obtain ⟨Ao85, co85, eo85⟩ := Kd.R_slice HO442.out; subst eo85; obtain ⟨Ao86, co86, eo86⟩ := Kd.S_slice HO445.out; subst eo86; obtain ⟨Ao87, co87, eo87⟩ := Kd.R_slice HO_16.out; subst eo87) | ((with_reducible refine gate_callee (f := 41) rfl ?_); refine goesL_ (some 162) rfl rfl Tryz.func41 (by kernel_rfl) rfl #[.agg #[.slice Ao85 t440.length co85, .slice Ao86 t443.length co86], .slice Ao87 x16_6.length co87] rfl (by (try simp only [List.map_toArray, List.map_cons, List.map_nil]); first | done | rfl | (simp only [List.length_drop, List.length_take]; rfl)) ?_; (with_reducible refine (gov_SumFor.calls _ _ t440 _ _ t443 _ _ x16_6 t446 t449 _ ?side1 ?side2 ?side3 ?side4 ?side5 ?side6 A81.out).mono ?_); (case side1 => repeat (first | exact (Kd.R_reads' HO442.out).2.2 | (with_reducible refine Kd.C_alloc ?_ _) | (with_reducible refine Kd.C_drewN ?_ _) | (with_reducible refine Kd.C_drew ?_))); (case side2 => exact (Kd.R_reads' HO442.out).2.1); (case side3 => repeat (first | exact (Kd.S_reads' HO445.out).2.2 | (with_reducible refine Kd.C_alloc ?_ _) | (with_reducible refine Kd.C_drewN ?_ _) | (with_reducible refine Kd.C_drew ?_))); (case side4 => exact (Kd.S_reads' HO445.out).2.1); (case side5 => repeat (first | exact (Kd.R_reads' HO_16.out).2.2 | (with_reducible refine Kd.C_alloc ?_ _) | (with_reducible refine Kd.C_drewN ?_ _) | (with_reducible refine Kd.C_drew ?_))); (case side6 => exact (Kd.R_reads' HO_16.out).2.1); rintro e w88 ⟨v447, rfl, ho0, hb⟩; refine ⟨_, rfl, ?_⟩; have n0_ := Asd.mk (Kd.R_elder' (by (with_reducible repeat (first | apply Kd.R_alloc | apply Kd.R_drewN | apply Kd.R_drew)); exact HO_9.out) (Kd.R_base ho0) hb); have n1_ := Asd.mk (Kd.R_elder' (by (with_reducible repeat (first | apply Kd.R_alloc | apply Kd.R_drewN | apply Kd.R_drew)); exact HO_16.out) (Kd.R_base ho0) hb); have n2_ := Asd.mk (Kd.R_elder' (by (with_reducible repeat (first | apply Kd.R_alloc | apply Kd.R_drewN | apply Kd.R_drew)); exact HO442.out) (Kd.R_base ho0) hb); have n3_ := Asd.mk (Kd.S_elder' (by (with_reducible repeat (first | apply Kd.S_alloc | apply Kd.S_drewN | apply Kd.S_drew)); exact HO445.out) (Kd.R_base ho0) hb); have n4_ := Asd.mk (Kd.R_lower (Kd.R_new' (Kd.R_new' (Kd.R_new' ho0 (Kd.R_lt (by (with_reducible repeat (first | apply Kd.R_alloc | apply Kd.R_drewN | apply Kd.R_drew)); exact HO_9.out))) (Kd.R_lt (by (with_reducible repeat (first | apply Kd.R_alloc | apply Kd.R_drewN | apply Kd.R_drew)); exact HO_16.out))) (Kd.R_lt (by (with_reducible repeat (first | apply Kd.R_alloc | apply Kd.R_drewN | apply Kd.R_drew)); exact HO442.out))) (below_size (by repeat (first | (with_reducible first | exact HB.out | apply below_alloc | apply pbN | apply bd1 | refine below_set ?_ GE390.out) | exact HB.out)))); have n5_ := Asd.mk (blk_below (g := gb390) (o := .cells #[.slice A0_0 l0_0.length c0_0, .slice A0_1 l0_1.length c0_1] 63 (0, 0)) (by (with_reducible repeat (first | refine blk_drewN ?_ _ | refine blk_drew ?_ | refine blk_alloc ?_ _)); exact BK390.out) hb); have n6_ := Asd.mk (below_step (by repeat (first | (with_reducible first | exact HB.out | apply below_alloc | apply pbN | apply bd1 | refine below_set ?_ GE390.out) | exact HB.out)) hb); clear HO_9; clear HO_16; clear HO442; clear HO445; clear BK390; clear HB; have HO_9 := n0_; have HO_16 := n1_; have HO442 := n2_; have HO445 := n3_; have HO448 := n4_; have BK390 := n5_; have HB := n6_; clear n0_ n1_ n2_ n3_ n4_ n5_ n6_; (try clear hb); (try clear hb2); (try clear hk); (try clear hi); (try clear ho0)))
                      (try simp only [Act.put, List.setIfInBounds_toArray, List.set_cons_zero, List.set_cons_succ])
                      go_cut [171] (fun v171 wc => ∃ (kq : Nat) (x171_81 : Bool), v171 = .bool x171_81 ∧ Asd (gl6_GovernorLoops.j6 kq t420 x15_5 t446 x171_81 l0_0 l0_1 = some r) ∧ Asd (kq ≤ k6) ∧ Asd (Kd.R (Kd.int .i64) 3 wc w.heap.size (fun k_ => some k_ ≠ (v447 : Value).ownBlock) (.slice Ao74 t420.length co74) t420) ∧ Asd (Kd.R (Kd.int .i64) 3 wc w.heap.size (fun k_ => some k_ ≠ ((.slice Ao74 t420.length co74) : Value).ownBlock) v447 t446) ∧ Asd (wc.heap[gb390]? = some (.cells #[(.slice A0_0 l0_0.length c0_0), (.slice A0_1 l0_1.length c0_1)] 63 (0, 0))) ∧ Asd (Below w.heap.size w wc))
                      case first =>
                       have H := HC82.out
                       clear HC82
                       by_cases c89 : t449 = 0
                       ·rw [if_pos c89] at H
                        have c89b0 : (t449 == 0) = true := beq_iff_eq.mpr c89
                        have c89b1 : (t449 != 0) = false := bne_eq_false_iff_eq.mpr c89
                        clear c89
                        (first | rw [c89b0] | (simp only [i64_w, i32_w]; rw [c89b0]) | skip)
                        replace H := Option.bind_eq_some_iff.mp H
                        obtain ⟨t450, A900, H⟩ := H
                        replace H : (gl6_GovernorLoops.j6 k6 t420 x15_5 t446 (t450 != 0) l0_0 l0_1) = some r := H
                        have A90 := Asd.mk A900
                        clear A900
                        have H' := Asd.mk H
                        clear H
                        obtain ⟨Ao91, co91, eo91⟩ := Kd.R_slice HO448.out
                        subst eo91
                        go_wp2_with (first | (go_at_call 21; (with_reducible refine (gr6_PolynomialErr.calls k6 _ _ t446 t450 _ ?side1 ?side2 A90.out).mono ?_); (case side1 => repeat (first | exact (Kd.R_reads' HO448.out).2.2 | (with_reducible refine Kd.C_alloc ?_ _) | (with_reducible refine Kd.C_drewN ?_ _) | (with_reducible refine Kd.C_drew ?_))); (case side2 => exact (Kd.R_reads' HO448.out).2.1); rintro e w' ⟨rfl, ⟨nd, rfl⟩⟩))
                        go_meet
                        case rel => exact ⟨_, ((t450 != 0)), (by first | rfl | (simp; done) | (simp [*]; done)), H', ⟨by have := HJ4.out; have := HJ22.out; have := HJ46.out; have := HJ64.out; have := HK5.out; have := HK6.out; first | omega | exact Nat.le_refl _⟩, ⟨by (with_reducible repeat (first | apply Kd.R_alloc | apply Kd.R_drewN | apply Kd.R_drew)); exact Kd.R_mono HO_9.out (fun _ hk => hk.2)⟩, ⟨by (with_reducible repeat (first | apply Kd.R_alloc | apply Kd.R_drewN | apply Kd.R_drew)); exact Kd.R_mono HO448.out (fun _ hk => hk.1.1.2)⟩, ⟨by (with_reducible repeat (first | refine blk_drewN ?_ _ | refine blk_drew ?_ | refine blk_alloc ?_ _)); exact BK390.out⟩, ⟨by repeat (first | (with_reducible first | exact HB.out | apply below_alloc | apply pbN | apply bd1 | refine below_set ?_ GE390.out) | exact HB.out)⟩⟩
                       ·rw [if_neg c89] at H
                        have c89b0 : (t449 == 0) = false := beq_eq_false_iff_ne.mpr c89
                        have c89b1 : (t449 != 0) = true := bne_iff_ne.mpr c89
                        (first | rw [c89b0] | (simp only [i64_w, i32_w]; rw [c89b0]) | skip)
                        have H' := Asd.mk H
                        clear H
                        go_wp2
                        go_meet
                        case rel => exact ⟨_, (true), (by first | rfl | (simp; done) | (simp [*]; done)), H', ⟨by have := HJ4.out; have := HJ22.out; have := HJ46.out; have := HJ64.out; have := HK5.out; have := HK6.out; first | omega | exact Nat.le_refl _⟩, ⟨by (with_reducible repeat (first | apply Kd.R_alloc | apply Kd.R_drewN | apply Kd.R_drew)); exact Kd.R_mono HO_9.out (fun _ hk => hk.2)⟩, ⟨by (with_reducible repeat (first | apply Kd.R_alloc | apply Kd.R_drewN | apply Kd.R_drew)); exact Kd.R_mono HO448.out (fun _ hk => hk.1.1.2)⟩, ⟨by (with_reducible repeat (first | refine blk_drewN ?_ _ | refine blk_drew ?_ | refine blk_alloc ?_ _)); exact BK390.out⟩, ⟨by repeat (first | (with_reducible first | exact HB.out | apply below_alloc | apply pbN | apply bd1 | refine below_set ?_ GE390.out) | exact HB.out)⟩⟩
                      case rest =>
                       clear HC82
                       try clear c1
                       try clear p2
                       try clear c3
                       try clear c4
                       try clear p4
                       try clear q4
                       try clear hx4
                       try clear c5
                       try clear c6
                       try clear p6
                       try clear c7
                       try clear c8
                       try clear c9
                       try clear c14
                       try clear c16
                       try clear c19
                       try clear c38
                       try clear c39
                       try clear c40
                       try clear c41
                       try clear c42
                       try clear c43
                       try clear c43b0
                       try clear c43b1
                       try clear p43
                       try clear q43
                       try clear hx43
                       try clear c44
                       try clear c45
                       try clear c45b0
                       try clear c45b1
                       try clear c46
                       try clear c50
                       try clear c50b0
                       try clear c50b1
                       try clear c51
                       try clear c51b0
                       try clear c51b1
                       try clear c58
                       try clear c58b0
                       try clear c58b1
                       try clear c59
                       try clear c59b0
                       try clear c59b1
                       try clear c59b2
                       try clear c62
                       try clear c64
                       try clear p64
                       try clear c68
                       try clear c68b0
                       try clear c68b1
                       try clear c72
                       try clear c73
                       try clear c73b0
                       try clear c75
                       try clear c75b0
                       try clear c76
                       try clear c76b0
                       try clear c76b1
                       try clear c77
                       try clear c77b0
                       try clear c78
                       try clear c89
                       try clear c89b0
                       try clear c89b1
                       try clear hcz10_0
                       try clear hcz10_1
                       try clear hcz12_0
                       try clear hcz12_1
                       try clear hcz24_0
                       try clear hcz24_1
                       try clear hcz29_0
                       try clear hcz29_1
                       try clear hcz36_0
                       try clear hcz36_1
                       try clear hcz41_0
                       try clear hcz41_1
                       try clear hcz48_0
                       try clear hcz48_1
                       try clear hcz54_0
                       try clear hcz54_1
                       try clear hcz66_0
                       try clear hcz66_1
                       try clear hcz83_0
                       try clear hcz83_1
                       try clear hfz10_0
                       try clear hfz10_1
                       try clear hfz12_0
                       try clear hfz12_1
                       try clear hfz24_0
                       try clear hfz24_1
                       try clear hfz29_0
                       try clear hfz29_1
                       try clear hfz36_0
                       try clear hfz36_1
                       try clear hfz41_0
                       try clear hfz41_1
                       try clear hfz48_0
                       try clear hfz48_1
                       try clear hfz54_0
                       try clear hfz54_1
                       try clear hfz66_0
                       try clear hfz66_1
                       try clear hfz83_0
                       try clear hfz83_1
                       try clear hx436_0
                       try clear p2
                       try clear p436
                       try clear p6
                       try clear p64
                       try clear q436
                       obtain ⟨kq, x171_81, rfl, HA, HJ81, HO_9, HO_18, BK390, HB⟩ := hcut
                       cases kq with
                       | zero => exact absurd HA.out (by simp [gl6_GovernorLoops.j6])
                       | succ kj81 =>
                        have H := HA.out
                        clear HA
                        simp only [gl6_GovernorLoops.j6] at H
                        by_cases c92 : x171_81 = true
                        ·subst c92
                         have H1 : (some false) = some r := by rw [if_pos rfl] at H; exact H
                         clear H
                         have H := H1
                         clear H1
                         obtain rfl := Option.some.inj H
                         go_wp2
                         go_ret
                         exact ⟨by first | rfl | (simp [errW_none, errW_some] <;> rfl) | (simp [*, errW_none, errW_some] <;> rfl), by repeat (first | (with_reducible first | exact HB.out | apply below_alloc | apply pbN | apply bd1 | refine below_set ?_ GE390.out) | exact HB.out)⟩
                        ·replace c92 := Bool.eq_false_iff.mpr c92
                         subst c92
                         have H1 : ((gov_IsStable.f kj81 t446).bind fun bt451 => (if bt451.2 = 0 then (if (bt451.1 != (decide (x15_5 ≥ 0))) = true then (some false) else (gl6_GovernorLoops.l0 kj81 t420 (wrap64 (x15_5 + 1)) l0_0 l0_1)) else (some false))) = some r := by rw [if_neg (show ¬ (false = true) by decide)] at H; exact H
                         clear H
                         have H := H1
                         clear H1
                         replace H := Option.bind_eq_some_iff.mp H
                         obtain ⟨⟨t451, t452⟩, A930, H⟩ := H
                         replace H : (if t452 = 0 then (if (t451 != (decide (x15_5 ≥ 0))) = true then (some false) else (gl6_GovernorLoops.l0 kj81 t420 (wrap64 (x15_5 + 1)) l0_0 l0_1)) else (some false)) = some r := H
                         have A93 := Asd.mk A930
                         clear A930
                         by_cases c94 : t452 = 0
                         ·rw [if_pos c94] at H
                          have c94b0 : (t452 == 0) = true := beq_iff_eq.mpr c94
                          have c94b1 : (t452 != 0) = false := bne_eq_false_iff_eq.mpr c94
                          clear c94
                          by_cases c95 : (t451 != (decide (x15_5 ≥ 0))) = true
                          ·rw [if_pos c95] at H
                           have c95b0 : (t451 != (decide (x15_5 ≥ 0))) = true := c95
                           (try (have c95b1 : decide (t451 = (decide (x15_5 ≥ 0))) = false := by simpa using c95))
                           (try (have c95b2 : (t451 == (decide (x15_5 ≥ 0))) = false := by simpa using c95))
                           (try (have c95b3 : ¬ (t451 = (decide (x15_5 ≥ 0))) := by simpa using c95))
                           clear c95
                           obtain rfl := Option.some.inj H
                           obtain ⟨Ao96, co96, eo96⟩ := Kd.R_slice HO_18.out
                           subst eo96
                           go_wp2_with (first | ((with_reducible refine gate_callee (f := 37) rfl ?_); refine goesL_ (some 174) rfl rfl Tryz.func37 (by kernel_rfl) rfl #[.slice Ao96 t446.length co96] rfl (by (try simp only [List.map_toArray, List.map_cons, List.map_nil]); first | done | rfl | (simp only [List.length_drop, List.length_take]; rfl)) ?_; (with_reducible refine (gov_IsStable.calls kj81 _ _ t446 t451 t452 _ ?side1 ?side2 A93.out).mono ?_); (case side1 => repeat (first | exact (Kd.R_reads' HO_18.out).2.2 | (with_reducible refine Kd.C_alloc ?_ _) | (with_reducible refine Kd.C_drewN ?_ _) | (with_reducible refine Kd.C_drew ?_))); (case side2 => exact (Kd.R_reads' HO_18.out).2.1); rintro e w97 ⟨rfl, hb⟩; refine ⟨_, rfl, ?_⟩; have n0_ := Asd.mk (Kd.R_below (by (with_reducible repeat (first | apply Kd.R_alloc | apply Kd.R_drewN | apply Kd.R_drew)); exact HO_9.out) hb); have n1_ := Asd.mk (Kd.R_below (by (with_reducible repeat (first | apply Kd.R_alloc | apply Kd.R_drewN | apply Kd.R_drew)); exact HO_18.out) hb); have n2_ := Asd.mk (blk_below (g := gb390) (o := .cells #[.slice A0_0 l0_0.length c0_0, .slice A0_1 l0_1.length c0_1] 63 (0, 0)) (by (with_reducible repeat (first | refine blk_drewN ?_ _ | refine blk_drew ?_ | refine blk_alloc ?_ _)); exact BK390.out) hb); have n3_ := Asd.mk (below_step (by repeat (first | (with_reducible first | exact HB.out | apply below_alloc | apply pbN | apply bd1 | refine below_set ?_ GE390.out) | exact HB.out)) hb); clear HO_9; clear HO_18; clear BK390; clear HB; have HO_9 := n0_; have HO_18 := n1_; have BK390 := n2_; have HB := n3_; clear n0_ n1_ n2_ n3_; (try clear hb); (try clear hb2); (try clear hk); (try clear hi)))
                           go_ret
                           exact ⟨by first | rfl | (simp [errW_none, errW_some] <;> rfl) | (simp [*, errW_none, errW_some] <;> rfl), by repeat (first | (with_reducible first | exact HB.out | apply below_alloc | apply pbN | apply bd1 | refine below_set ?_ GE390.out) | exact HB.out)⟩
                          ·rw [if_neg c95] at H
                           have c95b0 : (t451 != (decide (x15_5 ≥ 0))) = false := by simpa using c95
                           (try (have c95b1 : decide (t451 = (decide (x15_5 ≥ 0))) = true := by simpa using c95))
                           (try (have c95b2 : (t451 == (decide (x15_5 ≥ 0))) = true := by simpa using c95))
                           clear c95
                           have H' := Asd.mk H
                           clear H
                           obtain ⟨Ao98, co98, eo98⟩ := Kd.R_slice HO_18.out
                           subst eo98
                           go_wp2_with (first | ((with_reducible refine gate_callee (f := 37) rfl ?_); refine goesL_ (some 174) rfl rfl Tryz.func37 (by kernel_rfl) rfl #[.slice Ao98 t446.length co98] rfl (by (try simp only [List.map_toArray, List.map_cons, List.map_nil]); first | done | rfl | (simp only [List.length_drop, List.length_take]; rfl)) ?_; (with_reducible refine (gov_IsStable.calls kj81 _ _ t446 t451 t452 _ ?side1 ?side2 A93.out).mono ?_); (case side1 => repeat (first | exact (Kd.R_reads' HO_18.out).2.2 | (with_reducible refine Kd.C_alloc ?_ _) | (with_reducible refine Kd.C_drewN ?_ _) | (with_reducible refine Kd.C_drew ?_))); (case side2 => exact (Kd.R_reads' HO_18.out).2.1); rintro e w99 ⟨rfl, hb⟩; refine ⟨_, rfl, ?_⟩; have n0_ := Asd.mk (Kd.R_below (by (with_reducible repeat (first | apply Kd.R_alloc | apply Kd.R_drewN | apply Kd.R_drew)); exact HO_9.out) hb); have n1_ := Asd.mk (Kd.R_below (by (with_reducible repeat (first | apply Kd.R_alloc | apply Kd.R_drewN | apply Kd.R_drew)); exact HO_18.out) hb); have n2_ := Asd.mk (blk_below (g := gb390) (o := .cells #[.slice A0_0 l0_0.length c0_0, .slice A0_1 l0_1.length c0_1] 63 (0, 0)) (by (with_reducible repeat (first | refine blk_drewN ?_ _ | refine blk_drew ?_ | refine blk_alloc ?_ _)); exact BK390.out) hb); have n3_ := Asd.mk (below_step (by repeat (first | (with_reducible first | exact HB.out | apply below_alloc | apply pbN | apply bd1 | refine below_set ?_ GE390.out) | exact HB.out)) hb); clear HO_9; clear HO_18; clear BK390; clear HB; have HO_9 := n0_; have HO_18 := n1_; have BK390 := n2_; have HB := n3_; clear n0_ n1_ n2_ n3_; (try clear hb); (try clear hb2); (try clear hk); (try clear hi)))
                           go_roundg kj81
                           case measure => have := HJ4.out; have := HJ22.out; have := HJ46.out; have := HJ64.out; have := HK5.out; have := HK6.out; have := HJ81.out; omega
                           case rel => exact ⟨(wrap64 (x15_5 + 1)), (by first | rfl | (simp; done) | (simp [*]; done)), H', ⟨by have := HJ4.out; have := HJ22.out; have := HJ46.out; have := HJ64.out; have := HK5.out; have := HK6.out; have := HJ81.out; omega⟩, ⟨by (with_reducible repeat (first | apply Kd.R_alloc | apply Kd.R_drewN | apply Kd.R_drew)); exact Kd.R_mono HO_9.out (fun _ hk => trivial)⟩, ⟨by (with_reducible repeat (first | refine blk_drewN ?_ _ | refine blk_drew ?_ | refine blk_alloc ?_ _)); exact BK390.out⟩, ⟨by repeat (first | (with_reducible first | exact HB.out | apply below_alloc | apply pbN | apply bd1 | refine below_set ?_ GE390.out) | exact HB.out)⟩⟩
                         ·rw [if_neg c94] at H
                          have c94b0 : (t452 == 0) = false := beq_eq_false_iff_ne.mpr c94
                          have c94b1 : (t452 != 0) = true := bne_iff_ne.mpr c94
                          obtain rfl := Option.some.inj H
                          obtain ⟨Ao100, co100, eo100⟩ := Kd.R_slice HO_18.out
                          subst eo100
                          go_wp2_with (first | ((with_reducible refine gate_callee (f := 37) rfl ?_); refine goesL_ (some 174) rfl rfl Tryz.func37 (by kernel_rfl) rfl #[.slice Ao100 t446.length co100] rfl (by (try simp only [List.map_toArray, List.map_cons, List.map_nil]); first | done | rfl | (simp only [List.length_drop, List.length_take]; rfl)) ?_; (with_reducible refine (gov_IsStable.calls kj81 _ _ t446 t451 t452 _ ?side1 ?side2 A93.out).mono ?_); (case side1 => repeat (first | exact (Kd.R_reads' HO_18.out).2.2 | (with_reducible refine Kd.C_alloc ?_ _) | (with_reducible refine Kd.C_drewN ?_ _) | (with_reducible refine Kd.C_drew ?_))); (case side2 => exact (Kd.R_reads' HO_18.out).2.1); rintro e w101 ⟨rfl, hb⟩; refine ⟨_, rfl, ?_⟩; have n0_ := Asd.mk (Kd.R_below (by (with_reducible repeat (first | apply Kd.R_alloc | apply Kd.R_drewN | apply Kd.R_drew)); exact HO_9.out) hb); have n1_ := Asd.mk (Kd.R_below (by (with_reducible repeat (first | apply Kd.R_alloc | apply Kd.R_drewN | apply Kd.R_drew)); exact HO_18.out) hb); have n2_ := Asd.mk (blk_below (g := gb390) (o := .cells #[.slice A0_0 l0_0.length c0_0, .slice A0_1 l0_1.length c0_1] 63 (0, 0)) (by (with_reducible repeat (first | refine blk_drewN ?_ _ | refine blk_drew ?_ | refine blk_alloc ?_ _)); exact BK390.out) hb); have n3_ := Asd.mk (below_step (by repeat (first | (with_reducible first | exact HB.out | apply below_alloc | apply pbN | apply bd1 | refine below_set ?_ GE390.out) | exact HB.out)) hb); clear HO_9; clear HO_18; clear BK390; clear HB; have HO_9 := n0_; have HO_18 := n1_; have BK390 := n2_; have HB := n3_; clear n0_ n1_ n2_ n3_; (try clear hb); (try clear hb2); (try clear hk); (try clear hi)))
                          go_ret
                          exact ⟨by first | rfl | (simp [errW_none, errW_some] <;> rfl) | (simp [*, errW_none, errW_some] <;> rfl), by repeat (first | (with_reducible first | exact HB.out | apply below_alloc | apply pbN | apply bd1 | refine below_set ?_ GE390.out) | exact HB.out)⟩
                  ·rw [if_neg c73] at H
                   have c73b0 : decide (x15_5 < (t420.length : Int)) = false := decide_eq_false c73
                   clear c73
                   obtain rfl := Option.some.inj H
                   obtain ⟨Ao102, co102, eo102⟩ := Kd.R_slice HO_9.out
                   subst eo102
                   go_wp2
                   go_ret
                   exact ⟨by first | rfl | (simp [errW_none, errW_some] <;> rfl) | (simp [*, errW_none, errW_some] <;> rfl), by repeat (first | (with_reducible first | exact HB.out | apply below_alloc | apply pbN | apply bd1 | refine below_set ?_ GE390.out) | exact HB.out)⟩
            ·replace c64 := Bool.eq_false_iff.mpr c64
             subst c64
             have H1 : (if t423 = 12 then (some ((t420.length : Int) == 0)) else (some false)) = some r := by rw [if_neg (show ¬ (false = true) by decide)] at H; exact H
             clear H
             have H := H1
             clear H1
             by_cases c103 : t423 = 12
             ·rw [if_pos c103] at H
              have c103b0 : (t423 == 12) = true := beq_iff_eq.mpr c103
              have c103b1 : (t423 != 12) = false := bne_eq_false_iff_eq.mpr c103
              clear c103
              obtain rfl := Option.some.inj H
              have hcz104_0 : wc.cell? ⟨gb390, 0, none⟩ = some (.slice A0_0 l0_0.length c0_0) := (blk_cell BK390.out 0).trans rfl
              have hcz104_1 : wc.cell? ⟨gb390, 1, none⟩ = some (.slice A0_1 l0_1.length c0_1) := (blk_cell BK390.out 1).trans rfl
              have hfz104_0 := blk_frozen BK390.out 0
              have hfz104_1 := blk_frozen BK390.out 1
              go_wp2_with (first | ((with_reducible refine gate_callee (f := 46) rfl ?_); refine goesL_ (some 116) rfl rfl Tryz.func46 (by kernel_rfl) rfl #[.agg #[.slice A0_0 l0_0.length c0_0, .slice A0_1 l0_1.length c0_1]] rfl (by (try simp only [List.map_toArray, List.map_cons, List.map_nil]); first | done | rfl | (simp only [List.length_drop, List.length_take]; rfl)) ?_; (with_reducible refine (gr6_Unstable.calls _ _ l0_0 _ _ l0_1 t431 false _ ?side1 ?side2 ?side3 ?side4 A63.out).mono ?_); (case side1 => repeat (first | exact (Kd.C_below HR0_0.out HB.out) | (with_reducible refine Kd.C_alloc ?_ _) | (with_reducible refine Kd.C_drewN ?_ _) | (with_reducible refine Kd.C_drew ?_))); (case side2 => exact HC0_0.out); (case side3 => repeat (first | exact (Kd.C_below HR0_1.out HB.out) | (with_reducible refine Kd.C_alloc ?_ _) | (with_reducible refine Kd.C_drewN ?_ _) | (with_reducible refine Kd.C_drew ?_))); (case side4 => exact HC0_1.out); rintro e w105 ⟨v432, rfl, ho0, hb⟩; refine ⟨_, rfl, ?_⟩; have n0_ := Asd.mk (Kd.R_elder' (by (with_reducible repeat (first | apply Kd.R_alloc | apply Kd.R_drewN | apply Kd.R_drew)); exact HO_9.out) (Kd.R_base ho0) hb); have n1_ := Asd.mk (Kd.R_lower (Kd.R_new' ho0 (Kd.R_lt (by (with_reducible repeat (first | apply Kd.R_alloc | apply Kd.R_drewN | apply Kd.R_drew)); exact HO_9.out))) (below_size (by repeat (first | (with_reducible first | exact HB.out | apply below_alloc | apply pbN | apply bd1 | refine below_set ?_ GE390.out) | exact HB.out)))); have n2_ := Asd.mk (blk_below (g := gb390) (o := .cells #[.slice A0_0 l0_0.length c0_0, .slice A0_1 l0_1.length c0_1] 63 (0, 0)) (by (with_reducible repeat (first | refine blk_drewN ?_ _ | refine blk_drew ?_ | refine blk_alloc ?_ _)); exact BK390.out) hb); have n3_ := Asd.mk (below_step (by repeat (first | (with_reducible first | exact HB.out | apply below_alloc | apply pbN | apply bd1 | refine below_set ?_ GE390.out) | exact HB.out)) hb); clear HO_9; clear BK390; clear HB; have HO_9 := n0_; have HO433 := n1_; have BK390 := n2_; have HB := n3_; clear n0_ n1_ n2_ n3_; (try clear hb); (try clear hb2); (try clear hk); (try clear hi); (try clear ho0); obtain ⟨Ao106, co106, eo106⟩ := Kd.R_slice HO_9.out; subst eo106))
              go_ret
              exact ⟨by first | rfl | (simp [errW_none, errW_some] <;> rfl) | (simp [*, errW_none, errW_some] <;> rfl), by repeat (first | (with_reducible first | exact HB.out | apply below_alloc | apply pbN | apply bd1 | refine below_set ?_ GE390.out) | exact HB.out)⟩
             ·rw [if_neg c103] at H
              have c103b0 : (t423 == 12) = false := beq_eq_false_iff_ne.mpr c103
              have c103b1 : (t423 != 12) = true := bne_iff_ne.mpr c103
              obtain rfl := Option.some.inj H
              have hcz107_0 : wc.cell? ⟨gb390, 0, none⟩ = some (.slice A0_0 l0_0.length c0_0) := (blk_cell BK390.out 0).trans rfl
              have hcz107_1 : wc.cell? ⟨gb390, 1, none⟩ = some (.slice A0_1 l0_1.length c0_1) := (blk_cell BK390.out 1).trans rfl
              have hfz107_0 := blk_frozen BK390.out 0
              have hfz107_1 := blk_frozen BK390.out 1
              go_wp2_with (first | ((with_reducible refine gate_callee (f := 46) rfl ?_); refine goesL_ (some 116) rfl rfl Tryz.func46 (by kernel_rfl) rfl #[.agg #[.slice A0_0 l0_0.length c0_0, .slice A0_1 l0_1.length c0_1]] rfl (by (try simp only [List.map_toArray, List.map_cons, List.map_nil]); first | done | rfl | (simp only [List.length_drop, List.length_take]; rfl)) ?_; (with_reducible refine (gr6_Unstable.calls _ _ l0_0 _ _ l0_1 t431 false _ ?side1 ?side2 ?side3 ?side4 A63.out).mono ?_); (case side1 => repeat (first | exact (Kd.C_below HR0_0.out HB.out) | (with_reducible refine Kd.C_alloc ?_ _) | (with_reducible refine Kd.C_drewN ?_ _) | (with_reducible refine Kd.C_drew ?_))); (case side2 => exact HC0_0.out); (case side3 => repeat (first | exact (Kd.C_below HR0_1.out HB.out) | (with_reducible refine Kd.C_alloc ?_ _) | (with_reducible refine Kd.C_drewN ?_ _) | (with_reducible refine Kd.C_drew ?_))); (case side4 => exact HC0_1.out); rintro e w108 ⟨v432, rfl, ho0, hb⟩; refine ⟨_, rfl, ?_⟩; have n0_ := Asd.mk (Kd.R_elder' (by (with_reducible repeat (first | apply Kd.R_alloc | apply Kd.R_drewN | apply Kd.R_drew)); exact HO_9.out) (Kd.R_base ho0) hb); have n1_ := Asd.mk (Kd.R_lower (Kd.R_new' ho0 (Kd.R_lt (by (with_reducible repeat (first | apply Kd.R_alloc | apply Kd.R_drewN | apply Kd.R_drew)); exact HO_9.out))) (below_size (by repeat (first | (with_reducible first | exact HB.out | apply below_alloc | apply pbN | apply bd1 | refine below_set ?_ GE390.out) | exact HB.out)))); have n2_ := Asd.mk (blk_below (g := gb390) (o := .cells #[.slice A0_0 l0_0.length c0_0, .slice A0_1 l0_1.length c0_1] 63 (0, 0)) (by (with_reducible repeat (first | refine blk_drewN ?_ _ | refine blk_drew ?_ | refine blk_alloc ?_ _)); exact BK390.out) hb); have n3_ := Asd.mk (below_step (by repeat (first | (with_reducible first | exact HB.out | apply below_alloc | apply pbN | apply bd1 | refine below_set ?_ GE390.out) | exact HB.out)) hb); clear HO_9; clear BK390; clear HB; have HO_9 := n0_; have HO433 := n1_; have BK390 := n2_; have HB := n3_; clear n0_ n1_ n2_ n3_; (try clear hb); (try clear hb2); (try clear hk); (try clear hi); (try clear ho0)))
              go_ret
              exact ⟨by first | rfl | (simp [errW_none, errW_some] <;> rfl) | (simp [*, errW_none, errW_some] <;> rfl), by repeat (first | (with_reducible first | exact HB.out | apply below_alloc | apply pbN | apply bd1 | refine below_set ?_ GE390.out) | exact HB.out)⟩
        ·rw [if_neg c45] at H
         have c45b0 : (t425 == 0) = false := beq_eq_false_iff_ne.mpr c45
         have c45b1 : (t425 != 0) = true := bne_iff_ne.mpr c45
         by_cases c109 : t413 = t425
         ·rw [if_pos c109] at H
          have c109b0 : (t413 == t425) = true := beq_iff_eq.mpr c109
          have c109b1 : (t413 != t425) = false := bne_eq_false_iff_eq.mpr c109
          clear c109
          by_cases c110 : t423 = t425
          ·rw [if_pos c110] at H
           have c110b0 : (t423 == t425) = true := beq_iff_eq.mpr c110
           have c110b1 : (t423 != t425) = false := bne_eq_false_iff_eq.mpr c110
           clear c110
           obtain rfl := Option.some.inj H
           obtain ⟨Ao111, co111, eo111⟩ := Kd.R_slice HO_7.out
           subst eo111
           obtain ⟨Ao112, co112, eo112⟩ := Kd.R_slice HO_9.out
           subst eo112
           go_wp2
           go_ret
           exact ⟨by first | rfl | (simp [errW_none, errW_some] <;> rfl) | (simp [*, errW_none, errW_some] <;> rfl), by repeat (first | (with_reducible first | exact HB.out | apply below_alloc | apply pbN | apply bd1 | refine below_set ?_ GE390.out) | exact HB.out)⟩
          ·rw [if_neg c110] at H
           have c110b0 : (t423 == t425) = false := beq_eq_false_iff_ne.mpr c110
           have c110b1 : (t423 != t425) = true := bne_iff_ne.mpr c110
           obtain rfl := Option.some.inj H
           go_wp2
           go_ret
           exact ⟨by first | rfl | (simp [errW_none, errW_some] <;> rfl) | (simp [*, errW_none, errW_some] <;> rfl), by repeat (first | (with_reducible first | exact HB.out | apply below_alloc | apply pbN | apply bd1 | refine below_set ?_ GE390.out) | exact HB.out)⟩
         ·rw [if_neg c109] at H
          have c109b0 : (t413 == t425) = false := beq_eq_false_iff_ne.mpr c109
          have c109b1 : (t413 != t425) = true := bne_iff_ne.mpr c109
          obtain rfl := Option.some.inj H
          go_wp2
          go_ret
          exact ⟨by first | rfl | (simp [errW_none, errW_some] <;> rfl) | (simp [*, errW_none, errW_some] <;> rfl), by repeat (first | (with_reducible first | exact HB.out | apply below_alloc | apply pbN | apply bd1 | refine below_set ?_ GE390.out) | exact HB.out)⟩
 ·replace c4 := Bool.eq_false_iff.mpr c4
  subst c4
  have H1 : (some false) = some r := by rw [if_neg (show ¬ (false = true) by decide)] at H; exact H
  clear H
  have H := H1
  clear H1
  obtain rfl := Option.some.inj H
  go_enter Tryz.func6, Tryz.ntmps6
  go_wp2_with (first | ((with_reducible refine gate_dst (N := 2) rfl ?_); (try (refine gate_guard (by rfl) ?_; dsimp only)); refine box_event ?hg (N := 2) ?hd (cs := #[.slice A0_0 l0_0.length c0_0, .slice A0_1 l0_1.length c0_1]) (t := 63) ?hr ?_; (case hd => rfl); (case hg => rfl); (case hr => first | (go_simp; done) | (go_simp; rfl)); intro gb390 hg w113 hbox hb; have n0_ := Asd.mk (below_step (by repeat (first | (with_reducible first | exact HB.out | apply below_alloc | apply pbN | apply bd1) | exact HB.out)) hb); have n1_ := Asd.mk (hbox); have n2_ := Asd.mk ((by rw [hg]; exact (below_size (by repeat (first | (with_reducible first | exact HB.out | apply below_alloc | apply pbN | apply bd1) | exact HB.out))) : w.heap.size ≤ gb390)); have n3_ := Asd.mk ((by rw [hg]; exact (below_size (by repeat (first | (with_reducible first | exact HB.out | apply below_alloc | apply pbN | apply bd1) | exact HB.out))) : w.heap.size ≤ gb390)); clear HB; have HB := n0_; have BK390 := n1_; have GW390 := n2_; have GE390 := n3_; clear n0_ n1_ n2_ n3_; clear hb hbox hg) | ((with_reducible refine gate_callee (f := 16) rfl ?_); refine goesL_ (some 22) rfl rfl Tryz.func16 (by kernel_rfl) rfl #[] rfl (by (try simp only [List.map_toArray, List.map_cons, List.map_nil]); first | done | rfl | (simp only [List.length_drop, List.length_take]; rfl)) ?_; (with_reducible refine (gl6_awake.calls  false _ A3.out).mono ?_); rintro e w114 ⟨rfl, hb⟩; refine ⟨_, rfl, ?_⟩; have n0_ := Asd.mk (blk_below (g := gb390) (o := .cells #[.slice A0_0 l0_0.length c0_0, .slice A0_1 l0_1.length c0_1] 63 (0, 0)) (by (with_reducible repeat (first | refine blk_drewN ?_ _ | refine blk_drew ?_ | refine blk_alloc ?_ _)); exact BK390.out) hb); have n1_ := Asd.mk (below_step (by repeat (first | (with_reducible first | exact HB.out | apply below_alloc | apply pbN | apply bd1 | refine below_set ?_ GE390.out) | exact HB.out)) hb); clear BK390; clear HB; have BK390 := n0_; have HB := n1_; clear n0_ n1_; (try clear hb); (try clear hb2); (try clear hk); (try clear hi)))
  go_ret
  exact ⟨by first | rfl | (simp [errW_none, errW_some] <;> rfl) | (simp [*, errW_none, errW_some] <;> rfl), by repeat (first | (with_reducible first | exact HB.out | apply below_alloc | apply pbN | apply bd1 | refine below_set ?_ GE390.out) | exact HB.out)⟩
end Go.Proofs.YtmpondcccbmlhaaGreat.Q
namespace Go.Proofs.YtmpondcccbmlhaaGreat.Ext
open Go.RowKit Go.Proofs.YtmpondcccbmlhaaGreatW.PrintWords Go.Proofs.YtmpondcccbmlhaaGreatW.PrintLast Go.Proofs.YtmpondcccbmlhaaGreatW.PrintMore
theorem polyErr_of {p : List Int} (h : PolyOk p) (h0 : 0 < ent p 0) : Sp.polyErr p = 0 := by
 obtain ⟨h2, h5, hb⟩ := h
 unfold Sp.polyErr
 have hc : Sp.countErr p.length = 0 := by unfold Sp.countErr; rw [if_neg (by omega), if_neg (by omega)]
 have hk : ∀ q : List Int, (∀ x ∈ q, -1000 ≤ x ∧ x ≤ 1000) → Sp.coefsErr q = 0 := by
  intro q
  induction q with
  | nil => intro _; rfl
  | cons x xs ih =>
   intro hx
   have e : Sp.coefErr x = 0 := by unfold Sp.coefErr; rw [if_pos (hx x (by simp))]
   rw [coefsErr_ok e]
   exact ih (fun y hy => hx y (by simp [hy]))
 have hk' := hk p (fun x hx => by
  obtain ⟨i, hil, rfl⟩ := List.getElem_of_mem hx
  have h1 := hb i
  have e : ent p i = p[i] := by simp [ent, hil]
  rw [e] at h1
  omega)
 have e : p.headD 0 = ent p 0 := by cases p <;> simp [ent]
 rw [if_pos hc, if_pos hk', e, if_pos h0]
theorem setChk_ok {n : Nat} {s : List Int} (h : SetOk n s) : firstBad (setChk n s) 0 s.length = (0, 0) := by
 refine firstBad_none _ _ _ (fun i _ hi => ?_)
 have h1 := h i (by omega)
 unfold setChk placeErr
 rw [if_pos (by rw [if_pos ⟨h1.1, by omega⟩])]
 by_cases h0 : i = 0
 ·rw [if_pos (.inl h0)]
 ·rw [if_pos (.inr (h1.2.2 (by omega)))]
theorem combo_ok {n m : Nat} (hn : n < 7) (hm : m < 8) {s : List Int} (hs : s ∈ combos n n m) : SetOk n s := by
 obtain ⟨hl, h⟩ := combos_are n hn m hm s hs
 exact fun i hi => h i (by omega)
theorem firstUnstable_eval {lc : List Int} {lm : List (List Int)} (hOK : (loopErr lc lm).2 = 0) : ∀ (ss : List (List Int)), (∀ s ∈ ss, SetOk lm.length s) →
  firstUnstable lc lm ss = some (match ss.find? (fun s => !stabSum lc lm s) with | some s => (s, 0) | none => ([], 12)) := by
 intro ss
 induction ss with
 | nil => intro _; rfl
 | cons s ss ih =>
  intro h
  have hp := (loop_sum hOK (h s (by simp))).2.1
  unfold firstUnstable
  rw [stable_eval hp K0 (by unfold K0; omega), Option.bind_some, List.find?_cons]
  have e : stab (sumTo lc lm s s.length) = stabSum lc lm s := rfl
  rw [e]
  cases stabSum lc lm s with
  | true => rw [if_pos rfl, ih (fun t ht => h t (by simp [ht]))]; rfl
  | false => rw [if_neg (by decide)]; rfl
def skipTo (u : List Int) (t : Int) : Nat → List Int
 | 0 => []
 | j + 1 => if (j : Int) = t then skipTo u t j else skipTo u t j ++ [u.getD j 0]
theorem skipTo_len (u : List Int) (t : Int) (j : Nat) : (skipTo u t j).length ≤ j := by
 induction j with
 | zero => simp [skipTo]
 | succ j ih =>
  rw [skipTo]
  split
  ·omega
  ·rw [List.length_append, List.length_singleton]; omega
theorem take_snoc (u : List Int) (j : Nat) (h : j < u.length) : u.take j ++ [u.getD j 0] = u.take (j + 1) := by
 rw [List.take_succ_eq_append_getElem h]; simp [List.getD_eq_getElem?_getD, h]
theorem skip_none (u : List Int) : ∀ j, j ≤ u.length → skipTo u (-1) j = u.take j := by
 intro j
 induction j with
 | zero => intro _; simp [skipTo]
 | succ j ih => intro hj; rw [skipTo, if_neg (by omega), ih (by omega), take_snoc u j (by omega)]
theorem skip_at (u : List Int) (t : Nat) : ∀ j, j ≤ u.length → skipTo u (t : Int) j = u.take (min j t) ++ (u.drop (t + 1)).take (j - (t + 1)) := by
 intro j
 induction j with
 | zero => intro _; simp [skipTo]
 | succ j ih =>
  intro hj
  rw [skipTo, ih (by omega)]
  by_cases h1 : j = t
  ·subst h1
   rw [if_pos rfl, Nat.min_self, Nat.min_eq_right (by omega), show j - (j + 1) = 0 by omega, show j + 1 - (j + 1) = 0 by omega]
  ·rw [if_neg (by omega)]
   by_cases h2 : j < t
   ·rw [Nat.min_eq_left (by omega), Nat.min_eq_left (by omega), show j - (t + 1) = 0 by omega, show j + 1 - (t + 1) = 0 by omega, List.take_zero, List.append_nil, List.append_nil, take_snoc u j (by omega)]
   ·rw [Nat.min_eq_right (by omega), Nat.min_eq_right (by omega), List.append_assoc, show j + 1 - (t + 1) = (j - (t + 1)) + 1 by omega]
    have := take_snoc (u.drop (t + 1)) (j - (t + 1)) (by rw [List.length_drop]; omega)
    have e : (u.drop (t + 1)).getD (j - (t + 1)) 0 = u.getD j 0 := by
     rw [List.getD_eq_getElem?_getD, List.getElem?_drop, show t + 1 + (j - (t + 1)) = j by omega, ← List.getD_eq_getElem?_getD]
    rw [← this, e]
theorem skip_erase (u : List Int) (t : Nat) (h : t < u.length) : skipTo u (t : Int) u.length = u.eraseIdx t := by
 rw [skip_at u t u.length (Nat.le_refl _), Nat.min_eq_right (by omega), List.take_of_length_le (l := u.drop (t + 1)) (by rw [List.length_drop]; omega), List.eraseIdx_eq_take_drop_succ]
structure MinOk (lc : List Int) (lm : List (List Int)) (u : List Int) : Prop where
 len : u.length ≤ 6
 at_ : ∀ t : Nat, t ≤ u.length → SetOk lm.length (skipTo u ((t : Int) - 1) u.length) ∧ stabSum lc lm (skipTo u ((t : Int) - 1) u.length) = decide ((t : Int) - 1 ≥ 0)
theorem min_ok {lc : List Int} {lm : List (List Int)} (hn : lm.length < 7) {u : List Int} (h : (setsTo lm.length (lm.length + 1)).find? (fun s => !stabSum lc lm s) = some u) : MinOk lc lm u := by
 obtain ⟨h1, h2, h3, h4⟩ := first_set hn h
 refine ⟨by omega, fun t ht => ?_⟩
 rcases t with _ | t
 ·rw [show ((0 : Nat) : Int) - 1 = -1 by omega, skip_none u u.length (Nat.le_refl _), List.take_length]
  exact ⟨combo_ok hn (by omega) h2, by rw [h1]; decide⟩
 ·rw [show ((t + 1 : Nat) : Int) - 1 = (t : Int) by omega, skip_erase u t (by omega)]
  obtain ⟨h5, h6⟩ := h4 t (by omega)
  exact ⟨combo_ok hn (by omega) h5, by rw [h6]; exact (decide_eq_true (by omega)).symm⟩
theorem isStable_sum {p : List Int} (hp : PolyOk p) (h0 : 0 < ent p 0) (k : Nat) (hk : 60000000000000010 < k) : Q.gov_IsStable.f k p = some (stab p, 0) := by
 unfold Q.gov_IsStable.f
 rw [show gov_CheckPolynomial.f p = some (Sp.polyErr p) from rfl, polyErr_of hp h0, Option.bind_some, if_pos rfl, stable_eval hp k hk, Option.bind_some]
theorem loops_l1 {lc : List Int} {lm : List (List Int)} (hOK : (loopErr lc lm).2 = 0) (h7 : ∀ i, (lm.getD i []).length ≤ 7) {u : List Int} (hu : u.length ≤ 6) {t : Int} (hs : SetOk lm.length (skipTo u t u.length)) : ∀ (d k j : Nat), u.length - j = d → j ≤ u.length → 2000 < k →
  Q.gl6_GovernorLoops.l1 (k + d + 1) u t (skipTo u t j) (j : Int) lc lm = Q.gl6_GovernorLoops.j6 k u t (sumTo lc lm (skipTo u t u.length) (skipTo u t u.length).length) false lc lm := by
 have hok : LoopOk lc lm := loopErr_ok (i := (loopErr lc lm).1) (Prod.ext rfl hOK)
 obtain ⟨⟨h2, h5⟩, -, h6, -⟩ := hok
 obtain ⟨-, hpo, hp0⟩ := loop_sum hOK hs
 have hsl := skipTo_len u t u.length
 intro d
 induction d with
 | zero =>
  intro k j hd hj hk
  obtain rfl : j = u.length := by omega
  have e1 : gov_SumFor.f lc lm (skipTo u t u.length) = some (sumTo lc lm (skipTo u t u.length) (skipTo u t u.length).length, 0) := by
   unfold gov_SumFor.f sumForErr
   rw [if_pos (by omega), if_pos hOK, setChk_ok hs, if_pos rfl]
  rw [Q.gl6_GovernorLoops.l1, if_neg (by omega), copyLoop_eval lc lm (by omega) (by omega) (fun i => by have := h7 i; omega) k (by omega), Option.bind_some, e1, Option.bind_some, if_pos rfl, rpolyErr_eval _ k (by omega), Option.bind_some, polyErr_of hpo hp0]
  rfl
 | succ d ih =>
  intro k j hd hj hk
  have hjl : j < u.length := by omega
  have hl := skipTo_len u t j
  have hlt : (j : Int) < (u.length : Int) := by omega
  have hj0 : (0 : Int) ≤ (j : Int) := by omega
  have hlb : (skipTo u t j).length < 17592186044416 := by omega
  have ih2 := ih k (j + 1) (by omega) (by omega) hk
  have hw : wrap64 ((j : Int) + 1) = ((j + 1 : Nat) : Int) := by rw [w64 (by omega) (by omega)]; omega
  rw [skipTo] at ih2
  rw [show k + (d + 1) + 1 = (k + d + 1) + 1 by omega, Q.gl6_GovernorLoops.l1, if_pos hlt, hw]
  by_cases hjt : (j : Int) = t
  ·rw [if_pos hjt]
   rw [if_pos hjt] at ih2
   exact ih2
  ·rw [if_neg hjt, if_pos hj0, if_pos hlb, rd_nat]
   rw [if_neg hjt] at ih2
   exact ih2
theorem loops_l0 {lc : List Int} {lm : List (List Int)} (hOK : (loopErr lc lm).2 = 0) (h7 : ∀ i, (lm.getD i []).length ≤ 7) {u : List Int} (hu : MinOk lc lm u) : ∀ (d k t : Nat), u.length + 1 - t = d → t ≤ u.length + 1 → 60000000000003000 + 30 * d < k →
  Q.gl6_GovernorLoops.l0 k u ((t : Int) - 1) lc lm = some true := by
 have h6 := hu.len
 intro d
 induction d with
 | zero =>
  intro k t hd ht hk
  obtain ⟨k, rfl⟩ : ∃ q, k = q + 1 := ⟨k - 1, by omega⟩
  rw [Q.gl6_GovernorLoops.l0, if_neg (by omega)]
 | succ d ih =>
  intro k t hd ht hk
  obtain ⟨k, rfl⟩ : ∃ q, k = q + 1 := ⟨k - 1, by omega⟩
  obtain ⟨hs, hst⟩ := hu.at_ t (by omega)
  obtain ⟨-, hpo, hp0⟩ := loop_sum hOK hs
  have hl1 := loops_l1 hOK h7 h6 hs u.length (k - u.length - 1) 0 (by omega) (by omega) (by omega)
  rw [show k - u.length - 1 + u.length + 1 = k by omega, show ((0 : Nat) : Int) = 0 from rfl, skipTo] at hl1
  rw [Q.gl6_GovernorLoops.l0, if_pos (by omega), hl1]
  obtain ⟨q, hq⟩ : ∃ q, k - u.length - 1 = q + 1 := ⟨k - u.length - 2, by omega⟩
  rw [hq, Q.gl6_GovernorLoops.j6, if_neg (by decide), isStable_sum hpo hp0 q (by omega), Option.bind_some, if_pos rfl]
  have e : stab (sumTo lc lm (skipTo u ((t : Int) - 1) u.length) (skipTo u ((t : Int) - 1) u.length).length) = stabSum lc lm (skipTo u ((t : Int) - 1) u.length) := rfl
  rw [e, hst, if_neg (by simp), w64 (n := (t : Int) - 1 + 1) (by omega) (by omega), show (t : Int) - 1 + 1 = ((t + 1 : Nat) : Int) - 1 by omega]
  exact ih q (t + 1) (by omega) (by omega) (by omega)
theorem few_l0 (lc : List Int) (lm : List (List Int)) (h8 : lm.length ≤ 8) : ∀ (d k i : Nat), lm.length - i = d → i ≤ lm.length → d < k → (∀ j, j < i → (lm.getD j []).length ≤ 7) →
  ∃ b, Q.gl6_fewMachines.l0 k (i : Int) lc lm = some b ∧ (b = true → ∀ j, (lm.getD j []).length ≤ 7) := by
 intro d
 induction d with
 | zero =>
  intro k i hd hi hk hj
  obtain ⟨k, rfl⟩ : ∃ q, k = q + 1 := ⟨k - 1, by omega⟩
  refine ⟨true, by rw [Q.gl6_fewMachines.l0, if_neg (by omega)], fun _ j => ?_⟩
  by_cases hjl : j < lm.length
  ·exact hj j (by omega)
  ·rw [List.getD_eq_getElem?_getD, List.getElem?_eq_none (by omega)]; simp
 | succ d ih =>
  intro k i hd hi hk hj
  obtain ⟨k, rfl⟩ : ∃ q, k = q + 1 := ⟨k - 1, by omega⟩
  rw [Q.gl6_fewMachines.l0, if_pos (by omega), if_pos (by omega), rdL2_nat]
  unfold Q.gl6_short.f
  rw [Option.bind_some]
  by_cases h : (lm.getD i []).length ≤ 7
  ·rw [if_pos (decide_eq_true (by omega)), w64 (by omega) (by omega), show ((i : Int) + 1) = ((i + 1 : Nat) : Int) by omega]
   exact ih k (i + 1) (by omega) (by omega) (by omega) (fun j h1 => if hji : j = i then by rw [hji]; exact h else hj j (by omega))
  ·rw [if_neg (by rw [decide_eq_true_eq]; omega)]
   exact ⟨false, rfl, fun h => by cases h⟩
theorem few_eval (lc : List Int) (lm : List (List Int)) (k : Nat) (hk : 20 < k) : ∃ b, Q.gl6_fewMachines.f k lc lm = some b ∧ (b = true → lc.length ≤ 7 ∧ lm.length ≤ 8 ∧ ∀ j, (lm.getD j []).length ≤ 7) := by
 obtain ⟨k, rfl⟩ : ∃ q, k = q + 1 := ⟨k - 1, by omega⟩
 unfold Q.gl6_fewMachines.f Q.gl6_short.f
 rw [Option.bind_some]
 by_cases h7 : (lc.length : Int) ≤ 7
 ·rw [if_pos (decide_eq_true h7), Q.gl6_fewMachines.j0]
  by_cases h8 : (lm.length : Int) > 8
  ·rw [if_pos (decide_eq_true h8)]
   exact ⟨false, rfl, fun h => by cases h⟩
  ·rw [if_neg (by rw [decide_eq_true_eq]; exact h8)]
   obtain ⟨b, hb, hb2⟩ := few_l0 lc lm (by omega) lm.length k 0 (by omega) (by omega) (by omega) (fun j hj => by omega)
   exact ⟨b, hb, fun h => ⟨by omega, by omega, hb2 h⟩⟩
 ·rw [if_neg (by rw [decide_eq_true_eq]; exact h7), Q.gl6_fewMachines.j0, if_pos rfl]
  exact ⟨false, rfl, fun h => by cases h⟩
theorem pure_j2 {lc : List Int} {lm : List (List Int)} (hOK : (loopErr lc lm).2 = 0) (h7 : ∀ i, (lm.getD i []).length ≤ 7) (k : Nat) (hk : 60000000000010000 < k) {r : List Int × Int} (hr : r = (match (setsTo lm.length (lm.length + 1)).find? (fun s => !stabSum lc lm s) with | some s => (s, 0) | none => ([], 12))) :
  Q.gl6_GovernorLoops.j2 k r.1 r.2 false lc lm = some true := by
 have h6 : lm.length ≤ 6 := (loopErr_ok (i := (loopErr lc lm).1) (Prod.ext rfl hOK)).2.2.1
 obtain ⟨k, rfl⟩ : ∃ q, k = q + 1 := ⟨k - 1, by omega⟩
 have e1 : gr6_Unstable.f lc lm = some (pick [] ((setsTo lm.length (lm.length + 1)).find? (fun s => !stabSum lc lm s))) := by
  unfold gr6_Unstable.f
  rw [if_pos hOK, unst_all]
 rw [Q.gl6_GovernorLoops.j2, if_neg (by decide), e1, Option.bind_some]
 cases hf : (setsTo lm.length (lm.length + 1)).find? (fun s => !stabSum lc lm s) with
 | none =>
  rw [hf] at hr
  rw [hr]
  rfl
 | some u =>
  rw [hf] at hr
  have hu := min_ok (by omega) hf
  have hul := hu.len
  obtain ⟨q, hq⟩ : ∃ q, k = q + 1 := ⟨k - 1, by omega⟩
  have hl := loops_l0 hOK h7 hu (u.length + 1) q 0 (by omega) (by omega) (by omega)
  rw [show ((0 : Nat) : Int) - 1 = -1 by omega] at hl
  rw [hr]
  simp only [pick]
  rw [if_pos trivial, if_pos trivial, ints_eval u u (by omega) k (by omega), Option.bind_some, hq, Q.gl6_GovernorLoops.j3, if_neg (by simp)]
  exact hl
theorem pure_loops (lc : List Int) (lm : List (List Int)) (s : List Int) (k : Nat) (hk : 60000000000100000 < k) : Q.gl6_GovernorLoops.f k lc lm s = some true := by
 unfold Q.gl6_GovernorLoops.f gl6_awake.f
 rw [Option.bind_some, if_pos rfl]
 obtain ⟨b, hb, hb2⟩ := few_eval lc lm k (by omega)
 rw [hb, Option.bind_some]
 obtain ⟨k, rfl⟩ : ∃ q, k = q + 1 := ⟨k - 1, by omega⟩
 cases b with
 | false => rw [if_neg (by decide), Q.gl6_GovernorLoops.j0, if_pos rfl]
 | true =>
  obtain ⟨hc7, hm8, h7⟩ := hb2 rfl
  rw [if_pos rfl, Q.gl6_GovernorLoops.j0]
  by_cases h8 : (s.length : Int) > 8
  ·rw [if_pos (decide_eq_true h8)]
  ·rw [if_neg (by rw [decide_eq_true_eq]; exact h8)]
   have hcl := copyLoop_eval lc lm (by omega) (by omega) (fun i => by have := h7 i; omega) k (by omega)
   have hch : gov_CheckLoop.f lc lm = some (loopErr lc lm) := rfl
   have hsf : gov_SumFor.f lc lm s = some (sumForErr lc lm s) := if_pos (by omega)
   rw [hcl, Option.bind_some, hch, Option.bind_some, Option.bind_some, copy_eval s (by omega), Option.bind_some, hsf, Option.bind_some, Option.bind_some, rcheckLoop_eval lc lm h7 k (by omega)]
   obtain ⟨q, hq⟩ : ∃ q, k = q + 1 := ⟨k - 1, by omega⟩
   by_cases hOK : (loopErr lc lm).2 = 0
   ·have hok : LoopOk lc lm := loopErr_ok (i := (loopErr lc lm).1) (Prod.ext rfl hOK)
    have h6 := hok.2.2.1
    have hu : gov_UnstableSet.f lc lm = some (match (setsTo lm.length (lm.length + 1)).find? (fun s => !stabSum lc lm s) with | some s => (s, 0) | none => ([], 12)) := by
     unfold gov_UnstableSet.f
     rw [if_pos hOK]
     exact firstUnstable_eval hOK _ (fun t ht => by
      obtain ⟨m, hm, ht2⟩ := setsTo_mem ht
      exact combo_ok (by omega) (by omega) ht2)
    obtain ⟨r, hr⟩ : ∃ r : List Int × Int, r = (match (setsTo lm.length (lm.length + 1)).find? (fun s => !stabSum lc lm s) with | some s => (s, 0) | none => ([], 12)) := ⟨_, rfl⟩
    rw [← hr] at hu
    have hj2 := pure_j2 hOK h7 q (by omega) hr
    rw [hu, Option.bind_some, Option.bind_some, if_pos rfl, hq, Q.gl6_GovernorLoops.j1, if_neg (by simp), if_pos hOK, rsetErr_eval lc lm s (by omega) (by omega) q (by omega), Option.bind_some]
    unfold sumForErr
    rw [if_pos hOK]
    by_cases hse : (firstBad (setChk lm.length s) 0 s.length).2 = 0
    ·have hso := sumOk_of hok (ls := s) (by omega) (set_ok hse)
     have hsl := sumTo_len lc lm s s.length
     rw [if_pos hse, if_pos hse, if_pos rfl, rsum_eval hso (by omega) (by omega) q (by omega), Option.bind_some, ints_eval (sumTo lc lm s s.length) (sumTo lc lm s s.length) (by omega) q (by omega), Option.bind_some, decide_eq_true rfl]
     exact hj2
    ·rw [if_neg hse, if_neg hse, if_pos rfl]
     exact (if_pos (by rfl)).trans hj2
   ·have hu : gov_UnstableSet.f lc lm = some ([], (loopErr lc lm).2) := by
     unfold gov_UnstableSet.f
     rw [if_neg hOK]
    have e2 : sumForErr lc lm s = ([], (loopErr lc lm).2) := by unfold sumForErr; rw [if_neg hOK]
    rw [hu, Option.bind_some, Option.bind_some, if_pos rfl, hq, Q.gl6_GovernorLoops.j1, if_neg (by simp), if_neg hOK, e2, if_pos rfl, if_pos rfl]
    simp [wrap64]
end Go.Proofs.YtmpondcccbmlhaaGreat.Ext
