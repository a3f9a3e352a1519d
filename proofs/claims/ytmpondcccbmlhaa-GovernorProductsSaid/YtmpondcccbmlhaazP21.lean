/- A part of the claim P: the texts Clone, ExS, without what the claim does not lean on. -/
import Derived.ArgAppend
import Derived.Below
import Derived.BigQuiet
import Derived.Deep.AppendLies
import Derived.Deep.CutBlock
import Derived.Deep.DeepCutAuto
import Derived.Deep.Draws
import Derived.Deep.LoopGhost
import Derived.Deep.OwnRows
import Derived.Deep.QuietTactic
import Derived.Deep.RegionHeld3
import Derived.KernelRfl
import Derived.Laws.BitsLemmas
import Derived.Laws.BytesArg
import Derived.Laws.IdiomCopy
import Derived.Laws.MakeOwn
import Derived.Laws.OwnMore
import Derived.Laws.Rows
import Derived.Laws.Slices
import Derived.Laws.StructEq
import Derived.Lib.AppendStr
import Derived.Lib.ConvBytes
import Derived.Lib.Hide
import Derived.Lib.LazyBuf
import Derived.Maps.AppendAt
import Derived.OrdersHeld
import Derived.Outline
import Derived.OwnWalk
import Derived.RowKit
import Derived.RowKit3
import Derived.Shelf.Abstract
import Derived.Tactics
import Derived.WalkKit
import Derived.WideLaws
import Derived.Test.YtmpondcccbmlhaaProg
import Derived.Test.YtmpondcccbmlhaazP0
import Derived.Test.YtmpondcccbmlhaazP1
import Derived.Test.YtmpondcccbmlhaazP2
import Derived.Test.YtmpondcccbmlhaazP3
import Derived.Test.YtmpondcccbmlhaazP4
import Derived.Test.YtmpondcccbmlhaazP5
import Derived.Test.YtmpondcccbmlhaazP6
import Derived.Test.YtmpondcccbmlhaazP7
import Derived.Test.YtmpondcccbmlhaazP8
import Derived.Test.YtmpondcccbmlhaazP9
import Derived.Test.YtmpondcccbmlhaazP19
namespace Go.Proofs.Ytmpondcccbmlhaa.Ext
open Go.RowKit Go.Shelf Go.Proofs.YtmpondcccbmlhaaW.PrintWords Go.Proofs.YtmpondcccbmlhaaW.PrintLast Go.Proofs.YtmpondcccbmlhaaW.PrintMore
set_option maxHeartbeats 2000000 in
set_option maxRecDepth 100000 in
theorem clone_ints (ad : Addr) (c : Nat) (zs : List Int) (w : World) (hC : Kd.C (Kd.int .i64) w (some ad) zs.length zs) (hn : zs.length ≤ 1000000) :
    Calls Try.prog 86 #[.slice (some ad) zs.length c] w fun e w' => ∃ v, e = .returned v ∧ Kd.R (Kd.int .i64) 3 w' w.heap.size (fun _ => True) v zs ∧ Below w.heap.size w w' := by
  have q22 : ∀ (w : World) (a : Option Addr) (n c : Nat), (binOp .eql 22 (.slice a n c) (.slice none 0 0)).run Try.prog w = .ok (.bool a.isNone) w := fun w a n c => Go.run_eql_slice_nil w _ _ a n c Try.underlying22
  have HC := Lib.hid (Kd.C_alloc hC (Obj.cells #[] 3))
  have HO : Kd.R (Kd.int .i64) 3 (w.alloc (Obj.cells #[] 3)) w.heap.size (fun _ => True) (.slice (some ⟨w.heap.size, 0, none⟩) 0 0) [] := Kd.R_of_own (World.ownsRow_made w #[] 0 (Nat.le_refl _) (Nat.zero_le _) rfl) (fun _ _ => trivial)
  have HO := Lib.hid HO
  clear hC
  go_enter Try.func86, Try.ntmps86
  go_wp2_with (at_builtin; go_loud (refine Kd.R_append_row (Value.int .i64) (0 : Int) (w0 := w) w.heap.size rfl (.tmp 5) (.tmp 6) 22 3 (.int .i64 0) 8 rfl Try.underlying22 Q.info3 rfl (by decide) _ [] zs (some ad) zs.length c (fun _ => True) rfl rfl (fun _ _ => trivial) HO.out HC.out (bl_alloc (Below.refl _ _) _) (bl_alloc (Below.refl _ _) _).size (by simp; omega) ?_; intro v1 w1 ho hb hg hat))
  go_ret
  exact ⟨_, rfl, ho, hb⟩
end Go.Proofs.Ytmpondcccbmlhaa.Ext
namespace Go.Proofs.Ytmpondcccbmlhaa.Ext
open Go.RowKit Go.Shelf Go.Proofs.YtmpondcccbmlhaaW.PrintWords Go.Proofs.YtmpondcccbmlhaaW.PrintLast Go.Proofs.YtmpondcccbmlhaaW.PrintMore
def addTo (acc m : List Int) : Nat → List Int
  | 0 => acc
  | j + 1 => (addTo acc m j).set j ((addTo acc m j).getD j 0 + m.getD j 0)
def sumTo (lc : List Int) (lm : List (List Int)) (ls : List Int) : Nat → List Int
  | 0 => lc
  | k + 1 => addTo (sumTo lc lm ls k) (lm.getD (ls.getD k 0).toNat []) lc.length
def SumOk (lc : List Int) (lm : List (List Int)) (ls : List Int) : Prop :=
  (0 < lc.length ∧ lc.length ≤ 1000000) ∧ (∀ i, i < lc.length → -1000000 ≤ lc.getD i 0 ∧ lc.getD i 0 ≤ 1000000) ∧ lm.length ≤ 1000000 ∧ ls.length ≤ 1000000 ∧
    (∀ k, k < ls.length → 0 ≤ ls.getD k 0 ∧ ls.getD k 0 < lm.length) ∧ (∀ m, m < lm.length → (lm.getD m []).length = lc.length ∧ ∀ i, i < lc.length → -1000000 ≤ (lm.getD m []).getD i 0 ∧ (lm.getD m []).getD i 0 ≤ 1000000)
open Classical in
noncomputable def governor_sum.f (lc : List Int) (lm : List (List Int)) (ls : List Int) : Option (List Int) := if SumOk lc lm ls then some (sumTo lc lm ls ls.length) else none
theorem addTo_len (acc m : List Int) (j : Nat) : (addTo acc m j).length = acc.length := by
  induction j with
  | zero => rfl
  | succ j ih => rw [addTo, List.length_set, ih]
theorem sumTo_len (lc : List Int) (lm : List (List Int)) (ls : List Int) (k : Nat) : (sumTo lc lm ls k).length = lc.length := by
  induction k with
  | zero => rfl
  | succ k ih => rw [sumTo, addTo_len, ih]
theorem addTo_get (acc m : List Int) (j i : Nat) (hj : j ≤ acc.length) (hi : i < acc.length) : (addTo acc m j).getD i 0 = acc.getD i 0 + if i < j then m.getD i 0 else 0 := by
  induction j with
  | zero => simp [addTo]
  | succ j ih =>
    have ih2 := ih (by omega)
    simp only [addTo, List.getD_eq_getElem?_getD, List.getElem?_set, addTo_len] at ih2 ⊢
    by_cases h : j = i
    · subst h
      rw [if_pos rfl, if_pos hi, if_pos (by omega)]
      simp only [Option.getD_some]
      rw [ih2, if_neg (by omega)]; omega
    · rw [if_neg h, ih2]
      by_cases h2 : i < j
      · rw [if_pos h2, if_pos (by omega)]
      · rw [if_neg h2, if_neg (by omega)]
theorem sumTo_bound {lc : List Int} {lm : List (List Int)} {ls : List Int} (h : SumOk lc lm ls) (k : Nat) (hk : k ≤ ls.length) (i : Nat) (hi : i < lc.length) :
    -1000000 * (k + 1 : Int) ≤ (sumTo lc lm ls k).getD i 0 ∧ (sumTo lc lm ls k).getD i 0 ≤ 1000000 * (k + 1 : Int) := by
  induction k with
  | zero => have := h.2.1 i hi; simp only [sumTo]; omega
  | succ k ih =>
    have ih2 := ih (by omega)
    rw [sumTo, addTo_get _ _ _ _ (by rw [sumTo_len]; omega) (by rw [sumTo_len]; exact hi), if_pos hi]
    have hs := h.2.2.2.2.1 k (by omega)
    have hm := (h.2.2.2.2.2 (ls.getD k 0).toNat (by omega)).2 i hi
    omega
set_option maxHeartbeats 4000000 in
set_option maxRecDepth 100000 in
theorem governor_sum.calls (A0 : Option Addr) (c0 : Nat) (l0 : List Int) (A1 : Option Addr) (c1 : Nat) (l1 : List (List Int)) (A2 : Option Addr) (c2 : Nat) (l2 : List Int) (r : List Int) (w : World) (hr0 : Kd.C (Kd.int .i64) w A0 l0.length l0) (_hc0 : l0.length ≤ c0) (hr1 : Kd.C (Kd.slice 3 (Kd.int .i64)) w A1 l1.length l1) (_hc1 : l1.length ≤ c1) (hr2 : Kd.C (Kd.int .i64) w A2 l2.length l2) (_hc2 : l2.length ≤ c2) (h : governor_sum.f l0 l1 l2 = some r) :
    Calls Try.prog 44 #[.agg #[.slice A0 l0.length c0, .slice A1 l1.length c1], .slice A2 l2.length c2] w fun e w' => ∃ v0_ : Value, e = .returned (v0_) ∧ Kd.R (Kd.int .i64) 3 w' w.heap.size (fun _ => True) v0_ r ∧ Below w.heap.size w w' := by
  unfold governor_sum.f at h
  by_cases hok : SumOk l0 l1 l2
  · rw [if_pos hok] at h
    obtain rfl := Option.some.inj h
    have HR0 := Lib.hid hr0
    have HR1 := Lib.hid hr1
    have HR2 := Lib.hid hr2
    have HOK := Lib.hid hok
    obtain ⟨ad0, rfl, -⟩ := hr0.2.2 hok.1.1
    have hl0 : 0 < l0.length ∧ l0.length ≤ 1000000 := hok.1
    have HL := Lib.hid hl0
    clear hr0 hr1 hr2 hok h hl0
    go_enter Try.func44, Try.ntmps44
    go_upto_region 1 with fail
    have hb1 : Below w.heap.size w (w.alloc (Obj.cells #[Value.slice (some ad0) l0.length c0, Value.slice A1 l1.length c1] 33)) := bl_alloc (Below.refl _ _) _
    have hc0 : (w.alloc (Obj.cells #[Value.slice (some ad0) l0.length c0, Value.slice A1 l1.length c1] 33)).cell? ⟨w.heap.size, 0, none⟩ = some (Value.slice (some ad0) l0.length c0) := by simp
    have hc1 : (w.alloc (Obj.cells #[Value.slice (some ad0) l0.length c0, Value.slice A1 l1.length c1] 33)).cell? ⟨w.heap.size, 1, none⟩ = some (Value.slice A1 l1.length c1) := by simp
    generalize (w.alloc (Obj.cells #[Value.slice (some ad0) l0.length c0, Value.slice A1 l1.length c1] 33)) = W1 at hb1 hc0 hc1 ⊢
    have HB1 := Lib.hid hb1
    have HC1 := Lib.hid hc1
    clear hb1 hc1
    go_wp2_with fail
    refine (clone_ints ad0 c0 l0 _ (Kd.C_below HR0.out HB1.out) HL.out.2).mono ?_
    rintro e w2 ⟨v, rfl, hR, hb2⟩
    obtain ⟨g, cap, rfl, hgb, -⟩ := Kd.R_form hR HL.out.1
    have HRr := Lib.hid hR
    have HB2 := Lib.hid hb2
    have HGB := Lib.hid hgb
    clear hR hb2 hgb hc0
    go_wp2_with fail
    go_loopw [15] (fun i wr => ∃ (k : Nat), k ≤ l2.length ∧ i = .int .i64 (k : Nat) ∧ Hid (Kd.R (Kd.int .i64) 3 wr W1.heap.size (fun _ => True) (.slice (some ⟨g, 0, none⟩) l0.length cap) (sumTo l0 l1 l2 k)) ∧ Hid (Below W1.heap.size W1 wr))
      (fun i _ => l2.length - (intOf i).toNat)
    case atStart => exact ⟨0, by omega, rfl, HRr, HB2⟩
    case round =>
      as_aux_lemma =>
        obtain ⟨k, hk, rfl, HS, HB⟩ := hrel
        by_cases hlt : k < l2.length
        · have hbw : Below w.heap.size w wr := bl_next HB1.out HB.out
          obtain ⟨hs0, hs1⟩ := HOK.out.2.2.2.2.1 k hlt
          have hl2 := HOK.out.2.2.2.1
          obtain ⟨ad2, rfl, hx⟩ := Kd.at_int HR2.out (k : Int) (by omega) (by omega)
          rw [rd_nat, Int.toNat_natCast] at hx
          have kx := pw_cell_below hbw hx
          obtain ⟨s, hs⟩ : ∃ s, s = l2.getD k 0 := ⟨_, rfl⟩
          rw [← hs] at kx hs0 hs1
          obtain ⟨ad1, B, C, rfl, hm, hC, hCm⟩ := Q.at_L1 HR1.out s hs0 hs1
          have km := pw_cell_below hbw hm
          obtain ⟨m, hmm⟩ : ∃ m, m = Q.rd_L1 l1 s := ⟨_, rfl⟩
          rw [← hmm] at km hC hCm
          have HCM := Lib.hid hCm
          have kc := pw_cell_below HB.out HC1.out
          have hml : m.length = l0.length := by rw [hmm]; exact (HOK.out.2.2.2.2.2 s.toNat (by omega)).1
          have HMM := Lib.hid hmm
          have HSS := Lib.hid hs
          have HML := Lib.hid hml
          clear hx hm hmm hCm hs hbw hml
          obtain ⟨S, hS⟩ : ∃ S, S = sumTo l0 l1 l2 k := ⟨_, rfl⟩
          have HSS0 := HS.out
          rw [← hS] at HSS0
          have HS2 := Lib.hid HSS0
          have hSl : S.length = l0.length := by rw [hS, sumTo_len]
          have hSb : ∀ i, i < l0.length → -1000000000000 * 2 ≤ S.getD i 0 ∧ S.getD i 0 ≤ 1000000000000 * 2 := by
            intro i hi
            have := sumTo_bound HOK.out k hk i hi
            rw [← hS] at this
            have hk2 : (k : Int) ≤ 1000000 := by omega
            omega
          have hmb : ∀ i, i < l0.length → -1000000 ≤ m.getD i 0 ∧ m.getD i 0 ≤ 1000000 := by
            intro i hi
            rw [HMM.out]; exact (HOK.out.2.2.2.2.2 s.toNat (by omega)).2 i hi
          have HSE := Lib.hid hS
          have HSL := Lib.hid hSl
          have HSB := Lib.hid hSb
          have HMB := Lib.hid hmb
          clear hS HSS0 HS hSl hSb hmb
          go_wp2_with fail
          clear kx km kc
          have hlm : m.length ≤ 1000000 := by have := HML.out; have := HL.out; omega
          go_loopw [25] (fun i wr => ∃ (j : Nat), j ≤ m.length ∧ i = .int .i64 (j : Nat) ∧ Hid (Kd.R (Kd.int .i64) 3 wr W1.heap.size (fun _ => True) (.slice (some ⟨g, 0, none⟩) l0.length cap) (addTo S m j)) ∧ Hid (Below W1.heap.size W1 wr))
            (fun i _ => m.length - (intOf i).toNat)
          case atStart => exact ⟨0, by omega, rfl, HS2, HB⟩
          case round =>
            as_aux_lemma =>
              obtain ⟨j, hj, rfl, HS, HB⟩ := hrel
              by_cases hjl : j < m.length
              · have hbw : Below w.heap.size w wr := bl_next HB1.out HB.out
                have hml := HML.out
                obtain ⟨ad, rfl, hx⟩ := Kd.at_int HCM.out (j : Int) (by omega) (by omega)
                rw [rd_nat, Int.toNat_natCast] at hx
                have kx := pw_cell_below hbw hx
                obtain ⟨hy, hf⟩ := Kd.R_celln (0 : Int) HS.out (j : Int) (by omega) (by omega)
                rw [Int.toNat_natCast] at hy hf
                have hjn : j < l0.length := by omega
                obtain ⟨x, hx2⟩ : ∃ x, x = m.getD j 0 := ⟨_, rfl⟩
                obtain ⟨y, hy2⟩ : ∃ y, y = (addTo S m j).getD j 0 := ⟨_, rfl⟩
                have hyr : rdOf (0 : Int) (addTo S m j) (j : Int) = y := by rw [hy2]; rfl
                have hxb := HMB.out j hjn
                have hyb := HSB.out j hjn
                have hye : y = S.getD j 0 := by rw [hy2, addTo_get _ _ _ _ (by rw [HSL.out]; omega) (by rw [HSL.out]; exact hjn), if_neg (by omega)]; omega
                rw [← hye] at hyb
                rw [← hx2] at kx hxb
                rw [hyr] at hy
                have hw : IntKind.i64.wrap (y + x) = y + x := by rw [i64_w]; exact w64 (by omega) (by omega)
                have HP := Kd.R_putn HS.out (j : Int) (y + x)
                rw [Int.toNat_natCast] at HP
                have HST : addTo S m (j + 1) = (addTo S m j).set j (y + x) := by rw [addTo, ← hx2, ← hy2]
                rw [← HST] at HP
                have HP2 := Lib.hid HP
                have HB2x := Lib.hid (HB.out.setCell (p := ⟨g, j, none⟩) HGB.out (.int .i64 (y + x)))
                have hgl : g < wr.heap.size := block_lt_of_cell hy
                clear hx hbw hyr hye hy2 hx2 HP HST hml
                go_wp2_with fail
                exact ⟨⟨j + 1, by omega, by go_num, HP2, HB2x⟩, by simp [intOf]; omega⟩
              · have hjm : j = m.length := by omega
                have hst : addTo S m j = sumTo l0 l1 l2 (k + 1) := by
                  rw [sumTo, hjm, HML.out, HSE.out, HMM.out, HSS.out]; rfl
                rw [hst] at HS
                clear hjm hst
                go_wp2_with fail
                exact ⟨⟨k + 1, by omega, by go_num, HS, HB⟩, by simp [intOf]; omega⟩
        · have hkl : k = l2.length := by omega
          rw [hkl] at HS
          clear hkl
          go_wp2_with fail
          go_ret
          exact ⟨_, rfl, Kd.R_lower HS.out HB1.out.size, bl_next HB1.out HB.out⟩
  · rw [if_neg hok] at h; cases h
end Go.Proofs.Ytmpondcccbmlhaa.Ext
