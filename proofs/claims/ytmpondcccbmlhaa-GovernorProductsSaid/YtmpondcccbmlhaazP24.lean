/- A part of the claim P: the texts ExC, without what the claim does not lean on. -/
import Derived.ArgAppend
import Derived.Below
import Derived.BigQuiet
import Derived.Deep.AppendLies
import Derived.Deep.CutBlock
import Derived.Deep.DeepCutAuto
import Derived.Deep.Draws
import Derived.Deep.LoopGhost
import Derived.Deep.OwnRows
import Derived.Deep.QuietTactic
import Derived.Deep.RegionHeld3
import Derived.Deep.WholeRow
import Derived.KernelRfl
import Derived.Laws.BitsLemmas
import Derived.Laws.BytesArg
import Derived.Laws.IdiomCopy
import Derived.Laws.MakeOwn
import Derived.Laws.OwnMore
import Derived.Laws.Rows
import Derived.Laws.Slices
import Derived.Laws.StructEq
import Derived.Lib.AppendStr
import Derived.Lib.ConvBytes
import Derived.Lib.Hide
import Derived.Maps.AppendAt
import Derived.OrdersHeld
import Derived.Outline
import Derived.OwnWalk
import Derived.RowKit
import Derived.RowKit3
import Derived.Shelf.Abstract
import Derived.Tactics
import Derived.WalkKit
import Derived.WalkLawsBesides
import Derived.WideLaws
import Derived.Test.YtmpondcccbmlhaaProg
import Derived.Test.YtmpondcccbmlhaazP0
import Derived.Test.YtmpondcccbmlhaazP1
import Derived.Test.YtmpondcccbmlhaazP2
import Derived.Test.YtmpondcccbmlhaazP3
import Derived.Test.YtmpondcccbmlhaazP4
import Derived.Test.YtmpondcccbmlhaazP5
import Derived.Test.YtmpondcccbmlhaazP6
import Derived.Test.YtmpondcccbmlhaazP7
import Derived.Test.YtmpondcccbmlhaazP8
import Derived.Test.YtmpondcccbmlhaazP9
import Derived.Test.YtmpondcccbmlhaazP23
namespace Go.Proofs.Ytmpondcccbmlhaa.Ext
open Go.RowKit Go.Shelf Go.Proofs.YtmpondcccbmlhaaW.PrintWords Go.Proofs.YtmpondcccbmlhaaW.PrintLast Go.Proofs.YtmpondcccbmlhaaW.PrintMore
open Q (S39 z39 k39)
def pats : List (List Bool) := [[false, false, true, true, false], [true, true, false, false, true], [true, false, false, true, true], [false, true, true, false, false]]
def cornerAt (pat : List Bool) (l : List S39) (i : Nat) : Int :=
  if pat.getD (l.length - 1 - i) false = true then (l.getD i z39).f1 else (l.getD i z39).f0
def corner (pat : List Bool) (l : List S39) : List Int := (List.range l.length).map (cornerAt pat l)
def cornersOf (l : List S39) : List (List Int) := pats.map fun pat => corner pat l
def patCells : Array Value := #[.bool false, .bool false, .bool true, .bool true, .bool false, .bool true, .bool true, .bool false, .bool false, .bool true, .bool true, .bool false, .bool false, .bool true, .bool true, .bool false, .bool true, .bool true, .bool false, .bool false]
theorem patRow (k : Nat) (hk : k < 4) : ∃ b0 b1 b2 b3 b4 : Bool, pats.getD k [] = [b0, b1, b2, b3, b4] ∧ patCells.extract (k * 5) (k * 5 + 5) = #[.bool b0, .bool b1, .bool b2, .bool b3, .bool b4] := by
  obtain rfl | rfl | rfl | rfl : k = 0 ∨ k = 1 ∨ k = 2 ∨ k = 3 := by omega
  all_goals exact ⟨_, _, _, _, _, rfl, rfl⟩
theorem corners_take (l : List S39) (k : Nat) (hk : k < 4) : (cornersOf l).take (k + 1) = (cornersOf l).take k ++ [corner (pats.getD k []) l] := by
  obtain rfl | rfl | rfl | rfl : k = 0 ∨ k = 1 ∨ k = 2 ∨ k = 3 := by omega
  all_goals rfl
theorem corner_take (p : List Bool) (l : List S39) (i : Nat) (hi : i < l.length) : (corner p l).take (i + 1) = (corner p l).take i ++ [cornerAt p l i] := by
  unfold corner
  rw [← List.map_take, ← List.map_take, List.take_range, List.take_range, Nat.min_eq_left (by omega), Nat.min_eq_left (by omega), List.range_succ, List.map_append]
  rfl
def governor_corners.f (l0 : List S39) : Option (List (List Int)) := if 1 ≤ l0.length ∧ l0.length ≤ 5 then some (cornersOf l0) else none
set_option maxHeartbeats 4000000 in
set_option maxRecDepth 100000 in
theorem governor_corners.calls (A0 : Option Addr) (c0 : Nat) (l0 : List S39) (r : List (List Int)) (w : World) (hr0 : Kd.C k39 w A0 l0.length l0) (_hc0 : l0.length ≤ c0) (h : governor_corners.f l0 = some r) :
    Calls Try.prog 39 #[.agg #[.slice A0 l0.length c0]] w fun e w' => ∃ v0_ : Value, e = .returned (v0_) ∧ Kd.S (Kd.slice 3 (Kd.int .i64)) 22 w' w.heap.size (fun _ => True) v0_ r ∧ Below w.heap.size w w' := by
  unfold governor_corners.f at h
  by_cases hl : 1 ≤ l0.length ∧ l0.length ≤ 5
  · rw [if_pos hl] at h
    have HR := Lib.hid hr0
    have HH := Lib.hid h
    clear hr0 h
    go_enter Try.func39, Try.ntmps39
    go_upto_region 1 with fail
    refine wp_region_list ?_
    refine build_new rfl 118 _ rfl _ _ rfl (by kernel_rfl : _ = some #[.bool false, .bool false, .bool true, .bool true, .bool false]) ?_
    refine build_new rfl 118 _ rfl _ _ rfl (by kernel_rfl : _ = some #[.bool true, .bool true, .bool false, .bool false, .bool true]) ?_
    refine build_new rfl 118 _ rfl _ _ rfl (by kernel_rfl : _ = some #[.bool true, .bool false, .bool false, .bool true, .bool true]) ?_
    refine build_new rfl 118 _ rfl _ _ rfl (by kernel_rfl : _ = some #[.bool false, .bool true, .bool true, .bool false, .bool false]) ?_
    refine build_new rfl 119 _ rfl [(0, .agg #[.bool false, .bool false, .bool true, .bool true, .bool false]), (1, .agg #[.bool true, .bool true, .bool false, .bool false, .bool true]), (2, .agg #[.bool true, .bool false, .bool false, .bool true, .bool true]), (3, .agg #[.bool false, .bool true, .bool true, .bool false, .bool false])] patCells (by kernel_rfl) (by kernel_rfl) ?_
    refine alloc_new rfl 119 rfl (.agg (Array.replicate 20 (.bool false))) (Array.replicate 20 (.bool false)) 20 (by kernel_rfl) rfl ?_
    refine store_new rfl 119 _ _ rfl (w.alloc (.cells #[Value.slice A0 l0.length c0] 37)).heap.size patCells _ (by kernel_rfl) (by kernel_rfl) rfl (by kernel_rfl) rfl (by kernel_rfl) ?_
    refine wpList_nil ?_
    obtain ⟨pc, hpc⟩ : ∃ pc, pc = patCells := ⟨_, rfl⟩
    have hsz : (Try.prog.info? 119).map (·.size) = some pc.size := by subst hpc; kernel_rfl
    rw [← hpc]
    have HPC := Lib.hid hpc
    have HSZ := Lib.hid hsz
    clear hpc hsz
    go_wp2_with (first | ((with_reducible refine load_new (w0 := w.alloc (.cells #[Value.slice A0 l0.length c0] 37)) rfl 119 _ rfl (w.heap.size + 1) _ _ _ ?hx ?hg Try.underlying119 ?hi ?_); (case hx => rfl); (case hg => simp); (case hi => exact HSZ.out)))
    have hb2 : Below w.heap.size w ((w.alloc (Obj.cells #[Value.slice A0 l0.length c0] 37)).alloc (Obj.cells pc 119)) := bl_alloc (bl_alloc (Below.refl _ _) _) _
    have hc2 : ((w.alloc (Obj.cells #[Value.slice A0 l0.length c0] 37)).alloc (Obj.cells pc 119)).cell? ⟨w.heap.size, 0, none⟩ = some (Value.slice A0 l0.length c0) := by simp
    generalize ((w.alloc (Obj.cells #[Value.slice A0 l0.length c0] 37)).alloc (Obj.cells pc 119)) = W2 at hb2 hc2 ⊢
    have HB2 := Lib.hid hb2
    have HC2 := Lib.hid hc2
    have HL := Lib.hid hl
    clear hb2 hc2 hl
    go_loopw [4, 17] (fun out i wr => ∃ (k : Nat), k ≤ 4 ∧ i = .int .i64 (k : Nat) ∧ Hid (Kd.S (Kd.slice 3 (Kd.int .i64)) 22 wr W2.heap.size (fun _ => True) out ((cornersOf l0).take k)) ∧ Hid (Below W2.heap.size W2 wr))
      (fun _ i _ => 4 - (intOf i).toNat)
    case atStart => exact ⟨0, by omega, rfl, Lib.hid (Kd.S_nil _ _ _ _ _), Lib.hid (Below.refl _ _)⟩
    case round =>
      as_aux_lemma =>
        obtain ⟨k, hk, rfl, HS, HB⟩ := hrel
        by_cases hlt : k < 4
        · obtain ⟨b0, b1, b2, b3, b4, hp, hrow⟩ := patRow k hlt
          have hrow2 : pc.extract (k * 5) (k * 5 + 5) = #[.bool b0, .bool b1, .bool b2, .bool b3, .bool b4] := by rw [HPC.out]; exact hrow
          have HP := Lib.hid hp
          have HROW := Lib.hid hrow2
          clear hp hrow hrow2
          have hcb := pw_cell_below HB.out HC2.out
          go_upto_region 5 with fail
          refine wp_region_list ?_
          refine index_new rfl 119 _ _ rfl pc k 4 5 118 4 rfl rfl Try.underlying119 hlt Try.underlying118 5 (by kernel_rfl) _ HROW.out ?_
          go_upto_region 6 with fail
          have hb3 : Below wr.heap.size wr (wr.alloc (Obj.cells #[Value.bool b0, Value.bool b1, Value.bool b2, Value.bool b3, Value.bool b4] 118)) := bl_alloc (Below.refl _ _) _
          have hp3 : ∀ j, j < 5 → (wr.alloc (Obj.cells #[Value.bool b0, Value.bool b1, Value.bool b2, Value.bool b3, Value.bool b4] 118)).cell? ⟨wr.heap.size, j, none⟩ = some (.bool ((pats.getD k []).getD j false)) := by
            intro j hj
            rw [HP.out]
            obtain rfl | rfl | rfl | rfl | rfl : j = 0 ∨ j = 1 ∨ j = 2 ∨ j = 3 ∨ j = 4 := by omega
            all_goals simp
          have hc3 := pw_cell_below hb3 hcb
          have hs3 : wr.heap.size ≤ (wr.alloc (Obj.cells #[Value.bool b0, Value.bool b1, Value.bool b2, Value.bool b3, Value.bool b4] 118)).heap.size := by simp
          have HS3 := Lib.hid (Kd.S_old HS.out hb3)
          have HB3 := Lib.hid (bl_next HB.out hb3)
          generalize (wr.alloc (Obj.cells #[Value.bool b0, Value.bool b1, Value.bool b2, Value.bool b3, Value.bool b4] 118)) = W3 at hb3 hp3 hc3 hs3 HS3 HB3 ⊢
          generalize wr.heap.size = B3 at hb3 hp3 hs3 HS3 ⊢
          obtain ⟨p, hpp⟩ : ∃ p, p = pats.getD k [] := ⟨_, rfl⟩
          rw [← hpp] at hp3
          have HPP := Lib.hid hpp
          have HP3 := Lib.hid hp3
          have HC3 := Lib.hid hc3
          have HSZ3 := Lib.hid hs3
          clear hb3 hp3 hc3 hs3 hpp hcb HS HB HP HROW
          have hc3 := HC3.out
          go_wp2_with fail
          clear hc3
          go_loopw [7, 23] (fun out i wq => ∃ (j : Nat), j ≤ l0.length ∧ i = .int .i64 (j : Nat) ∧ Hid (Kd.R (Kd.int .i64) 3 wq W3.heap.size (fun _ => True) out ((corner p l0).take j)) ∧ Hid (Below W3.heap.size W3 wq))
            (fun _ i _ => l0.length - (intOf i).toNat)
          case atStart => exact ⟨0, by omega, rfl, Lib.hid (Kd.R_nil _ _ _ _ _), Lib.hid (Below.refl _ _)⟩
          case round =>
            as_aux_lemma =>
              obtain ⟨j, hj, rfl, HO, HBq⟩ := hrel
              by_cases hjl : j < l0.length
              · obtain ⟨ad, rfl, h0, h1⟩ := Q.at_T39 HR.out (j : Int) (by omega) (by omega)
                rw [Int.toNat_natCast] at h0 h1
                have hbw : Below w.heap.size w wr := bl_next (bl_next HB2.out HB3.out) HBq.out
                obtain ⟨m, hm⟩ : ∃ m, m = l0.length - 1 - j := ⟨_, rfl⟩
                obtain ⟨u, hu⟩ : ∃ u, u = p.getD m false := ⟨_, rfl⟩
                obtain ⟨x0, hx0⟩ : ∃ x, x = (l0.getD j z39).f0 := ⟨_, rfl⟩
                obtain ⟨x1, hx1⟩ : ∃ x, x = (l0.getD j z39).f1 := ⟨_, rfl⟩
                have hlen := HL.out
                have hm5 : m < 5 := by omega
                have hbit := pw_cell_below HBq.out (HP3.out m hm5)
                rw [← hu, hm] at hbit
                have hl5 : l0.length ≤ 5 := hlen.2
                have k0 : wr.cell? (ad.add (j * 2)) = some (.int .i64 x0) := by rw [hx0]; exact pw_cell_below hbw h0
                have k1 : wr.cell? { block := (ad.add (j * 2)).block, off := (ad.add (j * 2)).off + 1 } = some (.int .i64 x1) := by rw [hx1]; exact pw_cell_below hbw h1
                have kc := pw_cell_below HBq.out HC3.out
                have hl1 : w.heap.size < wr.heap.size := block_lt_of_cell kc
                have hl2 : B3 < wr.heap.size := block_lt_of_cell hbit
                have HE3 := Lib.hid (w64 (n := (j : Int) + 1) (by omega) (by omega))
                have hca : cornerAt p l0 j = if u = true then x1 else x0 := by unfold cornerAt; rw [← hm, ← hu, ← hx0, ← hx1]
                have HCT := Lib.hid (corner_take p l0 j hjl)
                rw [hca] at HCT
                have HBW := Lib.hid hbw
                have HM := Lib.hid hm
                clear h0 h1 hu hx0 hx1 hlen hbw hm hca
                cases u
                · rw [if_neg (by decide)] at HCT
                  go_upto_region 13 with fail
                  have HO4 := Lib.hid (Kd.R_alloc HO.out (Obj.cells #[Value.int IntKind.i64 x0, Value.int IntKind.i64 x1] 39))
                  have HB4 := Lib.hid (bl_alloc HBq.out (Obj.cells #[Value.int IntKind.i64 x0, Value.int IntKind.i64 x1] 39))
                  generalize wr.alloc (Obj.cells #[Value.int IntKind.i64 x0, Value.int IntKind.i64 x1] 39) = W4 at HO4 HB4 ⊢
                  have hle : ((corner p l0).take j).length ≤ 5 := by have := HL.out; simp; omega
                  go_wp2_with (at_builtin; go_loud (refine Kd.R_append (Kd.int .i64) (w0 := W3) W3.heap.size rfl (.tmp 40) (.tmp 42) 22 3 (.int .i64 0) 8 rfl Try.underlying22 Q.info3 rfl (by decide) (by omega) _ ((corner p l0).take j) x0 [.int .i64 x0] (fun _ => True) (fun _ => False) rfl rfl rfl (fun _ hk => hk.elim) (fun _ _ => trivial) HO4.out HB4.out HB4.out.size (by omega) ?_; intro v1 w5 ho hb hg hat))
                  go_roundw
                  case rel => exact ⟨j + 1, by omega, (by first | rw [HE3.out]; rfl | go_num), Lib.hid (by rw [HCT.out]; exact ho), Lib.hid hb⟩
                  case measure => first | (simp only [intOf]; omega) | (simp [intOf]; omega)
                · rw [if_pos rfl] at HCT
                  go_upto_region 13 with fail
                  have HO4 := Lib.hid (Kd.R_alloc HO.out (Obj.cells #[Value.int IntKind.i64 x0, Value.int IntKind.i64 x1] 39))
                  have HB4 := Lib.hid (bl_alloc HBq.out (Obj.cells #[Value.int IntKind.i64 x0, Value.int IntKind.i64 x1] 39))
                  generalize wr.alloc (Obj.cells #[Value.int IntKind.i64 x0, Value.int IntKind.i64 x1] 39) = W4 at HO4 HB4 ⊢
                  have hle : ((corner p l0).take j).length ≤ 5 := by have := HL.out; simp; omega
                  go_wp2_with (at_builtin; go_loud (refine Kd.R_append (Kd.int .i64) (w0 := W3) W3.heap.size rfl (.tmp 40) (.tmp 42) 22 3 (.int .i64 0) 8 rfl Try.underlying22 Q.info3 rfl (by decide) (by omega) _ ((corner p l0).take j) x1 [.int .i64 x1] (fun _ => True) (fun _ => False) rfl rfl rfl (fun _ hk => hk.elim) (fun _ _ => trivial) HO4.out HB4.out HB4.out.size (by omega) ?_; intro v1 w5 ho hb hg hat))
                  go_roundw
                  case rel => exact ⟨j + 1, by omega, (by first | rw [HE3.out]; rfl | go_num), Lib.hid (by rw [HCT.out]; exact ho), Lib.hid hb⟩
                  case measure => first | (simp only [intOf]; omega) | (simp [intOf]; omega)
              · have hcj : (corner p l0).take j = corner p l0 := List.take_of_length_le (by simp [corner]; omega)
                have HO4 := HO.out
                rw [hcj] at HO4
                have HO5 := Lib.hid HO4
                have hct := corners_take l0 k hlt
                rw [← HPP.out] at hct
                have HCT := Lib.hid hct
                have HS4 := Lib.hid (Kd.S_below HS3.out HBq.out)
                obtain ⟨A7, c7, e7⟩ := Kd.R_slice HO5.out
                subst e7
                obtain ⟨A4, c4, e4⟩ := Kd.S_slice HS4.out
                subst e4
                have HBW := Lib.hid (bl_next HB3.out HBq.out)
                have HAP := Lib.hid (fun (q : Nat) (e : some q = (Value.slice A7 (corner p l0).length c7).ownBlock) (h : q < B3) => (by have h1 := Kd.R_base HO5.out q e.symm; have h2 := HSZ3.out; omega : False))
                have HBA := Lib.hid (Kd.S_mono HS4.out (ok' := fun q => True ∧ ¬ some q = (Value.slice A7 (corner p l0).length c7).ownBlock) (fun q hq => ⟨trivial, fun e => HAP.out q e hq.2⟩))
                have HOK := Lib.hid (fun (q : Nat) (e : some q = (Value.slice A7 (corner p l0).length c7).ownBlock) => (⟨trivial, fun e4 => HAP.out q e ((Kd.S_R HS4.out).1 q e4.symm).2⟩ : True ∧ some q ≠ (Value.slice A4 ((cornersOf l0).take k).length c4).ownBlock))
                have HM5 := Lib.hid (Kd.M_row (Kd.R_tight rfl (Kd.R_lower HO5.out HB3.out.size)))
                have hle : ((cornersOf l0).take k).length ≤ 4 := by simp; omega
                have HE3 := Lib.hid (w64 (n := (k : Int) + 1) (by omega) (by omega))
                clear hcj HO4 HO hct HS3
                go_wp2_with (at_builtin; go_loud (refine Kd.S_append (Kd.slice 3 (Kd.int .i64)) (w0 := W2) W2.heap.size rfl (.tmp 45) (.tmp 47) 31 22 (.slice none 0 0) 24 rfl Try.underlying31 Q.info22 rfl (by decide) (by omega) (Value.slice A4 ((cornersOf l0).take k).length c4) ((cornersOf l0).take k) (corner p l0) [.slice A7 (corner p l0).length c7] (fun _ => True) (fun k_ => some k_ = (Value.slice A7 (corner p l0).length c7).ownBlock) rfl rfl HM5.out HOK.out (fun _ _ => trivial) HBA.out HBW.out HBW.out.size (by omega) ?_; intro v1 w5 ho hb hg hat))
                go_roundw
                case rel => exact ⟨k + 1, by omega, (by first | rw [HE3.out]; rfl | go_num), Lib.hid (by rw [HCT.out]; exact ho), Lib.hid hb⟩
                case measure => first | (simp only [intOf]; omega) | (simp [intOf]; omega)
        · have hk4 : (cornersOf l0).take k = cornersOf l0 := by rw [show k = 4 by omega]; rfl
          have HS4 := HS.out
          rw [hk4] at HS4
          obtain rfl := Option.some.inj HH.out
          have HS5 := Lib.hid HS4
          clear HS4 HS hk4
          go_wp2_with fail
          go_ret
          exact ⟨_, rfl, Kd.S_lower HS5.out HB2.out.size, bl_next HB2.out HB.out⟩
  · rw [if_neg hl] at h; cases h
end Go.Proofs.Ytmpondcccbmlhaa.Ext
