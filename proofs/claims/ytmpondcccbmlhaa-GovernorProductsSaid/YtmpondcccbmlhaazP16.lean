/- A part of the claim P: the texts ExU1, without what the claim does not lean on. -/
import Derived.ArgAppend
import Derived.Below
import Derived.BigQuiet
import Derived.Deep.AppendLies
import Derived.Deep.CutBlock
import Derived.Deep.DeepCutAuto
import Derived.Deep.Draws
import Derived.Deep.LoopGhost
import Derived.Deep.OwnRows
import Derived.Deep.QuietTactic
import Derived.Deep.RegionHeld3
import Derived.Ground.Names2Prog
import Derived.Ground.SlgnProg
import Derived.Ground.SlsfProg
import Derived.KernelRfl
import Derived.Laws.BitsLemmas
import Derived.Laws.BytesArg
import Derived.Laws.IdiomCopy
import Derived.Laws.MakeOwn
import Derived.Laws.OwnMore
import Derived.Laws.Rows
import Derived.Laws.Slices
import Derived.Laws.StructEq
import Derived.Lib.AppendStr
import Derived.Lib.ConvBytes
import Derived.Lib.Hide
import Derived.LoopIn
import Derived.LoopNIn
import Derived.Maps.AppendAt
import Derived.OrdersHeld
import Derived.Outline
import Derived.OwnWalk
import Derived.OwnWalkIn
import Derived.RangeFuncBound
import Derived.RangeFuncCalls
import Derived.RangeFuncLeaves
import Derived.RangeFuncNested
import Derived.RowKit
import Derived.RowKit3
import Derived.Shelf.Abstract
import Derived.Shelf.RegionOpen
import Derived.Shelf.SlSortCmp.HeapSort1
import Derived.Shelf.SlSortCmp.Insertion
import Derived.Shelf.SlSortCmp.Insertion1
import Derived.Shelf.SlSortCmp.Median1
import Derived.Shelf.SlSortCmp.PartialInsertion1
import Derived.Shelf.SlSortCmp.Partition1
import Derived.Shelf.SlSortCmp.PartitionEqual1
import Derived.Shelf.SlSortCmp.Pdq1
import Derived.Shelf.SlSortCmp.Pivot1
import Derived.Shelf.SlSortCmp.ReverseRange1
import Derived.Shelf.SlSortCmp.SiftDown1
import Derived.Shelf.SlSortCmp.Whole1
import Derived.Shelf.Slices.Clone
import Derived.Shelf.Slices.Empties2
import Derived.Shelf.Slices.Equal
import Derived.Shelf.Slices.In.SortNone
import Derived.Shelf.Slices.SearchI
import Derived.Shelf.Slices.Turned
import Derived.Shelf.SlicesE.Clone
import Derived.Shelf.Small.Bits
import Derived.Shelf.Small.Wraps
import Derived.Shelf.Sort.Plain
import Derived.Shelf.Strconv.Itoa0
import Derived.Sort.CutIn
import Derived.Tactics
import Derived.TacticsInMore
import Derived.WalkKit
import Derived.WideLaws
import Derived.Test.YtmpondcccbmlhaaProg
import Derived.Test.YtmpondcccbmlhaazP0
import Derived.Test.YtmpondcccbmlhaazP1
import Derived.Test.YtmpondcccbmlhaazP2
import Derived.Test.YtmpondcccbmlhaazP3
import Derived.Test.YtmpondcccbmlhaazP4
import Derived.Test.YtmpondcccbmlhaazP5
import Derived.Test.YtmpondcccbmlhaazP6
import Derived.Test.YtmpondcccbmlhaazP7
import Derived.Test.YtmpondcccbmlhaazP8
import Derived.Test.YtmpondcccbmlhaazP9
import Derived.Test.YtmpondcccbmlhaazP10
import Derived.Test.YtmpondcccbmlhaazP11
import Derived.Test.YtmpondcccbmlhaazP12
import Derived.Test.YtmpondcccbmlhaazP13
import Derived.Test.YtmpondcccbmlhaazP14
import Derived.Test.YtmpondcccbmlhaazP15
namespace Go.Proofs.Ytmpondcccbmlhaa.Ext
open Go Go.RowKit Go.Shelf Go.Proofs.YtmpondcccbmlhaaW.PrintWords Go.Proofs.YtmpondcccbmlhaaW.PrintLast Go.Proofs.YtmpondcccbmlhaaW.PrintMore
attribute [local go_sem] Oper.semAt_some
theorem kept_cell {A B : World} (h : CellsKept A B) {p : Addr} {v : Value} (hc : A.cell? p = some v) : B.cell? p = some v := by
  unfold World.cell? at hc ⊢
  cases ho : A.heap[p.block]? with
  | none => simp [ho] at hc
  | some o =>
    have hi : o.isCells = true := by cases o <;> simp_all [Obj.isCells]
    rw [h.2 _ _ ho hi]
    rw [ho] at hc
    exact hc
theorem maskTo_skip {n s m : Nat} (h : ¬ (bitsTo m n).length = s) : maskTo n s (m + 1) = maskTo n s m := by rw [maskTo, if_neg h, List.append_nil]
theorem maskTo_take {n s m : Nat} (h : (bitsTo m n).length = s) : maskTo n s (m + 1) = maskTo n s m ++ [bitsTo m n] := by rw [maskTo, if_pos h]
theorem and_one0 : ∀ m : Nat, m < 64 → ∀ k, k < 6 → bits BinOp.and IntKind.u64 ((m : Int) / 2 ^ k) 1 = if m.testBit k = true then 1 else 0 := by decide +kernel
theorem and_one (m : Nat) (hm : m < 64) (k : Nat) (hk : k < 6) : bits BinOp.and IntKind.u64 ((m : Int) / 2 ^ k) 1 = if m.testBit k = true then 1 else 0 := and_one0 m hm k hk
theorem and_true (m : Nat) (hm : m < 64) (k : Nat) (hk : k < 6) (h : (bits BinOp.and IntKind.u64 ((m : Int) / 2 ^ k) 1 == 1) = true) : m.testBit k = true := by
  rw [and_one m hm k hk] at h
  cases ht : m.testBit k with
  | true => rfl
  | false => rw [ht] at h; exact absurd h (by decide)
theorem and_false (m : Nat) (hm : m < 64) (k : Nat) (hk : k < 6) (h : (bits BinOp.and IntKind.u64 ((m : Int) / 2 ^ k) 1 == 1) = false) : ¬ m.testBit k = true := by
  rw [and_one m hm k hk] at h
  intro ht
  rw [if_pos ht] at h; exact absurd h (by decide)
theorem bitsTo_take {m k : Nat} (h : m.testBit k = true) : bitsTo m (k + 1) = bitsTo m k ++ [(k : Int)] := by rw [bitsTo, if_pos h]
theorem bitsTo_skip {m k : Nat} (h : ¬ m.testBit k = true) : bitsTo m (k + 1) = bitsTo m k := by rw [bitsTo, if_neg h, List.append_nil]
theorem bitsTo_len (m k : Nat) : (bitsTo m k).length ≤ k := by
  induction k with
  | zero => exact Nat.le_refl _
  | succ k ih => rw [bitsTo, List.length_append]; split <;> simp <;> omega
theorem maskTo_len (n s m : Nat) : (maskTo n s m).length ≤ m := by
  induction m with
  | zero => exact Nat.le_refl _
  | succ m ih => rw [maskTo, List.length_append]; split <;> simp <;> omega
theorem maskTo_mem {n s m : Nat} {r : List Int} (h : r ∈ maskTo n s m) : r.length = s := by
  induction m with
  | zero => simp [maskTo] at h
  | succ m ih =>
    rw [maskTo, List.mem_append] at h
    rcases h with h | h
    · exact ih h
    · split at h
      · rename_i hl
        rw [List.mem_singleton] at h; rw [h]; exact hl
      · simp at h
theorem combos_pos : ∀ n, n < 7 → ∀ s, s ≤ n → 0 < (combos n n s).length := by decide +kernel
theorem kept_below {A B C : World} (h : CellsKept A B) (hb : Below B.heap.size B C) : CellsKept A C :=
  ⟨Nat.le_trans h.1 hb.size, fun k o hk ho => (hb.block k (Array.getElem?_eq_some_iff.1 (h.2 k o hk ho)).1).trans (h.2 k o hk ho)⟩
theorem R_kept {α : Type} {d : Kd α} {e base : Nat} {ok : Nat → Prop} {w w1 : World} {v : Value} {xs : List α} (h : d.R e w base ok v xs) (hk : CellsKept w w1) : d.R e w1 base ok v xs := by
  refine Kd.R_mono (Kd.R_move (Kd.R_bound h) (fun k hq => ?_)) (fun _ hq => hq.1)
  obtain ⟨-, -, -, q, -, cells, hc⟩ := hq
  exact (hk.2 k _ hc rfl).trans hc.symm
theorem setsTo_prefix (n a b : Nat) (h : a ≤ b) : setsTo n a <+: setsTo n b := by
  induction b with
  | zero => rw [show a = 0 by omega]; exact List.prefix_refl _
  | succ b ih =>
    by_cases hab : a = b + 1
    · rw [hab]; exact List.prefix_refl _
    · exact (ih (by omega)).trans (List.prefix_append _ _)
set_option maxHeartbeats 8000000 in
set_option maxRecDepth 100000 in
theorem sets1_gives (n : Nat) (hn : n ≤ 6) (b bs : Nat) (W : World) (hb : W.cell? ⟨b, 0, none⟩ = some (.int .i64 n)) (hbs : bs ≤ W.heap.size) :
    GivesRows Fence.wide 2 Try.prog 82 #[.pointer (some ⟨b, 0, none⟩)] (setsTo n (n + 1)) bs W := by
  intro l J Jx W1 hW1 hJ hJx hY h0
  have HJ := Lib.hid hJ
  have HJX := Lib.hid hJx
  have HY := Lib.hid hY
  have H0 := Lib.hid h0
  have hb1 := pw_cell_below hW1 hb
  have HB := Lib.hid hb1
  have HW1 := Lib.hid hW1
  clear hJ hJx hY h0 hb hW1
  refine callsIn_of_wp Try.func82 rfl trivial ?_ rfl
  simp only [Try.ntmps82, List.size_toArray, List.length_cons, List.length_nil, Nat.reduceAdd, Nat.reduceSub, Array.replicate_succ, Array.replicate_zero, List.push_toArray, List.append_toArray, List.nil_append, List.cons_append]
  gi_wp2_with fail
  gi_loopw [12] (fun i wr => ∃ s : Nat, s ≤ n + 1 ∧ i = .int .i64 (s : Nat) ∧ Hid (J (setsTo n s).length wr) ∧ Hid (CellsKept W1 wr))
    (fun i _ => n + 1 - (intOf i).toNat)
  case atStart => exact ⟨0, by omega, rfl, H0, Lib.hid ⟨Nat.le_refl _, fun _ _ h _ => h⟩⟩
  case round =>
    obtain ⟨s, hs, rfl, HJs, HK⟩ := hrel
    obtain ⟨Wo, hWo⟩ : ∃ W, W = wr := ⟨_, rfl⟩
    subst hWo
    by_cases hlt : s < n + 1
    · have hc := kept_cell HK.out HB.out
      have HC := Lib.hid hc
      obtain ⟨M, hM⟩ : ∃ M : Nat, M = 2 ^ n := ⟨_, rfl⟩
      have hM64 : M ≤ 64 := by rw [hM]; exact Nat.pow_le_pow_right (by omega) hn
      have hsh : IntKind.u64.wrap ((2 : Int) ^ n) = (M : Int) := by
        rw [hM]
        obtain rfl | rfl | rfl | rfl | rfl | rfl | rfl : n = 0 ∨ n = 1 ∨ n = 2 ∨ n = 3 ∨ n = 4 ∨ n = 5 ∨ n = 6 := by omega
        all_goals rfl
      have HM := Lib.hid hM
      have hd13 : decide ((s : Int) < (n : Int) + 1) = true := by simp; omega
      clear hM
      gi_wp2_with fail
      refine wpIn_wide.2 ?_
      clear hsh hc hb1 hd13
      go_loopw [17, 4] (fun i v4 wx => ∃ m : Nat, m ≤ M ∧ i = .int .u64 (m : Nat) ∧ Hid (Kd.S (Kd.slice 3 (Kd.int .i64)) 22 wx Wo.heap.size (fun _ => True) v4 (maskTo n s m)) ∧ Hid (Below Wo.heap.size Wo wx))
        (fun i _ _ => M - (intOf i).toNat)
      case atStart => exact ⟨0, by omega, rfl, Lib.hid (Kd.S_nil _ _ _ _ _), Lib.hid (Below.refl _ _)⟩
      case round =>
        obtain ⟨m, hm, rfl, HS, HBx⟩ := hrel
        by_cases hmM : m < M
        · have hones := ones_eval n (by omega) m (by rw [← HM.out]; exact hmM)
          have hcx := pw_cell_below HBx.out HC.out
          have HCX := Lib.hid hcx
          clear hcx
          by_cases hlen : (bitsTo m n).length = s
          · rw [hlen] at hones
            have HO := Lib.hid hones
            have HLEN := Lib.hid hlen
            clear hones hlen
            go_wp2_with (go_at_call 83; refine (B.bits_OnesCount.calls (m : Int) _ _ HO.out).mono ?_; rintro e w3 ⟨rfl, ⟨q, rfl⟩⟩; have hcq := pw_cell_below (bl_drewN (Below.refl _ _) q) HCX.out)
            obtain ⟨W2, hW2⟩ : ∃ W, W = wr.drewN q := ⟨_, rfl⟩
            have HS2 := Lib.hid (Kd.S_drewN HS.out q)
            have HB2 := Lib.hid (bl_drewN HBx.out q)
            rw [← hW2] at hcq HS2 HB2 ⊢
            have HCQ := Lib.hid hcq
            clear hW2 hcq HS HBx HCX HO
            go_loopw [25, 6] (fun i v6 wq => ∃ k : Nat, k ≤ n ∧ i = .int .i64 (k : Nat) ∧ Hid (Kd.R (Kd.int .i64) 3 wq W2.heap.size (fun _ => True) v6 (bitsTo m k)) ∧ Hid (Below W2.heap.size W2 wq))
              (fun i _ _ => n - (intOf i).toNat)
            case atStart => exact ⟨0, by omega, rfl, Lib.hid (Kd.R_nil _ _ _ _ _), Lib.hid (Below.refl _ _)⟩
            case round =>
              obtain ⟨k, hk, rfl, HR, HBq⟩ := hrel
              by_cases hkn : k < n
              · have HE3 := Lib.hid (w64 (n := (k : Int) + 1) (by omega) (by omega))
                have hle : (bitsTo m k).length ≤ 6 := by have := bitsTo_len m k; omega
                go_upto_region 13 with fail
                · rename_i hbt
                  have HBT := Lib.hid (bitsTo_take (m := m) (k := k) (and_true m (by omega) k (by omega) hbt))
                  clear hbt
                  go_wp2_with (at_builtin; go_loud (refine Kd.R_append (Kd.int .i64) (w0 := W2) W2.heap.size rfl (.tmp 33) (.tmp 35) 22 3 (.int .i64 0) 8 rfl Try.underlying22 Q.info3 rfl (by decide) (by omega) _ (bitsTo m k) (k : Int) [.int .i64 k] (fun _ => True) (fun _ => False) rfl rfl rfl (fun _ hk => hk.elim) (fun _ _ => trivial) HR.out HBq.out HBq.out.size (by omega) ?_; intro v1 w5 ho hb hg hat))
                  go_roundw
                  case rel => exact ⟨k + 1, by omega, (by first | rw [HE3.out]; rfl | go_num), Lib.hid (by rw [HBT.out]; exact ho), Lib.hid hb⟩
                  case measure => first | (simp only [intOf]; omega) | (simp [intOf]; omega)
                · rename_i hbt
                  have HBT := Lib.hid (bitsTo_skip (m := m) (k := k) (and_false m (by omega) k (by omega) hbt))
                  exact ⟨⟨k + 1, by omega, (by first | rw [HE3.out]; rfl | go_num), Lib.hid (by rw [HBT.out]; exact HR.out), HBq⟩, by simp [intOf]; omega⟩
              · have hkn2 : k = n := by omega
                rw [hkn2] at HR
                clear hkn2
                have HS4 := Lib.hid (Kd.S_old HS2.out HBq.out)
                obtain ⟨A7, c7, e7⟩ := Kd.R_slice HR.out
                subst e7
                obtain ⟨A4, c4, e4⟩ := Kd.S_slice HS4.out
                subst e4
                have HAP := Lib.hid (fun (q : Nat) (e : some q = (Value.slice A7 (bitsTo m n).length c7).ownBlock) (h : q < W2.heap.size) => (by have h1 := Kd.R_base HR.out q e.symm; omega : False))
                have HBA := Lib.hid (Kd.S_mono HS4.out (ok' := fun q => True ∧ ¬ some q = (Value.slice A7 (bitsTo m n).length c7).ownBlock) (fun q hq => ⟨trivial, fun e => HAP.out q e hq.2⟩))
                have HOK := Lib.hid (fun (q : Nat) (e : some q = (Value.slice A7 (bitsTo m n).length c7).ownBlock) => (⟨trivial, fun e4 => HAP.out q e ((Kd.S_R HS4.out).1 q e4.symm).2⟩ : True ∧ some q ≠ (Value.slice A4 (maskTo n s m).length c4).ownBlock))
                have HM5 := Lib.hid (Kd.M_row (Kd.R_tight rfl (Kd.R_lower HR.out HB2.out.size)))
                have HBW := Lib.hid (bl_next HB2.out HBq.out)
                have hlm : (maskTo n s m).length ≤ 64 := by have := maskTo_len n s m; omega
                have HTK := Lib.hid (maskTo_take HLEN.out)
                clear HS2 HR
                go_wp2_with (at_builtin; go_loud (refine Kd.S_append (Kd.slice 3 (Kd.int .i64)) (w0 := Wo) Wo.heap.size rfl (.tmp 38) (.tmp 40) 31 22 (.slice none 0 0) 24 rfl Try.underlying31 Q.info22 rfl (by decide) (by omega) (Value.slice A4 (maskTo n s m).length c4) (maskTo n s m) (bitsTo m n) [.slice A7 (bitsTo m n).length c7] (fun _ => True) (fun k_ => some k_ = (Value.slice A7 (bitsTo m n).length c7).ownBlock) rfl rfl HM5.out HOK.out (fun _ _ => trivial) HBA.out HBW.out HBW.out.size (by omega) ?_; intro v1 w5 ho hb hg hat))
                go_roundw
                case rel => first | exact ⟨m + 1, by omega, by go_num, Lib.hid (by rw [HTK.out]; exact ho), Lib.hid hb⟩ | ((repeat apply Exists.intro); refine ⟨?_, rfl⟩; exact ⟨m + 1, by omega, by go_num, Lib.hid (by rw [HTK.out]; exact ho), Lib.hid hb⟩)
                case measure => simp [intOf]; omega
          · have hne : (((bitsTo m n).length : Int) != (s : Int)) = true := by simpa using fun e => hlen (by omega)
            have HO := Lib.hid hones
            have HLEN := Lib.hid hlen
            clear hones hlen
            go_wp2_with (go_at_call 83; refine (B.bits_OnesCount.calls (m : Int) _ _ HO.out).mono ?_; rintro e w3 ⟨rfl, ⟨q, rfl⟩⟩)
            go_roundw
            case rel =>
              have HX := Lib.hid (maskTo_skip HLEN.out)
              first | exact ⟨m + 1, by omega, by go_num, Lib.hid (by rw [HX.out]; exact Kd.S_drewN HS.out q), Lib.hid (bl_drewN HBx.out q)⟩ | ((repeat apply Exists.intro); refine ⟨?_, rfl⟩; exact ⟨m + 1, by omega, by go_num, Lib.hid (by rw [HX.out]; exact Kd.S_drewN HS.out q), Lib.hid (bl_drewN HBx.out q)⟩)
            case measure => simp [intOf]; omega
        · have hmm : m = M := by omega
          rw [hmm, HM.out] at HS
          have hpos : 0 < (maskTo n s (2 ^ n)).length := by rw [(List.isPerm_iff.1 (combos_perm n (by omega) s (by omega))).length_eq]; exact combos_pos n (by omega) s (by omega)
          have hmax : (maskTo n s (2 ^ n)).length ≤ 64 := by have := maskTo_len n s (2 ^ n); rw [← HM.out] at this ⊢; omega
          obtain ⟨g, cap, rfl, hgb, hgl, -⟩ := Kd.S_form HS.out hpos
          have HSR := Lib.hid (sort_rows Wo.heap.size g cap wr (maskTo n s (2 ^ n)) (combos n n s) (fun r hr => by have := maskTo_mem hr; omega) hpos (by omega) HS.out HBx.out.size (List.isPerm_iff.1 (combos_perm n (by omega) s (by omega))) (combos_sorted n (by omega) s (by omega)))
          have HLC := Lib.hid (List.isPerm_iff.1 (combos_perm n (by omega) s (by omega))).length_eq
          obtain ⟨len, hlen⟩ : ∃ len, len = (maskTo n s (2 ^ n)).length := ⟨_, rfl⟩
          rw [← hlen] at HSR HLC hpos hmax ⊢
          clear hmm hlen HS
          go_wp2_with fail
          gi_wp2_with fail
          refine ⟨trivial, (callsIn_wide.2 HSR.out).mono ?_⟩
          rintro e w4 ⟨rfl, hb4, hrows⟩
          have HB4 := Lib.hid (HBx.out.trans hb4)
          have HROWS := Lib.hid hrows
          clear hb4 hrows HSR
          gi_wp2_with fail
          have HK4 := Lib.hid (kept_below HK.out HB4.out)
          have HJ4 := Lib.hid (HJ.out _ _ _ HJs.out HB4.out)
          have HBS := Lib.hid (Nat.le_trans hbs (Nat.le_trans HW1.out.size HK.out.1))
          have hpre : ∀ j, j < len → (setsTo n (s + 1)).length ≤ (setsTo n (n + 1)).length ∧ (setsTo n s).length + j < (setsTo n (s + 1)).length ∧ (setsTo n (n + 1)).getD ((setsTo n s).length + j) [] = (combos n n s).getD j [] := by
            intro j hj
            have h1 := setsTo_prefix n (s + 1) (n + 1) (by omega)
            obtain ⟨t, ht⟩ := h1
            have h2 : (setsTo n (s + 1)).length = (setsTo n s).length + (combos n n s).length := by rw [setsTo, List.length_append]
            have h3 := HLC.out
            refine ⟨by rw [← ht, List.length_append]; omega, by omega, ?_⟩
            rw [← ht, setsTo, List.getD_eq_getElem?_getD, List.getElem?_append_left (by rw [List.length_append]; omega), List.getElem?_append_right (by omega), show (setsTo n s).length + j - (setsTo n s).length = j by omega, List.getD_eq_getElem?_getD]
          have HPRE := Lib.hid hpre
          have HLS : Hid ((setsTo n s).length + len = (setsTo n (s + 1)).length) := Lib.hid (by rw [setsTo, List.length_append]; have := HLC.out; omega)
          clear hpre HBx HB4 HJs
          gi_loopw [47] (fun i wx => ∃ j : Nat, j ≤ len ∧ i = .int .i64 (j : Nat) ∧ Hid (J ((setsTo n s).length + j) wx) ∧ Hid (CellsKept w4 wx))
            (fun i _ => len - (intOf i).toNat)
          case atStart => exact ⟨0, by omega, rfl, HJ4, Lib.hid ⟨Nat.le_refl _, fun _ _ h _ => h⟩⟩
          case round =>
            obtain ⟨j, hj, rfl, HJj, HKj⟩ := hrel
            by_cases hjl : j < len
            · obtain ⟨v, hv, hRv⟩ := HROWS.out j hjl
              have hv2 := kept_cell HKj.out hv
              obtain ⟨q1, q2, q3⟩ := HPRE.out j hjl
              have hR2 := R_kept hRv HKj.out
              rw [← q3] at hR2
              obtain ⟨fn, tmps, assign, body, hy, hRd⟩ := HY.out _ v wr HJj.out (by omega) (Kd.R_lower hR2 HBS.out)
              have HRD := Lib.hid hRd
              obtain ⟨A5, c5, hv5⟩ := Kd.R_slice hRv
              obtain ⟨n5, hn5⟩ : ∃ n5, n5 = ((combos n n s).getD j []).length := ⟨_, rfl⟩
              rw [← hn5] at hv5
              subst hv5
              clear hn5 hv hRv hR2 q1 q2 q3 hRd
              gi_wp2_with fail
              refine HRD.out.mono ?_
              rintro e W3 (⟨rfl, hJ3, hk3⟩ | ⟨rfl, hJx3⟩)
              · have HJ3 := Lib.hid hJ3
                have HK3 := Lib.hid (kept_trans HKj.out hk3)
                clear hJ3 hk3 hy
                gi_wp2_with fail
                exact ⟨⟨j + 1, by omega, by go_num, HJ3, HK3⟩, by simp [intOf]; omega⟩
              · have HJX3 := Lib.hid hJx3
                clear hJx3 hy
                gi_wp2_with fail
                refine bodyPost_ret (results_none rfl _ _ _) rfl ?_
                exact ⟨⟨_, rfl⟩, .inr HJX3.out⟩
            · have hjl2 : j = len := by omega
              rw [hjl2, HLS.out] at HJj
              clear hjl2
              gi_wp2_with fail
              exact ⟨⟨s + 1, by omega, by go_num, HJj, Lib.hid (kept_trans HK4.out HKj.out)⟩, by simp [intOf]; omega⟩
    · have hsn : s = n + 1 := by omega
      rw [hsn] at HJs
      gi_wp2_with fail
      go_end0
      exact ⟨⟨_, rfl⟩, .inl HJs.out⟩
end Go.Proofs.Ytmpondcccbmlhaa.Ext
