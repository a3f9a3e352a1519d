/- A part of the claim L: the texts Nrg, without what the claim does not lean on. -/
import Derived.ArgAppend
import Derived.Below
import Derived.BigQuiet
import Derived.Deep.AppendLies
import Derived.Deep.CutBlock
import Derived.Deep.DeepCutAuto
import Derived.Deep.Draws
import Derived.Deep.LoopGhost
import Derived.Deep.OwnRows
import Derived.Deep.QuietTactic
import Derived.Deep.RegionHeld3
import Derived.KernelRfl
import Derived.Laws.BitsLemmas
import Derived.Laws.BytesArg
import Derived.Laws.IdiomCopy
import Derived.Laws.MakeOwn
import Derived.Laws.OwnMore
import Derived.Laws.Rows
import Derived.Laws.Slices
import Derived.Laws.StructEq
import Derived.Lib.AppendStr
import Derived.Lib.ConvBytes
import Derived.Lib.Hide
import Derived.Maps.AppendAt
import Derived.OrdersHeld
import Derived.Outline
import Derived.OwnWalk
import Derived.RowKit
import Derived.RowKit3
import Derived.Shelf.Abstract
import Derived.Tactics
import Derived.WalkKit
import Derived.WideLaws
import Derived.Test.YtmpondcccbmlhaaGreatProg
import Derived.Test.YtmpondcccbmlhaaGreatzL0
import Derived.Test.YtmpondcccbmlhaaGreatzL1
import Derived.Test.YtmpondcccbmlhaaGreatzL2
import Derived.Test.YtmpondcccbmlhaaGreatzL3
import Derived.Test.YtmpondcccbmlhaaGreatzL4
import Derived.Test.YtmpondcccbmlhaaGreatzL5
import Derived.Test.YtmpondcccbmlhaaGreatzL6
import Derived.Test.YtmpondcccbmlhaaGreatzL7
import Derived.Test.YtmpondcccbmlhaaGreatzL8
import Derived.Test.YtmpondcccbmlhaaGreatzL9
import Derived.Test.YtmpondcccbmlhaaGreatzL10
import Derived.Test.YtmpondcccbmlhaaGreatzL12
import Derived.Test.YtmpondcccbmlhaaGreatzL13
namespace Go.Proofs.YtmpondcccbmlhaaGreat.Ext
open Go Go.RowKit Go.Shelf Go.Proofs.YtmpondcccbmlhaaGreatW.PrintWords Go.Proofs.YtmpondcccbmlhaaGreatW.PrintLast Go.Proofs.YtmpondcccbmlhaaGreatW.PrintMore
set_option linter.unusedVariables false
set_option linter.unusedSimpArgs false
theorem one_read {w : World} {g : Nat} {i : Int} (h : w.cell? ⟨g, 0, none⟩ = some (.int .i64 i)) : ReadsRow (fun (x : Int) (cs : List Value) => cs = [.int .i64 x]) 1 w (some ⟨g, 0, none⟩) 1 [i] := by
 refine ⟨rfl, by decide, fun _ => ⟨_, rfl, fun j p hj => ⟨[.int .i64 p], rfl, rfl, fun k u hu => ?_⟩⟩⟩
 rcases j with _ | j
 ·rcases k with _ | k
  ·simp only [List.getElem?_cons_zero, Option.some.injEq] at hj hu
   subst hj
   subst hu
   exact h
  ·simp at hu
 ·simp at hj
def unT : Bool × List (List Nat × List Nat) := (true, [([], []), ([], []), ([1], [1]), ([], []), ([3], [3]), ([2, 4, 2], [2, 4]), ([], []), ([6], [6]), ([0, 5, 7, 5], [0, 5, 7]), ([8], [8]), ([9], [9]), ([9], [9]), ([10, 8, 0, 1, 2, 3, 4, 5, 6, 7, 8, 9, 10], [10]), ([11, 12, 0, 1, 2, 3, 4, 5, 6, 7, 8, 9, 10, 11, 12], [11])])
def unB : List Nat := [0, 0, 2, 0, 8, 30, 0, 64, 255, 511, 1023, 1023, 2047, 3071]
theorem un_tab : rtab .any (opsOf Tryz.f121 9) = unT := by kernel_rfl
theorem un_bits : waitsOk unT.2 unB = true := by kernel_rfl
set_option maxHeartbeats 4000000 in
set_option maxRecDepth 100000 in
theorem un_region (g n0 c0 n1 c1 c2 i m : Nat) (A0 A1 A2 : Option Addr) (b rs : List Int) (ok : Bool) (mm : Int) (wr : World) {t0 t4 t5 t6 t7 t8 t10 t11 t12 t13 t14 t15 t16 t17 t18 t19 t20 t21 t22 t23 t24 t25 t26 t27 t28 t29 t30 t31 t32 t33 t34 t35 t36 t37 t38 t39 t40 t41 t42 t43 t44 t45 t46 t47 t48 t49 t50 t51 : Value} {QQ : Exit → Act → World → Prop} (hb6 : b.length ≤ 1000) (hi6 : i ≤ 1000) (hmm : mm = (m : Int) + 1) (hm6 : m ≤ 1000)
  (h0 : wr.cell? ⟨g, 0, none⟩ = some (.slice A0 n0 c0)) (h1 : wr.cell? ⟨g, 1, none⟩ = some (.slice A1 n1 c1)) (hC : Kd.C (Kd.int .i64) wr A2 b.length b) (hL : b.length ≤ c2)
  (hcall : ∀ (A6 : Option Addr) (c6 : Nat) (w6 : World), Below wr.heap.size wr w6 → Kd.R (Kd.int .i64) 3 w6 wr.heap.size (fun _ => True) (.slice A6 (b.length + 1) c6) (b ++ [(i : Int)]) →
   Calls Tryz.prog 121 #[.agg #[.slice A0 n0 c0, .slice A1 n1 c1], .slice A6 (b.length + 1) c6, .int .i64 (m : Int)] w6 fun e w' => ∃ v0 : Value, e = .returned (.tuple #[v0, .bool ok]) ∧ Kd.R (Kd.int .i64) 3 w' wr.heap.size (fun _ => True) v0 rs ∧ Below w6.heap.size w6 w')
  (hP : ∀ c (t t' : Array Value) d w, QQ (.panic c) ⟨t, d⟩ w → QQ (.panic c) ⟨t', d⟩ w) (hQ : ∀ (v0 : Value) (w9 : World) (u38 u39 u40 u41 u42 u43 u44 u45 u46 u47 u48 u49 : Value), Kd.R (Kd.int .i64) 3 w9 wr.heap.size (fun _ => True) v0 rs → Below wr.heap.size wr w9 → QQ .normal { tmps := (t0 :: Value.slice A2 b.length c2 :: Value.int .i64 mm :: Value.pointer (some ⟨g, 0, none⟩) :: t4 :: t5 :: t6 :: t7 :: t8 :: Value.int .i64 (i : Int) :: v0 :: Value.bool ok :: t12 :: t13 :: t14 :: t15 :: t16 :: t17 :: t18 :: t19 :: t20 :: t21 :: t22 :: t23 :: t24 :: t25 :: t26 :: t27 :: t28 :: t29 :: t30 :: t31 :: t32 :: t33 :: t34 :: t35 :: t36 :: t37 :: u38 :: u39 :: u40 :: u41 :: u42 :: u43 :: u44 :: u45 :: u46 :: u47 :: u48 :: u49 :: t50 :: t51 :: []).toArray, defers := [] } w9) :
  Code.wp Tryz.prog (Code.region 9 #[{ dst := some 39, op := Op.load 63 (Operand.tmp 3), type := 63, pos := "ref.go:414", after := #[], guard := none }, { dst := some 40, op := Op.move (Operand.tmp 1), type := 22, pos := "ref.go:414", after := #[], guard := none }, { dst := some 41, op := Op.call { callee := Callee.value (Operand.func 19), args := #[Operand.tmp 40], argTypes := #[22] }, type := 22, pos := "ref.go:414", after := #[{ on := 1, ground := Ground.data }], guard := none }, { dst := some 42, op := Op.move (Operand.tmp 9), type := 3, pos := "ref.go:414", after := #[], guard := none }, { dst := some 43, op := Op.buildSlice 22 1 #[(0, Operand.tmp 42)], type := 22, pos := "ref.go:414", after := #[{ on := 3, ground := Ground.data }], guard := none }, { dst := some 44, op := Op.call { callee := Callee.builtin Builtin.append, args := #[Operand.tmp 41, Operand.tmp 43], argTypes := #[22, 22] }, type := 22, pos := "ref.go:414", after := #[{ on := 2, ground := Ground.data }, { on := 4, ground := Ground.data }, { on := 2, ground := Ground.chain }], guard := none }, { dst := some 45, op := Op.move (Operand.tmp 2), type := 3, pos := "ref.go:414", after := #[], guard := none }, { dst := some 46, op := Op.binOp BinOp.sub 3 (Operand.tmp 45) (Operand.const (Value.int IntKind.i64 1)) 3, type := 3, pos := "ref.go:414", after := #[{ on := 6, ground := Ground.data }], guard := none }, { dst := some 47, op := Op.call { callee := Callee.value (Operand.func 121), args := #[Operand.tmp 39, Operand.tmp 44, Operand.tmp 46], argTypes := #[63, 22, 3] }, type := 36, pos := "ref.go:414", after := #[{ on := 0, ground := Ground.data }, { on := 5, ground := Ground.data }, { on := 7, ground := Ground.data }, { on := 5, ground := Ground.chain }], guard := none }, { dst := some 38, op := Op.move (Operand.tmp 47), type := 36, pos := "ref.go:414", after := #[{ on := 8, ground := Ground.data }], guard := none }, { dst := some 48, op := Op.extract (Operand.tmp 38) 0, type := 22, pos := "ref.go:414", after := #[{ on := 9, ground := Ground.data }], guard := none }, { dst := some 49, op := Op.extract (Operand.tmp 38) 1, type := 4, pos := "ref.go:414", after := #[{ on := 9, ground := Ground.data }, { on := 12, ground := Ground.gcOnly Departure.lateStores }], guard := none }, { dst := some 10, op := Op.assign (Operand.tmp 48), type := 22, pos := "ref.go:414", after := #[{ on := 10, ground := Ground.data }, { on := 8, ground := Ground.chain }, { on := 0, ground := Ground.phase }, { on := 1, ground := Ground.phase }, { on := 2, ground := Ground.phase }, { on := 3, ground := Ground.phase }, { on := 4, ground := Ground.phase }, { on := 5, ground := Ground.phase }, { on := 6, ground := Ground.phase }, { on := 7, ground := Ground.phase }, { on := 8, ground := Ground.phase }, { on := 9, ground := Ground.phase }, { on := 10, ground := Ground.phase }, { on := 11, ground := Ground.textOnly Departure.lateStores }], guard := none }, { dst := some 11, op := Op.assign (Operand.tmp 49), type := 4, pos := "ref.go:414", after := #[{ on := 11, ground := Ground.data }, { on := 12, ground := Ground.chain }, { on := 0, ground := Ground.phase }, { on := 1, ground := Ground.phase }, { on := 2, ground := Ground.phase }, { on := 3, ground := Ground.phase }, { on := 4, ground := Ground.phase }, { on := 5, ground := Ground.phase }, { on := 6, ground := Ground.phase }, { on := 7, ground := Ground.phase }, { on := 8, ground := Ground.phase }, { on := 9, ground := Ground.phase }, { on := 10, ground := Ground.phase }, { on := 11, ground := Ground.phase }, { on := 12, ground := Ground.phase }], guard := none }] true) QQ { tmps := (t0 :: Value.slice A2 b.length c2 :: Value.int .i64 mm :: Value.pointer (some ⟨g, 0, none⟩) :: t4 :: t5 :: t6 :: t7 :: t8 :: Value.int .i64 (i : Int) :: t10 :: t11 :: t12 :: t13 :: t14 :: t15 :: t16 :: t17 :: t18 :: t19 :: t20 :: t21 :: t22 :: t23 :: t24 :: t25 :: t26 :: t27 :: t28 :: t29 :: t30 :: t31 :: t32 :: t33 :: t34 :: t35 :: t36 :: t37 :: t38 :: t39 :: t40 :: t41 :: t42 :: t43 :: t44 :: t45 :: t46 :: t47 :: t48 :: t49 :: t50 :: t51 :: []).toArray, defers := [] } wr := by
 have HK0 := Lib.hid h0
 have HK1 := Lib.hid h1
 have HC := Lib.hid hC
 have HL := Lib.hid hL
 have HCALL := Lib.hid hcall
 have HQ := Lib.hid hQ
 have HPP := Lib.hid hP
 have HB0 := Lib.hid (bl_drew (Below.refl wr.heap.size wr))
 have hw : IntKind.i64.wrap (mm - 1) = (m : Int) := by rw [i64_w, w64 (by omega) (by omega)]; omega
 have hw1 : wrap64 (mm - 1) = (m : Int) := by rw [w64 (by omega) (by omega)]; omega
 clear h0 h1 hC hL hcall hQ hP hmm hm6
 refine start_ (n := 14) (S := fun w' => w'.cell? ⟨g, 0, none⟩ = some (.slice A0 n0 c0) ∧ w'.cell? ⟨g, 1, none⟩ = some (.slice A1 n1 c1)) (ds := []) #[false, false, false, false, false, false, false, false, false, false, false, false, false, false] (by kernel_rfl) rfl rfl ⟨pw_cell_below HB0.out HK0.out, pw_cell_below HB0.out HK1.out⟩ (fun hHeld => ?_); refine with_tabW un_tab un_bits (fun HT_ HW_ => ?_)
 refine take_ (i := 0) (N := some 39) (v := ?_) (a' := ?_) #[true, false, false, false, false, false, false, false, false, false, false, false, false, false] rfl rfl (take_ofW HT_.out HW_.out (by kernel_rfl)) (fun _ _ _ h => HPP.out _ _ _ _ _ h) (Or.inl ⟨by rfl, ?_⟩) hHeld ?_ ?_
 rotate_left
 ·rintro w' ⟨s0, s1⟩
  go_simp
  with_reducible rfl
 rotate_left
 ·simp only [Act.put, List.setIfInBounds_toArray, List.set_cons_zero, List.set_cons_succ, i64_w]
  rfl
 refine pure_ (i := 1) (N := some 40) (v := ?_) (a' := ?_) #[true, true, false, false, false, false, false, false, false, false, false, false, false, false] rfl rfl (any_of HT_.out (by kernel_rfl)) (fun _ _ _ h => HPP.out _ _ _ _ _ h) (Or.inl ⟨by rfl, ?_⟩) ?_ ?_
 rotate_left
 ·intro w'
  go_simp
  with_reducible rfl
 rotate_left
 ·simp only [Act.put, List.setIfInBounds_toArray, List.set_cons_zero, List.set_cons_succ, i64_w]
  rfl
 refine pure_ (i := 3) (N := some 42) (v := ?_) (a' := ?_) #[true, true, false, true, false, false, false, false, false, false, false, false, false, false] rfl rfl (any_of HT_.out (by kernel_rfl)) (fun _ _ _ h => HPP.out _ _ _ _ _ h) (Or.inl ⟨by rfl, ?_⟩) ?_ ?_
 rotate_left
 ·intro w'
  go_simp
  with_reducible rfl
 rotate_left
 ·simp only [Act.put, List.setIfInBounds_toArray, List.set_cons_zero, List.set_cons_succ, i64_w]
  rfl
 refine pure_ (i := 6) (N := some 45) (v := ?_) (a' := ?_) #[true, true, false, true, false, false, true, false, false, false, false, false, false, false] rfl rfl (any_of HT_.out (by kernel_rfl)) (fun _ _ _ h => HPP.out _ _ _ _ _ h) (Or.inl ⟨by rfl, ?_⟩) ?_ ?_
 rotate_left
 ·intro w'
  go_simp
  with_reducible rfl
 rotate_left
 ·simp only [Act.put, List.setIfInBounds_toArray, List.set_cons_zero, List.set_cons_succ, i64_w]
  rfl
 refine pure_ (i := 7) (N := some 46) (v := ?_) (a' := ?_) #[true, true, false, true, false, false, true, true, false, false, false, false, false, false] rfl rfl (any_of HT_.out (by kernel_rfl)) (fun _ _ _ h => HPP.out _ _ _ _ _ h) (Or.inl ⟨by rfl, ?_⟩) ?_ ?_
 rotate_left
 ·intro w'
  go_simp
  with_reducible rfl
 rotate_left
 ·simp only [Act.put, List.setIfInBounds_toArray, List.set_cons_zero, List.set_cons_succ, i64_w]
  rfl
 refine join_ (σ := Value × Nat) 7 #[true, true, true, true, true, false, true, true, false, false, false, false, false, false] (fun s_ => [(41, s_.1), (43, .slice (some ⟨s_.2, 0, none⟩) 1 1)]) (fun s_ w' => (w'.cell? ⟨g, 0, none⟩ = some (.slice A0 n0 c0) ∧ w'.cell? ⟨g, 1, none⟩ = some (.slice A1 n1 c1)) ∧ Kd.R (Kd.int .i64) 3 w' wr.heap.size (fun _ => True) s_.1 b ∧ w'.cell? ⟨s_.2, 0, none⟩ = some (.int .i64 (i : Int)) ∧ Below wr.heap.size wr w') ?_ ?_
 rotate_left
 ·intro hCont
  refine two_ (i := 2) (j := 4) (Ni := some 41) (Nj := some 43) #[true, true, true, true, false, false, true, true, false, false, false, false, false, false] #[true, true, false, true, true, false, true, true, false, false, false, false, false, false] rfl rfl rfl rfl (two_of HT_.out (by kernel_rfl)) (by decide) (by decide) (fun K hK => ?_) (fun K hK => ?_)
  ·refine goes_ Tryz.func19 (by kernel_rfl) rfl #[.slice A2 b.length c2] (by rfl) rfl rfl (by (try simp only [List.map_toArray, List.map_cons, List.map_nil]); first | done | rfl) ?_
   refine (Q.gba_CopyInts.calls A2 c2 b b _ (Kd.C_below HC.out HB0.out) HL.out (copy_eval b (by omega))).mono ?_
   rintro e w4 ⟨v4, rfl, ho, hb⟩
   refine ⟨_, rfl, ?_⟩
   have hB4 := bl_next HB0.out hb
   have HO4 := Lib.hid (Kd.R_lower ho HB0.out.size)
   have HB4 := Lib.hid hB4
   clear ho hb hB4
   refine hK.out _ _ ⟨pw_cell_below HB4.out HK0.out, pw_cell_below HB4.out HK1.out⟩ (fun hHeld => ?_)
   clear hK K
   refine norm_ (a' := ?_) ?_ ?_
   rotate_left
   ·show Act.put _ (some 41) _ = _
    simp only [Act.put, List.setIfInBounds_toArray, List.set_cons_zero, List.set_cons_succ, i64_w]
    rfl
   refine one_ (i := 4) (N := some 43) #[true, true, true, true, true, false, true, true, false, false, false, false, false, false] rfl rfl (one_of HT_.out (by kernel_rfl)) (by decide) (fun K hK => ?_)
   refine value_ (w1 := ?_) (v := ?_) (by rfl) rfl ?_ ?_
   rotate_left 2
   ·go_simp
    constructor
    ·rfl
    ·rfl
   refine hK.out _ _ ⟨pw_cell_below (bl_alloc HB4.out _) HK0.out, pw_cell_below (bl_alloc HB4.out _) HK1.out⟩ (fun hHeld => ?_)
   clear hK K
   refine norm_ (a' := ?_) ?_ ?_
   rotate_left
   ·show Act.put _ (some 43) _ = _
    simp only [Act.put, List.setIfInBounds_toArray, List.set_cons_zero, List.set_cons_succ, i64_w]
    rfl
   exact norm_ (by simp only [putAll, Act.put, List.setIfInBounds_toArray, List.set_cons_zero, List.set_cons_succ]) (hCont (v4, w4.heap.size) _ ⟨hHeld, Kd.R_alloc HO4.out _, by simp, bl_alloc HB4.out _⟩)
  ·refine value_ (w1 := ?_) (v := ?_) (by rfl) rfl ?_ ?_
   rotate_left 2
   ·go_simp
    constructor
    ·rfl
    ·rfl
   have HB4 := Lib.hid (bl_alloc HB0.out (.cells #[.int .i64 (i : Int)] 3))
   refine hK.out _ _ ⟨pw_cell_below HB4.out HK0.out, pw_cell_below HB4.out HK1.out⟩ (fun hHeld => ?_)
   clear hK K
   refine norm_ (a' := ?_) ?_ ?_
   rotate_left
   ·show Act.put _ (some 43) _ = _
    simp only [Act.put, List.setIfInBounds_toArray, List.set_cons_zero, List.set_cons_succ, i64_w]
    rfl
   refine one_ (i := 2) (N := some 41) #[true, true, true, true, true, false, true, true, false, false, false, false, false, false] rfl rfl (one_of HT_.out (by kernel_rfl)) (by decide) (fun K hK => ?_)
   refine goes_ Tryz.func19 (by kernel_rfl) rfl #[.slice A2 b.length c2] (by rfl) rfl rfl (by (try simp only [List.map_toArray, List.map_cons, List.map_nil]); first | done | rfl) ?_
   refine (Q.gba_CopyInts.calls A2 c2 b b _ (Kd.C_below HC.out HB4.out) HL.out (copy_eval b (by omega))).mono ?_
   rintro e w4 ⟨v4, rfl, ho, hb⟩
   refine ⟨_, rfl, ?_⟩
   have hx4 : (wr.drew.alloc (.cells #[.int .i64 (i : Int)] 3)).cell? ⟨wr.heap.size, 0, none⟩ = some (.int .i64 (i : Int)) := (blk_cell (blk_new wr.drew _) 0).trans rfl
   have hy4 := pw_cell_below hb hx4
   have HO4 := Lib.hid (Kd.R_lower ho HB4.out.size)
   have HB5 := Lib.hid (bl_next HB4.out hb)
   clear ho hb hx4
   refine hK.out _ _ ⟨pw_cell_below HB5.out HK0.out, pw_cell_below HB5.out HK1.out⟩ (fun hHeld => ?_)
   clear hK K
   refine norm_ (a' := ?_) ?_ ?_
   rotate_left
   ·show Act.put _ (some 41) _ = _
    simp only [Act.put, List.setIfInBounds_toArray, List.set_cons_zero, List.set_cons_succ, i64_w]
    rfl
   exact norm_ (by simp only [putAll, Act.put, List.setIfInBounds_toArray, List.set_cons_zero, List.set_cons_succ]) (hCont (v4, wr.heap.size) _ ⟨hHeld, HO4.out, hy4, HB5.out⟩)
 rintro ⟨v4, g4⟩ w5 ⟨hHeld, ho5, hx5, hb5⟩
 obtain ⟨A4, c4, e4⟩ := Kd.R_slice ho5
 have e4b : v4 = .slice A4 b.length c4 := e4
 subst e4b
 have HO5 := Lib.hid ho5
 have HX5 := Lib.hid hx5
 have HB5 := Lib.hid hb5
 clear ho5 hx5 hb5 e4
 refine norm_ (a' := ?_) ?_ ?_
 rotate_left
 ·simp only [putAll, Act.put, List.setIfInBounds_toArray, List.set_cons_zero, List.set_cons_succ]
  rfl
 refine one_ (i := 5) (N := some 44) #[true, true, true, true, true, true, true, true, false, false, false, false, false, false] rfl rfl (one_of HT_.out (by kernel_rfl)) (by decide) (fun K hK => ?_)
 refine Kd.R_append_rows_step (Kd.int .i64) (Rr := fun x cs => cs = [.int .i64 x]) (w0 := wr) wr.heap.size (by rfl) (.tmp 41) (.tmp 43) 22 3 (.int .i64 0) 8 rfl Tryz.underlying22 Q.info3 rfl (by decide) (by omega) _ b [(i : Int)] (some ⟨g4, 0, none⟩) 1 1 (fun _ => True) (fun _ => False) rfl rfl HO5.out (one_read HX5.out) (fun _ _ h => h) (fun _ hk => hk.elim) (fun _ _ => trivial) HB5.out HB5.out.size (by omega) ?_
 intro v6 w6 ho hb hg hat
 obtain ⟨A6, c6, e6⟩ := Kd.R_slice ho
 have e6b : v6 = .slice A6 (b.length + 1) c6 := by rw [e6, List.length_append]; rfl
 subst e6b
 have HO6 := Lib.hid ho
 have HB6 := Lib.hid hb
 clear ho hb hg hat e6
 refine hK.out _ _ ⟨pw_cell_below HB6.out HK0.out, pw_cell_below HB6.out HK1.out⟩ (fun hHeld => ?_)
 clear hK K
 refine norm_ (a' := ?_) ?_ ?_
 rotate_left
 ·show Act.put _ (some 44) _ = _
  simp only [Act.put, List.setIfInBounds_toArray, List.set_cons_zero, List.set_cons_succ, i64_w]
  rfl
 refine one_ (i := 8) (N := some 47) #[true, true, true, true, true, true, true, true, true, false, false, false, false, false] rfl rfl (one_of HT_.out (by kernel_rfl)) (by decide) (fun K hK => ?_)
 refine goes_ Tryz.func121 (by kernel_rfl) rfl #[.agg #[.slice A0 n0 c0, .slice A1 n1 c1], .slice A6 (b.length + 1) c6, .int .i64 (m : Int)] (by rfl) rfl rfl (by (try simp only [List.map_toArray, List.map_cons, List.map_nil]); first | done | rfl) ?_
 refine (HCALL.out A6 c6 _ HB6.out HO6.out).mono ?_
 rintro e w7 ⟨v7, rfl, ho, hb⟩
 refine ⟨_, rfl, ?_⟩
 have HO7 := Lib.hid ho
 have HB7 := Lib.hid (bl_next HB6.out hb)
 clear ho hb
 refine hK.out _ _ ⟨pw_cell_below HB7.out HK0.out, pw_cell_below HB7.out HK1.out⟩ (fun hHeld => ?_)
 clear hK K
 refine norm_ (a' := ?_) ?_ ?_
 rotate_left
 ·show Act.put _ (some 47) _ = _
  simp only [Act.put, List.setIfInBounds_toArray, List.set_cons_zero, List.set_cons_succ, i64_w]
  rfl
 refine pure_ (i := 9) (N := some 38) (v := ?_) (a' := ?_) #[true, true, true, true, true, true, true, true, true, true, false, false, false, false] rfl rfl (any_of HT_.out (by kernel_rfl)) (fun _ _ _ h => HPP.out _ _ _ _ _ h) (Or.inl ⟨by rfl, ?_⟩) ?_ ?_
 rotate_left
 ·intro w'
  go_simp
  with_reducible rfl
 rotate_left
 ·simp only [Act.put, List.setIfInBounds_toArray, List.set_cons_zero, List.set_cons_succ, i64_w]
  rfl
 refine pure_ (i := 10) (N := some 48) (v := ?_) (a' := ?_) #[true, true, true, true, true, true, true, true, true, true, true, false, false, false] rfl rfl (any_of HT_.out (by kernel_rfl)) (fun _ _ _ h => HPP.out _ _ _ _ _ h) (Or.inl ⟨by rfl, ?_⟩) ?_ ?_
 rotate_left
 ·intro w'
  go_simp
  with_reducible rfl
 rotate_left
 ·simp only [Act.put, List.setIfInBounds_toArray, List.set_cons_zero, List.set_cons_succ, i64_w]
  rfl
 refine pure_ (i := 11) (N := some 49) (v := ?_) (a' := ?_) #[true, true, true, true, true, true, true, true, true, true, true, true, false, false] rfl rfl (any_of HT_.out (by kernel_rfl)) (fun _ _ _ h => HPP.out _ _ _ _ _ h) (Or.inl ⟨by rfl, ?_⟩) ?_ ?_
 rotate_left
 ·intro w'
  go_simp
  with_reducible rfl
 rotate_left
 ·simp only [Act.put, List.setIfInBounds_toArray, List.set_cons_zero, List.set_cons_succ, i64_w]
  rfl
 refine pure_ (i := 12) (N := some 10) (v := ?_) (a' := ?_) #[true, true, true, true, true, true, true, true, true, true, true, true, true, false] rfl rfl (any_of HT_.out (by kernel_rfl)) (fun _ _ _ h => HPP.out _ _ _ _ _ h) (Or.inl ⟨by rfl, ?_⟩) ?_ ?_
 rotate_left
 ·intro w'
  go_simp
  with_reducible rfl
 rotate_left
 ·simp only [Act.put, List.setIfInBounds_toArray, List.set_cons_zero, List.set_cons_succ, i64_w]
  rfl
 refine pure_ (i := 13) (N := some 11) (v := ?_) (a' := ?_) #[true, true, true, true, true, true, true, true, true, true, true, true, true, true] rfl rfl (any_of HT_.out (by kernel_rfl)) (fun _ _ _ h => HPP.out _ _ _ _ _ h) (Or.inl ⟨by rfl, ?_⟩) ?_ ?_
 rotate_left
 ·intro w'
  go_simp
  with_reducible rfl
 rotate_left
 ·simp only [Act.put, List.setIfInBounds_toArray, List.set_cons_zero, List.set_cons_succ, i64_w]
  rfl
 refine done_ (done_of HT_.out (by kernel_rfl)) ?_
 exact HQ.out _ _ _ _ _ _ _ _ _ _ _ _ _ _ HO7.out HB7.out
end Go.Proofs.YtmpondcccbmlhaaGreat.Ext
