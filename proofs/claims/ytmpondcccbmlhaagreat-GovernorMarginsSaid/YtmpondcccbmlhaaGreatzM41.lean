/- A part of the claim M: the texts Shf, Srg, without what the claim does not lean on. -/
import Derived.ArgAppend
import Derived.Below
import Derived.BigQuiet
import Derived.Deep.AppendLies
import Derived.Deep.CutBlock
import Derived.Deep.DeepCutAuto
import Derived.Deep.Draws
import Derived.Deep.LoopGhost
import Derived.Deep.OwnRows
import Derived.Deep.QuietTactic
import Derived.Deep.RegionHeld3
import Derived.KernelRfl
import Derived.Laws.BitsLemmas
import Derived.Laws.BytesArg
import Derived.Laws.IdiomCopy
import Derived.Laws.MakeOwn
import Derived.Laws.OwnMore
import Derived.Laws.Rows
import Derived.Laws.Slices
import Derived.Laws.StructEq
import Derived.Lib.AppendStr
import Derived.Lib.ConvBytes
import Derived.Lib.Hide
import Derived.Maps.AppendAt
import Derived.OrdersHeld
import Derived.Outline
import Derived.OwnWalk
import Derived.RowKit
import Derived.RowKit3
import Derived.Shelf.Abstract
import Derived.Tactics
import Derived.WalkKit
import Derived.WideLaws
import Derived.Test.YtmpondcccbmlhaaGreatProg
import Derived.Test.YtmpondcccbmlhaaGreatzM0
import Derived.Test.YtmpondcccbmlhaaGreatzM1
import Derived.Test.YtmpondcccbmlhaaGreatzM2
import Derived.Test.YtmpondcccbmlhaaGreatzM3
import Derived.Test.YtmpondcccbmlhaaGreatzM4
import Derived.Test.YtmpondcccbmlhaaGreatzM5
import Derived.Test.YtmpondcccbmlhaaGreatzM6
import Derived.Test.YtmpondcccbmlhaaGreatzM7
import Derived.Test.YtmpondcccbmlhaaGreatzM8
import Derived.Test.YtmpondcccbmlhaaGreatzM9
import Derived.Test.YtmpondcccbmlhaaGreatzM10
import Derived.Test.YtmpondcccbmlhaaGreatzM33
import Derived.Test.YtmpondcccbmlhaaGreatzM34
namespace Go.Proofs.YtmpondcccbmlhaaGreat.Ext
open Go.RowKit Go.Proofs.YtmpondcccbmlhaaGreatW.PrintWords Go.Proofs.YtmpondcccbmlhaaGreatW.PrintLast Go.Proofs.YtmpondcccbmlhaaGreatW.PrintMore
def updP (b : Int) (l : List Int) (i : Nat) : List Int := l.set (i + 1) (wrap64 (l.getD (i + 1) 0 + wrap64 (b * l.getD i 0)))
def innerTo (b : Int) (l : List Int) : Nat → List Int
  | 0 => l
  | j + 1 => updP b (innerTo b l j) j
def outTo (b : Int) (p : List Int) : Nat → List Int
  | 0 => p
  | m + 1 => innerTo b (outTo b p m) (p.length - 1 - m)
def shiftP (p : List Int) (b : Int) : List Int := outTo b p (p.length - 1)
theorem updP_len (b : Int) (l : List Int) (i : Nat) : (updP b l i).length = l.length := List.length_set
theorem innerTo_len (b : Int) (l : List Int) (j : Nat) : (innerTo b l j).length = l.length := by
  induction j with
  | zero => rfl
  | succ j ih => rw [innerTo, updP_len, ih]
theorem outTo_len (b : Int) (p : List Int) (m : Nat) : (outTo b p m).length = p.length := by
  induction m with
  | zero => rfl
  | succ m ih => rw [outTo, innerTo_len, ih]
theorem shiftP_len (p : List Int) (b : Int) : (shiftP p b).length = p.length := outTo_len _ _ _
theorem wrap_of {x y : Int} (k : Int) (h : x = y + 18446744073709551616 * k) : wrap64 x = wrap64 y := by unfold wrap64; omega
theorem wrap_to (x : Int) : ∃ k : Int, wrap64 x = x + 18446744073709551616 * k := ⟨-((x + 9223372036854775808) / 18446744073709551616), by unfold wrap64; omega⟩
theorem wrap_addr (x y : Int) : wrap64 (x + wrap64 y) = wrap64 (x + y) := by
  obtain ⟨k, h⟩ := wrap_to y
  exact wrap_of k (by rw [h]; omega)
theorem wrap_addl (x y : Int) : wrap64 (wrap64 x + y) = wrap64 (x + y) := by
  obtain ⟨k, h⟩ := wrap_to x
  exact wrap_of k (by rw [h]; omega)
theorem wrap_mulr (x y : Int) : wrap64 (x * wrap64 y) = wrap64 (x * y) := by
  obtain ⟨k, h⟩ := wrap_to y
  exact wrap_of (x * k) (by rw [h, Int.mul_add, Int.mul_left_comm])
theorem wrap_add_mul (x b y : Int) : wrap64 (x + b * wrap64 y) = wrap64 (x + b * y) := by
  obtain ⟨k, h⟩ := wrap_to y
  exact wrap_of (b * k) (by rw [h, Int.mul_add, Int.mul_left_comm b]; omega)
theorem wrap_wrap (x : Int) : wrap64 (wrap64 x) = wrap64 x := by
  obtain ⟨k, h⟩ := wrap_to x
  exact wrap_of k h
def mulTo (b : Int) (out : List Int) : Nat → List Int
  | 0 => out ++ [0]
  | k + 1 => (mulTo b out k).set (k + 1) (wrap64 ((mulTo b out k).getD (k + 1) 0 + wrap64 (b * out.getD k 0)))
def refTo (b : Int) (p : List Int) : Nat → List Int
  | 0 => [p.getD 0 0]
  | i + 1 => (mulTo b (refTo b p i) (refTo b p i).length).set (i + 1) (wrap64 ((mulTo b (refTo b p i) (refTo b p i).length).getD (i + 1) 0 + p.getD (i + 1) 0))
def refShift (p : List Int) (b : Int) : List Int := refTo b p (p.length - 1)
theorem mulTo_len (b : Int) (out : List Int) (k : Nat) : (mulTo b out k).length = out.length + 1 := by
  induction k with
  | zero => simp [mulTo]
  | succ k ih => rw [mulTo, List.length_set, ih]
theorem refTo_len (b : Int) (p : List Int) (i : Nat) : (refTo b p i).length = i + 1 := by
  induction i with
  | zero => rfl
  | succ i ih => rw [refTo, List.length_set, mulTo_len, ih]
theorem cons_w {x y : Int} {l m : List Int} (h : x = y) (t : l = m) : wrap64 x :: l = wrap64 y :: m := by rw [h, t]
set_option linter.unusedSimpArgs false in
set_option maxRecDepth 10000 in
theorem shift_ref {p : List Int} (h2 : 2 ≤ p.length) (h5 : p.length ≤ 5) (b : Int) : shiftP p b = refShift p b := by
  match p, h2, h5 with
  | [a0, a1], _, _ =>
    simp only [shiftP, outTo, innerTo, updP, refShift, refTo, mulTo, List.length_cons, List.length_nil, List.length_append, List.length_set, Nat.reduceAdd, Nat.reduceSub, List.set_cons_zero, List.set_cons_succ, List.cons_append, List.nil_append, List.getD_cons_zero, List.getD_cons_succ, Int.zero_add, wrap_addr, wrap_addl, wrap_mulr, wrap_add_mul, wrap_wrap, Int.mul_add]
    exact congrArg (a0 :: ·) (cons_w (by omega) rfl)
  | [a0, a1, a2], _, _ =>
    simp only [shiftP, outTo, innerTo, updP, refShift, refTo, mulTo, List.length_cons, List.length_nil, List.length_append, List.length_set, Nat.reduceAdd, Nat.reduceSub, List.set_cons_zero, List.set_cons_succ, List.cons_append, List.nil_append, List.getD_cons_zero, List.getD_cons_succ, Int.zero_add, wrap_addr, wrap_addl, wrap_mulr, wrap_add_mul, wrap_wrap, Int.mul_add]
    exact congrArg (a0 :: ·) (cons_w (by omega) (cons_w (by omega) rfl))
  | [a0, a1, a2, a3], _, _ =>
    simp only [shiftP, outTo, innerTo, updP, refShift, refTo, mulTo, List.length_cons, List.length_nil, List.length_append, List.length_set, Nat.reduceAdd, Nat.reduceSub, List.set_cons_zero, List.set_cons_succ, List.cons_append, List.nil_append, List.getD_cons_zero, List.getD_cons_succ, Int.zero_add, wrap_addr, wrap_addl, wrap_mulr, wrap_add_mul, wrap_wrap, Int.mul_add]
    exact congrArg (a0 :: ·) (cons_w (by omega) (cons_w (by omega) (cons_w (by omega) rfl)))
  | [a0, a1, a2, a3, a4], _, _ =>
    simp only [shiftP, outTo, innerTo, updP, refShift, refTo, mulTo, List.length_cons, List.length_nil, List.length_append, List.length_set, Nat.reduceAdd, Nat.reduceSub, List.set_cons_zero, List.set_cons_succ, List.cons_append, List.nil_append, List.getD_cons_zero, List.getD_cons_succ, Int.zero_add, wrap_addr, wrap_addl, wrap_mulr, wrap_add_mul, wrap_wrap, Int.mul_add]
    exact congrArg (a0 :: ·) (cons_w (by omega) (cons_w (by omega) (cons_w (by omega) (cons_w (by omega) rfl))))
end Go.Proofs.YtmpondcccbmlhaaGreat.Ext
namespace Go.Proofs.YtmpondcccbmlhaaGreat.Ext
open Go Go.RowKit Go.Shelf Go.Proofs.YtmpondcccbmlhaaGreatW.PrintWords Go.Proofs.YtmpondcccbmlhaaGreatW.PrintLast Go.Proofs.YtmpondcccbmlhaaGreatW.PrintMore
set_option linter.unusedVariables false
def shiftT : Bool × List (List Nat × List Nat) := (true, [([], []), ([], []), ([0, 1], [0, 1]), ([2], [2]), ([], []), ([], []), ([], []), ([6], [6]), ([5, 7], [5, 7]), ([8], [8]), ([4, 9], [4, 9]), ([3, 10], [3, 10]), ([0, 1, 0, 1, 2, 3, 4, 5, 6, 7, 8, 9, 10, 11], [0, 1]), ([12, 11, 0, 1, 2, 3, 4, 5, 6, 7, 8, 9, 10, 11], [11, 12])])
def shiftB : List Nat := [0, 0, 3, 7, 0, 0, 0, 64, 224, 480, 1008, 2047, 3, 8191]
theorem shift_tab : rtab .any (opsOf Tryz.f149 8) = shiftT := by kernel_rfl
theorem shift_bits : waitsOk shiftT.2 shiftB = true := by kernel_rfl
set_option linter.unusedSimpArgs false in
set_option maxHeartbeats 4000000 in
set_option maxRecDepth 100000 in
theorem shift_region (g len cap j : Nat) (b y z : Int) (wr : World) {t0 t2 t3 t4 t6 t8 t9 t10 t11 t12 t13 t14 t15 t16 t17 t18 t19 t20 t21 t22 t23 t24 t25 t26 t27 t28 t29 t30 t31 t32 t33 t34 t35 : Value} {QQ : Exit → Act → World → Prop} (hj : j + 1 < len) (hlen : len ≤ 1000)
    (hy : wr.cell? ⟨g, j + 1, none⟩ = some (.int .i64 y)) (hz : wr.cell? ⟨g, j, none⟩ = some (.int .i64 z)) (hf : wr.frozen? ⟨g, j + 1, none⟩ = false)
    (hP : ∀ c (t t' : Array Value) d w, QQ (.panic c) ⟨t, d⟩ w → QQ (.panic c) ⟨t', d⟩ w) (hQ : ∀ (u22 u23 u24 u25 u26 u27 u28 u29 u30 u31 u32 u33 u34 : Value), QQ .normal { tmps := (t0 :: Value.int .i64 b :: t2 :: t3 :: t4 :: Value.slice (some ⟨g, 0, none⟩) len cap :: t6 :: Value.int .i64 ((j : Int) + 1) :: t8 :: t9 :: t10 :: t11 :: t12 :: t13 :: t14 :: t15 :: t16 :: t17 :: t18 :: t19 :: t20 :: t21 :: u22 :: u23 :: u24 :: u25 :: u26 :: u27 :: u28 :: u29 :: u30 :: u31 :: u32 :: u33 :: u34 :: t35 :: []).toArray, defers := [] } (wr.drew.setCell ⟨g, j + 1, none⟩ (.int .i64 (wrap64 (y + wrap64 (b * z)))))) :
    Code.wp Tryz.prog (Code.region 8 #[{ dst := some 22, op := Op.move (Operand.tmp 5), type := 22, pos := "governor.go:287", after := #[], guard := none }, { dst := some 23, op := Op.move (Operand.tmp 7), type := 3, pos := "governor.go:287", after := #[], guard := none }, { dst := some 24, op := Op.indexAddr 22 (Operand.tmp 22) (Operand.tmp 23), type := 0, pos := "governor.go:287", after := #[{ on := 0, ground := Ground.data }, { on := 1, ground := Ground.data }], guard := none }, { dst := some 25, op := Op.load 3 (Operand.tmp 24), type := 3, pos := "governor.go:287", after := #[{ on := 2, ground := Ground.data }], guard := none }, { dst := some 26, op := Op.move (Operand.tmp 1), type := 3, pos := "governor.go:287", after := #[], guard := none }, { dst := some 27, op := Op.move (Operand.tmp 5), type := 22, pos := "governor.go:287", after := #[], guard := none }, { dst := some 28, op := Op.move (Operand.tmp 7), type := 3, pos := "governor.go:287", after := #[], guard := none }, { dst := some 29, op := Op.binOp BinOp.sub 3 (Operand.tmp 28) (Operand.const (Value.int IntKind.i64 1)) 3, type := 3, pos := "governor.go:287", after := #[{ on := 6, ground := Ground.data }], guard := none }, { dst := some 30, op := Op.indexAddr 22 (Operand.tmp 27) (Operand.tmp 29), type := 0, pos := "governor.go:287", after := #[{ on := 5, ground := Ground.data }, { on := 7, ground := Ground.data }], guard := none }, { dst := some 31, op := Op.load 3 (Operand.tmp 30), type := 3, pos := "governor.go:287", after := #[{ on := 8, ground := Ground.data }], guard := none }, { dst := some 32, op := Op.binOp BinOp.mul 3 (Operand.tmp 26) (Operand.tmp 31) 3, type := 3, pos := "governor.go:287", after := #[{ on := 4, ground := Ground.data }, { on := 9, ground := Ground.data }], guard := none }, { dst := some 33, op := Op.binOp BinOp.add 3 (Operand.tmp 25) (Operand.tmp 32) 3, type := 3, pos := "governor.go:287", after := #[{ on := 3, ground := Ground.data }, { on := 10, ground := Ground.data }], guard := none }, { dst := some 34, op := Op.indexAddr 22 (Operand.tmp 22) (Operand.tmp 23), type := 0, pos := "governor.go:287", after := #[{ on := 0, ground := Ground.data }, { on := 1, ground := Ground.data }, { on := 0, ground := Ground.phase }, { on := 1, ground := Ground.phase }, { on := 2, ground := Ground.phase }, { on := 3, ground := Ground.phase }, { on := 4, ground := Ground.phase }, { on := 5, ground := Ground.phase }, { on := 6, ground := Ground.phase }, { on := 7, ground := Ground.phase }, { on := 8, ground := Ground.phase }, { on := 9, ground := Ground.phase }, { on := 10, ground := Ground.phase }, { on := 11, ground := Ground.phase }], guard := none }, { dst := none, op := Op.store 3 (Operand.tmp 34) (Operand.tmp 33), type := 0, pos := "governor.go:287", after := #[{ on := 12, ground := Ground.data }, { on := 11, ground := Ground.data }, { on := 0, ground := Ground.phase }, { on := 1, ground := Ground.phase }, { on := 2, ground := Ground.phase }, { on := 3, ground := Ground.phase }, { on := 4, ground := Ground.phase }, { on := 5, ground := Ground.phase }, { on := 6, ground := Ground.phase }, { on := 7, ground := Ground.phase }, { on := 8, ground := Ground.phase }, { on := 9, ground := Ground.phase }, { on := 10, ground := Ground.phase }, { on := 11, ground := Ground.phase }], guard := none }] true) QQ { tmps := (t0 :: Value.int .i64 b :: t2 :: t3 :: t4 :: Value.slice (some ⟨g, 0, none⟩) len cap :: t6 :: Value.int .i64 ((j : Int) + 1) :: t8 :: t9 :: t10 :: t11 :: t12 :: t13 :: t14 :: t15 :: t16 :: t17 :: t18 :: t19 :: t20 :: t21 :: t22 :: t23 :: t24 :: t25 :: t26 :: t27 :: t28 :: t29 :: t30 :: t31 :: t32 :: t33 :: t34 :: t35 :: []).toArray, defers := [] } wr := by
  have HY := Lib.hid (show wr.drew.cell? ⟨g, j + 1, none⟩ = some (.int .i64 y) from hy)
  have HZ := Lib.hid (show wr.drew.cell? ⟨g, j, none⟩ = some (.int .i64 z) from hz)
  have HF := Lib.hid (show wr.drew.frozen? ⟨g, j + 1, none⟩ = false from hf)
  have HQ := Lib.hid hQ
  have HPP := Lib.hid hP
  have hj1 : (j : Int) + 1 < (len : Int) := by omega
  have hj2 : (j : Int) < (len : Int) := by omega
  have hj0 : (0 : Int) ≤ (j : Int) + 1 := by omega
  have hw : IntKind.i64.wrap ((j : Int) + 1 - 1) = (j : Int) := by rw [i64_w, w64 (by omega) (by omega)]; omega
  have hw2 : IntKind.i64.wrap (j : Int) = (j : Int) := by rw [i64_w, w64 (by omega) (by omega)]
  have hw3 : wrap64 (j : Int) = (j : Int) := by rw [w64 (by omega) (by omega)]
  clear hy hz hf hQ hP hj hlen
  refine start_ (n := 14) (S := fun w' => w'.cell? ⟨g, j + 1, none⟩ = some (.int .i64 y) ∧ w'.cell? ⟨g, j, none⟩ = some (.int .i64 z)) (ds := [13]) #[false, false, false, false, false, false, false, false, false, false, false, false, false, false] (by kernel_rfl) rfl rfl ⟨HY.out, HZ.out⟩ (fun hHeld => ?_); refine with_tabW shift_tab shift_bits (fun HT_ HW_ => ?_)
  refine pure_ (i := 0) (N := some 22) (v := ?_) (a' := ?_) #[true, false, false, false, false, false, false, false, false, false, false, false, false, false] rfl rfl (any_of HT_.out (by kernel_rfl)) (fun _ _ _ h => HPP.out _ _ _ _ _ h) (Or.inl ⟨by rfl, ?_⟩) ?_ ?_
  rotate_left
  · intro w'
    go_simp
    with_reducible rfl
  rotate_left
  · simp only [Act.put, List.setIfInBounds_toArray, List.set_cons_zero, List.set_cons_succ, i64_w]
    rfl
  refine pure_ (i := 1) (N := some 23) (v := ?_) (a' := ?_) #[true, true, false, false, false, false, false, false, false, false, false, false, false, false] rfl rfl (any_of HT_.out (by kernel_rfl)) (fun _ _ _ h => HPP.out _ _ _ _ _ h) (Or.inl ⟨by rfl, ?_⟩) ?_ ?_
  rotate_left
  · intro w'
    go_simp
    with_reducible rfl
  rotate_left
  · simp only [Act.put, List.setIfInBounds_toArray, List.set_cons_zero, List.set_cons_succ, i64_w]
    rfl
  refine pure_ (i := 2) (N := some 24) (v := ?_) (a' := ?_) #[true, true, true, false, false, false, false, false, false, false, false, false, false, false] rfl rfl (any_of HT_.out (by kernel_rfl)) (fun _ _ _ h => HPP.out _ _ _ _ _ h) (Or.inl ⟨by rfl, ?_⟩) ?_ ?_
  rotate_left
  · intro w'
    go_simp
    with_reducible rfl
  rotate_left
  · simp only [Act.put, List.setIfInBounds_toArray, List.set_cons_zero, List.set_cons_succ, i64_w]
    rfl
  refine pure_ (i := 4) (N := some 26) (v := ?_) (a' := ?_) #[true, true, true, false, true, false, false, false, false, false, false, false, false, false] rfl rfl (any_of HT_.out (by kernel_rfl)) (fun _ _ _ h => HPP.out _ _ _ _ _ h) (Or.inl ⟨by rfl, ?_⟩) ?_ ?_
  rotate_left
  · intro w'
    go_simp
    with_reducible rfl
  rotate_left
  · simp only [Act.put, List.setIfInBounds_toArray, List.set_cons_zero, List.set_cons_succ, i64_w]
    rfl
  refine pure_ (i := 5) (N := some 27) (v := ?_) (a' := ?_) #[true, true, true, false, true, true, false, false, false, false, false, false, false, false] rfl rfl (any_of HT_.out (by kernel_rfl)) (fun _ _ _ h => HPP.out _ _ _ _ _ h) (Or.inl ⟨by rfl, ?_⟩) ?_ ?_
  rotate_left
  · intro w'
    go_simp
    with_reducible rfl
  rotate_left
  · simp only [Act.put, List.setIfInBounds_toArray, List.set_cons_zero, List.set_cons_succ, i64_w]
    rfl
  refine pure_ (i := 6) (N := some 28) (v := ?_) (a' := ?_) #[true, true, true, false, true, true, true, false, false, false, false, false, false, false] rfl rfl (any_of HT_.out (by kernel_rfl)) (fun _ _ _ h => HPP.out _ _ _ _ _ h) (Or.inl ⟨by rfl, ?_⟩) ?_ ?_
  rotate_left
  · intro w'
    go_simp
    with_reducible rfl
  rotate_left
  · simp only [Act.put, List.setIfInBounds_toArray, List.set_cons_zero, List.set_cons_succ, i64_w]
    rfl
  refine pure_ (i := 7) (N := some 29) (v := ?_) (a' := ?_) #[true, true, true, false, true, true, true, true, false, false, false, false, false, false] rfl rfl (any_of HT_.out (by kernel_rfl)) (fun _ _ _ h => HPP.out _ _ _ _ _ h) (Or.inl ⟨by rfl, ?_⟩) ?_ ?_
  rotate_left
  · intro w'
    go_simp
    with_reducible rfl
  rotate_left
  · simp only [Act.put, List.setIfInBounds_toArray, List.set_cons_zero, List.set_cons_succ, i64_w]
    rfl
  refine pure_ (i := 8) (N := some 30) (v := ?_) (a' := ?_) #[true, true, true, false, true, true, true, true, true, false, false, false, false, false] rfl rfl (any_of HT_.out (by kernel_rfl)) (fun _ _ _ h => HPP.out _ _ _ _ _ h) (Or.inl ⟨by rfl, ?_⟩) ?_ ?_
  rotate_left
  · intro w'
    go_simp
    with_reducible rfl
  rotate_left
  · simp only [Act.put, List.setIfInBounds_toArray, List.set_cons_zero, List.set_cons_succ, i64_w]
    rfl
  refine take_ (i := 3) (N := some 25) (v := ?_) (a' := ?_) #[true, true, true, true, true, true, true, true, true, false, false, false, false, false] rfl rfl (take_ofW HT_.out HW_.out (by kernel_rfl)) (fun _ _ _ h => HPP.out _ _ _ _ _ h) (Or.inl ⟨by rfl, ?_⟩) hHeld ?_ ?_
  rotate_left
  · rintro w' ⟨s0, s1⟩
    go_simp
    with_reducible rfl
  rotate_left
  · simp only [Act.put, List.setIfInBounds_toArray, List.set_cons_zero, List.set_cons_succ, i64_w]
    rfl
  refine take_ (i := 9) (N := some 31) (v := ?_) (a' := ?_) #[true, true, true, true, true, true, true, true, true, true, false, false, false, false] rfl rfl (take_ofW HT_.out HW_.out (by kernel_rfl)) (fun _ _ _ h => HPP.out _ _ _ _ _ h) (Or.inl ⟨by rfl, ?_⟩) hHeld ?_ ?_
  rotate_left
  · rintro w' ⟨s0, s1⟩
    go_simp
    with_reducible rfl
  rotate_left
  · simp only [Act.put, List.setIfInBounds_toArray, List.set_cons_zero, List.set_cons_succ, i64_w]
    rfl
  refine pure_ (i := 10) (N := some 32) (v := ?_) (a' := ?_) #[true, true, true, true, true, true, true, true, true, true, true, false, false, false] rfl rfl (any_of HT_.out (by kernel_rfl)) (fun _ _ _ h => HPP.out _ _ _ _ _ h) (Or.inl ⟨by rfl, ?_⟩) ?_ ?_
  rotate_left
  · intro w'
    go_simp
    with_reducible rfl
  rotate_left
  · simp only [Act.put, List.setIfInBounds_toArray, List.set_cons_zero, List.set_cons_succ, i64_w]
    rfl
  refine pure_ (i := 11) (N := some 33) (v := ?_) (a' := ?_) #[true, true, true, true, true, true, true, true, true, true, true, true, false, false] rfl rfl (any_of HT_.out (by kernel_rfl)) (fun _ _ _ h => HPP.out _ _ _ _ _ h) (Or.inl ⟨by rfl, ?_⟩) ?_ ?_
  rotate_left
  · intro w'
    go_simp
    with_reducible rfl
  rotate_left
  · simp only [Act.put, List.setIfInBounds_toArray, List.set_cons_zero, List.set_cons_succ, i64_w]
    rfl
  refine pure_ (i := 12) (N := some 34) (v := ?_) (a' := ?_) #[true, true, true, true, true, true, true, true, true, true, true, true, true, false] rfl rfl (any_of HT_.out (by kernel_rfl)) (fun _ _ _ h => HPP.out _ _ _ _ _ h) (Or.inl ⟨by rfl, ?_⟩) ?_ ?_
  rotate_left
  · intro w'
    go_simp
    with_reducible rfl
  rotate_left
  · simp only [Act.put, List.setIfInBounds_toArray, List.set_cons_zero, List.set_cons_succ, i64_w]
    rfl
  refine last_ (i := 13) (N := none) #[true, true, true, true, true, true, true, true, true, true, true, true, true, true] rfl rfl (one_of HT_.out (by kernel_rfl)) (by decide) (fun K hK => ?_)
  have hfz := HF.out
  have hyy := HY.out
  refine skip_ (w1 := ?_) (by rfl) rfl ?_ ?_
  rotate_left
  · go_simp
    rfl
  refine hK.out _ _ ?_
  clear hK K
  refine done_ (done_of HT_.out (by kernel_rfl)) ?_
  exact HQ.out _ _ _ _ _ _ _ _ _ _ _ _ _
end Go.Proofs.YtmpondcccbmlhaaGreat.Ext
