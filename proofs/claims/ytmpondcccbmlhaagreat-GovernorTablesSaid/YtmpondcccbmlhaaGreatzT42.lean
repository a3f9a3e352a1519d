/- A part of the claim T: the texts Rrg, ExX, without what the claim does not lean on. -/
import Derived.Test.YtmpondcccbmlhaaGreatzT20
namespace Go.Proofs.YtmpondcccbmlhaaGreat.Ext
open Go Go.RowKit Go.Shelf Go.Proofs.YtmpondcccbmlhaaGreatW.PrintWords Go.Proofs.YtmpondcccbmlhaaGreatW.PrintLast Go.Proofs.YtmpondcccbmlhaaGreatW.PrintMore
set_option linter.unusedVariables false
def tableT : Bool × List (List Nat × List Nat) := (true, [([], []), ([], []), ([1], [1]), ([2], [2]), ([], []), ([], []), ([5], [5]), ([4, 6], [4, 6]), ([3, 7], [3, 7]), ([], []), ([9], [9]), ([10], [10]), ([], []), ([], []), ([13], [13]), ([12, 14, 7], [12, 14]), ([11, 15], [11, 15]), ([8, 16], [8, 16]), ([17], [17]), ([0, 18, 15], [0, 18]), ([19, 19, 0, 1, 2, 3, 4, 5, 6, 7, 8, 9, 10, 11, 12, 13, 14, 15, 16, 17, 18, 19], [0, 19])])
def tableB : List Nat := [0, 0, 2, 6, 0, 0, 32, 112, 254, 0, 512, 1536, 0, 0, 8192, 28672, 65024, 131070, 262142, 524287, 1048575]
theorem table_tab : rtab .any (opsOf Tryz.f66 20) = tableT := by kernel_rfl
theorem table_bits : waitsOk tableT.2 tableB = true := by kernel_rfl
set_option linter.unusedSimpArgs false in
set_option maxHeartbeats 4000000 in
set_option maxRecDepth 100000 in
theorem row_region (X Y : List Int) (adi adj : Addr) (ci cj : Nat) (x0 y0 : Int) (j : Nat) (acc : List Int) (vo : Value) (wr W6 : World) {t0 t1 t2 t3 t4 t5 t6 t7 t8 t13 t14 t15 t16 t17 t18 t19 t20 t21 t22 t23 t24 t25 t26 t27 t28 t29 t30 t31 t32 t33 t34 t35 t36 t37 t38 t39 t40 t41 t42 t43 t44 t45 t46 t47 t48 t49 t50 t51 t52 t53 t54 t55 t56 t57 t58 t59 t60 t61 t62 t63 t64 t65 t66 t67 t68 t69 t70 t71 t72 t73 t74 t75 t76 t77 t78 t99 t100 t101 t102 t103 t104 t79 t80 t81 t82 t83 t84 t85 t86 t87 t88 t89 t90 t91 t92 t93 t94 t95 t96 t97 t98 : Value} {QQ : Exit → Act → World → Prop}
  (hX0 : W6.cell? adi = some (.int .i64 x0)) (hY0 : W6.cell? adj = some (.int .i64 y0)) (hCX : Kd.C (Kd.int .i64) W6 (some adi) X.length X) (hCY : Kd.C (Kd.int .i64) W6 (some adj) Y.length Y) (hCL : X.length ≤ ci) (hDL : Y.length ≤ cj)
  (hx : 0 < X.length) (hy : 0 < Y.length) (hacc : acc.length ≤ 1000) (hj : j ≤ 1000) (hO : Kd.R (Kd.int .i64) 3 wr W6.heap.size (fun _ => True) vo acc) (hBq : Below W6.heap.size W6 wr)
  (hP : ∀ c (t t' : Array Value) d w, QQ (.panic c) ⟨t, d⟩ w → QQ (.panic c) ⟨t', d⟩ w) (hQ : ∀ (v1 : Value) (w9 : World) (u79 u80 u81 u82 u83 u84 u85 u86 u87 u88 u89 u90 u91 u92 u93 u94 u95 u96 u97 u98 : Value), Kd.R (Kd.int .i64) 3 w9 W6.heap.size (fun _ => True) v1 (acc ++ [(wrap64 (wrap64 (x0 * ent Y (j + 1)) - wrap64 (y0 * ent X (j + 1))))]) → Below W6.heap.size W6 w9 → QQ .normal { tmps := (t0 :: t1 :: t2 :: t3 :: t4 :: t5 :: t6 :: t7 :: t8 :: v1 :: Value.slice (some adi) X.length ci :: Value.slice (some adj) Y.length cj :: Value.int .i64 (j : Int) :: t13 :: t14 :: t15 :: t16 :: t17 :: t18 :: t19 :: t20 :: t21 :: t22 :: t23 :: t24 :: t25 :: t26 :: t27 :: t28 :: t29 :: t30 :: t31 :: t32 :: t33 :: t34 :: t35 :: t36 :: t37 :: t38 :: t39 :: t40 :: t41 :: t42 :: t43 :: t44 :: t45 :: t46 :: t47 :: t48 :: t49 :: t50 :: t51 :: t52 :: t53 :: t54 :: t55 :: t56 :: t57 :: t58 :: t59 :: t60 :: t61 :: t62 :: t63 :: t64 :: t65 :: t66 :: t67 :: t68 :: t69 :: t70 :: t71 :: t72 :: t73 :: t74 :: t75 :: t76 :: t77 :: t78 :: u79 :: u80 :: u81 :: u82 :: u83 :: u84 :: u85 :: u86 :: u87 :: u88 :: u89 :: u90 :: u91 :: u92 :: u93 :: u94 :: u95 :: u96 :: u97 :: u98 :: t99 :: t100 :: t101 :: t102 :: t103 :: t104 :: []).toArray, defers := [] } w9) :
  Code.wp Tryz.prog (Code.region 20 #[{ dst := some 79, op := Op.move (Operand.tmp 9), type := 22, pos := "ref.go:207", after := #[], guard := none }, { dst := some 80, op := Op.move (Operand.tmp 10), type := 22, pos := "ref.go:207", after := #[], guard := none }, { dst := some 81, op := Op.indexAddr 22 (Operand.tmp 80) (Operand.const (Value.int IntKind.i64 0)), type := 0, pos := "ref.go:207", after := #[{ on := 1, ground := Ground.data }], guard := none }, { dst := some 82, op := Op.load 3 (Operand.tmp 81), type := 3, pos := "ref.go:207", after := #[{ on := 2, ground := Ground.data }], guard := none }, { dst := some 83, op := Op.move (Operand.tmp 11), type := 22, pos := "ref.go:207", after := #[], guard := none }, { dst := some 84, op := Op.move (Operand.tmp 12), type := 3, pos := "ref.go:207", after := #[], guard := none }, { dst := some 85, op := Op.binOp BinOp.add 3 (Operand.tmp 84) (Operand.const (Value.int IntKind.i64 1)) 3, type := 3, pos := "ref.go:207", after := #[{ on := 5, ground := Ground.data }], guard := none }, { dst := some 86, op := Op.call { callee := Callee.value (Operand.func 134), args := #[Operand.tmp 83, Operand.tmp 85], argTypes := #[22, 3] }, type := 3, pos := "ref.go:207", after := #[{ on := 4, ground := Ground.data }, { on := 6, ground := Ground.data }], guard := none }, { dst := some 87, op := Op.binOp BinOp.mul 3 (Operand.tmp 82) (Operand.tmp 86) 3, type := 3, pos := "ref.go:207", after := #[{ on := 3, ground := Ground.data }, { on := 7, ground := Ground.data }], guard := none }, { dst := some 88, op := Op.move (Operand.tmp 11), type := 22, pos := "ref.go:207", after := #[], guard := none }, { dst := some 89, op := Op.indexAddr 22 (Operand.tmp 88) (Operand.const (Value.int IntKind.i64 0)), type := 0, pos := "ref.go:207", after := #[{ on := 9, ground := Ground.data }], guard := none }, { dst := some 90, op := Op.load 3 (Operand.tmp 89), type := 3, pos := "ref.go:207", after := #[{ on := 10, ground := Ground.data }], guard := none }, { dst := some 91, op := Op.move (Operand.tmp 10), type := 22, pos := "ref.go:207", after := #[], guard := none }, { dst := some 92, op := Op.move (Operand.tmp 12), type := 3, pos := "ref.go:207", after := #[], guard := none }, { dst := some 93, op := Op.binOp BinOp.add 3 (Operand.tmp 92) (Operand.const (Value.int IntKind.i64 1)) 3, type := 3, pos := "ref.go:207", after := #[{ on := 13, ground := Ground.data }], guard := none }, { dst := some 94, op := Op.call { callee := Callee.value (Operand.func 134), args := #[Operand.tmp 91, Operand.tmp 93], argTypes := #[22, 3] }, type := 3, pos := "ref.go:207", after := #[{ on := 12, ground := Ground.data }, { on := 14, ground := Ground.data }, { on := 7, ground := Ground.chain }], guard := none }, { dst := some 95, op := Op.binOp BinOp.mul 3 (Operand.tmp 90) (Operand.tmp 94) 3, type := 3, pos := "ref.go:207", after := #[{ on := 11, ground := Ground.data }, { on := 15, ground := Ground.data }], guard := none }, { dst := some 96, op := Op.binOp BinOp.sub 3 (Operand.tmp 87) (Operand.tmp 95) 3, type := 3, pos := "ref.go:207", after := #[{ on := 8, ground := Ground.data }, { on := 16, ground := Ground.data }], guard := none }, { dst := some 97, op := Op.buildSlice 22 1 #[(0, Operand.tmp 96)], type := 22, pos := "ref.go:207", after := #[{ on := 17, ground := Ground.data }], guard := none }, { dst := some 98, op := Op.call { callee := Callee.builtin Builtin.append, args := #[Operand.tmp 79, Operand.tmp 97], argTypes := #[22, 22] }, type := 22, pos := "ref.go:207", after := #[{ on := 0, ground := Ground.data }, { on := 18, ground := Ground.data }, { on := 15, ground := Ground.chain }], guard := none }, { dst := some 9, op := Op.assign (Operand.tmp 98), type := 22, pos := "ref.go:207", after := #[{ on := 19, ground := Ground.data }, { on := 19, ground := Ground.chain }, { on := 0, ground := Ground.phase }, { on := 1, ground := Ground.phase }, { on := 2, ground := Ground.phase }, { on := 3, ground := Ground.phase }, { on := 4, ground := Ground.phase }, { on := 5, ground := Ground.phase }, { on := 6, ground := Ground.phase }, { on := 7, ground := Ground.phase }, { on := 8, ground := Ground.phase }, { on := 9, ground := Ground.phase }, { on := 10, ground := Ground.phase }, { on := 11, ground := Ground.phase }, { on := 12, ground := Ground.phase }, { on := 13, ground := Ground.phase }, { on := 14, ground := Ground.phase }, { on := 15, ground := Ground.phase }, { on := 16, ground := Ground.phase }, { on := 17, ground := Ground.phase }, { on := 18, ground := Ground.phase }, { on := 19, ground := Ground.phase }], guard := none }] true) QQ { tmps := (t0 :: t1 :: t2 :: t3 :: t4 :: t5 :: t6 :: t7 :: t8 :: vo :: Value.slice (some adi) X.length ci :: Value.slice (some adj) Y.length cj :: Value.int .i64 (j : Int) :: t13 :: t14 :: t15 :: t16 :: t17 :: t18 :: t19 :: t20 :: t21 :: t22 :: t23 :: t24 :: t25 :: t26 :: t27 :: t28 :: t29 :: t30 :: t31 :: t32 :: t33 :: t34 :: t35 :: t36 :: t37 :: t38 :: t39 :: t40 :: t41 :: t42 :: t43 :: t44 :: t45 :: t46 :: t47 :: t48 :: t49 :: t50 :: t51 :: t52 :: t53 :: t54 :: t55 :: t56 :: t57 :: t58 :: t59 :: t60 :: t61 :: t62 :: t63 :: t64 :: t65 :: t66 :: t67 :: t68 :: t69 :: t70 :: t71 :: t72 :: t73 :: t74 :: t75 :: t76 :: t77 :: t78 :: t79 :: t80 :: t81 :: t82 :: t83 :: t84 :: t85 :: t86 :: t87 :: t88 :: t89 :: t90 :: t91 :: t92 :: t93 :: t94 :: t95 :: t96 :: t97 :: t98 :: t99 :: t100 :: t101 :: t102 :: t103 :: t104 :: []).toArray, defers := [] } wr := by
 have HX0 := Lib.hid hX0
 have HY0 := Lib.hid hY0
 have HCX := Lib.hid hCX
 have HCY := Lib.hid hCY
 have HCL := Lib.hid hCL
 have HDL := Lib.hid hDL
 have HO := Lib.hid hO
 have HBq := Lib.hid hBq
 have HQ := Lib.hid hQ
 have HPP := Lib.hid hP
 obtain ⟨vv, hvv⟩ : ∃ vv, vv = (wrap64 (wrap64 (x0 * ent Y (j + 1)) - wrap64 (y0 * ent X (j + 1)))) := ⟨_, rfl⟩
 have HVV := Lib.hid hvv
 have HJ1 : wrap64 ((j : Int) + 1) = ((j + 1 : Nat) : Int) := by rw [w64 (by omega) (by omega)]; omega
 clear hX0 hY0 hCX hCY hCL hDL hO hBq hQ hP hvv
 refine start_ (n := 21) (S := fun w' => w'.cell? adi = some (.int .i64 x0) ∧ w'.cell? adj = some (.int .i64 y0)) (ds := []) #[false, false, false, false, false, false, false, false, false, false, false, false, false, false, false, false, false, false, false, false, false] (by kernel_rfl) rfl rfl ⟨pw_cell_below (bl_drew HBq.out) HX0.out, pw_cell_below (bl_drew HBq.out) HY0.out⟩ (fun hHeld => ?_); refine with_tabW table_tab table_bits (fun HT_ HW_ => ?_)
 refine pure_ (i := 0) (N := some 79) (v := ?_) (a' := ?_) #[true, false, false, false, false, false, false, false, false, false, false, false, false, false, false, false, false, false, false, false, false] rfl rfl (any_of HT_.out (by kernel_rfl)) (fun _ _ _ h => HPP.out _ _ _ _ _ h) (Or.inl ⟨by rfl, ?_⟩) ?_ ?_
 rotate_left
 ·intro w'
  go_simp
  with_reducible rfl
 rotate_left
 ·simp only [Act.put, List.setIfInBounds_toArray, List.set_cons_zero, List.set_cons_succ, i64_w]
  rfl
 refine pure_ (i := 1) (N := some 80) (v := ?_) (a' := ?_) #[true, true, false, false, false, false, false, false, false, false, false, false, false, false, false, false, false, false, false, false, false] rfl rfl (any_of HT_.out (by kernel_rfl)) (fun _ _ _ h => HPP.out _ _ _ _ _ h) (Or.inl ⟨by rfl, ?_⟩) ?_ ?_
 rotate_left
 ·intro w'
  go_simp
  with_reducible rfl
 rotate_left
 ·simp only [Act.put, List.setIfInBounds_toArray, List.set_cons_zero, List.set_cons_succ, i64_w]
  rfl
 refine pure_ (i := 2) (N := some 81) (v := ?_) (a' := ?_) #[true, true, true, false, false, false, false, false, false, false, false, false, false, false, false, false, false, false, false, false, false] rfl rfl (any_of HT_.out (by kernel_rfl)) (fun _ _ _ h => HPP.out _ _ _ _ _ h) (Or.inl ⟨by rfl, ?_⟩) ?_ ?_
 rotate_left
 ·intro w'
  go_simp
  with_reducible rfl
 rotate_left
 ·simp only [Act.put, List.setIfInBounds_toArray, List.set_cons_zero, List.set_cons_succ, i64_w]
  rfl
 refine pure_ (i := 4) (N := some 83) (v := ?_) (a' := ?_) #[true, true, true, false, true, false, false, false, false, false, false, false, false, false, false, false, false, false, false, false, false] rfl rfl (any_of HT_.out (by kernel_rfl)) (fun _ _ _ h => HPP.out _ _ _ _ _ h) (Or.inl ⟨by rfl, ?_⟩) ?_ ?_
 rotate_left
 ·intro w'
  go_simp
  with_reducible rfl
 rotate_left
 ·simp only [Act.put, List.setIfInBounds_toArray, List.set_cons_zero, List.set_cons_succ, i64_w]
  rfl
 refine pure_ (i := 5) (N := some 84) (v := ?_) (a' := ?_) #[true, true, true, false, true, true, false, false, false, false, false, false, false, false, false, false, false, false, false, false, false] rfl rfl (any_of HT_.out (by kernel_rfl)) (fun _ _ _ h => HPP.out _ _ _ _ _ h) (Or.inl ⟨by rfl, ?_⟩) ?_ ?_
 rotate_left
 ·intro w'
  go_simp
  with_reducible rfl
 rotate_left
 ·simp only [Act.put, List.setIfInBounds_toArray, List.set_cons_zero, List.set_cons_succ, i64_w]
  rfl
 refine pure_ (i := 6) (N := some 85) (v := ?_) (a' := ?_) #[true, true, true, false, true, true, true, false, false, false, false, false, false, false, false, false, false, false, false, false, false] rfl rfl (any_of HT_.out (by kernel_rfl)) (fun _ _ _ h => HPP.out _ _ _ _ _ h) (Or.inl ⟨by rfl, ?_⟩) ?_ ?_
 rotate_left
 ·intro w'
  go_simp
  with_reducible rfl
 rotate_left
 ·simp only [Act.put, List.setIfInBounds_toArray, List.set_cons_zero, List.set_cons_succ, i64_w]
  rfl
 refine pure_ (i := 9) (N := some 88) (v := ?_) (a' := ?_) #[true, true, true, false, true, true, true, false, false, true, false, false, false, false, false, false, false, false, false, false, false] rfl rfl (any_of HT_.out (by kernel_rfl)) (fun _ _ _ h => HPP.out _ _ _ _ _ h) (Or.inl ⟨by rfl, ?_⟩) ?_ ?_
 rotate_left
 ·intro w'
  go_simp
  with_reducible rfl
 rotate_left
 ·simp only [Act.put, List.setIfInBounds_toArray, List.set_cons_zero, List.set_cons_succ, i64_w]
  rfl
 refine pure_ (i := 10) (N := some 89) (v := ?_) (a' := ?_) #[true, true, true, false, true, true, true, false, false, true, true, false, false, false, false, false, false, false, false, false, false] rfl rfl (any_of HT_.out (by kernel_rfl)) (fun _ _ _ h => HPP.out _ _ _ _ _ h) (Or.inl ⟨by rfl, ?_⟩) ?_ ?_
 rotate_left
 ·intro w'
  go_simp
  with_reducible rfl
 rotate_left
 ·simp only [Act.put, List.setIfInBounds_toArray, List.set_cons_zero, List.set_cons_succ, i64_w]
  rfl
 refine pure_ (i := 12) (N := some 91) (v := ?_) (a' := ?_) #[true, true, true, false, true, true, true, false, false, true, true, false, true, false, false, false, false, false, false, false, false] rfl rfl (any_of HT_.out (by kernel_rfl)) (fun _ _ _ h => HPP.out _ _ _ _ _ h) (Or.inl ⟨by rfl, ?_⟩) ?_ ?_
 rotate_left
 ·intro w'
  go_simp
  with_reducible rfl
 rotate_left
 ·simp only [Act.put, List.setIfInBounds_toArray, List.set_cons_zero, List.set_cons_succ, i64_w]
  rfl
 refine pure_ (i := 13) (N := some 92) (v := ?_) (a' := ?_) #[true, true, true, false, true, true, true, false, false, true, true, false, true, true, false, false, false, false, false, false, false] rfl rfl (any_of HT_.out (by kernel_rfl)) (fun _ _ _ h => HPP.out _ _ _ _ _ h) (Or.inl ⟨by rfl, ?_⟩) ?_ ?_
 rotate_left
 ·intro w'
  go_simp
  with_reducible rfl
 rotate_left
 ·simp only [Act.put, List.setIfInBounds_toArray, List.set_cons_zero, List.set_cons_succ, i64_w]
  rfl
 refine pure_ (i := 14) (N := some 93) (v := ?_) (a' := ?_) #[true, true, true, false, true, true, true, false, false, true, true, false, true, true, true, false, false, false, false, false, false] rfl rfl (any_of HT_.out (by kernel_rfl)) (fun _ _ _ h => HPP.out _ _ _ _ _ h) (Or.inl ⟨by rfl, ?_⟩) ?_ ?_
 rotate_left
 ·intro w'
  go_simp
  with_reducible rfl
 rotate_left
 ·simp only [Act.put, List.setIfInBounds_toArray, List.set_cons_zero, List.set_cons_succ, i64_w]
  rfl
 refine take_ (i := 3) (N := some 82) (v := ?_) (a' := ?_) #[true, true, true, true, true, true, true, false, false, true, true, false, true, true, true, false, false, false, false, false, false] rfl rfl (take_ofW HT_.out HW_.out (by kernel_rfl)) (fun _ _ _ h => HPP.out _ _ _ _ _ h) (Or.inl ⟨by rfl, ?_⟩) hHeld ?_ ?_
 rotate_left
 ·rintro w' ⟨s0, s1⟩
  go_simp
  with_reducible rfl
 rotate_left
 ·simp only [Act.put, List.setIfInBounds_toArray, List.set_cons_zero, List.set_cons_succ, i64_w]
  rfl
 refine take_ (i := 11) (N := some 90) (v := ?_) (a' := ?_) #[true, true, true, true, true, true, true, false, false, true, true, true, true, true, true, false, false, false, false, false, false] rfl rfl (take_ofW HT_.out HW_.out (by kernel_rfl)) (fun _ _ _ h => HPP.out _ _ _ _ _ h) (Or.inl ⟨by rfl, ?_⟩) hHeld ?_ ?_
 rotate_left
 ·rintro w' ⟨s0, s1⟩
  go_simp
  with_reducible rfl
 rotate_left
 ·simp only [Act.put, List.setIfInBounds_toArray, List.set_cons_zero, List.set_cons_succ, i64_w]
  rfl
 refine one_ (i := 7) (N := some 86) #[true, true, true, true, true, true, true, true, false, true, true, true, true, true, true, false, false, false, false, false, false] rfl rfl (one_of HT_.out (by kernel_rfl)) (by decide) (fun K hK => ?_)
 refine goes_ Tryz.func134 (by kernel_rfl) rfl #[.slice (some adj) (Y).length cj, .int .i64 (wrap64 ((j : Int) + 1))] (by rfl) rfl rfl (by (try simp only [List.map_toArray, List.map_cons, List.map_nil]); first | done | rfl) ?_
 refine (T.gr6_entry.calls (some adj) cj (Y) (wrap64 ((j : Int) + 1)) (ent Y (j + 1)) _ (Kd.C_below HCY.out (bl_drew HBq.out)) (by have := HDL.out; omega) (by rw [show (wrap64 ((j : Int) + 1)) = ((j + 1 : Nat) : Int) from HJ1, rentry_eval])).mono ?_
 rintro e w' ⟨rfl, ⟨nd, rfl⟩⟩
 refine ⟨_, rfl, ?_⟩
 refine hK.out _ _ ⟨pw_cell_below (bl_drewN (bl_drew HBq.out) _) HX0.out, pw_cell_below (bl_drewN (bl_drew HBq.out) _) HY0.out⟩ (fun hHeld => ?_)
 clear hK K
 refine norm_ (a' := ?_) ?_ ?_
 rotate_left
 ·show Act.put _ (some 86) _ = _
  simp only [Act.put, List.setIfInBounds_toArray, List.set_cons_zero, List.set_cons_succ, i64_w]
  rfl
 refine pure_ (i := 8) (N := some 87) (v := ?_) (a' := ?_) #[true, true, true, true, true, true, true, true, true, true, true, true, true, true, true, false, false, false, false, false, false] rfl rfl (any_of HT_.out (by kernel_rfl)) (fun _ _ _ h => HPP.out _ _ _ _ _ h) (Or.inl ⟨by rfl, ?_⟩) ?_ ?_
 rotate_left
 ·intro w'
  go_simp
  with_reducible rfl
 rotate_left
 ·simp only [Act.put, List.setIfInBounds_toArray, List.set_cons_zero, List.set_cons_succ, i64_w]
  rfl
 refine one_ (i := 15) (N := some 94) #[true, true, true, true, true, true, true, true, true, true, true, true, true, true, true, true, false, false, false, false, false] rfl rfl (one_of HT_.out (by kernel_rfl)) (by decide) (fun K hK => ?_)
 refine goes_ Tryz.func134 (by kernel_rfl) rfl #[.slice (some adi) (X).length ci, .int .i64 (wrap64 ((j : Int) + 1))] (by rfl) rfl rfl (by (try simp only [List.map_toArray, List.map_cons, List.map_nil]); first | done | rfl) ?_
 refine (T.gr6_entry.calls (some adi) ci (X) (wrap64 ((j : Int) + 1)) (ent X (j + 1)) _ (Kd.C_below HCX.out (bl_drewN (bl_drew HBq.out) _)) (by have := HCL.out; omega) (by rw [show (wrap64 ((j : Int) + 1)) = ((j + 1 : Nat) : Int) from HJ1, rentry_eval])).mono ?_
 rintro e w' ⟨rfl, ⟨nd, rfl⟩⟩
 refine ⟨_, rfl, ?_⟩
 refine hK.out _ _ ⟨pw_cell_below (bl_drewN (bl_drewN (bl_drew HBq.out) _) _) HX0.out, pw_cell_below (bl_drewN (bl_drewN (bl_drew HBq.out) _) _) HY0.out⟩ (fun hHeld => ?_)
 clear hK K
 refine norm_ (a' := ?_) ?_ ?_
 rotate_left
 ·show Act.put _ (some 94) _ = _
  simp only [Act.put, List.setIfInBounds_toArray, List.set_cons_zero, List.set_cons_succ, i64_w]
  rfl
 refine pure_ (i := 16) (N := some 95) (v := ?_) (a' := ?_) #[true, true, true, true, true, true, true, true, true, true, true, true, true, true, true, true, true, false, false, false, false] rfl rfl (any_of HT_.out (by kernel_rfl)) (fun _ _ _ h => HPP.out _ _ _ _ _ h) (Or.inl ⟨by rfl, ?_⟩) ?_ ?_
 rotate_left
 ·intro w'
  go_simp
  with_reducible rfl
 rotate_left
 ·simp only [Act.put, List.setIfInBounds_toArray, List.set_cons_zero, List.set_cons_succ, i64_w]
  rfl
 refine pure_ (i := 17) (N := some 96) (v := ?_) (a' := ?_) #[true, true, true, true, true, true, true, true, true, true, true, true, true, true, true, true, true, true, false, false, false] rfl rfl (any_of HT_.out (by kernel_rfl)) (fun _ _ _ h => HPP.out _ _ _ _ _ h) (Or.inl ⟨by rfl, ?_⟩) ?_ ?_
 rotate_left
 ·intro w'
  go_simp
  with_reducible rfl
 rotate_left
 ·simp only [Act.put, List.setIfInBounds_toArray, List.set_cons_zero, List.set_cons_succ, i64_w]
  rfl
 rw [← HVV.out]
 refine one_ (i := 18) (N := some 97) #[true, true, true, true, true, true, true, true, true, true, true, true, true, true, true, true, true, true, true, false, false] rfl rfl (one_of HT_.out (by kernel_rfl)) (by decide) (fun K hK => ?_)
 refine value_ (w1 := ?_) (v := ?_) (by rfl) rfl ?_ ?_
 rotate_left 2
 ·go_simp
  constructor
  ·rfl
  ·rfl
 refine hK.out _ _ ⟨pw_cell_below (by repeat (first | exact HBq.out | apply bl_alloc | apply bl_drewN | apply bl_drew)) HX0.out, pw_cell_below (by repeat (first | exact HBq.out | apply bl_alloc | apply bl_drewN | apply bl_drew)) HY0.out⟩ (fun hHeld => ?_)
 clear hK K
 refine norm_ (a' := ?_) ?_ ?_
 rotate_left
 ·show Act.put _ (some 97) _ = _
  simp only [Act.put, List.setIfInBounds_toArray, List.set_cons_zero, List.set_cons_succ, i64_w]
  rfl
 refine one_ (i := 19) (N := some 98) #[true, true, true, true, true, true, true, true, true, true, true, true, true, true, true, true, true, true, true, true, false] rfl rfl (one_of HT_.out (by kernel_rfl)) (by decide) (fun K hK => ?_)
 refine Kd.R_append_step (Kd.int .i64) (w0 := W6) W6.heap.size (by rfl) (.tmp 79) (.tmp 97) 22 3 (.int .i64 0) 8 rfl Tryz.underlying22 Q.info3 rfl (by decide) (by omega) _ acc vv [.int .i64 vv] (fun _ => True) (fun _ => False) rfl rfl rfl (fun _ hk => hk.elim) (fun _ _ => trivial) (by (with_reducible repeat (first | apply Kd.R_alloc | apply Kd.R_drewN | apply Kd.R_drew)); exact HO.out) (by repeat (first | exact HBq.out | apply bl_alloc | apply bl_drewN | apply bl_drew)) (Below.size (by repeat (first | exact HBq.out | apply bl_alloc | apply bl_drewN | apply bl_drew))) (by omega) ?_
 intro v1 w9 ho hb hg hat
 refine hK.out _ _ ⟨pw_cell_below hb HX0.out, pw_cell_below hb HY0.out⟩ (fun hHeld => ?_)
 clear hK K
 refine norm_ (a' := ?_) ?_ ?_
 rotate_left
 ·show Act.put _ (some 98) _ = _
  simp only [Act.put, List.setIfInBounds_toArray, List.set_cons_zero, List.set_cons_succ, i64_w]
  rfl
 refine pure_ (i := 20) (N := some 9) (v := ?_) (a' := ?_) #[true, true, true, true, true, true, true, true, true, true, true, true, true, true, true, true, true, true, true, true, true] rfl rfl (any_of HT_.out (by kernel_rfl)) (fun _ _ _ h => HPP.out _ _ _ _ _ h) (Or.inl ⟨by rfl, ?_⟩) ?_ ?_
 rotate_left
 ·intro w'
  go_simp
  with_reducible rfl
 rotate_left
 ·simp only [Act.put, List.setIfInBounds_toArray, List.set_cons_zero, List.set_cons_succ, i64_w]
  rfl
 refine done_ (done_of HT_.out (by kernel_rfl)) ?_
 rw [HVV.out] at ho
 exact HQ.out _ _ _ _ _ _ _ _ _ _ _ _ _ _ _ _ _ _ _ _ _ _ ho hb
end Go.Proofs.YtmpondcccbmlhaaGreat.Ext
namespace Go.Proofs.YtmpondcccbmlhaaGreat.Ext
open Go.RowKit Go.Shelf Go.Proofs.YtmpondcccbmlhaaGreatW.PrintWords Go.Proofs.YtmpondcccbmlhaaGreatW.PrintLast Go.Proofs.YtmpondcccbmlhaaGreatW.PrintMore
def gr6_Table.f (p : List Int) : Option (List (List Int)) := if 2 ≤ p.length ∧ p.length ≤ 5 ∧ ∀ x ∈ p, -1000 ≤ x ∧ x ≤ 1000 then some (tableOf p) else none
set_option maxHeartbeats 1500000 in
set_option maxRecDepth 100000 in
theorem gr6_Table.calls (A0 : Option Addr) (c0 : Nat) (l0 : List Int) (r : List (List Int)) (w : World) (hr0 : Kd.C (Kd.int .i64) w A0 l0.length l0) (_hc0 : l0.length ≤ c0) (h : gr6_Table.f l0 = some r) :
  Calls Tryz.prog 66 #[.slice A0 l0.length c0] w fun e w' => ∃ v0_ : Value, e = .returned v0_ ∧ Kd.N (Kd.slice 3 (Kd.int .i64)) 22 w' w.heap.size (fun k_ => w.heap.size ≤ k_) v0_ r ∧ Below w.heap.size w w' := by
 unfold gr6_Table.f at h
 by_cases hc : 2 ≤ l0.length ∧ l0.length ≤ 5 ∧ ∀ x ∈ l0, -1000 ≤ x ∧ x ≤ 1000
 ·rw [if_pos hc] at h
  obtain rfl := Option.some.inj h
  have hp := poly_ok hc
  have HP := Lib.hid hp
  have h2 := hp.len2
  have h5 := hp.len5
  have HR := Lib.hid hr0
  clear hr0 hc h hp
  go_enter Tryz.func66, Tryz.ntmps66
  go_wp2_with fail
  go_loopw [3, 4, 5] (fun xa xb i wr => ∃ (k : Nat) (va vb : Value), k ≤ l0.length ∧ i = .int .i64 (k : Nat) ∧ va = xa ∧ vb = xb ∧ Hid (Kd.R (Kd.int .i64) 3 wr w.heap.size (fun j => some j = va.ownBlock) va (evenc l0 k)) ∧ Hid (Kd.R (Kd.int .i64) 3 wr w.heap.size (fun j => some j = vb.ownBlock) vb (oddc l0 k)) ∧ Hid (∀ j, va.ownBlock = some j → vb.ownBlock ≠ some j) ∧ Hid (Below w.heap.size w wr))
   (fun _ _ i _ => l0.length - (intOf i).toNat)
  case atStart => exact ⟨0, _, _, by omega, rfl, rfl, rfl, Lib.hid (Kd.R_nil _ _ _ _ _), Lib.hid (Kd.R_nil _ _ _ _ _), Lib.hid (fun j hj => by simp [Value.ownBlock] at hj), Lib.hid (Below.refl _ _)⟩
  case round =>
   obtain ⟨k, va, vb, hk, rfl, rfl, rfl, HA, HBB, HN, HB⟩ := hrel
   by_cases hlt : k < l0.length
   ·obtain ⟨ad, rfl, h0⟩ := Kd.at_int HR.out (k : Int) (by omega) (by omega)
    rw [rd_nat, Int.toNat_natCast] at h0
    obtain ⟨x, hx⟩ : ∃ x, x = l0.getD k 0 := ⟨_, rfl⟩
    rw [← hx] at h0
    have h1 := pw_cell_below HB.out h0
    have HX := Lib.hid (show ent l0 k = x from hx.symm)
    clear h0 hx
    have hrem : Int.tmod (k : Int) 2 = ((k % 2 : Nat) : Int) := by rw [Int.tmod_eq_emod_of_nonneg (by omega)]; omega
    by_cases hev : k % 2 = 0
    ·rw [hev] at hrem
     go_wp2_with (at_builtin; refine Kd.R_append (Kd.int .i64) (w0 := w) w.heap.size rfl (.tmp 22) (.tmp 27) 22 3 (.int .i64 0) 8 rfl Tryz.underlying22 Q.info3 rfl (by decide) (by omega) _ (evenc l0 k) x [.int .i64 x] (fun _ => True) (fun _ => False) rfl rfl rfl (fun _ hk => hk.elim) (fun _ _ => trivial) (Kd.R_reok rfl HA.out (fun _ _ => trivial)) HB.out HB.out.size (by rw [evenc_len]; omega) ?_; intro v1 w5 ho hb hg hat)
     go_roundw
     case rel =>
      refine ⟨k + 1, _, _, by omega, by go_num, rfl, rfl, Lib.hid (by rw [evenc_even hev, HX.out]; exact Kd.R_tight rfl ho), Lib.hid (by rw [oddc_even hev]; exact Kd.R_grown2 HBB.out rfl hg (fun j hj e => HN.out j hj e.symm)), Lib.hid (fun j hj hbj => ?_), Lib.hid hb⟩
      rcases hat with hat | ⟨q, hq1, hq2⟩
      ·rw [hat] at hj; exact HN.out j hj hbj
      ·rw [hq1] at hj
       have e1 : q = j := Option.some.inj hj
       have := Kd.R_lt HBB.out j hbj
       omega
     case measure => simp [intOf]; omega
    ·rw [show k % 2 = 1 by omega] at hrem
     go_wp2_with (at_builtin; refine Kd.R_append (Kd.int .i64) (w0 := w) w.heap.size rfl (.tmp 29) (.tmp 34) 22 3 (.int .i64 0) 8 rfl Tryz.underlying22 Q.info3 rfl (by decide) (by omega) _ (oddc l0 k) x [.int .i64 x] (fun _ => True) (fun _ => False) rfl rfl rfl (fun _ hk => hk.elim) (fun _ _ => trivial) (Kd.R_reok rfl HBB.out (fun _ _ => trivial)) HB.out HB.out.size (by rw [oddc_len]; omega) ?_; intro v1 w5 ho hb hg hat)
     go_roundw
     case rel =>
      refine ⟨k + 1, _, _, by omega, by go_num, rfl, rfl, Lib.hid (by rw [evenc_odd hev]; exact Kd.R_grown2 HA.out rfl hg (fun j hj e => HN.out j e.symm hj)), Lib.hid (by rw [oddc_odd hev, HX.out]; exact Kd.R_tight rfl ho), Lib.hid (fun j hj hbj => ?_), Lib.hid hb⟩
      rcases hat with hat | ⟨q, hq1, hq2⟩
      ·rw [hat] at hbj; exact HN.out j hj hbj
      ·rw [hq1] at hbj
       have e1 : q = j := Option.some.inj hbj
       have := Kd.R_lt HA.out j hj
       omega
     case measure => simp [intOf]; omega
   ·obtain rfl : k = l0.length := by omega
    go_wp2_with fail
    refine (T.gr6_reduced.calls 2000 (fun j => some j = va.ownBlock) va (evenc l0 l0.length) (row l0 0) w _ HB.out HA.out (red_evenc HP.out 2000 (by omega))).mono ?_
    rintro e w2 ⟨v0, rfl, ho, hb, hkept⟩
    obtain ⟨A9, c9, e9⟩ := Kd.R_slice ho
    subst e9
    obtain ⟨n9, hn9⟩ : ∃ n, n = (row l0 0).length := ⟨_, rfl⟩
    rw [← hn9] at ho
    rw [← hn9]
    have HN9 := Lib.hid hn9
    clear hn9
    have HBB2 := Lib.hid (Kd.R_kept HBB.out hkept (fun j hj e => HN.out j e.symm hj.symm))
    have HN2 := Lib.hid (show ∀ j, (Value.slice A9 n9 c9).ownBlock = some j → some j ≠ vb.ownBlock from fun j hj e => by
     rcases ho.1 j hj with h3 | h3
     ·exact HN.out j h3.symm e.symm
     ·have := Kd.R_lt HBB.out j e.symm; omega)
    have HO2 := Lib.hid (Kd.R_reok (ok := fun j => some j ≠ vb.ownBlock) rfl ho HN2.out)
    have HB2 := Lib.hid hb
    have HLB := Lib.hid (show ∀ j, vb.ownBlock = some j → j < w2.heap.size from Kd.R_lt HBB2.out)
    clear ho hb hkept HA HBB HN HB
    go_wp2_with ((with_reducible refine gate_dst (N := 41) rfl ?_); refine Kd.R_lit (Kd.slice 3 (Kd.int .i64)) (w0 := w) w.heap.size 22 ?hg (N := 41) ?hd (xs := [row l0 0]) (inner := [.slice A9 n9 c9]) (ok := fun j => some j ≠ vb.ownBlock) (okp := fun j => some j ≠ vb.ownBlock ∧ j < w2.heap.size) ?hr ?hp (fun _ hk => hk.1) ?hf HB2.out HB2.out.size (by simp) ?_; (case hg => rfl); (case hd => rfl); (case hr => first | (go_simp; done) | (go_simp; rfl)); (case hp => exact Reps.one (show Kd.M (Kd.slice 3 (Kd.int .i64)) _ _ _ (row l0 0) [.slice A9 n9 c9] from ⟨.slice A9 n9 c9, rfl, Kd.R_reok rfl HO2.out (fun j hj => ⟨HN2.out j hj, Kd.R_lt HO2.out j hj⟩)⟩) (Reps.none _ _)); (case hf => intro e; have := HLB.out _ e.symm; omega); intro v7 w3 hro hb3 hg3 hat3)
    have HBB3 := Lib.hid (Kd.R_grown2 HBB2.out rfl hg3 (fun j hj => by cases hj))
    have HRO := Lib.hid hro
    have HB3 := Lib.hid hb3
    clear hro hb3 hg3 hat3 HBB2 HN2 HO2 HB2 HLB HN9
    go_wp2_with fail
    go_loopw [7, 8] (fun xr xk wr => ∃ (kk : Nat) (vr : Value), 1 ≤ kk ∧ kk ≤ l0.length ∧ vr = xr ∧ xk = .int .i64 (kk : Nat) ∧ Hid (Kd.R (Kd.slice 3 (Kd.int .i64)) 22 wr w.heap.size (fun j => kk = 1 → some j ≠ vb.ownBlock) vr (rowsTo l0 kk)) ∧
      Hid (kk = 1 → Kd.R (Kd.int .i64) 3 wr w.heap.size (fun j => some j = vb.ownBlock) vb (oddc l0 l0.length)) ∧ Hid (∀ j, j + 1 < kk → 0 < ent (row l0 j) 0) ∧ Hid (Below w.heap.size w wr))
     (fun _ k _ => l0.length + 1 - (intOf k).toNat)
    case atStart => exact ⟨1, _, by omega, by omega, rfl, rfl, Lib.hid (Kd.R_mono HRO.out (fun _ h _ => h)), Lib.hid (fun _ => HBB3.out), Lib.hid (fun j hj => by omega), Lib.hid HB3.out⟩
    case round =>
     obtain ⟨kk, vr, hk1, hkl, rfl, rfl, HW, HBk, HPos, HBw⟩ := hrel
     obtain ⟨A7, c7, e7⟩ := Kd.R_slice HW.out
     subst e7
     by_cases hkn : kk < l0.length
     ·have hC := (Kd.R_reads' HW.out).2.2
      obtain ⟨adr, Ai, ci, rfl, hc1, hcl, hCi⟩ := Q.at_L2 hC ((kk - 1 : Nat) : Int) (by omega) (by rw [rowsTo_len]; omega)
      rw [rdL2_nat, rowsTo_get _ _ _ (by omega)] at hc1 hcl hCi
      obtain ⟨adi, rfl, hx0⟩ := Kd.at_int hCi 0 (by omega) (by rw [row_len]; omega)
      rw [rowsTo_len] at hC
      have HCi := Lib.hid hCi
      have hm1 : 1 ≤ (row l0 (kk - 1)).length := by rw [row_len]; omega
      have e0 : rd (row l0 (kk - 1)) 0 = ent (row l0 (kk - 1)) 0 := by have := rd_nat (row l0 (kk - 1)) 0; simpa [ent] using this
      rw [e0, show Int.toNat 0 = 0 from rfl, Addr.add_zero'] at hx0
      rw [Int.toNat_natCast] at hc1
      obtain ⟨x0, hxe⟩ : ∃ x0, x0 = ent (row l0 (kk - 1)) 0 := ⟨_, rfl⟩
      rw [← hxe] at hx0
      have HXE := Lib.hid hxe
      have HW2 := Lib.hid (show Kd.R (Kd.slice 3 (Kd.int .i64)) 22 wr w.heap.size (fun j => kk = 1 → some j ≠ vb.ownBlock) (.slice (some adr) kk c7) (rowsTo l0 kk) from by have := HW.out; rw [rowsTo_len] at this; exact this)
      rw [rowsTo_len]
      generalize hm : (row l0 (kk - 1)).length = m1 at hc1 hcl hm1
      have HM := Lib.hid hm
      clear hxe hm e0 hCi HW hC
      have hw1 : IntKind.i64.wrap ((kk : Int) - 1) = ((kk - 1 : Nat) : Int) := by
       rw [show (kk : Int) - 1 = ((kk - 1 : Nat) : Int) by omega]; rw [i64_w]; exact w64 (n := ((kk - 1 : Nat) : Int)) (by omega) (by omega)
      have hdt : decide ((kk : Int) ≤ (l0.length : Int) - 1) = true := decide_eq_true (by omega)
      by_cases hpos : 0 < x0
      ·have hd1 : decide (x0 > 0) = true := decide_eq_true hpos
       by_cases hk2 : kk = 1
       ·have hgt : decide ((kk : Int) > 1) = false := decide_eq_false (by omega)
        have HK2 := Lib.hid hk2
        clear hk2
        go_wp2_with fail
        refine (T.gr6_reduced.calls 2000 (fun j => some j = vb.ownBlock) vb (oddc l0 l0.length) (row l0 1) w _ HBw.out (HBk.out HK2.out) (red_oddc HP.out 2000 (by omega))).mono ?_
        rintro e w4 ⟨v4, rfl, ho4, hb4, hkept4⟩
        obtain ⟨A8, c8, e8⟩ := Kd.R_slice ho4
        subst e8
        obtain ⟨n8, hn8⟩ : ∃ n, n = (row l0 1).length := ⟨_, rfl⟩
        rw [← hn8] at ho4
        rw [← hn8]
        have HW4 := Lib.hid (Kd.R_kept HW2.out hkept4 (fun j hj e => hj HK2.out e))
        have HNE := Lib.hid (show ∀ j, (Value.slice A8 n8 c8).ownBlock = some j → some j ≠ (Value.slice (some adr) kk c7).ownBlock from fun j hj e => by
         rcases ho4.1 j hj with h3 | h3
         ·exact HW2.out.1 j e.symm HK2.out h3
         ·have := Kd.R_lt HW2.out j e.symm; omega)
        have HO4 := Lib.hid (Kd.R_reok (ok := fun j => some j ≠ (Value.slice (some adr) kk c7).ownBlock) rfl ho4 HNE.out)
        have HB4 := Lib.hid hb4
        clear ho4 hb4 hkept4 hn8 hc1 hx0
        go_wp2_with (at_builtin; refine Kd.R_append (Kd.slice 3 (Kd.int .i64)) (w0 := w) w.heap.size rfl (.tmp 99) (.tmp 102) 46 22 (.slice none 0 0) 24 rfl Tryz.underlying46 Q.info22 rfl (by decide) (by omega) _ (rowsTo l0 kk) (row l0 1) [.slice A8 n8 c8] (fun _ => True) (fun j => some j ≠ (Value.slice (some adr) kk c7).ownBlock) rfl rfl ?hp (fun _ hk => ⟨trivial, hk⟩) (fun _ _ => trivial) (Kd.R_mono HW4.out (fun _ _ => trivial)) HB4.out HB4.out.size (by rw [rowsTo_len]; omega) ?_; (case hp => exact ⟨.slice A8 n8 c8, rfl, HO4.out⟩); intro v1 w5 ho hb hg hat)
        go_roundw
        case rel =>
         refine ⟨kk + 1, _, by omega, by omega, rfl, by go_num, Lib.hid ?_, Lib.hid (fun h => by omega), Lib.hid (fun j hj => ?_), Lib.hid hb⟩
         ·have hk2 := HK2.out; rw [rowsTo_succ, hk2]; rw [hk2] at ho; exact Kd.R_mono ho (fun _ _ h => by omega)
         ·by_cases hj2 : j + 1 < kk
          ·exact HPos.out j hj2
          ·rw [show j = kk - 1 by omega, ← HXE.out]; exact hpos
        case measure => simp [intOf]; omega
       ·have hgt : decide ((kk : Int) > 1) = true := decide_eq_true (by omega)
        obtain ⟨adr2, Aj, cj, e2, hc2, hdl, hCj⟩ := Q.at_L2 (Kd.R_reads' HW2.out).2.2 ((kk - 2 : Nat) : Int) (by omega) (by first | omega | (rw [rowsTo_len]; omega))
        obtain rfl : adr = adr2 := Option.some.inj e2
        rw [rdL2_nat, rowsTo_get _ _ _ (by omega)] at hc2 hdl hCj
        obtain ⟨adj, rfl, hy0⟩ := Kd.at_int hCj 0 (by omega) (by rw [row_len]; omega)
        have e0 : rd (row l0 (kk - 2)) 0 = ent (row l0 (kk - 2)) 0 := by have := rd_nat (row l0 (kk - 2)) 0; simpa [ent] using this
        rw [e0, show Int.toNat 0 = 0 from rfl, Addr.add_zero'] at hy0
        rw [Int.toNat_natCast] at hc2
        obtain ⟨y0, hye⟩ : ∃ y0, y0 = ent (row l0 (kk - 2)) 0 := ⟨_, rfl⟩
        rw [← hye] at hy0
        have HYE := Lib.hid hye
        have HDL := Lib.hid hdl
        have HCL := Lib.hid (show (row l0 (kk - 1)).length ≤ ci by rw [HM.out]; exact hcl)
        have hm2' : 1 ≤ (row l0 (kk - 2)).length := by rw [row_len]; omega
        generalize hm2 : (row l0 (kk - 2)).length = m2 at hc2 hdl hm2'
        have HM2 := Lib.hid hm2
        have hw2 : IntKind.i64.wrap ((kk : Int) - 2) = ((kk - 2 : Nat) : Int) := by
         rw [show (kk : Int) - 2 = ((kk - 2 : Nat) : Int) by omega, i64_w]; exact w64 (n := ((kk - 2 : Nat) : Int)) (by omega) (by omega)
        have HCJ := Lib.hid hCj
        have HKK := Lib.hid hk2
        clear hye hm2 e0 e2 hk2 hCj
        go_upto_region 15 with fail
        go_quiet (fail)
        generalize hgw : wr.drewN _ = W6
        obtain ⟨ng, hgw2⟩ : ∃ n, wr.drewN n = W6 := ⟨_, hgw⟩
        clear hgw
        have n0_ := Kd.R_drewN HW2.out ng
        have n1_ := bl_drewN HBw.out ng
        have n2_ := Kd.C_drewN HCi.out ng
        have n3_ := Kd.C_drewN HCJ.out ng
        have n4_ : (wr.drewN ng).cell? adi = some (.int .i64 x0) := hx0
        have n5_ : (wr.drewN ng).cell? adj = some (.int .i64 y0) := hy0
        rw [hgw2] at n0_ n1_ n2_ n3_ n4_ n5_
        have HW6 := Lib.hid n0_
        have HB6 := Lib.hid n1_
        have HCX := Lib.hid n2_
        have HCY := Lib.hid n3_
        have HX0 := Lib.hid n4_
        have HY0 := Lib.hid n5_
        clear n0_ n1_ n2_ n3_ n4_ n5_ hgw2
        clear hc1 hc2 hx0 hy0 HW2 HBw HCi HCJ HBk hw1 hw2
        obtain ⟨M, hM⟩ : ∃ M, M = (l0.length - 1 - kk) / 2 + 1 := ⟨_, rfl⟩
        have hqu : Int.tdiv ((l0.length : Int) - 1 - (kk : Int)) 2 = ((M : Nat) : Int) - 1 := by rw [Int.tdiv_eq_ediv_of_nonneg (a := (l0.length : Int) - 1 - (kk : Int)) (by omega)]; omega
        have hM5 : M ≤ 3 := by omega
        go_wp2_with fail
        go_loopw [9, 12] (fun xo xj wq => ∃ (j : Nat) (vo : Value), j ≤ M ∧ vo = xo ∧ xj = .int .i64 (j : Nat) ∧ Hid (Kd.R (Kd.int .i64) 3 wq W6.heap.size (fun _ => True) vo (laterTo l0 kk j)) ∧ Hid (Below W6.heap.size W6 wq))
         (fun _ j _ => M - (intOf j).toNat)
        case atStart => exact ⟨0, _, by omega, rfl, rfl, Lib.hid (Kd.R_nil _ _ _ _ _), Lib.hid (Below.refl _ _)⟩
        case round =>
         obtain ⟨j, vo, hj, rfl, rfl, HO, HBq⟩ := hrel
         by_cases hjm : j < M
         ·as_aux_lemma =>
          have hdj : decide ((j : Int) < (M : Int) - 1 + 1) = true := decide_eq_true (by omega)
          go_upto_region 20 with fail
          rw [← HM.out, ← HM2.out]
          have hp1 : 0 < (row l0 (kk - 1)).length := by rw [row_len]; omega
          have hp2 : 0 < (row l0 (kk - 2)).length := by rw [row_len]; omega
          refine row_region (row l0 (kk - 1)) (row l0 (kk - 2)) adi adj ci cj x0 y0 j (laterTo l0 kk j) vo _ W6 HX0.out HY0.out HCX.out HCY.out HCL.out HDL.out hp1 hp2 (by rw [later_len]; omega) (by omega) HO.out HBq.out (fun _ _ _ _ _ h => h) ?_
          intro v1 w9 u79_ u80_ u81_ u82_ u83_ u84_ u85_ u86_ u87_ u88_ u89_ u90_ u91_ u92_ u93_ u94_ u95_ u96_ u97_ u98_ ho hb
          have HOO := Lib.hid ho
          have HBB9 := Lib.hid hb
          clear ho hb
          rw [HM.out, HM2.out]
          go_wp2_with fail
          go_roundw
          case rel =>
           refine ⟨j + 1, _, by omega, rfl, by go_num, Lib.hid ?_, HBB9⟩
           have hkk := HKK.out
           have ho := HOO.out
           have hlb := later_bounds HP.out (k := kk) (by omega) hkn j
           rw [HXE.out, HYE.out, w64 (n := ent (row l0 (kk - 1)) 0 * ent (row l0 (kk - 2)) (j + 1)) (by omega) (by omega), w64 (n := ent (row l0 (kk - 2)) 0 * ent (row l0 (kk - 1)) (j + 1)) (by omega) (by omega), w64 (by omega) (by omega)] at ho
           rw [later_next]
           exact ho
          case measure => simp [intOf]; omega
         ·obtain rfl : j = M := by omega
          have hdj : decide ((j : Int) < (j : Int) - 1 + 1) = false := decide_eq_false (by omega)
          go_wp2_with fail
          have hkk := HKK.out
          obtain ⟨q9, hq9⟩ : ∃ q9 : Nat, 20000000000000000 ≤ q9 := ⟨_, Nat.le_refl _⟩
          have HQ9 := Lib.hid hq9
          clear hq9
          refine (T.gr6_reduced.calls q9 (fun _ => True) vo (laterTo l0 kk j) (row l0 kk) W6 _ HBq.out HO.out (by rw [hM]; exact red_later HP.out (by omega) hkn _ HQ9.out)).mono ?_
          rintro e w4 ⟨v4, rfl, ho4, hb4, hkept4⟩
          obtain ⟨A8, c8, e8⟩ := Kd.R_slice ho4
          subst e8
          obtain ⟨n8, hn8⟩ : ∃ n, n = (row l0 kk).length := ⟨_, rfl⟩
          rw [← hn8] at ho4
          rw [← hn8]
          have HW4 := Lib.hid (Kd.R_below HW6.out hb4)
          have HNE := Lib.hid (show ∀ j, (Value.slice A8 n8 c8).ownBlock = some j → some j ≠ (Value.slice (some adr) kk c7).ownBlock from fun j hj e => by
           have h3 := Kd.R_base ho4 j hj
           have := Kd.R_lt HW6.out j e.symm; omega)
          have HO4 := Lib.hid (Kd.R_reok (ok := fun j => some j ≠ (Value.slice (some adr) kk c7).ownBlock) rfl (Kd.R_lower ho4 HB6.out.size) HNE.out)
          have HB4 := Lib.hid (bl_next HB6.out hb4)
          clear ho4 hb4 hkept4 hn8
          go_wp2_with (at_builtin; refine Kd.R_append (Kd.slice 3 (Kd.int .i64)) (w0 := w) w.heap.size rfl (.tmp 99) (.tmp 102) 46 22 (.slice none 0 0) 24 rfl Tryz.underlying46 Q.info22 rfl (by decide) (by omega) _ (rowsTo l0 kk) (row l0 kk) [.slice A8 n8 c8] (fun _ => True) (fun j => some j ≠ (Value.slice (some adr) kk c7).ownBlock) rfl rfl ?hp (fun _ hk => ⟨trivial, hk⟩) (fun _ _ => trivial) (Kd.R_mono HW4.out (fun _ _ => trivial)) HB4.out HB4.out.size (by rw [rowsTo_len]; omega) ?_; (case hp => exact ⟨.slice A8 n8 c8, rfl, HO4.out⟩); intro v1 w5 ho hb hg hat)
          go_roundw
          case rel =>
           refine ⟨kk + 1, _, by omega, by omega, rfl, by go_num, Lib.hid ?_, Lib.hid (fun h => by omega), Lib.hid (fun j hj => ?_), Lib.hid hb⟩
           ·rw [rowsTo_succ]; exact Kd.R_mono ho (fun _ _ h => by omega)
           ·by_cases hj2 : j + 1 < kk
            ·exact HPos.out j hj2
            ·rw [show j = kk - 1 by omega, ← HXE.out]; exact hpos
          case measure => simp [intOf]; omega
      ·have hd1 : decide (x0 > 0) = false := decide_eq_false (by omega)
       have hout := table_is hk1 hkl HPos.out (.inr (by rw [← HXE.out]; omega))
       go_wp2_with fail
       go_ret
       exact ⟨_, rfl, by (try rw [hout]); exact Kd.N_mono (Kd.R_N (Kd.R_bound HW2.out)) (fun _ hk => hk.2.1), HBw.out⟩
     ·obtain rfl : kk = l0.length := by omega
      have hout := table_is hk1 hkl HPos.out (.inl rfl)
      have hdf : decide (((l0.length : Nat) : Int) ≤ (l0.length : Int) - 1) = false := decide_eq_false (by omega)
      go_wp2_with fail
      go_ret
      exact ⟨_, rfl, by (try rw [hout]); exact Kd.N_mono (Kd.R_N (Kd.R_bound HW.out)) (fun _ hk => hk.2.1), HBw.out⟩
 ·rw [if_neg hc] at h
  cases h
end Go.Proofs.YtmpondcccbmlhaaGreat.Ext
