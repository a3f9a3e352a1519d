/- A part of the claim P: the texts Row, without what the claim does not lean on. -/
import Derived.Deep.WholeRow
import Derived.WalkLawsBesides
namespace Go.Proofs.Ytmpondcccbmlhaa.Ext
open Go
theorem build_new {P : Program} {ops : Array Oper} {rest : List Oper} {o : Oper} {a : Act} {w : World} {Q : Exit → Act → World → Prop} (hgd : o.guard = none) (ty : TypeId) (parts : Array (Nat × Operand)) (ho : o.op = .build ty parts)
    (vs : List (Nat × Value)) (cells : Array Value) (hv : (parts.map fun (i, x) => (i, a.eval x)).toList = vs) (hb : P.built ty vs = some cells)
    (h : wpList P ops Q rest (a.put o.dst (.agg cells)) w) : wpList P ops Q (o :: rest) a w :=
  wpList_build hgd ty parts ho (by rw [hv, hb]; rfl) (by rw [hv, hb]; exact h)
theorem alloc_new {P : Program} {ops : Array Oper} {rest : List Oper} {o : Oper} {a : Act} {w : World} {Q : Exit → Act → World → Prop} (hgd : o.guard = none) (ty : TypeId) (ho : o.op = .alloc ty)
    (z : Value) (cells : Array Value) (n : Nat) (hz : (P.info? ty).map (fun i => (i.zero, i.size)) = some (some z, n)) (hc : z.cells = cells)
    (h : wpList P ops Q rest (a.put o.dst (.pointer (some ⟨w.heap.size, 0, none⟩))) (w.alloc (.cells cells ty))) : wpList P ops Q (o :: rest) a w := by
  refine wpList_plain hgd fun K hK => ?_
  unfold Oper.wp execOp
  simp [ho, Instr.alloc, Sem.run_bind, (zero_of_info hz).1, newVar, newRow]
  exact hK _ _ (hc ▸ h)
theorem store_new {P : Program} {ops : Array Oper} {rest : List Oper} {o : Oper} {a : Act} {w0 : World} {Q : Exit → Act → World → Prop} (hgd : o.guard = none) (ty : TypeId) (x y : Operand) (ho : o.op = .store ty x y)
    (g : Nat) (cells old : Array Value) (hx : a.eval x = .pointer (some ⟨g, 0, none⟩)) (hy : a.eval y = .agg cells) (hg : g = w0.heap.size) (hi : (P.info? ty).map (·.size) = some cells.size)
    (hold : old.size = cells.size) (h1 : cells.all (·.oneCell') = true)
    (h : wpList P ops Q rest (a.put o.dst undef) (w0.alloc (.cells cells ty))) : wpList P ops Q (o :: rest) a (w0.alloc (.cells old ty)) := by
  subst hg
  refine wpList_store_row hgd ty x y ho _ cells hx hy ty old (heap_alloc_last w0 _) hi hold h1 ?_
  rw [World.setRow_alloc_new]; exact h
theorem load_new {P : Program} {ops : Array Oper} {rest : List Oper} {o : Oper} {a : Act} {w0 : World} {Q : Exit → Act → World → Prop} (hgd : o.guard = none) (ty : TypeId) (x : Operand) (ho : o.op = .load ty x)
    (g : Nat) (cells : Array Value) (n : Nat) (e : TypeId) (hx : a.eval x = .pointer (some ⟨g, 0, none⟩)) (hg : g = w0.heap.size) (hu : P.underlying ty = some (.array n e)) (hi : (P.info? ty).map (·.size) = some cells.size)
    (h : wpList P ops Q rest (a.put o.dst (.agg cells)) (w0.alloc (.cells cells ty))) : wpList P ops Q (o :: rest) a (w0.alloc (.cells cells ty)) := by
  subst hg
  exact wpList_load_row hgd ty x ho _ hx ty cells _ _ (heap_alloc_last w0 _) hu rfl hi h
theorem index_new {P : Program} {ops : Array Oper} {rest : List Oper} {o : Oper} {a : Act} {w : World} {Q : Exit → Act → World → Prop} (hgd : o.guard = none) (ty : TypeId) (x y : Operand) (ho : o.op = .index ty x y)
    (cs : Array Value) (k : Nat) (len n : Nat) (e e2 : TypeId) (hx : a.eval x = .agg cs) (hy : a.eval y = .int .i64 (k : Int)) (hu : P.underlying ty = some (.array len e)) (hk : k < len) (hu2 : P.underlying e = some (.array n e2))
    (sz : Nat) (hs : (P.info? e).map (·.size) = some sz) (row : Array Value) (hr : cs.extract (k * sz) (k * sz + sz) = row)
    (h : wpList P ops Q rest (a.put o.dst (.agg row)) w) : wpList P ops Q (o :: rest) a w := by
  refine wpList_plain hgd fun K hK => ?_
  unfold Oper.wp execOp
  have h1 : (underlying ty).run P w = .ok (.array len e) w := run_underlying hu w
  have h2 : (isAgg e).run P w = .ok true w := by
    unfold isAgg
    rw [Sem.run_bind, run_underlying hu2 w]; rfl
  have h3 : (sizeOf e).run P w = .ok sz w := by
    cases hq : P.info? e with
    | none => simp [hq] at hs
    | some i => simp [hq] at hs; simp [sizeOf, typeInfo, hq, hs]
  have hb : (0 : Int) ≤ (k : Int) ∧ (k : Int) < (len : Int) := by omega
  simp [ho, hx, hy, Instr.index, asIntOf, Sem.run_bind, h1, hb, part, h2, h3, hr, hk]
  exact hK _ _ h
theorem run_index_st {P : Program} (w : World) (ty : TypeId) (cs : Array Value) (k : Nat) (len : Nat) (e : TypeId) (fs : Array Field) (hu : P.underlying ty = some (.array len e)) (hk : k < len) (hu2 : P.underlying e = some (.struct fs))
    (sz : Nat) (hs : (P.info? e).map (·.size) = some sz) (row : Array Value) (hr : cs.extract (k * sz) (k * sz + sz) = row) :
    (Instr.index ty (.agg cs) (.int .i64 (k : Int))).run P w = .ok (.agg row) w := by
  have h1 : (underlying ty).run P w = .ok (.array len e) w := run_underlying hu w
  have h2 : (isAgg e).run P w = .ok true w := by
    unfold isAgg
    rw [Sem.run_bind, run_underlying hu2 w]; rfl
  have h3 : (sizeOf e).run P w = .ok sz w := by
    cases hq : P.info? e with
    | none => simp [hq] at hs
    | some i => simp [hq] at hs; simp [sizeOf, typeInfo, hq, hs]
  have hb : (0 : Int) ≤ (k : Int) ∧ (k : Int) < (len : Int) := by omega
  simp [Instr.index, asIntOf, Sem.run_bind, h1, hb, part, h2, h3, hr, hk]
end Go.Proofs.Ytmpondcccbmlhaa.Ext
