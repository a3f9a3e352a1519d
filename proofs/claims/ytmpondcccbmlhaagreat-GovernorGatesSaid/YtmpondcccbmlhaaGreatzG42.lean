/- A part of the claim G: the texts Opn, Opc, without what the claim does not lean on. -/
import Derived.ArgAppend
import Derived.Below
import Derived.BigQuiet
import Derived.ChangeArms
import Derived.ChangeSlices
import Derived.DataElems
import Derived.Deep.AppendLies
import Derived.Deep.CutBlock
import Derived.Deep.DeepCutAuto
import Derived.Deep.Draws
import Derived.Deep.LoopGhost
import Derived.Deep.OwnRows
import Derived.Deep.QuietTactic
import Derived.Deep.RegionHeld3
import Derived.KernelRfl
import Derived.Laws.BitsLemmas
import Derived.Laws.BytesArg
import Derived.Laws.IdiomCopy
import Derived.Laws.MakeOwn
import Derived.Laws.OwnMore
import Derived.Laws.Rows
import Derived.Laws.Slices
import Derived.Laws.StructEq
import Derived.Lib.AppendStr
import Derived.Lib.ConvBytes
import Derived.Lib.Hide
import Derived.Maps.AppendAt
import Derived.OrdersHeld
import Derived.Outline
import Derived.OwnWalk
import Derived.RowKit
import Derived.RowKit3
import Derived.Shelf.Abstract
import Derived.Tactics
import Derived.WalkKit
import Derived.WideLaws
import Derived.Test.YtmpondcccbmlhaaGreatProg
import Derived.Test.YtmpondcccbmlhaaGreatzG0
import Derived.Test.YtmpondcccbmlhaaGreatzG1
import Derived.Test.YtmpondcccbmlhaaGreatzG2
import Derived.Test.YtmpondcccbmlhaaGreatzG3
import Derived.Test.YtmpondcccbmlhaaGreatzG4
import Derived.Test.YtmpondcccbmlhaaGreatzG5
import Derived.Test.YtmpondcccbmlhaaGreatzG6
import Derived.Test.YtmpondcccbmlhaaGreatzG7
import Derived.Test.YtmpondcccbmlhaaGreatzG8
import Derived.Test.YtmpondcccbmlhaaGreatzG9
namespace Go.Proofs.YtmpondcccbmlhaaGreat.Ext
open Go.ChangeShapes Go.WideShapes Go.RowKit Go.Proofs.YtmpondcccbmlhaaGreatW.PrintWords Go.Proofs.YtmpondcccbmlhaaGreatW.PrintLast Go.Proofs.YtmpondcccbmlhaaGreatW.PrintMore
def Opens {α : Type} (P : Program) (t : TypeId) (kd : Kd α) (G : α → Prop) : Prop :=
  ∀ (H : Type) (enc : TypeId × Value → H) (W : World) (sp : Nat → Bool) (held : Bool) (fuel : Nat) (cs : List Value) (y : DataW H × List MemPlace), DataW.trod enc P W 0 sp held fuel t cs = some y → ∃ x, kd.K W x cs ∧ G x
theorem opens_int {P : Program} {t : TypeId} {k : IntKind} (ht : P.underlying t = some (.int k)) : Opens P t (Kd.int k) (fun n => (Lit.int k n).wf = true) := by
  intro H enc W sp held fuel cs y h
  obtain ⟨n, rfl, _, hw⟩ := DataW.trod_int ht h
  exact ⟨n, rfl, hw⟩
theorem opens_at {α : Type} {P : Program} {t : TypeId} {kd : Kd α} {G : α → Prop} (ho : Opens P t kd G) {H : Type} {enc : TypeId × Value → H} {W : World} {sp : Nat → Bool} {held : Bool} {v : Value} {d : DataW H} {p : List MemPlace} (h : DataW.Trod enc P W 0 sp held t v d p) :
    ∃ x, kd.K W x v.cells.toList ∧ G x := by
  obtain ⟨fuel, hf⟩ := h
  exact ho H enc W sp held fuel _ _ hf
end Go.Proofs.YtmpondcccbmlhaaGreat.Ext
namespace Go.Proofs.YtmpondcccbmlhaaGreat.Ext
open Go.ChangeShapes Go.WideShapes Go.RowKit Go.Proofs.YtmpondcccbmlhaaGreatW.PrintWords Go.Proofs.YtmpondcccbmlhaaGreatW.PrintLast Go.Proofs.YtmpondcccbmlhaaGreatW.PrintMore
def four : Kd (Int × Int × Int × Int) := Kd.pair (Kd.int .i64) (Kd.pair (Kd.int .i64) (Kd.pair (Kd.int .i64) (Kd.int .i64)))
theorem opens_four {P : Program} {t e : TypeId} {f0 f1 f2 f3 : Field} (ht : P.underlying t = some (.struct #[f0, f1, f2, f3])) (he : P.underlying e = some (.int .i64)) (hc : P.cellsOf e = 1) (hct : P.cellsOf t = 4)
    (t0 : f0.type = e) (t1 : f1.type = e) (t2 : f2.type = e) (t3 : f3.type = e) (o0 : f0.offset = 0) (o1 : f1.offset = 1) (o2 : f2.offset = 2) (o3 : f3.offset = 3) : Opens P t four (fun _ => True) := by
  intro H enc W sp held fuel cs y h
  obtain ⟨xs, n, _, _, hcl, hxl, hx⟩ := DataW.trod_struct ht h
  have hxl4 : xs.length = 4 := hxl
  rw [hct] at hcl
  have key : ∀ (i : Nat) (f : Field), #[f0, f1, f2, f3][i]? = some f → f.type = e → i < 4 → ∃ m : Int, (cs.drop f.offset).take 1 = [.int .i64 m] := by
    intro i f hf hte hi
    have e1 := hx i f hf
    rw [hte, hc, List.getElem?_eq_getElem (by omega)] at e1
    obtain ⟨m, hm, _⟩ := opens_int he H enc W sp held n _ _ e1
    exact ⟨m, hm⟩
  obtain ⟨a, ha⟩ := key 0 f0 rfl t0 (by omega)
  obtain ⟨b, hb⟩ := key 1 f1 rfl t1 (by omega)
  obtain ⟨c, hcc⟩ := key 2 f2 rfl t2 (by omega)
  obtain ⟨d, hd⟩ := key 3 f3 rfl t3 (by omega)
  match cs, hcl with
  | [v0, v1, v2, v3], _ =>
    rw [o0] at ha; rw [o1] at hb; rw [o2] at hcc; rw [o3] at hd
    simp only [List.drop_zero, List.drop_succ_cons, List.take_succ_cons, List.take_zero, List.cons.injEq, and_true] at ha hb hcc hd
    subst ha hb hcc hd
    exact ⟨(a, b, c, d), ⟨_, _, rfl, rfl, _, _, rfl, rfl, _, _, rfl, rfl, rfl⟩, trivial⟩
theorem opens_gate : Opens Tryz.prog 75 four (fun _ => True) :=
  opens_four (e := 3) Tryz.underlying75 Tryz.underlying3 (by kernel_rfl) (by kernel_rfl) rfl rfl rfl rfl rfl rfl rfl rfl
theorem opens_rules : Opens Tryz.prog 77 four (fun _ => True) :=
  opens_four (e := 3) Tryz.underlying77 Tryz.underlying3 (by kernel_rfl) (by kernel_rfl) rfl rfl rfl rfl rfl rfl rfl rfl
end Go.Proofs.YtmpondcccbmlhaaGreat.Ext
