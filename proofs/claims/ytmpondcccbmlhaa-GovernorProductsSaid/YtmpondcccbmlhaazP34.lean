/- A part of the claim P: the texts Eqo, without what the claim does not lean on. -/
import Derived.ArgAppend
import Derived.Below
import Derived.BigQuiet
import Derived.Deep.AppendLies
import Derived.Deep.CutBlock
import Derived.Deep.DeepCutAuto
import Derived.Deep.Draws
import Derived.Deep.LoopGhost
import Derived.Deep.OwnRows
import Derived.Deep.QuietTactic
import Derived.Deep.RegionHeld3
import Derived.Deep.WholeRow
import Derived.KernelRfl
import Derived.Laws.BitsLemmas
import Derived.Laws.BytesArg
import Derived.Laws.IdiomCopy
import Derived.Laws.MakeOwn
import Derived.Laws.OwnMore
import Derived.Laws.Rows
import Derived.Laws.Slices
import Derived.Laws.StructEq
import Derived.Lib.AppendStr
import Derived.Lib.ConvBytes
import Derived.Maps.AppendAt
import Derived.OrdersHeld
import Derived.OwnWalk
import Derived.RowKit
import Derived.RowKit3
import Derived.Tactics
import Derived.WalkKit
import Derived.WalkLawsBesides
import Derived.WideLaws
import Derived.Test.YtmpondcccbmlhaaProg
import Derived.Test.YtmpondcccbmlhaazP0
import Derived.Test.YtmpondcccbmlhaazP1
import Derived.Test.YtmpondcccbmlhaazP2
import Derived.Test.YtmpondcccbmlhaazP3
import Derived.Test.YtmpondcccbmlhaazP4
import Derived.Test.YtmpondcccbmlhaazP5
import Derived.Test.YtmpondcccbmlhaazP6
import Derived.Test.YtmpondcccbmlhaazP23
namespace Go.Proofs.Ytmpondcccbmlhaa.Ext
open Go Go.RowKit
theorem size4 : (Try.prog.info? 4).map (·.size) = some 1 := by kernel_rfl
theorem run_size4 (w : World) : (Go.sizeOf 4).run Try.prog w = .ok 1 w := by
  cases hq : Try.prog.info? 4 with
  | none => have := size4; simp [hq] at this
  | some i => have := size4; simp [hq] at this; simp [Go.sizeOf, typeInfo, hq, this]
theorem run_part4 (cs : Array Value) (k : Nat) (b : Bool) (w : World) (h : cs[k]? = some (.bool b)) : (part 4 cs k).run Try.prog w = .ok (.bool b) w := by
  simp [part, Sem.run_bind, h]
theorem run_eqb (d : Nat) (a b : Bool) (w : World) : (Op.equalIn (d + 1) 4 (.bool a) (.bool b)).run Try.prog w = .ok (a == b) w := by
  simp [Op.equalIn, Sem.run_bind, run_underlying Try.underlying4 w]
theorem eq_odd (d : Nat) (w : World) (a0 a1 a2 b0 b1 b2 : Bool) : (Op.equalIn (d + 2) 66 (.agg #[.bool a0, .bool a1, .bool a2]) (.agg #[.bool b0, .bool b1, .bool b2])).run Try.prog w = .ok (a0 == b0 && (a1 == b1 && a2 == b2)) w := by
  rw [Op.equalIn]
  rw [Sem.run_bind, run_underlying Try.underlying66 w]
  simp only [Result.andThen]
  rw [Sem.run_bind, run_size4]
  have p0 := fun c b d : Bool => run_part4 #[.bool c, .bool b, .bool d] 0 c w rfl
  have p1 := fun c b d : Bool => run_part4 #[.bool c, .bool b, .bool d] 1 b w rfl
  have p2 := fun c b d : Bool => run_part4 #[.bool c, .bool b, .bool d] 2 d w rfl
  have hb : forIn (m := Sem) [:3] (none, ()) = (forIn (m := Sem) [0, 1, 2] ((none, ()) : Option Bool × Unit)) := by
    funext f
    rw [Std.Legacy.Range.forIn_eq_forIn_range']; rfl
  simp only [Result.andThen, Nat.mul_one, hb, List.forIn_cons, List.forIn_nil]
  cases a0 <;> cases b0 <;> cases a1 <;> cases b1 <;> cases a2 <;> cases b2 <;> simp [Sem.run_bind, p0, p1, p2, run_eqb]
end Go.Proofs.Ytmpondcccbmlhaa.Ext
