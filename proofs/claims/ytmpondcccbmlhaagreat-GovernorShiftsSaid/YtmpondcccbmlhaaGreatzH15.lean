/- A part of the claim H: the texts Clone, without what the claim does not lean on. -/
import Derived.Lib.LazyBuf
import Derived.Test.YtmpondcccbmlhaaGreatzH9
namespace Go.Proofs.YtmpondcccbmlhaaGreat.Ext
open Go.RowKit Go.Shelf Go.Proofs.YtmpondcccbmlhaaGreatW.PrintWords Go.Proofs.YtmpondcccbmlhaaGreatW.PrintLast Go.Proofs.YtmpondcccbmlhaaGreatW.PrintMore
set_option maxHeartbeats 2000000 in
set_option maxRecDepth 100000 in
theorem clone_ints (ad : Addr) (c : Nat) (zs : List Int) (w : World) (hC : Kd.C (Kd.int .i64) w (some ad) zs.length zs) (hn : zs.length ≤ 1000000) :
  Calls Tryz.prog 153 #[.slice (some ad) zs.length c] w fun e w' => ∃ v, e = .returned v ∧ Kd.R (Kd.int .i64) 3 w' w.heap.size (fun _ => True) v zs ∧ Below w.heap.size w w' := by
 have q22 : ∀ (w : World) (a : Option Addr) (n c : Nat), (binOp .eql 22 (.slice a n c) (.slice none 0 0)).run Tryz.prog w = .ok (.bool a.isNone) w := fun w a n c => Go.run_eql_slice_nil w _ _ a n c Tryz.underlying22
 have HC := Lib.hid (Kd.C_alloc hC (Obj.cells #[] 3))
 have HO : Kd.R (Kd.int .i64) 3 (w.alloc (Obj.cells #[] 3)) w.heap.size (fun _ => True) (.slice (some ⟨w.heap.size, 0, none⟩) 0 0) [] := Kd.R_of_own (World.ownsRow_made w #[] 0 (Nat.le_refl _) (Nat.zero_le _) rfl) (fun _ _ => trivial)
 have HO := Lib.hid HO
 clear hC
 go_enter Tryz.func153, Tryz.ntmps153
 go_wp2_with (at_builtin; go_loud (refine Kd.R_append_row (Value.int .i64) (0 : Int) (w0 := w) w.heap.size rfl (.tmp 5) (.tmp 6) 22 3 (.int .i64 0) 8 rfl Tryz.underlying22 Q.info3 rfl (by decide) _ [] zs (some ad) zs.length c (fun _ => True) rfl rfl (fun _ _ => trivial) HO.out HC.out (bl_alloc (Below.refl _ _) _) (bl_alloc (Below.refl _ _) _).size (by simp; omega) ?_; intro v1 w1 ho hb hg hat))
 go_ret
 exact ⟨_, rfl, ho, hb⟩
end Go.Proofs.YtmpondcccbmlhaaGreat.Ext
