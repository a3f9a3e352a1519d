/- A part of the claim P: the texts Range, without what the claim does not lean on. -/
import Derived.ArgAppend
import Derived.Below
import Derived.BigQuiet
import Derived.Deep.AppendLies
import Derived.Deep.CutBlock
import Derived.Deep.DeepCutAuto
import Derived.Deep.Draws
import Derived.Deep.LoopGhost
import Derived.Deep.OwnRows
import Derived.Deep.QuietTactic
import Derived.Deep.RegionHeld3
import Derived.KernelRfl
import Derived.Laws.BitsLemmas
import Derived.Laws.BytesArg
import Derived.Laws.IdiomCopy
import Derived.Laws.MakeOwn
import Derived.Laws.OwnMore
import Derived.Laws.Rows
import Derived.Laws.Slices
import Derived.Laws.StructEq
import Derived.Lib.AppendStr
import Derived.Lib.ConvBytes
import Derived.Lib.Hide
import Derived.LoopIn
import Derived.LoopNIn
import Derived.Maps.AppendAt
import Derived.OrdersHeld
import Derived.Outline
import Derived.OwnWalk
import Derived.OwnWalkIn
import Derived.RangeFuncBound
import Derived.RangeFuncCalls
import Derived.RangeFuncLeaves
import Derived.RangeFuncNested
import Derived.RowKit
import Derived.RowKit3
import Derived.Shelf.Abstract
import Derived.Shelf.RegionOpen
import Derived.Tactics
import Derived.TacticsInMore
import Derived.WalkKit
import Derived.WideLaws
import Derived.Test.YtmpondcccbmlhaaProg
import Derived.Test.YtmpondcccbmlhaazP0
import Derived.Test.YtmpondcccbmlhaazP1
import Derived.Test.YtmpondcccbmlhaazP2
import Derived.Test.YtmpondcccbmlhaazP3
import Derived.Test.YtmpondcccbmlhaazP4
import Derived.Test.YtmpondcccbmlhaazP5
import Derived.Test.YtmpondcccbmlhaazP6
import Derived.Test.YtmpondcccbmlhaazP7
import Derived.Test.YtmpondcccbmlhaazP8
import Derived.Test.YtmpondcccbmlhaazP9
namespace Go.Proofs.Ytmpondcccbmlhaa.Ext
open Go Go.RowKit Go.Shelf Go.Proofs.YtmpondcccbmlhaaW.PrintWords Go.Proofs.YtmpondcccbmlhaaW.PrintLast Go.Proofs.YtmpondcccbmlhaaW.PrintMore
def CellsKept (A B : World) : Prop := A.heap.size ≤ B.heap.size ∧ ∀ (k : Nat) (o : Obj), A.heap[k]? = some o → o.isCells = true → B.heap[k]? = some o
def GivesRows (F : Fence) (n : Nat) (P : Program) (g : Nat) (lb : Array Value) (ss : List (List Int)) (bs : Nat) (w : World) : Prop :=
  ∀ (l : Nat) (J : Nat → World → Prop) (Jx : World → Prop) (W : World), Below w.heap.size w W →
    (∀ k A B, J k A → Below A.heap.size A B → J k B) → (∀ A B, Jx A → Below A.heap.size A B → Jx B) →
    (∀ k v W1, J k W1 → k < ss.length → Kd.R (Kd.int .i64) 3 W1 bs (fun _ => True) v (ss.getD k []) →
      YieldAt F (n - 1) P l #[v] W1 fun e W' => (e = .returned (.bool true) ∧ J (k + 1) W' ∧ CellsKept W1 W') ∨ (e = .returned (.bool false) ∧ Jx W')) →
    J 0 W →
    CallsIn F n P g (#[.func (.yield l) #[] #[]] ++ lb) W fun e W' => (∃ v, e = .returned v) ∧ (J ss.length W' ∨ Jx W')
def roundEnds (I : Nat → World → Prop) (Ix : World → Prop) (k : Nat) (W : World) : Exit → Act → World → Prop
  | .normal, _, W' => KeepsOthers W W' ∧ CellsKept W W' ∧ I (k + 1) W'
  | .ret, _, W' => KeepsOthers W W' ∧ Ix W'
  | _, _, _ => False
theorem kept_putObj (W : World) (l : Nat) (o o' : Obj) (h : W.heap[l]? = some o) (hc : o.isCells = false) : CellsKept W (W.putObj l o') := by
  refine ⟨by simp, fun k q hk hq => ?_⟩
  by_cases e : k = l
  · subst e
    rw [h] at hk
    injection hk with hk
    rw [hk] at hc
    rw [hc] at hq; cases hq
  · rw [World.putObj_heap_other e]; exact hk
theorem kept_trans {A B C : World} (h : CellsKept A B) (h2 : CellsKept B C) : CellsKept A C :=
  ⟨Nat.le_trans h.1 h2.1, fun k o hk ho => h2.2 k o (h.2 k o hk ho) ho⟩
variable {F : Fence} {n : Nat} {P : Program}
theorem range_rows {g : Operand} {p : Tmp} {assign body : Code} {Q : Exit → Act → World → Prop} {a : Act} {w : World} (hro : F.round = none) (h1 : 1 ≤ n) {gf : Nat} {lb : Array Value}
    (hg : a.eval g = .func (.func gf) #[] lb) (hFg : F.fn gf) (eg : ∀ args w, (callFunc gf args).run P w = .ok (.enter gf args) w)
    (ss : List (List Int)) {bs : Nat} {w0 : World} (hseq : GivesRows F (n - 1) P gf lb ss bs w0) (hb0 : Below w0.heap.size w0 w)
    (I : Nat → World → Prop) (Ix : World → Prop) (hI : ∀ k, OwnFrom w.heap.size (fun (_ : Unit) W => I k W)) (hIx : OwnFrom w.heap.size (fun (_ : Unit) W => Ix W))
    (hIb : ∀ k A B, I k A → Below A.heap.size A B → I k B) (hIxb : ∀ A B, Ix A → Below A.heap.size A B → Ix B) (h0 : I 0 w) (a₁ : Value → Act)
    (hassign : ∀ (l : Nat) (v : Value) (W : World) (K : Act → World → Prop), K (a₁ v) W → assign.wpIn (F.inRound l) (n - 1 - 1) P (Exit.then K (fun _ _ _ => False)) { tmps := (#[p].zip #[v]).foldl (fun t (q, u) => t.setIfInBounds q u) a.tmps, defers := [] } W)
    (hbody : ∀ (l k : Nat) (v : Value) (W : World), I k W → k < ss.length → Kd.R (Kd.int .i64) 3 W bs (fun _ => True) v (ss.getD k []) →
      body.wpIn (F.inRound l) (n - 1 - 1) P (roundEnds I Ix k W) (a₁ v) W)
    (hdone : ∀ (D : Nat) (W : World), w.heap.size ≤ D → I ss.length W → W.heap[D]? = some (.deferred (some [])) → Q .normal { a with defers := { target := .collected D, args := #[] } :: a.defers } W)
    (hstop : ∀ (D : Nat) (W : World), w.heap.size ≤ D → Ix W → W.heap[D]? = some (.deferred (some [])) → Code.ret.wpIn F n P Q { a with defers := { target := .collected D, args := #[] } :: a.defers } W) :
    (Code.rangeFunc g #[p] assign body).wpIn F n P Q a w := by
  refine wpIn_rangeFunc fun fn hfn => ?_
  rw [hro]
  obtain ⟨mk, hmk⟩ : ∃ mk : LoopState → Option Code → Loop, mk = fun st pe => { state := st, pending := pe, fn, tmps := a.tmps, params := #[p], assign, body, defers := w.heap.size } := ⟨_, rfl⟩
  obtain ⟨W1, hW1⟩ : ∃ W1, W1 = (w.alloc (.deferred (some []))).alloc (.loop (mk .ready none)) := ⟨_, rfl⟩
  obtain ⟨L, hL⟩ : ∃ L, L = w.heap.size + 1 := ⟨_, rfl⟩
  have hrec : W1.heap[L]? = some (.loop (mk .ready none)) := by
    rw [hW1, hL]; have := World.alloc_heap_new (w.alloc (.deferred (some []))) (.loop (mk .ready none)); rwa [World.size_alloc] at this
  have hdef : W1.heap[w.heap.size]? = some (.deferred (some [])) := by
    rw [hW1]; exact (Below.heap_alloc _ _ _ (by simp)).trans (World.alloc_heap_new w _)
  have hw1 : Below w.heap.size w W1 := by rw [hW1]; exact bl_alloc (bl_alloc (Below.refl _ _) _) _
  have hlt {W : World} {k : Nat} {o : Obj} (h : W.heap[k]? = some o) : k < W.heap.size := (Array.getElem?_eq_some_iff.1 h).1
  refine ⟨L, [{ target := .collected w.heap.size, args := #[] }], W1, { target := .fn (.func gf) lb, args := #[.func (.yield L) #[] #[]] }, W1, gf, #[.func (.yield L) #[] #[]] ++ lb, W1, ?_, ?_, ?_, ?_, fun _ => h1, ?_⟩
  · rw [hW1, hmk, hL]; exact run_enterLoop_outer _ _ _ _ _
  · simp only [resolve, hg]
    simp [go_sem]
  · intro f' hf'; simp [Target.leads] at hf'; subst hf'; exact hFg
  · simp [invoke, go_sem, eg]
  · refine (hseq L (fun k W => I k W ∧ W.heap[L]? = some (.loop (mk .ready none)) ∧ W.heap[w.heap.size]? = some (.deferred (some [])))
      (fun W => Ix W ∧ W.heap[L]? = some (.loop (mk .done (some .ret))) ∧ W.heap[w.heap.size]? = some (.deferred (some []))) W1 (hb0.trans (hw1.mono hb0.size))
      (fun k A B hs hb => ⟨hIb k A B hs.1 hb, (hb.block _ (hlt hs.2.1)).trans hs.2.1, (hb.block _ (hlt hs.2.2)).trans hs.2.2⟩)
      (fun A B hs hb => ⟨hIxb A B hs.1 hb, (hb.block _ (hlt hs.2.1)).trans hs.2.1, (hb.block _ (hlt hs.2.2)).trans hs.2.2⟩)
      ?_ ⟨hIb 0 w W1 h0 hw1, hrec, hdef⟩).mono ?_
    · rintro k v W ⟨hi, hl, hk⟩ hks hC
      have hy := run_yield (P := P) (args := #[v]) hl (by rw [hmk]; rfl)
      rw [hmk] at hy
      refine ⟨fn, _, assign, body, hy, roundIn_of_wpIn hfn ?_⟩
      refine hassign L v W _ ?_
      refine ⟨_, run_beginRound hl (by rw [hmk]), ?_⟩
      have hl2 : (W.putObj L (.loop { mk .ready none with state := .busy })).heap[L]? = some (.loop { mk .ready none with state := .busy }) := World.putObj_heap_same (hlt hl)
      have hk2 : (W.putObj L (.loop { mk .ready none with state := .busy })).heap[w.heap.size]? = some (.deferred (some [])) := (World.putObj_heap_other (by omega)).trans hk
      have hkc := kept_putObj W L _ (.loop { mk .ready none with state := .busy }) hl rfl
      have hC2 : Kd.R (Kd.int .i64) 3 (W.putObj L (.loop { mk .ready none with state := .busy })) bs (fun _ => True) v (ss.getD k []) := by
        refine Kd.R_mono (Kd.R_move (Kd.R_bound hC) (fun q hq => ?_)) (fun _ _ => trivial)
        obtain ⟨-, -, -, _, _, cells, hcells⟩ := hq
        refine World.putObj_heap_other (fun e => ?_)
        subst e
        rw [hl] at hcells
        cases hcells
      refine wpIn_mono (hbody L k v _ ((hI k).putObj (s := ()) _ hi (by omega) hl rfl) hks hC2) ?_
      rintro e a3 W3 hp
      cases e with
      | normal =>
        obtain ⟨hk3, hkp3, hi3⟩ := hp
        have hl3 := hk3.same _ _ hl2 rfl
        have hr := run_endRound (P := P) none hl3
        refine ⟨_, _, hr, .inl ⟨rfl, ⟨(hI (k + 1)).putObj (s := ()) _ hi3 (by omega) hl3 rfl, ?_, ?_⟩, kept_trans (kept_trans hkc hkp3) (kept_putObj _ _ _ _ hl3 rfl)⟩⟩
        · rw [World.putObj_heap_same (hlt hl3)]; rw [hmk]; rfl
        · exact (World.putObj_heap_other (by omega)).trans (hk3.same _ _ hk2 rfl)
      | ret =>
        obtain ⟨hk3, hi3⟩ := hp
        have hl3 := hk3.same _ _ hl2 rfl
        have hr := run_endRound (P := P) (some .ret) hl3
        refine ⟨_, _, hr, .inr ⟨rfl, hIx.putObj (s := ()) _ hi3 (by omega) hl3 rfl, ?_, ?_⟩⟩
        · rw [World.putObj_heap_same (hlt hl3)]; rw [hmk]; rfl
        · exact (World.putObj_heap_other (by omega)).trans (hk3.same _ _ hk2 rfl)
      | exit id => exact hp.elim
      | goto t => exact hp.elim
      | panic ch => exact hp.elim
      | outgrown => exact hp.elim
    · rintro e W2 ⟨⟨v, rfl⟩, (⟨hi, hl, hk⟩ | ⟨hi, hl, hk⟩)⟩
      · exact ⟨none, _, by have := run_endLoop (P := P) hl (by rw [hmk]; simp); rw [hmk] at this; exact this, hdone _ _ (Nat.le_refl _) ((hI _).putObj (s := ()) _ hi (by omega) hl rfl) ((World.putObj_heap_other (by omega)).trans hk)⟩
      · exact ⟨some .ret, _, by have := run_endLoop (P := P) hl (by rw [hmk]; simp); rw [hmk] at this; exact this, hstop _ _ (Nat.le_refl _) (hIx.putObj (s := ()) _ hi (by omega) hl rfl) ((World.putObj_heap_other (by omega)).trans hk)⟩
end Go.Proofs.Ytmpondcccbmlhaa.Ext
