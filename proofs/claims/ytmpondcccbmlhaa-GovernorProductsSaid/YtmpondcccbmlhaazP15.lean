/- A part of the claim P: the texts Srt, without what the claim does not lean on. -/
import Derived.ArgAppend
import Derived.Below
import Derived.BigQuiet
import Derived.Deep.AppendLies
import Derived.Deep.CutBlock
import Derived.Deep.DeepCutAuto
import Derived.Deep.Draws
import Derived.Deep.LoopGhost
import Derived.Deep.OwnRows
import Derived.Deep.QuietTactic
import Derived.Deep.RegionHeld3
import Derived.Ground.Names2Prog
import Derived.Ground.SlgnProg
import Derived.Ground.SlsfProg
import Derived.KernelRfl
import Derived.Laws.BitsLemmas
import Derived.Laws.BytesArg
import Derived.Laws.IdiomCopy
import Derived.Laws.MakeOwn
import Derived.Laws.OwnMore
import Derived.Laws.Rows
import Derived.Laws.Slices
import Derived.Laws.StructEq
import Derived.Lib.AppendStr
import Derived.Lib.ConvBytes
import Derived.Lib.Hide
import Derived.Maps.AppendAt
import Derived.OrdersHeld
import Derived.Outline
import Derived.OwnWalk
import Derived.RowKit
import Derived.RowKit3
import Derived.Shelf.Abstract
import Derived.Shelf.SlSortCmp.HeapSort1
import Derived.Shelf.SlSortCmp.Insertion
import Derived.Shelf.SlSortCmp.Insertion1
import Derived.Shelf.SlSortCmp.Median1
import Derived.Shelf.SlSortCmp.PartialInsertion1
import Derived.Shelf.SlSortCmp.Partition1
import Derived.Shelf.SlSortCmp.PartitionEqual1
import Derived.Shelf.SlSortCmp.Pdq1
import Derived.Shelf.SlSortCmp.Pivot1
import Derived.Shelf.SlSortCmp.ReverseRange1
import Derived.Shelf.SlSortCmp.SiftDown1
import Derived.Shelf.SlSortCmp.Whole1
import Derived.Shelf.Slices.Clone
import Derived.Shelf.Slices.Empties2
import Derived.Shelf.Slices.Equal
import Derived.Shelf.Slices.In.SortNone
import Derived.Shelf.Slices.SearchI
import Derived.Shelf.Slices.Turned
import Derived.Shelf.SlicesE.Clone
import Derived.Shelf.Small.Bits
import Derived.Shelf.Small.Wraps
import Derived.Shelf.Sort.Plain
import Derived.Shelf.Strconv.Itoa0
import Derived.Tactics
import Derived.WalkKit
import Derived.WideLaws
import Derived.Test.YtmpondcccbmlhaaProg
import Derived.Test.YtmpondcccbmlhaazP0
import Derived.Test.YtmpondcccbmlhaazP1
import Derived.Test.YtmpondcccbmlhaazP2
import Derived.Test.YtmpondcccbmlhaazP3
import Derived.Test.YtmpondcccbmlhaazP4
import Derived.Test.YtmpondcccbmlhaazP5
import Derived.Test.YtmpondcccbmlhaazP6
import Derived.Test.YtmpondcccbmlhaazP7
import Derived.Test.YtmpondcccbmlhaazP8
import Derived.Test.YtmpondcccbmlhaazP9
import Derived.Test.YtmpondcccbmlhaazP11
import Derived.Test.YtmpondcccbmlhaazP12
import Derived.Test.YtmpondcccbmlhaazP13
import Derived.Test.YtmpondcccbmlhaazP14
namespace Go.Proofs.Ytmpondcccbmlhaa.Ext
open Go Go.RowKit Go.Shelf Go.Lib Go.Sort Go.Proofs.YtmpondcccbmlhaaW.PrintWords Go.Proofs.YtmpondcccbmlhaaW.PrintLast Go.Proofs.YtmpondcccbmlhaaW.PrintMore
def Cell (W : World) (base g : Nat) : Type := { p : Value × List Int // Kd.R (Kd.int .i64) 3 W base (fun k => k ≠ g ∧ k < W.heap.size) p.1 p.2 ∧ p.2.length ≤ 1000000 }
theorem ltOf_cmpL {α : Type} (f : α → List Int) (x y : α) : ltOf (fun a b => cmpL (f a) (f b)) x y = decide (cmpL (f x) (f y) < 0) := rfl
theorem swo_cmpL {α : Type} (f : α → List Int) : SWO (ltOf (fun a b => cmpL (f a) (f b))) where
  irrefl x := by rw [ltOf_cmpL, cmpL_self]; rfl
  trans x y z h1 h2 := by
    rw [ltOf_cmpL] at *
    simp only [decide_eq_true_eq] at *
    exact cmpL_trans _ _ _ h1 h2
  ntrans x y z h1 h2 := by
    rw [ltOf_cmpL] at *
    simp only [decide_eq_false_iff_not] at *
    exact cmpL_ntrans _ _ _ h1 h2
theorem sorted_rows {α : Type} [Inhabited α] (f : α → List Int) (d d' : Array α) (rows sorted : List (List Int)) (hd : d.toList.map f = rows) (hp : PermIn 0 d.size d d') (hs : SortedIn (ltOf (fun a b => cmpL (f a) (f b))) 0 d.size d')
    (hperm : rows.Perm sorted) (hsort : sorted.Pairwise (fun a b => cmpL a b < 0)) : d'.toList.map f = sorted := by
  obtain ⟨hsz, -, hpp⟩ := hp
  have hpp2 : d'.toList.Perm d.toList := by
    have e1 : d'.extract 0 d.size = d' := by rw [← hsz]; exact Array.extract_size
    have e2 : d.extract 0 d.size = d := Array.extract_size
    rwa [e1, e2] at hpp
  have hperm2 : (d'.toList.map f).Perm sorted := ((hpp2.map f).trans (by rw [hd])).trans hperm
  refine sorted_uniq (fun a b => cmpL a b < 0) cmpL_asymm _ _ hperm2 ?_ hsort
  have hnd : (d'.toList.map f).Nodup := by
    refine hperm2.nodup_iff.2 (hsort.imp ?_)
    intro a b h e
    rw [e, cmpL_self] at h; omega
  rw [List.pairwise_iff_getElem]
  intro i j hi hj hij
  simp only [List.getElem_map, Array.getElem_toList]
  simp only [List.length_map, Array.length_toList] at hi hj
  have h := hs i j (by omega) hij (by omega)
  rw [getElem!_pos d' j hj, getElem!_pos d' i hi, ltOf_cmpL, decide_eq_false_iff_not] at h
  have hne : f d'[i] ≠ f d'[j] := by
    have := (List.pairwise_iff_getElem.1 hnd) i j (by simpa using hi) (by simpa using hj) hij
    simpa using this
  by_cases h2 : cmpL (f d'[i]) (f d'[j]) < 0
  · exact h2
  · exfalso
    have key : ∀ a b : List Int, ¬ cmpL a b < 0 → ¬ cmpL b a < 0 → a = b := by
      intro a
      induction a with
      | nil => intro b h1 h2; cases b with
        | nil => rfl
        | cons y ys => simp [cmpL] at h1
      | cons x xs ih =>
        intro b h1 h2
        cases b with
        | nil => simp [cmpL] at h2
        | cons y ys =>
          simp only [cmpL] at h1 h2
          split at h1
          · omega
          · split at h2
            · omega
            · rename_i h3 h4
              have : x = y := by omega
              rw [this, ih ys (by simpa [h4, h3] using h1) (by simpa [h4, h3] using h2)]
    exact hne (key _ _ h2 h)
theorem heap_sortWorld {α : Type} [Inhabited α] (enc : α → Value) (w : World) (blk n : Nat) (d : Array α) (os : Array Obj) {k : Nat} (hk : k < w.heap.size) (hne : k ≠ blk) : (sortWorld enc w blk 0 n d os).heap[k]? = w.heap[k]? := by
  unfold sortWorld
  rw [heap_grow_old _ _ (by unfold putRow mapBlock Sort.ahead; simpa using hk)]
  unfold putRow mapBlock Sort.ahead
  simp only [Array.getElem?_modify]
  rw [if_neg (Ne.symm hne)]
theorem below_sortWorld {α : Type} [Inhabited α] (enc : α → Value) (w : World) (blk base n : Nat) (d : Array α) (os : Array Obj) (hb : base ≤ blk) (hw : base ≤ w.heap.size) : Go.RowKit.Below base w (sortWorld enc w blk 0 n d os) where
  block k hk := heap_sortWorld enc w blk n d os (by omega) (by omega)
  size := by unfold sortWorld putRow mapBlock Sort.ahead grow; simp
  tape := rfl
  os := rfl
  output := rfl
theorem sort_rows (base g cap : Nat) (w : World) (rows sorted : List (List Int)) (hl : ∀ r ∈ rows, r.length ≤ 1000000) (hn : 0 < rows.length) (hmax : rows.length ≤ 1000000)
    (h : Kd.S (Kd.slice 3 (Kd.int .i64)) 22 w base (fun _ => True) (.slice (some ⟨g, 0, none⟩) rows.length cap) rows) (hbase : base ≤ w.heap.size) (hperm : rows.Perm sorted) (hsort : sorted.Pairwise (fun a b => cmpL a b < 0)) :
    Calls Try.prog 84 #[.slice (some ⟨g, 0, none⟩) rows.length cap, .func (.func 85) #[] #[]] w fun e w' =>
      e = .returned (.tuple #[]) ∧ Below base w w' ∧ ∀ j, j < rows.length → ∃ v, w'.cell? ⟨g, j, none⟩ = some v ∧ Kd.R (Kd.int .i64) 3 w' base (fun _ => True) v (sorted.getD j []) := by
  have hR := Kd.S_R h
  have hgb := Kd.R_base hR g rfl
  have hgl := Kd.R_lt hR g rfl
  have hel : ∀ i, i < rows.length → ∃ v, w.cell? ⟨g, i, none⟩ = some v ∧ w.frozen? ⟨g, i, none⟩ = false ∧ Kd.R (Kd.int .i64) 3 w base (fun k => k ≠ g ∧ k < w.heap.size) v (rows.getD i []) := by
    intro i hi
    obtain ⟨c, hc, hM, hcell, hfr⟩ := Kd.R_elem hR [] (i : Int) (by omega) (by omega)
    rw [Int.toNat_natCast] at hM hcell hfr
    obtain ⟨v, rfl, hv⟩ := hM
    have e1 : (Kd.slice 3 (Kd.int .i64)).sz = 1 := rfl
    rw [e1] at hcell hfr
    refine ⟨v, by simpa using hcell 0 v rfl, by simpa using hfr 0, Kd.R_mono (Kd.R_bound hv) (fun k hk => ⟨hk.1.2, hk.2.2.1⟩)⟩
  have hch : ∀ i : Fin rows.length, ∃ p : Cell w base g, w.cell? ⟨g, i.1, none⟩ = some p.1.1 ∧ w.frozen? ⟨g, i.1, none⟩ = false ∧ p.1.2 = rows.getD i.1 [] := by
    intro i
    obtain ⟨v, h1, h2, h3⟩ := hel i.1 i.2
    exact ⟨⟨(v, rows.getD i.1 []), h3, hl _ (by rw [List.getD_eq_getElem?_getD, List.getElem?_eq_getElem i.2]; exact List.getElem_mem i.2)⟩, h1, h2, rfl⟩
  obtain ⟨pick, hpick⟩ := Classical.axiomOfChoice hch
  let inst : Inhabited (Cell w base g) := ⟨pick ⟨0, hn⟩⟩
  obtain ⟨d, hd⟩ : ∃ d : Array (Cell w base g), d = Array.ofFn pick := ⟨_, rfl⟩
  have hds : d.size = rows.length := by rw [hd, Array.size_ofFn]
  have hdi : ∀ j (hj : j < rows.length), d[j]! = pick ⟨j, hj⟩ := by
    intro j hj
    rw [getElem!_pos d j (by omega)]
    simp only [hd, Array.getElem_ofFn]
  have hdl : d.toList.map (fun p => p.1.2) = rows := by
    refine List.ext_getElem (by simp [hds]) fun i h1 h2 => ?_
    simp only [List.getElem_map, Array.getElem_toList]
    have := hdi i h2
    rw [getElem!_pos d i (by omega)] at this
    rw [this, (hpick ⟨i, h2⟩).2.2, List.getD_eq_getElem?_getD, List.getElem?_eq_getElem h2]; rfl
  have hH : Holds (fun p : Cell w base g => p.1.1) w g 0 d := by
    intro j hj
    rw [Nat.zero_add, hdi j (by omega)]
    exact ⟨(hpick ⟨j, by omega⟩).1, (hpick ⟨j, by omega⟩).2.1⟩
  have h1c : OneCell (fun p : Cell w base g => p.1.1) := by
    intro p
    obtain ⟨A, c, e⟩ := Kd.R_slice p.2.1
    show p.1.1.oneCell' = true
    rw [e]; rfl
  have hcmp : CmpLays1 Try.prog 85 #[] (fun p : Cell w base g => p.1.1) (fun a b => cmpL a.1.2 b.1.2) g 0 d.size w := by
    intro m os dk hsz x y
    have hmv : ∀ p : Cell w base g, Kd.R (Kd.int .i64) 3 (sortWorld (fun p : Cell w base g => p.1.1) w g 0 m dk os) base (fun k => k ≠ g ∧ k < w.heap.size) p.1.1 p.1.2 := fun p =>
      Kd.R_move p.2.1 (fun k hk => heap_sortWorld _ w g m dk os hk.2 hk.1)
    obtain ⟨A, c, ex, hxl, hxc⟩ := Kd.R_reads (hmv x)
    obtain ⟨A2, c2, ey, hyl, hyc⟩ := Kd.R_reads (hmv y)
    show Calls Try.prog 85 (#[x.1.1, y.1.1] ++ #[]) _ _
    rw [Array.append_empty, ex, ey]
    refine (B.slices_Compare_int_int.calls (x.1.2.length + 1) A c x.1.2 A2 c2 y.1.2 (cmpL x.1.2 y.1.2) _ hxc hxl hyc hyl (compare_eval _ _ x.2.2 _ (by omega))).mono ?_
    rintro e w' ⟨rfl, ⟨q, rfl⟩⟩
    exact ⟨rfl, q, #[], by rw [grow_empty]⟩
  have hsort1 := Try.slices_SortFunc (fun p : Cell w base g => p.1.1) h1c (fun a b => cmpL a.1.2 b.1.2) (swo_cmpL _) 85 #[] g 0 cap d w (enters_of Try.func85 (by kernel_rfl) rfl) hcmp hH hgl (by omega)
  rw [← hds]
  refine hsort1.mono ?_
  rintro e w' ⟨he, d', n, os, hp, hs, rfl⟩
  have hsl := sorted_rows (fun p : Cell w base g => p.1.2) d d' rows sorted hdl hp hs hperm hsort
  have hd's : d'.size = d.size := hp.1
  refine ⟨he, below_sortWorld _ _ _ _ _ _ _ hgb hbase, fun j hj => ⟨d'[j]!.1.1, ?_, ?_⟩⟩
  · unfold sortWorld
    rw [cell?_grow _ _ _ (by unfold putRow mapBlock Sort.ahead; simpa using hgl)]
    have := cell?_putRow (fun p : Cell w base g => p.1.1) (Sort.ahead w n) g 0 d d' (holds_ahead _ _ _ _ _ _ hH) hd's j (by omega)
    rwa [Nat.zero_add] at this
  · have hj' : j < d'.size := by omega
    have e2 : sorted.getD j [] = d'[j]!.1.2 := by
      rw [← hsl, getElem!_pos d' j hj', List.getD_eq_getElem?_getD, List.getElem?_eq_getElem (by simpa using hj')]
      simp
    rw [e2]
    exact Kd.R_mono (Kd.R_move d'[j]!.2.1 (fun k hk => heap_sortWorld _ w g n d' os hk.2 hk.1)) (fun _ _ => trivial)
end Go.Proofs.Ytmpondcccbmlhaa.Ext
