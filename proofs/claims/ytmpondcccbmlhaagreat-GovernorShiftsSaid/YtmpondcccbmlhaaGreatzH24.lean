/- A part of the claim H: the texts TryzShelf, without what the claim does not lean on. -/
import Derived.Ground.SlsfProg
import Derived.Shelf.SlSortCmp.HeapSort1
import Derived.Shelf.SlSortCmp.Insertion
import Derived.Shelf.SlSortCmp.Insertion1
import Derived.Shelf.SlSortCmp.Median1
import Derived.Shelf.SlSortCmp.PartialInsertion1
import Derived.Shelf.SlSortCmp.Partition1
import Derived.Shelf.SlSortCmp.PartitionEqual1
import Derived.Shelf.SlSortCmp.Pdq1
import Derived.Shelf.SlSortCmp.Pivot1
import Derived.Shelf.SlSortCmp.ReverseRange1
import Derived.Shelf.SlSortCmp.SiftDown1
import Derived.Shelf.SlSortCmp.Whole1
import Derived.Shelf.Slices.Empties2
import Derived.Shelf.Slices.Equal
import Derived.Shelf.Slices.In.SortNone
import Derived.Shelf.Small.Bits
import Derived.Shelf.Sort.Plain
import Derived.Shelf.Strconv.Itoa0
import Derived.Test.YtmpondcccbmlhaaGreatProg
namespace Go.Proofs
open Go.Shelf
def Tryz.lays189_ren : Go.Shelf.Ren := ⟨fun | 189 => 139 | 125 => 161 | 257 => 160 | 128 => 184 | 129 => 185 | 294 => 175 | 295 => 176 | 296 => 177 | 297 => 178 | 298 => 179 | 299 => 180 | 216 => 181 | 300 => 182 | 301 => 183 | 328 => 198 | 329 => 199 | 330 => 200 | 331 => 201 | 332 => 202 | 215 => 197 | 343 => 206 | n => n, fun | 28 => 22 | 3 => 3 | 46 => 172 | 0 => 0 | 51 => 197 | 53 => 199 | 4 => 4 | 183 => 203 | 182 => 202 | 131 => 137 | 5 => 5 | 9 => 9 | 218 => 213 | 222 => 217 | 228 => 221 | 229 => 51 | n => n, fun | n => n⟩
theorem Tryz.lays189 : Go.Proofs.Lays.n189 Tryz.prog Tryz.lays189_ren := {
 mixed := by kernel_rfl
 f125 := Tryz.func161.trans (congrArg some (by kernel_rfl))
 f128 := Tryz.func184.trans (congrArg some (by kernel_rfl))
 f129 := Tryz.func185.trans (congrArg some (by kernel_rfl))
 f189 := Tryz.func139.trans (congrArg some (by kernel_rfl))
 f215 := Tryz.func197.trans (congrArg some (by kernel_rfl))
 f216 := Tryz.func181.trans (congrArg some (by kernel_rfl))
 f257 := Tryz.func160.trans (congrArg some (by kernel_rfl))
 f294 := Tryz.func175.trans (congrArg some (by kernel_rfl))
 f295 := Tryz.func176.trans (congrArg some (by kernel_rfl))
 f296 := Tryz.func177.trans (congrArg some (by kernel_rfl))
 f297 := Tryz.func178.trans (congrArg some (by kernel_rfl))
 f298 := Tryz.func179.trans (congrArg some (by kernel_rfl))
 f299 := Tryz.func180.trans (congrArg some (by kernel_rfl))
 f300 := Tryz.func182.trans (congrArg some (by kernel_rfl))
 f301 := Tryz.func183.trans (congrArg some (by kernel_rfl))
 f328 := Tryz.func198.trans (congrArg some (by kernel_rfl))
 f329 := Tryz.func199.trans (congrArg some (by kernel_rfl))
 f330 := Tryz.func200.trans (congrArg some (by kernel_rfl))
 f331 := Tryz.func201.trans (congrArg some (by kernel_rfl))
 f332 := Tryz.func202.trans (congrArg some (by kernel_rfl))
 f343 := Tryz.func206.trans (congrArg some (by kernel_rfl))
 t0 := Tryz.underlying0
 a0 := Tryz.isAgg0
 z0 := Tryz.sizeOf0
 v0 := Tryz.zeroValue0
 t3 := Tryz.underlying3
 a3 := Tryz.isAgg3
 z3 := Tryz.sizeOf3
 v3 := Tryz.zeroValue3
 t4 := Tryz.underlying4
 a4 := Tryz.isAgg4
 z4 := Tryz.sizeOf4
 v4 := Tryz.zeroValue4
 t5 := Tryz.underlying5
 a5 := Tryz.isAgg5
 z5 := Tryz.sizeOf5
 v5 := Tryz.zeroValue5
 t9 := Tryz.underlying9
 a9 := Tryz.isAgg9
 z9 := Tryz.sizeOf9
 v9 := Tryz.zeroValue9
 t28 := Tryz.underlying22
 a28 := Tryz.isAgg22
 z28 := Tryz.sizeOf22
 v28 := Tryz.zeroValue22
 t46 := Tryz.underlying172
 a46 := Tryz.isAgg172
 z46 := Tryz.sizeOf172
 v46 := Tryz.zeroValue172
 t51 := Tryz.underlying197
 a51 := Tryz.isAgg197
 z51 := Tryz.sizeOf197
 v51 := Tryz.zeroValue197
 t53 := Tryz.underlying199
 a53 := Tryz.isAgg199
 z53 := Tryz.sizeOf199
 v53 := Tryz.zeroValue199
 t131 := Tryz.underlying137
 a131 := Tryz.isAgg137
 z131 := Tryz.sizeOf137
 v131 := Tryz.zeroValue137
 t182 := Tryz.underlying202
 a182 := Tryz.isAgg202
 z182 := Tryz.sizeOf202
 v182 := Tryz.zeroValue202
 t183 := Tryz.underlying203
 a183 := Tryz.isAgg203
 z183 := Tryz.sizeOf203
 v183 := Tryz.zeroValue203
 t218 := Tryz.underlying213
 a218 := Tryz.isAgg213
 z218 := Tryz.sizeOf213
 v218 := Tryz.zeroValue213
 t222 := Tryz.underlying217
 a222 := Tryz.isAgg217
 z222 := Tryz.sizeOf217
 v222 := Tryz.zeroValue217
 t228 := Tryz.underlying221
 a228 := Tryz.isAgg221
 z228 := Tryz.sizeOf221
 v228 := Tryz.zeroValue221
 t229 := Tryz.underlying51
 a229 := Tryz.isAgg51
 z229 := Tryz.sizeOf51
 v229 := Tryz.zeroValue51 }
open Go.Sort Go.RowKit in
theorem Tryz.slices_Sort_int (blk off cap : Nat) (zs : List Int) (w : World) (hH : Holds (Value.int .i64) w blk off zs.toArray) (hblk : blk < w.heap.size) (hsz : zs.length < 4611686018427387904) :
  Calls Tryz.prog 139 #[.slice (some ⟨blk, off, none⟩) zs.length cap] w fun e w' =>
   e = .returned (.tuple #[]) ∧ ∃ n os, w' = grow (putRow (Value.int .i64) (Sort.ahead w n) blk off (zs.mergeSort fun x y => decide (x ≤ y)).toArray) os := Any.slices_Sort_int Tryz.lays189 blk off cap zs w hH hblk hsz
def Tryz.laysSlF6_f156_ren : Go.Shelf.Ren := ⟨fun | 6 => 156 | 15 => 161 | 14 => 173 | 28 => 184 | 29 => 185 | 20 => 189 | 21 => 190 | 22 => 191 | 23 => 192 | 24 => 193 | 25 => 194 | 26 => 195 | 27 => 196 | 46 => 203 | 47 => 199 | 48 => 200 | 49 => 204 | 50 => 205 | 57 => 207 | n => n, fun | 22 => 46 | 24 => 22 | 25 => 189 | 3 => 3 | 39 => 172 | 0 => 0 | 53 => 197 | 55 => 199 | 4 => 4 | 46 => 203 | 45 => 202 | 50 => 137 | 5 => 5 | 9 => 9 | 66 => 213 | 70 => 217 | 76 => 221 | 77 => 51 | n => n, fun | n => n⟩
theorem Tryz.laysSlF6_f156 : Go.Proofs.SlLaysF.n6 Tryz.prog Tryz.laysSlF6_f156_ren := {
 mixed := by kernel_rfl
 f6 := ⟨Tryz.f156.name, by decide, Tryz.func156.trans (congrArg some (by kernel_rfl))⟩
 f14 := ⟨Tryz.f173.name, by decide, Tryz.func173.trans (congrArg some (by kernel_rfl))⟩
 f15 := Tryz.func161.trans (congrArg some (by kernel_rfl))
 f20 := ⟨Tryz.f189.name, by decide, Tryz.func189.trans (congrArg some (by kernel_rfl))⟩
 f21 := ⟨Tryz.f190.name, by decide, Tryz.func190.trans (congrArg some (by kernel_rfl))⟩
 f22 := ⟨Tryz.f191.name, by decide, Tryz.func191.trans (congrArg some (by kernel_rfl))⟩
 f23 := ⟨Tryz.f192.name, by decide, Tryz.func192.trans (congrArg some (by kernel_rfl))⟩
 f24 := ⟨Tryz.f193.name, by decide, Tryz.func193.trans (congrArg some (by kernel_rfl))⟩
 f25 := ⟨Tryz.f194.name, by decide, Tryz.func194.trans (congrArg some (by kernel_rfl))⟩
 f26 := ⟨Tryz.f195.name, by decide, Tryz.func195.trans (congrArg some (by kernel_rfl))⟩
 f27 := ⟨Tryz.f196.name, by decide, Tryz.func196.trans (congrArg some (by kernel_rfl))⟩
 f28 := Tryz.func184.trans (congrArg some (by kernel_rfl))
 f29 := Tryz.func185.trans (congrArg some (by kernel_rfl))
 f46 := ⟨Tryz.f203.name, by decide, Tryz.func203.trans (congrArg some (by kernel_rfl))⟩
 f47 := Tryz.func199.trans (congrArg some (by kernel_rfl))
 f48 := Tryz.func200.trans (congrArg some (by kernel_rfl))
 f49 := ⟨Tryz.f204.name, by decide, Tryz.func204.trans (congrArg some (by kernel_rfl))⟩
 f50 := ⟨Tryz.f205.name, by decide, Tryz.func205.trans (congrArg some (by kernel_rfl))⟩
 f57 := ⟨Tryz.f207.name, by decide, Tryz.func207.trans (congrArg some (by kernel_rfl))⟩
 t0 := Tryz.underlying0
 a0 := Tryz.isAgg0
 z0 := Tryz.sizeOf0
 v0 := Tryz.zeroValue0
 t3 := Tryz.underlying3
 a3 := Tryz.isAgg3
 z3 := Tryz.sizeOf3
 v3 := Tryz.zeroValue3
 t4 := Tryz.underlying4
 a4 := Tryz.isAgg4
 z4 := Tryz.sizeOf4
 v4 := Tryz.zeroValue4
 t5 := Tryz.underlying5
 a5 := Tryz.isAgg5
 z5 := Tryz.sizeOf5
 v5 := Tryz.zeroValue5
 t9 := Tryz.underlying9
 a9 := Tryz.isAgg9
 z9 := Tryz.sizeOf9
 v9 := Tryz.zeroValue9
 t22 := Tryz.underlying46
 a22 := Tryz.isAgg46
 z22 := Tryz.sizeOf46
 v22 := Tryz.zeroValue46
 a24 := Tryz.isAgg22
 z24 := Tryz.sizeOf22
 t25 := Tryz.underlying189
 a25 := Tryz.isAgg189
 z25 := Tryz.sizeOf189
 v25 := Tryz.zeroValue189
 t39 := Tryz.underlying172
 a39 := Tryz.isAgg172
 z39 := Tryz.sizeOf172
 v39 := Tryz.zeroValue172
 t45 := Tryz.underlying202
 a45 := Tryz.isAgg202
 z45 := Tryz.sizeOf202
 v45 := Tryz.zeroValue202
 t46 := Tryz.underlying203
 a46 := Tryz.isAgg203
 z46 := Tryz.sizeOf203
 v46 := Tryz.zeroValue203
 t50 := Tryz.underlying137
 a50 := Tryz.isAgg137
 z50 := Tryz.sizeOf137
 v50 := Tryz.zeroValue137
 t53 := Tryz.underlying197
 a53 := Tryz.isAgg197
 z53 := Tryz.sizeOf197
 v53 := Tryz.zeroValue197
 t55 := Tryz.underlying199
 a55 := Tryz.isAgg199
 z55 := Tryz.sizeOf199
 v55 := Tryz.zeroValue199
 t66 := Tryz.underlying213
 a66 := Tryz.isAgg213
 z66 := Tryz.sizeOf213
 v66 := Tryz.zeroValue213
 t70 := Tryz.underlying217
 a70 := Tryz.isAgg217
 z70 := Tryz.sizeOf217
 v70 := Tryz.zeroValue217
 t76 := Tryz.underlying221
 a76 := Tryz.isAgg221
 z76 := Tryz.sizeOf221
 v76 := Tryz.zeroValue221
 t77 := Tryz.underlying51
 a77 := Tryz.isAgg51
 z77 := Tryz.sizeOf51
 v77 := Tryz.zeroValue51 }
open Go.RowKit Go.Lib Go.Sort in
theorem Tryz.slices_SortFunc {α : Type} [Inhabited α] (enc : α → Value) (h1 : OneCell enc) (cf : α → α → Int) (hO : SWO (ltOf cf)) (g : Nat) (cb : Array Value) (blk off cap : Nat) (d : Array α) (w : World) (eg : ∀ args w, (callFunc g args).run Tryz.prog w = .ok (.enter g args) w) (hcmp : CmpLays1 Tryz.prog g cb enc cf blk off d.size w) (hH : Holds enc w blk off d) (hblk : blk < w.heap.size) (hsz : d.size < 4611686018427387904) :
  Calls Tryz.prog 156 #[.slice (some ⟨blk, off, none⟩) d.size cap, .func (.func g) #[] cb] w fun e w' =>
   e = .returned (.tuple #[]) ∧ ∃ d' n os, PermIn 0 d.size d d' ∧ SortedIn (ltOf cf) 0 d.size d' ∧ w' = sortWorld enc w blk off n d' os := Any.slices_SortFunc Tryz.laysSlF6_f156 enc h1 cf hO g cb blk off cap d w eg hcmp hH hblk hsz
end Go.Proofs
