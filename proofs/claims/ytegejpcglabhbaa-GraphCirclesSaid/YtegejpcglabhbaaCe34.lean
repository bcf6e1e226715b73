/- A part of this claim's proof: texts of its author, and printed ones, packed by a program of its author's. -/
import Derived.Shelf.Sort.Plain
import Derived.Shelf.Slices.Turned
import Derived.Shelf.Slices.CompactI
import Derived.Shelf.Slices.Delete
import Derived.Shelf.Slices.In.SortNone
import Derived.Test.YtegejpcglabhbaaProg
namespace Go.Proofs
open Go.Shelf
def Try.lays189_ren : Go.Shelf.Ren := ⟨fun | 189 => 95 | 125 => 102 | 257 => 101 | 128 => 119 | 129 => 120 | 294 => 110 | 295 => 111 | 296 => 112 | 297 => 113 | 298 => 114 | 299 => 115 | 216 => 116 | 300 => 117 | 301 => 118 | 328 => 126 | 329 => 127 | 330 => 128 | 331 => 129 | 332 => 130 | 215 => 131 | 343 => 133 | n => n, fun | 28 => 25 | 3 => 3 | 46 => 140 | 0 => 0 | 51 => 157 | 53 => 159 | 4 => 4 | 183 => 150 | 182 => 149 | 131 => 154 | 5 => 5 | 9 => 9 | 218 => 164 | 222 => 168 | 228 => 171 | 229 => 111 | n => n, fun | n => n⟩
theorem Try.lays189 : Go.Proofs.Lays.n189 Try.prog Try.lays189_ren := {
 mixed := by kernel_rfl
 f125 := Try.func102.trans (congrArg some (by kernel_rfl))
 f128 := Try.func119.trans (congrArg some (by kernel_rfl))
 f129 := Try.func120.trans (congrArg some (by kernel_rfl))
 f189 := Try.func95.trans (congrArg some (by kernel_rfl))
 f215 := Try.func131.trans (congrArg some (by kernel_rfl))
 f216 := Try.func116.trans (congrArg some (by kernel_rfl))
 f257 := Try.func101.trans (congrArg some (by kernel_rfl))
 f294 := Try.func110.trans (congrArg some (by kernel_rfl))
 f295 := Try.func111.trans (congrArg some (by kernel_rfl))
 f296 := Try.func112.trans (congrArg some (by kernel_rfl))
 f297 := Try.func113.trans (congrArg some (by kernel_rfl))
 f298 := Try.func114.trans (congrArg some (by kernel_rfl))
 f299 := Try.func115.trans (congrArg some (by kernel_rfl))
 f300 := Try.func117.trans (congrArg some (by kernel_rfl))
 f301 := Try.func118.trans (congrArg some (by kernel_rfl))
 f328 := Try.func126.trans (congrArg some (by kernel_rfl))
 f329 := Try.func127.trans (congrArg some (by kernel_rfl))
 f330 := Try.func128.trans (congrArg some (by kernel_rfl))
 f331 := Try.func129.trans (congrArg some (by kernel_rfl))
 f332 := Try.func130.trans (congrArg some (by kernel_rfl))
 f343 := Try.func133.trans (congrArg some (by kernel_rfl))
 t0 := Try.underlying0
 a0 := Try.isAgg0
 z0 := Try.sizeOf0
 v0 := Try.zeroValue0
 t3 := Try.underlying3
 a3 := Try.isAgg3
 z3 := Try.sizeOf3
 v3 := Try.zeroValue3
 t4 := Try.underlying4
 a4 := Try.isAgg4
 z4 := Try.sizeOf4
 v4 := Try.zeroValue4
 t5 := Try.underlying5
 a5 := Try.isAgg5
 z5 := Try.sizeOf5
 v5 := Try.zeroValue5
 t9 := Try.underlying9
 a9 := Try.isAgg9
 z9 := Try.sizeOf9
 v9 := Try.zeroValue9
 t28 := Try.underlying25
 a28 := Try.isAgg25
 z28 := Try.sizeOf25
 v28 := Try.zeroValue25
 t46 := Try.underlying140
 a46 := Try.isAgg140
 z46 := Try.sizeOf140
 v46 := Try.zeroValue140
 t51 := Try.underlying157
 a51 := Try.isAgg157
 z51 := Try.sizeOf157
 v51 := Try.zeroValue157
 t53 := Try.underlying159
 a53 := Try.isAgg159
 z53 := Try.sizeOf159
 v53 := Try.zeroValue159
 t131 := Try.underlying154
 a131 := Try.isAgg154
 z131 := Try.sizeOf154
 v131 := Try.zeroValue154
 t182 := Try.underlying149
 a182 := Try.isAgg149
 z182 := Try.sizeOf149
 v182 := Try.zeroValue149
 t183 := Try.underlying150
 a183 := Try.isAgg150
 z183 := Try.sizeOf150
 v183 := Try.zeroValue150
 t218 := Try.underlying164
 a218 := Try.isAgg164
 z218 := Try.sizeOf164
 v218 := Try.zeroValue164
 t222 := Try.underlying168
 a222 := Try.isAgg168
 z222 := Try.sizeOf168
 v222 := Try.zeroValue168
 t228 := Try.underlying171
 a228 := Try.isAgg171
 z228 := Try.sizeOf171
 v228 := Try.zeroValue171
 t229 := Try.underlying111
 a229 := Try.isAgg111
 z229 := Try.sizeOf111
 v229 := Try.zeroValue111 }
open Go.Sort Go.RowKit in
theorem Try.slices_Sort_int (blk off cap : Nat) (zs : List Int) (w : World) (hH : Holds (Value.int .i64) w blk off zs.toArray) (hblk : blk < w.heap.size) (hsz : zs.length < 4611686018427387904) :
  Calls Try.prog 95 #[.slice (some ⟨blk, off, none⟩) zs.length cap] w fun e w' =>
   e = .returned (.tuple #[]) ∧ ∃ n os, w' = grow (putRow (Value.int .i64) (Sort.ahead w n) blk off (zs.mergeSort fun x y => decide (x ≤ y)).toArray) os := Any.slices_Sort_int Try.lays189 blk off cap zs w hH hblk hsz
def Try.lays107_ren : Go.Shelf.Ren := ⟨fun | 107 => 82 | 108 => 98 | n => n, fun | 28 => 25 | 3 => 3 | 4 => 4 | 0 => 0 | n => n, fun | n => n⟩
theorem Try.lays107 : Go.Proofs.Lays.n107 Try.prog Try.lays107_ren := {
 mixed := by kernel_rfl
 f107 := Try.func82.trans (congrArg some (by kernel_rfl))
 f108 := Try.func98.trans (congrArg some (by kernel_rfl))
 t0 := Try.underlying0
 a0 := Try.isAgg0
 z0 := Try.sizeOf0
 v0 := Try.zeroValue0
 t3 := Try.underlying3
 a3 := Try.isAgg3
 z3 := Try.sizeOf3
 v3 := Try.zeroValue3
 t4 := Try.underlying4
 a4 := Try.isAgg4
 z4 := Try.sizeOf4
 v4 := Try.zeroValue4
 t28 := Try.underlying25
 a28 := Try.isAgg25
 z28 := Try.sizeOf25
 v28 := Try.zeroValue25 }
open Go.Lib in
theorem Try.slices_Contains_int (b off n c : Nat) (zs : List Int) (x : Int) (w : World) (hz : n ≤ zs.length) (hbig : n ≤ 9223372036854775807) (hc : ∀ j, j < zs.length → w.cell? ⟨b, off + j, none⟩ = some (.int .i64 (zs.getD j 0))) :
  Calls Try.prog 82 #[.slice (some ⟨b, off, none⟩) n c, .int .i64 x] w fun e w' => e = .returned (.bool ((zs.take n).contains x)) ∧ w' = w := Any.slices_Contains_int Try.lays107 b off n c zs x w hz hbig hc
def Try.laysNm220_ren : Go.Shelf.Ren := ⟨fun | 20 => 96 | n => n, fun | 22 => 25 | 3 => 3 | 4 => 4 | 0 => 0 | n => n, fun | n => n⟩
theorem Try.laysNm220 : Go.Proofs.Lays2.n20 Try.prog Try.laysNm220_ren := {
 mixed := by kernel_rfl
 f20 := Try.func96.trans (congrArg some (by kernel_rfl))
 t0 := Try.underlying0
 a0 := Try.isAgg0
 z0 := Try.sizeOf0
 v0 := Try.zeroValue0
 t3 := Try.underlying3
 a3 := Try.isAgg3
 z3 := Try.sizeOf3
 v3 := Try.zeroValue3
 t4 := Try.underlying4
 a4 := Try.isAgg4
 z4 := Try.sizeOf4
 v4 := Try.zeroValue4
 t22 := Try.underlying25
 a22 := Try.isAgg25
 z22 := Try.sizeOf25
 v22 := Try.zeroValue25
 i3 := by kernel_rfl }
open Go.RowKit Go.Lib Go.Sort in
theorem Try.slices_Compact_int (blk off cap : Nat) (zs : List Int) (w : World) (hH : Holds (Value.int .i64) w blk off zs.toArray) (hsz : zs.length ≤ 9223372036854775807) (hcap : zs.length ≤ cap) :
  Calls Try.prog 96 #[.slice (some ⟨blk, off, none⟩) zs.length cap] w fun e w' => e = .returned (.slice (some ⟨blk, off, none⟩) (Lib.compact zs).length cap) ∧ ∃ q, w' = putRow (Value.int .i64) (Sort.ahead w q) blk off (Lib.compact zs ++ List.replicate (zs.length - (Lib.compact zs).length) 0).toArray := Any.slices_Compact_int Try.laysNm220 blk off cap zs w hH hsz hcap
open Go.RowKit Go.Lib Go.Sort in
theorem Try.slices_Compact_int_empty (a : Option Addr) (cap : Nat) (w : World) :
  Calls Try.prog 96 #[.slice a 0 cap] w fun e w' => e = .returned (.slice a 0 cap) ∧ w' = w := Any.slices_Compact_int_empty Try.laysNm220 a cap w
def Try.laysNm223_ren : Go.Shelf.Ren := ⟨fun | 23 => 80 | n => n, fun | 22 => 25 | 3 => 3 | 4 => 4 | 0 => 0 | n => n, fun | n => n⟩
theorem Try.laysNm223 : Go.Proofs.Lays2.n23 Try.prog Try.laysNm223_ren := {
 mixed := by kernel_rfl
 f23 := Try.func80.trans (congrArg some (by kernel_rfl))
 t0 := Try.underlying0
 a0 := Try.isAgg0
 z0 := Try.sizeOf0
 v0 := Try.zeroValue0
 t3 := Try.underlying3
 a3 := Try.isAgg3
 z3 := Try.sizeOf3
 v3 := Try.zeroValue3
 t4 := Try.underlying4
 a4 := Try.isAgg4
 z4 := Try.sizeOf4
 v4 := Try.zeroValue4
 t22 := Try.underlying25
 a22 := Try.isAgg25
 z22 := Try.sizeOf25
 v22 := Try.zeroValue25
 i3 := by kernel_rfl }
open Go.RowKit Go.Lib Go.Sort in
theorem Try.slices_Delete_int (blk off cap i j : Nat) (zs : List Int) (w : World) (hH : Holds (Value.int .i64) w blk off zs.toArray) (hcap : zs.length ≤ cap) (hm : cap ≤ 9223372036854775807) (hij : i ≤ j) (hj : j ≤ zs.length) :
  Calls Try.prog 80 #[.slice (some ⟨blk, off, none⟩) zs.length cap, .int .i64 i, .int .i64 j] w fun e w' => e = .returned (.slice (some ⟨blk, off, none⟩) (zs.length - (j - i)) cap) ∧ ∃ q, w' = putRow (Value.int .i64) (Sort.ahead w q) blk off (zs.take i ++ zs.drop j ++ List.replicate (j - i) 0).toArray := Any.slices_Delete_int Try.laysNm223 blk off cap i j zs w hH hcap hm hij hj
open Go.RowKit Go.Sort in
theorem Try.slices_Sort_int_none (p : Option Addr) (cap : Nat) (w : World) :
  Calls Try.prog 95 #[.slice p 0 cap] w fun e w' => e = .returned (.tuple #[]) ∧ w' = w := Any.slices_Sort_int_none Try.lays189 p cap w
end Go.Proofs
