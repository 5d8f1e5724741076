/-
  The library's sort of integers: the contract of the shelf, laid at this program.
  No condition.
-/
import Derived.Shelf.Sort.Plain
import Derived.Ground.Names2Prog
import Derived.Shelf.Slices.CompactI
import Derived.Shelf.Slices.In.SortNone
import Derived.Test.YtikiohlamlipnaaGreatPzB
import Derived.Test.YtikiohlamlipnaaGreatPS
namespace Go.Proofs
open Go.Shelf
def Tryz.lays189_ren : Go.Shelf.Ren := ⟨fun | 189 => 46 | 125 => 100 | 257 => 99 | 128 => 146 | 129 => 147 | 294 => 137 | 295 => 138 | 296 => 139 | 297 => 140 | 298 => 141 | 299 => 142 | 216 => 143 | 300 => 144 | 301 => 145 | 328 => 168 | 329 => 169 | 330 => 170 | 331 => 171 | 332 => 172 | 215 => 173 | 343 => 184 | n => n, fun | 28 => 29 | 3 => 3 | 46 => 118 | 0 => 0 | 51 => 156 | 53 => 61 | 4 => 4 | 183 => 150 | 182 => 149 | 131 => 46 | 5 => 5 | 9 => 9 | 218 => 174 | 222 => 178 | 228 => 195 | 229 => 196 | n => n, fun | n => n⟩
theorem Tryz.lays189 : Go.Proofs.Lays.n189 Tryz.prog Tryz.lays189_ren := {
 mixed := by kernel_rfl
 f125 := Tryz.func100.trans (congrArg some (by kernel_rfl))
 f128 := Tryz.func146.trans (congrArg some (by kernel_rfl))
 f129 := Tryz.func147.trans (congrArg some (by kernel_rfl))
 f189 := Tryz.func46.trans (congrArg some (by kernel_rfl))
 f215 := Tryz.func173.trans (congrArg some (by kernel_rfl))
 f216 := Tryz.func143.trans (congrArg some (by kernel_rfl))
 f257 := Tryz.func99.trans (congrArg some (by kernel_rfl))
 f294 := Tryz.func137.trans (congrArg some (by kernel_rfl))
 f295 := Tryz.func138.trans (congrArg some (by kernel_rfl))
 f296 := Tryz.func139.trans (congrArg some (by kernel_rfl))
 f297 := Tryz.func140.trans (congrArg some (by kernel_rfl))
 f298 := Tryz.func141.trans (congrArg some (by kernel_rfl))
 f299 := Tryz.func142.trans (congrArg some (by kernel_rfl))
 f300 := Tryz.func144.trans (congrArg some (by kernel_rfl))
 f301 := Tryz.func145.trans (congrArg some (by kernel_rfl))
 f328 := Tryz.func168.trans (congrArg some (by kernel_rfl))
 f329 := Tryz.func169.trans (congrArg some (by kernel_rfl))
 f330 := Tryz.func170.trans (congrArg some (by kernel_rfl))
 f331 := Tryz.func171.trans (congrArg some (by kernel_rfl))
 f332 := Tryz.func172.trans (congrArg some (by kernel_rfl))
 f343 := Tryz.func184.trans (congrArg some (by kernel_rfl))
 t0 := Tryz.underlying0
 a0 := Tryz.isAgg0
 z0 := Tryz.sizeOf0
 v0 := Tryz.zeroValue0
 t3 := Tryz.underlying3
 a3 := Tryz.isAgg3
 z3 := Tryz.sizeOf3
 v3 := Tryz.zeroValue3
 t4 := Tryz.underlying4
 a4 := Tryz.isAgg4
 z4 := Tryz.sizeOf4
 v4 := Tryz.zeroValue4
 t5 := Tryz.underlying5
 a5 := Tryz.isAgg5
 z5 := Tryz.sizeOf5
 v5 := Tryz.zeroValue5
 t9 := Tryz.underlying9
 a9 := Tryz.isAgg9
 z9 := Tryz.sizeOf9
 v9 := Tryz.zeroValue9
 t28 := Tryz.underlying29
 a28 := Tryz.isAgg29
 z28 := Tryz.sizeOf29
 v28 := Tryz.zeroValue29
 t46 := Tryz.underlying118
 a46 := Tryz.isAgg118
 z46 := Tryz.sizeOf118
 v46 := Tryz.zeroValue118
 t51 := Tryz.underlying156
 a51 := Tryz.isAgg156
 z51 := Tryz.sizeOf156
 v51 := Tryz.zeroValue156
 t53 := Tryz.underlying61
 a53 := Tryz.isAgg61
 z53 := Tryz.sizeOf61
 v53 := Tryz.zeroValue61
 t131 := Tryz.underlying46
 a131 := Tryz.isAgg46
 z131 := Tryz.sizeOf46
 v131 := Tryz.zeroValue46
 t182 := Tryz.underlying149
 a182 := Tryz.isAgg149
 z182 := Tryz.sizeOf149
 v182 := Tryz.zeroValue149
 t183 := Tryz.underlying150
 a183 := Tryz.isAgg150
 z183 := Tryz.sizeOf150
 v183 := Tryz.zeroValue150
 t218 := Tryz.underlying174
 a218 := Tryz.isAgg174
 z218 := Tryz.sizeOf174
 v218 := Tryz.zeroValue174
 t222 := Tryz.underlying178
 a222 := Tryz.isAgg178
 z222 := Tryz.sizeOf178
 v222 := Tryz.zeroValue178
 t228 := Tryz.underlying195
 a228 := Tryz.isAgg195
 z228 := Tryz.sizeOf195
 v228 := Tryz.zeroValue195
 t229 := Tryz.underlying196
 a229 := Tryz.isAgg196
 z229 := Tryz.sizeOf196
 v229 := Tryz.zeroValue196 }
open Go.Sort Go.RowKit in
theorem Tryz.slices_Sort_int (blk off cap : Nat) (zs : List Int) (w : World) (hH : Holds (Value.int .i64) w blk off zs.toArray) (hblk : blk < w.heap.size) (hsz : zs.length < 4611686018427387904) :
 Calls Tryz.prog 46 #[.slice (some ⟨blk, off, none⟩) zs.length cap] w fun e w' =>
  e = .returned (.tuple #[]) ∧ ∃ n os, w' = grow (putRow (Value.int .i64) (Sort.ahead w n) blk off (zs.mergeSort fun x y => decide (x ≤ y)).toArray) os := Any.slices_Sort_int Tryz.lays189 blk off cap zs w hH hblk hsz
def Tryz.laysNm220_ren : Go.Shelf.Ren := ⟨fun | 20 => 73 | n => n, fun | 22 => 29 | 3 => 3 | 4 => 4 | 0 => 0 | n => n, fun | n => n⟩
theorem Tryz.laysNm220 : Go.Proofs.Lays2.n20 Tryz.prog Tryz.laysNm220_ren := {
 mixed := by kernel_rfl
 f20 := Tryz.func73.trans (congrArg some (by kernel_rfl))
 t0 := Tryz.underlying0
 a0 := Tryz.isAgg0
 z0 := Tryz.sizeOf0
 v0 := Tryz.zeroValue0
 t3 := Tryz.underlying3
 a3 := Tryz.isAgg3
 z3 := Tryz.sizeOf3
 v3 := Tryz.zeroValue3
 t4 := Tryz.underlying4
 a4 := Tryz.isAgg4
 z4 := Tryz.sizeOf4
 v4 := Tryz.zeroValue4
 t22 := Tryz.underlying29
 a22 := Tryz.isAgg29
 z22 := Tryz.sizeOf29
 v22 := Tryz.zeroValue29
 i3 := by kernel_rfl }
open Go.RowKit Go.Lib Go.Sort in
theorem Tryz.slices_Compact_int_arr (blk off cap : Nat) (d : Array Int) (w : World) (hH : Holds encI w blk off d) (hsz : d.size ≤ 9223372036854775807) (hcap : d.size ≤ cap) :
 Calls Tryz.prog 73 #[.slice (some ⟨blk, off, none⟩) d.size cap] w fun e w' => e = .returned (.slice (some ⟨blk, off, none⟩) (compactUpTo d d.size).length cap) ∧ ∃ q, w' = putRow encI (Sort.ahead w q) blk off (compactUpTo d d.size ++ List.replicate (d.size - (compactUpTo d d.size).length) 0).toArray := Any.slices_Compact_int_arr Tryz.laysNm220 blk off cap d w hH hsz hcap
open Go.RowKit Go.Lib Go.Sort in
theorem Tryz.slices_Compact_int (blk off cap : Nat) (zs : List Int) (w : World) (hH : Holds (Value.int .i64) w blk off zs.toArray) (hsz : zs.length ≤ 9223372036854775807) (hcap : zs.length ≤ cap) :
 Calls Tryz.prog 73 #[.slice (some ⟨blk, off, none⟩) zs.length cap] w fun e w' => e = .returned (.slice (some ⟨blk, off, none⟩) (Lib.compact zs).length cap) ∧ ∃ q, w' = putRow (Value.int .i64) (Sort.ahead w q) blk off (Lib.compact zs ++ List.replicate (zs.length - (Lib.compact zs).length) 0).toArray := Any.slices_Compact_int Tryz.laysNm220 blk off cap zs w hH hsz hcap
open Go.RowKit Go.Lib Go.Sort in
theorem Tryz.slices_Compact_int_empty (a : Option Addr) (cap : Nat) (w : World) :
 Calls Tryz.prog 73 #[.slice a 0 cap] w fun e w' => e = .returned (.slice a 0 cap) ∧ w' = w := Any.slices_Compact_int_empty Tryz.laysNm220 a cap w
open Go.RowKit Go.Sort in
theorem Tryz.slices_Sort_int_none (p : Option Addr) (cap : Nat) (w : World) :
 Calls Tryz.prog 46 #[.slice p 0 cap] w fun e w' => e = .returned (.tuple #[]) ∧ w' = w := Any.slices_Sort_int_none Tryz.lays189 p cap w
end Go.Proofs
namespace Go.Pm
theorem zA8 : Go.Am.SortH Go.Proofs.Tryz.prog 46 := ⟨zDc, Go.Proofs.Tryz.slices_Sort_int, Go.Proofs.Tryz.slices_Sort_int_none⟩
theorem zz2 : Go.Am.CompH Go.Proofs.Tryz.prog 73 := ⟨zE8, Go.Proofs.Tryz.slices_Compact_int, Go.Proofs.Tryz.slices_Compact_int_empty⟩
end Go.Pm
