-- Written by a program of this session (wip/tools/shake.py) out of its own texts and of the kit's printed ones; not trusted: Lean checks it.
import Derived.Test.YtfjkamhcabckeaaDoorZSliceNear0
set_option maxHeartbeats 8000000
set_option maxRecDepth 100000
set_option linter.unusedVariables false
set_option linter.unusedSimpArgs false
section
namespace Go.Proofs
open Go.Shelf
def Tryd.lays156_ren : Go.Shelf.Ren := ⟨fun | 156 => 77 | 165 => 97 | 166 => 98 | 169 => 100 | 240 => 115 | 241 => 116 | 276 => 126 | 277 => 127 | n => n, fun | 31 => 106 | 9 => 9 | 3 => 3 | 4 => 4 | 0 => 0 | 20 => 20 | 72 => 134 | 76 => 138 | 70 => 132 | 37 => 80 | 75 => 137 | 127 => 153 | 164 => 161 | 5 => 5 | 80 => 60 | n => n, fun | n => n⟩
theorem Tryd.lays156 : Go.Proofs.Lays.n156 Tryd.prog Tryd.lays156_ren := {
 mixed := by kernel_rfl
 f156 := Tryd.func77.trans (congrArg some (by kernel_rfl))
 f165 := Tryd.func97.trans (congrArg some (by kernel_rfl))
 f166 := Tryd.func98.trans (congrArg some (by kernel_rfl))
 f169 := Tryd.func100.trans (congrArg some (by kernel_rfl))
 f240 := Tryd.func115.trans (congrArg some (by kernel_rfl))
 f241 := Tryd.func116.trans (congrArg some (by kernel_rfl))
 f276 := Tryd.func126.trans (congrArg some (by kernel_rfl))
 f277 := Tryd.func127.trans (congrArg some (by kernel_rfl))
 t0 := Tryd.underlying0
 a0 := Tryd.isAgg0
 z0 := Tryd.sizeOf0
 v0 := Tryd.zeroValue0
 t3 := Tryd.underlying3
 a3 := Tryd.isAgg3
 z3 := Tryd.sizeOf3
 v3 := Tryd.zeroValue3
 t4 := Tryd.underlying4
 a4 := Tryd.isAgg4
 z4 := Tryd.sizeOf4
 v4 := Tryd.zeroValue4
 t9 := Tryd.underlying9
 a9 := Tryd.isAgg9
 z9 := Tryd.sizeOf9
 v9 := Tryd.zeroValue9
 t20 := Tryd.underlying20
 a20 := Tryd.isAgg20
 z20 := Tryd.sizeOf20
 v20 := Tryd.zeroValue20
 t31 := Tryd.underlying106
 a31 := Tryd.isAgg106
 z31 := Tryd.sizeOf106
 v31 := Tryd.zeroValue106
 t37 := Tryd.underlying80
 a37 := Tryd.isAgg80
 z37 := Tryd.sizeOf80
 v37 := Tryd.zeroValue80
 t70 := Tryd.underlying132
 a70 := Tryd.isAgg132
 z70 := Tryd.sizeOf132
 v70 := Tryd.zeroValue132
 t72 := Tryd.underlying134
 a72 := Tryd.isAgg134
 z72 := Tryd.sizeOf134
 v72 := Tryd.zeroValue134
 t75 := Tryd.underlying137
 a75 := Tryd.isAgg137
 z75 := Tryd.sizeOf137
 v75 := Tryd.zeroValue137
 t76 := Tryd.underlying138
 a76 := Tryd.isAgg138
 z76 := Tryd.sizeOf138
 v76 := Tryd.zeroValue138
 t127 := Tryd.underlying153
 a127 := Tryd.isAgg153
 z127 := Tryd.sizeOf153
 v127 := Tryd.zeroValue153
 t164 := Tryd.underlying161
 a164 := Tryd.isAgg161
 z164 := Tryd.sizeOf161
 v164 := Tryd.zeroValue161 }
theorem Tryd.Builder_Extra_156 : Builder.Extra Tryd.prog Tryd.lays156_ren := {
 sizeBuilder := by kernel_rfl
 liesBuilder := by kernel_rfl
 t5 := Tryd.underlying5
 a5 := Tryd.isAgg5
 z5 := Tryd.sizeOf5
 v5 := Tryd.zeroValue5
 infoByte := by kernel_rfl
 cellsByte := by kernel_rfl
 sizeByte := by kernel_rfl
 neB5 := by decide }
open Go.RowKit in
theorem Tryd.strings_Join_none (a : Option Addr) (c : Nat) (sep : ByteArray) (w : World) :
  Calls Tryd.prog 77 #[.slice a 0 c, .string sep] w fun e w' => e = .returned (.string ⟨#[]⟩) ∧ w' = w := Any.strings_Join_none Tryd.lays156 Tryd.Builder_Extra_156 a c sep w
open Go.RowKit in
theorem Tryd.strings_Join (bk o c : Nat) (xs : List ByteArray) (sep : ByteArray) (w : World) (hcells : ∀ (j : Nat) x, xs[j]? = some x → w.cell? ⟨bk, o + j, none⟩ = some (.string x)) (hbk : bk < w.heap.size) (hN : xs.length ≤ 140737488355328) (hcap : xs.length ≤ c) (hlen : (Lib.join (xs.map (·.data.toList)) sep.data.toList).length ≤ 140737488355328) :
  Calls Tryd.prog 77 #[.slice (some ⟨bk, o, none⟩) xs.length c, .string sep] w fun e w' => e = .returned (.string ⟨(Lib.join (xs.map (·.data.toList)) sep.data.toList).toArray⟩) ∧ Below w.heap.size w w' := Any.strings_Join Tryd.lays156 Tryd.Builder_Extra_156 bk o c xs sep w hcells hbk hN hcap hlen
def Tryd.lays134_ren : Go.Shelf.Ren := ⟨fun | 134 => 108 | 129 => 104 | n => n, fun | 53 => 57 | 3 => 3 | 4 => 4 | 46 => 128 | 5 => 5 | 9 => 9 | n => n, fun | n => n⟩
theorem Tryd.lays134 : Go.Proofs.Lays.n134 Tryd.prog Tryd.lays134_ren := {
 mixed := by kernel_rfl
 f129 := Tryd.func104.trans (congrArg some (by kernel_rfl))
 f134 := Tryd.func108.trans (congrArg some (by kernel_rfl))
 t3 := Tryd.underlying3
 a3 := Tryd.isAgg3
 z3 := Tryd.sizeOf3
 v3 := Tryd.zeroValue3
 t4 := Tryd.underlying4
 a4 := Tryd.isAgg4
 z4 := Tryd.sizeOf4
 v4 := Tryd.zeroValue4
 t5 := Tryd.underlying5
 a5 := Tryd.isAgg5
 z5 := Tryd.sizeOf5
 v5 := Tryd.zeroValue5
 t9 := Tryd.underlying9
 a9 := Tryd.isAgg9
 z9 := Tryd.sizeOf9
 v9 := Tryd.zeroValue9
 t46 := Tryd.underlying128
 a46 := Tryd.isAgg128
 z46 := Tryd.sizeOf128
 v46 := Tryd.zeroValue128
 t53 := Tryd.underlying57
 a53 := Tryd.isAgg57
 z53 := Tryd.sizeOf57
 v53 := Tryd.zeroValue57 }
theorem Tryd.bits_LeadingZeros64 (x : Int) (w : World) (h0 : 0 ≤ x) (h1 : x ≤ 18446744073709551615) :
  Calls Tryd.prog 108 #[.int .u64 x] w fun e w' => e = .returned (.int .i64 (64 - (Lib.bitLen x.toNat : Int))) ∧ w' = w := Any.bits_LeadingZeros64 Tryd.lays134 x w h0 h1
def Tryd.lays215_ren : Go.Shelf.Ren := ⟨fun | 215 => 101 | n => n, fun | 3 => 3 | 4 => 4 | n => n, fun | n => n⟩
theorem Tryd.lays215 : Go.Proofs.Lays.n215 Tryd.prog Tryd.lays215_ren := {
 mixed := by kernel_rfl
 f215 := Tryd.func101.trans (congrArg some (by kernel_rfl))
 t3 := Tryd.underlying3
 a3 := Tryd.isAgg3
 z3 := Tryd.sizeOf3
 v3 := Tryd.zeroValue3
 t4 := Tryd.underlying4
 a4 := Tryd.isAgg4
 z4 := Tryd.sizeOf4
 v4 := Tryd.zeroValue4 }
open Go.RowKit in
theorem Tryd.cmp_isNaN_int (x : Int) (w : World) :
  Calls Tryd.prog 101 #[.int .i64 x] w fun e w' => e = .returned (.bool false) ∧ w' = w := Any.cmp_isNaN_int Tryd.lays215 x w
def Tryd.lays122_ren : Go.Shelf.Ren := ⟨fun | 122 => 78 | 215 => 101 | n => n, fun | 3 => 3 | 4 => 4 | n => n, fun | n => n⟩
theorem Tryd.lays122 : Go.Proofs.Lays.n122 Tryd.prog Tryd.lays122_ren := {
 mixed := by kernel_rfl
 f122 := Tryd.func78.trans (congrArg some (by kernel_rfl))
 f215 := Tryd.func101.trans (congrArg some (by kernel_rfl))
 t3 := Tryd.underlying3
 a3 := Tryd.isAgg3
 z3 := Tryd.sizeOf3
 v3 := Tryd.zeroValue3
 t4 := Tryd.underlying4
 a4 := Tryd.isAgg4
 z4 := Tryd.sizeOf4
 v4 := Tryd.zeroValue4 }
open Go.RowKit in
theorem Tryd.cmp_Compare_int (x y : Int) (w : World) :
  Calls Tryd.prog 78 #[.int .i64 x, .int .i64 y] w fun e w' => e = .returned (.int .i64 (Lib.compareInt x y)) ∧ w' = w := Any.cmp_Compare_int Tryd.lays122 x y w
def Tryd.lays129_ren : Go.Shelf.Ren := ⟨fun | 129 => 104 | n => n, fun | 53 => 57 | 3 => 3 | 4 => 4 | 46 => 128 | 5 => 5 | 9 => 9 | n => n, fun | n => n⟩
theorem Tryd.lays129 : Go.Proofs.Lays.n129 Tryd.prog Tryd.lays129_ren := {
 mixed := by kernel_rfl
 f129 := Tryd.func104.trans (congrArg some (by kernel_rfl))
 t3 := Tryd.underlying3
 a3 := Tryd.isAgg3
 z3 := Tryd.sizeOf3
 v3 := Tryd.zeroValue3
 t4 := Tryd.underlying4
 a4 := Tryd.isAgg4
 z4 := Tryd.sizeOf4
 v4 := Tryd.zeroValue4
 t5 := Tryd.underlying5
 a5 := Tryd.isAgg5
 z5 := Tryd.sizeOf5
 v5 := Tryd.zeroValue5
 t9 := Tryd.underlying9
 a9 := Tryd.isAgg9
 z9 := Tryd.sizeOf9
 v9 := Tryd.zeroValue9
 t46 := Tryd.underlying128
 a46 := Tryd.isAgg128
 z46 := Tryd.sizeOf128
 v46 := Tryd.zeroValue128
 t53 := Tryd.underlying57
 a53 := Tryd.isAgg57
 z53 := Tryd.sizeOf57
 v53 := Tryd.zeroValue57 }
theorem Tryd.bits_Len64 (x : Int) (w : World) (h0 : 0 ≤ x) (h1 : x ≤ 18446744073709551615) :
  Calls Tryd.prog 104 #[.int .u64 x] w fun e w' => e = .returned (.int .i64 (Lib.bitLen x.toNat)) ∧ w' = w := Any.bits_Len64 Tryd.lays129 x w h0 h1
def Tryd.lays283_ren : Go.Shelf.Ren := ⟨fun | 283 => 109 | n => n, fun | 3 => 3 | 9 => 9 | 4 => 4 | n => n, fun | n => n⟩
theorem Tryd.lays283 : Go.Proofs.Lays.n283 Tryd.prog Tryd.lays283_ren := {
 mixed := by kernel_rfl
 f283 := Tryd.func109.trans (congrArg some (by kernel_rfl))
 t3 := Tryd.underlying3
 a3 := Tryd.isAgg3
 z3 := Tryd.sizeOf3
 v3 := Tryd.zeroValue3
 t4 := Tryd.underlying4
 a4 := Tryd.isAgg4
 z4 := Tryd.sizeOf4
 v4 := Tryd.zeroValue4
 t9 := Tryd.underlying9
 a9 := Tryd.isAgg9
 z9 := Tryd.sizeOf9
 v9 := Tryd.zeroValue9 }
open Go.Lib in
theorem Tryd.internal_strconv_small (i : Nat) (h : i < 100) (w : World) :
  Calls Tryd.prog 109 #[.int .i64 i] w fun e w' => e = .returned (.string ⟨(Lib.decDigits i).toArray⟩) ∧ w' = w := Any.internal_strconv_small Tryd.lays283 i h w
def Tryd.laysM284_ren : Go.Shelf.Ren := ⟨fun | 284 => 110 | 129 => 104 | 317 => 122 | 318 => 123 | n => n, fun | 53 => 57 | 3 => 3 | 212 => 158 | 0 => 0 | 4 => 4 | 46 => 128 | 5 => 5 | 9 => 9 | n => n, fun | 17 => 3 | n => n⟩
theorem Tryd.laysM284 : Go.Proofs.LaysM.n284 Tryd.prog Tryd.laysM284_ren := {
 mixed := by kernel_rfl
 f129 := Tryd.func104.trans (congrArg some (by kernel_rfl))
 f284 := Tryd.func110.trans (congrArg some (by kernel_rfl))
 f317 := Tryd.func122.trans (congrArg some (by kernel_rfl))
 f318 := Tryd.func123.trans (congrArg some (by kernel_rfl))
 t0 := Tryd.underlying0
 a0 := Tryd.isAgg0
 z0 := Tryd.sizeOf0
 v0 := Tryd.zeroValue0
 t3 := Tryd.underlying3
 a3 := Tryd.isAgg3
 z3 := Tryd.sizeOf3
 v3 := Tryd.zeroValue3
 t4 := Tryd.underlying4
 a4 := Tryd.isAgg4
 z4 := Tryd.sizeOf4
 v4 := Tryd.zeroValue4
 t5 := Tryd.underlying5
 a5 := Tryd.isAgg5
 z5 := Tryd.sizeOf5
 v5 := Tryd.zeroValue5
 t9 := Tryd.underlying9
 a9 := Tryd.isAgg9
 z9 := Tryd.sizeOf9
 v9 := Tryd.zeroValue9
 t46 := Tryd.underlying128
 a46 := Tryd.isAgg128
 z46 := Tryd.sizeOf128
 v46 := Tryd.zeroValue128
 t53 := Tryd.underlying57
 a53 := Tryd.isAgg57
 z53 := Tryd.sizeOf57
 v53 := Tryd.zeroValue57
 t212 := Tryd.underlying158
 a212 := Tryd.isAgg158
 z212 := Tryd.sizeOf158
 v212 := Tryd.zeroValue158
 g17 := by kernel_rfl
 i0 := by kernel_rfl
 i3 := by kernel_rfl
 i4 := by kernel_rfl
 i5 := by kernel_rfl
 i9 := by kernel_rfl
 i46 := by kernel_rfl
 i53 := by kernel_rfl
 i212 := by kernel_rfl
 m17 := by kernel_rfl }
open Go.Lib in
theorem Tryd.internal_strconv_numDigits (u : Nat) (h1 : 1 ≤ u) (h2 : u < 18446744073709551616) (w : World) (htab : Lib.TabIs Tryd.prog w "internal/strconv.uint64pow10" .u64 Lib.pow10Tab) :
  Calls Tryd.prog 110 #[.int .u64 u] w fun e w' => e = .returned (.int .i64 (Lib.nDigits u)) ∧ w' = w := Any.internal_strconv_numDigits Tryd.laysM284 u h1 h2 w htab
def Tryd.lays285_ren : Go.Shelf.Ren := ⟨fun | 285 => 111 | n => n, fun | 37 => 80 | 53 => 57 | 3 => 3 | 4 => 4 | 51 => 150 | 9 => 9 | 5 => 5 | 0 => 0 | n => n, fun | n => n⟩
theorem Tryd.lays285 : Go.Proofs.Lays.n285 Tryd.prog Tryd.lays285_ren := {
 mixed := by kernel_rfl
 f285 := Tryd.func111.trans (congrArg some (by kernel_rfl))
 t0 := Tryd.underlying0
 a0 := Tryd.isAgg0
 z0 := Tryd.sizeOf0
 v0 := Tryd.zeroValue0
 t3 := Tryd.underlying3
 a3 := Tryd.isAgg3
 z3 := Tryd.sizeOf3
 v3 := Tryd.zeroValue3
 t4 := Tryd.underlying4
 a4 := Tryd.isAgg4
 z4 := Tryd.sizeOf4
 v4 := Tryd.zeroValue4
 t5 := Tryd.underlying5
 a5 := Tryd.isAgg5
 z5 := Tryd.sizeOf5
 v5 := Tryd.zeroValue5
 t9 := Tryd.underlying9
 a9 := Tryd.isAgg9
 z9 := Tryd.sizeOf9
 v9 := Tryd.zeroValue9
 t37 := Tryd.underlying80
 a37 := Tryd.isAgg80
 z37 := Tryd.sizeOf80
 v37 := Tryd.zeroValue80
 t51 := Tryd.underlying150
 a51 := Tryd.isAgg150
 z51 := Tryd.sizeOf150
 v51 := Tryd.zeroValue150
 t53 := Tryd.underlying57
 a53 := Tryd.isAgg57
 z53 := Tryd.sizeOf57
 v53 := Tryd.zeroValue57 }
open Go.RowKit Go.Sort Go.Lib in
theorem Tryd.internal_strconv_formatBase10 (blk off cap : Nat) (u : Nat) (d : Array UInt8) (w : World) (hH : Holds (fun (b : UInt8) => Value.int .u8 (b.toNat : Int)) w blk off d) (hu : u < 10 ^ d.size) (hu64 : u < 18446744073709551616) (hsz : d.size < 4611686018427387904) :
  Calls Tryd.prog 111 #[.slice (some ⟨blk, off, none⟩) d.size cap, .int .u64 u] w fun e w' =>
   e = .returned (.tuple #[]) ∧ ∃ (n v' : Nat) (dk : Array UInt8), w' = (putRow (fun (b : UInt8) => Value.int .u8 (b.toNat : Int)) w blk off dk).drewN n ∧ FmtInv d.size u 0 v' dk := Any.internal_strconv_formatBase10 Tryd.lays285 blk off cap u d w hH hu hu64 hsz
def Tryd.lays145_ren : Go.Shelf.Ren := ⟨fun | 145 => 67 | 220 => 90 | 219 => 106 | 217 => 117 | 225 => 118 | 224 => 119 | 267 => 120 | 266 => 128 | 314 => 129 | n => n, fun | 9 => 9 | 4 => 4 | 59 => 97 | 3 => 3 | 5 => 5 | 46 => 128 | 146 => 151 | 51 => 150 | n => n, fun | 1 => 2 | n => n⟩
theorem Tryd.lays145 : Go.Proofs.Lays.n145 Tryd.prog Tryd.lays145_ren := {
 mixed := by kernel_rfl
 f145 := Tryd.func67.trans (congrArg some (by kernel_rfl))
 f217 := Tryd.func117.trans (congrArg some (by kernel_rfl))
 f219 := Tryd.func106.trans (congrArg some (by kernel_rfl))
 f220 := Tryd.func90.trans (congrArg some (by kernel_rfl))
 f224 := Tryd.func119.trans (congrArg some (by kernel_rfl))
 f225 := Tryd.func118.trans (congrArg some (by kernel_rfl))
 f266 := Tryd.func128.trans (congrArg some (by kernel_rfl))
 f267 := Tryd.func120.trans (congrArg some (by kernel_rfl))
 f314 := Tryd.func129.trans (congrArg some (by kernel_rfl))
 t3 := Tryd.underlying3
 a3 := Tryd.isAgg3
 z3 := Tryd.sizeOf3
 v3 := Tryd.zeroValue3
 t4 := Tryd.underlying4
 a4 := Tryd.isAgg4
 z4 := Tryd.sizeOf4
 v4 := Tryd.zeroValue4
 t5 := Tryd.underlying5
 a5 := Tryd.isAgg5
 z5 := Tryd.sizeOf5
 v5 := Tryd.zeroValue5
 t9 := Tryd.underlying9
 a9 := Tryd.isAgg9
 z9 := Tryd.sizeOf9
 v9 := Tryd.zeroValue9
 t46 := Tryd.underlying128
 a46 := Tryd.isAgg128
 z46 := Tryd.sizeOf128
 v46 := Tryd.zeroValue128
 t51 := Tryd.underlying150
 a51 := Tryd.isAgg150
 z51 := Tryd.sizeOf150
 v51 := Tryd.zeroValue150
 t59 := Tryd.underlying97
 a59 := Tryd.isAgg97
 z59 := Tryd.sizeOf97
 v59 := Tryd.zeroValue97
 t146 := Tryd.underlying151
 a146 := Tryd.isAgg151
 z146 := Tryd.sizeOf151
 v146 := Tryd.zeroValue151
 g1 := by kernel_rfl }
open Go.RowKit Go.Lib in
theorem Tryd.strings_Cut (s sep : ByteArray) (m : Int) (w : World) (hs : s.size < 4294967281) (hm : w.cell? ⟨2, 0, none⟩ = some (.int .i64 m)) :
  Calls Tryd.prog 67 #[.string s, .string sep] w fun e w' => e = .returned (.tuple #[.string ⟨(Lib.cut s.data.toList sep.data.toList).1.toArray⟩, .string ⟨(Lib.cut s.data.toList sep.data.toList).2.1.toArray⟩, .bool (Lib.cut s.data.toList sep.data.toList).2.2]) ∧ ∃ n, w' = w.drewN n := Any.strings_Cut Tryd.lays145 s sep m w hs hm
def Tryd.laysGw17_ren : Go.Shelf.Ren := ⟨fun | 17 => 92 | 15 => 107 | 20 => 121 | n => n, fun | 9 => 9 | 23 => 126 | 4 => 4 | 3 => 3 | 0 => 0 | 21 => 21 | n => n, fun | n => n⟩
theorem Tryd.laysGw17 : Go.Proofs.LaysGw.n17 Tryd.prog Tryd.laysGw17_ren := {
 mixed := by kernel_rfl
 f15 := Tryd.func107.trans (congrArg some (by kernel_rfl))
 f17 := Tryd.func92.trans (congrArg some (by kernel_rfl))
 f20 := Tryd.func121.trans (congrArg some (by kernel_rfl))
 t0 := Tryd.underlying0
 a0 := Tryd.isAgg0
 z0 := Tryd.sizeOf0
 v0 := Tryd.zeroValue0
 i0 := by kernel_rfl
 t3 := Tryd.underlying3
 a3 := Tryd.isAgg3
 z3 := Tryd.sizeOf3
 v3 := Tryd.zeroValue3
 i3 := by kernel_rfl
 t4 := Tryd.underlying4
 a4 := Tryd.isAgg4
 z4 := Tryd.sizeOf4
 v4 := Tryd.zeroValue4
 i4 := by kernel_rfl
 t9 := Tryd.underlying9
 a9 := Tryd.isAgg9
 z9 := Tryd.sizeOf9
 v9 := Tryd.zeroValue9
 i9 := by kernel_rfl
 t21 := Tryd.underlying21
 a21 := Tryd.isAgg21
 z21 := Tryd.sizeOf21
 v21 := Tryd.zeroValue21
 i21 := by kernel_rfl
 t23 := Tryd.underlying126
 a23 := Tryd.isAgg126
 z23 := Tryd.sizeOf126
 v23 := Tryd.zeroValue126
 i23 := by kernel_rfl }
open Go.RowKit Go.Lib in
theorem Tryd.strings_ContainsFunc_runes (g : Nat) (lb : Array Value) (eg : ∀ args w, (callFunc g args).run Tryd.prog w = .ok (.enter g args) w) (p : Nat → Bool) (s : ByteArray) (w : World) (hp : PredAtRunes Tryd.prog g lb p w) :
  Calls Tryd.prog 92 #[.string s, .func (.func g) #[] lb] w fun e w' => e = .returned (.bool (decide (0 ≤ Lib.idxFunc p true s))) ∧ Below w.heap.size w w' := Any.strings_ContainsFunc_runes Tryd.laysGw17 g lb eg p s w hp
def Tryd.lays264_ren : Go.Shelf.Ren := ⟨fun | 264 => 87 | n => n, fun | 53 => 57 | 46 => 128 | n => n, fun | n => n⟩
theorem Tryd.lays264 : Go.Proofs.Lays.n264 Tryd.prog Tryd.lays264_ren := {
 mixed := by kernel_rfl
 f264 := Tryd.func87.trans (congrArg some (by kernel_rfl))
 t46 := Tryd.underlying128
 a46 := Tryd.isAgg128
 z46 := Tryd.sizeOf128
 v46 := Tryd.zeroValue128
 t53 := Tryd.underlying57
 a53 := Tryd.isAgg57
 z53 := Tryd.sizeOf57
 v53 := Tryd.zeroValue57 }
open Go.RowKit Go.Lib in
theorem Tryd.bits_Mul64 (x y : Nat) (hx : x < 18446744073709551616) (hy : y < 18446744073709551616) (w : World) :
  Calls Tryd.prog 87 #[.int .u64 x, .int .u64 y] w fun e w' => e = .returned (.tuple #[.int .u64 ((x * y / 18446744073709551616 : Nat) : Int), .int .u64 ((x * y % 18446744073709551616 : Nat) : Int)]) ∧ w' = w := Any.bits_Mul64 Tryd.lays264 x y hx hy w
def Tryd.lays105_ren : Go.Shelf.Ren := ⟨fun | 105 => 75 | 212 => 95 | 99 => 96 | 165 => 97 | 166 => 98 | 170 => 99 | 169 => 100 | 263 => 113 | 264 => 87 | 206 => 114 | 240 => 115 | 241 => 116 | 276 => 126 | 277 => 127 | n => n, fun | 9 => 9 | 3 => 3 | 4 => 4 | 20 => 20 | 0 => 0 | 46 => 128 | 109 => 129 | 5 => 5 | 72 => 134 | 76 => 138 | 51 => 150 | 146 => 151 | 53 => 57 | 148 => 122 | 70 => 132 | 37 => 80 | 75 => 137 | 127 => 153 | 164 => 161 | 80 => 60 | n => n, fun | n => n⟩
theorem Tryd.lays105 : Go.Proofs.Lays.n105 Tryd.prog Tryd.lays105_ren := {
 mixed := by kernel_rfl
 f99 := Tryd.func96.trans (congrArg some (by kernel_rfl))
 f105 := Tryd.func75.trans (congrArg some (by kernel_rfl))
 f165 := Tryd.func97.trans (congrArg some (by kernel_rfl))
 f166 := Tryd.func98.trans (congrArg some (by kernel_rfl))
 f169 := Tryd.func100.trans (congrArg some (by kernel_rfl))
 f170 := Tryd.func99.trans (congrArg some (by kernel_rfl))
 f206 := Tryd.func114.trans (congrArg some (by kernel_rfl))
 f212 := Tryd.func95.trans (congrArg some (by kernel_rfl))
 f240 := Tryd.func115.trans (congrArg some (by kernel_rfl))
 f241 := Tryd.func116.trans (congrArg some (by kernel_rfl))
 f263 := Tryd.func113.trans (congrArg some (by kernel_rfl))
 f264 := Tryd.func87.trans (congrArg some (by kernel_rfl))
 f276 := Tryd.func126.trans (congrArg some (by kernel_rfl))
 f277 := Tryd.func127.trans (congrArg some (by kernel_rfl))
 t0 := Tryd.underlying0
 a0 := Tryd.isAgg0
 z0 := Tryd.sizeOf0
 v0 := Tryd.zeroValue0
 t3 := Tryd.underlying3
 a3 := Tryd.isAgg3
 z3 := Tryd.sizeOf3
 v3 := Tryd.zeroValue3
 t4 := Tryd.underlying4
 a4 := Tryd.isAgg4
 z4 := Tryd.sizeOf4
 v4 := Tryd.zeroValue4
 t5 := Tryd.underlying5
 a5 := Tryd.isAgg5
 z5 := Tryd.sizeOf5
 v5 := Tryd.zeroValue5
 t9 := Tryd.underlying9
 a9 := Tryd.isAgg9
 z9 := Tryd.sizeOf9
 v9 := Tryd.zeroValue9
 t20 := Tryd.underlying20
 a20 := Tryd.isAgg20
 z20 := Tryd.sizeOf20
 v20 := Tryd.zeroValue20
 t37 := Tryd.underlying80
 a37 := Tryd.isAgg80
 z37 := Tryd.sizeOf80
 v37 := Tryd.zeroValue80
 t46 := Tryd.underlying128
 a46 := Tryd.isAgg128
 z46 := Tryd.sizeOf128
 v46 := Tryd.zeroValue128
 t51 := Tryd.underlying150
 a51 := Tryd.isAgg150
 z51 := Tryd.sizeOf150
 v51 := Tryd.zeroValue150
 t53 := Tryd.underlying57
 a53 := Tryd.isAgg57
 z53 := Tryd.sizeOf57
 v53 := Tryd.zeroValue57
 t70 := Tryd.underlying132
 a70 := Tryd.isAgg132
 z70 := Tryd.sizeOf132
 v70 := Tryd.zeroValue132
 t72 := Tryd.underlying134
 a72 := Tryd.isAgg134
 z72 := Tryd.sizeOf134
 v72 := Tryd.zeroValue134
 t75 := Tryd.underlying137
 a75 := Tryd.isAgg137
 z75 := Tryd.sizeOf137
 v75 := Tryd.zeroValue137
 t76 := Tryd.underlying138
 a76 := Tryd.isAgg138
 z76 := Tryd.sizeOf138
 v76 := Tryd.zeroValue138
 t109 := Tryd.underlying129
 a109 := Tryd.isAgg129
 z109 := Tryd.sizeOf129
 v109 := Tryd.zeroValue129
 t127 := Tryd.underlying153
 a127 := Tryd.isAgg153
 z127 := Tryd.sizeOf153
 v127 := Tryd.zeroValue153
 t146 := Tryd.underlying151
 a146 := Tryd.isAgg151
 z146 := Tryd.sizeOf151
 v146 := Tryd.zeroValue151
 t148 := Tryd.underlying122
 a148 := Tryd.isAgg122
 z148 := Tryd.sizeOf122
 v148 := Tryd.zeroValue122
 t164 := Tryd.underlying161
 a164 := Tryd.isAgg161
 z164 := Tryd.sizeOf161
 v164 := Tryd.zeroValue161 }
theorem Tryd.Builder_Extra_105 : Builder.Extra Tryd.prog Tryd.lays105_ren := {
 sizeBuilder := by kernel_rfl
 liesBuilder := by kernel_rfl
 t5 := Tryd.underlying5
 a5 := Tryd.isAgg5
 z5 := Tryd.sizeOf5
 v5 := Tryd.zeroValue5
 infoByte := by kernel_rfl
 cellsByte := by kernel_rfl
 sizeByte := by kernel_rfl
 neB5 := by decide }
open Go.RowKit Go.Lib in
theorem Tryd.strings_Repeat (s : ByteArray) (c : Nat) (w : World) (hc : c ≤ 9223372036854775807) (hlen : s.size * c ≤ 140737488355328) :
  Calls Tryd.prog 75 #[.string s, .int .i64 c] w fun e w' => e = .returned (.string ⟨(Lib.repeatL s.data.toList c).toArray⟩) ∧ Below w.heap.size w w' := Any.strings_Repeat Tryd.lays105 Tryd.Builder_Extra_105 s c w hc hlen
end Go.Proofs
end
section
namespace Go.Proofs.YtfjkamhcabckeaaDoor.P
open Go.RowKit Go.Proofs.YtfjkamhcabckeaaDoorW.PrintWords Go.Proofs.YtfjkamhcabckeaaDoorW.PrintLast Go.Proofs.YtfjkamhcabckeaaDoorW.PrintMore
attribute [local go_sem] zc8 zc9 max_two min_two zcv zcx zdc zdb
def errW : Option Int → Value
 | none => .nilIface
 | some c => .iface 0 (.int .i64 c)
theorem zbs : errW none = .nilIface := rfl
theorem zbr (c : Int) : errW (some c) = .iface 0 (.int .i64 c) := rfl
theorem info3 : (Tryd.prog.info? 3).map (fun i => (i.zero, i.size, i.bytes)) = some (some (.int .i64 0), 1, 8) := by kernel_rfl
theorem info9 : (Tryd.prog.info? 9).map (fun i => (i.zero, i.size, i.bytes)) = some (some (.string ⟨#[]⟩), 1, 16) := by kernel_rfl
theorem info57 : (Tryd.prog.info? 57).map (fun i => (i.zero, i.size, i.bytes)) = some (some (.int .u64 0), 1, 8) := by kernel_rfl
structure S28 where
 f0 : (List Int)
 f1 : (List Int)
def z28 : S28 := ⟨([] : List Int), ([] : List Int)⟩
def k28 : Kd S28 := Kd.iso (Kd.pair (Kd.slice 57 (Kd.int .u64)) (Kd.slice 57 (Kd.int .u64))) (fun x : S28 => (x.f0, x.f1))
theorem k28_open {w : World} {x : S28} {cs : List Value} (h : k28.K w x cs) : ∃ A0 c0 A1 c1, cs = [.slice A0 x.f0.length c0, .slice A1 x.f1.length c1] ∧ x.f0.length ≤ c0 ∧ (Kd.int .u64).C w A0 x.f0.length x.f0 ∧ x.f1.length ≤ c1 ∧ (Kd.int .u64).C w A1 x.f1.length x.f1 := by
 obtain ⟨_, _, rfl, ⟨A0, c0, rfl, l0, g0⟩, ⟨A1, c1, rfl, l1, g1⟩⟩ := h
 exact ⟨A0, c0, A1, c1, rfl, l0, g0, l1, g1⟩
def rd_T28 (xs : List S28) (i : Int) : S28 := xs.getD i.toNat z28
theorem at_T28 {w : World} {A : Option Addr} {n : Nat} {xs : List S28} (h : Kd.C k28 w A n xs) (i : Int) (h0 : 0 ≤ i) (h1 : i < n) : ∃ ad A0 c0 A1 c1, A = some ad ∧ w.cell? (ad.add (i.toNat * 2)) = some (.slice A0 (rd_T28 xs i).f0.length c0) ∧ w.cell? ⟨(ad.add (i.toNat * 2)).block, (ad.add (i.toNat * 2)).off + 1, none⟩ = some (.slice A1 (rd_T28 xs i).f1.length c1) ∧ (rd_T28 xs i).f0.length ≤ c0 ∧ (Kd.int .u64).C w A0 (rd_T28 xs i).f0.length (rd_T28 xs i).f0 ∧ (rd_T28 xs i).f1.length ≤ c1 ∧ (Kd.int .u64).C w A1 (rd_T28 xs i).f1.length (rd_T28 xs i).f1 := by
 obtain ⟨ad, c, e, _, hK, hc0⟩ := Kd.C_get h z28 i h0 h1
 have hc : ∀ j u, c[j]? = some u → w.cell? (ad.add (i.toNat * 2 + j)) = some u := hc0
 obtain ⟨A0, c0, A1, c1, rfl, l0, g0, l1, g1⟩ := k28_open hK
 exact ⟨ad, A0, c0, A1, c1, e, hc 0 _ rfl, by rw [← add_field _ _ 1 (by omega)]; exact hc 1 _ rfl, l0, g0, l1, g1⟩
structure S75 where
 f0 : Int
 f1 : Int
def z75 : S75 := ⟨(0 : Int), (0 : Int)⟩
def cmp_isNaN_int.f (a0 : Int) : Option (Bool) := some (a0 != a0)
theorem cmp_isNaN_int.calls (a0 : Int) (r : Bool) (w : World) (h : cmp_isNaN_int.f a0 = some r) :
  Calls Tryd.prog 101 #[.int .i64 a0] w fun e w' => e = .returned (.bool r) ∧ Drawn0 w w' := by
 have H : (some (a0 != a0)) = some r := h
 clear h
 obtain rfl := Option.some.inj H
 go_enter Tryd.func101, Tryd.ntmps101
 go_wp2
 go_ret
 exact ⟨zF, by repeat (first | exact Drawn0.refl _ | apply Drawn0.step)⟩
def cmp_Compare_int.f (a0 : Int) (a1 : Int) : Option (Int) := (cmp_isNaN_int.f a0).bind fun t101 => ((cmp_isNaN_int.f a1).bind fun t102 => (if t101 = true then (if t102 = true then (some 0) else (some (-1))) else (if t102 = true then (some 1) else (if a0 < a1 then (some (-1)) else (if a0 > a1 then (some 1) else (some 0))))))
theorem cmp_Compare_int.calls (a0 : Int) (a1 : Int) (r : Int) (w : World) (h : cmp_Compare_int.f a0 a1 = some r) :
  Calls Tryd.prog 78 #[.int .i64 a0, .int .i64 a1] w fun e w' => e = .returned (.int .i64 r) ∧ Drawn0 w w' := by
 have H : ((cmp_isNaN_int.f a0).bind fun t101 => ((cmp_isNaN_int.f a1).bind fun t102 => (if t101 = true then (if t102 = true then (some 0) else (some (-1))) else (if t102 = true then (some 1) else (if a0 < a1 then (some (-1)) else (if a0 > a1 then (some 1) else (some 0))))))) = some r := h
 clear h
 replace H := zO H
 obtain ⟨t101, A30, H⟩ := H
 try dsimp only at H
 have A3 := zA A30
 clear A30
 replace H := zO H
 obtain ⟨t102, A40, H⟩ := H
 try dsimp only at H
 have A4 := zA A40
 clear A40
 by_cases c5 : t101 = true
 ·
  subst c5
  rw [if_pos rfl] at H
  by_cases c6 : t102 = true
  ·
   subst c6
   rw [if_pos rfl] at H
   obtain rfl := Option.some.inj H
   go_enter Tryd.func78, Tryd.ntmps78
   go_wp2_with (first | ((with_reducible refine zac (f := 101) rfl ?_); refine za0 (some 8) rfl rfl Tryd.func101 (by kernel_rfl) rfl #[.int .i64 a0] rfl (zE) ?_; (with_reducible refine (cmp_isNaN_int.calls a0 true _ A3.out).mono ?_); rintro e w' ⟨rfl, ⟨nd, rfl⟩⟩; refine ⟨_, rfl, ?_⟩) | ((with_reducible refine zac (f := 101) rfl ?_); refine za0 (some 10) rfl rfl Tryd.func101 (by kernel_rfl) rfl #[.int .i64 a1] rfl (zE) ?_; (with_reducible refine (cmp_isNaN_int.calls a1 true _ A4.out).mono ?_); rintro e w' ⟨rfl, ⟨nd, rfl⟩⟩; refine ⟨_, rfl, ?_⟩))
   go_ret
   exact ⟨zF, by repeat (first | exact Drawn0.refl _ | apply Drawn0.step)⟩
  ·
   replace c6 := Bool.eq_false_iff.mpr c6
   subst c6
   rw [if_neg (show ¬ (false = true) by decide)] at H
   obtain rfl := Option.some.inj H
   go_enter Tryd.func78, Tryd.ntmps78
   go_wp2_with (first | ((with_reducible refine zac (f := 101) rfl ?_); refine za0 (some 8) rfl rfl Tryd.func101 (by kernel_rfl) rfl #[.int .i64 a0] rfl (zE) ?_; (with_reducible refine (cmp_isNaN_int.calls a0 true _ A3.out).mono ?_); rintro e w' ⟨rfl, ⟨nd, rfl⟩⟩; refine ⟨_, rfl, ?_⟩) | ((with_reducible refine zac (f := 101) rfl ?_); refine za0 (some 10) rfl rfl Tryd.func101 (by kernel_rfl) rfl #[.int .i64 a1] rfl (zE) ?_; (with_reducible refine (cmp_isNaN_int.calls a1 false _ A4.out).mono ?_); rintro e w' ⟨rfl, ⟨nd, rfl⟩⟩; refine ⟨_, rfl, ?_⟩))
   go_ret
   exact ⟨zF, by repeat (first | exact Drawn0.refl _ | apply Drawn0.step)⟩
 ·
  replace c5 := Bool.eq_false_iff.mpr c5
  subst c5
  rw [if_neg (show ¬ (false = true) by decide)] at H
  by_cases c7 : t102 = true
  ·
   subst c7
   rw [if_pos rfl] at H
   obtain rfl := Option.some.inj H
   go_enter Tryd.func78, Tryd.ntmps78
   go_wp2_with (first | ((with_reducible refine zac (f := 101) rfl ?_); refine za0 (some 8) rfl rfl Tryd.func101 (by kernel_rfl) rfl #[.int .i64 a0] rfl (zE) ?_; (with_reducible refine (cmp_isNaN_int.calls a0 false _ A3.out).mono ?_); rintro e w' ⟨rfl, ⟨nd, rfl⟩⟩; refine ⟨_, rfl, ?_⟩) | ((with_reducible refine zac (f := 101) rfl ?_); refine za0 (some 10) rfl rfl Tryd.func101 (by kernel_rfl) rfl #[.int .i64 a1] rfl (zE) ?_; (with_reducible refine (cmp_isNaN_int.calls a1 true _ A4.out).mono ?_); rintro e w' ⟨rfl, ⟨nd, rfl⟩⟩; refine ⟨_, rfl, ?_⟩))
   go_ret
   exact ⟨zF, by repeat (first | exact Drawn0.refl _ | apply Drawn0.step)⟩
  ·
   replace c7 := Bool.eq_false_iff.mpr c7
   subst c7
   rw [if_neg (show ¬ (false = true) by decide)] at H
   by_cases c8 : a0 < a1
   ·
    rw [if_pos c8] at H
    have c8b0 : decide (a0 < a1) = true := decide_eq_true c8
    clear c8
    obtain rfl := Option.some.inj H
    go_enter Tryd.func78, Tryd.ntmps78
    go_wp2_with (first | ((with_reducible refine zac (f := 101) rfl ?_); refine za0 (some 8) rfl rfl Tryd.func101 (by kernel_rfl) rfl #[.int .i64 a0] rfl (zE) ?_; (with_reducible refine (cmp_isNaN_int.calls a0 false _ A3.out).mono ?_); rintro e w' ⟨rfl, ⟨nd, rfl⟩⟩; refine ⟨_, rfl, ?_⟩) | ((with_reducible refine zac (f := 101) rfl ?_); refine za0 (some 10) rfl rfl Tryd.func101 (by kernel_rfl) rfl #[.int .i64 a1] rfl (zE) ?_; (with_reducible refine (cmp_isNaN_int.calls a1 false _ A4.out).mono ?_); rintro e w' ⟨rfl, ⟨nd, rfl⟩⟩; refine ⟨_, rfl, ?_⟩))
    go_ret
    exact ⟨zF, by repeat (first | exact Drawn0.refl _ | apply Drawn0.step)⟩
   ·
    rw [if_neg c8] at H
    have c8b0 : decide (a0 < a1) = false := decide_eq_false c8
    clear c8
    by_cases c9 : a0 > a1
    ·
     rw [if_pos c9] at H
     have c9b0 : decide (a1 < a0) = true := decide_eq_true c9
     clear c9
     obtain rfl := Option.some.inj H
     go_enter Tryd.func78, Tryd.ntmps78
     go_wp2_with (first | ((with_reducible refine zac (f := 101) rfl ?_); refine za0 (some 8) rfl rfl Tryd.func101 (by kernel_rfl) rfl #[.int .i64 a0] rfl (zE) ?_; (with_reducible refine (cmp_isNaN_int.calls a0 false _ A3.out).mono ?_); rintro e w' ⟨rfl, ⟨nd, rfl⟩⟩; refine ⟨_, rfl, ?_⟩) | ((with_reducible refine zac (f := 101) rfl ?_); refine za0 (some 10) rfl rfl Tryd.func101 (by kernel_rfl) rfl #[.int .i64 a1] rfl (zE) ?_; (with_reducible refine (cmp_isNaN_int.calls a1 false _ A4.out).mono ?_); rintro e w' ⟨rfl, ⟨nd, rfl⟩⟩; refine ⟨_, rfl, ?_⟩))
     go_ret
     exact ⟨zF, by repeat (first | exact Drawn0.refl _ | apply Drawn0.step)⟩
    ·
     rw [if_neg c9] at H
     have c9b0 : decide (a1 < a0) = false := decide_eq_false c9
     clear c9
     obtain rfl := Option.some.inj H
     go_enter Tryd.func78, Tryd.ntmps78
     go_wp2_with (first | ((with_reducible refine zac (f := 101) rfl ?_); refine za0 (some 8) rfl rfl Tryd.func101 (by kernel_rfl) rfl #[.int .i64 a0] rfl (zE) ?_; (with_reducible refine (cmp_isNaN_int.calls a0 false _ A3.out).mono ?_); rintro e w' ⟨rfl, ⟨nd, rfl⟩⟩; refine ⟨_, rfl, ?_⟩) | ((with_reducible refine zac (f := 101) rfl ?_); refine za0 (some 10) rfl rfl Tryd.func101 (by kernel_rfl) rfl #[.int .i64 a1] rfl (zE) ?_; (with_reducible refine (cmp_isNaN_int.calls a1 false _ A4.out).mono ?_); rintro e w' ⟨rfl, ⟨nd, rfl⟩⟩; refine ⟨_, rfl, ?_⟩))
     go_ret
     exact ⟨zF, by repeat (first | exact Drawn0.refl _ | apply Drawn0.step)⟩
def za8.f (a0 : Int) : Option (Bool) := some (a0 != a0)
theorem za8.calls (a0 : Int) (r : Bool) (w : World) (h : za8.f a0 = some r) :
  Calls Tryd.prog 103 #[.int .u64 a0] w fun e w' => e = .returned (.bool r) ∧ Drawn0 w w' := by
 have H : (some (a0 != a0)) = some r := h
 clear h
 obtain rfl := Option.some.inj H
 go_enter Tryd.func103, Tryd.ntmps103
 go_wp2
 go_ret
 exact ⟨zF, by repeat (first | exact Drawn0.refl _ | apply Drawn0.step)⟩
def zcq.f (a0 : Int) (a1 : Int) : Option (Int) := (za8.f a0).bind fun t103 => ((za8.f a1).bind fun t104 => (if t103 = true then (if t104 = true then (some 0) else (some (-1))) else (if t104 = true then (some 1) else (if a0 < a1 then (some (-1)) else (if a0 > a1 then (some 1) else (some 0))))))
theorem zcq.calls (a0 : Int) (a1 : Int) (r : Int) (w : World) (h : zcq.f a0 a1 = some r) :
  Calls Tryd.prog 80 #[.int .u64 a0, .int .u64 a1] w fun e w' => e = .returned (.int .i64 r) ∧ Drawn0 w w' := by
 have H : ((za8.f a0).bind fun t103 => ((za8.f a1).bind fun t104 => (if t103 = true then (if t104 = true then (some 0) else (some (-1))) else (if t104 = true then (some 1) else (if a0 < a1 then (some (-1)) else (if a0 > a1 then (some 1) else (some 0))))))) = some r := h
 clear h
 replace H := zO H
 obtain ⟨t103, A30, H⟩ := H
 try dsimp only at H
 have A3 := zA A30
 clear A30
 replace H := zO H
 obtain ⟨t104, A40, H⟩ := H
 try dsimp only at H
 have A4 := zA A40
 clear A40
 by_cases c5 : t103 = true
 ·
  subst c5
  rw [if_pos rfl] at H
  by_cases c6 : t104 = true
  ·
   subst c6
   rw [if_pos rfl] at H
   obtain rfl := Option.some.inj H
   go_enter Tryd.func80, Tryd.ntmps80
   go_wp2_with (first | ((with_reducible refine zac (f := 103) rfl ?_); refine za0 (some 8) rfl rfl Tryd.func103 (by kernel_rfl) rfl #[.int .u64 a0] rfl (zE) ?_; (with_reducible refine (za8.calls a0 true _ A3.out).mono ?_); rintro e w' ⟨rfl, ⟨nd, rfl⟩⟩; refine ⟨_, rfl, ?_⟩) | ((with_reducible refine zac (f := 103) rfl ?_); refine za0 (some 10) rfl rfl Tryd.func103 (by kernel_rfl) rfl #[.int .u64 a1] rfl (zE) ?_; (with_reducible refine (za8.calls a1 true _ A4.out).mono ?_); rintro e w' ⟨rfl, ⟨nd, rfl⟩⟩; refine ⟨_, rfl, ?_⟩))
   go_ret
   exact ⟨zF, by repeat (first | exact Drawn0.refl _ | apply Drawn0.step)⟩
  ·
   replace c6 := Bool.eq_false_iff.mpr c6
   subst c6
   rw [if_neg (show ¬ (false = true) by decide)] at H
   obtain rfl := Option.some.inj H
   go_enter Tryd.func80, Tryd.ntmps80
   go_wp2_with (first | ((with_reducible refine zac (f := 103) rfl ?_); refine za0 (some 8) rfl rfl Tryd.func103 (by kernel_rfl) rfl #[.int .u64 a0] rfl (zE) ?_; (with_reducible refine (za8.calls a0 true _ A3.out).mono ?_); rintro e w' ⟨rfl, ⟨nd, rfl⟩⟩; refine ⟨_, rfl, ?_⟩) | ((with_reducible refine zac (f := 103) rfl ?_); refine za0 (some 10) rfl rfl Tryd.func103 (by kernel_rfl) rfl #[.int .u64 a1] rfl (zE) ?_; (with_reducible refine (za8.calls a1 false _ A4.out).mono ?_); rintro e w' ⟨rfl, ⟨nd, rfl⟩⟩; refine ⟨_, rfl, ?_⟩))
   go_ret
   exact ⟨zF, by repeat (first | exact Drawn0.refl _ | apply Drawn0.step)⟩
 ·
  replace c5 := Bool.eq_false_iff.mpr c5
  subst c5
  rw [if_neg (show ¬ (false = true) by decide)] at H
  by_cases c7 : t104 = true
  ·
   subst c7
   rw [if_pos rfl] at H
   obtain rfl := Option.some.inj H
   go_enter Tryd.func80, Tryd.ntmps80
   go_wp2_with (first | ((with_reducible refine zac (f := 103) rfl ?_); refine za0 (some 8) rfl rfl Tryd.func103 (by kernel_rfl) rfl #[.int .u64 a0] rfl (zE) ?_; (with_reducible refine (za8.calls a0 false _ A3.out).mono ?_); rintro e w' ⟨rfl, ⟨nd, rfl⟩⟩; refine ⟨_, rfl, ?_⟩) | ((with_reducible refine zac (f := 103) rfl ?_); refine za0 (some 10) rfl rfl Tryd.func103 (by kernel_rfl) rfl #[.int .u64 a1] rfl (zE) ?_; (with_reducible refine (za8.calls a1 true _ A4.out).mono ?_); rintro e w' ⟨rfl, ⟨nd, rfl⟩⟩; refine ⟨_, rfl, ?_⟩))
   go_ret
   exact ⟨zF, by repeat (first | exact Drawn0.refl _ | apply Drawn0.step)⟩
  ·
   replace c7 := Bool.eq_false_iff.mpr c7
   subst c7
   rw [if_neg (show ¬ (false = true) by decide)] at H
   by_cases c8 : a0 < a1
   ·
    rw [if_pos c8] at H
    have c8b0 : decide (a0 < a1) = true := decide_eq_true c8
    clear c8
    obtain rfl := Option.some.inj H
    go_enter Tryd.func80, Tryd.ntmps80
    go_wp2_with (first | ((with_reducible refine zac (f := 103) rfl ?_); refine za0 (some 8) rfl rfl Tryd.func103 (by kernel_rfl) rfl #[.int .u64 a0] rfl (zE) ?_; (with_reducible refine (za8.calls a0 false _ A3.out).mono ?_); rintro e w' ⟨rfl, ⟨nd, rfl⟩⟩; refine ⟨_, rfl, ?_⟩) | ((with_reducible refine zac (f := 103) rfl ?_); refine za0 (some 10) rfl rfl Tryd.func103 (by kernel_rfl) rfl #[.int .u64 a1] rfl (zE) ?_; (with_reducible refine (za8.calls a1 false _ A4.out).mono ?_); rintro e w' ⟨rfl, ⟨nd, rfl⟩⟩; refine ⟨_, rfl, ?_⟩))
    go_ret
    exact ⟨zF, by repeat (first | exact Drawn0.refl _ | apply Drawn0.step)⟩
   ·
    rw [if_neg c8] at H
    have c8b0 : decide (a0 < a1) = false := decide_eq_false c8
    clear c8
    by_cases c9 : a0 > a1
    ·
     rw [if_pos c9] at H
     have c9b0 : decide (a1 < a0) = true := decide_eq_true c9
     clear c9
     obtain rfl := Option.some.inj H
     go_enter Tryd.func80, Tryd.ntmps80
     go_wp2_with (first | ((with_reducible refine zac (f := 103) rfl ?_); refine za0 (some 8) rfl rfl Tryd.func103 (by kernel_rfl) rfl #[.int .u64 a0] rfl (zE) ?_; (with_reducible refine (za8.calls a0 false _ A3.out).mono ?_); rintro e w' ⟨rfl, ⟨nd, rfl⟩⟩; refine ⟨_, rfl, ?_⟩) | ((with_reducible refine zac (f := 103) rfl ?_); refine za0 (some 10) rfl rfl Tryd.func103 (by kernel_rfl) rfl #[.int .u64 a1] rfl (zE) ?_; (with_reducible refine (za8.calls a1 false _ A4.out).mono ?_); rintro e w' ⟨rfl, ⟨nd, rfl⟩⟩; refine ⟨_, rfl, ?_⟩))
     go_ret
     exact ⟨zF, by repeat (first | exact Drawn0.refl _ | apply Drawn0.step)⟩
    ·
     rw [if_neg c9] at H
     have c9b0 : decide (a1 < a0) = false := decide_eq_false c9
     clear c9
     obtain rfl := Option.some.inj H
     go_enter Tryd.func80, Tryd.ntmps80
     go_wp2_with (first | ((with_reducible refine zac (f := 103) rfl ?_); refine za0 (some 8) rfl rfl Tryd.func103 (by kernel_rfl) rfl #[.int .u64 a0] rfl (zE) ?_; (with_reducible refine (za8.calls a0 false _ A3.out).mono ?_); rintro e w' ⟨rfl, ⟨nd, rfl⟩⟩; refine ⟨_, rfl, ?_⟩) | ((with_reducible refine zac (f := 103) rfl ?_); refine za0 (some 10) rfl rfl Tryd.func103 (by kernel_rfl) rfl #[.int .u64 a1] rfl (zE) ?_; (with_reducible refine (za8.calls a1 false _ A4.out).mono ?_); rintro e w' ⟨rfl, ⟨nd, rfl⟩⟩; refine ⟨_, rfl, ?_⟩))
     go_ret
     exact ⟨zF, by repeat (first | exact Drawn0.refl _ | apply Drawn0.step)⟩
def revCmp : List Int → List Int → Int
 | x :: xs, y :: ys => if x = y then revCmp xs ys else if x < y then -1 else 1
 | _, _ => 0
def natCmp (l0 l1 : List Int) : Int := if l0.length = l1.length then revCmp l0.reverse l1.reverse else if l0.length < l1.length then -1 else 1
def zco.f (l0 l1 : List Int) : Option Int := some (natCmp l0 l1)
section
open Go.Shelf
attribute [local go_sem] Oper.semAt_some
def bw (zs : List Int) (k : Nat) : List (Fin zs.length) := (List.finRange zs.length).reverse.take k
theorem bw_succ (zs : List Int) (k : Nat) (h : k < zs.length) : bw zs (k + 1) = bw zs k ++ [⟨zs.length - 1 - k, by omega⟩] := by
 unfold bw
 rw [List.take_succ_eq_append_getElem (by simpa using h)]
 congr 2
 rw [List.getElem_reverse]
 simp
theorem bw_length (zs : List Int) (k : Nat) (h : k ≤ zs.length) : (bw zs k).length = k := by simp [bw]; omega
def bwv (zs : List Int) (x : Fin zs.length) : Int := zs.getD x.val 0
theorem bwv_eq (zs : List Int) (x : Fin zs.length) : bwv zs x = zs.getD x.val 0 := rfl
def BwKp (n₀ Bs : Nat) (A B : World) : Prop := Below n₀ A B ∧ B.cell? ⟨Bs, 0, none⟩ = A.cell? ⟨Bs, 0, none⟩
theorem back1_in (F : Fence) (n : Nat) (h8 : F.fn 102) (hro : F.round = none) (hn : 1 ≤ n) (l Bs n₀ cap : Nat) (A : Option Addr) (zs : List Int) (hreach : zs.length ≤ 9223372036854775807) (J Jx : List (Fin zs.length) → World → Prop)
  (hY : ∀ pre x W, J pre W → pre.length < zs.length → YieldAt F (n - 1) Tryd.prog l #[.int .i64 (x.val : Int), .int .u64 (bwv zs x)] W fun e W' =>
   (e = .returned (.bool true) ∧ J (pre ++ [x]) W' ∧ BwKp n₀ Bs W W') ∨ (e = .returned (.bool false) ∧ Jx (pre ++ [x]) W'))
  (W : World) (hBs : W.cell? ⟨Bs, 0, none⟩ = some (.slice A zs.length cap)) (hc : ∀ j, j < zs.length → ∃ ad, A = some ad ∧ ad.block < n₀ ∧ W.cell? (ad.add j) = some (.int .u64 (zs.getD j 0))) (h0 : J [] W) :
  CallsIn F n Tryd.prog 102 #[.func (.yield l) #[] #[], .pointer (some ⟨Bs, 0, none⟩)] W fun e W' => (∃ v, e = .returned v) ∧
   ((∃ ys, ys = bw zs zs.length ∧ J ys W') ∨ (∃ pre, (∃ k, k ≤ zs.length ∧ pre = bw zs k) ∧ Jx pre W')) := by
 refine callsIn_of_wp Tryd.func102 rfl h8 ?_ hro
 simp only [Tryd.ntmps102, List.size_toArray, List.length_cons, List.length_nil, Nat.reduceAdd, Nat.reduceSub, Array.replicate_succ, Array.replicate_zero, List.push_toArray, List.append_toArray, List.nil_append, List.cons_append]
 gi_wp2
 gi_loopw [3] (fun i wr => ∃ (k : Nat) (m : Int), k ≤ zs.length ∧ m = (zs.length : Int) - 1 - k ∧ i = .int .i64 m ∧ J (bw zs k) wr ∧ BwKp n₀ Bs W wr)
  (fun i _ => (intOf i + 1).toNat)
 case atStart => exact ⟨0, (zs.length : Int) - 1, Nat.zero_le _, by omega, rfl, h0, Below.refl _ _, rfl⟩
 case round =>
  obtain ⟨k, m, hk, hm, rfl, hJs, hnx, hbx⟩ := hrel
  have hBr : wr.cell? ⟨Bs, 0, none⟩ = some (.slice A zs.length cap) := hbx.trans hBs
  have HM := Lib.hid hm
  by_cases hlt : k < zs.length
  ·
   obtain ⟨j, hj⟩ : ∃ j : Nat, m = j := ⟨zs.length - 1 - k, by omega⟩
   subst hj
   have hjk : zs.length - 1 - k = j := by omega
   obtain ⟨ad, rfl, hb, hcj⟩ := hc j (by omega)
   have hcx : wr.cell? (ad.add j) = some (.int .u64 (zs.getD j 0)) := (hnx.cell (p := ad.add j) (by unfold Addr.add; split <;> exact hb)).trans hcj
   have hjl : j < zs.length := by omega
   obtain ⟨fn, tmps, assign, body, hy, hR⟩ := hY _ ⟨j, hjl⟩ wr hJs (by rw [bw_length _ _ hk]; exact hlt)
   have hlast : bw zs (k + 1) = bw zs k ++ [⟨j, hjl⟩] := by
    rw [bw_succ zs k hlt]
    congr 3
   have HL := Lib.hid hlast
   have HB := Lib.hid hbx
   rw [bwv_eq] at hy
   dsimp only at hy
   obtain ⟨x, hx⟩ : ∃ x, zs.getD j 0 = x := ⟨_, rfl⟩
   rw [hx] at hcx hy
   have hj0 : (0 : Int) ≤ j := by omega
   have hj1 : (j : Int) < zs.length := by omega
   clear hm hjk hx hlast hc hcj hBs hbx
   gi_wp2
   refine hR.mono ?_
   rintro e W3 (⟨rfl, hJ3, hk3, hb3⟩ | ⟨rfl, hJx3⟩)
   ·
    gi_wp2
    go_roundw
    case rel => exact ⟨k + 1, (j : Int) - 1, by omega, by have := HM.out; omega, rfl, by rw [HL.out]; exact hJ3, hnx.trans hk3, hb3.trans HB.out⟩
    case measure => simp [intOf]
   ·
    gi_wp2
    refine bodyPost_ret (results_none rfl _ _ _) rfl ?_
    exact ⟨⟨_, rfl⟩, .inr ⟨_, ⟨k + 1, by omega, HL.out.symm⟩, hJx3⟩⟩
  ·
   obtain rfl : k = zs.length := by omega
   obtain rfl : m = -1 := by omega
   gi_wp2
   go_end0
   exact ⟨⟨_, rfl⟩, .inl ⟨_, rfl, hJs⟩⟩
theorem back_in (F : Fence) (n : Nat) (h : F.fn 79) (hro : F.round = none) (a : Option Addr) (len cap : Nat) (w : World) :
  CallsIn F n Tryd.prog 79 #[.slice a len cap] w fun e w' => e = .returned (.func (.func 102) #[] #[.pointer (some ⟨w.heap.size, 0, none⟩)]) ∧ w' = w.alloc (.cells #[.slice a len cap] 26) := by
 refine callsIn_of_wp Tryd.func79 rfl h ?_ hro
 simp only [Tryd.ntmps79, List.size_toArray, List.length_cons, List.length_nil, Nat.reduceAdd, Nat.reduceSub, Array.replicate_succ, Array.replicate_zero, List.push_toArray, List.append_toArray, List.nil_append, List.cons_append]
 gi_wp2
 go_ret
 exact ⟨rfl, rfl⟩
theorem back_stops (F : Fence) (n : Nat) (h7 : F.fn 102) (hro : F.round = none) (hn : 1 ≤ n) (Bs n₀ cap : Nat) (A : Option Addr) (zs : List Int) (hreach : zs.length ≤ 9223372036854775807) (w : World) (hBs : Bs < w.heap.size) (hn₀ : n₀ ≤ w.heap.size)
  (hc : w.cell? ⟨Bs, 0, none⟩ = some (.slice A zs.length cap)) (hI : ∀ j, j < zs.length → ∃ ad, A = some ad ∧ ad.block < n₀ ∧ w.cell? (ad.add j) = some (.int .u64 (zs.getD j 0))) :
  SeqStopsK F n Tryd.prog 102 #[.pointer (some ⟨Bs, 0, none⟩)] (fun x : Fin zs.length => #[Value.int .i64 (x.val : Int), Value.int .u64 (bwv zs x)]) (BwKp n₀ Bs) (fun ys => ys = bw zs zs.length)
   (fun pre => ∃ k, k ≤ zs.length ∧ pre = bw zs k) zs.length w := fun l J Jx W hW _ _ hY h0 =>
 back1_in F n h7 hro hn l Bs n₀ cap A zs hreach J Jx hY W ((hW.cell (p := ⟨Bs, 0, none⟩) hBs).trans hc)
  (fun j hj => by
   obtain ⟨ad, e, hb, hcj⟩ := hI j hj
   exact ⟨ad, e, hb, (hW.cell (p := ad.add j) (by unfold Addr.add; split <;> (show ad.block < _; omega))).trans hcj⟩) h0
theorem bwKp_t {n₀ Bs : Nat} {A B C : World} (h : BwKp n₀ Bs A B) (h' : BwKp n₀ Bs B C) : BwKp n₀ Bs A C := ⟨h.1.trans h'.1, h'.2.trans h.2⟩
theorem bwKp_b {n₀ Bs : Nat} {w : World} (hn : n₀ ≤ w.heap.size) (hB : Bs < w.heap.size) (W : World) (l : Nat) (o o' : Obj) (hl : w.heap.size ≤ l) (ho : W.heap[l]? = some o) (hc : o.isCells = false) (hw : o.isWalk = false) : BwKp n₀ Bs W (W.putObj l o') :=
 ⟨belowK_b hn W l o o' hl ho hc hw, by
  unfold World.cell?
  rw [World.putObj_heap_other (by show Bs ≠ l; omega)]⟩
end
theorem compare_int {a b : Nat} (h : a ≠ b) : cmp_Compare_int.f (a : Int) (b : Int) = some (if a < b then -1 else 1) := by
 unfold cmp_Compare_int.f cmp_isNaN_int.f
 rcases Nat.lt_or_ge a b with h1 | h1
 ·
  simp [h1]
 ·
  have h2 : ¬ a < b := by omega
  have h3 : b < a := by omega
  simp [h2, h3]
theorem compare_u64 {a b : Int} (h : a ≠ b) : zcq.f a b = some (if a < b then -1 else 1) := by
 unfold zcq.f za8.f
 by_cases h1 : a < b
 ·
  simp [h1]
 ·
  have h3 : b < a := by omega
  simp [h1, h3]
theorem zco.ne (A0 : Option Addr) (c0 n0 : Nat) (A1 : Option Addr) (c1 n1 : Nat) (w : World) (h : n0 ≠ n1) (r : Int) (hr : cmp_Compare_int.f (n0 : Int) (n1 : Int) = some r) :
  Calls Tryd.prog 52 #[.slice A0 n0 c0, .slice A1 n1 c1] w fun e w' => e = .returned (.int .i64 r) ∧ Below w.heap.size w w' := by
 have hne : ((n0 : Int) != (n1 : Int)) = true := by simp; omega
 have hne2 : ((n0 : Nat) != n1) = true := by simpa using h
 have HC := Lib.hid hr
 clear hr
 go_enter Tryd.func52, Tryd.ntmps52
 go_wp2_with (go_at_call 78; refine (cmp_Compare_int.calls _ _ _ _ HC.out).mono ?_; rintro e w' ⟨rfl, ⟨nd, rfl⟩⟩)
 refine bodyPost_ret (v := .int .i64 r) (by simp [results, Tryd.f52, go_sem]) rfl ⟨rfl, ?_⟩
 exact (zbc (((Below.refl _ _).alloc (Nat.le_refl _) _).alloc (by simp) _) nd).setCell (p := ⟨w.heap.size + 1, 0, none⟩) (by simp) _
section
open Go.Shelf
attribute [local go_sem] Oper.semAt_some
theorem zco.eq_in (F : Fence) (n : Nat) (h4 : F.fn 52) (h6 : F.fn 79) (h8 : F.fn 102) (h9 : F.fn 80) (hro : F.round = none) (hn : 4 ≤ n) (hcmp : ∀ (m l : Nat) (a b : Int) (w : World), a ≠ b → CallsIn (F.inRound l) m Tryd.prog 80 #[.int .u64 a, .int .u64 b] w fun e w' => e = .returned (.int .i64 (if a < b then -1 else 1)) ∧ Drawn0 w w')
  (A0 : Option Addr) (c0 : Nat) (l0 : List Int) (A1 : Option Addr) (c1 : Nat) (l1 : List Int) (w : World) (hreach : l0.length ≤ 9223372036854775807) (hl : l1.length = l0.length)
  (hI0 : ∀ j, j < l0.length → ∃ ad, A0 = some ad ∧ ad.block < w.heap.size ∧ w.cell? (ad.add j) = some (.int .u64 (l0.getD j 0)))
  (hI1 : ∀ j, j < l0.length → ∃ ad, A1 = some ad ∧ ad.block < w.heap.size ∧ w.cell? (ad.add j) = some (.int .u64 (l1.getD j 0))) :
  CallsIn F n Tryd.prog 52 #[.slice A0 l0.length c0, .slice A1 l0.length c1] w fun e W' =>
   ((e = .returned (.int .i64 0) ∧ ∀ p ∈ bw l0 l0.length, bwv l0 p = l1.getD p.val 0) ∨ (∃ k : Nat, ∃ p : Fin l0.length, bw l0 (k + 1) = bw l0 k ++ [p] ∧ k < l0.length ∧ (∀ p ∈ bw l0 k, bwv l0 p = l1.getD p.val 0) ∧ bwv l0 p ≠ l1.getD p.val 0 ∧ e = .returned (.int .i64 (if bwv l0 p < l1.getD p.val 0 then -1 else 1)))) ∧ Below w.heap.size w W' := by
 have h1 : 1 ≤ n := by omega
 have hne : ((l0.length : Int) != (l0.length : Int)) = false := by simp
 refine callsIn_of_wp_marks Tryd.func52 rfl h4 ?_ hro
 simp only [Tryd.ntmps52, List.size_toArray, List.length_cons, List.length_nil, Nat.reduceAdd, Nat.reduceSub, Array.replicate_succ, Array.replicate_zero, List.push_toArray, List.append_toArray, List.nil_append, List.cons_append]
 have HI0 := Lib.hid hI0
 have HI1 := Lib.hid hI1
 have HL := Lib.hid hl
 have HC := Lib.hid hcmp
 clear hI0 hI1 hl hcmp
 gi_wp2_with (gi_at_call 79; refine (back_in F (n - 1) h6 hro _ _ _ _).mono ?_; rintro e w' ⟨rfl, rfl⟩)
 have bB := Boxed.new w 26 (.slice A1 l0.length c1)
 have bR := Boxed.new (w.alloc (.cells #[.slice A1 l0.length c1] 26)) 3 (.int .i64 0)
 have bN := Boxed.new ((w.alloc (.cells #[.slice A1 l0.length c1] 26)).alloc (.cells #[.int .i64 0] 3)) 26 (.slice A0 l0.length c0)
 rw [World.size_alloc] at bR
 rw [World.size_alloc, World.size_alloc] at bN
 have hB0 : Below w.heap.size w (((w.alloc (.cells #[.slice A1 l0.length c1] 26)).alloc (.cells #[.int .i64 0] 3)).alloc (.cells #[.slice A0 l0.length c0] 26)) := (((Below.refl _ w).alloc (Nat.le_refl _) _).alloc (by simp) _).alloc (by simp; omega) _
 refine wpIn_rangeFunc_ownG hro h1 (gf := 102) (lb := #[.pointer (some ⟨w.heap.size + 1 + 1, 0, none⟩)]) rfl h8 (enters_of Tryd.func102 (by kernel_rfl) rfl)
  (back_stops F (n - 1) h8 hro (by omega) (w.heap.size + 1 + 1) w.heap.size c0 A0 l0 hreach _ (by simp) (by simp; omega) bN.cell (fun j hj => by
   obtain ⟨ad, e, hb, hc⟩ := HI0.out j hj
   exact ⟨ad, e, hb, (hB0.cell (p := ad.add j) (by unfold Addr.add; split <;> exact hb)).trans hc⟩)) bwKp_t (bwKp_b (by simp; omega) (by simp)) (Below.refl _ _) (fun _ => rfl)
  (fun pre W => ((∀ p ∈ pre, bwv l0 p = l1.getD p.val 0) ∧ W.cell? ⟨w.heap.size, 0, none⟩ = some (.slice A1 l0.length c1) ∧ W.cell? ⟨w.heap.size + 1, 0, none⟩ = some (.int .i64 0) ∧ W.frozen? ⟨w.heap.size + 1, 0, none⟩ = false) ∧ Below w.heap.size w W)
  (fun c pre W => (c = .ret ∧ ∃ ini last, pre = ini ++ [last] ∧ (∀ p ∈ ini, bwv l0 p = l1.getD p.val 0) ∧ bwv l0 last ≠ l1.getD last.val 0 ∧ W.cell? ⟨w.heap.size + 1, 0, none⟩ = some (.int .i64 (if bwv l0 last < l1.getD last.val 0 then -1 else 1))) ∧ Below w.heap.size w W)
  (OwnFrom.and (Own.from (fun s A B row hs hg hr => ⟨hs.1, cell_kept hs.2.1 hg hr, cell_kept hs.2.2.1 hg hr, (frozen_kept hs.2.2.1 hg hr).trans hs.2.2.2⟩) _) (ownFrom_below (Nat.le_refl _) (by simp; omega)))
  (fun c => OwnFrom.and (Own.from (fun s A B row hs hg hr => by obtain ⟨hc, ini, last, e1, e2, e3, e4⟩ := hs; exact ⟨hc, ini, last, e1, e2, e3, cell_kept e4 hg hr⟩) _) (ownFrom_below (Nat.le_refl _) (by simp; omega)))
  ⟨⟨by simp, ((bB.alloc _).alloc _).cell, (bR.alloc _).cell, (bR.alloc _).frozen⟩, hB0⟩
  (fun x => { tmps := #[.slice A0 l0.length c0, .slice A1 l0.length c1, undef, .pointer (some ⟨w.heap.size, 0, none⟩), .pointer (some ⟨w.heap.size + 1, 0, none⟩), .int .i64 (x.val : Int), .int .u64 (bwv l0 x), .slice A0 l0.length c0, .int .i64 l0.length, .slice A1 l0.length c1, .int .i64 l0.length, .bool false, undef, undef, undef, undef, undef, .slice A0 l0.length c0, .func (.func 102) #[] #[.pointer (some ⟨w.heap.size + 1 + 1, 0, none⟩)], .int .i64 (x.val : Int), .int .u64 (bwv l0 x), undef, undef, undef, undef, undef, undef, undef, undef, undef, undef, undef, undef], defers := [] }) ?assign ?body ?done ?stop
 case assign =>
  intro l x W K hK
  gi_wp2
  exact hK
 case body =>
  rintro l pre x W ⟨⟨hp, hcb, hcr, hfr⟩, hB⟩ _
  obtain ⟨ad, rfl, hb, hc1⟩ := HI1.out x.val x.isLt
  have hcx : W.cell? (ad.add x.val) = some (.int .u64 (l1.getD x.val 0)) := (hB.cell (p := ad.add x.val) (by unfold Addr.add; split <;> exact hb)).trans hc1
  have hx0 : (0 : Int) ≤ (x.val : Int) := by omega
  have hx1 : (x.val : Int) < (l0.length : Int) := by have := x.isLt; omega
  have HP := Lib.hid hp
  clear hp hc1
  obtain ⟨j, hj⟩ : ∃ j, x.val = j := ⟨_, rfl⟩
  rw [hj] at hcx hx0 hx1
  obtain ⟨u, hu⟩ : ∃ u, bwv l0 x = u := ⟨_, rfl⟩
  obtain ⟨v, hv⟩ : ∃ v, l1.getD j 0 = v := ⟨_, rfl⟩
  rw [hv] at hcx
  simp only [hu, hj]
  have HU := Lib.hid hu
  have HV := Lib.hid hv
  have HJ := Lib.hid hj
  clear hu hv hj
  have HCR := Lib.hid hcr
  by_cases huv : u = v
  ·
   have e1 : (u != v) = false := by simp [huv]
   have HE := Lib.hid huv
   clear huv
   gi_wp2
   exact ⟨KeepsFrom.refl _ _, ⟨Below.refl _ _, rfl⟩, ⟨fun p hp' => (List.mem_append.1 hp').elim (HP.out p) (fun e => by simp at e; subst e; rw [HU.out, HJ.out, HV.out]; exact HE.out), hcb, HCR.out, hfr⟩, hB⟩
  ·
   have e1 : (u != v) = true := by simpa using huv
   have HCC := Lib.hid (fun m_ w_ => HC.out m_ l u v w_ huv)
   have HE := Lib.hid huv
   clear huv
   gi_wp2
   refine ⟨fun _ => by omega, ?_⟩
   refine (HCC.out _ _).mono ?_
   rintro e w' ⟨rfl, ⟨nd, rfl⟩⟩
   obtain ⟨z, hz⟩ : ∃ z : Int, (if u < v then -1 else 1) = z := ⟨_, rfl⟩
   have HZ := Lib.hid hz
   simp only [hz]
   clear hz
   gi_wp2
   have hkd : KeepsOthers W (W.drewN nd) := ⟨Nat.le_of_eq (by simp), fun k o ho hc => by simpa using ho⟩
   exact ⟨(hkd.trans (KeepsOthers.setCell _ _ _)).from _, ⟨rfl, pre, x, rfl, HP.out, by rw [HU.out, HJ.out, HV.out]; exact HE.out, by rw [HU.out, HJ.out, HV.out, HZ.out]; exact World.cell?_setCell_same' _ _ _ (by rw [World.cell?_drewN, HCR.out]; rfl)⟩, (zbc hB nd).setCell (p := ⟨w.heap.size + 1, 0, none⟩) (by simp) _⟩
 case done =>
  rintro D ys W hD rfl ⟨⟨hp, hcb, hcr, hfr⟩, hB⟩ hK
  have HP := Lib.hid hp
  clear hp
  gi_wp2
  have hK' := (KeepsOthers.setCell W ⟨w.heap.size + 1, 0, none⟩ (.int .i64 0)).same D _ hK rfl
  refine ⟨by simp, .inl ⟨_, _, rfl, run_takeDeferred hK', ?_⟩⟩
  have hc5 := cell_kept (World.cell?_setCell_same' W ⟨w.heap.size + 1, 0, none⟩ (.int .i64 0) (by rw [hcr]; rfl)) (grownBy_putObj' _ D (.deferred none)) (fun r e => by cases e; exact ⟨_, hK', rfl⟩)
  refine ⟨.int .i64 0, ?_, .inl ⟨rfl, HP.out⟩, (hB.setCell (p := ⟨w.heap.size + 1, 0, none⟩) (by simp) _).trans (belowK_b (w := w) (Nat.le_refl _) _ D _ _ (by simp at hD; omega) hK' rfl rfl)⟩
  simp [results, Tryd.f52, go_sem, hc5]
 case stop =>
  rintro D c pre W hD ⟨k, hk, rfl⟩ ⟨⟨rfl, ini, last, e1, e2, e3, hcr⟩, hB⟩ hK
  have HE := Lib.hid e1
  have H2 := Lib.hid e2
  have H3 := Lib.hid e3
  clear e1 e2 e3
  gi_wp2
  refine ⟨by simp, .inl ⟨_, _, rfl, run_takeDeferred hK, ?_⟩⟩
  have hc5 := cell_kept hcr (grownBy_putObj' _ D (.deferred none)) (fun r e => by cases e; exact ⟨_, hK, rfl⟩)
  obtain ⟨k', rfl⟩ : ∃ k', k = k' + 1 := by
   cases k with
   | zero => have := HE.out; simp [bw] at this
   | succ k' => exact ⟨k', rfl⟩
  have e1 := HE.out
  rw [bw_succ _ _ (by omega)] at e1
  obtain ⟨rfl, e5⟩ := List.append_inj' e1 rfl
  have e6 : (⟨l0.length - 1 - k', by omega⟩ : Fin l0.length) = last := by simpa using e5
  refine ⟨.int .i64 (if bwv l0 last < l1.getD last.val 0 then -1 else 1), ?_, .inr ⟨k', last, by rw [bw_succ _ _ (by omega), e6], by omega, H2.out, H3.out, rfl⟩, hB.trans (belowK_b (w := w) (Nat.le_refl _) W D _ _ (by simp at hD; omega) hK rfl rfl)⟩
  simp [results, Tryd.f52, go_sem, hc5]
end
theorem revCmp_eq : ∀ (a b : List Int), (∀ j, j < a.length → a.getD j 0 = b.getD j 0) → a.length = b.length → revCmp a b = 0
 | [], [], _, _ => rfl
 | x :: xs, y :: ys, h, hl => by
  have h0 := h 0 (by simp)
  simp at h0
  unfold revCmp
  rw [if_pos h0]
  exact revCmp_eq xs ys (fun j hj => by have := h (j + 1) (by simpa using hj); simpa using this) (by simpa using hl)
theorem revCmp_ne : ∀ (a b : List Int) (k : Nat), k < a.length → a.length = b.length → (∀ j, j < k → a.getD j 0 = b.getD j 0) → a.getD k 0 ≠ b.getD k 0 → revCmp a b = if a.getD k 0 < b.getD k 0 then -1 else 1
 | [], _, k, hk, _, _, _ => by simp at hk
 | x :: xs, [], k, _, hl, _, _ => by simp at hl
 | x :: xs, y :: ys, 0, _, _, _, hne => by
  simp at hne
  simp [revCmp, hne]
 | x :: xs, y :: ys, k + 1, hk, hl, h, hne => by
  have h0 := h 0 (by omega)
  simp at h0
  unfold revCmp
  rw [if_pos h0, revCmp_ne xs ys k (by simpa using hk) (by simpa using hl) (fun j hj => by have := h (j + 1) (by omega); simpa using this) (by simpa using hne)]
  simp
theorem rev_getD (a : List Int) (k : Nat) (h : k < a.length) : a.reverse.getD k 0 = a.getD (a.length - 1 - k) 0 := by
 rw [List.getD_eq_getElem?_getD, List.getD_eq_getElem?_getD, List.getElem?_reverse h]
theorem mem_bw (zs : List Int) (k : Nat) (p : Fin zs.length) (hk : k ≤ zs.length) : p ∈ bw zs k ↔ zs.length - 1 - p.val < k := by
 unfold bw
 rw [List.mem_take_iff_getElem]
 constructor
 ·
  rintro ⟨i, hi, he⟩
  rw [List.getElem_reverse] at he
  simp at he hi
  have := congrArg Fin.val he
  simp at this
  omega
 ·
  intro h
  have hp := p.isLt
  refine ⟨zs.length - 1 - p.val, by simp; omega, ?_⟩
  rw [List.getElem_reverse]
  apply Fin.ext
  simp
  omega
theorem zco.calls (A0 : Option Addr) (c0 : Nat) (l0 : List Int) (A1 : Option Addr) (c1 : Nat) (l1 : List Int) (r : Int) (w : World) (hr0 : Kd.C (Kd.int .u64) w A0 l0.length l0) (hc0 : l0.length ≤ c0) (hr1 : Kd.C (Kd.int .u64) w A1 l1.length l1) (hc1 : l1.length ≤ c1) (h : zco.f l0 l1 = some r) :
  Calls Tryd.prog 52 #[.slice A0 l0.length c0, .slice A1 l1.length c1] w fun e w' => e = .returned (.int .i64 r) ∧ Below w.heap.size w w' := by
 obtain rfl := Option.some.inj h
 unfold natCmp
 by_cases hl : l0.length = l1.length
 ·
  rw [if_pos hl, ← hl]
  have read : ∀ {A : Option Addr} {l : List Int}, Kd.C (Kd.int .u64) w A l.length l → ∀ j, j < l.length → ∃ ad, A = some ad ∧ ad.block < w.heap.size ∧ w.cell? (ad.add j) = some (.int .u64 (l.getD j 0)) := fun hr j hj => by
   obtain ⟨ad, e, hc⟩ := Kd.at_int hr (j : Int) (by omega) (by omega)
   refine ⟨ad, e, ?_, by simpa [rd] using hc⟩
   have := World.block_lt_of_cell? w _ hc
   unfold Addr.add at this
   split at this <;> exact this
  have hm : l0.length ≤ 9223372036854775807 := hr0.2.1
  refine (callsIn_wide (n := 4)).1 ((zco.eq_in Fence.wide 4 trivial trivial trivial trivial rfl (by omega) (fun m l a b w_ hab => CallsIn.inRound l (callsIn_wide.2 (zcq.calls a b _ w_ (compare_u64 hab)))) A0 c0 l0 A1 c1 l1 w hm hl.symm (read hr0) (fun j hj => read hr1 j (by omega))).mono ?_)
  rintro e W' ⟨⟨rfl, he⟩ | ⟨k, p, hb, hk, he, hne, rfl⟩, hB⟩
  ·
   refine ⟨?_, hB⟩
   rw [revCmp_eq]
   ·
    intro j hj
    rw [List.length_reverse] at hj
    rw [rev_getD _ _ hj, rev_getD _ _ (by omega), ← hl]
    exact he ⟨l0.length - 1 - j, by omega⟩ ((mem_bw _ _ _ (Nat.le_refl _)).2 (by omega))
   ·
    simpa using hl
  ·
   refine ⟨?_, hB⟩
   have hp : p.val = l0.length - 1 - k := by
    rw [bw_succ _ _ hk] at hb
    have := List.append_inj' hb rfl
    have e6 : (⟨l0.length - 1 - k, by omega⟩ : Fin l0.length) = p := by simpa using this.2
    rw [← e6]
   have e1 : l0.reverse.getD k 0 = bwv l0 p := by rw [rev_getD _ _ hk, bwv_eq, hp]
   have e2 : l1.reverse.getD k 0 = l1.getD p.val 0 := by rw [rev_getD _ _ (by omega), hp, ← hl]
   rw [revCmp_ne _ _ k (by simpa using hk) (by simpa using hl) ?_ (by rw [e1, e2]; exact hne), e1, e2]
   intro j hj
   rw [rev_getD _ _ (by omega), rev_getD _ _ (by omega), ← hl]
   exact he ⟨l0.length - 1 - j, by omega⟩ ((mem_bw _ _ _ (by omega)).2 (by show l0.length - 1 - (l0.length - 1 - j) < k; omega))
 ·
  rw [if_neg hl]
  exact zco.ne A0 c0 l0.length A1 c1 l1.length w hl _ (compare_int hl)
def zau.l0 : Nat → List Int → Option (List Int)
 | 0, _ => none
 | k + 1, x0 => if (x0.length : Int) > 0 then (if 0 ≤ (wrap64 ((x0.length : Int) - 1)) then (if (wrap64 ((x0.length : Int) - 1)) < (x0.length : Int) then (if (rd x0 (wrap64 ((x0.length : Int) - 1))) = 0 then (if (wrap64 ((x0.length : Int) - 1)) ≤ (x0.length : Int) then (zau.l0 k (x0.take ((wrap64 ((x0.length : Int) - 1)) : Int).toNat)) else (none)) else (some x0)) else (none)) else (none)) else (some x0)
def zau.f (k : Nat) (l0 : List Int) : Option (List Int) := zau.l0 k l0
theorem zau.zcj : ∀ k, (∀ y0, LeO (zau.l0 k y0) (zau.l0 (k + 1) y0))
 | 0 => fun _ r h => by simp [zau.l0] at h
 | k + 1 => by
  have ih0 := zau.zcj k
  ·
   intro y0
   unfold zau.l0
   repeat' first
   | (with_reducible exact ih0 _)
   | (with_reducible exact LeO.refl _)
   | (with_reducible exact LeO.none _)
   | (with_reducible refine LeO.ite ?_ ?_)
   | (with_reducible refine LeO.bind ?_ (fun _ => ?_))
   | exact ih0 _
   | exact LeO.none _
   | refine LeO.ite ?_ ?_
   | refine LeO.bind ?_ (fun _ => ?_)
theorem zau.mono : ∀ a0 k, LeO (zau.f k a0) (zau.f (k + 1) a0) := by
 intro a0 k
 have ih0 := zau.zcj k
 unfold zau.f
 repeat' first
   | (with_reducible exact ih0 _)
   | (with_reducible exact LeO.refl _)
   | (with_reducible exact LeO.none _)
   | (with_reducible refine LeO.ite ?_ ?_)
   | (with_reducible refine LeO.bind ?_ (fun _ => ?_))
   | exact ih0 _
   | exact LeO.none _
   | refine LeO.ite ?_ ?_
   | refine LeO.bind ?_ (fun _ => ?_)
theorem zau.calls (k : Nat) (P0_ : Nat → Prop) (A0 : Option Addr) (c0 : Nat) (l0 : List Int) (r : List Int) (w : World) (hs0 : Kd.V (Kd.int .u64) 57 w w.heap.size (fun k_ => P0_ k_) (.slice A0 l0.length c0) l0) (h : zau.f k l0 = some r) :
  Calls Tryd.prog 65 #[.slice A0 l0.length c0] w fun e w' => ∃ v0_ : Value, e = .returned (v0_) ∧ Kd.V (Kd.int .u64) 57 w' w.heap.size (fun k_ => (P0_ k_ ∨ w.heap.size ≤ k_)) v0_ r ∧ Below w.heap.size w w' := by
 have HO0 := zA (show Kd.V (Kd.int .u64) 57 w w.heap.size (fun k_ => (P0_ k_ ∨ w.heap.size ≤ k_)) (.slice A0 l0.length c0) l0 from Kd.zas hs0 (fun k_ hk => .inl hk))
 have HB := zA (Below.refl w.heap.size w)
 have H : (zau.l0 k l0) = some r := h
 clear h
 have H' := zA H
 clear H
 go_enter Tryd.func65, Tryd.ntmps65
 go_wp2
 go_loopg [0] k (fun kq v0 w' => ∃ (x0_1 : List Int), Aside0 (zau.l0 kq x0_1 = some r) ∧ Aside0 (kq ≤ k) ∧ Aside0 (Kd.V (Kd.int .u64) 57 w' w.heap.size (fun k_ => (P0_ k_ ∨ w.heap.size ≤ k_)) v0 x0_1) ∧ Aside0 (Below w.heap.size w w'))
 case atStart => exact ⟨(l0), H', ⟨Nat.le_refl _⟩, ⟨zV HO0⟩, ⟨zB HB⟩⟩
 case round =>
  clear H'
  obtain ⟨x0_1, HA, HK1, HO_0, HB⟩ := hrel
  cases gk with
  | zero => exact absurd HA.out (by simp [zau.l0])
  | succ k1 =>
   have H := HA.out
   clear HA
   simp only [zau.l0] at H
   by_cases c2 : (x0_1.length : Int) > 0
   ·
    rw [if_pos c2] at H
    have c2b0 : decide (0 < (x0_1.length : Int)) = true := decide_eq_true c2
    have c2b1 : decide (0 < x0_1.length) = true := decide_eq_true (by omega)
    clear c2
    obtain ⟨ji3, hji3⟩ : ∃ j_ : Int, (wrap64 ((x0_1.length : Int) - 1)) = j_ := ⟨_, rfl⟩
    replace H : (if 0 ≤ (ji3) then (if (ji3) < (x0_1.length : Int) then (if (rd x0_1 (ji3)) = 0 then (if (ji3) ≤ (x0_1.length : Int) then (zau.l0 k1 (x0_1.take ((ji3) : Int).toNat)) else (none)) else (some x0_1)) else (none)) else (none)) = some r := by first | (rw [hji3] at H; exact H) | (simp only [hji3] at H ⊢; exact H)
    have hji3w : (IntKind.i64.wrap ((x0_1.length : Int) - 1)) = ji3 := (i64_w _).trans hji3
    by_cases c4 : 0 ≤ (ji3)
    ·
     rw [if_pos c4] at H
     have c4b0 : decide (0 ≤ (ji3)) = true := decide_eq_true c4
     clear c4
     by_cases c5 : (ji3) < (x0_1.length : Int)
     ·
      rw [if_pos c5] at H
      have c5b0 : decide ((ji3) < (x0_1.length : Int)) = true := decide_eq_true c5
      clear c5
      by_cases c6 : (rd x0_1 (ji3)) = 0
      ·
       rw [if_pos c6] at H
       have c6b0 : ((rd x0_1 (ji3)) == 0) = true := beq_iff_eq.mpr c6
       have c6b1 : ((rd x0_1 (ji3)) != 0) = false := bne_eq_false_iff_eq.mpr c6
       clear c6
       have c7b0 := eq_true (of_decide_eq_true (by first | (with_reducible assumption) | assumption) : 0 ≤ (ji3))
       by_cases c8 : (ji3) ≤ (x0_1.length : Int)
       ·
        rw [if_pos c8] at H
        have c8b0 := eq_true c8
        have c8b1 : decide ((ji3) ≤ (x0_1.length : Int)) = true := decide_eq_true c8
        clear c8
        obtain ⟨y106, hy106⟩ : ∃ y_ : List Int, y_ = (x0_1.take ((ji3) : Int).toNat) := ⟨_, rfl⟩
        replace H : (zau.l0 k1 y106) = some r := by first | (rw [hy106]; with_reducible exact H) | (have H2_ := (Option.bind_some _ _).symm.trans H; rw [hy106]; with_reducible exact H2_) | (have H2_ := (Option.bind_some _ _).symm.trans H; with_reducible exact H2_) | with_reducible exact H | (rw [hy106]; exact H) | exact H
        have Ny106 := zA hy106
        clear hy106
        have H' := zA H
        clear H
        obtain ⟨Ao9, co9, eo9⟩ := Kd.za6 HO_0.out
        subst eo9
        have p105 : 0 ≤ ((ji3) : Int) := of_decide_eq_true (by first | (with_reducible assumption) | assumption)
        have q105 : (ji3) < (x0_1.length : Int) := of_decide_eq_true (by first | (with_reducible assumption) | assumption)
        obtain ⟨ad105, e105, hx105_0⟩ := Kd.at_int (Kd.zam HO_0.out).2.2 (ji3) p105 q105
        cases e105
        replace p105 := eq_true p105
        replace q105 := eq_true q105
        have q10 : ((ji3) : Int) ≤ ((x0_1.length : Int) : Int) := of_decide_eq_true (by first | (with_reducible assumption) | assumption)
        obtain ⟨i010, hi010, _, hsz10, _⟩ := info_parts info57
        have hroom10 : x0_1.length ≤ co9 := (Kd.zam HO_0.out).2.1
        have hC10 : Kd.F (Kd.int .u64) _ _ (some ad105) x0_1.length x0_1 := (Kd.V_at (base := w.heap.size) HO_0.out).2.2
        have hcut10 := cut_to (P := Tryd.prog) 26 57 .i64 Tryd.underlying26 hi010 (some ad105) x0_1.length co9 (ji3) (of_decide_eq_true (by first | (with_reducible assumption) | assumption)) q10 hroom10
        have hr10 := Kd.F_take (m := ((ji3) : Int).toNat) hC10 (by omega)
        have hy10 : y106.length = ((ji3) : Int).toNat := (by rw [Ny106.out, List.length_take]; omega)
        rw [← Ny106.out] at hr10
        rw [← hy10] at hcut10
        have HO110 := zA (show Kd.V (Kd.int .u64) 57 _ w.heap.size _ (.slice (some ad105) y106.length co9) y106 from Kd.V_mk (by omega) hr10)
        have HC110 := zA (show y106.length ≤ co9 from by omega)
        clear hr10 hC10 hroom10 hi010 hsz10
        have KY10 := zA hy10
        clear hy10
        replace q10 := eq_true q10
        go_wp2
        go_roundg k1
        case measure => have := HK1.out; omega
        case rel => exact ⟨(y106), H', ⟨by have := HK1.out; omega⟩, ⟨zV HO110⟩, ⟨zB HB⟩⟩
       ·
        rw [if_neg c8] at H
        exact absurd H (by simp)
      ·
       rw [if_neg c6] at H
       have c6b0 : ((rd x0_1 (ji3)) == 0) = false := beq_eq_false_iff_ne.mpr c6
       have c6b1 : ((rd x0_1 (ji3)) != 0) = true := bne_iff_ne.mpr c6
       obtain rfl := Option.some.inj H
       obtain ⟨Ao11, co11, eo11⟩ := Kd.za6 HO_0.out
       subst eo11
       have p105 : 0 ≤ ((ji3) : Int) := of_decide_eq_true (by first | (with_reducible assumption) | assumption)
       have q105 : (ji3) < (x0_1.length : Int) := of_decide_eq_true (by first | (with_reducible assumption) | assumption)
       obtain ⟨ad105, e105, hx105_0⟩ := Kd.at_int (Kd.zam HO_0.out).2.2 (ji3) p105 q105
       cases e105
       replace p105 := eq_true p105
       replace q105 := eq_true q105
       go_wp2
       go_ret
       exact ⟨_, by first | rfl | (simp [zbs, zbr] <;> rfl) | (simp only [← hji3]; first | rfl | (simp [zbs, zbr] <;> rfl)) | (simp [*, zbs, zbr] <;> rfl), zV HO_0, zB HB⟩
     ·
      rw [if_neg c5] at H
      exact absurd H (by simp)
    ·
     rw [if_neg c4] at H
     exact absurd H (by simp)
   ·
    rw [if_neg c2] at H
    have c2b0 : decide (0 < (x0_1.length : Int)) = false := decide_eq_false c2
    have c2b1 : decide (0 < x0_1.length) = false := decide_eq_false (by omega)
    clear c2
    obtain rfl := Option.some.inj H
    obtain ⟨Ao12, co12, eo12⟩ := Kd.za6 HO_0.out
    subst eo12
    go_wp2
    go_ret
    exact ⟨_, zW, zV HO_0, zB HB⟩
def za7.f (l0 : List Int) : Option (List Int) := if l0.length < 17592186044416 then some l0 else none
theorem za7.calls (A0 : Option Addr) (c0 : Nat) (l0 : List Int) (r : List Int) (w : World) (hr0 : Kd.C (Kd.int .u64) w A0 l0.length l0) (hc0 : l0.length ≤ c0) (h : za7.f l0 = some r) :
  Calls Tryd.prog 81 #[.slice A0 l0.length c0] w fun e w' => ∃ v0_ : Value, e = .returned (v0_) ∧ Kd.R (Kd.int .u64) 57 w' w.heap.size (fun _ => True) v0_ r ∧ Below w.heap.size w w' := by
 unfold za7.f at h
 split at h
 ·
  rename_i hlt
  injection h with h
  subst h
  cases A0 with
  | none =>
   obtain rfl : l0 = [] := by
    rcases Nat.eq_zero_or_pos l0.length with h0 | h0
    ·
     exact List.eq_nil_of_length_eq_zero h0
    ·
     obtain ⟨ad, e, _⟩ := Kd.at_int hr0 0 (by omega) (by omega)
     cases e
   have heq : ∀ W : World, (binOp .eql 26 (.slice none 0 c0) (.slice none 0 0)).run Tryd.prog W = .ok (.bool true) W := fun W => Lib.run_eql_slice_nil W 26 57 none 0 c0 0 0 Tryd.underlying26
   go_enter Tryd.func81, Tryd.ntmps81
   go_wp2
   go_ret
   exact ⟨_, rfl, Kd.R_nil _ _ _ _ _, Below.refl _ _⟩
  | some ad =>
   have heq : ∀ W : World, (binOp .eql 26 (.slice (some ad) l0.length c0) (.slice none 0 0)).run Tryd.prog W = .ok (.bool false) W := fun W => Lib.run_eql_slice_nil W 26 57 (some ad) l0.length c0 0 0 Tryd.underlying26
   have HR0 := zA hr0
   have HLT := zA hlt
   clear hr0 hlt hc0
   go_enter Tryd.func81, Tryd.ntmps81
   go_wp2_with (first
    | ((with_reducible refine zbf (N := 5) rfl ?_); refine Kd.R_lit (Kd.int .u64) _ 57 ?hg (N := 5) ?hd (xs := ([] : List Int)) (inner := []) (ok := fun _ => True) (okp := fun _ => True) ?hr ?hp (fun _ hk => hk) trivial (Below.refl _ _) (Nat.le_refl _) (by simp) ?_; (case hd => rfl); (case hg => rfl); (case hr => first | (go_simp; done) | (go_simp; rfl)); (case hp => exact (Reps.none _ _)); intro v5 w3 ho4 hb hg_ hnew_; clear hg_ hnew_; have HO := zA ho4; have HB := zA hb; clear hb ho4)
    | ((with_reducible refine zbx (b := .append) (xs := #[.tmp 5, .tmp 6]) rfl ?_); at_builtin; refine Kd.R_append_rows (Kd.int .u64) (w0 := w) w.heap.size rfl (.tmp 5) (.tmp 6) 26 57 (.int .u64 0) 8 rfl Tryd.underlying26 info57 rfl (by decide) (by omega) v5 [] l0 _ _ _ (fun _ => True) (fun _ => False) rfl rfl ?aO ?aR (fun _ _ h => h) (fun _ h => h.elim) ?aF ?aB ?aS ?aL ?_; (case aR => exact (Kd.za1 HR0.out HB.out)); (case aB => exact HB.out); (case aF => exact (fun _ _ => trivial)); (case aO => exact HO.out); (case aS => exact HB.out.size); (case aL => have := HLT.out; simp; omega); intro v177 w5 ho hb hg hat; have n0_ := zA hb; have n1_ := zA ho; clear HB HO; have HB := n0_; have HO := n1_; clear n0_ n1_ ho hb hg hat))
   go_ret
   exact ⟨_, rfl, HO.out, HB.out⟩
 ·
  cases h
def bits_Len64.f (x : Int) : Option Int := if 0 ≤ x then (if x ≤ 18446744073709551615 then some (Lib.bitLen x.toNat) else none) else none
theorem bits_Len64.calls (a0 : Int) (r : Int) (w : World) (h : bits_Len64.f a0 = some r) :
  Calls Tryd.prog 104 #[.int .u64 a0] w fun e w' => e = .returned (.int .i64 r) ∧ Drawn0 w w' := by
 unfold bits_Len64.f at h
 split at h
 ·
  rename_i h0
  split at h
  ·
   rename_i h1
   injection h with h
   subst h
   exact (Tryd.bits_Len64 a0 w h0 h1).mono fun e w' ⟨he, hw⟩ => ⟨he, by rw [hw]; exact Drawn0.refl _⟩
  ·
   cases h
 ·
  cases h
def zce.f (l0 : List Int) : Option (Int) := if (l0.length : Int) = 0 then (some 0) else (if 0 ≤ (wrap64 ((l0.length : Int) - 1)) then (if (wrap64 ((l0.length : Int) - 1)) < (l0.length : Int) then ((bits_Len64.f (rd l0 (wrap64 ((l0.length : Int) - 1)))).bind fun t112 => (some (wrap64 ((wrap64 (64 * (wrap64 ((l0.length : Int) - 1)))) + t112)))) else (none)) else (none))
theorem zce.calls (A0 : Option Addr) (c0 : Nat) (l0 : List Int) (r : Int) (w : World) (hr0 : Kd.C (Kd.int .u64) w A0 l0.length l0) (hc0 : l0.length ≤ c0) (h : zce.f l0 = some r) :
  Calls Tryd.prog 84 #[.slice A0 l0.length c0] w fun e w' => e = .returned (.int .i64 r) ∧ Drawn0 w w' := by
 have HR0 := zA hr0
 have HC0 := zA hc0
 clear hr0 hc0
 have H : (if (l0.length : Int) = 0 then (some 0) else (if 0 ≤ (wrap64 ((l0.length : Int) - 1)) then (if (wrap64 ((l0.length : Int) - 1)) < (l0.length : Int) then ((bits_Len64.f (rd l0 (wrap64 ((l0.length : Int) - 1)))).bind fun t112 => (some (wrap64 ((wrap64 (64 * (wrap64 ((l0.length : Int) - 1)))) + t112)))) else (none)) else (none))) = some r := h
 clear h
 by_cases c2 : (l0.length : Int) = 0
 ·
  rw [if_pos c2] at H
  have c2b0 : ((l0.length : Int) == 0) = true := beq_iff_eq.mpr c2
  have c2b1 : ((l0.length : Int) != 0) = false := bne_eq_false_iff_eq.mpr c2
  clear c2
  obtain rfl := Option.some.inj H
  go_enter Tryd.func84, Tryd.ntmps84
  go_wp2
  go_ret
  exact ⟨zF, by repeat (first | exact Drawn0.refl _ | apply Drawn0.step)⟩
 ·
  rw [if_neg c2] at H
  have c2b0 : ((l0.length : Int) == 0) = false := beq_eq_false_iff_ne.mpr c2
  have c2b1 : ((l0.length : Int) != 0) = true := bne_iff_ne.mpr c2
  have c2b2 : ¬ (l0 = []) := fun h_ => c2 (by rw [h_]; rfl)
  obtain ⟨ji3, hji3⟩ : ∃ j_ : Int, (wrap64 ((l0.length : Int) - 1)) = j_ := ⟨_, rfl⟩
  replace H : (if 0 ≤ (ji3) then (if (ji3) < (l0.length : Int) then ((bits_Len64.f (rd l0 (ji3))).bind fun t112 => (some (wrap64 ((wrap64 (64 * (ji3))) + t112)))) else (none)) else (none)) = some r := by first | (rw [hji3] at H; exact H) | (simp only [hji3] at H ⊢; exact H)
  have hji3w : (IntKind.i64.wrap ((l0.length : Int) - 1)) = ji3 := (i64_w _).trans hji3
  by_cases c4 : 0 ≤ (ji3)
  ·
   rw [if_pos c4] at H
   have c4b0 : decide (0 ≤ (ji3)) = true := decide_eq_true c4
   clear c4
   by_cases c5 : (ji3) < (l0.length : Int)
   ·
    rw [if_pos c5] at H
    have c5b0 : decide ((ji3) < (l0.length : Int)) = true := decide_eq_true c5
    clear c5
    replace H := zO H
    obtain ⟨t112, A60, H⟩ := H
    try dsimp only at H
    have A6 := zA A60
    clear A60
    obtain rfl := Option.some.inj H
    have p111 : 0 ≤ ((ji3) : Int) := of_decide_eq_true (by first | (with_reducible assumption) | assumption)
    have q111 : (ji3) < (l0.length : Int) := of_decide_eq_true (by first | (with_reducible assumption) | assumption)
    obtain ⟨ad111, e111, hx111_0⟩ := Kd.at_int HR0.out (ji3) p111 q111
    cases e111
    replace p111 := eq_true p111
    replace q111 := eq_true q111
    go_enter Tryd.func84, Tryd.ntmps84
    go_wp2_with (first | ((with_reducible refine zac (f := 104) rfl ?_); refine za0 (some 16) rfl rfl Tryd.func104 (by kernel_rfl) rfl #[.int .u64 (rd l0 (ji3))] rfl (by (try simp only [List.map_toArray, List.map_cons, List.map_nil]); first | done | (simp only [hji3]; rfl) | rfl | (simp only [List.length_drop, List.length_take]; rfl) | ((simp [Act.eval, wrap64]) <;> omega) | ((simp [Act.eval, wrap64, IntKind.wrap, IntKind.bits, IntKind.signed]) <;> omega)) ?_; (with_reducible refine (bits_Len64.calls (rd l0 (ji3)) t112 _ A6.out).mono ?_); rintro e w' ⟨rfl, ⟨nd, rfl⟩⟩; refine ⟨_, rfl, ?_⟩))
    go_ret
    exact ⟨by first | rfl | (simp; done) | (simp only [← hji3] <;> (first | rfl | simp)) | (simp [*]; done), by repeat (first | exact Drawn0.refl _ | apply Drawn0.step)⟩
   ·
    rw [if_neg c5] at H
    exact absurd H (by simp)
  ·
   rw [if_neg c4] at H
   exact absurd H (by simp)
def zal.l0 : Nat → Int → List Int → Int → List Int → Int → Int → Option (List Int)
 | 0, _, _, _, _, _, _ => none
 | k + 1, x1, x5, x6, x18, x19, x20 => if x20 < x19 then (if 0 ≤ x20 then (if x20 < (x18.length : Int) then (if 0 ≤ (Int.tmod x1 64) then (if x5.length < 17592186044416 then (if 0 ≤ (wrap64 (64 - (Int.tmod x1 64))) then (zal.l0 k x1 (x5 ++ [Go.bits .or .u64 (shl .u64 (rd x18 x20) (Int.tmod x1 64)) x6]) (shr .u64 (rd x18 x20) (wrap64 (64 - (Int.tmod x1 64)))) x18 x19 (wrap64 (x20 + 1))) else (none)) else (none)) else (none)) else (none)) else (none)) else (if x5.length < 17592186044416 then ((zau.f k (x5 ++ [x6])).bind fun t123 => (some t123)) else (none))
def zal.f (k : Nat) (l0 : List Int) (a1 : Int) : Option (List Int) := if 0 ≤ (wrap64 (Int.tdiv a1 64)) then (if (wrap64 (Int.tdiv a1 64)) ≤ (wrap64 ((wrap64 ((wrap64 (Int.tdiv a1 64)) + (l0.length : Int))) + 1)) then (if (wrap64 ((wrap64 ((wrap64 (Int.tdiv a1 64)) + (l0.length : Int))) + 1) : Int).toNat ≤ 35184372088832 then (zal.l0 k a1 (List.replicate (wrap64 (Int.tdiv a1 64) : Int).toNat 0) 0 l0 (l0.length : Int) 0) else (none)) else (none)) else (none)
theorem zal.zcj : ∀ k, (∀ y0 y1 y2 y3 y4 y5, LeO (zal.l0 k y0 y1 y2 y3 y4 y5) (zal.l0 (k + 1) y0 y1 y2 y3 y4 y5))
 | 0 => fun _ _ _ _ _ _ r h => by simp [zal.l0] at h
 | k + 1 => by
  have ih0 := zal.zcj k
  ·
   intro y0 y1 y2 y3 y4 y5
   unfold zal.l0
   repeat' first
   | (with_reducible exact ih0 _ _ _ _ _ _)
   | (with_reducible exact zau.mono _ _)
   | (with_reducible exact LeO.refl _)
   | (with_reducible exact LeO.none _)
   | (with_reducible refine LeO.ite ?_ ?_)
   | (with_reducible refine LeO.bind ?_ (fun _ => ?_))
   | exact ih0 _ _ _ _ _ _
   | exact zau.mono _ _
   | exact LeO.none _
   | refine LeO.ite ?_ ?_
   | refine LeO.bind ?_ (fun _ => ?_)
theorem zal.mono : ∀ a0 a1 k, LeO (zal.f k a0 a1) (zal.f (k + 1) a0 a1) := by
 intro a0 a1 k
 have ih0 := zal.zcj k
 unfold zal.f
 repeat' first
   | (with_reducible exact ih0 _ _ _ _ _ _)
   | (with_reducible exact zau.mono _ _)
   | (with_reducible exact LeO.refl _)
   | (with_reducible exact LeO.none _)
   | (with_reducible refine LeO.ite ?_ ?_)
   | (with_reducible refine LeO.bind ?_ (fun _ => ?_))
   | exact ih0 _ _ _ _ _ _
   | exact zau.mono _ _
   | exact LeO.none _
   | refine LeO.ite ?_ ?_
   | refine LeO.bind ?_ (fun _ => ?_)
theorem zal.calls (k : Nat) (A0 : Option Addr) (c0 : Nat) (l0 : List Int) (a1 : Int) (r : List Int) (w : World) (hr0 : Kd.C (Kd.int .u64) w A0 l0.length l0) (hc0 : l0.length ≤ c0) (h : zal.f k l0 a1 = some r) :
  Calls Tryd.prog 85 #[.slice A0 l0.length c0, .int .i64 a1] w fun e w' => ∃ v0_ : Value, e = .returned (v0_) ∧ Kd.V (Kd.int .u64) 57 w' w.heap.size (fun k_ => (w.heap.size ≤ k_)) v0_ r ∧ Below w.heap.size w w' := by
 have HR0 := zA hr0
 have HC0 := zA hc0
 clear hr0 hc0
 have HB := zA (Below.refl w.heap.size w)
 have H : (if 0 ≤ (wrap64 (Int.tdiv a1 64)) then (if (wrap64 (Int.tdiv a1 64)) ≤ (wrap64 ((wrap64 ((wrap64 (Int.tdiv a1 64)) + (l0.length : Int))) + 1)) then (if (wrap64 ((wrap64 ((wrap64 (Int.tdiv a1 64)) + (l0.length : Int))) + 1) : Int).toNat ≤ 35184372088832 then (zal.l0 k a1 (List.replicate (wrap64 (Int.tdiv a1 64) : Int).toNat 0) 0 l0 (l0.length : Int) 0) else (none)) else (none)) else (none)) = some r := h
 clear h
 obtain ⟨ji3, hji3⟩ : ∃ j_ : Int, (wrap64 (Int.tdiv a1 64)) = j_ := ⟨_, rfl⟩
 replace H : (if 0 ≤ (ji3) then (if (ji3) ≤ (wrap64 ((wrap64 ((ji3) + (l0.length : Int))) + 1)) then (if (wrap64 ((wrap64 ((ji3) + (l0.length : Int))) + 1) : Int).toNat ≤ 35184372088832 then (zal.l0 k a1 (List.replicate (ji3 : Int).toNat 0) 0 l0 (l0.length : Int) 0) else (none)) else (none)) else (none)) = some r := by first | (rw [hji3] at H; exact H) | (simp only [hji3] at H ⊢; exact H)
 have hji3w : (IntKind.i64.wrap (Int.tdiv a1 64)) = ji3 := (i64_w _).trans hji3
 by_cases c4 : 0 ≤ (ji3)
 ·
  rw [if_pos c4] at H
  have c4b0 := eq_true c4
  have c4b1 : decide (0 ≤ (ji3)) = true := decide_eq_true c4
  clear c4
  by_cases c5 : (ji3) ≤ (wrap64 ((wrap64 ((ji3) + (l0.length : Int))) + 1))
  ·
   rw [if_pos c5] at H
   have c5b0 := eq_true c5
   have c5b1 : decide ((ji3) ≤ (wrap64 ((wrap64 ((ji3) + (l0.length : Int))) + 1))) = true := decide_eq_true c5
   by_cases c6 : (wrap64 ((wrap64 ((ji3) + (l0.length : Int))) + 1) : Int).toNat ≤ 35184372088832
   ·
    rw [if_pos c6] at H
    have c6b0 := eq_true c6
    have c6b1 : decide ((wrap64 ((wrap64 ((ji3) + (l0.length : Int))) + 1) : Int).toNat ≤ 35184372088832) = true := decide_eq_true c6
    obtain ⟨y113, hy113⟩ : ∃ y_ : List Int, y_ = (List.replicate (ji3 : Int).toNat 0) := ⟨_, rfl⟩
    replace H : (zal.l0 k a1 y113 0 l0 (l0.length : Int) 0) = some r := by first | (rw [hy113]; with_reducible exact H) | (have H2_ := (Option.bind_some _ _).symm.trans H; rw [hy113]; with_reducible exact H2_) | (have H2_ := (Option.bind_some _ _).symm.trans H; with_reducible exact H2_) | with_reducible exact H | (rw [hy113]; exact H) | exact H
    have Ny113 := zA hy113
    clear hy113
    have H' := zA H
    clear H
    go_enter Tryd.func85, Tryd.ntmps85
    go_wp2_with (first | ((with_reducible refine zbf (N := 17) rfl ?_); refine R_makec_ (Kd.int .u64) _ 57 rfl (N := 17) rfl 26 _ _ rfl ji3 (wrap64 ((wrap64 ((ji3) + (l0.length : Int))) + 1)) rfl rfl Tryd.underlying26 (.int .u64 0) 8 info57 rfl (by decide) (by omega) 0 (ok := fun _ => True) (okp := fun _ => True) rfl (fun _ hk => hk) trivial (of_decide_eq_true (by first | (with_reducible assumption) | assumption)) (of_decide_eq_true (by first | (with_reducible assumption) | assumption)) (Nat.le_trans (Nat.mul_le_mul_right _ (of_decide_eq_true (by first | (with_reducible assumption) | assumption) : (wrap64 ((wrap64 ((ji3) + (l0.length : Int))) + 1)).toNat ≤ 35184372088832)) (by omega)) (Below.refl _ _) (Nat.le_refl _) ?_; intro v114 w7 ho8 hb hg_ hnew_; clear hg_ hnew_; (first | rw [← Ny113.out] at ho8 | (simp only [Int.reduceToNat] at ho8; rw [← Ny113.out] at ho8)); have n0_ := zA (Kd.zb3 (Kd.R_newM (M := fun k_ => (w.heap.size ≤ k_)) ho8 (za (zB HB)) (fun k_ h_ => h_)) (za (zB HB))); have n1_ := zA (zaa (zB HB) hb); clear HB; have HO115 := n0_; have HB := n1_; clear n0_ n1_ hb ho8))
    go_loopg [5, 6, 20] k (fun kq v5 v6 v20 w' => ∃ (x5_1 : List Int) (x6_1 : Int) (x20_1 : Int), v6 = .int .u64 x6_1 ∧ v20 = .int .i64 x20_1 ∧ Aside0 (zal.l0 kq a1 x5_1 x6_1 l0 (l0.length : Int) x20_1 = some r) ∧ Aside0 (kq ≤ k) ∧ Aside0 (Kd.R (Kd.int .u64) 57 w' w.heap.size (fun k_ => (w.heap.size ≤ k_)) v5 x5_1) ∧ Aside0 (Below w.heap.size w w'))
    case atStart => exact ⟨(y113), (0), (0), (zF), (zF), H', ⟨Nat.le_refl _⟩, ⟨by (with_reducible repeat (first | apply Kd.zca | apply Kd.zcb | apply Kd.zcn)); exact Kd.zbn HO115.out (fun _ hk => hk.1)⟩, ⟨zB HB⟩⟩
    case round =>
     clear H'
     try clear p2
     try clear c4
     try clear c4b0
     try clear c4b1
     try clear c5
     try clear c5b0
     try clear c5b1
     try clear c6
     try clear c6b0
     try clear c6b1
     try clear p6
     try clear c8
     obtain ⟨x5_1, x6_1, x20_1, rfl, rfl, HA, HK1, HO_5, HB⟩ := hrel
     cases gk with
     | zero => exact absurd HA.out (by simp [zal.l0])
     | succ k1 =>
      have H := HA.out
      clear HA
      simp only [zal.l0] at H
      by_cases c9 : x20_1 < (l0.length : Int)
      ·
       rw [if_pos c9] at H
       have c9b0 : decide (x20_1 < (l0.length : Int)) = true := decide_eq_true c9
       clear c9
       by_cases c10 : 0 ≤ x20_1
       ·
        rw [if_pos c10] at H
        have c10b0 : decide (0 ≤ x20_1) = true := decide_eq_true c10
        clear c10
        by_cases c11 : x20_1 < (l0.length : Int)
        ·
         rw [if_pos c11] at H
         have c11b0 : decide (x20_1 < (l0.length : Int)) = true := decide_eq_true c11
         clear c11
         obtain ⟨ji12, hji12⟩ : ∃ j_ : Int, (Int.tmod a1 64) = j_ := ⟨_, rfl⟩
         replace H : (if 0 ≤ (ji12) then (if x5_1.length < 17592186044416 then (if 0 ≤ (wrap64 (64 - (ji12))) then (zal.l0 k1 a1 (x5_1 ++ [Go.bits .or .u64 (shl .u64 (rd l0 x20_1) (ji12)) x6_1]) (shr .u64 (rd l0 x20_1) (wrap64 (64 - (ji12)))) l0 (l0.length : Int) (wrap64 (x20_1 + 1))) else (none)) else (none)) else (none)) = some r := by first | (rw [hji12] at H; exact H) | (simp only [hji12] at H ⊢; exact H)
         by_cases c13 : 0 ≤ (ji12)
         ·
          rw [if_pos c13] at H
          have c13b0 := eq_true c13
          have c13b1 : decide (0 ≤ (ji12)) = true := decide_eq_true c13
          clear c13
          obtain ⟨ji14, hji14⟩ : ∃ j_ : Int, (shl .u64 (rd l0 x20_1) (ji12)) = j_ := ⟨_, rfl⟩
          replace H : (if x5_1.length < 17592186044416 then (if 0 ≤ (wrap64 (64 - (ji12))) then (zal.l0 k1 a1 (x5_1 ++ [Go.bits .or .u64 (ji14) x6_1]) (shr .u64 (rd l0 x20_1) (wrap64 (64 - (ji12)))) l0 (l0.length : Int) (wrap64 (x20_1 + 1))) else (none)) else (none)) = some r := by first | (rw [hji14] at H; exact H) | (simp only [hji14] at H ⊢; exact H)
          have hji14_ : (IntKind.u64.wrap ((rd l0 x20_1) * 2 ^ min (ji12).toNat 64)) = ji14 := hji14
          have hji14z : (ji12) ≤ 64 → (IntKind.u64.wrap ((rd l0 x20_1) * 2 ^ (ji12).toNat)) = ji14 := shl_small hji14
          by_cases c15 : x5_1.length < 17592186044416
          ·
           rw [if_pos c15] at H
           have LMc15 := zA c15
           clear c15
           obtain ⟨y117, hy117⟩ : ∃ y_ : List Int, y_ = (x5_1 ++ [Go.bits .or .u64 (ji14) x6_1]) := ⟨_, rfl⟩
           replace H : (if 0 ≤ (wrap64 (64 - (ji12))) then (zal.l0 k1 a1 y117 (shr .u64 (rd l0 x20_1) (wrap64 (64 - (ji12)))) l0 (l0.length : Int) (wrap64 (x20_1 + 1))) else (none)) = some r := by first | (rw [hy117]; with_reducible exact H) | (have H2_ := (Option.bind_some _ _).symm.trans H; rw [hy117]; with_reducible exact H2_) | (have H2_ := (Option.bind_some _ _).symm.trans H; with_reducible exact H2_) | with_reducible exact H | (rw [hy117]; exact H) | exact H
           have Ny117 := zA hy117
           clear hy117
           obtain ⟨ji16, hji16⟩ : ∃ j_ : Int, (wrap64 (64 - (ji12))) = j_ := ⟨_, rfl⟩
           replace H : (if 0 ≤ (ji16) then (zal.l0 k1 a1 y117 (shr .u64 (rd l0 x20_1) (ji16)) l0 (l0.length : Int) (wrap64 (x20_1 + 1))) else (none)) = some r := by first | (rw [hji16] at H; exact H) | (simp only [hji16] at H ⊢; exact H)
           have hji16w : (IntKind.i64.wrap (64 - (ji12))) = ji16 := (i64_w _).trans hji16
           by_cases c17 : 0 ≤ (ji16)
           ·
            rw [if_pos c17] at H
            have c17b0 := eq_true c17
            have c17b1 : decide (0 ≤ (ji16)) = true := decide_eq_true c17
            clear c17
            obtain ⟨ji18, hji18⟩ : ∃ j_ : Int, (shr .u64 (rd l0 x20_1) (ji16)) = j_ := ⟨_, rfl⟩
            replace H : (zal.l0 k1 a1 y117 ji18 l0 (l0.length : Int) (wrap64 (x20_1 + 1))) = some r := by first | (rw [hji18] at H; exact H) | (simp only [hji18] at H ⊢; exact H)
            have hji18_ : ((rd l0 x20_1) / 2 ^ min (ji16).toNat 64) = ji18 := hji18
            have hji18z : (ji16) ≤ 64 → ((rd l0 x20_1) / 2 ^ (ji16).toNat) = ji18 := shr_small hji18
            have H' := zA H
            clear H
            have p116 : 0 ≤ (x20_1 : Int) := of_decide_eq_true (by first | (with_reducible assumption) | assumption)
            have q116 : x20_1 < (l0.length : Int) := of_decide_eq_true (by first | (with_reducible assumption) | assumption)
            obtain ⟨ad116, e116, hx116_0⟩ := Kd.at_int HR0.out x20_1 p116 q116
            cases e116
            replace hx116_0 := (HB.out.cell (World.block_lt_of_cell? w _ hx116_0)).trans hx116_0
            replace p116 := eq_true p116
            replace q116 := eq_true q116
            go_wp2_with (first | ((with_reducible refine zbx (b := .append) (xs := #[.tmp 24, .tmp 31]) rfl ?_); at_builtin; refine Kd.zcu (Kd.int .u64) (w0 := w) w.heap.size rfl (.tmp 24) (.tmp 31) 26 57 (.int .u64 0) 8 rfl Tryd.underlying26 info57 rfl (by decide) (by omega) u5 x5_1 (Go.bits .or .u64 (ji14) x6_1) [.int .u64 (Go.bits .or .u64 (ji14) x6_1)] (fun k_ => (w.heap.size ≤ k_)) (fun _ => False) rfl rfl ?aP (fun _ hk => hk.elim) ?aF ?aO ?aB ?aS ?aL ?_; (case aP => exact rfl); (case aB => exact (zB HB)); (case aF => exact (fun k_ hk => (Nat.le_trans (za (zB HB)) hk))); (case aO => exact (zR HO_5)); (case aS => exact (za (zB HB))); (case aL => have := LMc15.out; omega); intro v118 w19 ho hb hg hat; rw [← Ny117.out] at ho; have n0_ := zA (hb); have n1_ := zA (ho); clear HB HO_5; have HB := n0_; have HO119 := n1_; clear n0_ n1_ ho hb hg hat))
            go_roundg k1
            case measure => have := HK1.out; omega
            case rel => exact ⟨(y117), (ji18), (wrap64 (x20_1 + 1)), (by first | rfl | (simp; done) | (simp only [← hji18] <;> (first | rfl | simp)) | (simp [*]; done)), (zF), H', ⟨by have := HK1.out; omega⟩, ⟨zR HO119⟩, ⟨zB HB⟩⟩
           ·
            rw [if_neg c17] at H
            exact absurd H (by simp)
          ·
           rw [if_neg c15] at H
           exact absurd H (by simp)
         ·
          rw [if_neg c13] at H
          exact absurd H (by simp)
        ·
         rw [if_neg c11] at H
         exact absurd H (by simp)
       ·
        rw [if_neg c10] at H
        exact absurd H (by simp)
      ·
       rw [if_neg c9] at H
       have c9b0 : decide (x20_1 < (l0.length : Int)) = false := decide_eq_false c9
       clear c9
       by_cases c20 : x5_1.length < 17592186044416
       ·
        rw [if_pos c20] at H
        have LMc20 := zA c20
        clear c20
        obtain ⟨y120, hy120⟩ : ∃ y_ : List Int, y_ = (x5_1 ++ [x6_1]) := ⟨_, rfl⟩
        replace H : ((zau.f k1 y120).bind fun t123 => (some t123)) = some r := by first | (rw [hy120]; with_reducible exact H) | (have H2_ := (Option.bind_some _ _).symm.trans H; rw [hy120]; with_reducible exact H2_) | (have H2_ := (Option.bind_some _ _).symm.trans H; with_reducible exact H2_) | with_reducible exact H | (rw [hy120]; exact H) | exact H
        have Ny120 := zA hy120
        clear hy120
        replace H := zO H
        obtain ⟨t123, A210, H⟩ := H
        try dsimp only at H
        have A21 := zA A210
        clear A210
        obtain rfl := Option.some.inj H
        go_wp2_with (first | ((with_reducible refine zbx (b := .append) (xs := #[.tmp 39, .tmp 41]) rfl ?_); at_builtin; refine Kd.zcu (Kd.int .u64) (w0 := w) w.heap.size rfl (.tmp 39) (.tmp 41) 26 57 (.int .u64 0) 8 rfl Tryd.underlying26 info57 rfl (by decide) (by omega) u5 x5_1 x6_1 [.int .u64 x6_1] (fun k_ => (w.heap.size ≤ k_)) (fun _ => False) rfl rfl ?aP (fun _ hk => hk.elim) ?aF ?aO ?aB ?aS ?aL ?_; (case aP => exact rfl); (case aB => exact (zB HB)); (case aF => exact (fun k_ hk => (Nat.le_trans (za (zB HB)) hk))); (case aO => exact (zR HO_5)); (case aS => exact (za (zB HB))); (case aL => have := LMc20.out; omega); intro v121 w22 ho hb hg hat; rw [← Ny120.out] at ho; have n0_ := zA (hb); have n1_ := zA (ho); clear HB HO_5; have HB := n0_; have HO122 := n1_; clear n0_ n1_ ho hb hg hat; obtain ⟨Ao23, co23, eo23⟩ := Kd.zbt HO122.out; subst eo23) | ((with_reducible refine zac (f := 65) rfl ?_); refine za0 (some 43) rfl rfl Tryd.func65 (by kernel_rfl) rfl #[.slice Ao23 y120.length co23] rfl (zE) ?_; (with_reducible refine (zau.calls k1 (fun k_ => some k_ = (.slice Ao23 y120.length co23 : Value).ownBlock) _ _ y120 t123 _ ?side1 A21.out).mono ?_); (case side1 => exact Kd.R_V (Kd.zc3 rfl (HO122.out))); rintro e w24 ⟨v124, rfl, ho0, hb⟩; refine ⟨_, rfl, ?_⟩; have n0_ := zA (Kd.zb5 (zR HO122) hb); have n1_ := zA (Kd.zb (Kd.zas (ok' := fun k_ => (w.heap.size ≤ k_)) ho0 (fun k_ hk_ => Or.elim hk_ (fun hs_ => ((HO122.out).1 k_ hs_.symm)) (fun hn_ => (Nat.le_trans (za (zB HB)) hn_)))) (za (zB HB))); have n2_ := zA (zaa (zB HB) hb); clear HO122 HB; have HO122 := n0_; have HO125 := n1_; have HB := n2_; clear n0_ n1_ n2_; (try clear hb); (try clear hb2); (try clear hk); (try clear hi); (try clear ho0)))
        go_ret
        exact ⟨_, by first | rfl | (simp [zbs, zbr] <;> rfl) | (simp only [← hji3]; first | rfl | (simp [zbs, zbr] <;> rfl)) | (simp [*, zbs, zbr] <;> rfl), zV HO125, zB HB⟩
       ·
        rw [if_neg c20] at H
        exact absurd H (by simp)
   ·
    rw [if_neg c6] at H
    exact absurd H (by simp)
  ·
   rw [if_neg c5] at H
   exact absurd H (by simp)
 ·
  rw [if_neg c4] at H
  exact absurd H (by simp)
def zb7.f (l0 : List Int) (a1 : Int) : Option (Int) := if a1 ≥ (l0.length : Int) then (some 0) else (if 0 ≤ a1 then (if a1 < (l0.length : Int) then (some (rd l0 a1)) else (none)) else (none))
theorem zb7.calls (A0 : Option Addr) (c0 : Nat) (l0 : List Int) (a1 : Int) (r : Int) (w : World) (hr0 : Kd.C (Kd.int .u64) w A0 l0.length l0) (hc0 : l0.length ≤ c0) (h : zb7.f l0 a1 = some r) :
  Calls Tryd.prog 89 #[.slice A0 l0.length c0, .int .i64 a1] w fun e w' => e = .returned (.int .u64 r) ∧ Drawn0 w w' := by
 have HR0 := zA hr0
 have HC0 := zA hc0
 clear hr0 hc0
 have H : (if a1 ≥ (l0.length : Int) then (some 0) else (if 0 ≤ a1 then (if a1 < (l0.length : Int) then (some (rd l0 a1)) else (none)) else (none))) = some r := h
 clear h
 by_cases c3 : a1 ≥ (l0.length : Int)
 ·
  rw [if_pos c3] at H
  have c3b0 : decide ((l0.length : Int) ≤ a1) = true := decide_eq_true c3
  clear c3
  obtain rfl := Option.some.inj H
  go_enter Tryd.func89, Tryd.ntmps89
  go_wp2
  go_ret
  exact ⟨zF, by repeat (first | exact Drawn0.refl _ | apply Drawn0.step)⟩
 ·
  rw [if_neg c3] at H
  have c3b0 : decide ((l0.length : Int) ≤ a1) = false := decide_eq_false c3
  clear c3
  by_cases c4 : 0 ≤ a1
  ·
   rw [if_pos c4] at H
   have c4b0 : decide (0 ≤ a1) = true := decide_eq_true c4
   clear c4
   by_cases c5 : a1 < (l0.length : Int)
   ·
    rw [if_pos c5] at H
    have c5b0 : decide (a1 < (l0.length : Int)) = true := decide_eq_true c5
    clear c5
    obtain rfl := Option.some.inj H
    have p126 : 0 ≤ (a1 : Int) := of_decide_eq_true (by first | (with_reducible assumption) | assumption)
    have q126 : a1 < (l0.length : Int) := of_decide_eq_true (by first | (with_reducible assumption) | assumption)
    obtain ⟨ad126, e126, hx126_0⟩ := Kd.at_int HR0.out a1 p126 q126
    cases e126
    replace p126 := eq_true p126
    replace q126 := eq_true q126
    go_enter Tryd.func89, Tryd.ntmps89
    go_wp2
    go_ret
    exact ⟨zF, by repeat (first | exact Drawn0.refl _ | apply Drawn0.step)⟩
   ·
    rw [if_neg c5] at H
    exact absurd H (by simp)
  ·
   rw [if_neg c4] at H
   exact absurd H (by simp)
def bits_Sub64.f (x y c : Int) : Option (Int × Int) := if c ≤ 1 then some (((x.toNat + 18446744073709551616 - y.toNat - c.toNat) % 18446744073709551616 : Nat), ((if x.toNat < y.toNat + c.toNat then 1 else 0 : Nat) : Int)) else none
def bits_Sub64.entry : Array Value → Sem Value := fun args => do
 let (x, y, c) ← Extern.MathBitsCarry.three "Sub64" args
 pure (Extern.MathBitsCarry.pair ((x + Extern.MathBitsCarry.m64 - y - c) % Extern.MathBitsCarry.m64) (if x < y + c then 1 else 0))
theorem bits_Sub64.run_entry (x y c : Int) (hc : c ≤ 1) (w : World) : (bits_Sub64.entry #[.int .u64 x, .int .u64 y, .int .u64 c]).run Tryd.prog w = .ok (.tuple #[.int .u64 ((x.toNat + 18446744073709551616 - y.toNat - c.toNat) % 18446744073709551616 : Nat), .int .u64 ((if x.toNat < y.toNat + c.toNat then 1 else 0 : Nat) : Int)]) w := by
 rcases c with n | n
 ·
  match n, hc with
  | 0, _ => rfl
  | 1, _ => rfl
  | n + 2, hc => exact absurd hc (by simp; omega)
 ·
  rfl
theorem bits_Sub64.run {W : World} {x y c r1 r2 : Int} (h : bits_Sub64.f x y c = some (r1, r2)) : (callFunc 105 #[.int .u64 x, .int .u64 y, .int .u64 c]).run Tryd.prog W = .ok (.value (.tuple #[.int .u64 r1, .int .u64 r2])) W := by
 unfold bits_Sub64.f at h
 split at h
 ·
  rename_i hc
  injection h with h
  injection h with h1 h2
  subst h1; subst h2
  rw [run_callFunc_extern Tryd.func105 (by kernel_rfl) (by kernel_rfl) (by kernel_rfl) (e := bits_Sub64.entry) (by kernel_rfl), bits_Sub64.run_entry x y c hc]
  rfl
 ·
  cases h
def zbe.l0 : Nat → List Int → List Int → List Int → Int → Int → Int → Option (List Int)
 | 0, _, _, _, _, _, _ => none
 | k + 1, x0, x1, x5, x6, x12, x13 => if x13 < x12 then (if 0 ≤ x13 then (if x13 < (x0.length : Int) then ((zb7.f x1 x13).bind fun t131 => ((bits_Sub64.f (rd x0 x13) t131 x6).bind fun bt132 => (if x13 < (x5.length : Int) then (zbe.l0 k x0 x1 (x5.set (x13 : Int).toNat bt132.1) bt132.2 x12 (wrap64 (x13 + 1))) else (none)))) else (none)) else (none)) else ((zau.f k x5).bind fun t135 => (some t135))
def zbe.f (k : Nat) (l0 : List Int) (l1 : List Int) : Option (List Int) := if 0 ≤ (l0.length : Int) then (if ((l0.length : Int) : Int).toNat ≤ 35184372088832 then (zbe.l0 k l0 l1 (List.replicate ((l0.length : Int) : Int).toNat 0) 0 (l0.length : Int) 0) else (none)) else (none)
theorem zbe.zcj : ∀ k, (∀ y0 y1 y2 y3 y4 y5, LeO (zbe.l0 k y0 y1 y2 y3 y4 y5) (zbe.l0 (k + 1) y0 y1 y2 y3 y4 y5))
 | 0 => fun _ _ _ _ _ _ r h => by simp [zbe.l0] at h
 | k + 1 => by
  have ih0 := zbe.zcj k
  ·
   intro y0 y1 y2 y3 y4 y5
   unfold zbe.l0
   repeat' first
   | (with_reducible exact ih0 _ _ _ _ _ _)
   | (with_reducible exact zau.mono _ _)
   | (with_reducible exact LeO.refl _)
   | (with_reducible exact LeO.none _)
   | (with_reducible refine LeO.ite ?_ ?_)
   | (with_reducible refine LeO.bind ?_ (fun _ => ?_))
   | exact ih0 _ _ _ _ _ _
   | exact zau.mono _ _
   | exact LeO.none _
   | refine LeO.ite ?_ ?_
   | refine LeO.bind ?_ (fun _ => ?_)
theorem zbe.mono : ∀ a0 a1 k, LeO (zbe.f k a0 a1) (zbe.f (k + 1) a0 a1) := by
 intro a0 a1 k
 have ih0 := zbe.zcj k
 unfold zbe.f
 repeat' first
   | (with_reducible exact ih0 _ _ _ _ _ _)
   | (with_reducible exact zau.mono _ _)
   | (with_reducible exact LeO.refl _)
   | (with_reducible exact LeO.none _)
   | (with_reducible refine LeO.ite ?_ ?_)
   | (with_reducible refine LeO.bind ?_ (fun _ => ?_))
   | exact ih0 _ _ _ _ _ _
   | exact zau.mono _ _
   | exact LeO.none _
   | refine LeO.ite ?_ ?_
   | refine LeO.bind ?_ (fun _ => ?_)
def zbe.T6 : Bool × List (List Nat × List Nat) := (true, [([], []), ([], []), ([], []), ([], []), ([2, 3], [2, 3]), ([4], [4]), ([], []), ([], []), ([6, 7], [6, 7]), ([], []), ([5, 8, 9, 8], [5, 8, 9]), ([10], [10]), ([11], [11]), ([11], [11]), ([0, 1, 0, 1, 2, 3, 4, 5, 6, 7, 8, 9, 10, 11, 12], [0, 1]), ([14, 12, 10, 0, 1, 2, 3, 4, 5, 6, 7, 8, 9, 10, 11, 12], [12, 14]), ([13, 15, 0, 1, 2, 3, 4, 5, 6, 7, 8, 9, 10, 11, 12, 13, 14, 15], [9, 13])])
def zbe.B6 : List Nat := [0, 0, 0, 0, 12, 28, 0, 0, 192, 0, 1020, 2044, 4092, 4092, 8191, 24575, 65535]
theorem zbe.tab6 : rtab .any (opsOf Tryd.f86 6) = zbe.T6 := by kernel_rfl
theorem zbe.bits6 : waitsOk zbe.T6.2 zbe.B6 = true := by kernel_rfl
theorem zbe.calls (k : Nat) (A0 : Option Addr) (c0 : Nat) (l0 : List Int) (A1 : Option Addr) (c1 : Nat) (l1 : List Int) (r : List Int) (w : World) (hr0 : Kd.C (Kd.int .u64) w A0 l0.length l0) (hc0 : l0.length ≤ c0) (hr1 : Kd.C (Kd.int .u64) w A1 l1.length l1) (hc1 : l1.length ≤ c1) (h : zbe.f k l0 l1 = some r) :
  Calls Tryd.prog 86 #[.slice A0 l0.length c0, .slice A1 l1.length c1] w fun e w' => ∃ v0_ : Value, e = .returned (v0_) ∧ Kd.V (Kd.int .u64) 57 w' w.heap.size (fun k_ => (w.heap.size ≤ k_)) v0_ r ∧ Below w.heap.size w w' := by
 have HR0 := zA hr0
 have HC0 := zA hc0
 clear hr0 hc0
 have HR1 := zA hr1
 have HC1 := zA hc1
 clear hr1 hc1
 have HB := zA (Below.refl w.heap.size w)
 have H : (if 0 ≤ (l0.length : Int) then (if ((l0.length : Int) : Int).toNat ≤ 35184372088832 then (zbe.l0 k l0 l1 (List.replicate ((l0.length : Int) : Int).toNat 0) 0 (l0.length : Int) 0) else (none)) else (none)) = some r := h
 clear h
 by_cases c3 : 0 ≤ (l0.length : Int)
 ·
  rw [if_pos c3] at H
  have c3b0 := eq_true c3
  have c3b1 : decide (0 ≤ (l0.length : Int)) = true := decide_eq_true c3
  clear c3
  by_cases c4 : ((l0.length : Int) : Int).toNat ≤ 35184372088832
  ·
   rw [if_pos c4] at H
   have c4b0 := eq_true c4
   have c4b1 : decide (((l0.length : Int) : Int).toNat ≤ 35184372088832) = true := decide_eq_true c4
   clear c4
   obtain ⟨y127, hy127⟩ : ∃ y_ : List Int, y_ = (List.replicate ((l0.length : Int) : Int).toNat 0) := ⟨_, rfl⟩
   replace H : (zbe.l0 k l0 l1 y127 0 (l0.length : Int) 0) = some r := by first | (rw [hy127]; with_reducible exact H) | (have H2_ := (Option.bind_some _ _).symm.trans H; rw [hy127]; with_reducible exact H2_) | (have H2_ := (Option.bind_some _ _).symm.trans H; with_reducible exact H2_) | with_reducible exact H | (rw [hy127]; exact H) | exact H
   have Ny127 := zA hy127
   clear hy127
   have H' := zA H
   clear H
   go_enter Tryd.func86, Tryd.ntmps86
   go_wp2_with (first | ((with_reducible refine zbf (N := 10) rfl ?_); refine Kd.R_make (Kd.int .u64) _ 57 rfl (N := 10) rfl 26 _ _ rfl (l0.length : Int) rfl rfl Tryd.underlying26 (.int .u64 0) 8 info57 rfl (by decide) (by omega) 0 (ok := fun _ => True) (okp := fun _ => True) rfl (fun _ hk => hk) trivial (of_decide_eq_true (by first | (with_reducible assumption) | assumption)) (Nat.le_trans (Nat.mul_le_mul_right _ (of_decide_eq_true (by first | (with_reducible assumption) | assumption) : (l0.length : Int).toNat ≤ 35184372088832)) (by omega)) (Below.refl _ _) (Nat.le_refl _) ?_; intro v128 w5 ho6 hb hg_ hnew_; clear hg_ hnew_; (first | rw [← Ny127.out] at ho6 | (simp only [Int.reduceToNat] at ho6; rw [← Ny127.out] at ho6)); have n0_ := zA (Kd.zb3 (Kd.R_newM (M := fun k_ => (w.heap.size ≤ k_)) ho6 (za (zB HB)) (fun k_ h_ => h_)) (za (zB HB))); have n1_ := zA (zaa (zB HB) hb); clear HB; have HO129 := n0_; have HB := n1_; clear n0_ n1_ hb ho6))
   go_loopg [6, 13] k (fun kq v6 v13 w' => ∃ (x5_1 : List Int) (x6_1 : Int) (x13_1 : Int), v6 = .int .u64 x6_1 ∧ v13 = .int .i64 x13_1 ∧ Aside0 (zbe.l0 kq l0 l1 x5_1 x6_1 (l0.length : Int) x13_1 = some r) ∧ Aside0 (kq ≤ k) ∧ Aside0 (Kd.R (Kd.int .u64) 57 w' w.heap.size (fun k_ => (w.heap.size ≤ k_)) v128 x5_1) ∧ Aside0 (Below w.heap.size w w'))
   case atStart => exact ⟨(y127), (0), (0), (zF), (zF), H', ⟨Nat.le_refl _⟩, ⟨by (with_reducible repeat (first | apply Kd.zca | apply Kd.zcb | apply Kd.zcn)); exact Kd.zbn HO129.out (fun _ hk => hk.1)⟩, ⟨zB HB⟩⟩
   case round =>
    clear H'
    try clear c1
    try clear p2
    try clear c3
    try clear c3b0
    try clear c3b1
    try clear c4
    try clear c4b0
    try clear c4b1
    obtain ⟨x5_1, x6_1, x13_1, rfl, rfl, HA, HK1, HO_5, HB⟩ := hrel
    cases gk with
    | zero => exact absurd HA.out (by simp [zbe.l0])
    | succ k1 =>
     have H := HA.out
     clear HA
     simp only [zbe.l0] at H
     by_cases c7 : x13_1 < (l0.length : Int)
     ·
      rw [if_pos c7] at H
      have c7b0 : decide (x13_1 < (l0.length : Int)) = true := decide_eq_true c7
      clear c7
      by_cases c8 : 0 ≤ x13_1
      ·
       rw [if_pos c8] at H
       have c8b0 : decide (0 ≤ x13_1) = true := decide_eq_true c8
       clear c8
       by_cases c9 : x13_1 < (l0.length : Int)
       ·
        rw [if_pos c9] at H
        have c9b0 : decide (x13_1 < (l0.length : Int)) = true := decide_eq_true c9
        clear c9
        replace H := zO H
        obtain ⟨t131, A100, H⟩ := H
        try dsimp only at H
        have A10 := zA A100
        clear A100
        replace H := zO H
        obtain ⟨⟨t132, t133⟩, A110, H⟩ := H
        try dsimp only at H
        have A11 := fun W_ => bits_Sub64.run (W := W_) A110
        clear A110
        by_cases c12 : x13_1 < (x5_1.length : Int)
        ·
         rw [if_pos c12] at H
         have c12b0 : decide (x13_1 < (x5_1.length : Int)) = true := decide_eq_true c12
         clear c12
         obtain ⟨y134, hy134⟩ : ∃ y_ : List Int, y_ = (x5_1.set (x13_1 : Int).toNat t132) := ⟨_, rfl⟩
         replace H : (zbe.l0 k1 l0 l1 y134 t133 (l0.length : Int) (wrap64 (x13_1 + 1))) = some r := by first | (rw [hy134]; with_reducible exact H) | (have H2_ := (Option.bind_some _ _).symm.trans H; rw [hy134]; with_reducible exact H2_) | (have H2_ := (Option.bind_some _ _).symm.trans H; with_reducible exact H2_) | with_reducible exact H | (rw [hy134]; exact H) | exact H
         have Ny134 := zA hy134
         clear hy134
         have H' := zA H
         clear H
         try go_wp2
         have n0_ := zA (Kd.zcn HO_5.out)
         have n1_ := zA (zbj HB.out)
         clear HO_5 HB
         have HO_5 := n0_
         have HB := n1_
         clear n0_ n1_
         have p130 : 0 ≤ (x13_1 : Int) := of_decide_eq_true (by first | (with_reducible assumption) | assumption)
         have q130 : x13_1 < (l0.length : Int) := of_decide_eq_true (by first | (with_reducible assumption) | assumption)
         obtain ⟨ad130, e130, hx130_0⟩ := Kd.at_int HR0.out x13_1 p130 q130
         have hw130_0 := hx130_0
         cases e130
         replace hx130_0 := (HB.out.cell (World.block_lt_of_cell? w _ hx130_0)).trans hx130_0
         replace p130 := eq_true p130
         replace q130 := eq_true q130
         refine start_ (n := 17) (S := fun w' => w'.cell? (ad130.add (x13_1).toNat) = some (.int .u64 (rd l0 x13_1))) (ds := [15]) #[false, false, false, false, false, false, false, false, false, false, false, false, false, false, false, false, false] (by kernel_rfl) rfl rfl (((HB.out.cell (World.block_lt_of_cell? w _ hw130_0)).trans hw130_0)) (fun hHeld => ?_); refine zcw zbe.tab6 zbe.bits6 (fun HT_ HW_ => ?_)
         generalize wr.drew = w14 at HO_5 HB hx130_0 hHeld ⊢
         refine pure_ (i := 0) (N := some 17) (v := ?_) (a' := ?_) #[true, false, false, false, false, false, false, false, false, false, false, false, false, false, false, false, false] rfl rfl (za5 HT_.out (by kernel_rfl)) (fun _ _ _ h => h) (Or.inl ⟨by rfl, ?_⟩) ?_ ?_
         rotate_left
         ·
          intro w'
          go_simp
          with_reducible rfl
         rotate_left
         ·
          simp only [Act.put, zs1, zs2, zs3, i64_w, i32_w]
          rfl
         refine pure_ (i := 1) (N := some 18) (v := ?_) (a' := ?_) #[true, true, false, false, false, false, false, false, false, false, false, false, false, false, false, false, false] rfl rfl (za5 HT_.out (by kernel_rfl)) (fun _ _ _ h => h) (Or.inl ⟨by rfl, ?_⟩) ?_ ?_
         rotate_left
         ·
          intro w'
          go_simp
          with_reducible rfl
         rotate_left
         ·
          simp only [Act.put, zs1, zs2, zs3, i64_w, i32_w]
          rfl
         refine pure_ (i := 2) (N := some 19) (v := ?_) (a' := ?_) #[true, true, true, false, false, false, false, false, false, false, false, false, false, false, false, false, false] rfl rfl (za5 HT_.out (by kernel_rfl)) (fun _ _ _ h => h) (Or.inl ⟨by rfl, ?_⟩) ?_ ?_
         rotate_left
         ·
          intro w'
          go_simp
          with_reducible rfl
         rotate_left
         ·
          simp only [Act.put, zs1, zs2, zs3, i64_w, i32_w]
          rfl
         refine pure_ (i := 3) (N := some 20) (v := ?_) (a' := ?_) #[true, true, true, true, false, false, false, false, false, false, false, false, false, false, false, false, false] rfl rfl (za5 HT_.out (by kernel_rfl)) (fun _ _ _ h => h) (Or.inl ⟨by rfl, ?_⟩) ?_ ?_
         rotate_left
         ·
          intro w'
          go_simp
          with_reducible rfl
         rotate_left
         ·
          simp only [Act.put, zs1, zs2, zs3, i64_w, i32_w]
          rfl
         refine pure_ (i := 4) (N := some 21) (v := ?_) (a' := ?_) #[true, true, true, true, true, false, false, false, false, false, false, false, false, false, false, false, false] rfl rfl (za5 HT_.out (by kernel_rfl)) (fun _ _ _ h => h) (Or.inl ⟨by rfl, ?_⟩) ?_ ?_
         rotate_left
         ·
          intro w'
          go_simp
          with_reducible rfl
         rotate_left
         ·
          simp only [Act.put, zs1, zs2, zs3, i64_w, i32_w]
          rfl
         refine pure_ (i := 6) (N := some 23) (v := ?_) (a' := ?_) #[true, true, true, true, true, false, true, false, false, false, false, false, false, false, false, false, false] rfl rfl (za5 HT_.out (by kernel_rfl)) (fun _ _ _ h => h) (Or.inl ⟨by rfl, ?_⟩) ?_ ?_
         rotate_left
         ·
          intro w'
          go_simp
          with_reducible rfl
         rotate_left
         ·
          simp only [Act.put, zs1, zs2, zs3, i64_w, i32_w]
          rfl
         refine pure_ (i := 7) (N := some 24) (v := ?_) (a' := ?_) #[true, true, true, true, true, false, true, true, false, false, false, false, false, false, false, false, false] rfl rfl (za5 HT_.out (by kernel_rfl)) (fun _ _ _ h => h) (Or.inl ⟨by rfl, ?_⟩) ?_ ?_
         rotate_left
         ·
          intro w'
          go_simp
          with_reducible rfl
         rotate_left
         ·
          simp only [Act.put, zs1, zs2, zs3, i64_w, i32_w]
          rfl
         refine pure_ (i := 9) (N := some 26) (v := ?_) (a' := ?_) #[true, true, true, true, true, false, true, true, false, true, false, false, false, false, false, false, false] rfl rfl (za5 HT_.out (by kernel_rfl)) (fun _ _ _ h => h) (Or.inl ⟨by rfl, ?_⟩) ?_ ?_
         rotate_left
         ·
          intro w'
          go_simp
          with_reducible rfl
         rotate_left
         ·
          simp only [Act.put, zs1, zs2, zs3, i64_w, i32_w]
          rfl
         refine take_ (i := 5) (N := some 22) (v := ?_) (a' := ?_) #[true, true, true, true, true, true, true, true, false, true, false, false, false, false, false, false, false] rfl rfl (zcf HT_.out HW_.out (by kernel_rfl)) (fun _ _ _ h => h) (Or.inl ⟨by rfl, ?_⟩) hHeld ?_ ?_
         rotate_left
         ·
          intro w' s0
          go_simp
          with_reducible rfl
         rotate_left
         ·
          simp only [Act.put, zs1, zs2, zs3, i64_w, i32_w]
          rfl
         refine one_ (i := 8) (N := some 25) #[true, true, true, true, true, true, true, true, true, true, false, false, false, false, false, false, false] rfl rfl (zcg HT_.out (by kernel_rfl)) (by decide) (fun K hK => ?_)
         refine goes_ Tryd.func89 (by kernel_rfl) rfl #[.slice A1 l1.length c1, .int .i64 x13_1] (by rfl) rfl rfl (zE) ?_
         with_reducible refine (zb7.calls _ _ l1 x13_1 t131 _ ?side1 ?side2 A10.out).mono ?_
         (case side1 => exact zJ (Kd.za1 HR1.out HB.out))
         (case side2 => exact HC1.out)
         rintro e w' ⟨rfl, ⟨nd, rfl⟩⟩
         refine ⟨_, rfl, ?_⟩
         have p13 : 0 ≤ (x13_1 : Int) := of_decide_eq_true (by first | (with_reducible assumption) | assumption)
         have q13 : (x13_1 : Int) < ((x5_1.length : Int) : Int) := of_decide_eq_true (by first | (with_reducible assumption) | assumption)
         obtain ⟨go13, co13, eo13, gb13, gl13, cl13, HG13⟩ := Kd.R_form HO_5.out (by omega)
         (first | cases eo13 | (injection eo13 with ea_ en_ ec_; (first | subst ea_ | (injection ea_ with ea_; subst ea_)); subst ec_; clear en_))
         have GB13 := zA gb13
         have GG13 := zA HG13
         clear gb13 gl13 HG13
         obtain ⟨hx13_0, hf13_0⟩ := Kd.zc0 0 HO_5.out (x13_1 : Int) p13 q13
         replace p13 := eq_true p13
         replace q13 := eq_true q13
         have HP15 := Kd.R_putn HO_5.out (x13_1 : Int) t132
         rw [← Ny134.out] at HP15
         have HQ15 := zA HP15
         clear HP15
         refine hK.out _ _ (((HB.out.cell (World.block_lt_of_cell? w _ hw130_0)).trans hw130_0)) (fun hHeld => ?_)
         clear hK K
         refine norm_ (a' := ?_) ?_ ?_
         rotate_left
         ·
          show Act.put _ (some 25) _ = _
          simp only [Act.put, zs1, zs2, zs3, i64_w, i32_w]
          rfl
         refine pure_ (i := 10) (N := some 27) (v := ?_) (a' := ?_) #[true, true, true, true, true, true, true, true, true, true, true, false, false, false, false, false, false] rfl rfl (za5 HT_.out (by kernel_rfl)) (fun _ _ _ h => h) (Or.inl ⟨by rfl, ?_⟩) ?_ ?_
         rotate_left
         ·
          intro w'
          go_simp
          with_reducible rfl
         rotate_left
         ·
          simp only [Act.put, zs1, zs2, zs3, i64_w, i32_w]
          rfl
         refine pure_ (i := 11) (N := some 16) (v := ?_) (a' := ?_) #[true, true, true, true, true, true, true, true, true, true, true, true, false, false, false, false, false] rfl rfl (za5 HT_.out (by kernel_rfl)) (fun _ _ _ h => h) (Or.inl ⟨by rfl, ?_⟩) ?_ ?_
         rotate_left
         ·
          intro w'
          go_simp
          with_reducible rfl
         rotate_left
         ·
          simp only [Act.put, zs1, zs2, zs3, i64_w, i32_w]
          rfl
         refine pure_ (i := 12) (N := some 28) (v := ?_) (a' := ?_) #[true, true, true, true, true, true, true, true, true, true, true, true, true, false, false, false, false] rfl rfl (za5 HT_.out (by kernel_rfl)) (fun _ _ _ h => h) (Or.inl ⟨by rfl, ?_⟩) ?_ ?_
         rotate_left
         ·
          intro w'
          go_simp
          with_reducible rfl
         rotate_left
         ·
          simp only [Act.put, zs1, zs2, zs3, i64_w, i32_w]
          rfl
         refine pure_ (i := 13) (N := some 29) (v := ?_) (a' := ?_) #[true, true, true, true, true, true, true, true, true, true, true, true, true, true, false, false, false] rfl rfl (za5 HT_.out (by kernel_rfl)) (fun _ _ _ h => h) (Or.inl ⟨by rfl, ?_⟩) ?_ ?_
         rotate_left
         ·
          intro w'
          go_simp
          with_reducible rfl
         rotate_left
         ·
          simp only [Act.put, zs1, zs2, zs3, i64_w, i32_w]
          rfl
         refine pure_ (i := 14) (N := some 30) (v := ?_) (a' := ?_) #[true, true, true, true, true, true, true, true, true, true, true, true, true, true, true, false, false] rfl rfl (za5 HT_.out (by kernel_rfl)) (fun _ _ _ h => h) (Or.inl ⟨by rfl, ?_⟩) ?_ ?_
         rotate_left
         ·
          intro w'
          go_simp
          with_reducible rfl
         rotate_left
         ·
          simp only [Act.put, zs1, zs2, zs3, i64_w, i32_w]
          rfl
         refine last_ (i := 15) (N := none) #[true, true, true, true, true, true, true, true, true, true, true, true, true, true, true, true, false] rfl rfl (zcg HT_.out (by kernel_rfl)) (by decide) (fun K hK => ?_)
         refine skip_ (w1 := ?_) (by rfl) rfl ?_ ?_
         rotate_left
         ·
          go_simp
          rfl
         refine hK.out _ _ ?_
         clear hK K
         refine pure_ (i := 16) (N := some 6) (v := ?_) (a' := ?_) #[true, true, true, true, true, true, true, true, true, true, true, true, true, true, true, true, true] rfl rfl (za5 HT_.out (by kernel_rfl)) (fun _ _ _ h => h) (Or.inl ⟨by rfl, ?_⟩) ?_ ?_
         rotate_left
         ·
          intro w'
          go_simp
          with_reducible rfl
         rotate_left
         ·
          simp only [Act.put, zs1, zs2, zs3, i64_w, i32_w]
          rfl
         refine done_ (done_of HT_.out (by kernel_rfl)) ?_
         try go_wp2
         go_roundg k1
         case measure => have := HK1.out; omega
         case rel => exact ⟨(y134), (t133), (wrap64 (x13_1 + 1)), (zF), (zF), H', ⟨by have := HK1.out; omega⟩, ⟨zR HQ15⟩, ⟨zB HB⟩⟩
        ·
         rw [if_neg c12] at H
         exact absurd H (by simp)
       ·
        rw [if_neg c9] at H
        exact absurd H (by simp)
      ·
       rw [if_neg c8] at H
       exact absurd H (by simp)
     ·
      rw [if_neg c7] at H
      have c7b0 : decide (x13_1 < (l0.length : Int)) = false := decide_eq_false c7
      clear c7
      replace H := zO H
      obtain ⟨t135, A160, H⟩ := H
      try dsimp only at H
      have A16 := zA A160
      clear A160
      obtain rfl := Option.some.inj H
      obtain ⟨Ao17, co17, eo17⟩ := Kd.zbt HO_5.out
      subst eo17
      go_wp2_with (first | ((with_reducible refine zac (f := 65) rfl ?_); refine za0 (some 33) rfl rfl Tryd.func65 (by kernel_rfl) rfl #[.slice Ao17 x5_1.length co17] rfl (zE) ?_; (with_reducible refine (zau.calls k1 (fun k_ => some k_ = (.slice Ao17 x5_1.length co17 : Value).ownBlock) _ _ x5_1 t135 _ ?side1 A16.out).mono ?_); (case side1 => exact Kd.R_V (Kd.zc3 rfl (HO_5.out))); rintro e w18 ⟨v136, rfl, ho0, hb⟩; refine ⟨_, rfl, ?_⟩; have n0_ := zA (Kd.zb5 (zR HO_5) hb); have n1_ := zA (Kd.zb (Kd.zas (ok' := fun k_ => (w.heap.size ≤ k_)) ho0 (fun k_ hk_ => Or.elim hk_ (fun hs_ => ((HO_5.out).1 k_ hs_.symm)) (fun hn_ => (Nat.le_trans (za (zB HB)) hn_)))) (za (zB HB))); have n2_ := zA (zaa (zB HB) hb); clear HO_5 HB; have HO_5 := n0_; have HO137 := n1_; have HB := n2_; clear n0_ n1_ n2_; (try clear hb); (try clear hb2); (try clear hk); (try clear hi); (try clear ho0)))
      go_ret
      exact ⟨_, zW, zV HO137, zB HB⟩
  ·
   rw [if_neg c4] at H
   exact absurd H (by simp)
 ·
  rw [if_neg c3] at H
  exact absurd H (by simp)
end Go.Proofs.YtfjkamhcabckeaaDoor.P
end
