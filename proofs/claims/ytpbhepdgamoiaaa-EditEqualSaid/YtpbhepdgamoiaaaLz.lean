/-
  How many zero bits a number of 32 bits begins with: the shelf's contract at this program.
-/
import Derived.Shelf.Small.Bits
import Derived.Test.YtpbhepdgamoiaaaProg
namespace Go.Proofs.Ytpbhepdgamoiaaa.Lz
open Go.Shelf
def lays128_ren : Go.Shelf.Ren := ⟨fun | 128 => 168 | n => n, fun | 51 => 157 | 3 => 3 | 4 => 4 | 46 => 142 | 5 => 5 | 9 => 9 | n => n, fun | n => n⟩
theorem lays128 : Go.Proofs.Lays.n128 Try.prog lays128_ren := {
  mixed := by kernel_rfl
  f128 := Try.func168.trans (congrArg some (by kernel_rfl))
  t3 := Try.underlying3
  a3 := Try.isAgg3
  z3 := Try.sizeOf3
  v3 := Try.zeroValue3
  t4 := Try.underlying4
  a4 := Try.isAgg4
  z4 := Try.sizeOf4
  v4 := Try.zeroValue4
  t5 := Try.underlying5
  a5 := Try.isAgg5
  z5 := Try.sizeOf5
  v5 := Try.zeroValue5
  t9 := Try.underlying9
  a9 := Try.isAgg9
  z9 := Try.sizeOf9
  v9 := Try.zeroValue9
  t46 := Try.underlying142
  a46 := Try.isAgg142
  z46 := Try.sizeOf142
  v46 := Try.zeroValue142
  t51 := Try.underlying157
  a51 := Try.isAgg157
  z51 := Try.sizeOf157
  v51 := Try.zeroValue157 }
theorem bits_Len32 (x : Int) (w : World) (h0 : 0 ≤ x) (h1 : x ≤ 4294967295) :
    Calls Try.prog 168 #[.int .u32 x] w fun e w' => e = .returned (.int .i64 (Lib.bitLen x.toNat)) ∧ w' = w := Any.bits_Len32 lays128 x w h0 h1
def lays133_ren : Go.Shelf.Ren := ⟨fun | 133 => 165 | 128 => 168 | n => n, fun | 51 => 157 | 3 => 3 | 4 => 4 | 46 => 142 | 5 => 5 | 9 => 9 | n => n, fun | n => n⟩
theorem lays133 : Go.Proofs.Lays.n133 Try.prog lays133_ren := {
  mixed := by kernel_rfl
  f128 := Try.func168.trans (congrArg some (by kernel_rfl))
  f133 := Try.func165.trans (congrArg some (by kernel_rfl))
  t3 := Try.underlying3
  a3 := Try.isAgg3
  z3 := Try.sizeOf3
  v3 := Try.zeroValue3
  t4 := Try.underlying4
  a4 := Try.isAgg4
  z4 := Try.sizeOf4
  v4 := Try.zeroValue4
  t5 := Try.underlying5
  a5 := Try.isAgg5
  z5 := Try.sizeOf5
  v5 := Try.zeroValue5
  t9 := Try.underlying9
  a9 := Try.isAgg9
  z9 := Try.sizeOf9
  v9 := Try.zeroValue9
  t46 := Try.underlying142
  a46 := Try.isAgg142
  z46 := Try.sizeOf142
  v46 := Try.zeroValue142
  t51 := Try.underlying157
  a51 := Try.isAgg157
  z51 := Try.sizeOf157
  v51 := Try.zeroValue157 }
theorem bits_LeadingZeros32 (x : Int) (w : World) (h0 : 0 ≤ x) (h1 : x ≤ 4294967295) :
    Calls Try.prog 165 #[.int .u32 x] w fun e w' => e = .returned (.int .i64 (32 - (Lib.bitLen x.toNat : Int))) ∧ w' = w := Any.bits_LeadingZeros32 lays133 x w h0 h1
end Go.Proofs.Ytpbhepdgamoiaaa.Lz
