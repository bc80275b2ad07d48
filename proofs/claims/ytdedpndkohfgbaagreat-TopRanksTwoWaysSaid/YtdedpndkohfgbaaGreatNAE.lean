import Derived.Test.YtdedpndkohfgbaaGreatProg
import Derived.Test.YtdedpndkohfgbaaGreatNAD
import Derived.KernelRfl
import Derived.Test.YtdedpndkohfgbaaGreatNAC
/- Part of the proofs over YtdedpndkohfgbaaGreat: ZFacts, S1, S2, S3, S4, S5, S6, S7, S8, S9. -/
set_option linter.unusedVariables false
set_option linter.unusedSimpArgs false
set_option linter.unnecessarySimpa false
open Go Go.Proofs Go.Pv
namespace Go.Pv.Tf
instance tsh0 : TSh Tryz.prog 0 .one := ⟨by kernel_rfl⟩
instance tcl0 : TCells Tryz.prog 0 1 := ⟨by kernel_rfl, by decide⟩
instance tsh1 : TSh Tryz.prog 1 .one := ⟨by kernel_rfl⟩
instance tcl1 : TCells Tryz.prog 1 1 := ⟨by kernel_rfl, by decide⟩
instance tze1 : TZero Tryz.prog 1 (.nilfunc) := ⟨by kernel_rfl, rfl, by decide⟩
instance tsh2 : TSh Tryz.prog 2 .one := ⟨by kernel_rfl⟩
instance tcl2 : TCells Tryz.prog 2 1 := ⟨by kernel_rfl, by decide⟩
instance tze2 : TZero Tryz.prog 2 (.int .i64 0) := ⟨by kernel_rfl, rfl, by decide⟩
instance tsh3 : TSh Tryz.prog 3 .one := ⟨by kernel_rfl⟩
instance tcl3 : TCells Tryz.prog 3 1 := ⟨by kernel_rfl, by decide⟩
instance tze3 : TZero Tryz.prog 3 (.int .i64 0) := ⟨by kernel_rfl, rfl, by decide⟩
instance tsh4 : TSh Tryz.prog 4 .one := ⟨by kernel_rfl⟩
instance tcl4 : TCells Tryz.prog 4 1 := ⟨by kernel_rfl, by decide⟩
instance tze4 : TZero Tryz.prog 4 (.bool false) := ⟨by kernel_rfl, rfl, by decide⟩
instance tsh5 : TSh Tryz.prog 5 .one := ⟨by kernel_rfl⟩
instance tcl5 : TCells Tryz.prog 5 1 := ⟨by kernel_rfl, by decide⟩
instance tze5 : TZero Tryz.prog 5 (.int .u8 0) := ⟨by kernel_rfl, rfl, by decide⟩
instance tsh6 : TSh Tryz.prog 6 .one := ⟨by kernel_rfl⟩
instance tcl6 : TCells Tryz.prog 6 1 := ⟨by kernel_rfl, by decide⟩
instance tze6 : TZero Tryz.prog 6 (.int .u8 0) := ⟨by kernel_rfl, rfl, by decide⟩
instance tsh7 : TSh Tryz.prog 7 (.many 4) := ⟨by kernel_rfl⟩
instance tcl7 : TCells Tryz.prog 7 4 := ⟨by kernel_rfl, by decide⟩
instance tfl7x0 : TField Tryz.prog 7 0 0 2 := ⟨by kernel_rfl, kne (k := 1) (by kernel_rfl) (by decide)⟩
instance tfl7x1 : TField Tryz.prog 7 1 1 3 := ⟨by kernel_rfl, kne (k := 1) (by kernel_rfl) (by decide)⟩
instance tfl7x2 : TField Tryz.prog 7 2 2 4 := ⟨by kernel_rfl, kne (k := 1) (by kernel_rfl) (by decide)⟩
instance tfl7x3 : TField Tryz.prog 7 3 3 6 := ⟨by kernel_rfl, kne (k := 1) (by kernel_rfl) (by decide)⟩
instance tly7 : TLay Tryz.prog 7 [.int .i64 0, .int .i64 0, .bool false, .int .u8 0] [(0, 1), (1, 1), (2, 1), (3, 1)] := ⟨by kernel_rfl⟩
instance tze7 : TZero Tryz.prog 7 (.agg [.int .i64 0, .int .i64 0, .bool false, .int .u8 0]) := ⟨by kernel_rfl, rfl, by decide⟩
instance tsh8 : TSh Tryz.prog 8 (.many 4) := ⟨by kernel_rfl⟩
instance tcl8 : TCells Tryz.prog 8 4 := ⟨by kernel_rfl, by decide⟩
instance tfl8x0 : TField Tryz.prog 8 0 0 2 := ⟨by kernel_rfl, kne (k := 1) (by kernel_rfl) (by decide)⟩
instance tfl8x1 : TField Tryz.prog 8 1 1 3 := ⟨by kernel_rfl, kne (k := 1) (by kernel_rfl) (by decide)⟩
instance tfl8x2 : TField Tryz.prog 8 2 2 4 := ⟨by kernel_rfl, kne (k := 1) (by kernel_rfl) (by decide)⟩
instance tfl8x3 : TField Tryz.prog 8 3 3 6 := ⟨by kernel_rfl, kne (k := 1) (by kernel_rfl) (by decide)⟩
instance tly8 : TLay Tryz.prog 8 [.int .i64 0, .int .i64 0, .bool false, .int .u8 0] [(0, 1), (1, 1), (2, 1), (3, 1)] := ⟨by kernel_rfl⟩
instance tze8 : TZero Tryz.prog 8 (.agg [.int .i64 0, .int .i64 0, .bool false, .int .u8 0]) := ⟨by kernel_rfl, rfl, by decide⟩
instance tsh9 : TSh Tryz.prog 9 .one := ⟨by kernel_rfl⟩
instance tst9 : TStr Tryz.prog 9 := ⟨by kernel_rfl⟩
instance tcl9 : TCells Tryz.prog 9 1 := ⟨by kernel_rfl, by decide⟩
instance tze9 : TZero Tryz.prog 9 (.str ByteArray.empty) := ⟨by kernel_rfl, rfl, by decide⟩
instance tsh10 : TSh Tryz.prog 10 .one := ⟨by kernel_rfl⟩
instance tst10 : TStr Tryz.prog 10 := ⟨by kernel_rfl⟩
instance tcl10 : TCells Tryz.prog 10 1 := ⟨by kernel_rfl, by decide⟩
instance tze10 : TZero Tryz.prog 10 (.str ByteArray.empty) := ⟨by kernel_rfl, rfl, by decide⟩
instance tsh11 : TSh Tryz.prog 11 .one := ⟨by kernel_rfl⟩
instance tst11 : TStr Tryz.prog 11 := ⟨by kernel_rfl⟩
instance tcl11 : TCells Tryz.prog 11 1 := ⟨by kernel_rfl, by decide⟩
instance tze11 : TZero Tryz.prog 11 (.str ByteArray.empty) := ⟨by kernel_rfl, rfl, by decide⟩
instance tsh12 : TSh Tryz.prog 12 .one := ⟨by kernel_rfl⟩
instance tcl12 : TCells Tryz.prog 12 1 := ⟨by kernel_rfl, by decide⟩
instance tze12 : TZero Tryz.prog 12 (.int .u64 0) := ⟨by kernel_rfl, rfl, by decide⟩
instance tsh13 : TSh Tryz.prog 13 (.many 2) := ⟨by kernel_rfl⟩
instance tcl13 : TCells Tryz.prog 13 2 := ⟨by kernel_rfl, by decide⟩
instance tfl13x0 : TField Tryz.prog 13 0 0 9 := ⟨by kernel_rfl, kne (k := 1) (by kernel_rfl) (by decide)⟩
instance tfl13x1 : TField Tryz.prog 13 1 1 12 := ⟨by kernel_rfl, kne (k := 1) (by kernel_rfl) (by decide)⟩
instance tly13 : TLay Tryz.prog 13 [.str ByteArray.empty, .int .u64 0] [(0, 1), (1, 1)] := ⟨by kernel_rfl⟩
instance tze13 : TZero Tryz.prog 13 (.agg [.str ByteArray.empty, .int .u64 0]) := ⟨by kernel_rfl, rfl, by decide⟩
instance tsh14 : TSh Tryz.prog 14 (.many 2) := ⟨by kernel_rfl⟩
instance tcl14 : TCells Tryz.prog 14 2 := ⟨by kernel_rfl, by decide⟩
instance tfl14x0 : TField Tryz.prog 14 0 0 9 := ⟨by kernel_rfl, kne (k := 1) (by kernel_rfl) (by decide)⟩
instance tfl14x1 : TField Tryz.prog 14 1 1 12 := ⟨by kernel_rfl, kne (k := 1) (by kernel_rfl) (by decide)⟩
instance tly14 : TLay Tryz.prog 14 [.str ByteArray.empty, .int .u64 0] [(0, 1), (1, 1)] := ⟨by kernel_rfl⟩
instance tze14 : TZero Tryz.prog 14 (.agg [.str ByteArray.empty, .int .u64 0]) := ⟨by kernel_rfl, rfl, by decide⟩
instance tsh15 : TSh Tryz.prog 15 .one := ⟨by kernel_rfl⟩
instance tcl15 : TCells Tryz.prog 15 1 := ⟨by kernel_rfl, by decide⟩
instance tze15 : TZero Tryz.prog 15 (.nilptr) := ⟨by kernel_rfl, rfl, by decide⟩
instance tsh16 : TSh Tryz.prog 16 .one := ⟨by kernel_rfl⟩
instance tcl16 : TCells Tryz.prog 16 1 := ⟨by kernel_rfl, by decide⟩
instance tze16 : TZero Tryz.prog 16 (.nilptr) := ⟨by kernel_rfl, rfl, by decide⟩
instance tsh17 : TSh Tryz.prog 17 .one := ⟨by kernel_rfl⟩
instance tcl17 : TCells Tryz.prog 17 1 := ⟨by kernel_rfl, by decide⟩
instance tze17 : TZero Tryz.prog 17 (.nilptr) := ⟨by kernel_rfl, rfl, by decide⟩
instance tsh18 : TSh Tryz.prog 18 (.many 1) := ⟨by kernel_rfl⟩
instance tcl18 : TCells Tryz.prog 18 1 := ⟨by kernel_rfl, by decide⟩
instance tfl18x0 : TField Tryz.prog 18 0 0 17 := ⟨by kernel_rfl, kne (k := 1) (by kernel_rfl) (by decide)⟩
instance tly18 : TLay Tryz.prog 18 [.nilptr] [(0, 1)] := ⟨by kernel_rfl⟩
instance tze18 : TZero Tryz.prog 18 (.agg [.nilptr]) := ⟨by kernel_rfl, rfl, by decide⟩
instance tsh19 : TSh Tryz.prog 19 (.many 1) := ⟨by kernel_rfl⟩
instance tcl19 : TCells Tryz.prog 19 1 := ⟨by kernel_rfl, by decide⟩
instance tfl19x0 : TField Tryz.prog 19 0 0 17 := ⟨by kernel_rfl, kne (k := 1) (by kernel_rfl) (by decide)⟩
instance tly19 : TLay Tryz.prog 19 [.nilptr] [(0, 1)] := ⟨by kernel_rfl⟩
instance tze19 : TZero Tryz.prog 19 (.agg [.nilptr]) := ⟨by kernel_rfl, rfl, by decide⟩
instance tsh20 : TSh Tryz.prog 20 .one := ⟨by kernel_rfl⟩
instance tcl20 : TCells Tryz.prog 20 1 := ⟨by kernel_rfl, by decide⟩
instance tze20 : TZero Tryz.prog 20 (.nilif) := ⟨by kernel_rfl, rfl, by decide⟩
instance tsh21 : TSh Tryz.prog 21 .one := ⟨by kernel_rfl⟩
instance tcl21 : TCells Tryz.prog 21 1 := ⟨by kernel_rfl, by decide⟩
instance tze21 : TZero Tryz.prog 21 (.int .i32 0) := ⟨by kernel_rfl, rfl, by decide⟩
instance tsh22 : TSh Tryz.prog 22 (.many 2) := ⟨by kernel_rfl⟩
instance tcl22 : TCells Tryz.prog 22 2 := ⟨by kernel_rfl, by decide⟩
instance tfl22x0 : TField Tryz.prog 22 0 0 3 := ⟨by kernel_rfl, kne (k := 1) (by kernel_rfl) (by decide)⟩
instance tfl22x1 : TField Tryz.prog 22 1 1 3 := ⟨by kernel_rfl, kne (k := 1) (by kernel_rfl) (by decide)⟩
instance tly22 : TLay Tryz.prog 22 [.int .i64 0, .int .i64 0] [(0, 1), (1, 1)] := ⟨by kernel_rfl⟩
instance tze22 : TZero Tryz.prog 22 (.agg [.int .i64 0, .int .i64 0]) := ⟨by kernel_rfl, rfl, by decide⟩
instance tsh23 : TSh Tryz.prog 23 (.many 2) := ⟨by kernel_rfl⟩
instance tcl23 : TCells Tryz.prog 23 2 := ⟨by kernel_rfl, by decide⟩
instance tfl23x0 : TField Tryz.prog 23 0 0 3 := ⟨by kernel_rfl, kne (k := 1) (by kernel_rfl) (by decide)⟩
instance tfl23x1 : TField Tryz.prog 23 1 1 3 := ⟨by kernel_rfl, kne (k := 1) (by kernel_rfl) (by decide)⟩
instance tly23 : TLay Tryz.prog 23 [.int .i64 0, .int .i64 0] [(0, 1), (1, 1)] := ⟨by kernel_rfl⟩
instance tze23 : TZero Tryz.prog 23 (.agg [.int .i64 0, .int .i64 0]) := ⟨by kernel_rfl, rfl, by decide⟩
instance tsh24 : TSh Tryz.prog 24 (.many 7) := ⟨by kernel_rfl⟩
instance tcl24 : TCells Tryz.prog 24 7 := ⟨by kernel_rfl, by decide⟩
instance tfl24x0 : TField Tryz.prog 24 0 0 9 := ⟨by kernel_rfl, kne (k := 1) (by kernel_rfl) (by decide)⟩
instance tfl24x1 : TField Tryz.prog 24 1 1 23 := ⟨by kernel_rfl, kne (k := 2) (by kernel_rfl) (by decide)⟩
instance tfl24x2 : TField Tryz.prog 24 2 3 23 := ⟨by kernel_rfl, kne (k := 2) (by kernel_rfl) (by decide)⟩
instance tfl24x3 : TField Tryz.prog 24 3 5 3 := ⟨by kernel_rfl, kne (k := 1) (by kernel_rfl) (by decide)⟩
instance tfl24x4 : TField Tryz.prog 24 4 6 3 := ⟨by kernel_rfl, kne (k := 1) (by kernel_rfl) (by decide)⟩
instance tly24 : TLay Tryz.prog 24 [.str ByteArray.empty, .int .i64 0, .int .i64 0, .int .i64 0, .int .i64 0, .int .i64 0, .int .i64 0] [(0, 1), (1, 2), (3, 2), (5, 1), (6, 1)] := ⟨by kernel_rfl⟩
instance tze24 : TZero Tryz.prog 24 (.agg [.str ByteArray.empty, .int .i64 0, .int .i64 0, .int .i64 0, .int .i64 0, .int .i64 0, .int .i64 0]) := ⟨by kernel_rfl, rfl, by decide⟩
instance tsh25 : TSh Tryz.prog 25 (.many 7) := ⟨by kernel_rfl⟩
instance tcl25 : TCells Tryz.prog 25 7 := ⟨by kernel_rfl, by decide⟩
instance tfl25x0 : TField Tryz.prog 25 0 0 9 := ⟨by kernel_rfl, kne (k := 1) (by kernel_rfl) (by decide)⟩
instance tfl25x1 : TField Tryz.prog 25 1 1 23 := ⟨by kernel_rfl, kne (k := 2) (by kernel_rfl) (by decide)⟩
instance tfl25x2 : TField Tryz.prog 25 2 3 23 := ⟨by kernel_rfl, kne (k := 2) (by kernel_rfl) (by decide)⟩
instance tfl25x3 : TField Tryz.prog 25 3 5 3 := ⟨by kernel_rfl, kne (k := 1) (by kernel_rfl) (by decide)⟩
instance tfl25x4 : TField Tryz.prog 25 4 6 3 := ⟨by kernel_rfl, kne (k := 1) (by kernel_rfl) (by decide)⟩
instance tly25 : TLay Tryz.prog 25 [.str ByteArray.empty, .int .i64 0, .int .i64 0, .int .i64 0, .int .i64 0, .int .i64 0, .int .i64 0] [(0, 1), (1, 2), (3, 2), (5, 1), (6, 1)] := ⟨by kernel_rfl⟩
instance tze25 : TZero Tryz.prog 25 (.agg [.str ByteArray.empty, .int .i64 0, .int .i64 0, .int .i64 0, .int .i64 0, .int .i64 0, .int .i64 0]) := ⟨by kernel_rfl, rfl, by decide⟩
instance tsh26 : TSh Tryz.prog 26 .one := ⟨by kernel_rfl⟩
instance tcl26 : TCells Tryz.prog 26 1 := ⟨by kernel_rfl, by decide⟩
instance tsl26 : TSlice Tryz.prog 26 3 1 := ⟨by kernel_rfl, by kernel_rfl, by decide⟩
instance tze26 : TZero Tryz.prog 26 (.nilsl) := ⟨by kernel_rfl, rfl, by decide⟩
instance tsh27 : TSh Tryz.prog 27 (.many 6) := ⟨by kernel_rfl⟩
instance tcl27 : TCells Tryz.prog 27 6 := ⟨by kernel_rfl, by decide⟩
instance tfl27x0 : TField Tryz.prog 27 0 0 3 := ⟨by kernel_rfl, kne (k := 1) (by kernel_rfl) (by decide)⟩
instance tfl27x1 : TField Tryz.prog 27 1 1 3 := ⟨by kernel_rfl, kne (k := 1) (by kernel_rfl) (by decide)⟩
instance tfl27x2 : TField Tryz.prog 27 2 2 3 := ⟨by kernel_rfl, kne (k := 1) (by kernel_rfl) (by decide)⟩
instance tfl27x3 : TField Tryz.prog 27 3 3 3 := ⟨by kernel_rfl, kne (k := 1) (by kernel_rfl) (by decide)⟩
instance tfl27x4 : TField Tryz.prog 27 4 4 3 := ⟨by kernel_rfl, kne (k := 1) (by kernel_rfl) (by decide)⟩
instance tfl27x5 : TField Tryz.prog 27 5 5 26 := ⟨by kernel_rfl, kne (k := 1) (by kernel_rfl) (by decide)⟩
instance tly27 : TLay Tryz.prog 27 [.int .i64 0, .int .i64 0, .int .i64 0, .int .i64 0, .int .i64 0, .nilsl] [(0, 1), (1, 1), (2, 1), (3, 1), (4, 1), (5, 1)] := ⟨by kernel_rfl⟩
instance tze27 : TZero Tryz.prog 27 (.agg [.int .i64 0, .int .i64 0, .int .i64 0, .int .i64 0, .int .i64 0, .nilsl]) := ⟨by kernel_rfl, rfl, by decide⟩
instance tsh28 : TSh Tryz.prog 28 (.many 6) := ⟨by kernel_rfl⟩
instance tcl28 : TCells Tryz.prog 28 6 := ⟨by kernel_rfl, by decide⟩
instance tfl28x0 : TField Tryz.prog 28 0 0 3 := ⟨by kernel_rfl, kne (k := 1) (by kernel_rfl) (by decide)⟩
instance tfl28x1 : TField Tryz.prog 28 1 1 3 := ⟨by kernel_rfl, kne (k := 1) (by kernel_rfl) (by decide)⟩
instance tfl28x2 : TField Tryz.prog 28 2 2 3 := ⟨by kernel_rfl, kne (k := 1) (by kernel_rfl) (by decide)⟩
instance tfl28x3 : TField Tryz.prog 28 3 3 3 := ⟨by kernel_rfl, kne (k := 1) (by kernel_rfl) (by decide)⟩
instance tfl28x4 : TField Tryz.prog 28 4 4 3 := ⟨by kernel_rfl, kne (k := 1) (by kernel_rfl) (by decide)⟩
instance tfl28x5 : TField Tryz.prog 28 5 5 26 := ⟨by kernel_rfl, kne (k := 1) (by kernel_rfl) (by decide)⟩
instance tly28 : TLay Tryz.prog 28 [.int .i64 0, .int .i64 0, .int .i64 0, .int .i64 0, .int .i64 0, .nilsl] [(0, 1), (1, 1), (2, 1), (3, 1), (4, 1), (5, 1)] := ⟨by kernel_rfl⟩
instance tze28 : TZero Tryz.prog 28 (.agg [.int .i64 0, .int .i64 0, .int .i64 0, .int .i64 0, .int .i64 0, .nilsl]) := ⟨by kernel_rfl, rfl, by decide⟩
instance tsh29 : TSh Tryz.prog 29 .one := ⟨by kernel_rfl⟩
instance tcl29 : TCells Tryz.prog 29 1 := ⟨by kernel_rfl, by decide⟩
instance tze29 : TZero Tryz.prog 29 (.nilfunc) := ⟨by kernel_rfl, rfl, by decide⟩
instance tsh30 : TSh Tryz.prog 30 .one := ⟨by kernel_rfl⟩
instance tcl30 : TCells Tryz.prog 30 1 := ⟨by kernel_rfl, by decide⟩
instance tze30 : TZero Tryz.prog 30 (.nilfunc) := ⟨by kernel_rfl, rfl, by decide⟩
instance tsh31 : TSh Tryz.prog 31 .one := ⟨by kernel_rfl⟩
instance tcl31 : TCells Tryz.prog 31 1 := ⟨by kernel_rfl, by decide⟩
instance tze31 : TZero Tryz.prog 31 (.int .i64 0) := ⟨by kernel_rfl, rfl, by decide⟩
instance tsh32 : TSh Tryz.prog 32 .one := ⟨by kernel_rfl⟩
instance tcl32 : TCells Tryz.prog 32 1 := ⟨by kernel_rfl, by decide⟩
instance tsh33 : TSh Tryz.prog 33 .one := ⟨by kernel_rfl⟩
instance tcl33 : TCells Tryz.prog 33 1 := ⟨by kernel_rfl, by decide⟩
instance tze33 : TZero Tryz.prog 33 (.nilfunc) := ⟨by kernel_rfl, rfl, by decide⟩
instance tsh34 : TSh Tryz.prog 34 .one := ⟨by kernel_rfl⟩
instance tcl34 : TCells Tryz.prog 34 1 := ⟨by kernel_rfl, by decide⟩
instance tsh35 : TSh Tryz.prog 35 .one := ⟨by kernel_rfl⟩
instance tcl35 : TCells Tryz.prog 35 1 := ⟨by kernel_rfl, by decide⟩
instance tze35 : TZero Tryz.prog 35 (.nilfunc) := ⟨by kernel_rfl, rfl, by decide⟩
instance tsh36 : TSh Tryz.prog 36 .one := ⟨by kernel_rfl⟩
instance tcl36 : TCells Tryz.prog 36 1 := ⟨by kernel_rfl, by decide⟩
instance tze36 : TZero Tryz.prog 36 (.nilfunc) := ⟨by kernel_rfl, rfl, by decide⟩
instance tsh37 : TSh Tryz.prog 37 .one := ⟨by kernel_rfl⟩
instance tcl37 : TCells Tryz.prog 37 1 := ⟨by kernel_rfl, by decide⟩
instance tze37 : TZero Tryz.prog 37 (.nilfunc) := ⟨by kernel_rfl, rfl, by decide⟩
instance tsh38 : TSh Tryz.prog 38 .one := ⟨by kernel_rfl⟩
instance tcl38 : TCells Tryz.prog 38 1 := ⟨by kernel_rfl, by decide⟩
instance tze38 : TZero Tryz.prog 38 (.nilfunc) := ⟨by kernel_rfl, rfl, by decide⟩
instance tsh39 : TSh Tryz.prog 39 .one := ⟨by kernel_rfl⟩
instance tcl39 : TCells Tryz.prog 39 1 := ⟨by kernel_rfl, by decide⟩
instance tze39 : TZero Tryz.prog 39 (.nilfunc) := ⟨by kernel_rfl, rfl, by decide⟩
instance tsh40 : TSh Tryz.prog 40 .one := ⟨by kernel_rfl⟩
instance tcl40 : TCells Tryz.prog 40 1 := ⟨by kernel_rfl, by decide⟩
instance tze40 : TZero Tryz.prog 40 (.nilfunc) := ⟨by kernel_rfl, rfl, by decide⟩
instance tsh41 : TSh Tryz.prog 41 .one := ⟨by kernel_rfl⟩
instance tcl41 : TCells Tryz.prog 41 1 := ⟨by kernel_rfl, by decide⟩
instance tze41 : TZero Tryz.prog 41 (.nilfunc) := ⟨by kernel_rfl, rfl, by decide⟩
instance tsh42 : TSh Tryz.prog 42 .one := ⟨by kernel_rfl⟩
instance tcl42 : TCells Tryz.prog 42 1 := ⟨by kernel_rfl, by decide⟩
instance tze42 : TZero Tryz.prog 42 (.nilfunc) := ⟨by kernel_rfl, rfl, by decide⟩
instance tsh43 : TSh Tryz.prog 43 .one := ⟨by kernel_rfl⟩
instance tcl43 : TCells Tryz.prog 43 1 := ⟨by kernel_rfl, by decide⟩
instance tze43 : TZero Tryz.prog 43 (.nilfunc) := ⟨by kernel_rfl, rfl, by decide⟩
instance tsh44 : TSh Tryz.prog 44 .one := ⟨by kernel_rfl⟩
instance tcl44 : TCells Tryz.prog 44 1 := ⟨by kernel_rfl, by decide⟩
instance tze44 : TZero Tryz.prog 44 (.nilfunc) := ⟨by kernel_rfl, rfl, by decide⟩
instance tsh45 : TSh Tryz.prog 45 .one := ⟨by kernel_rfl⟩
instance tcl45 : TCells Tryz.prog 45 1 := ⟨by kernel_rfl, by decide⟩
instance tsl45 : TSlice Tryz.prog 45 57 7 := ⟨by kernel_rfl, by kernel_rfl, by decide⟩
instance tze45 : TZero Tryz.prog 45 (.nilsl) := ⟨by kernel_rfl, rfl, by decide⟩
instance tsh46 : TSh Tryz.prog 46 .one := ⟨by kernel_rfl⟩
instance tcl46 : TCells Tryz.prog 46 1 := ⟨by kernel_rfl, by decide⟩
instance tsl46 : TSlice Tryz.prog 46 62 2 := ⟨by kernel_rfl, by kernel_rfl, by decide⟩
instance tze46 : TZero Tryz.prog 46 (.nilsl) := ⟨by kernel_rfl, rfl, by decide⟩
instance tsh47 : TSh Tryz.prog 47 (.many 3) := ⟨by kernel_rfl⟩
instance tcl47 : TCells Tryz.prog 47 3 := ⟨by kernel_rfl, by decide⟩
instance tfl47x0 : TField Tryz.prog 47 0 0 3 := ⟨by kernel_rfl, kne (k := 1) (by kernel_rfl) (by decide)⟩
instance tfl47x1 : TField Tryz.prog 47 1 1 3 := ⟨by kernel_rfl, kne (k := 1) (by kernel_rfl) (by decide)⟩
instance tfl47x2 : TField Tryz.prog 47 2 2 3 := ⟨by kernel_rfl, kne (k := 1) (by kernel_rfl) (by decide)⟩
instance tly47 : TLay Tryz.prog 47 [.int .i64 0, .int .i64 0, .int .i64 0] [(0, 1), (1, 1), (2, 1)] := ⟨by kernel_rfl⟩
instance tze47 : TZero Tryz.prog 47 (.agg [.int .i64 0, .int .i64 0, .int .i64 0]) := ⟨by kernel_rfl, rfl, by decide⟩
instance tsh48 : TSh Tryz.prog 48 (.many 3) := ⟨by kernel_rfl⟩
instance tcl48 : TCells Tryz.prog 48 3 := ⟨by kernel_rfl, by decide⟩
instance tfl48x0 : TField Tryz.prog 48 0 0 3 := ⟨by kernel_rfl, kne (k := 1) (by kernel_rfl) (by decide)⟩
instance tfl48x1 : TField Tryz.prog 48 1 1 3 := ⟨by kernel_rfl, kne (k := 1) (by kernel_rfl) (by decide)⟩
instance tfl48x2 : TField Tryz.prog 48 2 2 3 := ⟨by kernel_rfl, kne (k := 1) (by kernel_rfl) (by decide)⟩
instance tly48 : TLay Tryz.prog 48 [.int .i64 0, .int .i64 0, .int .i64 0] [(0, 1), (1, 1), (2, 1)] := ⟨by kernel_rfl⟩
instance tze48 : TZero Tryz.prog 48 (.agg [.int .i64 0, .int .i64 0, .int .i64 0]) := ⟨by kernel_rfl, rfl, by decide⟩
instance tsh49 : TSh Tryz.prog 49 .one := ⟨by kernel_rfl⟩
instance tcl49 : TCells Tryz.prog 49 1 := ⟨by kernel_rfl, by decide⟩
instance tze49 : TZero Tryz.prog 49 (.nilfunc) := ⟨by kernel_rfl, rfl, by decide⟩
instance tsh50 : TSh Tryz.prog 50 .one := ⟨by kernel_rfl⟩
instance tcl50 : TCells Tryz.prog 50 1 := ⟨by kernel_rfl, by decide⟩
instance tsh51 : TSh Tryz.prog 51 .one := ⟨by kernel_rfl⟩
instance tcl51 : TCells Tryz.prog 51 1 := ⟨by kernel_rfl, by decide⟩
instance tze51 : TZero Tryz.prog 51 (.nilfunc) := ⟨by kernel_rfl, rfl, by decide⟩
instance tsh52 : TSh Tryz.prog 52 .one := ⟨by kernel_rfl⟩
instance tcl52 : TCells Tryz.prog 52 1 := ⟨by kernel_rfl, by decide⟩
instance tsh53 : TSh Tryz.prog 53 .one := ⟨by kernel_rfl⟩
instance tcl53 : TCells Tryz.prog 53 1 := ⟨by kernel_rfl, by decide⟩
instance tze53 : TZero Tryz.prog 53 (.nilfunc) := ⟨by kernel_rfl, rfl, by decide⟩
instance tsh54 : TSh Tryz.prog 54 .one := ⟨by kernel_rfl⟩
instance tcl54 : TCells Tryz.prog 54 1 := ⟨by kernel_rfl, by decide⟩
instance tze54 : TZero Tryz.prog 54 (.nilfunc) := ⟨by kernel_rfl, rfl, by decide⟩
instance tsh55 : TSh Tryz.prog 55 .one := ⟨by kernel_rfl⟩
instance tcl55 : TCells Tryz.prog 55 1 := ⟨by kernel_rfl, by decide⟩
instance tze55 : TZero Tryz.prog 55 (.nilfunc) := ⟨by kernel_rfl, rfl, by decide⟩
instance tsh56 : TSh Tryz.prog 56 (.many 7) := ⟨by kernel_rfl⟩
instance tcl56 : TCells Tryz.prog 56 7 := ⟨by kernel_rfl, by decide⟩
instance tfl56x0 : TField Tryz.prog 56 0 0 9 := ⟨by kernel_rfl, kne (k := 1) (by kernel_rfl) (by decide)⟩
instance tfl56x1 : TField Tryz.prog 56 1 1 9 := ⟨by kernel_rfl, kne (k := 1) (by kernel_rfl) (by decide)⟩
instance tfl56x2 : TField Tryz.prog 56 2 2 3 := ⟨by kernel_rfl, kne (k := 1) (by kernel_rfl) (by decide)⟩
instance tfl56x3 : TField Tryz.prog 56 3 3 3 := ⟨by kernel_rfl, kne (k := 1) (by kernel_rfl) (by decide)⟩
instance tfl56x4 : TField Tryz.prog 56 4 4 3 := ⟨by kernel_rfl, kne (k := 1) (by kernel_rfl) (by decide)⟩
instance tfl56x5 : TField Tryz.prog 56 5 5 3 := ⟨by kernel_rfl, kne (k := 1) (by kernel_rfl) (by decide)⟩
instance tfl56x6 : TField Tryz.prog 56 6 6 3 := ⟨by kernel_rfl, kne (k := 1) (by kernel_rfl) (by decide)⟩
instance tly56 : TLay Tryz.prog 56 [.str ByteArray.empty, .str ByteArray.empty, .int .i64 0, .int .i64 0, .int .i64 0, .int .i64 0, .int .i64 0] [(0, 1), (1, 1), (2, 1), (3, 1), (4, 1), (5, 1), (6, 1)] := ⟨by kernel_rfl⟩
instance tze56 : TZero Tryz.prog 56 (.agg [.str ByteArray.empty, .str ByteArray.empty, .int .i64 0, .int .i64 0, .int .i64 0, .int .i64 0, .int .i64 0]) := ⟨by kernel_rfl, rfl, by decide⟩
instance tsh57 : TSh Tryz.prog 57 (.many 7) := ⟨by kernel_rfl⟩
instance tcl57 : TCells Tryz.prog 57 7 := ⟨by kernel_rfl, by decide⟩
instance tfl57x0 : TField Tryz.prog 57 0 0 9 := ⟨by kernel_rfl, kne (k := 1) (by kernel_rfl) (by decide)⟩
instance tfl57x1 : TField Tryz.prog 57 1 1 9 := ⟨by kernel_rfl, kne (k := 1) (by kernel_rfl) (by decide)⟩
instance tfl57x2 : TField Tryz.prog 57 2 2 3 := ⟨by kernel_rfl, kne (k := 1) (by kernel_rfl) (by decide)⟩
instance tfl57x3 : TField Tryz.prog 57 3 3 3 := ⟨by kernel_rfl, kne (k := 1) (by kernel_rfl) (by decide)⟩
instance tfl57x4 : TField Tryz.prog 57 4 4 3 := ⟨by kernel_rfl, kne (k := 1) (by kernel_rfl) (by decide)⟩
instance tfl57x5 : TField Tryz.prog 57 5 5 3 := ⟨by kernel_rfl, kne (k := 1) (by kernel_rfl) (by decide)⟩
instance tfl57x6 : TField Tryz.prog 57 6 6 3 := ⟨by kernel_rfl, kne (k := 1) (by kernel_rfl) (by decide)⟩
instance tly57 : TLay Tryz.prog 57 [.str ByteArray.empty, .str ByteArray.empty, .int .i64 0, .int .i64 0, .int .i64 0, .int .i64 0, .int .i64 0] [(0, 1), (1, 1), (2, 1), (3, 1), (4, 1), (5, 1), (6, 1)] := ⟨by kernel_rfl⟩
instance tze57 : TZero Tryz.prog 57 (.agg [.str ByteArray.empty, .str ByteArray.empty, .int .i64 0, .int .i64 0, .int .i64 0, .int .i64 0, .int .i64 0]) := ⟨by kernel_rfl, rfl, by decide⟩
instance tsh58 : TSh Tryz.prog 58 .one := ⟨by kernel_rfl⟩
instance tcl58 : TCells Tryz.prog 58 1 := ⟨by kernel_rfl, by decide⟩
instance tze58 : TZero Tryz.prog 58 (.nilfunc) := ⟨by kernel_rfl, rfl, by decide⟩
instance tsh59 : TSh Tryz.prog 59 .one := ⟨by kernel_rfl⟩
instance tcl59 : TCells Tryz.prog 59 1 := ⟨by kernel_rfl, by decide⟩
instance tze59 : TZero Tryz.prog 59 (.nilfunc) := ⟨by kernel_rfl, rfl, by decide⟩
instance tsh60 : TSh Tryz.prog 60 .one := ⟨by kernel_rfl⟩
instance tcl60 : TCells Tryz.prog 60 1 := ⟨by kernel_rfl, by decide⟩
instance tze60 : TZero Tryz.prog 60 (.nilfunc) := ⟨by kernel_rfl, rfl, by decide⟩
instance tsh61 : TSh Tryz.prog 61 (.many 2) := ⟨by kernel_rfl⟩
instance tcl61 : TCells Tryz.prog 61 2 := ⟨by kernel_rfl, by decide⟩
instance tfl61x0 : TField Tryz.prog 61 0 0 9 := ⟨by kernel_rfl, kne (k := 1) (by kernel_rfl) (by decide)⟩
instance tfl61x1 : TField Tryz.prog 61 1 1 26 := ⟨by kernel_rfl, kne (k := 1) (by kernel_rfl) (by decide)⟩
instance tly61 : TLay Tryz.prog 61 [.str ByteArray.empty, .nilsl] [(0, 1), (1, 1)] := ⟨by kernel_rfl⟩
instance tze61 : TZero Tryz.prog 61 (.agg [.str ByteArray.empty, .nilsl]) := ⟨by kernel_rfl, rfl, by decide⟩
instance tsh62 : TSh Tryz.prog 62 (.many 2) := ⟨by kernel_rfl⟩
instance tcl62 : TCells Tryz.prog 62 2 := ⟨by kernel_rfl, by decide⟩
instance tfl62x0 : TField Tryz.prog 62 0 0 9 := ⟨by kernel_rfl, kne (k := 1) (by kernel_rfl) (by decide)⟩
instance tfl62x1 : TField Tryz.prog 62 1 1 26 := ⟨by kernel_rfl, kne (k := 1) (by kernel_rfl) (by decide)⟩
instance tly62 : TLay Tryz.prog 62 [.str ByteArray.empty, .nilsl] [(0, 1), (1, 1)] := ⟨by kernel_rfl⟩
instance tze62 : TZero Tryz.prog 62 (.agg [.str ByteArray.empty, .nilsl]) := ⟨by kernel_rfl, rfl, by decide⟩
instance tsh63 : TSh Tryz.prog 63 .one := ⟨by kernel_rfl⟩
instance tcl63 : TCells Tryz.prog 63 1 := ⟨by kernel_rfl, by decide⟩
instance tze63 : TZero Tryz.prog 63 (.nilfunc) := ⟨by kernel_rfl, rfl, by decide⟩
instance tsh64 : TSh Tryz.prog 64 .one := ⟨by kernel_rfl⟩
instance tcl64 : TCells Tryz.prog 64 1 := ⟨by kernel_rfl, by decide⟩
instance tze64 : TZero Tryz.prog 64 (.nilfunc) := ⟨by kernel_rfl, rfl, by decide⟩
instance tsh65 : TSh Tryz.prog 65 .one := ⟨by kernel_rfl⟩
instance tcl65 : TCells Tryz.prog 65 1 := ⟨by kernel_rfl, by decide⟩
instance tsl65 : TSlice Tryz.prog 65 23 2 := ⟨by kernel_rfl, by kernel_rfl, by decide⟩
instance tze65 : TZero Tryz.prog 65 (.nilsl) := ⟨by kernel_rfl, rfl, by decide⟩
instance tsh66 : TSh Tryz.prog 66 (.many 3) := ⟨by kernel_rfl⟩
instance tcl66 : TCells Tryz.prog 66 3 := ⟨by kernel_rfl, by decide⟩
instance tfl66x0 : TField Tryz.prog 66 0 0 65 := ⟨by kernel_rfl, kne (k := 1) (by kernel_rfl) (by decide)⟩
instance tfl66x1 : TField Tryz.prog 66 1 1 3 := ⟨by kernel_rfl, kne (k := 1) (by kernel_rfl) (by decide)⟩
instance tfl66x2 : TField Tryz.prog 66 2 2 3 := ⟨by kernel_rfl, kne (k := 1) (by kernel_rfl) (by decide)⟩
instance tly66 : TLay Tryz.prog 66 [.nilsl, .int .i64 0, .int .i64 0] [(0, 1), (1, 1), (2, 1)] := ⟨by kernel_rfl⟩
instance tze66 : TZero Tryz.prog 66 (.agg [.nilsl, .int .i64 0, .int .i64 0]) := ⟨by kernel_rfl, rfl, by decide⟩
instance tsh67 : TSh Tryz.prog 67 (.many 3) := ⟨by kernel_rfl⟩
instance tcl67 : TCells Tryz.prog 67 3 := ⟨by kernel_rfl, by decide⟩
instance tfl67x0 : TField Tryz.prog 67 0 0 65 := ⟨by kernel_rfl, kne (k := 1) (by kernel_rfl) (by decide)⟩
instance tfl67x1 : TField Tryz.prog 67 1 1 3 := ⟨by kernel_rfl, kne (k := 1) (by kernel_rfl) (by decide)⟩
instance tfl67x2 : TField Tryz.prog 67 2 2 3 := ⟨by kernel_rfl, kne (k := 1) (by kernel_rfl) (by decide)⟩
instance tly67 : TLay Tryz.prog 67 [.nilsl, .int .i64 0, .int .i64 0] [(0, 1), (1, 1), (2, 1)] := ⟨by kernel_rfl⟩
instance tze67 : TZero Tryz.prog 67 (.agg [.nilsl, .int .i64 0, .int .i64 0]) := ⟨by kernel_rfl, rfl, by decide⟩
instance tsh68 : TSh Tryz.prog 68 (.many 9) := ⟨by kernel_rfl⟩
instance tcl68 : TCells Tryz.prog 68 9 := ⟨by kernel_rfl, by decide⟩
instance tfl68x0 : TField Tryz.prog 68 0 0 45 := ⟨by kernel_rfl, kne (k := 1) (by kernel_rfl) (by decide)⟩
instance tfl68x1 : TField Tryz.prog 68 1 1 67 := ⟨by kernel_rfl, kne (k := 3) (by kernel_rfl) (by decide)⟩
instance tfl68x2 : TField Tryz.prog 68 2 4 62 := ⟨by kernel_rfl, kne (k := 2) (by kernel_rfl) (by decide)⟩
instance tfl68x3 : TField Tryz.prog 68 3 6 48 := ⟨by kernel_rfl, kne (k := 3) (by kernel_rfl) (by decide)⟩
instance tly68 : TLay Tryz.prog 68 [.nilsl, .nilsl, .int .i64 0, .int .i64 0, .str ByteArray.empty, .nilsl, .int .i64 0, .int .i64 0, .int .i64 0] [(0, 1), (1, 3), (4, 2), (6, 3)] := ⟨by kernel_rfl⟩
instance tze68 : TZero Tryz.prog 68 (.agg [.nilsl, .nilsl, .int .i64 0, .int .i64 0, .str ByteArray.empty, .nilsl, .int .i64 0, .int .i64 0, .int .i64 0]) := ⟨by kernel_rfl, rfl, by decide⟩
instance tsh69 : TSh Tryz.prog 69 (.many 9) := ⟨by kernel_rfl⟩
instance tcl69 : TCells Tryz.prog 69 9 := ⟨by kernel_rfl, by decide⟩
instance tfl69x0 : TField Tryz.prog 69 0 0 45 := ⟨by kernel_rfl, kne (k := 1) (by kernel_rfl) (by decide)⟩
instance tfl69x1 : TField Tryz.prog 69 1 1 67 := ⟨by kernel_rfl, kne (k := 3) (by kernel_rfl) (by decide)⟩
instance tfl69x2 : TField Tryz.prog 69 2 4 62 := ⟨by kernel_rfl, kne (k := 2) (by kernel_rfl) (by decide)⟩
instance tfl69x3 : TField Tryz.prog 69 3 6 48 := ⟨by kernel_rfl, kne (k := 3) (by kernel_rfl) (by decide)⟩
instance tly69 : TLay Tryz.prog 69 [.nilsl, .nilsl, .int .i64 0, .int .i64 0, .str ByteArray.empty, .nilsl, .int .i64 0, .int .i64 0, .int .i64 0] [(0, 1), (1, 3), (4, 2), (6, 3)] := ⟨by kernel_rfl⟩
instance tze69 : TZero Tryz.prog 69 (.agg [.nilsl, .nilsl, .int .i64 0, .int .i64 0, .str ByteArray.empty, .nilsl, .int .i64 0, .int .i64 0, .int .i64 0]) := ⟨by kernel_rfl, rfl, by decide⟩
instance tsh70 : TSh Tryz.prog 70 .one := ⟨by kernel_rfl⟩
instance tcl70 : TCells Tryz.prog 70 1 := ⟨by kernel_rfl, by decide⟩
instance tze70 : TZero Tryz.prog 70 (.nilfunc) := ⟨by kernel_rfl, rfl, by decide⟩
instance tsh71 : TSh Tryz.prog 71 .one := ⟨by kernel_rfl⟩
instance tcl71 : TCells Tryz.prog 71 1 := ⟨by kernel_rfl, by decide⟩
instance tze71 : TZero Tryz.prog 71 (.nilfunc) := ⟨by kernel_rfl, rfl, by decide⟩
instance tsh72 : TSh Tryz.prog 72 .one := ⟨by kernel_rfl⟩
instance tcl72 : TCells Tryz.prog 72 1 := ⟨by kernel_rfl, by decide⟩
instance tsh73 : TSh Tryz.prog 73 .one := ⟨by kernel_rfl⟩
instance tcl73 : TCells Tryz.prog 73 1 := ⟨by kernel_rfl, by decide⟩
instance tze73 : TZero Tryz.prog 73 (.nilfunc) := ⟨by kernel_rfl, rfl, by decide⟩
instance tsh74 : TSh Tryz.prog 74 .one := ⟨by kernel_rfl⟩
instance tcl74 : TCells Tryz.prog 74 1 := ⟨by kernel_rfl, by decide⟩
instance tze74 : TZero Tryz.prog 74 (.nilfunc) := ⟨by kernel_rfl, rfl, by decide⟩
instance tsh75 : TSh Tryz.prog 75 .one := ⟨by kernel_rfl⟩
instance tcl75 : TCells Tryz.prog 75 1 := ⟨by kernel_rfl, by decide⟩
instance tze75 : TZero Tryz.prog 75 (.nilfunc) := ⟨by kernel_rfl, rfl, by decide⟩
instance tsh76 : TSh Tryz.prog 76 .one := ⟨by kernel_rfl⟩
instance tcl76 : TCells Tryz.prog 76 1 := ⟨by kernel_rfl, by decide⟩
instance tsh77 : TSh Tryz.prog 77 .one := ⟨by kernel_rfl⟩
instance tcl77 : TCells Tryz.prog 77 1 := ⟨by kernel_rfl, by decide⟩
instance tze77 : TZero Tryz.prog 77 (.nilfunc) := ⟨by kernel_rfl, rfl, by decide⟩
instance tsh78 : TSh Tryz.prog 78 .one := ⟨by kernel_rfl⟩
instance tcl78 : TCells Tryz.prog 78 1 := ⟨by kernel_rfl, by decide⟩
instance tsl78 : TSlice Tryz.prog 78 108 5 := ⟨by kernel_rfl, by kernel_rfl, by decide⟩
instance tze78 : TZero Tryz.prog 78 (.nilsl) := ⟨by kernel_rfl, rfl, by decide⟩
instance tsh79 : TSh Tryz.prog 79 .one := ⟨by kernel_rfl⟩
instance tcl79 : TCells Tryz.prog 79 1 := ⟨by kernel_rfl, by decide⟩
instance tsl79 : TSlice Tryz.prog 79 113 4 := ⟨by kernel_rfl, by kernel_rfl, by decide⟩
instance tze79 : TZero Tryz.prog 79 (.nilsl) := ⟨by kernel_rfl, rfl, by decide⟩
instance tsh80 : TSh Tryz.prog 80 (.many 2) := ⟨by kernel_rfl⟩
instance tcl80 : TCells Tryz.prog 80 2 := ⟨by kernel_rfl, by decide⟩
instance tfl80x0 : TField Tryz.prog 80 0 0 78 := ⟨by kernel_rfl, kne (k := 1) (by kernel_rfl) (by decide)⟩
instance tfl80x1 : TField Tryz.prog 80 1 1 79 := ⟨by kernel_rfl, kne (k := 1) (by kernel_rfl) (by decide)⟩
instance tly80 : TLay Tryz.prog 80 [.nilsl, .nilsl] [(0, 1), (1, 1)] := ⟨by kernel_rfl⟩
instance tze80 : TZero Tryz.prog 80 (.agg [.nilsl, .nilsl]) := ⟨by kernel_rfl, rfl, by decide⟩
instance tsh81 : TSh Tryz.prog 81 (.many 2) := ⟨by kernel_rfl⟩
instance tcl81 : TCells Tryz.prog 81 2 := ⟨by kernel_rfl, by decide⟩
instance tfl81x0 : TField Tryz.prog 81 0 0 78 := ⟨by kernel_rfl, kne (k := 1) (by kernel_rfl) (by decide)⟩
instance tfl81x1 : TField Tryz.prog 81 1 1 79 := ⟨by kernel_rfl, kne (k := 1) (by kernel_rfl) (by decide)⟩
instance tly81 : TLay Tryz.prog 81 [.nilsl, .nilsl] [(0, 1), (1, 1)] := ⟨by kernel_rfl⟩
instance tze81 : TZero Tryz.prog 81 (.agg [.nilsl, .nilsl]) := ⟨by kernel_rfl, rfl, by decide⟩
instance tsh82 : TSh Tryz.prog 82 .one := ⟨by kernel_rfl⟩
instance tcl82 : TCells Tryz.prog 82 1 := ⟨by kernel_rfl, by decide⟩
instance tze82 : TZero Tryz.prog 82 (.nilfunc) := ⟨by kernel_rfl, rfl, by decide⟩
instance tsh83 : TSh Tryz.prog 83 .one := ⟨by kernel_rfl⟩
instance tcl83 : TCells Tryz.prog 83 1 := ⟨by kernel_rfl, by decide⟩
instance tsh84 : TSh Tryz.prog 84 .one := ⟨by kernel_rfl⟩
instance tcl84 : TCells Tryz.prog 84 1 := ⟨by kernel_rfl, by decide⟩
instance tze84 : TZero Tryz.prog 84 (.nilfunc) := ⟨by kernel_rfl, rfl, by decide⟩
instance tsh85 : TSh Tryz.prog 85 .one := ⟨by kernel_rfl⟩
instance tcl85 : TCells Tryz.prog 85 1 := ⟨by kernel_rfl, by decide⟩
instance tze85 : TZero Tryz.prog 85 (.nilfunc) := ⟨by kernel_rfl, rfl, by decide⟩
instance tsh86 : TSh Tryz.prog 86 .one := ⟨by kernel_rfl⟩
instance tcl86 : TCells Tryz.prog 86 1 := ⟨by kernel_rfl, by decide⟩
instance tsh87 : TSh Tryz.prog 87 .one := ⟨by kernel_rfl⟩
instance tcl87 : TCells Tryz.prog 87 1 := ⟨by kernel_rfl, by decide⟩
instance tze87 : TZero Tryz.prog 87 (.nilfunc) := ⟨by kernel_rfl, rfl, by decide⟩
instance tsh88 : TSh Tryz.prog 88 .one := ⟨by kernel_rfl⟩
instance tcl88 : TCells Tryz.prog 88 1 := ⟨by kernel_rfl, by decide⟩
instance tze88 : TZero Tryz.prog 88 (.nilfunc) := ⟨by kernel_rfl, rfl, by decide⟩
instance tsh89 : TSh Tryz.prog 89 .one := ⟨by kernel_rfl⟩
instance tcl89 : TCells Tryz.prog 89 1 := ⟨by kernel_rfl, by decide⟩
instance tze89 : TZero Tryz.prog 89 (.nilfunc) := ⟨by kernel_rfl, rfl, by decide⟩
instance tsh90 : TSh Tryz.prog 90 .one := ⟨by kernel_rfl⟩
instance tcl90 : TCells Tryz.prog 90 1 := ⟨by kernel_rfl, by decide⟩
instance tze90 : TZero Tryz.prog 90 (.nilfunc) := ⟨by kernel_rfl, rfl, by decide⟩
instance tsh91 : TSh Tryz.prog 91 .one := ⟨by kernel_rfl⟩
instance tcl91 : TCells Tryz.prog 91 1 := ⟨by kernel_rfl, by decide⟩
instance tze91 : TZero Tryz.prog 91 (.nilfunc) := ⟨by kernel_rfl, rfl, by decide⟩
instance tsh92 : TSh Tryz.prog 92 .one := ⟨by kernel_rfl⟩
instance tcl92 : TCells Tryz.prog 92 1 := ⟨by kernel_rfl, by decide⟩
instance tze92 : TZero Tryz.prog 92 (.nilfunc) := ⟨by kernel_rfl, rfl, by decide⟩
instance tsh93 : TSh Tryz.prog 93 .one := ⟨by kernel_rfl⟩
instance tcl93 : TCells Tryz.prog 93 1 := ⟨by kernel_rfl, by decide⟩
instance tze93 : TZero Tryz.prog 93 (.nilfunc) := ⟨by kernel_rfl, rfl, by decide⟩
instance tsh94 : TSh Tryz.prog 94 .one := ⟨by kernel_rfl⟩
instance tcl94 : TCells Tryz.prog 94 1 := ⟨by kernel_rfl, by decide⟩
instance tze94 : TZero Tryz.prog 94 (.nilfunc) := ⟨by kernel_rfl, rfl, by decide⟩
instance tsh95 : TSh Tryz.prog 95 .one := ⟨by kernel_rfl⟩
instance tcl95 : TCells Tryz.prog 95 1 := ⟨by kernel_rfl, by decide⟩
instance tze95 : TZero Tryz.prog 95 (.nilfunc) := ⟨by kernel_rfl, rfl, by decide⟩
instance tsh96 : TSh Tryz.prog 96 .one := ⟨by kernel_rfl⟩
instance tcl96 : TCells Tryz.prog 96 1 := ⟨by kernel_rfl, by decide⟩
instance tze96 : TZero Tryz.prog 96 (.nilfunc) := ⟨by kernel_rfl, rfl, by decide⟩
instance tsh97 : TSh Tryz.prog 97 .one := ⟨by kernel_rfl⟩
instance tcl97 : TCells Tryz.prog 97 1 := ⟨by kernel_rfl, by decide⟩
instance tze97 : TZero Tryz.prog 97 (.nilfunc) := ⟨by kernel_rfl, rfl, by decide⟩
instance tsh98 : TSh Tryz.prog 98 .one := ⟨by kernel_rfl⟩
instance tcl98 : TCells Tryz.prog 98 1 := ⟨by kernel_rfl, by decide⟩
instance tze98 : TZero Tryz.prog 98 (.nilfunc) := ⟨by kernel_rfl, rfl, by decide⟩
instance tsh99 : TSh Tryz.prog 99 .one := ⟨by kernel_rfl⟩
instance tcl99 : TCells Tryz.prog 99 1 := ⟨by kernel_rfl, by decide⟩
instance tze99 : TZero Tryz.prog 99 (.nilfunc) := ⟨by kernel_rfl, rfl, by decide⟩
instance tsh100 : TSh Tryz.prog 100 .one := ⟨by kernel_rfl⟩
instance tcl100 : TCells Tryz.prog 100 1 := ⟨by kernel_rfl, by decide⟩
instance tze100 : TZero Tryz.prog 100 (.nilfunc) := ⟨by kernel_rfl, rfl, by decide⟩
instance tsh101 : TSh Tryz.prog 101 .one := ⟨by kernel_rfl⟩
instance tcl101 : TCells Tryz.prog 101 1 := ⟨by kernel_rfl, by decide⟩
instance tze101 : TZero Tryz.prog 101 (.nilfunc) := ⟨by kernel_rfl, rfl, by decide⟩
instance tsh102 : TSh Tryz.prog 102 .one := ⟨by kernel_rfl⟩
instance tcl102 : TCells Tryz.prog 102 1 := ⟨by kernel_rfl, by decide⟩
instance tze102 : TZero Tryz.prog 102 (.nilfunc) := ⟨by kernel_rfl, rfl, by decide⟩
instance tsh103 : TSh Tryz.prog 103 .one := ⟨by kernel_rfl⟩
instance tcl103 : TCells Tryz.prog 103 1 := ⟨by kernel_rfl, by decide⟩
instance tze103 : TZero Tryz.prog 103 (.nilfunc) := ⟨by kernel_rfl, rfl, by decide⟩
instance tsh104 : TSh Tryz.prog 104 .one := ⟨by kernel_rfl⟩
instance tcl104 : TCells Tryz.prog 104 1 := ⟨by kernel_rfl, by decide⟩
instance tze104 : TZero Tryz.prog 104 (.nilfunc) := ⟨by kernel_rfl, rfl, by decide⟩
instance tsh105 : TSh Tryz.prog 105 (.many 2) := ⟨by kernel_rfl⟩
instance tcl105 : TCells Tryz.prog 105 2 := ⟨by kernel_rfl, by decide⟩
instance tfl105x0 : TField Tryz.prog 105 0 0 3 := ⟨by kernel_rfl, kne (k := 1) (by kernel_rfl) (by decide)⟩
instance tfl105x1 : TField Tryz.prog 105 1 1 3 := ⟨by kernel_rfl, kne (k := 1) (by kernel_rfl) (by decide)⟩
instance tly105 : TLay Tryz.prog 105 [.int .i64 0, .int .i64 0] [(0, 1), (1, 1)] := ⟨by kernel_rfl⟩
instance tze105 : TZero Tryz.prog 105 (.agg [.int .i64 0, .int .i64 0]) := ⟨by kernel_rfl, rfl, by decide⟩
instance tsh106 : TSh Tryz.prog 106 (.many 2) := ⟨by kernel_rfl⟩
instance tcl106 : TCells Tryz.prog 106 2 := ⟨by kernel_rfl, by decide⟩
instance tfl106x0 : TField Tryz.prog 106 0 0 3 := ⟨by kernel_rfl, kne (k := 1) (by kernel_rfl) (by decide)⟩
instance tfl106x1 : TField Tryz.prog 106 1 1 3 := ⟨by kernel_rfl, kne (k := 1) (by kernel_rfl) (by decide)⟩
instance tly106 : TLay Tryz.prog 106 [.int .i64 0, .int .i64 0] [(0, 1), (1, 1)] := ⟨by kernel_rfl⟩
instance tze106 : TZero Tryz.prog 106 (.agg [.int .i64 0, .int .i64 0]) := ⟨by kernel_rfl, rfl, by decide⟩
instance tsh107 : TSh Tryz.prog 107 (.many 5) := ⟨by kernel_rfl⟩
instance tcl107 : TCells Tryz.prog 107 5 := ⟨by kernel_rfl, by decide⟩
instance tfl107x0 : TField Tryz.prog 107 0 0 9 := ⟨by kernel_rfl, kne (k := 1) (by kernel_rfl) (by decide)⟩
instance tfl107x1 : TField Tryz.prog 107 1 1 3 := ⟨by kernel_rfl, kne (k := 1) (by kernel_rfl) (by decide)⟩
instance tfl107x2 : TField Tryz.prog 107 2 2 3 := ⟨by kernel_rfl, kne (k := 1) (by kernel_rfl) (by decide)⟩
instance tfl107x3 : TField Tryz.prog 107 3 3 106 := ⟨by kernel_rfl, kne (k := 2) (by kernel_rfl) (by decide)⟩
instance tly107 : TLay Tryz.prog 107 [.str ByteArray.empty, .int .i64 0, .int .i64 0, .int .i64 0, .int .i64 0] [(0, 1), (1, 1), (2, 1), (3, 2)] := ⟨by kernel_rfl⟩
instance tze107 : TZero Tryz.prog 107 (.agg [.str ByteArray.empty, .int .i64 0, .int .i64 0, .int .i64 0, .int .i64 0]) := ⟨by kernel_rfl, rfl, by decide⟩
instance tsh108 : TSh Tryz.prog 108 (.many 5) := ⟨by kernel_rfl⟩
instance tcl108 : TCells Tryz.prog 108 5 := ⟨by kernel_rfl, by decide⟩
instance tfl108x0 : TField Tryz.prog 108 0 0 9 := ⟨by kernel_rfl, kne (k := 1) (by kernel_rfl) (by decide)⟩
instance tfl108x1 : TField Tryz.prog 108 1 1 3 := ⟨by kernel_rfl, kne (k := 1) (by kernel_rfl) (by decide)⟩
instance tfl108x2 : TField Tryz.prog 108 2 2 3 := ⟨by kernel_rfl, kne (k := 1) (by kernel_rfl) (by decide)⟩
instance tfl108x3 : TField Tryz.prog 108 3 3 106 := ⟨by kernel_rfl, kne (k := 2) (by kernel_rfl) (by decide)⟩
instance tly108 : TLay Tryz.prog 108 [.str ByteArray.empty, .int .i64 0, .int .i64 0, .int .i64 0, .int .i64 0] [(0, 1), (1, 1), (2, 1), (3, 2)] := ⟨by kernel_rfl⟩
instance tze108 : TZero Tryz.prog 108 (.agg [.str ByteArray.empty, .int .i64 0, .int .i64 0, .int .i64 0, .int .i64 0]) := ⟨by kernel_rfl, rfl, by decide⟩
instance tsh109 : TSh Tryz.prog 109 (.many 2) := ⟨by kernel_rfl⟩
instance tcl109 : TCells Tryz.prog 109 2 := ⟨by kernel_rfl, by decide⟩
instance tfl109x0 : TField Tryz.prog 109 0 0 3 := ⟨by kernel_rfl, kne (k := 1) (by kernel_rfl) (by decide)⟩
instance tfl109x1 : TField Tryz.prog 109 1 1 9 := ⟨by kernel_rfl, kne (k := 1) (by kernel_rfl) (by decide)⟩
instance tly109 : TLay Tryz.prog 109 [.int .i64 0, .str ByteArray.empty] [(0, 1), (1, 1)] := ⟨by kernel_rfl⟩
instance tze109 : TZero Tryz.prog 109 (.agg [.int .i64 0, .str ByteArray.empty]) := ⟨by kernel_rfl, rfl, by decide⟩
instance tsh110 : TSh Tryz.prog 110 (.many 2) := ⟨by kernel_rfl⟩
instance tcl110 : TCells Tryz.prog 110 2 := ⟨by kernel_rfl, by decide⟩
instance tfl110x0 : TField Tryz.prog 110 0 0 3 := ⟨by kernel_rfl, kne (k := 1) (by kernel_rfl) (by decide)⟩
instance tfl110x1 : TField Tryz.prog 110 1 1 9 := ⟨by kernel_rfl, kne (k := 1) (by kernel_rfl) (by decide)⟩
instance tly110 : TLay Tryz.prog 110 [.int .i64 0, .str ByteArray.empty] [(0, 1), (1, 1)] := ⟨by kernel_rfl⟩
instance tze110 : TZero Tryz.prog 110 (.agg [.int .i64 0, .str ByteArray.empty]) := ⟨by kernel_rfl, rfl, by decide⟩
instance tsh111 : TSh Tryz.prog 111 .one := ⟨by kernel_rfl⟩
instance tcl111 : TCells Tryz.prog 111 1 := ⟨by kernel_rfl, by decide⟩
instance tsl111 : TSlice Tryz.prog 111 110 2 := ⟨by kernel_rfl, by kernel_rfl, by decide⟩
instance tze111 : TZero Tryz.prog 111 (.nilsl) := ⟨by kernel_rfl, rfl, by decide⟩
instance tsh112 : TSh Tryz.prog 112 (.many 4) := ⟨by kernel_rfl⟩
instance tcl112 : TCells Tryz.prog 112 4 := ⟨by kernel_rfl, by decide⟩
instance tfl112x0 : TField Tryz.prog 112 0 0 9 := ⟨by kernel_rfl, kne (k := 1) (by kernel_rfl) (by decide)⟩
instance tfl112x1 : TField Tryz.prog 112 1 1 3 := ⟨by kernel_rfl, kne (k := 1) (by kernel_rfl) (by decide)⟩
instance tfl112x2 : TField Tryz.prog 112 2 2 3 := ⟨by kernel_rfl, kne (k := 1) (by kernel_rfl) (by decide)⟩
instance tfl112x3 : TField Tryz.prog 112 3 3 111 := ⟨by kernel_rfl, kne (k := 1) (by kernel_rfl) (by decide)⟩
instance tly112 : TLay Tryz.prog 112 [.str ByteArray.empty, .int .i64 0, .int .i64 0, .nilsl] [(0, 1), (1, 1), (2, 1), (3, 1)] := ⟨by kernel_rfl⟩
instance tze112 : TZero Tryz.prog 112 (.agg [.str ByteArray.empty, .int .i64 0, .int .i64 0, .nilsl]) := ⟨by kernel_rfl, rfl, by decide⟩
instance tsh113 : TSh Tryz.prog 113 (.many 4) := ⟨by kernel_rfl⟩
instance tcl113 : TCells Tryz.prog 113 4 := ⟨by kernel_rfl, by decide⟩
instance tfl113x0 : TField Tryz.prog 113 0 0 9 := ⟨by kernel_rfl, kne (k := 1) (by kernel_rfl) (by decide)⟩
instance tfl113x1 : TField Tryz.prog 113 1 1 3 := ⟨by kernel_rfl, kne (k := 1) (by kernel_rfl) (by decide)⟩
instance tfl113x2 : TField Tryz.prog 113 2 2 3 := ⟨by kernel_rfl, kne (k := 1) (by kernel_rfl) (by decide)⟩
instance tfl113x3 : TField Tryz.prog 113 3 3 111 := ⟨by kernel_rfl, kne (k := 1) (by kernel_rfl) (by decide)⟩
instance tly113 : TLay Tryz.prog 113 [.str ByteArray.empty, .int .i64 0, .int .i64 0, .nilsl] [(0, 1), (1, 1), (2, 1), (3, 1)] := ⟨by kernel_rfl⟩
instance tze113 : TZero Tryz.prog 113 (.agg [.str ByteArray.empty, .int .i64 0, .int .i64 0, .nilsl]) := ⟨by kernel_rfl, rfl, by decide⟩
instance tsh114 : TSh Tryz.prog 114 .one := ⟨by kernel_rfl⟩
instance tcl114 : TCells Tryz.prog 114 1 := ⟨by kernel_rfl, by decide⟩
instance tze114 : TZero Tryz.prog 114 (.nilfunc) := ⟨by kernel_rfl, rfl, by decide⟩
instance tsh115 : TSh Tryz.prog 115 .one := ⟨by kernel_rfl⟩
instance tcl115 : TCells Tryz.prog 115 1 := ⟨by kernel_rfl, by decide⟩
instance tze115 : TZero Tryz.prog 115 (.nilfunc) := ⟨by kernel_rfl, rfl, by decide⟩
instance tsh116 : TSh Tryz.prog 116 .one := ⟨by kernel_rfl⟩
instance tcl116 : TCells Tryz.prog 116 1 := ⟨by kernel_rfl, by decide⟩
instance tze116 : TZero Tryz.prog 116 (.nilfunc) := ⟨by kernel_rfl, rfl, by decide⟩
instance tsh117 : TSh Tryz.prog 117 .one := ⟨by kernel_rfl⟩
instance tcl117 : TCells Tryz.prog 117 1 := ⟨by kernel_rfl, by decide⟩
instance tze117 : TZero Tryz.prog 117 (.nilfunc) := ⟨by kernel_rfl, rfl, by decide⟩
instance tsh118 : TSh Tryz.prog 118 .one := ⟨by kernel_rfl⟩
instance tcl118 : TCells Tryz.prog 118 1 := ⟨by kernel_rfl, by decide⟩
instance tze118 : TZero Tryz.prog 118 (.nilfunc) := ⟨by kernel_rfl, rfl, by decide⟩
instance tsh119 : TSh Tryz.prog 119 (.many 2) := ⟨by kernel_rfl⟩
instance tcl119 : TCells Tryz.prog 119 2 := ⟨by kernel_rfl, by decide⟩
instance tfl119x0 : TField Tryz.prog 119 0 0 81 := ⟨by kernel_rfl, kne (k := 2) (by kernel_rfl) (by decide)⟩
instance tly119 : TLay Tryz.prog 119 [.nilsl, .nilsl] [(0, 2)] := ⟨by kernel_rfl⟩
instance tze119 : TZero Tryz.prog 119 (.agg [.nilsl, .nilsl]) := ⟨by kernel_rfl, rfl, by decide⟩
instance tsh120 : TSh Tryz.prog 120 (.many 2) := ⟨by kernel_rfl⟩
instance tcl120 : TCells Tryz.prog 120 2 := ⟨by kernel_rfl, by decide⟩
instance tfl120x0 : TField Tryz.prog 120 0 0 81 := ⟨by kernel_rfl, kne (k := 2) (by kernel_rfl) (by decide)⟩
instance tly120 : TLay Tryz.prog 120 [.nilsl, .nilsl] [(0, 2)] := ⟨by kernel_rfl⟩
instance tze120 : TZero Tryz.prog 120 (.agg [.nilsl, .nilsl]) := ⟨by kernel_rfl, rfl, by decide⟩
instance tsh121 : TSh Tryz.prog 121 .one := ⟨by kernel_rfl⟩
instance tcl121 : TCells Tryz.prog 121 1 := ⟨by kernel_rfl, by decide⟩
instance tze121 : TZero Tryz.prog 121 (.nilfunc) := ⟨by kernel_rfl, rfl, by decide⟩
instance tsh122 : TSh Tryz.prog 122 .one := ⟨by kernel_rfl⟩
instance tcl122 : TCells Tryz.prog 122 1 := ⟨by kernel_rfl, by decide⟩
instance tze122 : TZero Tryz.prog 122 (.nilfunc) := ⟨by kernel_rfl, rfl, by decide⟩
instance tsh123 : TSh Tryz.prog 123 .one := ⟨by kernel_rfl⟩
instance tcl123 : TCells Tryz.prog 123 1 := ⟨by kernel_rfl, by decide⟩
instance tze123 : TZero Tryz.prog 123 (.nilfunc) := ⟨by kernel_rfl, rfl, by decide⟩
instance tsh124 : TSh Tryz.prog 124 .one := ⟨by kernel_rfl⟩
instance tcl124 : TCells Tryz.prog 124 1 := ⟨by kernel_rfl, by decide⟩
instance tze124 : TZero Tryz.prog 124 (.nilfunc) := ⟨by kernel_rfl, rfl, by decide⟩
instance tsh125 : TSh Tryz.prog 125 .one := ⟨by kernel_rfl⟩
instance tcl125 : TCells Tryz.prog 125 1 := ⟨by kernel_rfl, by decide⟩
instance tze125 : TZero Tryz.prog 125 (.nilfunc) := ⟨by kernel_rfl, rfl, by decide⟩
instance tsh126 : TSh Tryz.prog 126 .one := ⟨by kernel_rfl⟩
instance tcl126 : TCells Tryz.prog 126 1 := ⟨by kernel_rfl, by decide⟩
instance tze126 : TZero Tryz.prog 126 (.nilfunc) := ⟨by kernel_rfl, rfl, by decide⟩
instance tsh127 : TSh Tryz.prog 127 .one := ⟨by kernel_rfl⟩
instance tcl127 : TCells Tryz.prog 127 1 := ⟨by kernel_rfl, by decide⟩
instance tze127 : TZero Tryz.prog 127 (.nilfunc) := ⟨by kernel_rfl, rfl, by decide⟩
instance tsh128 : TSh Tryz.prog 128 .one := ⟨by kernel_rfl⟩
instance tcl128 : TCells Tryz.prog 128 1 := ⟨by kernel_rfl, by decide⟩
instance tze128 : TZero Tryz.prog 128 (.nilfunc) := ⟨by kernel_rfl, rfl, by decide⟩
instance tsh129 : TSh Tryz.prog 129 .one := ⟨by kernel_rfl⟩
instance tcl129 : TCells Tryz.prog 129 1 := ⟨by kernel_rfl, by decide⟩
instance tze129 : TZero Tryz.prog 129 (.nilfunc) := ⟨by kernel_rfl, rfl, by decide⟩
instance tsh130 : TSh Tryz.prog 130 .one := ⟨by kernel_rfl⟩
instance tcl130 : TCells Tryz.prog 130 1 := ⟨by kernel_rfl, by decide⟩
instance tsh131 : TSh Tryz.prog 131 .one := ⟨by kernel_rfl⟩
instance tcl131 : TCells Tryz.prog 131 1 := ⟨by kernel_rfl, by decide⟩
instance tze131 : TZero Tryz.prog 131 (.nilfunc) := ⟨by kernel_rfl, rfl, by decide⟩
instance tsh132 : TSh Tryz.prog 132 .one := ⟨by kernel_rfl⟩
instance tcl132 : TCells Tryz.prog 132 1 := ⟨by kernel_rfl, by decide⟩
instance tze132 : TZero Tryz.prog 132 (.nilfunc) := ⟨by kernel_rfl, rfl, by decide⟩
instance tsh133 : TSh Tryz.prog 133 .one := ⟨by kernel_rfl⟩
instance tcl133 : TCells Tryz.prog 133 1 := ⟨by kernel_rfl, by decide⟩
instance tze133 : TZero Tryz.prog 133 (.nilfunc) := ⟨by kernel_rfl, rfl, by decide⟩
instance tsh134 : TSh Tryz.prog 134 .one := ⟨by kernel_rfl⟩
instance tcl134 : TCells Tryz.prog 134 1 := ⟨by kernel_rfl, by decide⟩
instance tze134 : TZero Tryz.prog 134 (.nilfunc) := ⟨by kernel_rfl, rfl, by decide⟩
instance tsh135 : TSh Tryz.prog 135 .one := ⟨by kernel_rfl⟩
instance tcl135 : TCells Tryz.prog 135 1 := ⟨by kernel_rfl, by decide⟩
instance tze135 : TZero Tryz.prog 135 (.nilfunc) := ⟨by kernel_rfl, rfl, by decide⟩
instance tsh136 : TSh Tryz.prog 136 .one := ⟨by kernel_rfl⟩
instance tcl136 : TCells Tryz.prog 136 1 := ⟨by kernel_rfl, by decide⟩
instance tze136 : TZero Tryz.prog 136 (.nilfunc) := ⟨by kernel_rfl, rfl, by decide⟩
instance tsh137 : TSh Tryz.prog 137 .one := ⟨by kernel_rfl⟩
instance tcl137 : TCells Tryz.prog 137 1 := ⟨by kernel_rfl, by decide⟩
instance tze137 : TZero Tryz.prog 137 (.nilfunc) := ⟨by kernel_rfl, rfl, by decide⟩
instance tsh138 : TSh Tryz.prog 138 .one := ⟨by kernel_rfl⟩
instance tcl138 : TCells Tryz.prog 138 1 := ⟨by kernel_rfl, by decide⟩
instance tze138 : TZero Tryz.prog 138 (.nilfunc) := ⟨by kernel_rfl, rfl, by decide⟩
instance tsh139 : TSh Tryz.prog 139 .one := ⟨by kernel_rfl⟩
instance tcl139 : TCells Tryz.prog 139 1 := ⟨by kernel_rfl, by decide⟩
instance tze139 : TZero Tryz.prog 139 (.nilfunc) := ⟨by kernel_rfl, rfl, by decide⟩
instance tsh140 : TSh Tryz.prog 140 .one := ⟨by kernel_rfl⟩
instance tcl140 : TCells Tryz.prog 140 1 := ⟨by kernel_rfl, by decide⟩
instance tze140 : TZero Tryz.prog 140 (.nilfunc) := ⟨by kernel_rfl, rfl, by decide⟩
instance tsh141 : TSh Tryz.prog 141 .one := ⟨by kernel_rfl⟩
instance tcl141 : TCells Tryz.prog 141 1 := ⟨by kernel_rfl, by decide⟩
instance tze141 : TZero Tryz.prog 141 (.nilfunc) := ⟨by kernel_rfl, rfl, by decide⟩
instance tsh142 : TSh Tryz.prog 142 .one := ⟨by kernel_rfl⟩
instance tcl142 : TCells Tryz.prog 142 1 := ⟨by kernel_rfl, by decide⟩
instance tze142 : TZero Tryz.prog 142 (.nilfunc) := ⟨by kernel_rfl, rfl, by decide⟩
instance tsh143 : TSh Tryz.prog 143 (.many 2) := ⟨by kernel_rfl⟩
instance tcl143 : TCells Tryz.prog 143 2 := ⟨by kernel_rfl, by decide⟩
instance tfl143x0 : TField Tryz.prog 143 0 0 31 := ⟨by kernel_rfl, kne (k := 1) (by kernel_rfl) (by decide)⟩
instance tfl143x1 : TField Tryz.prog 143 1 1 142 := ⟨by kernel_rfl, kne (k := 1) (by kernel_rfl) (by decide)⟩
instance tly143 : TLay Tryz.prog 143 [.int .i64 0, .nilfunc] [(0, 1), (1, 1)] := ⟨by kernel_rfl⟩
instance tze143 : TZero Tryz.prog 143 (.agg [.int .i64 0, .nilfunc]) := ⟨by kernel_rfl, rfl, by decide⟩
instance tsh144 : TSh Tryz.prog 144 (.many 2) := ⟨by kernel_rfl⟩
instance tcl144 : TCells Tryz.prog 144 2 := ⟨by kernel_rfl, by decide⟩
instance tfl144x0 : TField Tryz.prog 144 0 0 31 := ⟨by kernel_rfl, kne (k := 1) (by kernel_rfl) (by decide)⟩
instance tfl144x1 : TField Tryz.prog 144 1 1 142 := ⟨by kernel_rfl, kne (k := 1) (by kernel_rfl) (by decide)⟩
instance tly144 : TLay Tryz.prog 144 [.int .i64 0, .nilfunc] [(0, 1), (1, 1)] := ⟨by kernel_rfl⟩
instance tze144 : TZero Tryz.prog 144 (.agg [.int .i64 0, .nilfunc]) := ⟨by kernel_rfl, rfl, by decide⟩
instance tsh145 : TSh Tryz.prog 145 (.many 8) := ⟨by kernel_rfl⟩
instance tcl145 : TCells Tryz.prog 145 8 := ⟨by kernel_rfl, by decide⟩
instance tze145 : TZero Tryz.prog 145 (.agg [.int .i64 0, .nilfunc, .int .i64 0, .nilfunc, .int .i64 0, .nilfunc, .int .i64 0, .nilfunc]) := ⟨by kernel_rfl, rfl, by decide⟩
instance tsh146 : TSh Tryz.prog 146 .one := ⟨by kernel_rfl⟩
instance tcl146 : TCells Tryz.prog 146 1 := ⟨by kernel_rfl, by decide⟩
instance tze146 : TZero Tryz.prog 146 (.nilfunc) := ⟨by kernel_rfl, rfl, by decide⟩
instance tsh147 : TSh Tryz.prog 147 .one := ⟨by kernel_rfl⟩
instance tcl147 : TCells Tryz.prog 147 1 := ⟨by kernel_rfl, by decide⟩
instance tze147 : TZero Tryz.prog 147 (.nilfunc) := ⟨by kernel_rfl, rfl, by decide⟩
instance tsh148 : TSh Tryz.prog 148 .one := ⟨by kernel_rfl⟩
instance tcl148 : TCells Tryz.prog 148 1 := ⟨by kernel_rfl, by decide⟩
instance tze148 : TZero Tryz.prog 148 (.nilfunc) := ⟨by kernel_rfl, rfl, by decide⟩
instance tsh149 : TSh Tryz.prog 149 .one := ⟨by kernel_rfl⟩
instance tcl149 : TCells Tryz.prog 149 1 := ⟨by kernel_rfl, by decide⟩
instance tze149 : TZero Tryz.prog 149 (.nilfunc) := ⟨by kernel_rfl, rfl, by decide⟩
instance tsh150 : TSh Tryz.prog 150 .one := ⟨by kernel_rfl⟩
instance tcl150 : TCells Tryz.prog 150 1 := ⟨by kernel_rfl, by decide⟩
instance tze150 : TZero Tryz.prog 150 (.nilfunc) := ⟨by kernel_rfl, rfl, by decide⟩
instance tsh151 : TSh Tryz.prog 151 .one := ⟨by kernel_rfl⟩
instance tcl151 : TCells Tryz.prog 151 1 := ⟨by kernel_rfl, by decide⟩
instance tze151 : TZero Tryz.prog 151 (.nilfunc) := ⟨by kernel_rfl, rfl, by decide⟩
instance tsh152 : TSh Tryz.prog 152 .one := ⟨by kernel_rfl⟩
instance tcl152 : TCells Tryz.prog 152 1 := ⟨by kernel_rfl, by decide⟩
instance tsh153 : TSh Tryz.prog 153 (.many 7) := ⟨by kernel_rfl⟩
instance tcl153 : TCells Tryz.prog 153 7 := ⟨by kernel_rfl, by decide⟩
instance tfl153x0 : TField Tryz.prog 153 0 0 28 := ⟨by kernel_rfl, kne (k := 6) (by kernel_rfl) (by decide)⟩
instance tfl153x1 : TField Tryz.prog 153 1 6 26 := ⟨by kernel_rfl, kne (k := 1) (by kernel_rfl) (by decide)⟩
instance tly153 : TLay Tryz.prog 153 [.int .i64 0, .int .i64 0, .int .i64 0, .int .i64 0, .int .i64 0, .nilsl, .nilsl] [(0, 6), (6, 1)] := ⟨by kernel_rfl⟩
instance tze153 : TZero Tryz.prog 153 (.agg [.int .i64 0, .int .i64 0, .int .i64 0, .int .i64 0, .int .i64 0, .nilsl, .nilsl]) := ⟨by kernel_rfl, rfl, by decide⟩
instance tsh154 : TSh Tryz.prog 154 (.many 7) := ⟨by kernel_rfl⟩
instance tcl154 : TCells Tryz.prog 154 7 := ⟨by kernel_rfl, by decide⟩
instance tfl154x0 : TField Tryz.prog 154 0 0 28 := ⟨by kernel_rfl, kne (k := 6) (by kernel_rfl) (by decide)⟩
instance tfl154x1 : TField Tryz.prog 154 1 6 26 := ⟨by kernel_rfl, kne (k := 1) (by kernel_rfl) (by decide)⟩
instance tly154 : TLay Tryz.prog 154 [.int .i64 0, .int .i64 0, .int .i64 0, .int .i64 0, .int .i64 0, .nilsl, .nilsl] [(0, 6), (6, 1)] := ⟨by kernel_rfl⟩
instance tze154 : TZero Tryz.prog 154 (.agg [.int .i64 0, .int .i64 0, .int .i64 0, .int .i64 0, .int .i64 0, .nilsl, .nilsl]) := ⟨by kernel_rfl, rfl, by decide⟩
instance tsh155 : TSh Tryz.prog 155 .one := ⟨by kernel_rfl⟩
instance tcl155 : TCells Tryz.prog 155 1 := ⟨by kernel_rfl, by decide⟩
instance tze155 : TZero Tryz.prog 155 (.nilfunc) := ⟨by kernel_rfl, rfl, by decide⟩
instance tsh156 : TSh Tryz.prog 156 .one := ⟨by kernel_rfl⟩
instance tcl156 : TCells Tryz.prog 156 1 := ⟨by kernel_rfl, by decide⟩
instance tze156 : TZero Tryz.prog 156 (.nilfunc) := ⟨by kernel_rfl, rfl, by decide⟩
instance tsh157 : TSh Tryz.prog 157 .one := ⟨by kernel_rfl⟩
instance tcl157 : TCells Tryz.prog 157 1 := ⟨by kernel_rfl, by decide⟩
instance tze157 : TZero Tryz.prog 157 (.nilfunc) := ⟨by kernel_rfl, rfl, by decide⟩
instance tsh158 : TSh Tryz.prog 158 .one := ⟨by kernel_rfl⟩
instance tcl158 : TCells Tryz.prog 158 1 := ⟨by kernel_rfl, by decide⟩
instance tze158 : TZero Tryz.prog 158 (.nilfunc) := ⟨by kernel_rfl, rfl, by decide⟩
instance tsh159 : TSh Tryz.prog 159 .one := ⟨by kernel_rfl⟩
instance tcl159 : TCells Tryz.prog 159 1 := ⟨by kernel_rfl, by decide⟩
instance tze159 : TZero Tryz.prog 159 (.nilfunc) := ⟨by kernel_rfl, rfl, by decide⟩
instance tsh160 : TSh Tryz.prog 160 .one := ⟨by kernel_rfl⟩
instance tcl160 : TCells Tryz.prog 160 1 := ⟨by kernel_rfl, by decide⟩
instance tze160 : TZero Tryz.prog 160 (.nilfunc) := ⟨by kernel_rfl, rfl, by decide⟩
instance tsh161 : TSh Tryz.prog 161 .one := ⟨by kernel_rfl⟩
instance tcl161 : TCells Tryz.prog 161 1 := ⟨by kernel_rfl, by decide⟩
instance tze161 : TZero Tryz.prog 161 (.nilfunc) := ⟨by kernel_rfl, rfl, by decide⟩
instance tsh162 : TSh Tryz.prog 162 .one := ⟨by kernel_rfl⟩
instance tcl162 : TCells Tryz.prog 162 1 := ⟨by kernel_rfl, by decide⟩
instance tze162 : TZero Tryz.prog 162 (.nilfunc) := ⟨by kernel_rfl, rfl, by decide⟩
instance tsh163 : TSh Tryz.prog 163 .one := ⟨by kernel_rfl⟩
instance tcl163 : TCells Tryz.prog 163 1 := ⟨by kernel_rfl, by decide⟩
instance tze163 : TZero Tryz.prog 163 (.nilfunc) := ⟨by kernel_rfl, rfl, by decide⟩
instance tsh164 : TSh Tryz.prog 164 .one := ⟨by kernel_rfl⟩
instance tcl164 : TCells Tryz.prog 164 1 := ⟨by kernel_rfl, by decide⟩
instance tze164 : TZero Tryz.prog 164 (.nilfunc) := ⟨by kernel_rfl, rfl, by decide⟩
instance tsh165 : TSh Tryz.prog 165 .one := ⟨by kernel_rfl⟩
instance tcl165 : TCells Tryz.prog 165 1 := ⟨by kernel_rfl, by decide⟩
instance tze165 : TZero Tryz.prog 165 (.nilfunc) := ⟨by kernel_rfl, rfl, by decide⟩
instance tsh166 : TSh Tryz.prog 166 .one := ⟨by kernel_rfl⟩
instance tcl166 : TCells Tryz.prog 166 1 := ⟨by kernel_rfl, by decide⟩
instance tze166 : TZero Tryz.prog 166 (.nilfunc) := ⟨by kernel_rfl, rfl, by decide⟩
instance tsh167 : TSh Tryz.prog 167 .one := ⟨by kernel_rfl⟩
instance tcl167 : TCells Tryz.prog 167 1 := ⟨by kernel_rfl, by decide⟩
instance tsl167 : TSlice Tryz.prog 167 28 6 := ⟨by kernel_rfl, by kernel_rfl, by decide⟩
instance tze167 : TZero Tryz.prog 167 (.nilsl) := ⟨by kernel_rfl, rfl, by decide⟩
instance tsh168 : TSh Tryz.prog 168 .one := ⟨by kernel_rfl⟩
instance tcl168 : TCells Tryz.prog 168 1 := ⟨by kernel_rfl, by decide⟩
instance tze168 : TZero Tryz.prog 168 (.nilfunc) := ⟨by kernel_rfl, rfl, by decide⟩
instance tsh169 : TSh Tryz.prog 169 .one := ⟨by kernel_rfl⟩
instance tcl169 : TCells Tryz.prog 169 1 := ⟨by kernel_rfl, by decide⟩
instance tsh170 : TSh Tryz.prog 170 .one := ⟨by kernel_rfl⟩
instance tcl170 : TCells Tryz.prog 170 1 := ⟨by kernel_rfl, by decide⟩
instance tze170 : TZero Tryz.prog 170 (.nilfunc) := ⟨by kernel_rfl, rfl, by decide⟩
instance tsh171 : TSh Tryz.prog 171 .one := ⟨by kernel_rfl⟩
instance tcl171 : TCells Tryz.prog 171 1 := ⟨by kernel_rfl, by decide⟩
instance tze171 : TZero Tryz.prog 171 (.nilfunc) := ⟨by kernel_rfl, rfl, by decide⟩
instance tsh172 : TSh Tryz.prog 172 .one := ⟨by kernel_rfl⟩
instance tcl172 : TCells Tryz.prog 172 1 := ⟨by kernel_rfl, by decide⟩
instance tze172 : TZero Tryz.prog 172 (.nilfunc) := ⟨by kernel_rfl, rfl, by decide⟩
instance tsh173 : TSh Tryz.prog 173 .one := ⟨by kernel_rfl⟩
instance tcl173 : TCells Tryz.prog 173 1 := ⟨by kernel_rfl, by decide⟩
instance tze173 : TZero Tryz.prog 173 (.nilfunc) := ⟨by kernel_rfl, rfl, by decide⟩
instance tsh174 : TSh Tryz.prog 174 .one := ⟨by kernel_rfl⟩
instance tcl174 : TCells Tryz.prog 174 1 := ⟨by kernel_rfl, by decide⟩
instance tze174 : TZero Tryz.prog 174 (.int .u64 0) := ⟨by kernel_rfl, rfl, by decide⟩
instance tsh175 : TSh Tryz.prog 175 .one := ⟨by kernel_rfl⟩
instance tcl175 : TCells Tryz.prog 175 1 := ⟨by kernel_rfl, by decide⟩
instance tze175 : TZero Tryz.prog 175 (.nilfunc) := ⟨by kernel_rfl, rfl, by decide⟩
instance tsh176 : TSh Tryz.prog 176 .one := ⟨by kernel_rfl⟩
instance tcl176 : TCells Tryz.prog 176 1 := ⟨by kernel_rfl, by decide⟩
instance tze176 : TZero Tryz.prog 176 (.nilfunc) := ⟨by kernel_rfl, rfl, by decide⟩
instance tsh177 : TSh Tryz.prog 177 .one := ⟨by kernel_rfl⟩
instance tcl177 : TCells Tryz.prog 177 1 := ⟨by kernel_rfl, by decide⟩
instance tze177 : TZero Tryz.prog 177 (.nilfunc) := ⟨by kernel_rfl, rfl, by decide⟩
instance tsh178 : TSh Tryz.prog 178 .one := ⟨by kernel_rfl⟩
instance tcl178 : TCells Tryz.prog 178 1 := ⟨by kernel_rfl, by decide⟩
instance tze178 : TZero Tryz.prog 178 (.nilfunc) := ⟨by kernel_rfl, rfl, by decide⟩
instance tsh179 : TSh Tryz.prog 179 .one := ⟨by kernel_rfl⟩
instance tcl179 : TCells Tryz.prog 179 1 := ⟨by kernel_rfl, by decide⟩
instance tze179 : TZero Tryz.prog 179 (.nilfunc) := ⟨by kernel_rfl, rfl, by decide⟩
instance tsh180 : TSh Tryz.prog 180 .one := ⟨by kernel_rfl⟩
instance tcl180 : TCells Tryz.prog 180 1 := ⟨by kernel_rfl, by decide⟩
instance tze180 : TZero Tryz.prog 180 (.nilfunc) := ⟨by kernel_rfl, rfl, by decide⟩
instance tsh181 : TSh Tryz.prog 181 .one := ⟨by kernel_rfl⟩
instance tcl181 : TCells Tryz.prog 181 1 := ⟨by kernel_rfl, by decide⟩
instance tze181 : TZero Tryz.prog 181 (.nilfunc) := ⟨by kernel_rfl, rfl, by decide⟩
instance tsh182 : TSh Tryz.prog 182 .one := ⟨by kernel_rfl⟩
instance tcl182 : TCells Tryz.prog 182 1 := ⟨by kernel_rfl, by decide⟩
instance tze182 : TZero Tryz.prog 182 (.nilfunc) := ⟨by kernel_rfl, rfl, by decide⟩
instance tsh183 : TSh Tryz.prog 183 .one := ⟨by kernel_rfl⟩
instance tcl183 : TCells Tryz.prog 183 1 := ⟨by kernel_rfl, by decide⟩
instance tze183 : TZero Tryz.prog 183 (.nilfunc) := ⟨by kernel_rfl, rfl, by decide⟩
instance tsh184 : TSh Tryz.prog 184 .one := ⟨by kernel_rfl⟩
instance tcl184 : TCells Tryz.prog 184 1 := ⟨by kernel_rfl, by decide⟩
instance tze184 : TZero Tryz.prog 184 (.int .i64 0) := ⟨by kernel_rfl, rfl, by decide⟩
instance tsh185 : TSh Tryz.prog 185 .one := ⟨by kernel_rfl⟩
instance tcl185 : TCells Tryz.prog 185 1 := ⟨by kernel_rfl, by decide⟩
instance tsh186 : TSh Tryz.prog 186 .one := ⟨by kernel_rfl⟩
instance tcl186 : TCells Tryz.prog 186 1 := ⟨by kernel_rfl, by decide⟩
instance tze186 : TZero Tryz.prog 186 (.nilfunc) := ⟨by kernel_rfl, rfl, by decide⟩
instance tsh187 : TSh Tryz.prog 187 .one := ⟨by kernel_rfl⟩
instance tcl187 : TCells Tryz.prog 187 1 := ⟨by kernel_rfl, by decide⟩
instance tze187 : TZero Tryz.prog 187 (.nilfunc) := ⟨by kernel_rfl, rfl, by decide⟩
instance tsh188 : TSh Tryz.prog 188 .one := ⟨by kernel_rfl⟩
instance tcl188 : TCells Tryz.prog 188 1 := ⟨by kernel_rfl, by decide⟩
instance tze188 : TZero Tryz.prog 188 (.nilfunc) := ⟨by kernel_rfl, rfl, by decide⟩
instance tsh189 : TSh Tryz.prog 189 .one := ⟨by kernel_rfl⟩
instance tcl189 : TCells Tryz.prog 189 1 := ⟨by kernel_rfl, by decide⟩
instance tze189 : TZero Tryz.prog 189 (.nilfunc) := ⟨by kernel_rfl, rfl, by decide⟩
instance tsh190 : TSh Tryz.prog 190 .one := ⟨by kernel_rfl⟩
instance tcl190 : TCells Tryz.prog 190 1 := ⟨by kernel_rfl, by decide⟩
instance tze190 : TZero Tryz.prog 190 (.nilfunc) := ⟨by kernel_rfl, rfl, by decide⟩
instance tsh191 : TSh Tryz.prog 191 .one := ⟨by kernel_rfl⟩
instance tcl191 : TCells Tryz.prog 191 1 := ⟨by kernel_rfl, by decide⟩
instance tze191 : TZero Tryz.prog 191 (.nilfunc) := ⟨by kernel_rfl, rfl, by decide⟩
instance tsh192 : TSh Tryz.prog 192 .one := ⟨by kernel_rfl⟩
instance tcl192 : TCells Tryz.prog 192 1 := ⟨by kernel_rfl, by decide⟩
instance tze192 : TZero Tryz.prog 192 (.int .u32 0) := ⟨by kernel_rfl, rfl, by decide⟩
instance tsh193 : TSh Tryz.prog 193 .one := ⟨by kernel_rfl⟩
instance tcl193 : TCells Tryz.prog 193 1 := ⟨by kernel_rfl, by decide⟩
instance tze193 : TZero Tryz.prog 193 (.nilfunc) := ⟨by kernel_rfl, rfl, by decide⟩
instance tsh194 : TSh Tryz.prog 194 .one := ⟨by kernel_rfl⟩
instance tcl194 : TCells Tryz.prog 194 1 := ⟨by kernel_rfl, by decide⟩
instance tze194 : TZero Tryz.prog 194 (.int .u64 0) := ⟨by kernel_rfl, rfl, by decide⟩
instance tsh195 : TSh Tryz.prog 195 .one := ⟨by kernel_rfl⟩
instance tcl195 : TCells Tryz.prog 195 1 := ⟨by kernel_rfl, by decide⟩
instance tze195 : TZero Tryz.prog 195 (.nilfunc) := ⟨by kernel_rfl, rfl, by decide⟩
instance tsh196 : TSh Tryz.prog 196 .one := ⟨by kernel_rfl⟩
instance tcl196 : TCells Tryz.prog 196 1 := ⟨by kernel_rfl, by decide⟩
instance tze196 : TZero Tryz.prog 196 (.nilfunc) := ⟨by kernel_rfl, rfl, by decide⟩
instance tsh197 : TSh Tryz.prog 197 .one := ⟨by kernel_rfl⟩
instance tcl197 : TCells Tryz.prog 197 1 := ⟨by kernel_rfl, by decide⟩
instance tze197 : TZero Tryz.prog 197 (.nilfunc) := ⟨by kernel_rfl, rfl, by decide⟩
instance tsh198 : TSh Tryz.prog 198 .one := ⟨by kernel_rfl⟩
instance tcl198 : TCells Tryz.prog 198 1 := ⟨by kernel_rfl, by decide⟩
instance tze198 : TZero Tryz.prog 198 (.nilfunc) := ⟨by kernel_rfl, rfl, by decide⟩
instance tsh199 : TSh Tryz.prog 199 .one := ⟨by kernel_rfl⟩
instance tcl199 : TCells Tryz.prog 199 1 := ⟨by kernel_rfl, by decide⟩
instance tze199 : TZero Tryz.prog 199 (.nilfunc) := ⟨by kernel_rfl, rfl, by decide⟩
instance tsh200 : TSh Tryz.prog 200 .one := ⟨by kernel_rfl⟩
instance tcl200 : TCells Tryz.prog 200 1 := ⟨by kernel_rfl, by decide⟩
instance tze200 : TZero Tryz.prog 200 (.int .u64 0) := ⟨by kernel_rfl, rfl, by decide⟩
instance tsh201 : TSh Tryz.prog 201 .one := ⟨by kernel_rfl⟩
instance tcl201 : TCells Tryz.prog 201 1 := ⟨by kernel_rfl, by decide⟩
instance tze201 : TZero Tryz.prog 201 (.nilfunc) := ⟨by kernel_rfl, rfl, by decide⟩
instance tsh202 : TSh Tryz.prog 202 .one := ⟨by kernel_rfl⟩
instance tcl202 : TCells Tryz.prog 202 1 := ⟨by kernel_rfl, by decide⟩
instance tze202 : TZero Tryz.prog 202 (.nilfunc) := ⟨by kernel_rfl, rfl, by decide⟩
instance tsh203 : TSh Tryz.prog 203 .one := ⟨by kernel_rfl⟩
instance tcl203 : TCells Tryz.prog 203 1 := ⟨by kernel_rfl, by decide⟩
instance tze203 : TZero Tryz.prog 203 (.nilfunc) := ⟨by kernel_rfl, rfl, by decide⟩
instance tsh204 : TSh Tryz.prog 204 .one := ⟨by kernel_rfl⟩
instance tcl204 : TCells Tryz.prog 204 1 := ⟨by kernel_rfl, by decide⟩
instance tze204 : TZero Tryz.prog 204 (.nilptr) := ⟨by kernel_rfl, rfl, by decide⟩
instance tsh205 : TSh Tryz.prog 205 .one := ⟨by kernel_rfl⟩
instance tcl205 : TCells Tryz.prog 205 1 := ⟨by kernel_rfl, by decide⟩
instance tze205 : TZero Tryz.prog 205 (.nilfunc) := ⟨by kernel_rfl, rfl, by decide⟩
instance tsh206 : TSh Tryz.prog 206 .one := ⟨by kernel_rfl⟩
instance tcl206 : TCells Tryz.prog 206 1 := ⟨by kernel_rfl, by decide⟩
instance tze206 : TZero Tryz.prog 206 (.nilptr) := ⟨by kernel_rfl, rfl, by decide⟩
instance tsh207 : TSh Tryz.prog 207 .one := ⟨by kernel_rfl⟩
instance tcl207 : TCells Tryz.prog 207 1 := ⟨by kernel_rfl, by decide⟩
instance tze207 : TZero Tryz.prog 207 (.nilfunc) := ⟨by kernel_rfl, rfl, by decide⟩
instance tsh208 : TSh Tryz.prog 208 .one := ⟨by kernel_rfl⟩
instance tcl208 : TCells Tryz.prog 208 1 := ⟨by kernel_rfl, by decide⟩
instance tze208 : TZero Tryz.prog 208 (.nilfunc) := ⟨by kernel_rfl, rfl, by decide⟩
instance tsh209 : TSh Tryz.prog 209 (.many 4) := ⟨by kernel_rfl⟩
instance tcl209 : TCells Tryz.prog 209 4 := ⟨by kernel_rfl, by decide⟩
instance tfl209x0 : TField Tryz.prog 209 0 0 17 := ⟨by kernel_rfl, kne (k := 1) (by kernel_rfl) (by decide)⟩
instance tfl209x1 : TField Tryz.prog 209 1 1 17 := ⟨by kernel_rfl, kne (k := 1) (by kernel_rfl) (by decide)⟩
instance tfl209x2 : TField Tryz.prog 209 2 2 17 := ⟨by kernel_rfl, kne (k := 1) (by kernel_rfl) (by decide)⟩
instance tfl209x3 : TField Tryz.prog 209 3 3 9 := ⟨by kernel_rfl, kne (k := 1) (by kernel_rfl) (by decide)⟩
instance tly209 : TLay Tryz.prog 209 [.nilptr, .nilptr, .nilptr, .str ByteArray.empty] [(0, 1), (1, 1), (2, 1), (3, 1)] := ⟨by kernel_rfl⟩
instance tze209 : TZero Tryz.prog 209 (.agg [.nilptr, .nilptr, .nilptr, .str ByteArray.empty]) := ⟨by kernel_rfl, rfl, by decide⟩
instance tsh210 : TSh Tryz.prog 210 (.many 4) := ⟨by kernel_rfl⟩
instance tcl210 : TCells Tryz.prog 210 4 := ⟨by kernel_rfl, by decide⟩
instance tfl210x0 : TField Tryz.prog 210 0 0 17 := ⟨by kernel_rfl, kne (k := 1) (by kernel_rfl) (by decide)⟩
instance tfl210x1 : TField Tryz.prog 210 1 1 17 := ⟨by kernel_rfl, kne (k := 1) (by kernel_rfl) (by decide)⟩
instance tfl210x2 : TField Tryz.prog 210 2 2 17 := ⟨by kernel_rfl, kne (k := 1) (by kernel_rfl) (by decide)⟩
instance tfl210x3 : TField Tryz.prog 210 3 3 9 := ⟨by kernel_rfl, kne (k := 1) (by kernel_rfl) (by decide)⟩
instance tly210 : TLay Tryz.prog 210 [.nilptr, .nilptr, .nilptr, .str ByteArray.empty] [(0, 1), (1, 1), (2, 1), (3, 1)] := ⟨by kernel_rfl⟩
instance tze210 : TZero Tryz.prog 210 (.agg [.nilptr, .nilptr, .nilptr, .str ByteArray.empty]) := ⟨by kernel_rfl, rfl, by decide⟩
instance tsh214 : TSh Tryz.prog 214 .one := ⟨by kernel_rfl⟩
instance tcl214 : TCells Tryz.prog 214 1 := ⟨by kernel_rfl, by decide⟩
instance tze214 : TZero Tryz.prog 214 (.nilfunc) := ⟨by kernel_rfl, rfl, by decide⟩
instance tsh215 : TSh Tryz.prog 215 .one := ⟨by kernel_rfl⟩
instance tcl215 : TCells Tryz.prog 215 1 := ⟨by kernel_rfl, by decide⟩
instance tze215 : TZero Tryz.prog 215 (.int .u8 0) := ⟨by kernel_rfl, rfl, by decide⟩
instance tsh216 : TSh Tryz.prog 216 .one := ⟨by kernel_rfl⟩
instance tcl216 : TCells Tryz.prog 216 1 := ⟨by kernel_rfl, by decide⟩
instance tze216 : TZero Tryz.prog 216 (.int .u8 0) := ⟨by kernel_rfl, rfl, by decide⟩
instance tsh217 : TSh Tryz.prog 217 .one := ⟨by kernel_rfl⟩
instance tcl217 : TCells Tryz.prog 217 1 := ⟨by kernel_rfl, by decide⟩
instance tze217 : TZero Tryz.prog 217 (.nilfunc) := ⟨by kernel_rfl, rfl, by decide⟩
instance tsh218 : TSh Tryz.prog 218 .one := ⟨by kernel_rfl⟩
instance tcl218 : TCells Tryz.prog 218 1 := ⟨by kernel_rfl, by decide⟩
instance tze218 : TZero Tryz.prog 218 (.nilptr) := ⟨by kernel_rfl, rfl, by decide⟩
instance tsh219 : TSh Tryz.prog 219 .one := ⟨by kernel_rfl⟩
instance tcl219 : TCells Tryz.prog 219 1 := ⟨by kernel_rfl, by decide⟩
instance tze219 : TZero Tryz.prog 219 (.int .i32 0) := ⟨by kernel_rfl, rfl, by decide⟩
instance tsh220 : TSh Tryz.prog 220 .one := ⟨by kernel_rfl⟩
instance tcl220 : TCells Tryz.prog 220 1 := ⟨by kernel_rfl, by decide⟩
instance tze220 : TZero Tryz.prog 220 (.int .i32 0) := ⟨by kernel_rfl, rfl, by decide⟩
instance tsh221 : TSh Tryz.prog 221 (.many 11) := ⟨by kernel_rfl⟩
instance tcl221 : TCells Tryz.prog 221 11 := ⟨by kernel_rfl, by decide⟩
instance tfl221x0 : TField Tryz.prog 221 0 0 12 := ⟨by kernel_rfl, kne (k := 1) (by kernel_rfl) (by decide)⟩
instance tfl221x1 : TField Tryz.prog 221 1 1 12 := ⟨by kernel_rfl, kne (k := 1) (by kernel_rfl) (by decide)⟩
instance tfl221x2 : TField Tryz.prog 221 2 2 192 := ⟨by kernel_rfl, kne (k := 1) (by kernel_rfl) (by decide)⟩
instance tfl221x3 : TField Tryz.prog 221 3 3 215 := ⟨by kernel_rfl, kne (k := 1) (by kernel_rfl) (by decide)⟩
instance tfl221x4 : TField Tryz.prog 221 4 4 5 := ⟨by kernel_rfl, kne (k := 1) (by kernel_rfl) (by decide)⟩
instance tfl221x5 : TField Tryz.prog 221 5 5 5 := ⟨by kernel_rfl, kne (k := 1) (by kernel_rfl) (by decide)⟩
instance tfl221x6 : TField Tryz.prog 221 6 6 216 := ⟨by kernel_rfl, kne (k := 1) (by kernel_rfl) (by decide)⟩
instance tfl221x7 : TField Tryz.prog 221 7 7 217 := ⟨by kernel_rfl, kne (k := 1) (by kernel_rfl) (by decide)⟩
instance tfl221x8 : TField Tryz.prog 221 8 8 218 := ⟨by kernel_rfl, kne (k := 1) (by kernel_rfl) (by decide)⟩
instance tfl221x9 : TField Tryz.prog 221 9 9 219 := ⟨by kernel_rfl, kne (k := 1) (by kernel_rfl) (by decide)⟩
instance tfl221x10 : TField Tryz.prog 221 10 10 220 := ⟨by kernel_rfl, kne (k := 1) (by kernel_rfl) (by decide)⟩
instance tly221 : TLay Tryz.prog 221 [.int .u64 0, .int .u64 0, .int .u32 0, .int .u8 0, .int .u8 0, .int .u8 0, .int .u8 0, .nilfunc, .nilptr, .int .i32 0, .int .i32 0] [(0, 1), (1, 1), (2, 1), (3, 1), (4, 1), (5, 1), (6, 1), (7, 1), (8, 1), (9, 1), (10, 1)] := ⟨by kernel_rfl⟩
instance tze221 : TZero Tryz.prog 221 (.agg [.int .u64 0, .int .u64 0, .int .u32 0, .int .u8 0, .int .u8 0, .int .u8 0, .int .u8 0, .nilfunc, .nilptr, .int .i32 0, .int .i32 0]) := ⟨by kernel_rfl, rfl, by decide⟩
instance tsh222 : TSh Tryz.prog 222 (.many 11) := ⟨by kernel_rfl⟩
instance tcl222 : TCells Tryz.prog 222 11 := ⟨by kernel_rfl, by decide⟩
instance tfl222x0 : TField Tryz.prog 222 0 0 12 := ⟨by kernel_rfl, kne (k := 1) (by kernel_rfl) (by decide)⟩
instance tfl222x1 : TField Tryz.prog 222 1 1 12 := ⟨by kernel_rfl, kne (k := 1) (by kernel_rfl) (by decide)⟩
instance tfl222x2 : TField Tryz.prog 222 2 2 192 := ⟨by kernel_rfl, kne (k := 1) (by kernel_rfl) (by decide)⟩
instance tfl222x3 : TField Tryz.prog 222 3 3 215 := ⟨by kernel_rfl, kne (k := 1) (by kernel_rfl) (by decide)⟩
instance tfl222x4 : TField Tryz.prog 222 4 4 5 := ⟨by kernel_rfl, kne (k := 1) (by kernel_rfl) (by decide)⟩
instance tfl222x5 : TField Tryz.prog 222 5 5 5 := ⟨by kernel_rfl, kne (k := 1) (by kernel_rfl) (by decide)⟩
instance tfl222x6 : TField Tryz.prog 222 6 6 216 := ⟨by kernel_rfl, kne (k := 1) (by kernel_rfl) (by decide)⟩
instance tfl222x7 : TField Tryz.prog 222 7 7 217 := ⟨by kernel_rfl, kne (k := 1) (by kernel_rfl) (by decide)⟩
instance tfl222x8 : TField Tryz.prog 222 8 8 218 := ⟨by kernel_rfl, kne (k := 1) (by kernel_rfl) (by decide)⟩
instance tfl222x9 : TField Tryz.prog 222 9 9 219 := ⟨by kernel_rfl, kne (k := 1) (by kernel_rfl) (by decide)⟩
instance tfl222x10 : TField Tryz.prog 222 10 10 220 := ⟨by kernel_rfl, kne (k := 1) (by kernel_rfl) (by decide)⟩
instance tly222 : TLay Tryz.prog 222 [.int .u64 0, .int .u64 0, .int .u32 0, .int .u8 0, .int .u8 0, .int .u8 0, .int .u8 0, .nilfunc, .nilptr, .int .i32 0, .int .i32 0] [(0, 1), (1, 1), (2, 1), (3, 1), (4, 1), (5, 1), (6, 1), (7, 1), (8, 1), (9, 1), (10, 1)] := ⟨by kernel_rfl⟩
instance tze222 : TZero Tryz.prog 222 (.agg [.int .u64 0, .int .u64 0, .int .u32 0, .int .u8 0, .int .u8 0, .int .u8 0, .int .u8 0, .nilfunc, .nilptr, .int .i32 0, .int .i32 0]) := ⟨by kernel_rfl, rfl, by decide⟩
instance tsh223 : TSh Tryz.prog 223 .one := ⟨by kernel_rfl⟩
instance tcl223 : TCells Tryz.prog 223 1 := ⟨by kernel_rfl, by decide⟩
instance tze223 : TZero Tryz.prog 223 (.nilptr) := ⟨by kernel_rfl, rfl, by decide⟩
instance teq23 : TEq Tryz.prog 23 [.i, .i] := ⟨by kernel_rfl⟩
instance teq48 : TEq Tryz.prog 48 [.i, .i, .i] := ⟨by kernel_rfl⟩
instance teq57 : TEq Tryz.prog 57 [.s, .s, .i, .i, .i, .i, .i] := ⟨by kernel_rfl⟩
instance teq106 : TEq Tryz.prog 106 [.i, .i] := ⟨by kernel_rfl⟩
instance teq110 : TEq Tryz.prog 110 [.i, .s] := ⟨by kernel_rfl⟩
instance tar145 : TArr Tryz.prog 145 4 2 := ⟨144, by kernel_rfl, by kernel_rfl, by decide⟩
instance tae145 : TArrE Tryz.prog 145 4 144 2 := ⟨by kernel_rfl, by kernel_rfl, by decide⟩
instance tly145 : TLay Tryz.prog 145 [.int .i64 0, .nilfunc, .int .i64 0, .nilfunc, .int .i64 0, .nilfunc, .int .i64 0, .nilfunc] [(0, 2), (2, 2), (4, 2), (6, 2)] := ⟨by kernel_rfl⟩
instance tar211 : TArr Tryz.prog 211 0 1 := ⟨16, by kernel_rfl, by kernel_rfl, by decide⟩
instance tae211 : TArrE Tryz.prog 211 0 16 1 := ⟨by kernel_rfl, by kernel_rfl, by decide⟩
instance tly211 : TLay Tryz.prog 211 [] [] := ⟨by kernel_rfl⟩
end Go.Pv.Tf

open Go Go.Proofs Go.Pv
set_option maxHeartbeats 1000000
set_option maxRecDepth 100000
set_option linter.unusedSimpArgs false
set_option linter.unusedVariables false
namespace Go.Pv.Soil

theorem mix : Tryz.prog.follows .mixedOrders = true := by decide +kernel

theorem c38 (n lo hi : Int) : Contract Tryz.prog 47 [.int .i64 n, .int .i64 lo, .int .i64 hi] (.ret (.bool (decide (lo ≤ n ∧ n ≤ hi)))) := by
  refine contract_of mix Tryz.func47 rfl rfl (by rw [Tryz.ntmps47]; exact Nat.le_of_ble_eq_true rfl) ?_; rw [Tryz.results47, Tryz.ntmps47]; simp only [argsE, Nat.reduceAdd]
  repeat' first
           | (with_reducible apply go_op)
           | (with_reducible apply go_next)
           | ((with_reducible (show evOp _ _ _ _ _ _)); first
             | ((with_reducible (show evOp _ (.move _) _ _ _ _)) ; first | ((with_reducible apply go_mv_int); rfl; rfl) | ((with_reducible apply go_mv_bool); rfl; rfl))
             | ((with_reducible apply go_as))
             | (((with_reducible apply go_cmp); rfl; rfl; rfl; rfl))
             | (((with_reducible apply go_pick); rfl; rfl; rfl)))
           | ((with_reducible (show evOps _ _ _ _ _ _)); first
             | (with_reducible apply go_nil)
             | ((with_reducible apply go_run); rfl; rfl)
             | ((with_reducible apply go_pass); rfl; rfl; rfl)
             | (((with_reducible apply go_guard); rfl) <;> (intro h; simp only [h, Bool.not_true, Bool.not_false]; (try with_reducible (refine ⟨rfl, ?_⟩)); try simp only [decide_eq_true_eq, decide_eq_false_iff_not, Bool.not_eq_true', Bool.not_eq_false', Bool.not_true, Bool.not_false] at h; try exact absurd trivial h)))
           | ((with_reducible (show evG _ _ _ _ _)); first
             | (with_reducible apply go_seq)
             | (with_reducible apply go_region)
             | (with_reducible apply go_ret))
           | (with_reducible apply go_kseq)
           | ((with_reducible apply end_bool); rfl)
  all_goals (simp at *; try omega)
theorem c108 (n lo hi : Int) : Contract Tryz.prog 43 [.int .i64 n, .int .i64 lo, .int .i64 hi] (.ret (.bool (decide (lo ≤ n ∧ n ≤ hi)))) := by
  refine contract_of mix Tryz.func43 rfl rfl (by rw [Tryz.ntmps43]; exact Nat.le_of_ble_eq_true rfl) ?_; rw [Tryz.results43, Tryz.ntmps43]; simp only [argsE, Nat.reduceAdd]
  repeat' first
           | (with_reducible apply go_op)
           | (with_reducible apply go_next)
           | ((with_reducible (show evOp _ _ _ _ _ _)); first
             | ((with_reducible (show evOp _ (.move _) _ _ _ _)) ; first | ((with_reducible apply go_mv_int); rfl; rfl) | ((with_reducible apply go_mv_bool); rfl; rfl))
             | ((with_reducible apply go_as))
             | (((with_reducible apply go_cmp); rfl; rfl; rfl; rfl))
             | (((with_reducible apply go_pick); rfl; rfl; rfl)))
           | ((with_reducible (show evOps _ _ _ _ _ _)); first
             | (with_reducible apply go_nil)
             | ((with_reducible apply go_run); rfl; rfl)
             | ((with_reducible apply go_pass); rfl; rfl; rfl)
             | (((with_reducible apply go_guard); rfl) <;> (intro h; simp only [h, Bool.not_true, Bool.not_false]; (try with_reducible (refine ⟨rfl, ?_⟩)); try simp only [decide_eq_true_eq, decide_eq_false_iff_not, Bool.not_eq_true', Bool.not_eq_false', Bool.not_true, Bool.not_false] at h; try exact absurd trivial h)))
           | ((with_reducible (show evG _ _ _ _ _)); first
             | (with_reducible apply go_seq)
             | (with_reducible apply go_region)
             | (with_reducible apply go_ret))
           | (with_reducible apply go_kseq)
           | ((with_reducible apply end_bool); rfl)
  all_goals (simp at *; try omega)

def letter (c : Int) : Bool := decide ((97 ≤ c ∧ c ≤ 122) ∨ (65 ≤ c ∧ c ≤ 90))
def chOK (i : Nat) (c : Int) : Bool := letter c || (decide (i ≠ 0) && decide (c = 45 ∨ (48 ≤ c ∧ c ≤ 57)))
def nameOK (s : ByteArray) : Bool := decide (1 ≤ s.size ∧ s.size ≤ 12) && (List.range s.size).all fun i => chOK i (byteAt s i)

theorem nameOK_size {s : ByteArray} (h : s.size < 1 ∨ 12 < s.size) : false = nameOK s := by
  have : decide (1 ≤ s.size ∧ s.size ≤ 12) = false := by simp; omega
  simp only [nameOK, this, Bool.false_and]

theorem nameOK_not {s : ByteArray} {i : Nat} (hi : i < s.size) (h : chOK i (byteAt s i) = false) : false = nameOK s := by
  have : ((List.range s.size).all fun i => chOK i (byteAt s i)) = false := by
    rw [List.all_eq_false]
    exact ⟨i, by simpa using hi, by simp [h]⟩
  simp only [nameOK, this, Bool.and_false]

theorem nameOK_yes {s : ByteArray} (h1 : ¬ s.size < 1) (h2 : ¬ 12 < s.size) (h : ∀ j, j < s.size → chOK j (byteAt s j) = true) : true = nameOK s := by
  have e : ((List.range s.size).all fun i => chOK i (byteAt s i)) = true := by
    rw [List.all_eq_true]
    exact fun j hj => h j (by simpa using hj)
  have e2 : decide (1 ≤ s.size ∧ s.size ≤ 12) = true := by simp; omega
  simp only [nameOK, e, e2, Bool.and_true]

theorem chars_step {s : ByteArray} {i : Nat} (hC : ∀ j, j < i → chOK j (byteAt s j) = true) (h : chOK i (byteAt s i) = true) : ∀ j, j < i + 1 → chOK j (byteAt s j) = true := fun j hj => by
  rcases Nat.lt_succ_iff_lt_or_eq.1 hj with h' | rfl
  · exact hC j h'
  · exact h

theorem chOK_yes {i : Nat} {c : Int} (h : ((97 ≤ c ∧ c ≤ 122) ∨ (65 ≤ c ∧ c ≤ 90)) ∨ (i ≠ 0 ∧ (c = 45 ∨ (48 ≤ c ∧ c ≤ 57)))) : chOK i c = true := by
  simpa only [chOK, letter, Bool.or_eq_true, Bool.and_eq_true, decide_eq_true_eq] using h
theorem chOK_no {i : Nat} {c : Int} (h : ¬ (((97 ≤ c ∧ c ≤ 122) ∨ (65 ≤ c ∧ c ≤ 90)) ∨ (i ≠ 0 ∧ (c = 45 ∨ (48 ≤ c ∧ c ≤ 57))))) : chOK i c = false := by
  rw [← Bool.not_eq_true]
  simpa only [chOK, letter, Bool.or_eq_true, Bool.and_eq_true, decide_eq_true_eq] using h

theorem c137 (s : ByteArray) : Contract Tryz.prog 40 [.str s] (.ret (.bool (nameOK s))) := by
  refine contract_of mix Tryz.func40 rfl rfl (by rw [Tryz.ntmps40]; exact Nat.le_of_ble_eq_true rfl) ?_; rw [Tryz.results40, Tryz.ntmps40]; simp only [argsE, Nat.reduceAdd]
  repeat' first
           | (with_reducible apply go_op)
           | (with_reducible apply go_next)
           | ((with_reducible (show evOp _ _ _ _ _ _)); first
             | ((with_reducible (show evOp _ (.move _) _ _ _ _)) ; first | ((with_reducible apply go_mv_int); rfl; rfl) | ((with_reducible apply go_mv_bool); rfl; rfl) | ((with_reducible apply go_mv_str); rfl; rfl))
             | ((with_reducible apply go_as))
             | (((with_reducible apply go_cmp); rfl; rfl; rfl; rfl))
             | (((with_reducible apply go_len_str); rfl; rfl))
             | (((with_reducible apply go_pick); rfl; rfl; rfl)))
           | ((with_reducible (show evOps _ _ _ _ _ _)); first
             | (with_reducible apply go_nil)
             | ((with_reducible apply go_run); rfl; rfl)
             | ((with_reducible apply go_pass); rfl; rfl; rfl)
             | (((with_reducible apply go_guard); rfl) <;> (intro h; simp only [h, Bool.not_true, Bool.not_false]; (try with_reducible (refine ⟨rfl, ?_⟩)); try simp only [decide_eq_true_eq, decide_eq_false_iff_not, Bool.not_eq_true', Bool.not_eq_false', Bool.not_true, Bool.not_false] at h; try exact absurd trivial h)))
           | ((with_reducible (show evG _ _ _ _ _)); first
             | (with_reducible apply go_seq)
             | (with_reducible apply go_region)
             | ((with_reducible apply go_cond_t); rfl; rfl)
             | (((with_reducible apply go_cond); rfl) <;> (intro h; simp only [h]; try simp only [decide_eq_true_eq, decide_eq_false_iff_not, Bool.not_eq_true', Bool.not_eq_false', Bool.not_true, Bool.not_false] at h; try exact absurd trivial h))
             | (with_reducible apply go_ret)
             | (with_reducible apply go_skipc)
             | (with_reducible apply go_block))
           | (with_reducible apply go_kseq)
           | (with_reducible apply go_kseq_ret)
           | ((with_reducible apply end_bool); rfl)
  · exact nameOK_size (by omega)
  rotate_left
  · exact nameOK_size (by omega)
  · refine go_count s.size (fun i => ⟨[(16, .int .i64 i), (15, .int .i64 s.size), (0, .str s)], [], 0, 55⟩) (fun i => ∀ j, j < i → chOK j (byteAt s j) = true) (entails_eq (k := 0) (ns := []) (ks := [16, 15, 0]) [] rfl (by simp) rfl) (by omega) ?_
    intro i hi hC
    repeat' first
           | (with_reducible apply go_op)
           | (with_reducible apply go_next)
           | ((with_reducible (show evOp _ _ _ _ _ _)); first
             | ((with_reducible (show evOp _ (.move _) _ _ _ _)) ; first | ((with_reducible apply go_mv_int); rfl; rfl) | ((with_reducible apply go_mv_bool); rfl; rfl) | ((with_reducible apply go_mv_str); rfl; rfl))
             | ((with_reducible apply go_as))
             | ((with_reducible (show evOp _ (.binOp _ _ _ _ _) _ _ _ _)) ; first | ((with_reducible apply go_cmp); rfl; rfl; rfl; rfl) | ((with_reducible apply go_add); rfl; rfl; rfl; omega))
             | (((with_reducible apply go_index_str); rfl; rfl; rfl; omega))
             | (((with_reducible apply go_not); rfl; rfl))
             | (((with_reducible apply go_pick); rfl; rfl; rfl)))
           | ((with_reducible (show evOps _ _ _ _ _ _)); first
             | (with_reducible apply go_nil)
             | ((with_reducible apply go_run); rfl; rfl)
             | ((with_reducible apply go_pass); rfl; rfl; rfl)
             | ((with_reducible apply go_skip); rfl; rfl)
             | (((with_reducible apply go_guard); rfl) <;> (intro h; simp only [h, Bool.not_true, Bool.not_false]; (try with_reducible (refine ⟨rfl, ?_⟩)); try simp only [decide_eq_true_eq, decide_eq_false_iff_not, Bool.not_eq_true', Bool.not_eq_false', Bool.not_true, Bool.not_false] at h; try exact absurd trivial h)))
           | ((with_reducible (show evG _ _ _ _ _)); first
             | (with_reducible apply go_seq)
             | (with_reducible apply go_region)
             | ((with_reducible apply go_cond_t); rfl; rfl)
             | ((with_reducible apply go_cond_f); rfl; rfl)
             | (((with_reducible apply go_cond); rfl) <;> (intro h; simp only [h]; try simp only [decide_eq_true_eq, decide_eq_false_iff_not, Bool.not_eq_true', Bool.not_eq_false', Bool.not_true, Bool.not_false] at h; try exact absurd trivial h))
             | (with_reducible apply go_ret)
             | (with_reducible apply go_skipc)
             | (with_reducible apply go_block)
             | (with_reducible apply go_exit))
           | (with_reducible apply go_kseq)
           | (with_reducible apply go_kseq_ret)
           | (with_reducible apply go_kblock)
           | (with_reducible apply go_kblock_ret)
           | (with_reducible apply go_kblock_exit)
           | (with_reducible apply go_kseq_exit)
           | ((with_reducible apply end_bool); rfl)
    all_goals try simp only [Int.toNat_natCast] at *
    all_goals first
      | exact nameOK_not (i := i) (by omega) (chOK_no (by omega))
      | exact ⟨by omega, chars_step hC (chOK_yes (by omega)), entails_eq (k := 0) (ns := []) (ks := [16, 15, 0]) [] rfl (by simp) rfl⟩
      | exact nameOK_yes (by omega) (by omega) fun j hj => hC j (by omega)
theorem c83 (s : ByteArray) : Contract Tryz.prog 44 [.str s] (.ret (.bool (nameOK s))) := by
  refine contract_of mix Tryz.func44 rfl rfl (by rw [Tryz.ntmps44]; exact Nat.le_of_ble_eq_true rfl) ?_; rw [Tryz.results44, Tryz.ntmps44]; simp only [argsE, Nat.reduceAdd]
  repeat' first
           | (with_reducible apply go_op)
           | (with_reducible apply go_next)
           | ((with_reducible (show evOp _ _ _ _ _ _)); first
             | ((with_reducible (show evOp _ (.move _) _ _ _ _)) ; first | ((with_reducible apply go_mv_int); rfl; rfl) | ((with_reducible apply go_mv_bool); rfl; rfl) | ((with_reducible apply go_mv_str); rfl; rfl))
             | ((with_reducible apply go_as))
             | (((with_reducible apply go_cmp); rfl; rfl; rfl; rfl))
             | (((with_reducible apply go_len_str); rfl; rfl))
             | (((with_reducible apply go_pick); rfl; rfl; rfl)))
           | ((with_reducible (show evOps _ _ _ _ _ _)); first
             | (with_reducible apply go_nil)
             | ((with_reducible apply go_run); rfl; rfl)
             | ((with_reducible apply go_pass); rfl; rfl; rfl)
             | (((with_reducible apply go_guard); rfl) <;> (intro h; simp only [h, Bool.not_true, Bool.not_false]; (try with_reducible (refine ⟨rfl, ?_⟩)); try simp only [decide_eq_true_eq, decide_eq_false_iff_not, Bool.not_eq_true', Bool.not_eq_false', Bool.not_true, Bool.not_false] at h; try exact absurd trivial h)))
           | ((with_reducible (show evG _ _ _ _ _)); first
             | (with_reducible apply go_seq)
             | (with_reducible apply go_region)
             | ((with_reducible apply go_cond_t); rfl; rfl)
             | (((with_reducible apply go_cond); rfl) <;> (intro h; simp only [h]; try simp only [decide_eq_true_eq, decide_eq_false_iff_not, Bool.not_eq_true', Bool.not_eq_false', Bool.not_true, Bool.not_false] at h; try exact absurd trivial h))
             | (with_reducible apply go_ret)
             | (with_reducible apply go_skipc)
             | (with_reducible apply go_block))
           | (with_reducible apply go_kseq)
           | (with_reducible apply go_kseq_ret)
           | ((with_reducible apply end_bool); rfl)
  · exact nameOK_size (by omega)
  rotate_left
  · exact nameOK_size (by omega)
  · refine go_count s.size (fun i => ⟨[(3, .int .i64 i), (0, .str s)], [], 0, 55⟩) (fun i => ∀ j, j < i → chOK j (byteAt s j) = true) (entails_eq (k := 0) (ns := []) (ks := [3, 0]) [] rfl (by simp) rfl) (by omega) ?_
    intro i hi hC
    repeat' first
           | (with_reducible apply go_op)
           | (with_reducible apply go_next)
           | ((with_reducible (show evOp _ _ _ _ _ _)); first
             | ((with_reducible (show evOp _ (.move _) _ _ _ _)) ; first | ((with_reducible apply go_mv_int); rfl; rfl) | ((with_reducible apply go_mv_bool); rfl; rfl) | ((with_reducible apply go_mv_str); rfl; rfl))
             | ((with_reducible apply go_as))
             | ((with_reducible (show evOp _ (.binOp _ _ _ _ _) _ _ _ _)) ; first | ((with_reducible apply go_cmp); rfl; rfl; rfl; rfl) | ((with_reducible apply go_add); rfl; rfl; rfl; omega))
             | (((with_reducible apply go_len_str); rfl; rfl))
             | (((with_reducible apply go_index_str); rfl; rfl; rfl; omega))
             | (((with_reducible apply go_not); rfl; rfl))
             | (((with_reducible apply go_pick); rfl; rfl; rfl)))
           | ((with_reducible (show evOps _ _ _ _ _ _)); first
             | (with_reducible apply go_nil)
             | ((with_reducible apply go_run); rfl; rfl)
             | ((with_reducible apply go_pass); rfl; rfl; rfl)
             | ((with_reducible apply go_skip); rfl; rfl)
             | (((with_reducible apply go_guard); rfl) <;> (intro h; simp only [h, Bool.not_true, Bool.not_false]; (try with_reducible (refine ⟨rfl, ?_⟩)); try simp only [decide_eq_true_eq, decide_eq_false_iff_not, Bool.not_eq_true', Bool.not_eq_false', Bool.not_true, Bool.not_false] at h; try exact absurd trivial h)))
           | ((with_reducible (show evG _ _ _ _ _)); first
             | (with_reducible apply go_seq)
             | (with_reducible apply go_region)
             | ((with_reducible apply go_cond_t); rfl; rfl)
             | ((with_reducible apply go_cond_f); rfl; rfl)
             | (((with_reducible apply go_cond); rfl) <;> (intro h; simp only [h]; try simp only [decide_eq_true_eq, decide_eq_false_iff_not, Bool.not_eq_true', Bool.not_eq_false', Bool.not_true, Bool.not_false] at h; try exact absurd trivial h))
             | (with_reducible apply go_ret)
             | (with_reducible apply go_skipc)
             | (with_reducible apply go_block)
             | (with_reducible apply go_exit))
           | (with_reducible apply go_kseq)
           | (with_reducible apply go_kseq_ret)
           | (with_reducible apply go_kblock)
           | (with_reducible apply go_kblock_ret)
           | (with_reducible apply go_kblock_exit)
           | (with_reducible apply go_kseq_exit)
           | ((with_reducible apply end_bool); rfl)
    all_goals try simp only [Int.toNat_natCast] at *
    all_goals first
      | exact nameOK_not (i := i) (by omega) (chOK_no (by omega))
      | exact ⟨by omega, chars_step hC (chOK_yes (by omega)), entails_eq (k := 0) (ns := []) (ks := [3, 0]) [] rfl (by simp) rfl⟩
      | exact nameOK_yes (by omega) (by omega) fun j hj => hC j (by omega)
end Go.Pv.Soil

open Go Go.Proofs Go.Pv
set_option maxHeartbeats 1000000
set_option maxRecDepth 100000
set_option linter.unusedSimpArgs false
set_option linter.unusedVariables false
namespace Go.Pv.Soil
structure Soil where
  name : ByteArray
  a : Int
  b : Int
  r : Int
  h : Int

def encSoil (x : Soil) : List D := [.str x.name, .int .i64 x.a, .int .i64 x.b, .int .i64 x.r, .int .i64 x.h]

def idxOf {α : Type} (p : α → Bool) (l : List α) : Int := match l.findIdx? p with
  | some i => i
  | none => -1

theorem idxOf_none {α : Type} {p : α → Bool} {l : List α} (h : ∀ x ∈ l, p x = false) : idxOf p l = -1 := by
  have : l.findIdx? p = none := by simpa using h
  rw [idxOf, this]
theorem idxOf_some {α : Type} {p : α → Bool} {l : List α} {i : Nat} (hi : i < l.length) (h : p l[i] = true) (hb : ∀ j (hj : j < i), p (l[j]'(by omega)) = false) : idxOf p l = i := by
  have : l.findIdx? p = some i := by
    rw [List.findIdx?_eq_some_iff_getElem]
    exact ⟨hi, h, fun j hj => by simpa using hb j hj⟩
  rw [idxOf, this]

theorem c150 (l : List Soil) (hl : l.length < 1000000000000) (g : FuncId) (ys : List D) (hst : Stab ys) (hpu : pureL ys = true) (p : Soil → Bool) (hf : ∀ x ∈ l, Contract Tryz.prog g (.agg (encSoil x) :: ys) (.ret (.bool (p x)))) :
    Contract Tryz.prog 171 [.sl (l.map encSoil), .clo (.func g) [] ys] (.ret (.int .i64 (idxOf p l))) := by
  refine contract_of mix Tryz.func171 rfl rfl (by rw [Tryz.ntmps171]; exact Nat.le_of_ble_eq_true rfl) ?_; rw [Tryz.results171, Tryz.ntmps171]; simp only [argsE, Nat.reduceAdd]
  repeat' first
           | (with_reducible apply go_op)
           | (with_reducible apply go_next)
           | ((with_reducible (show evOp _ _ _ _ _ _)); first
             | ((with_reducible (show evOp _ (.move _) _ _ _ _)) ; first | ((with_reducible apply go_mv_int); rfl; rfl) | ((with_reducible apply go_mv_sl); rfl; rfl))
             | ((with_reducible apply go_as))
             | (((with_reducible apply go_len); rfl; rfl)))
           | ((with_reducible (show evOps _ _ _ _ _ _)); first
             | (with_reducible apply go_nil))
           | ((with_reducible (show evG _ _ _ _ _)); first
             | (with_reducible apply go_seq)
             | (with_reducible apply go_region)
             | (with_reducible apply go_block))
           | (with_reducible apply go_kseq)
  have e8 : ∀ i : Nat, (⟨[(8, .int .i64 i), (7, .int .i64 l.length), (0, .sl (l.map encSoil)), (1, .clo (.func g) [] (renL [] ys))], [], 0, 19⟩ : St) = ⟨[(8, .int .i64 i), (7, .int .i64 l.length), (0, .sl (l.map encSoil)), (1, .clo (.func g) [] ys)], [], 0, 19⟩ := fun i => by rw [renL_pure hpu]
  refine go_count l.length (fun i => ⟨[(8, .int .i64 i), (7, .int .i64 l.length), (0, .sl (l.map encSoil)), (1, .clo (.func g) [] ys)], [], 0, 19⟩) (fun i => ∀ j (hj : j < i) (hj' : j < l.length), p l[j] = false) (entails_eq (k := 0) (ns := []) (ks := [8, 7, 0, 1]) [] rfl (by simp) (e8 _)) (by omega) ?_
  intro i hi hC
  repeat' first
           | (with_reducible apply go_op)
           | (with_reducible apply go_next)
           | ((with_reducible (show evOp _ _ _ _ _ _)); first
             | ((with_reducible (show evOp _ (.move _) _ _ _ _)) ; first | ((with_reducible apply go_mv_int); rfl; rfl) | ((with_reducible apply go_mv_sl); rfl; rfl) | ((with_reducible apply go_mv_clo); rfl; rfl))
             | ((with_reducible apply go_as))
             | (((with_reducible apply go_load); rfl; rfl; rfl))
             | (((with_reducible apply go_index); rfl; rfl; (intro; rfl); rfl; omega; intro hlt))
             | (((with_reducible apply go_cmp); rfl; rfl; rfl; rfl)))
           | ((with_reducible (show evOps _ _ _ _ _ _)); first
             | (with_reducible apply go_nil))
           | ((with_reducible (show evG _ _ _ _ _)); first
             | (with_reducible apply go_seq)
             | (with_reducible apply go_region)
             | (((with_reducible apply go_cond); rfl) <;> (intro h; simp only [h]; try simp only [decide_eq_true_eq, decide_eq_false_iff_not, Bool.not_eq_true', Bool.not_eq_false', Bool.not_true, Bool.not_false] at h; try exact absurd trivial h))
             | (with_reducible apply go_ret)
             | (with_reducible apply go_skipc)
             | (with_reducible apply go_block)
             | (with_reducible apply go_exit))
           | (with_reducible apply go_kseq)
           | (with_reducible apply go_kblock_exit)
           | (with_reducible apply go_kseq_exit)
           | ((with_reducible apply end_int); rfl)
  · refine go_clo_bool rfl rfl hst (hf l[i] (List.getElem_mem _)) rfl ?_
    repeat' first
           | (with_reducible apply go_op)
           | (with_reducible apply go_next)
           | ((with_reducible (show evOp _ _ _ _ _ _)); first
             | (((with_reducible apply go_mv_int); rfl; rfl))
             | ((with_reducible apply go_as))
             | (((with_reducible apply go_add); rfl; rfl; rfl; omega)))
           | ((with_reducible (show evOps _ _ _ _ _ _)); first
             | (with_reducible apply go_nil))
           | ((with_reducible (show evG _ _ _ _ _)); first
             | (with_reducible apply go_seq)
             | (with_reducible apply go_region)
             | (((with_reducible apply go_cond); rfl) <;> (intro h; simp only [h]; try simp only [decide_eq_true_eq, decide_eq_false_iff_not, Bool.not_eq_true', Bool.not_eq_false', Bool.not_true, Bool.not_false] at h; try exact absurd trivial h))
             | (with_reducible apply go_ret)
             | (with_reducible apply go_skipc))
           | (with_reducible apply go_kseq)
           | (with_reducible apply go_kseq_ret)
           | (with_reducible apply go_kblock)
           | (with_reducible apply go_kblock_ret)
           | ((with_reducible apply end_int); rfl)
    · have h2 : i < l.length := by omega
      exact (idxOf_some h2 h fun j hj => hC j hj (by omega)).symm
    · have h2 : i < l.length := by omega
      refine ⟨by omega, fun j hj hj' => ?_, entails_eq (k := 0) (ns := []) (ks := [8, 7, 0, 1]) [] rfl (by simp) (e8 _)⟩
      rcases Nat.lt_succ_iff_lt_or_eq.1 hj with h' | rfl
      · exact hC j h' hj'
      · exact h
  · refine (idxOf_none fun x hx => ?_).symm
    obtain ⟨j, hj, rfl⟩ := List.mem_iff_getElem.1 hx
    exact hC j (by omega) hj

theorem idxOf_ge {α : Type} {p : α → Bool} {l : List α} : decide (0 ≤ idxOf p l) = l.any p := by
  unfold idxOf
  cases h : l.findIdx? p with
  | none =>
    have : l.any p = false := by
      rw [List.findIdx?_eq_none_iff] at h
      rw [List.any_eq_false]
      intro x hx
      simp [h x hx]
    rw [this]; rfl
  | some i =>
    have : l.any p = true := by
      rw [List.findIdx?_eq_some_iff_getElem] at h
      obtain ⟨hi, hp, _⟩ := h
      rw [List.any_eq_true]
      exact ⟨_, List.getElem_mem hi, hp⟩
    rw [this]
    simp

theorem c138 (l : List Soil) (hl : l.length < 1000000000000) (g : FuncId) (ys : List D) (hst : Stab ys) (hpu : pureL ys = true) (p : Soil → Bool) (hf : ∀ x ∈ l, Contract Tryz.prog g (.agg (encSoil x) :: ys) (.ret (.bool (p x)))) :
    Contract Tryz.prog 168 [.sl (l.map encSoil), .clo (.func g) [] ys] (.ret (.bool (l.any p))) := by
  refine contract_of mix Tryz.func168 rfl rfl (by rw [Tryz.ntmps168]; exact Nat.le_of_ble_eq_true rfl) ?_; rw [Tryz.results168, Tryz.ntmps168]; simp only [argsE, Nat.reduceAdd]
  repeat' first
           | (with_reducible apply go_op)
           | (with_reducible apply go_next)
           | ((with_reducible (show evOp _ _ _ _ _ _)); first
             | ((with_reducible (show evOp _ (.move _) _ _ _ _)) ; first | ((with_reducible apply go_mv_bool); rfl; rfl) | ((with_reducible apply go_mv_sl); rfl; rfl) | ((with_reducible apply go_mv_clo); rfl; rfl))
             | ((with_reducible apply go_as)))
           | ((with_reducible (show evOps _ _ _ _ _ _)); first
             | (with_reducible apply go_nil))
           | ((with_reducible (show evG _ _ _ _ _)); first
             | (with_reducible apply go_seq)
             | (with_reducible apply go_region))
           | (with_reducible apply go_kseq)
  refine go_fn_int (args' := [.sl (l.map encSoil), .clo (.func g) [] ys]) ?_ (c150 l hl g ys hst hpu p hf) rfl ?_
  · have e := hst (lkH []) 45
    simp only [List.map_cons, List.map_nil, evalD, lkE, purL, pur, Option.bind_some, Option.map_some, Nat.reduceEqDiff, if_true, if_false, e]
  repeat' first
           | (with_reducible apply go_op)
           | (with_reducible apply go_next)
           | ((with_reducible (show evOp _ _ _ _ _ _)); first
             | (((with_reducible apply go_mv_bool); rfl; rfl))
             | ((with_reducible apply go_as))
             | (((with_reducible apply go_cmp); rfl; rfl; rfl; rfl)))
           | ((with_reducible (show evOps _ _ _ _ _ _)); first
             | (with_reducible apply go_nil))
           | ((with_reducible (show evG _ _ _ _ _)); first
             | (with_reducible apply go_ret))
           | (with_reducible apply go_kseq)
           | ((with_reducible apply end_bool); rfl)
  exact idxOf_ge

theorem c81 (x : Soil) : Contract Tryz.prog 149 [.agg (encSoil x)] (.ret (.str x.name)) := by
  refine contract_of mix Tryz.func149 rfl rfl (by rw [Tryz.ntmps149]; exact Nat.le_of_ble_eq_true rfl) ?_; rw [Tryz.results149, Tryz.ntmps149]; simp only [argsE, Nat.reduceAdd]
  repeat' first
           | (with_reducible apply go_op)
           | (with_reducible apply go_next)
           | ((with_reducible (show evOp _ _ _ _ _ _)); first
             | (((with_reducible apply go_mv_str); rfl; rfl))
             | ((with_reducible apply go_as))
             | (((with_reducible apply go_load_own); rfl; rfl; rfl; rfl))
             | (((with_reducible apply go_fieldAddr_own); rfl; rfl; rfl))
             | (((with_reducible apply go_bx_agg); rfl; rfl; (exact Nat.le_of_ble_eq_true rfl); rfl; rfl)))
           | ((with_reducible (show evOps _ _ _ _ _ _)); first
             | (with_reducible apply go_nil))
           | ((with_reducible (show evG _ _ _ _ _)); first
             | (with_reducible apply go_seq)
             | (with_reducible apply go_region)
             | (with_reducible apply go_ret))
           | (with_reducible apply go_kseq)
           | ((with_reducible apply end_str); rfl)
           | (with_reducible rfl)

theorem c139 (x : Soil) (s nm : ByteArray) (g : FuncId) (hn : Contract Tryz.prog g [.agg (encSoil x)] (.ret (.str nm))) : Contract Tryz.prog 169 [.agg (encSoil x), .ptr [.clo (.func g) [] []], .ptr [.str s]] (.ret (.bool (decide (nm = s)))) := by
  refine contract_of mix Tryz.func169 rfl rfl (by rw [Tryz.ntmps169]; exact Nat.le_of_ble_eq_true rfl) ?_; rw [Tryz.results169, Tryz.ntmps169]; simp only [argsE, Nat.reduceAdd]
  repeat' first
           | (with_reducible apply go_op)
           | (with_reducible apply go_next)
           | ((with_reducible (show evOp _ _ _ _ _ _)); first
             | (((with_reducible apply go_mv_bool); rfl; rfl))
             | ((with_reducible apply go_as))
             | ((with_reducible (show evOp _ (.load _ _) _ _ _ _)) ; first | ((with_reducible apply go_load); rfl; rfl; rfl) | ((with_reducible apply go_load_own); rfl; rfl; rfl; rfl))
             | (((with_reducible apply go_bx_agg); rfl; rfl; (exact Nat.le_of_ble_eq_true rfl); rfl; rfl)))
           | ((with_reducible (show evOps _ _ _ _ _ _)); first
             | (with_reducible apply go_nil)
             | ((with_reducible apply go_pre); rfl))
           | ((with_reducible (show evG _ _ _ _ _)); first
             | (with_reducible apply go_seq)
             | (with_reducible apply go_region)
             | ((with_reducible apply go_order); kernel_rfl; rfl))
           | (with_reducible apply go_kseq)
  refine go_clo_str (d1 := .agg (encSoil x)) rfl rfl (fun _ _ => rfl) hn rfl ?_
  repeat' first
           | (with_reducible apply go_op)
           | (with_reducible apply go_next)
           | ((with_reducible (show evOp _ _ _ _ _ _)); first
             | (((with_reducible apply go_mv_bool); rfl; rfl))
             | ((with_reducible apply go_as))
             | (((with_reducible apply go_load); rfl; rfl; rfl))
             | (((with_reducible apply go_bin); rfl; rfl)))
           | ((with_reducible (show evOps _ _ _ _ _ _)); first
             | (with_reducible apply go_nil)
             | ((with_reducible apply go_pre); rfl)
             | (with_reducible apply go_pre_nil)
             | ((with_reducible apply go_suf); rfl)
             | (with_reducible apply go_suf_nil))
           | ((with_reducible (show evG _ _ _ _ _)); first
             | (with_reducible apply go_ret))
           | (with_reducible apply go_kseq)
           | (with_reducible apply go_ksuf)
           | ((with_reducible apply end_bool); rfl)
           | (with_reducible rfl)

/-- The first of n numbers that is not 0. -/
def firstE : Nat → (Nat → Int) → Int
  | 0, _ => 0
  | n + 1, f => if f 0 = 0 then firstE n (fun i => f (i + 1)) else f 0

theorem firstE_at : ∀ {n : Nat} {f : Nat → Int} {i : Nat}, i < n → (∀ j, j < i → f j = 0) → f i ≠ 0 → firstE n f = f i
  | n + 1, f, 0, _, _, h => by simp [firstE, h]
  | n + 1, f, i + 1, hi, hb, h => by
    simp only [firstE, hb 0 (by omega), if_true]
    exact firstE_at (f := fun i => f (i + 1)) (by omega) (fun j hj => hb (j + 1) (by omega)) h

theorem firstE_zero : ∀ {n : Nat} {f : Nat → Int}, (∀ j, j < n → f j = 0) → firstE n f = 0
  | 0, _, _ => rfl
  | n + 1, f, h => by
    simp only [firstE, h 0 (by omega), if_true]
    exact firstE_zero fun j hj => h (j + 1) (by omega)

def stepE {α : Type} (nm : α → ByteArray) (er : α → Int) (l : List α) (i : Nat) : Int :=
  match l[i]? with
  | none => 0
  | some x => if nameOK (nm x) = false then 4 else if ((l.take i).any fun y => decide (nm y = nm x)) = true then 5 else er x

def eachE {α : Type} (nm : α → ByteArray) (er : α → Int) (l : List α) : Int := firstE l.length (stepE nm er l)

theorem each_at {α : Type} {nm : α → ByteArray} {er : α → Int} {l : List α} {i : Nat} {e : Int} (hi : i < l.length) (hC : ∀ j, j < i → stepE nm er l j = 0) (h : stepE nm er l i = e) (he : e ≠ 0) : e = eachE nm er l := by
  subst h
  exact (firstE_at hi hC he).symm

theorem c80 (l : List Soil) (hl : l.length < 1000000000000) (g g' : FuncId) (nm : Soil → ByteArray) (er : Soil → Int) (hn : ∀ x, Contract Tryz.prog g [.agg (encSoil x)] (.ret (.str (nm x)))) (he : ∀ x, Contract Tryz.prog g' [.agg (encSoil x)] (.ret (.int .i64 (er x)))) :
    Contract Tryz.prog 148 [.sl (l.map encSoil), .clo (.func g) [] [], .clo (.func g') [] []] (.ret (.int .i64 (eachE nm er l))) := by
  refine contract_of mix Tryz.func148 rfl rfl (by rw [Tryz.ntmps148]; exact Nat.le_of_ble_eq_true rfl) ?_; rw [Tryz.results148, Tryz.ntmps148]; simp only [argsE, Nat.reduceAdd]
  repeat' first
           | (with_reducible apply go_op)
           | (with_reducible apply go_next)
           | ((with_reducible (show evOp _ _ _ _ _ _)); first
             | ((with_reducible (show evOp _ (.move _) _ _ _ _)) ; first | ((with_reducible apply go_mv_int); rfl; rfl) | ((with_reducible apply go_mv_sl); rfl; rfl))
             | ((with_reducible apply go_as))
             | (((with_reducible apply go_len); rfl; rfl))
             | (((with_reducible apply go_bx_clo); rfl; rfl)))
           | ((with_reducible (show evOps _ _ _ _ _ _)); first
             | (with_reducible apply go_nil))
           | ((with_reducible (show evG _ _ _ _ _)); first
             | (with_reducible apply go_seq)
             | (with_reducible apply go_region)
             | (with_reducible apply go_block))
           | (with_reducible apply go_kseq)
  refine go_count l.length (fun i => ⟨[(13, .int .i64 i), (12, .int .i64 l.length), (11, .sl (l.map encSoil)), (0, .sl (l.map encSoil)), (2, .clo (.func g') [] []), (4, .op 0 0 0)], [(0, ⟨1, false, [[.clo (.func g) [] []]]⟩)], 32, 36⟩) (fun i => ∀ j, j < i → stepE nm er l j = 0) (entails_eq (k := 0) (ns := []) (ks := [13, 12, 11, 0, 2, 4]) [(0, 0)] rfl (by simp) rfl) (by omega) ?_
  intro i hi hC
  repeat' first
           | (with_reducible apply go_op)
           | (with_reducible apply go_next)
           | ((with_reducible (show evOp _ _ _ _ _ _)); first
             | (((with_reducible apply go_mv_int); rfl; rfl))
             | ((with_reducible apply go_as))
             | ((with_reducible (show evOp _ (.load _ _) _ _ _ _)) ; first | ((with_reducible apply go_load); rfl; rfl; rfl) | ((with_reducible apply go_load_own); rfl; rfl; rfl; rfl))
             | (((with_reducible apply go_index); rfl; rfl; (intro; rfl); rfl; omega; intro hlt))
             | (((with_reducible apply go_cmp); rfl; rfl; rfl; rfl))
             | (((with_reducible apply go_st_agg); rfl; rfl; rfl; rfl; rfl; rfl; rfl))
             | (((with_reducible apply go_alloc); rfl; rfl; rfl)))
           | ((with_reducible (show evOps _ _ _ _ _ _)); first
             | (with_reducible apply go_nil))
           | ((with_reducible (show evG _ _ _ _ _)); first
             | (with_reducible apply go_seq)
             | (with_reducible apply go_region)
             | (((with_reducible apply go_cond); rfl) <;> (intro h; simp only [h]; try simp only [decide_eq_true_eq, decide_eq_false_iff_not, Bool.not_eq_true', Bool.not_eq_false', Bool.not_true, Bool.not_false] at h; try exact absurd trivial h))
             | (with_reducible apply go_ret)
             | (with_reducible apply go_skipc)
             | (with_reducible apply go_block)
             | (with_reducible apply go_exit))
           | (with_reducible apply go_kseq)
           | (with_reducible apply go_kblock_exit)
           | (with_reducible apply go_kseq_exit)
           | ((with_reducible apply end_int); rfl)
  refine go_clo_str (d1 := .agg (encSoil l[i])) rfl rfl (fun _ _ => rfl) (hn _) rfl ?_
  repeat' first
           | (with_reducible apply go_op)
           | (with_reducible apply go_next)
           | ((with_reducible (show evOp _ _ _ _ _ _)); first
             | (((with_reducible apply go_load_own); rfl; rfl; rfl; rfl))
             | (((with_reducible apply go_st_str); rfl; rfl; rfl))
             | (((with_reducible apply go_alloc); rfl; rfl; rfl)))
           | ((with_reducible (show evOps _ _ _ _ _ _)); first
             | (with_reducible apply go_nil))
           | ((with_reducible (show evG _ _ _ _ _)); first
             | (with_reducible apply go_seq)
             | (with_reducible apply go_region))
           | (with_reducible apply go_kseq)
  refine go_fn_bool (args' := [.str (nm l[i])]) rfl (c137 _) rfl ?_
  repeat' first
           | (with_reducible apply go_op)
           | (with_reducible apply go_next)
           | ((with_reducible (show evOp _ _ _ _ _ _)); first
             | ((with_reducible (show evOp _ (.move _) _ _ _ _)) ; first | ((with_reducible apply go_mv_int); rfl; rfl) | ((with_reducible apply go_mv_sl); rfl; rfl))
             | ((with_reducible apply go_as))
             | (((with_reducible apply go_take_sl); rfl; rfl; (intro; rfl); rfl; omega))
             | (((with_reducible apply go_not); rfl; rfl))
             | (((with_reducible apply go_fn2); rfl; rfl; rfl)))
           | ((with_reducible (show evOps _ _ _ _ _ _)); first
             | (with_reducible apply go_nil))
           | ((with_reducible (show evG _ _ _ _ _)); first
             | (with_reducible apply go_seq)
             | (with_reducible apply go_region)
             | (((with_reducible apply go_cond); rfl) <;> (intro h; simp only [h]; try simp only [decide_eq_true_eq, decide_eq_false_iff_not, Bool.not_eq_true', Bool.not_eq_false', Bool.not_true, Bool.not_false] at h; try exact absurd trivial h))
             | (with_reducible apply go_ret)
             | (with_reducible apply go_skipc))
           | (with_reducible apply go_kseq)
           | (with_reducible apply go_kseq_ret)
           | (with_reducible apply go_kblock_ret)
           | ((with_reducible apply end_int); rfl)
  · have h2 : i < l.length := by omega
    exact each_at h2 hC (by simp [stepE, h2, h]) (by decide)
  refine go_fn_bool (args' := [.sl ((l.take i).map encSoil), .clo (.func 169) [] [.ptr [.clo (.func g) [] []], .ptr [.str (nm l[i])]]]) rfl (c138 (l.take i) (by simp; omega) 169 _ (fun _ _ => rfl) rfl (fun y => decide (nm y = nm l[i])) fun y _ => c139 y _ _ g (hn y)) rfl ?_
  repeat' first
           | (with_reducible apply go_op)
           | (with_reducible apply go_next)
           | ((with_reducible (show evOp _ _ _ _ _ _)); first
             | ((with_reducible (show evOp _ (.move _) _ _ _ _)) ; first | ((with_reducible apply go_mv_int); rfl; rfl) | ((with_reducible apply go_mv_clo); rfl; rfl))
             | ((with_reducible apply go_as))
             | (((with_reducible apply go_load_own); rfl; rfl; rfl; rfl)))
           | ((with_reducible (show evOps _ _ _ _ _ _)); first
             | (with_reducible apply go_nil))
           | ((with_reducible (show evG _ _ _ _ _)); first
             | (with_reducible apply go_seq)
             | (with_reducible apply go_region)
             | (((with_reducible apply go_cond); rfl) <;> (intro h; simp only [h]; try simp only [decide_eq_true_eq, decide_eq_false_iff_not, Bool.not_eq_true', Bool.not_eq_false', Bool.not_true, Bool.not_false] at h; try exact absurd trivial h))
             | (with_reducible apply go_ret)
             | (with_reducible apply go_skipc))
           | (with_reducible apply go_kseq)
           | (with_reducible apply go_kseq_ret)
           | (with_reducible apply go_kblock_ret)
           | ((with_reducible apply end_int); rfl)
  · rename_i h1 _
    have h2 : i < l.length := by omega
    exact each_at h2 hC (by simp only [stepE, List.getElem?_eq_getElem h2, h, *]; simp) (by decide)
  refine go_clo_int (d1 := .agg (encSoil l[i])) rfl rfl (fun _ _ => rfl) (he _) rfl ?_
  repeat' first
           | (with_reducible apply go_op)
           | (with_reducible apply go_next)
           | ((with_reducible (show evOp _ _ _ _ _ _)); first
             | (((with_reducible apply go_mv_int); rfl; rfl))
             | ((with_reducible apply go_as))
             | ((with_reducible (show evOp _ (.binOp _ _ _ _ _) _ _ _ _)) ; first | ((with_reducible apply go_cmp); rfl; rfl; rfl; rfl) | ((with_reducible apply go_add); rfl; rfl; rfl; omega)))
           | ((with_reducible (show evOps _ _ _ _ _ _)); first
             | (with_reducible apply go_nil))
           | ((with_reducible (show evG _ _ _ _ _)); first
             | (with_reducible apply go_seq)
             | (with_reducible apply go_region)
             | (((with_reducible apply go_cond); rfl) <;> (intro h; simp only [h]; try simp only [decide_eq_true_eq, decide_eq_false_iff_not, Bool.not_eq_true', Bool.not_eq_false', Bool.not_true, Bool.not_false] at h; try exact absurd trivial h))
             | (with_reducible apply go_ret)
             | (with_reducible apply go_skipc))
           | (with_reducible apply go_kseq)
           | (with_reducible apply go_kseq_ret)
           | (with_reducible apply go_kblock)
           | (with_reducible apply go_kblock_ret)
           | ((with_reducible apply end_int); rfl)
  · have h2 : i < l.length := by omega
    exact each_at h2 hC (by simp only [stepE, List.getElem?_eq_getElem h2, *]; simp) h
  · have h2 : i < l.length := by omega
    refine ⟨h2, fun j hj => ?_, entails_eq (k := 0) (ns := []) (ks := [13, 12, 11, 0, 2, 4]) [(0, 0)] rfl (by simp) rfl⟩
    rcases Nat.lt_succ_iff_lt_or_eq.1 hj with h' | rfl
    · exact hC j h'
    · simp only [stepE, List.getElem?_eq_getElem h2, *]; simp
  · refine (firstE_zero fun j hj => hC j (by omega)).symm
end Go.Pv.Soil

open Go Go.Proofs Go.Pv
set_option maxHeartbeats 1000000
set_option maxRecDepth 100000
set_option linter.unusedSimpArgs false
set_option linter.unusedVariables false
namespace Go.Pv.Soil

def soilE (x : Soil) : Int := if (1 ≤ x.a ∧ x.a ≤ 1000) ∧ (1 ≤ x.b ∧ x.b ≤ 5000) ∧ (1 ≤ x.r ∧ x.r ≤ 1000) ∧ (1 ≤ x.h ∧ x.h ≤ 1000) ∧ x.h ≤ x.r then 0 else 2

theorem c82 (x : Soil) : Contract Tryz.prog 150 [.agg (encSoil x)] (.ret (.int .i64 (soilE x))) := by
  refine contract_of mix Tryz.func150 rfl rfl (by rw [Tryz.ntmps150]; exact Nat.le_of_ble_eq_true rfl) ?_; rw [Tryz.results150, Tryz.ntmps150]; simp only [argsE, Nat.reduceAdd]
  repeat' first
           | (with_reducible apply go_op)
           | (with_reducible apply go_next)
           | ((with_reducible (show evOp _ _ _ _ _ _)); first
             | ((with_reducible (show evOp _ (.move _) _ _ _ _)) ; first | ((with_reducible apply go_mv_int); rfl; rfl) | ((with_reducible apply go_mv_bool); rfl; rfl))
             | ((with_reducible apply go_as))
             | (((with_reducible apply go_load_own); rfl; rfl; rfl; rfl))
             | (((with_reducible apply go_fieldAddr_own); rfl; rfl; rfl))
             | (((with_reducible apply go_cmp); rfl; rfl; rfl; rfl))
             | (((with_reducible apply go_fn_bool); rfl; (exact c108 _ _ _); rfl))
             | (((with_reducible apply go_not); rfl; rfl))
             | (((with_reducible apply go_pick); rfl; rfl; rfl))
             | (((with_reducible apply go_bx_agg); rfl; rfl; (exact Nat.le_of_ble_eq_true rfl); rfl; rfl)))
           | ((with_reducible (show evOps _ _ _ _ _ _)); first
             | (with_reducible apply go_nil)
             | ((with_reducible apply go_run); rfl; rfl)
             | ((with_reducible apply go_pass); rfl; rfl; rfl)
             | (((with_reducible apply go_guard); rfl) <;> (intro h; simp only [h, Bool.not_true, Bool.not_false]; (try with_reducible (refine ⟨rfl, ?_⟩)); try simp only [decide_eq_true_eq, decide_eq_false_iff_not, Bool.not_eq_true', Bool.not_eq_false', Bool.not_true, Bool.not_false] at h; try exact absurd trivial h)))
           | ((with_reducible (show evG _ _ _ _ _)); first
             | (with_reducible apply go_seq)
             | (with_reducible apply go_region)
             | ((with_reducible apply go_cond_t); rfl; rfl)
             | (((with_reducible apply go_cond); rfl) <;> (intro h; simp only [h]; try simp only [decide_eq_true_eq, decide_eq_false_iff_not, Bool.not_eq_true', Bool.not_eq_false', Bool.not_true, Bool.not_false] at h; try exact absurd trivial h))
             | (with_reducible apply go_ret)
             | (with_reducible apply go_skipc))
           | (with_reducible apply go_kseq)
           | (with_reducible apply go_kseq_ret)
           | ((with_reducible apply end_int); rfl)
  all_goals first
    | (simp only [soilE]; rw [if_pos (by omega)])
    | (simp only [soilE]; rw [if_neg (by omega)])
end Go.Pv.Soil

open Go Go.Proofs Go.Pv
set_option maxHeartbeats 1000000
set_option maxRecDepth 100000
set_option linter.unusedSimpArgs false
set_option linter.unusedVariables false
namespace Go.Pv.Soil

def soilsE (l : List Soil) : Int := if l.length = 0 then 10 else if 8 < l.length then 8 else eachE (·.name) soilE l

theorem c20 (l : List Soil) (hl : l.length < 1000000000000) : Contract Tryz.prog 131 [.sl (l.map encSoil)] (.ret (.int .i64 (soilsE l))) := by
  refine contract_of mix Tryz.func131 rfl rfl (by rw [Tryz.ntmps131]; exact Nat.le_of_ble_eq_true rfl) ?_; rw [Tryz.results131, Tryz.ntmps131]; simp only [argsE, Nat.reduceAdd]
  repeat' first
           | (with_reducible apply go_op)
           | (with_reducible apply go_next)
           | ((with_reducible (show evOp _ _ _ _ _ _)); first
             | ((with_reducible (show evOp _ (.move _) _ _ _ _)) ; first | ((with_reducible apply go_mv_int); rfl; rfl) | ((with_reducible apply go_mv_sl); rfl; rfl))
             | ((with_reducible apply go_as))
             | (((with_reducible apply go_cmp); rfl; rfl; rfl; rfl))
             | (((with_reducible apply go_len); rfl; rfl)))
           | ((with_reducible (show evOps _ _ _ _ _ _)); first
             | (with_reducible apply go_nil))
           | ((with_reducible (show evG _ _ _ _ _)); first
             | (with_reducible apply go_seq)
             | (with_reducible apply go_region)
             | (((with_reducible apply go_cond); rfl) <;> (intro h; simp only [h]; try simp only [decide_eq_true_eq, decide_eq_false_iff_not, Bool.not_eq_true', Bool.not_eq_false', Bool.not_true, Bool.not_false] at h; try exact absurd trivial h))
             | (with_reducible apply go_ret)
             | (with_reducible apply go_skipc))
           | (with_reducible apply go_kseq)
           | (with_reducible apply go_kseq_ret)
           | ((with_reducible apply end_int); rfl)
  · simp only [soilsE]; rw [if_pos (by omega)]
  · simp only [soilsE]; rw [if_neg (by omega), if_pos (by omega)]
  · refine go_fn_int (args' := [.sl (l.map encSoil), .clo (.func 149) [] [], .clo (.func 150) [] []]) rfl (c80 l hl 149 150 (·.name) soilE c81 c82) rfl ?_
    repeat' first
           | (with_reducible apply go_op)
           | (with_reducible apply go_next)
           | ((with_reducible (show evOp _ _ _ _ _ _)); first
             | (((with_reducible apply go_mv_int); rfl; rfl))
             | ((with_reducible apply go_as)))
           | ((with_reducible (show evOps _ _ _ _ _ _)); first
             | (with_reducible apply go_nil))
           | ((with_reducible (show evG _ _ _ _ _)); first
             | (with_reducible apply go_ret))
           | (with_reducible apply go_kseq)
           | ((with_reducible apply end_int); rfl)
    simp only [soilsE]; rw [if_neg (by omega), if_neg (by omega)]

def ofName (l : List Soil) (s : ByteArray) : Int := idxOf (fun x => decide (x.name = s)) l

theorem ofName_self (l : List Soil) {i : Nat} (hi : i < l.length) : (ofName l l[i].name = i) ↔ ((l.take i).any fun y => decide (y.name = l[i].name)) = false := by
  constructor
  · intro h
    rw [List.any_eq_false]
    intro y hy
    obtain ⟨j, hj, rfl⟩ := List.mem_iff_getElem.1 hy
    simp only [List.length_take] at hj
    simp only [List.getElem_take]
    unfold ofName idxOf at h
    split at h
    · rename_i k hk
      rw [List.findIdx?_eq_some_iff_getElem] at hk
      obtain ⟨h1, h2, h3⟩ := hk
      have : k = i := by omega
      subst this
      exact h3 j (by omega)
    · omega
  · intro h
    refine idxOf_some hi (by simp) fun j hj => ?_
    rw [List.any_eq_false] at h
    have := h l[j] (List.mem_iff_getElem.2 ⟨j, by simp; omega, by simp⟩)
    simpa using this

end Go.Pv.Soil

open Go Go.Proofs Go.Pv
set_option maxHeartbeats 1000000
set_option maxRecDepth 100000
set_option linter.unusedSimpArgs false
set_option linter.unusedVariables false
namespace Go.Pv.Soil

structure Layer where
  top : Int
  soil : ByteArray
structure Boring where
  name : ByteArray
  x : Int
  y : Int
  layers : List Layer
structure Pt where
  x : Int
  y : Int
def encLayer (l : Layer) : List D := [.int .i64 l.top, .str l.soil]
def encBor (b : Boring) : List D := [.str b.name, .int .i64 b.x, .int .i64 b.y, .sl (b.layers.map encLayer)]
def encPt (p : Pt) : List D := [.int .i64 p.x, .int .i64 p.y]

theorem c177 (l : List Boring) (hl : l.length < 1000000000000) (g : FuncId) (ys : List D) (hst : Stab ys) (hpu : pureL ys = true) (p : Boring → Bool) (hf : ∀ x ∈ l, Contract Tryz.prog g (.agg (encBor x) :: ys) (.ret (.bool (p x)))) :
    Contract Tryz.prog 170 [.sl (l.map encBor), .clo (.func g) [] ys] (.ret (.int .i64 (idxOf p l))) := by
  refine contract_of mix Tryz.func170 rfl rfl (by rw [Tryz.ntmps170]; exact Nat.le_of_ble_eq_true rfl) ?_; rw [Tryz.results170, Tryz.ntmps170]; simp only [argsE, Nat.reduceAdd]
  repeat' first
           | (with_reducible apply go_op)
           | (with_reducible apply go_next)
           | ((with_reducible (show evOp _ _ _ _ _ _)); first
             | ((with_reducible (show evOp _ (.move _) _ _ _ _)) ; first | ((with_reducible apply go_mv_int); rfl; rfl) | ((with_reducible apply go_mv_sl); rfl; rfl))
             | ((with_reducible apply go_as))
             | (((with_reducible apply go_len); rfl; rfl)))
           | ((with_reducible (show evOps _ _ _ _ _ _)); first
             | (with_reducible apply go_nil))
           | ((with_reducible (show evG _ _ _ _ _)); first
             | (with_reducible apply go_seq)
             | (with_reducible apply go_region)
             | (with_reducible apply go_block))
           | (with_reducible apply go_kseq)
  have e8 : ∀ i : Nat, (⟨[(8, .int .i64 i), (7, .int .i64 l.length), (0, .sl (l.map encBor)), (1, .clo (.func g) [] (renL [] ys))], [], 0, 19⟩ : St) = ⟨[(8, .int .i64 i), (7, .int .i64 l.length), (0, .sl (l.map encBor)), (1, .clo (.func g) [] ys)], [], 0, 19⟩ := fun i => by rw [renL_pure hpu]
  refine go_count l.length (fun i => ⟨[(8, .int .i64 i), (7, .int .i64 l.length), (0, .sl (l.map encBor)), (1, .clo (.func g) [] ys)], [], 0, 19⟩) (fun i => ∀ j (hj : j < i) (hj' : j < l.length), p l[j] = false) (entails_eq (k := 0) (ns := []) (ks := [8, 7, 0, 1]) [] rfl (by simp) (e8 _)) (by omega) ?_
  intro i hi hC
  repeat' first
           | (with_reducible apply go_op)
           | (with_reducible apply go_next)
           | ((with_reducible (show evOp _ _ _ _ _ _)); first
             | ((with_reducible (show evOp _ (.move _) _ _ _ _)) ; first | ((with_reducible apply go_mv_int); rfl; rfl) | ((with_reducible apply go_mv_sl); rfl; rfl) | ((with_reducible apply go_mv_clo); rfl; rfl))
             | ((with_reducible apply go_as))
             | (((with_reducible apply go_load); rfl; rfl; rfl))
             | (((with_reducible apply go_index); rfl; rfl; (intro; rfl); rfl; omega; intro hlt))
             | (((with_reducible apply go_cmp); rfl; rfl; rfl; rfl)))
           | ((with_reducible (show evOps _ _ _ _ _ _)); first
             | (with_reducible apply go_nil))
           | ((with_reducible (show evG _ _ _ _ _)); first
             | (with_reducible apply go_seq)
             | (with_reducible apply go_region)
             | (((with_reducible apply go_cond); rfl) <;> (intro h; simp only [h]; try simp only [decide_eq_true_eq, decide_eq_false_iff_not, Bool.not_eq_true', Bool.not_eq_false', Bool.not_true, Bool.not_false] at h; try exact absurd trivial h))
             | (with_reducible apply go_ret)
             | (with_reducible apply go_skipc)
             | (with_reducible apply go_block)
             | (with_reducible apply go_exit))
           | (with_reducible apply go_kseq)
           | (with_reducible apply go_kblock_exit)
           | (with_reducible apply go_kseq_exit)
           | ((with_reducible apply end_int); rfl)
  · refine go_clo_bool rfl rfl hst (hf l[i] (List.getElem_mem _)) rfl ?_
    repeat' first
           | (with_reducible apply go_op)
           | (with_reducible apply go_next)
           | ((with_reducible (show evOp _ _ _ _ _ _)); first
             | (((with_reducible apply go_mv_int); rfl; rfl))
             | ((with_reducible apply go_as))
             | (((with_reducible apply go_add); rfl; rfl; rfl; omega)))
           | ((with_reducible (show evOps _ _ _ _ _ _)); first
             | (with_reducible apply go_nil))
           | ((with_reducible (show evG _ _ _ _ _)); first
             | (with_reducible apply go_seq)
             | (with_reducible apply go_region)
             | (((with_reducible apply go_cond); rfl) <;> (intro h; simp only [h]; try simp only [decide_eq_true_eq, decide_eq_false_iff_not, Bool.not_eq_true', Bool.not_eq_false', Bool.not_true, Bool.not_false] at h; try exact absurd trivial h))
             | (with_reducible apply go_ret)
             | (with_reducible apply go_skipc))
           | (with_reducible apply go_kseq)
           | (with_reducible apply go_kseq_ret)
           | (with_reducible apply go_kblock)
           | (with_reducible apply go_kblock_ret)
           | ((with_reducible apply end_int); rfl)
    · have h2 : i < l.length := by omega
      exact (idxOf_some h2 h fun j hj => hC j hj (by omega)).symm
    · have h2 : i < l.length := by omega
      refine ⟨by omega, fun j hj hj' => ?_, entails_eq (k := 0) (ns := []) (ks := [8, 7, 0, 1]) [] rfl (by simp) (e8 _)⟩
      rcases Nat.lt_succ_iff_lt_or_eq.1 hj with h' | rfl
      · exact hC j h' hj'
      · exact h
  · refine (idxOf_none fun x hx => ?_).symm
    obtain ⟨j, hj, rfl⟩ := List.mem_iff_getElem.1 hx
    exact hC j (by omega) hj


theorem c140 (l : List Boring) (hl : l.length < 1000000000000) (g : FuncId) (ys : List D) (hst : Stab ys) (hpu : pureL ys = true) (p : Boring → Bool) (hf : ∀ x ∈ l, Contract Tryz.prog g (.agg (encBor x) :: ys) (.ret (.bool (p x)))) :
    Contract Tryz.prog 151 [.sl (l.map encBor), .clo (.func g) [] ys] (.ret (.bool (l.any p))) := by
  refine contract_of mix Tryz.func151 rfl rfl (by rw [Tryz.ntmps151]; exact Nat.le_of_ble_eq_true rfl) ?_; rw [Tryz.results151, Tryz.ntmps151]; simp only [argsE, Nat.reduceAdd]
  repeat' first
           | (with_reducible apply go_op)
           | (with_reducible apply go_next)
           | ((with_reducible (show evOp _ _ _ _ _ _)); first
             | ((with_reducible (show evOp _ (.move _) _ _ _ _)) ; first | ((with_reducible apply go_mv_bool); rfl; rfl) | ((with_reducible apply go_mv_sl); rfl; rfl) | ((with_reducible apply go_mv_clo); rfl; rfl))
             | ((with_reducible apply go_as)))
           | ((with_reducible (show evOps _ _ _ _ _ _)); first
             | (with_reducible apply go_nil))
           | ((with_reducible (show evG _ _ _ _ _)); first
             | (with_reducible apply go_seq)
             | (with_reducible apply go_region))
           | (with_reducible apply go_kseq)
  refine go_fn_int (args' := [.sl (l.map encBor), .clo (.func g) [] ys]) ?_ (c177 l hl g ys hst hpu p hf) rfl ?_
  · have e := hst (lkH []) 45
    simp only [List.map_cons, List.map_nil, evalD, lkE, purL, pur, Option.bind_some, Option.map_some, Nat.reduceEqDiff, if_true, if_false, e]
  repeat' first
           | (with_reducible apply go_op)
           | (with_reducible apply go_next)
           | ((with_reducible (show evOp _ _ _ _ _ _)); first
             | (((with_reducible apply go_mv_bool); rfl; rfl))
             | ((with_reducible apply go_as))
             | (((with_reducible apply go_cmp); rfl; rfl; rfl; rfl)))
           | ((with_reducible (show evOps _ _ _ _ _ _)); first
             | (with_reducible apply go_nil))
           | ((with_reducible (show evG _ _ _ _ _)); first
             | (with_reducible apply go_ret))
           | (with_reducible apply go_kseq)
           | ((with_reducible apply end_bool); rfl)
  exact idxOf_ge


theorem c87 (x : Boring) : Contract Tryz.prog 133 [.agg (encBor x)] (.ret (.str x.name)) := by
  refine contract_of mix Tryz.func133 rfl rfl (by rw [Tryz.ntmps133]; exact Nat.le_of_ble_eq_true rfl) ?_; rw [Tryz.results133, Tryz.ntmps133]; simp only [argsE, Nat.reduceAdd]
  repeat' first
           | (with_reducible apply go_op)
           | (with_reducible apply go_next)
           | ((with_reducible (show evOp _ _ _ _ _ _)); first
             | (((with_reducible apply go_mv_str); rfl; rfl))
             | ((with_reducible apply go_as))
             | (((with_reducible apply go_load_own); rfl; rfl; rfl; rfl))
             | (((with_reducible apply go_fieldAddr_own); rfl; rfl; rfl))
             | (((with_reducible apply go_bx_agg); rfl; rfl; (exact Nat.le_of_ble_eq_true rfl); rfl; rfl)))
           | ((with_reducible (show evOps _ _ _ _ _ _)); first
             | (with_reducible apply go_nil))
           | ((with_reducible (show evG _ _ _ _ _)); first
             | (with_reducible apply go_seq)
             | (with_reducible apply go_region)
             | (with_reducible apply go_ret))
           | (with_reducible apply go_kseq)
           | ((with_reducible apply end_str); rfl)
           | (with_reducible rfl)


theorem c141 (x : Boring) (s nm : ByteArray) (g : FuncId) (hn : Contract Tryz.prog g [.agg (encBor x)] (.ret (.str nm))) : Contract Tryz.prog 152 [.agg (encBor x), .ptr [.clo (.func g) [] []], .ptr [.str s]] (.ret (.bool (decide (nm = s)))) := by
  refine contract_of mix Tryz.func152 rfl rfl (by rw [Tryz.ntmps152]; exact Nat.le_of_ble_eq_true rfl) ?_; rw [Tryz.results152, Tryz.ntmps152]; simp only [argsE, Nat.reduceAdd]
  repeat' first
           | (with_reducible apply go_op)
           | (with_reducible apply go_next)
           | ((with_reducible (show evOp _ _ _ _ _ _)); first
             | (((with_reducible apply go_mv_bool); rfl; rfl))
             | ((with_reducible apply go_as))
             | ((with_reducible (show evOp _ (.load _ _) _ _ _ _)) ; first | ((with_reducible apply go_load); rfl; rfl; rfl) | ((with_reducible apply go_load_own); rfl; rfl; rfl; rfl))
             | (((with_reducible apply go_bx_agg); rfl; rfl; (exact Nat.le_of_ble_eq_true rfl); rfl; rfl)))
           | ((with_reducible (show evOps _ _ _ _ _ _)); first
             | (with_reducible apply go_nil)
             | ((with_reducible apply go_pre); rfl))
           | ((with_reducible (show evG _ _ _ _ _)); first
             | (with_reducible apply go_seq)
             | (with_reducible apply go_region)
             | ((with_reducible apply go_order); kernel_rfl; rfl))
           | (with_reducible apply go_kseq)
  refine go_clo_str (d1 := .agg (encBor x)) rfl rfl (fun _ _ => rfl) hn rfl ?_
  repeat' first
           | (with_reducible apply go_op)
           | (with_reducible apply go_next)
           | ((with_reducible (show evOp _ _ _ _ _ _)); first
             | (((with_reducible apply go_mv_bool); rfl; rfl))
             | ((with_reducible apply go_as))
             | (((with_reducible apply go_load); rfl; rfl; rfl))
             | (((with_reducible apply go_bin); rfl; rfl)))
           | ((with_reducible (show evOps _ _ _ _ _ _)); first
             | (with_reducible apply go_nil)
             | ((with_reducible apply go_pre); rfl)
             | (with_reducible apply go_pre_nil)
             | ((with_reducible apply go_suf); rfl)
             | (with_reducible apply go_suf_nil))
           | ((with_reducible (show evG _ _ _ _ _)); first
             | (with_reducible apply go_ret))
           | (with_reducible apply go_kseq)
           | (with_reducible apply go_ksuf)
           | ((with_reducible apply end_bool); rfl)
           | (with_reducible rfl)


theorem c86 (l : List Boring) (hl : l.length < 1000000000000) (g g' : FuncId) (nm : Boring → ByteArray) (er : Boring → Int) (hn : ∀ x, Contract Tryz.prog g [.agg (encBor x)] (.ret (.str (nm x)))) (he : ∀ x, Contract Tryz.prog g' [.agg (encBor x)] (.ret (.int .i64 (er x)))) :
    Contract Tryz.prog 132 [.sl (l.map encBor), .clo (.func g) [] [], .clo (.func g') [] []] (.ret (.int .i64 (eachE nm er l))) := by
  refine contract_of mix Tryz.func132 rfl rfl (by rw [Tryz.ntmps132]; exact Nat.le_of_ble_eq_true rfl) ?_; rw [Tryz.results132, Tryz.ntmps132]; simp only [argsE, Nat.reduceAdd]
  repeat' first
           | (with_reducible apply go_op)
           | (with_reducible apply go_next)
           | ((with_reducible (show evOp _ _ _ _ _ _)); first
             | ((with_reducible (show evOp _ (.move _) _ _ _ _)) ; first | ((with_reducible apply go_mv_int); rfl; rfl) | ((with_reducible apply go_mv_sl); rfl; rfl))
             | ((with_reducible apply go_as))
             | (((with_reducible apply go_len); rfl; rfl))
             | (((with_reducible apply go_bx_clo); rfl; rfl)))
           | ((with_reducible (show evOps _ _ _ _ _ _)); first
             | (with_reducible apply go_nil))
           | ((with_reducible (show evG _ _ _ _ _)); first
             | (with_reducible apply go_seq)
             | (with_reducible apply go_region)
             | (with_reducible apply go_block))
           | (with_reducible apply go_kseq)
  refine go_count l.length (fun i => ⟨[(13, .int .i64 i), (12, .int .i64 l.length), (11, .sl (l.map encBor)), (0, .sl (l.map encBor)), (2, .clo (.func g') [] []), (4, .op 0 0 0)], [(0, ⟨1, false, [[.clo (.func g) [] []]]⟩)], 32, 36⟩) (fun i => ∀ j, j < i → stepE nm er l j = 0) (entails_eq (k := 0) (ns := []) (ks := [13, 12, 11, 0, 2, 4]) [(0, 0)] rfl (by simp) rfl) (by omega) ?_
  intro i hi hC
  repeat' first
           | (with_reducible apply go_op)
           | (with_reducible apply go_next)
           | ((with_reducible (show evOp _ _ _ _ _ _)); first
             | (((with_reducible apply go_mv_int); rfl; rfl))
             | ((with_reducible apply go_as))
             | ((with_reducible (show evOp _ (.load _ _) _ _ _ _)) ; first | ((with_reducible apply go_load); rfl; rfl; rfl) | ((with_reducible apply go_load_own); rfl; rfl; rfl; rfl))
             | (((with_reducible apply go_index); rfl; rfl; (intro; rfl); rfl; omega; intro hlt))
             | (((with_reducible apply go_cmp); rfl; rfl; rfl; rfl))
             | (((with_reducible apply go_st_agg); rfl; rfl; rfl; rfl; rfl; rfl; rfl))
             | (((with_reducible apply go_alloc); rfl; rfl; rfl)))
           | ((with_reducible (show evOps _ _ _ _ _ _)); first
             | (with_reducible apply go_nil))
           | ((with_reducible (show evG _ _ _ _ _)); first
             | (with_reducible apply go_seq)
             | (with_reducible apply go_region)
             | (((with_reducible apply go_cond); rfl) <;> (intro h; simp only [h]; try simp only [decide_eq_true_eq, decide_eq_false_iff_not, Bool.not_eq_true', Bool.not_eq_false', Bool.not_true, Bool.not_false] at h; try exact absurd trivial h))
             | (with_reducible apply go_ret)
             | (with_reducible apply go_skipc)
             | (with_reducible apply go_block)
             | (with_reducible apply go_exit))
           | (with_reducible apply go_kseq)
           | (with_reducible apply go_kblock_exit)
           | (with_reducible apply go_kseq_exit)
           | ((with_reducible apply end_int); rfl)
  refine go_clo_str (d1 := .agg (encBor l[i])) rfl rfl (fun _ _ => rfl) (hn _) rfl ?_
  repeat' first
           | (with_reducible apply go_op)
           | (with_reducible apply go_next)
           | ((with_reducible (show evOp _ _ _ _ _ _)); first
             | (((with_reducible apply go_load_own); rfl; rfl; rfl; rfl))
             | (((with_reducible apply go_st_str); rfl; rfl; rfl))
             | (((with_reducible apply go_alloc); rfl; rfl; rfl)))
           | ((with_reducible (show evOps _ _ _ _ _ _)); first
             | (with_reducible apply go_nil))
           | ((with_reducible (show evG _ _ _ _ _)); first
             | (with_reducible apply go_seq)
             | (with_reducible apply go_region))
           | (with_reducible apply go_kseq)
  refine go_fn_bool (args' := [.str (nm l[i])]) rfl (c137 _) rfl ?_
  repeat' first
           | (with_reducible apply go_op)
           | (with_reducible apply go_next)
           | ((with_reducible (show evOp _ _ _ _ _ _)); first
             | ((with_reducible (show evOp _ (.move _) _ _ _ _)) ; first | ((with_reducible apply go_mv_int); rfl; rfl) | ((with_reducible apply go_mv_sl); rfl; rfl))
             | ((with_reducible apply go_as))
             | (((with_reducible apply go_take_sl); rfl; rfl; (intro; rfl); rfl; omega))
             | (((with_reducible apply go_not); rfl; rfl))
             | (((with_reducible apply go_fn2); rfl; rfl; rfl)))
           | ((with_reducible (show evOps _ _ _ _ _ _)); first
             | (with_reducible apply go_nil))
           | ((with_reducible (show evG _ _ _ _ _)); first
             | (with_reducible apply go_seq)
             | (with_reducible apply go_region)
             | (((with_reducible apply go_cond); rfl) <;> (intro h; simp only [h]; try simp only [decide_eq_true_eq, decide_eq_false_iff_not, Bool.not_eq_true', Bool.not_eq_false', Bool.not_true, Bool.not_false] at h; try exact absurd trivial h))
             | (with_reducible apply go_ret)
             | (with_reducible apply go_skipc))
           | (with_reducible apply go_kseq)
           | (with_reducible apply go_kseq_ret)
           | (with_reducible apply go_kblock_ret)
           | ((with_reducible apply end_int); rfl)
  · have h2 : i < l.length := by omega
    exact each_at h2 hC (by simp [stepE, h2, h]) (by decide)
  refine go_fn_bool (args' := [.sl ((l.take i).map encBor), .clo (.func 152) [] [.ptr [.clo (.func g) [] []], .ptr [.str (nm l[i])]]]) rfl (c140 (l.take i) (by simp; omega) 152 _ (fun _ _ => rfl) rfl (fun y => decide (nm y = nm l[i])) fun y _ => c141 y _ _ g (hn y)) rfl ?_
  repeat' first
           | (with_reducible apply go_op)
           | (with_reducible apply go_next)
           | ((with_reducible (show evOp _ _ _ _ _ _)); first
             | ((with_reducible (show evOp _ (.move _) _ _ _ _)) ; first | ((with_reducible apply go_mv_int); rfl; rfl) | ((with_reducible apply go_mv_clo); rfl; rfl))
             | ((with_reducible apply go_as))
             | (((with_reducible apply go_load_own); rfl; rfl; rfl; rfl)))
           | ((with_reducible (show evOps _ _ _ _ _ _)); first
             | (with_reducible apply go_nil))
           | ((with_reducible (show evG _ _ _ _ _)); first
             | (with_reducible apply go_seq)
             | (with_reducible apply go_region)
             | (((with_reducible apply go_cond); rfl) <;> (intro h; simp only [h]; try simp only [decide_eq_true_eq, decide_eq_false_iff_not, Bool.not_eq_true', Bool.not_eq_false', Bool.not_true, Bool.not_false] at h; try exact absurd trivial h))
             | (with_reducible apply go_ret)
             | (with_reducible apply go_skipc))
           | (with_reducible apply go_kseq)
           | (with_reducible apply go_kseq_ret)
           | (with_reducible apply go_kblock_ret)
           | ((with_reducible apply end_int); rfl)
  · rename_i h1 _
    have h2 : i < l.length := by omega
    exact each_at h2 hC (by simp only [stepE, List.getElem?_eq_getElem h2, h, *]; simp) (by decide)
  refine go_clo_int (d1 := .agg (encBor l[i])) rfl rfl (fun _ _ => rfl) (he _) rfl ?_
  repeat' first
           | (with_reducible apply go_op)
           | (with_reducible apply go_next)
           | ((with_reducible (show evOp _ _ _ _ _ _)); first
             | (((with_reducible apply go_mv_int); rfl; rfl))
             | ((with_reducible apply go_as))
             | ((with_reducible (show evOp _ (.binOp _ _ _ _ _) _ _ _ _)) ; first | ((with_reducible apply go_cmp); rfl; rfl; rfl; rfl) | ((with_reducible apply go_add); rfl; rfl; rfl; omega)))
           | ((with_reducible (show evOps _ _ _ _ _ _)); first
             | (with_reducible apply go_nil))
           | ((with_reducible (show evG _ _ _ _ _)); first
             | (with_reducible apply go_seq)
             | (with_reducible apply go_region)
             | (((with_reducible apply go_cond); rfl) <;> (intro h; simp only [h]; try simp only [decide_eq_true_eq, decide_eq_false_iff_not, Bool.not_eq_true', Bool.not_eq_false', Bool.not_true, Bool.not_false] at h; try exact absurd trivial h))
             | (with_reducible apply go_ret)
             | (with_reducible apply go_skipc))
           | (with_reducible apply go_kseq)
           | (with_reducible apply go_kseq_ret)
           | (with_reducible apply go_kblock)
           | (with_reducible apply go_kblock_ret)
           | ((with_reducible apply end_int); rfl)
  · have h2 : i < l.length := by omega
    exact each_at h2 hC (by simp only [stepE, List.getElem?_eq_getElem h2, *]; simp) h
  · have h2 : i < l.length := by omega
    refine ⟨h2, fun j hj => ?_, entails_eq (k := 0) (ns := []) (ks := [13, 12, 11, 0, 2, 4]) [(0, 0)] rfl (by simp) rfl⟩
    rcases Nat.lt_succ_iff_lt_or_eq.1 hj with h' | rfl
    · exact hC j h'
    · simp only [stepE, List.getElem?_eq_getElem h2, *]; simp
  · refine (firstE_zero fun j hj => hC j (by omega)).symm

def ptOK (p : Pt) : Bool := decide ((-1000000 ≤ p.x ∧ p.x ≤ 1000000) ∧ (-1000000 ≤ p.y ∧ p.y ≤ 1000000))
def lvOK (n : Int) : Bool := decide (-20000 ≤ n ∧ n ≤ 20000)

theorem c142 (p : Pt) : Contract Tryz.prog 41 [.agg (encPt p)] (.ret (.bool (ptOK p))) := by
  refine contract_of mix Tryz.func41 rfl rfl (by rw [Tryz.ntmps41]; exact Nat.le_of_ble_eq_true rfl) ?_; rw [Tryz.results41, Tryz.ntmps41]; simp only [argsE, Nat.reduceAdd]
  repeat' first
           | (with_reducible apply go_op)
           | (with_reducible apply go_next)
           | ((with_reducible (show evOp _ _ _ _ _ _)); first
             | (((with_reducible apply go_mv_bool); rfl; rfl))
             | ((with_reducible apply go_as))
             | (((with_reducible apply go_load_own); rfl; rfl; rfl; rfl))
             | (((with_reducible apply go_fieldAddr_own); rfl; rfl; rfl))
             | (((with_reducible apply go_fn_bool); rfl; (exact c108 _ _ _); rfl))
             | (((with_reducible apply go_pick); rfl; rfl; rfl))
             | (((with_reducible apply go_bx_agg); rfl; rfl; (exact Nat.le_of_ble_eq_true rfl); rfl; rfl)))
           | ((with_reducible (show evOps _ _ _ _ _ _)); first
             | (with_reducible apply go_nil)
             | ((with_reducible apply go_run); rfl; rfl)
             | ((with_reducible apply go_pass); rfl; rfl; rfl)
             | (((with_reducible apply go_guard); rfl) <;> (intro h; simp only [h, Bool.not_true, Bool.not_false]; (try with_reducible (refine ⟨rfl, ?_⟩)); try simp only [decide_eq_true_eq, decide_eq_false_iff_not, Bool.not_eq_true', Bool.not_eq_false', Bool.not_true, Bool.not_false] at h; try exact absurd trivial h)))
           | ((with_reducible (show evG _ _ _ _ _)); first
             | (with_reducible apply go_seq)
             | (with_reducible apply go_region)
             | (with_reducible apply go_ret))
           | (with_reducible apply go_kseq)
           | ((with_reducible apply end_bool); rfl)
  all_goals (simp only [ptOK]; simp_all; try omega)
theorem c46 (p : Pt) : Contract Tryz.prog 45 [.agg (encPt p)] (.ret (.bool (ptOK p))) := by
  refine contract_of mix Tryz.func45 rfl rfl (by rw [Tryz.ntmps45]; exact Nat.le_of_ble_eq_true rfl) ?_; rw [Tryz.results45, Tryz.ntmps45]; simp only [argsE, Nat.reduceAdd]
  repeat' first
           | (with_reducible apply go_op)
           | (with_reducible apply go_next)
           | ((with_reducible (show evOp _ _ _ _ _ _)); first
             | (((with_reducible apply go_mv_bool); rfl; rfl))
             | ((with_reducible apply go_as))
             | (((with_reducible apply go_load_own); rfl; rfl; rfl; rfl))
             | (((with_reducible apply go_fieldAddr_own); rfl; rfl; rfl))
             | (((with_reducible apply go_fn_bool); rfl; (exact c38 _ _ _); rfl))
             | (((with_reducible apply go_pick); rfl; rfl; rfl))
             | (((with_reducible apply go_bx_agg); rfl; rfl; (exact Nat.le_of_ble_eq_true rfl); rfl; rfl)))
           | ((with_reducible (show evOps _ _ _ _ _ _)); first
             | (with_reducible apply go_nil)
             | ((with_reducible apply go_run); rfl; rfl)
             | ((with_reducible apply go_pass); rfl; rfl; rfl)
             | (((with_reducible apply go_guard); rfl) <;> (intro h; simp only [h, Bool.not_true, Bool.not_false]; (try with_reducible (refine ⟨rfl, ?_⟩)); try simp only [decide_eq_true_eq, decide_eq_false_iff_not, Bool.not_eq_true', Bool.not_eq_false', Bool.not_true, Bool.not_false] at h; try exact absurd trivial h)))
           | ((with_reducible (show evG _ _ _ _ _)); first
             | (with_reducible apply go_seq)
             | (with_reducible apply go_region)
             | (with_reducible apply go_ret))
           | (with_reducible apply go_kseq)
           | ((with_reducible apply end_bool); rfl)
  all_goals (simp only [ptOK]; simp_all; try omega)
theorem c114 (n : Int) : Contract Tryz.prog 42 [.int .i64 n] (.ret (.bool (lvOK n))) := by
  refine contract_of mix Tryz.func42 rfl rfl (by rw [Tryz.ntmps42]; exact Nat.le_of_ble_eq_true rfl) ?_; rw [Tryz.results42, Tryz.ntmps42]; simp only [argsE, Nat.reduceAdd]
  repeat' first
           | (with_reducible apply go_op)
           | (with_reducible apply go_next)
           | ((with_reducible (show evOp _ _ _ _ _ _)); first
             | ((with_reducible (show evOp _ (.move _) _ _ _ _)) ; first | ((with_reducible apply go_mv_int); rfl; rfl) | ((with_reducible apply go_mv_bool); rfl; rfl))
             | ((with_reducible apply go_as))
             | (((with_reducible apply go_fn_bool); rfl; (exact c108 _ _ _); rfl)))
           | ((with_reducible (show evOps _ _ _ _ _ _)); first
             | (with_reducible apply go_nil))
           | ((with_reducible (show evG _ _ _ _ _)); first
             | (with_reducible apply go_seq)
             | (with_reducible apply go_region)
             | (with_reducible apply go_ret))
           | (with_reducible apply go_kseq)
           | ((with_reducible apply end_bool); rfl)
  rfl
theorem c48 (n : Int) : Contract Tryz.prog 46 [.int .i64 n] (.ret (.bool (lvOK n))) := by
  refine contract_of mix Tryz.func46 rfl rfl (by rw [Tryz.ntmps46]; exact Nat.le_of_ble_eq_true rfl) ?_; rw [Tryz.results46, Tryz.ntmps46]; simp only [argsE, Nat.reduceAdd]
  repeat' first
           | (with_reducible apply go_op)
           | (with_reducible apply go_next)
           | ((with_reducible (show evOp _ _ _ _ _ _)); first
             | ((with_reducible (show evOp _ (.move _) _ _ _ _)) ; first | ((with_reducible apply go_mv_int); rfl; rfl) | ((with_reducible apply go_mv_bool); rfl; rfl))
             | ((with_reducible apply go_as))
             | (((with_reducible apply go_fn_bool); rfl; (exact c38 _ _ _); rfl)))
           | ((with_reducible (show evOps _ _ _ _ _ _)); first
             | (with_reducible apply go_nil))
           | ((with_reducible (show evG _ _ _ _ _)); first
             | (with_reducible apply go_seq)
             | (with_reducible apply go_region)
             | (with_reducible apply go_ret))
           | (with_reducible apply go_kseq)
           | ((with_reducible apply end_bool); rfl)
  rfl
theorem c151 (x : Soil) (s : ByteArray) : Contract Tryz.prog 172 [.agg (encSoil x), .ptr [.str s]] (.ret (.bool (decide (x.name = s)))) := by
  refine contract_of mix Tryz.func172 rfl rfl (by rw [Tryz.ntmps172]; exact Nat.le_of_ble_eq_true rfl) ?_; rw [Tryz.results172, Tryz.ntmps172]; simp only [argsE, Nat.reduceAdd]
  repeat' first
           | (with_reducible apply go_op)
           | (with_reducible apply go_next)
           | ((with_reducible (show evOp _ _ _ _ _ _)); first
             | (((with_reducible apply go_mv_bool); rfl; rfl))
             | ((with_reducible apply go_as))
             | ((with_reducible (show evOp _ (.load _ _) _ _ _ _)) ; first | ((with_reducible apply go_load); rfl; rfl; rfl) | ((with_reducible apply go_load_own); rfl; rfl; rfl; rfl))
             | (((with_reducible apply go_fieldAddr_own); rfl; rfl; rfl))
             | (((with_reducible apply go_bin); rfl; rfl))
             | (((with_reducible apply go_bx_agg); rfl; rfl; (exact Nat.le_of_ble_eq_true rfl); rfl; rfl)))
           | ((with_reducible (show evOps _ _ _ _ _ _)); first
             | (with_reducible apply go_nil))
           | ((with_reducible (show evG _ _ _ _ _)); first
             | (with_reducible apply go_seq)
             | (with_reducible apply go_region)
             | (with_reducible apply go_ret))
           | (with_reducible apply go_kseq)
           | ((with_reducible apply end_bool); rfl)
           | (with_reducible rfl)
theorem c102 (l : List Soil) (hl : l.length < 1000000000000) (s : ByteArray) : Contract Tryz.prog 153 [.sl (l.map encSoil), .str s] (.ret (.int .i64 (ofName l s))) := by
  refine contract_of mix Tryz.func153 rfl rfl (by rw [Tryz.ntmps153]; exact Nat.le_of_ble_eq_true rfl) ?_; rw [Tryz.results153, Tryz.ntmps153]; simp only [argsE, Nat.reduceAdd]
  repeat' first
           | (with_reducible apply go_op)
           | (with_reducible apply go_next)
           | ((with_reducible (show evOp _ _ _ _ _ _)); first
             | ((with_reducible (show evOp _ (.move _) _ _ _ _)) ; first | ((with_reducible apply go_mv_int); rfl; rfl) | ((with_reducible apply go_mv_sl); rfl; rfl))
             | ((with_reducible apply go_as))
             | (((with_reducible apply go_bx_str); rfl; rfl))
             | (((with_reducible apply go_fn1); rfl; rfl)))
           | ((with_reducible (show evOps _ _ _ _ _ _)); first
             | (with_reducible apply go_nil))
           | ((with_reducible (show evG _ _ _ _ _)); first
             | (with_reducible apply go_seq)
             | (with_reducible apply go_region))
           | (with_reducible apply go_kseq)
  refine go_fn_int (args' := [.sl (l.map encSoil), .clo (.func 172) [] [.ptr [.str s]]]) rfl (c150 l hl 172 _ (fun _ _ => rfl) rfl (fun x => decide (x.name = s)) fun x _ => c151 x s) rfl ?_
  repeat' first
           | (with_reducible apply go_op)
           | (with_reducible apply go_next)
           | ((with_reducible (show evOp _ _ _ _ _ _)); first
             | (((with_reducible apply go_mv_int); rfl; rfl))
             | ((with_reducible apply go_as)))
           | ((with_reducible (show evOps _ _ _ _ _ _)); first
             | (with_reducible apply go_nil))
           | ((with_reducible (show evG _ _ _ _ _)); first
             | (with_reducible apply go_ret))
           | (with_reducible apply go_kseq)
           | ((with_reducible apply end_int); rfl)
  rfl
end Go.Pv.Soil

open Go Go.Proofs Go.Pv
set_option maxHeartbeats 1000000
set_option maxRecDepth 100000
set_option linter.unusedSimpArgs false
set_option linter.unusedVariables false
namespace Go.Pv.Soil

structure Ground where
  soils : List Soil
  borings : List Boring
def encGround (g : Ground) : List D := [.sl (g.soils.map encSoil), .sl (g.borings.map encBor)]

def layE (l : List Soil) (ls : List Layer) (i : Nat) : Int :=
  match ls[i]? with
  | none => 0
  | some x => if lvOK x.top = false then 2 else if 0 < i ∧ ((ls[i - 1]?).map (·.top)).getD 0 ≤ x.top then 9 else if ofName l x.soil < 0 then 6 else 0

def borE (l : List Soil) (b : Boring) : Int :=
  if ptOK ⟨b.x, b.y⟩ = false then 2 else if b.layers.length = 0 then 10 else if 12 < b.layers.length then 8 else firstE b.layers.length (layE l b.layers)

theorem layE_is {l : List Soil} {ls : List Layer} {i : Nat} (hi : i < ls.length) : layE l ls i = if lvOK ls[i].top = false then 2 else if 0 < i ∧ ((ls[i - 1]?).map (·.top)).getD 0 ≤ ls[i].top then 9 else if ofName l ls[i].soil < 0 then 6 else 0 := by
  simp only [layE, List.getElem?_eq_getElem hi]

theorem layE_2 {l : List Soil} {ls : List Layer} {i : Nat} (hi : i < ls.length) (h : lvOK ls[i].top = false) : layE l ls i = 2 := by rw [layE_is hi, if_pos h]
theorem layE_9 {l : List Soil} {ls : List Layer} {i : Nat} (hi : i < ls.length) (h1 : lvOK ls[i].top = true) (h2 : 0 < i) (h3 : (ls[i - 1]'(by omega)).top ≤ ls[i].top) : layE l ls i = 9 := by
  rw [layE_is hi, if_neg (by simp [h1]), if_pos ⟨h2, by rw [List.getElem?_eq_getElem (by omega)]; exact h3⟩]
theorem layE_6 {l : List Soil} {ls : List Layer} {i : Nat} (hi : i < ls.length) (h1 : lvOK ls[i].top = true) (h2 : i = 0 ∨ ∃ h : i - 1 < ls.length, ¬ ls[i - 1].top ≤ ls[i].top) (h : ofName l ls[i].soil < 0) : layE l ls i = 6 := by
  rw [layE_is hi, if_neg (by simp [h1]), if_neg, if_pos h]
  rintro ⟨h3, h4⟩
  rcases h2 with h2 | ⟨h5, h2⟩
  · omega
  · rw [List.getElem?_eq_getElem h5] at h4; exact h2 h4
theorem layE_0 {l : List Soil} {ls : List Layer} {i : Nat} (hi : i < ls.length) (h1 : lvOK ls[i].top = true) (h2 : i = 0 ∨ ∃ h : i - 1 < ls.length, ¬ ls[i - 1].top ≤ ls[i].top) (h : ¬ ofName l ls[i].soil < 0) : layE l ls i = 0 := by
  rw [layE_is hi, if_neg (by simp [h1]), if_neg, if_neg h]
  rintro ⟨h3, h4⟩
  rcases h2 with h2 | ⟨h5, h2⟩
  · omega
  · rw [List.getElem?_eq_getElem h5] at h4; exact h2 h4

theorem lay_at {l : List Soil} {ls : List Layer} {i : Nat} {e : Int} (hi : i < ls.length) (hC : ∀ j, j < i → layE l ls j = 0) (h : layE l ls i = e) (he : e ≠ 0) : e = firstE ls.length (layE l ls) := by
  subst h
  exact (firstE_at hi hC he).symm
theorem lay_step {l : List Soil} {ls : List Layer} {i : Nat} (hC : ∀ j, j < i → layE l ls j = 0) (h : layE l ls i = 0) : ∀ j, j < i + 1 → layE l ls j = 0 := fun j hj => by
  rcases Nat.lt_succ_iff_lt_or_eq.1 hj with h' | rfl
  · exact hC j h'
  · exact h

theorem c88 (g : Ground) (b : Boring) (hl : g.soils.length < 1000000000000) : Contract Tryz.prog 134 [.agg (encGround g), .agg (encBor b)] (.ret (.int .i64 (borE g.soils b))) := by
  refine contract_of mix Tryz.func134 rfl rfl (by rw [Tryz.ntmps134]; exact Nat.le_of_ble_eq_true rfl) ?_; rw [Tryz.results134, Tryz.ntmps134]; simp only [argsE, Nat.reduceAdd]
  repeat' first
           | (with_reducible apply go_op)
           | (with_reducible apply go_next)
           | ((with_reducible (show evOp _ _ _ _ _ _)); first
             | ((with_reducible (show evOp _ (.move _) _ _ _ _)) ; first | ((with_reducible apply go_mv_int); rfl; rfl) | ((with_reducible apply go_mv_bool); rfl; rfl))
             | ((with_reducible apply go_as))
             | (((with_reducible apply go_load_own); rfl; rfl; rfl; rfl))
             | (((with_reducible apply go_fieldAddr_own); rfl; rfl; rfl))
             | (((with_reducible apply go_cmp); rfl; rfl; rfl; rfl))
             | ((with_reducible (show evOp _ (.call _) _ _ _ _)) ; first | ((with_reducible apply go_len); rfl; rfl) | ((with_reducible apply go_fn_bool); rfl; (exact c142 ⟨b.x, b.y⟩); rfl))
             | (((with_reducible apply go_not); rfl; rfl))
             | (((with_reducible apply go_build); rfl; rfl))
             | (((with_reducible apply go_bx_agg); rfl; rfl; (exact Nat.le_of_ble_eq_true rfl); rfl; rfl)))
           | ((with_reducible (show evOps _ _ _ _ _ _)); first
             | (with_reducible apply go_nil))
           | ((with_reducible (show evG _ _ _ _ _)); first
             | (with_reducible apply go_seq)
             | (with_reducible apply go_region)
             | (((with_reducible apply go_cond); rfl) <;> (intro h; simp only [h]; try simp only [decide_eq_true_eq, decide_eq_false_iff_not, Bool.not_eq_true', Bool.not_eq_false', Bool.not_true, Bool.not_false] at h; try exact absurd trivial h))
             | (with_reducible apply go_ret)
             | (with_reducible apply go_skipc)
             | (with_reducible apply go_block))
           | (with_reducible apply go_kseq)
           | (with_reducible apply go_kseq_ret)
           | (with_reducible apply go_kblock)
           | (with_reducible apply go_kblock_ret)
           | ((with_reducible apply end_int); rfl)
  · simp only [borE]; rw [if_pos h]
  · rename_i h1
    simp only [borE]; rw [if_neg (by simp [h1]), if_pos (by omega)]
  · rename_i h1 h2
    simp only [borE]; rw [if_neg (by simp [h1]), if_neg (by omega), if_pos (by omega)]
  rename_i h1 h2
  have hb : borE g.soils b = firstE b.layers.length (layE g.soils b.layers) := by
    simp only [borE]; rw [if_neg (by simp [h1]), if_neg (by omega), if_neg (by omega)]
  rw [hb]
  refine go_count b.layers.length (fun i => ⟨[(28, .int .i64 i), (27, .int .i64 b.layers.length), (26, .sl (b.layers.map encLayer)), (3, .op 32 0 0), (2, .op 0 0 0)], [(32, ⟨4, true, [encBor b]⟩), (0, ⟨2, true, [encGround g]⟩)], 64, 62⟩) (fun i => ∀ j, j < i → layE g.soils b.layers j = 0)
    (entails_eq (k := 0) (ns := []) (ks := [28, 27, 26, 3, 2]) [(32, 32), (0, 0)] rfl (by simp) rfl) (by omega) ?_
  intro i hi hC
  repeat' first
           | (with_reducible apply go_op)
           | (with_reducible apply go_next)
           | ((with_reducible (show evOp _ _ _ _ _ _)); first
             | ((with_reducible (show evOp _ (.move _) _ _ _ _)) ; first | ((with_reducible apply go_mv_int); rfl; rfl) | ((with_reducible apply go_mv_bool); rfl; rfl))
             | ((with_reducible apply go_as))
             | ((with_reducible (show evOp _ (.load _ _) _ _ _ _)) ; first | ((with_reducible apply go_load); rfl; rfl; rfl) | ((with_reducible apply go_load_own); rfl; rfl; rfl; rfl))
             | ((with_reducible (show evOp _ (.fieldAddr _ _ _) _ _ _ _)) ; first | ((with_reducible apply go_fieldAddr); rfl; rfl) | ((with_reducible apply go_fieldAddr_own); rfl; rfl; rfl))
             | (((with_reducible apply go_index); rfl; rfl; (intro; rfl); rfl; omega; intro hlt))
             | ((with_reducible (show evOp _ (.binOp _ _ _ _ _) _ _ _ _)) ; first | ((with_reducible apply go_cmp); rfl; rfl; rfl; rfl) | ((with_reducible apply go_add); rfl; rfl; rfl; omega) | ((with_reducible apply go_sub); rfl; rfl; rfl; omega))
             | ((with_reducible (show evOp _ (.call _) _ _ _ _)) ; first | ((with_reducible apply go_fn_bool); rfl; (exact c114 _); rfl) | ((with_reducible apply go_fn_int); rfl; (exact c102 g.soils hl _); rfl))
             | (((with_reducible apply go_st_agg); rfl; rfl; rfl; rfl; rfl; rfl; rfl))
             | (((with_reducible apply go_not); rfl; rfl))
             | (((with_reducible apply go_pick); rfl; rfl; rfl))
             | (((with_reducible apply go_alloc); rfl; rfl; rfl)))
           | ((with_reducible (show evOps _ _ _ _ _ _)); first
             | (with_reducible apply go_nil)
             | ((with_reducible apply go_run); rfl; rfl)
             | ((with_reducible apply go_pass); rfl; rfl; rfl)
             | (((with_reducible apply go_guard); rfl) <;> (intro h; simp only [h, Bool.not_true, Bool.not_false]; (try with_reducible (refine ⟨rfl, ?_⟩)); try simp only [decide_eq_true_eq, decide_eq_false_iff_not, Bool.not_eq_true', Bool.not_eq_false', Bool.not_true, Bool.not_false] at h; try exact absurd trivial h))
             | ((with_reducible apply go_pre); rfl)
             | (with_reducible apply go_pre_nil)
             | ((with_reducible apply go_suf); rfl)
             | (with_reducible apply go_suf_nil))
           | ((with_reducible (show evG _ _ _ _ _)); first
             | (with_reducible apply go_seq)
             | (with_reducible apply go_region)
             | ((with_reducible apply go_cond_f); rfl; rfl)
             | (((with_reducible apply go_cond); rfl) <;> (intro h; simp only [h]; try simp only [decide_eq_true_eq, decide_eq_false_iff_not, Bool.not_eq_true', Bool.not_eq_false', Bool.not_true, Bool.not_false] at h; try exact absurd trivial h))
             | ((with_reducible apply go_order); kernel_rfl; rfl)
             | (with_reducible apply go_ret)
             | (with_reducible apply go_skipc)
             | (with_reducible apply go_block)
             | (with_reducible apply go_exit))
           | (with_reducible apply go_kseq)
           | (with_reducible apply go_ksuf)
           | (with_reducible apply go_kseq_ret)
           | (with_reducible apply go_kblock)
           | (with_reducible apply go_kblock_ret)
           | (with_reducible apply go_kblock_exit)
           | (with_reducible apply go_kseq_exit)
           | ((with_reducible apply end_int); rfl)
  all_goals try simp only [Int.toNat_natCast, show ((i : Int) - 1).toNat = i - 1 by omega] at *
  all_goals first
    | exact (firstE_zero fun j hj => hC j (by omega)).symm
    | (have h3 : i < b.layers.length := by omega
       first
         | exact lay_at h3 hC (layE_2 h3 (by assumption)) (by decide)
         | exact lay_at h3 hC (layE_9 h3 (by assumption) (by omega) (by assumption)) (by decide)
         | exact lay_at h3 hC (layE_6 h3 (by assumption) (.inl (by omega)) (by assumption)) (by decide)
         | exact lay_at h3 hC (layE_6 h3 (by assumption) (.inr ⟨by omega, by assumption⟩) (by assumption)) (by decide)
         | exact ⟨h3, lay_step hC (layE_0 h3 (by assumption) (.inl (by omega)) (by assumption)), entails_eq (k := 0) (ns := []) (ks := [28, 27, 26, 3, 2]) [(32, 32), (0, 0)] rfl (by simp) rfl⟩
         | exact ⟨h3, lay_step hC (layE_0 h3 (by assumption) (.inr ⟨by omega, by assumption⟩) (by assumption)), entails_eq (k := 0) (ns := []) (ks := [28, 27, 26, 3, 2]) [(32, 32), (0, 0)] rfl (by simp) rfl⟩)
end Go.Pv.Soil

open Go Go.Proofs Go.Pv
set_option maxHeartbeats 1000000
set_option maxRecDepth 100000
set_option linter.unusedSimpArgs false
set_option linter.unusedVariables false
namespace Go.Pv.Soil

end Go.Pv.Soil

open Go Go.Proofs Go.Pv
set_option maxHeartbeats 1000000
set_option maxRecDepth 100000
set_option linter.unusedSimpArgs false
set_option linter.unusedVariables false
namespace Go.Pv.Soil

theorem stabG (gr : Ground) : StabF [.agg (encGround gr)] := fun hp m ds ds' h => by
  show (pur hp (m + 16) (.agg (encGround gr))).bind _ = _
  have : pur hp (m + 16) (.agg (encGround gr)) = some (.agg (encGround gr)) := rfl
  rw [this]
  simp only [Option.bind_some]
  show (purL hp (m + 16) ([] ++ ds)).map _ = _
  rw [List.nil_append, h]
  rfl

theorem c86g (l : List Boring) (hl : l.length < 1000000000000) (g : FuncId) (gr : Ground) (nm : Boring → ByteArray) (er : Boring → Int) (hn : ∀ x, Contract Tryz.prog g [.agg (encBor x)] (.ret (.str (nm x)))) (he : ∀ x, Contract Tryz.prog 134 [.agg (encGround gr), .agg (encBor x)] (.ret (.int .i64 (er x)))) :
    Contract Tryz.prog 132 [.sl (l.map encBor), .clo (.func g) [] [], .clo (.func 134) [.agg (encGround gr)] []] (.ret (.int .i64 (eachE nm er l))) := by
  refine contract_of mix Tryz.func132 rfl rfl (by rw [Tryz.ntmps132]; exact Nat.le_of_ble_eq_true rfl) ?_; rw [Tryz.results132, Tryz.ntmps132]; simp only [argsE, Nat.reduceAdd]
  repeat' first
           | (with_reducible apply go_op)
           | (with_reducible apply go_next)
           | ((with_reducible (show evOp _ _ _ _ _ _)); first
             | ((with_reducible (show evOp _ (.move _) _ _ _ _)) ; first | ((with_reducible apply go_mv_int); rfl; rfl) | ((with_reducible apply go_mv_sl); rfl; rfl))
             | ((with_reducible apply go_as))
             | (((with_reducible apply go_len); rfl; rfl))
             | (((with_reducible apply go_bx_clo); rfl; rfl)))
           | ((with_reducible (show evOps _ _ _ _ _ _)); first
             | (with_reducible apply go_nil))
           | ((with_reducible (show evG _ _ _ _ _)); first
             | (with_reducible apply go_seq)
             | (with_reducible apply go_region)
             | (with_reducible apply go_block))
           | (with_reducible apply go_kseq)
  refine go_count l.length (fun i => ⟨[(13, .int .i64 i), (12, .int .i64 l.length), (11, .sl (l.map encBor)), (0, .sl (l.map encBor)), (2, .clo (.func 134) [.agg (encGround gr)] []), (4, .op 0 0 0)], [(0, ⟨1, false, [[.clo (.func g) [] []]]⟩)], 32, 36⟩) (fun i => ∀ j, j < i → stepE nm er l j = 0) (entails_eq (k := 0) (ns := []) (ks := [13, 12, 11, 0, 2, 4]) [(0, 0)] rfl (by simp) rfl) (by omega) ?_
  intro i hi hC
  repeat' first
           | (with_reducible apply go_op)
           | (with_reducible apply go_next)
           | ((with_reducible (show evOp _ _ _ _ _ _)); first
             | (((with_reducible apply go_mv_int); rfl; rfl))
             | ((with_reducible apply go_as))
             | ((with_reducible (show evOp _ (.load _ _) _ _ _ _)) ; first | ((with_reducible apply go_load); rfl; rfl; rfl) | ((with_reducible apply go_load_own); rfl; rfl; rfl; rfl))
             | (((with_reducible apply go_index); rfl; rfl; (intro; rfl); rfl; omega; intro hlt))
             | (((with_reducible apply go_cmp); rfl; rfl; rfl; rfl))
             | (((with_reducible apply go_st_agg); rfl; rfl; rfl; rfl; rfl; rfl; rfl))
             | (((with_reducible apply go_alloc); rfl; rfl; rfl)))
           | ((with_reducible (show evOps _ _ _ _ _ _)); first
             | (with_reducible apply go_nil))
           | ((with_reducible (show evG _ _ _ _ _)); first
             | (with_reducible apply go_seq)
             | (with_reducible apply go_region)
             | (((with_reducible apply go_cond); rfl) <;> (intro h; simp only [h]; try simp only [decide_eq_true_eq, decide_eq_false_iff_not, Bool.not_eq_true', Bool.not_eq_false', Bool.not_true, Bool.not_false] at h; try exact absurd trivial h))
             | (with_reducible apply go_ret)
             | (with_reducible apply go_skipc)
             | (with_reducible apply go_block)
             | (with_reducible apply go_exit))
           | (with_reducible apply go_kseq)
           | (with_reducible apply go_kblock_exit)
           | (with_reducible apply go_kseq_exit)
           | ((with_reducible apply end_int); rfl)
  refine go_clo_str (d1 := .agg (encBor l[i])) rfl rfl (fun _ _ => rfl) (hn _) rfl ?_
  repeat' first
           | (with_reducible apply go_op)
           | (with_reducible apply go_next)
           | ((with_reducible (show evOp _ _ _ _ _ _)); first
             | (((with_reducible apply go_load_own); rfl; rfl; rfl; rfl))
             | (((with_reducible apply go_st_str); rfl; rfl; rfl))
             | (((with_reducible apply go_alloc); rfl; rfl; rfl)))
           | ((with_reducible (show evOps _ _ _ _ _ _)); first
             | (with_reducible apply go_nil))
           | ((with_reducible (show evG _ _ _ _ _)); first
             | (with_reducible apply go_seq)
             | (with_reducible apply go_region))
           | (with_reducible apply go_kseq)
  refine go_fn_bool (args' := [.str (nm l[i])]) rfl (c137 _) rfl ?_
  repeat' first
           | (with_reducible apply go_op)
           | (with_reducible apply go_next)
           | ((with_reducible (show evOp _ _ _ _ _ _)); first
             | ((with_reducible (show evOp _ (.move _) _ _ _ _)) ; first | ((with_reducible apply go_mv_int); rfl; rfl) | ((with_reducible apply go_mv_sl); rfl; rfl))
             | ((with_reducible apply go_as))
             | (((with_reducible apply go_take_sl); rfl; rfl; (intro; rfl); rfl; omega))
             | (((with_reducible apply go_not); rfl; rfl))
             | (((with_reducible apply go_fn2); rfl; rfl; rfl)))
           | ((with_reducible (show evOps _ _ _ _ _ _)); first
             | (with_reducible apply go_nil))
           | ((with_reducible (show evG _ _ _ _ _)); first
             | (with_reducible apply go_seq)
             | (with_reducible apply go_region)
             | (((with_reducible apply go_cond); rfl) <;> (intro h; simp only [h]; try simp only [decide_eq_true_eq, decide_eq_false_iff_not, Bool.not_eq_true', Bool.not_eq_false', Bool.not_true, Bool.not_false] at h; try exact absurd trivial h))
             | (with_reducible apply go_ret)
             | (with_reducible apply go_skipc))
           | (with_reducible apply go_kseq)
           | (with_reducible apply go_kseq_ret)
           | (with_reducible apply go_kblock_ret)
           | ((with_reducible apply end_int); rfl)
  · have h2 : i < l.length := by omega
    exact each_at h2 hC (by simp [stepE, h2, h]) (by decide)
  refine go_fn_bool (args' := [.sl ((l.take i).map encBor), .clo (.func 152) [] [.ptr [.clo (.func g) [] []], .ptr [.str (nm l[i])]]]) rfl (c140 (l.take i) (by simp; omega) 152 _ (fun _ _ => rfl) rfl (fun y => decide (nm y = nm l[i])) fun y _ => c141 y _ _ g (hn y)) rfl ?_
  repeat' first
           | (with_reducible apply go_op)
           | (with_reducible apply go_next)
           | ((with_reducible (show evOp _ _ _ _ _ _)); first
             | ((with_reducible (show evOp _ (.move _) _ _ _ _)) ; first | ((with_reducible apply go_mv_int); rfl; rfl) | ((with_reducible apply go_mv_clo); rfl; rfl))
             | ((with_reducible apply go_as))
             | (((with_reducible apply go_load_own); rfl; rfl; rfl; rfl)))
           | ((with_reducible (show evOps _ _ _ _ _ _)); first
             | (with_reducible apply go_nil))
           | ((with_reducible (show evG _ _ _ _ _)); first
             | (with_reducible apply go_seq)
             | (with_reducible apply go_region)
             | (((with_reducible apply go_cond); rfl) <;> (intro h; simp only [h]; try simp only [decide_eq_true_eq, decide_eq_false_iff_not, Bool.not_eq_true', Bool.not_eq_false', Bool.not_true, Bool.not_false] at h; try exact absurd trivial h))
             | (with_reducible apply go_ret)
             | (with_reducible apply go_skipc))
           | (with_reducible apply go_kseq)
           | (with_reducible apply go_kseq_ret)
           | (with_reducible apply go_kblock_ret)
           | ((with_reducible apply end_int); rfl)
  · rename_i h1 _
    have h2 : i < l.length := by omega
    exact each_at h2 hC (by simp only [stepE, List.getElem?_eq_getElem h2, h, *]; simp) (by decide)
  refine go_call_bound (xs := [.agg (encGround gr)]) (d1 := .agg (encBor l[i])) (Nat.le_of_ble_eq_true rfl) rfl (fun _ => rfl) (stabG gr) (he _) rfl (Nat.le_of_ble_eq_true rfl) rfl ?_
  repeat' first
           | (with_reducible apply go_op)
           | (with_reducible apply go_next)
           | ((with_reducible (show evOp _ _ _ _ _ _)); first
             | (((with_reducible apply go_mv_int); rfl; rfl))
             | ((with_reducible apply go_as))
             | ((with_reducible (show evOp _ (.binOp _ _ _ _ _) _ _ _ _)) ; first | ((with_reducible apply go_cmp); rfl; rfl; rfl; rfl) | ((with_reducible apply go_add); rfl; rfl; rfl; omega)))
           | ((with_reducible (show evOps _ _ _ _ _ _)); first
             | (with_reducible apply go_nil))
           | ((with_reducible (show evG _ _ _ _ _)); first
             | (with_reducible apply go_seq)
             | (with_reducible apply go_region)
             | (((with_reducible apply go_cond); rfl) <;> (intro h; simp only [h]; try simp only [decide_eq_true_eq, decide_eq_false_iff_not, Bool.not_eq_true', Bool.not_eq_false', Bool.not_true, Bool.not_false] at h; try exact absurd trivial h))
             | (with_reducible apply go_ret)
             | (with_reducible apply go_skipc))
           | (with_reducible apply go_kseq)
           | (with_reducible apply go_kseq_ret)
           | (with_reducible apply go_kblock)
           | (with_reducible apply go_kblock_ret)
           | ((with_reducible apply end_int); rfl)
  · have h2 : i < l.length := by omega
    exact each_at h2 hC (by simp only [stepE, List.getElem?_eq_getElem h2, *]; simp) h
  · have h2 : i < l.length := by omega
    refine ⟨h2, fun j hj => ?_, entails_eq (k := 0) (ns := []) (ks := [13, 12, 11, 0, 2, 4]) [(0, 0)] rfl (by simp) rfl⟩
    rcases Nat.lt_succ_iff_lt_or_eq.1 hj with h' | rfl
    · exact hC j h'
    · simp only [stepE, List.getElem?_eq_getElem h2, *]; simp
  · refine (firstE_zero fun j hj => hC j (by omega)).symm

end Go.Pv.Soil

open Go Go.Proofs Go.Pv
set_option maxHeartbeats 1000000
set_option maxRecDepth 100000
set_option linter.unusedSimpArgs false
set_option linter.unusedVariables false
namespace Go.Pv.Soil

theorem c87' (x : Boring) : Contract Tryz.prog 133 [.agg (encBor x)] (.ret (.str x.name)) := c87 x

def groundE (g : Ground) : Int := if soilsE g.soils ≠ 0 then soilsE g.soils else if g.borings.length = 0 then 10 else if 20 < g.borings.length then 8 else eachE (·.name) (borE g.soils) g.borings

theorem c22 (g : Ground) (hl : g.soils.length < 1000000000000) (hb : g.borings.length < 1000000000000) : Contract Tryz.prog 100 [.agg (encGround g)] (.ret (.int .i64 (groundE g))) := by
  refine contract_of mix Tryz.func100 rfl rfl (by rw [Tryz.ntmps100]; exact Nat.le_of_ble_eq_true rfl) ?_; rw [Tryz.results100, Tryz.ntmps100]; simp only [argsE, Nat.reduceAdd]
  repeat' first
           | (with_reducible apply go_op)
           | (with_reducible apply go_next)
           | ((with_reducible (show evOp _ _ _ _ _ _)); first
             | (((with_reducible apply go_mv_int); rfl; rfl))
             | ((with_reducible apply go_as))
             | (((with_reducible apply go_load_own); rfl; rfl; rfl; rfl))
             | (((with_reducible apply go_fieldAddr_own); rfl; rfl; rfl))
             | (((with_reducible apply go_cmp); rfl; rfl; rfl; rfl))
             | ((with_reducible (show evOp _ (.call _) _ _ _ _)) ; first | ((with_reducible apply go_len); rfl; rfl) | ((with_reducible apply go_fn_int); rfl; (exact c20 g.soils hl); rfl))
             | (((with_reducible apply go_build); rfl; rfl))
             | (((with_reducible apply go_bx_agg); rfl; rfl; (exact Nat.le_of_ble_eq_true rfl); rfl; rfl)))
           | ((with_reducible (show evOps _ _ _ _ _ _)); first
             | (with_reducible apply go_nil))
           | ((with_reducible (show evG _ _ _ _ _)); first
             | (with_reducible apply go_seq)
             | (with_reducible apply go_region)
             | (((with_reducible apply go_cond); rfl) <;> (intro h; simp only [h]; try simp only [decide_eq_true_eq, decide_eq_false_iff_not, Bool.not_eq_true', Bool.not_eq_false', Bool.not_true, Bool.not_false] at h; try exact absurd trivial h))
             | (with_reducible apply go_ret)
             | (with_reducible apply go_skipc))
           | (with_reducible apply go_kseq)
           | (with_reducible apply go_kseq_ret)
           | ((with_reducible apply end_int); rfl)
  · simp only [groundE]; rw [if_pos h]
  · simp only [groundE]; rw [if_neg (by simp [*]), if_pos (by omega)]
  · simp only [groundE]; rw [if_neg (by simp [*]), if_neg (by omega), if_pos (by omega)]
  refine go_fn (us := [.agg (encGround g)]) (bs := []) rfl rfl rfl ?_
  repeat' first
           | (with_reducible apply go_op)
           | (with_reducible apply go_next)
  refine go_fn_int (args' := [.sl (g.borings.map encBor), .clo (.func 133) [] [], .clo (.func 134) [.agg (encGround g)] []]) rfl (c86g g.borings hb 133 g (·.name) (borE g.soils) c87 fun x => c88 g x hl) rfl ?_
  repeat' first
           | (with_reducible apply go_op)
           | (with_reducible apply go_next)
           | ((with_reducible (show evOp _ _ _ _ _ _)); first
             | (((with_reducible apply go_mv_int); rfl; rfl))
             | ((with_reducible apply go_as)))
           | ((with_reducible (show evOps _ _ _ _ _ _)); first
             | (with_reducible apply go_nil))
           | ((with_reducible (show evG _ _ _ _ _)); first
             | (with_reducible apply go_ret))
           | (with_reducible apply go_kseq)
           | ((with_reducible apply end_int); rfl)
  simp only [groundE]; rw [if_neg (by simp [*]), if_neg (by omega), if_neg (by omega)]
end Go.Pv.Soil
