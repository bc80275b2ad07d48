import Derived.Test.YtbojgmhpmcnfjaaProg
import Derived.Test.YtbojgmhpmcnfjaaPvD
import Derived.KernelRfl
/- Part of the proofs over Ytbojgmhpmcnfjaa: GFacts. -/
set_option linter.unusedVariables false
set_option linter.unusedSimpArgs false
set_option linter.unnecessarySimpa false
open Go Go.Proofs Go.Pv
namespace Go.Pv.Tf
instance tsh0 : TSh Try.prog 0 .one := ⟨by kernel_rfl⟩
instance tcl0 : TCells Try.prog 0 1 := ⟨by kernel_rfl, by decide⟩
instance tsh1 : TSh Try.prog 1 .one := ⟨by kernel_rfl⟩
instance tcl1 : TCells Try.prog 1 1 := ⟨by kernel_rfl, by decide⟩
instance tze1 : TZero Try.prog 1 (.nilfunc) := ⟨by kernel_rfl, rfl, by decide⟩
instance tsh2 : TSh Try.prog 2 .one := ⟨by kernel_rfl⟩
instance tcl2 : TCells Try.prog 2 1 := ⟨by kernel_rfl, by decide⟩
instance tze2 : TZero Try.prog 2 (.int .i64 0) := ⟨by kernel_rfl, rfl, by decide⟩
instance tsh3 : TSh Try.prog 3 .one := ⟨by kernel_rfl⟩
instance tcl3 : TCells Try.prog 3 1 := ⟨by kernel_rfl, by decide⟩
instance tze3 : TZero Try.prog 3 (.int .i64 0) := ⟨by kernel_rfl, rfl, by decide⟩
instance tsh4 : TSh Try.prog 4 .one := ⟨by kernel_rfl⟩
instance tcl4 : TCells Try.prog 4 1 := ⟨by kernel_rfl, by decide⟩
instance tze4 : TZero Try.prog 4 (.bool false) := ⟨by kernel_rfl, rfl, by decide⟩
instance tsh5 : TSh Try.prog 5 .one := ⟨by kernel_rfl⟩
instance tcl5 : TCells Try.prog 5 1 := ⟨by kernel_rfl, by decide⟩
instance tze5 : TZero Try.prog 5 (.int .u8 0) := ⟨by kernel_rfl, rfl, by decide⟩
instance tsh6 : TSh Try.prog 6 .one := ⟨by kernel_rfl⟩
instance tcl6 : TCells Try.prog 6 1 := ⟨by kernel_rfl, by decide⟩
instance tze6 : TZero Try.prog 6 (.int .u8 0) := ⟨by kernel_rfl, rfl, by decide⟩
instance tsh7 : TSh Try.prog 7 (.many 4) := ⟨by kernel_rfl⟩
instance tcl7 : TCells Try.prog 7 4 := ⟨by kernel_rfl, by decide⟩
instance tfl7x0 : TField Try.prog 7 0 0 2 := ⟨by kernel_rfl, kne (k := 1) (by kernel_rfl) (by decide)⟩
instance tfl7x1 : TField Try.prog 7 1 1 3 := ⟨by kernel_rfl, kne (k := 1) (by kernel_rfl) (by decide)⟩
instance tfl7x2 : TField Try.prog 7 2 2 4 := ⟨by kernel_rfl, kne (k := 1) (by kernel_rfl) (by decide)⟩
instance tfl7x3 : TField Try.prog 7 3 3 6 := ⟨by kernel_rfl, kne (k := 1) (by kernel_rfl) (by decide)⟩
instance tly7 : TLay Try.prog 7 [.int .i64 0, .int .i64 0, .bool false, .int .u8 0] [(0, 1), (1, 1), (2, 1), (3, 1)] := ⟨by kernel_rfl⟩
instance tze7 : TZero Try.prog 7 (.agg [.int .i64 0, .int .i64 0, .bool false, .int .u8 0]) := ⟨by kernel_rfl, rfl, by decide⟩
instance tsh8 : TSh Try.prog 8 (.many 4) := ⟨by kernel_rfl⟩
instance tcl8 : TCells Try.prog 8 4 := ⟨by kernel_rfl, by decide⟩
instance tfl8x0 : TField Try.prog 8 0 0 2 := ⟨by kernel_rfl, kne (k := 1) (by kernel_rfl) (by decide)⟩
instance tfl8x1 : TField Try.prog 8 1 1 3 := ⟨by kernel_rfl, kne (k := 1) (by kernel_rfl) (by decide)⟩
instance tfl8x2 : TField Try.prog 8 2 2 4 := ⟨by kernel_rfl, kne (k := 1) (by kernel_rfl) (by decide)⟩
instance tfl8x3 : TField Try.prog 8 3 3 6 := ⟨by kernel_rfl, kne (k := 1) (by kernel_rfl) (by decide)⟩
instance tly8 : TLay Try.prog 8 [.int .i64 0, .int .i64 0, .bool false, .int .u8 0] [(0, 1), (1, 1), (2, 1), (3, 1)] := ⟨by kernel_rfl⟩
instance tze8 : TZero Try.prog 8 (.agg [.int .i64 0, .int .i64 0, .bool false, .int .u8 0]) := ⟨by kernel_rfl, rfl, by decide⟩
instance tsh9 : TSh Try.prog 9 .one := ⟨by kernel_rfl⟩
instance tst9 : TStr Try.prog 9 := ⟨by kernel_rfl⟩
instance tcl9 : TCells Try.prog 9 1 := ⟨by kernel_rfl, by decide⟩
instance tze9 : TZero Try.prog 9 (.str ByteArray.empty) := ⟨by kernel_rfl, rfl, by decide⟩
instance tsh10 : TSh Try.prog 10 .one := ⟨by kernel_rfl⟩
instance tst10 : TStr Try.prog 10 := ⟨by kernel_rfl⟩
instance tcl10 : TCells Try.prog 10 1 := ⟨by kernel_rfl, by decide⟩
instance tze10 : TZero Try.prog 10 (.str ByteArray.empty) := ⟨by kernel_rfl, rfl, by decide⟩
instance tsh11 : TSh Try.prog 11 .one := ⟨by kernel_rfl⟩
instance tst11 : TStr Try.prog 11 := ⟨by kernel_rfl⟩
instance tcl11 : TCells Try.prog 11 1 := ⟨by kernel_rfl, by decide⟩
instance tze11 : TZero Try.prog 11 (.str ByteArray.empty) := ⟨by kernel_rfl, rfl, by decide⟩
instance tsh12 : TSh Try.prog 12 .one := ⟨by kernel_rfl⟩
instance tcl12 : TCells Try.prog 12 1 := ⟨by kernel_rfl, by decide⟩
instance tze12 : TZero Try.prog 12 (.int .u64 0) := ⟨by kernel_rfl, rfl, by decide⟩
instance tsh13 : TSh Try.prog 13 (.many 2) := ⟨by kernel_rfl⟩
instance tcl13 : TCells Try.prog 13 2 := ⟨by kernel_rfl, by decide⟩
instance tfl13x0 : TField Try.prog 13 0 0 9 := ⟨by kernel_rfl, kne (k := 1) (by kernel_rfl) (by decide)⟩
instance tfl13x1 : TField Try.prog 13 1 1 12 := ⟨by kernel_rfl, kne (k := 1) (by kernel_rfl) (by decide)⟩
instance tly13 : TLay Try.prog 13 [.str ByteArray.empty, .int .u64 0] [(0, 1), (1, 1)] := ⟨by kernel_rfl⟩
instance tze13 : TZero Try.prog 13 (.agg [.str ByteArray.empty, .int .u64 0]) := ⟨by kernel_rfl, rfl, by decide⟩
instance tsh14 : TSh Try.prog 14 (.many 2) := ⟨by kernel_rfl⟩
instance tcl14 : TCells Try.prog 14 2 := ⟨by kernel_rfl, by decide⟩
instance tfl14x0 : TField Try.prog 14 0 0 9 := ⟨by kernel_rfl, kne (k := 1) (by kernel_rfl) (by decide)⟩
instance tfl14x1 : TField Try.prog 14 1 1 12 := ⟨by kernel_rfl, kne (k := 1) (by kernel_rfl) (by decide)⟩
instance tly14 : TLay Try.prog 14 [.str ByteArray.empty, .int .u64 0] [(0, 1), (1, 1)] := ⟨by kernel_rfl⟩
instance tze14 : TZero Try.prog 14 (.agg [.str ByteArray.empty, .int .u64 0]) := ⟨by kernel_rfl, rfl, by decide⟩
instance tsh15 : TSh Try.prog 15 .one := ⟨by kernel_rfl⟩
instance tcl15 : TCells Try.prog 15 1 := ⟨by kernel_rfl, by decide⟩
instance tze15 : TZero Try.prog 15 (.nilptr) := ⟨by kernel_rfl, rfl, by decide⟩
instance tsh16 : TSh Try.prog 16 .one := ⟨by kernel_rfl⟩
instance tcl16 : TCells Try.prog 16 1 := ⟨by kernel_rfl, by decide⟩
instance tze16 : TZero Try.prog 16 (.nilptr) := ⟨by kernel_rfl, rfl, by decide⟩
instance tsh17 : TSh Try.prog 17 .one := ⟨by kernel_rfl⟩
instance tcl17 : TCells Try.prog 17 1 := ⟨by kernel_rfl, by decide⟩
instance tze17 : TZero Try.prog 17 (.nilptr) := ⟨by kernel_rfl, rfl, by decide⟩
instance tsh18 : TSh Try.prog 18 (.many 1) := ⟨by kernel_rfl⟩
instance tcl18 : TCells Try.prog 18 1 := ⟨by kernel_rfl, by decide⟩
instance tfl18x0 : TField Try.prog 18 0 0 17 := ⟨by kernel_rfl, kne (k := 1) (by kernel_rfl) (by decide)⟩
instance tly18 : TLay Try.prog 18 [.nilptr] [(0, 1)] := ⟨by kernel_rfl⟩
instance tze18 : TZero Try.prog 18 (.agg [.nilptr]) := ⟨by kernel_rfl, rfl, by decide⟩
instance tsh19 : TSh Try.prog 19 (.many 1) := ⟨by kernel_rfl⟩
instance tcl19 : TCells Try.prog 19 1 := ⟨by kernel_rfl, by decide⟩
instance tfl19x0 : TField Try.prog 19 0 0 17 := ⟨by kernel_rfl, kne (k := 1) (by kernel_rfl) (by decide)⟩
instance tly19 : TLay Try.prog 19 [.nilptr] [(0, 1)] := ⟨by kernel_rfl⟩
instance tze19 : TZero Try.prog 19 (.agg [.nilptr]) := ⟨by kernel_rfl, rfl, by decide⟩
instance tsh20 : TSh Try.prog 20 .one := ⟨by kernel_rfl⟩
instance tcl20 : TCells Try.prog 20 1 := ⟨by kernel_rfl, by decide⟩
instance tze20 : TZero Try.prog 20 (.nilif) := ⟨by kernel_rfl, rfl, by decide⟩
instance tsh21 : TSh Try.prog 21 .one := ⟨by kernel_rfl⟩
instance tcl21 : TCells Try.prog 21 1 := ⟨by kernel_rfl, by decide⟩
instance tze21 : TZero Try.prog 21 (.int .i32 0) := ⟨by kernel_rfl, rfl, by decide⟩
instance tsh22 : TSh Try.prog 22 (.many 2) := ⟨by kernel_rfl⟩
instance tcl22 : TCells Try.prog 22 2 := ⟨by kernel_rfl, by decide⟩
instance tfl22x0 : TField Try.prog 22 0 0 3 := ⟨by kernel_rfl, kne (k := 1) (by kernel_rfl) (by decide)⟩
instance tfl22x1 : TField Try.prog 22 1 1 3 := ⟨by kernel_rfl, kne (k := 1) (by kernel_rfl) (by decide)⟩
instance tly22 : TLay Try.prog 22 [.int .i64 0, .int .i64 0] [(0, 1), (1, 1)] := ⟨by kernel_rfl⟩
instance tze22 : TZero Try.prog 22 (.agg [.int .i64 0, .int .i64 0]) := ⟨by kernel_rfl, rfl, by decide⟩
instance tsh23 : TSh Try.prog 23 (.many 2) := ⟨by kernel_rfl⟩
instance tcl23 : TCells Try.prog 23 2 := ⟨by kernel_rfl, by decide⟩
instance tfl23x0 : TField Try.prog 23 0 0 3 := ⟨by kernel_rfl, kne (k := 1) (by kernel_rfl) (by decide)⟩
instance tfl23x1 : TField Try.prog 23 1 1 3 := ⟨by kernel_rfl, kne (k := 1) (by kernel_rfl) (by decide)⟩
instance tly23 : TLay Try.prog 23 [.int .i64 0, .int .i64 0] [(0, 1), (1, 1)] := ⟨by kernel_rfl⟩
instance tze23 : TZero Try.prog 23 (.agg [.int .i64 0, .int .i64 0]) := ⟨by kernel_rfl, rfl, by decide⟩
instance tsh24 : TSh Try.prog 24 (.many 8) := ⟨by kernel_rfl⟩
instance tcl24 : TCells Try.prog 24 8 := ⟨by kernel_rfl, by decide⟩
instance tze24 : TZero Try.prog 24 (.agg [.int .i64 0, .int .i64 0, .int .i64 0, .int .i64 0, .int .i64 0, .int .i64 0, .int .i64 0, .int .i64 0]) := ⟨by kernel_rfl, rfl, by decide⟩
instance tsh25 : TSh Try.prog 25 .one := ⟨by kernel_rfl⟩
instance tcl25 : TCells Try.prog 25 1 := ⟨by kernel_rfl, by decide⟩
instance tze25 : TZero Try.prog 25 (.nilfunc) := ⟨by kernel_rfl, rfl, by decide⟩
instance tsh26 : TSh Try.prog 26 .one := ⟨by kernel_rfl⟩
instance tcl26 : TCells Try.prog 26 1 := ⟨by kernel_rfl, by decide⟩
instance tze26 : TZero Try.prog 26 (.int .i64 0) := ⟨by kernel_rfl, rfl, by decide⟩
instance tsh27 : TSh Try.prog 27 .one := ⟨by kernel_rfl⟩
instance tcl27 : TCells Try.prog 27 1 := ⟨by kernel_rfl, by decide⟩
instance tsh28 : TSh Try.prog 28 .one := ⟨by kernel_rfl⟩
instance tcl28 : TCells Try.prog 28 1 := ⟨by kernel_rfl, by decide⟩
instance tze28 : TZero Try.prog 28 (.nilfunc) := ⟨by kernel_rfl, rfl, by decide⟩
instance tsh29 : TSh Try.prog 29 .one := ⟨by kernel_rfl⟩
instance tcl29 : TCells Try.prog 29 1 := ⟨by kernel_rfl, by decide⟩
instance tze29 : TZero Try.prog 29 (.nilfunc) := ⟨by kernel_rfl, rfl, by decide⟩
instance tsh30 : TSh Try.prog 30 .one := ⟨by kernel_rfl⟩
instance tcl30 : TCells Try.prog 30 1 := ⟨by kernel_rfl, by decide⟩
instance tze30 : TZero Try.prog 30 (.nilfunc) := ⟨by kernel_rfl, rfl, by decide⟩
instance tsh31 : TSh Try.prog 31 .one := ⟨by kernel_rfl⟩
instance tcl31 : TCells Try.prog 31 1 := ⟨by kernel_rfl, by decide⟩
instance tsl31 : TSlice Try.prog 31 23 2 := ⟨by kernel_rfl, by kernel_rfl, by decide⟩
instance tze31 : TZero Try.prog 31 (.nilsl) := ⟨by kernel_rfl, rfl, by decide⟩
instance tsh32 : TSh Try.prog 32 .one := ⟨by kernel_rfl⟩
instance tcl32 : TCells Try.prog 32 1 := ⟨by kernel_rfl, by decide⟩
instance tze32 : TZero Try.prog 32 (.nilfunc) := ⟨by kernel_rfl, rfl, by decide⟩
instance tsh33 : TSh Try.prog 33 .one := ⟨by kernel_rfl⟩
instance tcl33 : TCells Try.prog 33 1 := ⟨by kernel_rfl, by decide⟩
instance tze33 : TZero Try.prog 33 (.nilfunc) := ⟨by kernel_rfl, rfl, by decide⟩
instance tsh34 : TSh Try.prog 34 .one := ⟨by kernel_rfl⟩
instance tcl34 : TCells Try.prog 34 1 := ⟨by kernel_rfl, by decide⟩
instance tze34 : TZero Try.prog 34 (.nilfunc) := ⟨by kernel_rfl, rfl, by decide⟩
instance tsh35 : TSh Try.prog 35 .one := ⟨by kernel_rfl⟩
instance tcl35 : TCells Try.prog 35 1 := ⟨by kernel_rfl, by decide⟩
instance tsh36 : TSh Try.prog 36 .one := ⟨by kernel_rfl⟩
instance tcl36 : TCells Try.prog 36 1 := ⟨by kernel_rfl, by decide⟩
instance tze36 : TZero Try.prog 36 (.nilfunc) := ⟨by kernel_rfl, rfl, by decide⟩
instance tsh37 : TSh Try.prog 37 .one := ⟨by kernel_rfl⟩
instance tcl37 : TCells Try.prog 37 1 := ⟨by kernel_rfl, by decide⟩
instance tze37 : TZero Try.prog 37 (.nilfunc) := ⟨by kernel_rfl, rfl, by decide⟩
instance tsh38 : TSh Try.prog 38 .one := ⟨by kernel_rfl⟩
instance tcl38 : TCells Try.prog 38 1 := ⟨by kernel_rfl, by decide⟩
instance tze38 : TZero Try.prog 38 (.nilfunc) := ⟨by kernel_rfl, rfl, by decide⟩
instance tsh39 : TSh Try.prog 39 .one := ⟨by kernel_rfl⟩
instance tcl39 : TCells Try.prog 39 1 := ⟨by kernel_rfl, by decide⟩
instance tze39 : TZero Try.prog 39 (.nilfunc) := ⟨by kernel_rfl, rfl, by decide⟩
instance tsh40 : TSh Try.prog 40 .one := ⟨by kernel_rfl⟩
instance tcl40 : TCells Try.prog 40 1 := ⟨by kernel_rfl, by decide⟩
instance tze40 : TZero Try.prog 40 (.nilfunc) := ⟨by kernel_rfl, rfl, by decide⟩
instance tsh41 : TSh Try.prog 41 .one := ⟨by kernel_rfl⟩
instance tcl41 : TCells Try.prog 41 1 := ⟨by kernel_rfl, by decide⟩
instance tsl41 : TSlice Try.prog 41 47 3 := ⟨by kernel_rfl, by kernel_rfl, by decide⟩
instance tze41 : TZero Try.prog 41 (.nilsl) := ⟨by kernel_rfl, rfl, by decide⟩
instance tsh42 : TSh Try.prog 42 .one := ⟨by kernel_rfl⟩
instance tcl42 : TCells Try.prog 42 1 := ⟨by kernel_rfl, by decide⟩
instance tsh43 : TSh Try.prog 43 .one := ⟨by kernel_rfl⟩
instance tcl43 : TCells Try.prog 43 1 := ⟨by kernel_rfl, by decide⟩
instance tze43 : TZero Try.prog 43 (.nilfunc) := ⟨by kernel_rfl, rfl, by decide⟩
instance tsh44 : TSh Try.prog 44 .one := ⟨by kernel_rfl⟩
instance tcl44 : TCells Try.prog 44 1 := ⟨by kernel_rfl, by decide⟩
instance tze44 : TZero Try.prog 44 (.nilfunc) := ⟨by kernel_rfl, rfl, by decide⟩
instance tsh45 : TSh Try.prog 45 .one := ⟨by kernel_rfl⟩
instance tcl45 : TCells Try.prog 45 1 := ⟨by kernel_rfl, by decide⟩
instance tze45 : TZero Try.prog 45 (.nilfunc) := ⟨by kernel_rfl, rfl, by decide⟩
instance tsh46 : TSh Try.prog 46 (.many 3) := ⟨by kernel_rfl⟩
instance tcl46 : TCells Try.prog 46 3 := ⟨by kernel_rfl, by decide⟩
instance tfl46x0 : TField Try.prog 46 0 0 3 := ⟨by kernel_rfl, kne (k := 1) (by kernel_rfl) (by decide)⟩
instance tfl46x1 : TField Try.prog 46 1 1 3 := ⟨by kernel_rfl, kne (k := 1) (by kernel_rfl) (by decide)⟩
instance tfl46x2 : TField Try.prog 46 2 2 3 := ⟨by kernel_rfl, kne (k := 1) (by kernel_rfl) (by decide)⟩
instance tly46 : TLay Try.prog 46 [.int .i64 0, .int .i64 0, .int .i64 0] [(0, 1), (1, 1), (2, 1)] := ⟨by kernel_rfl⟩
instance tze46 : TZero Try.prog 46 (.agg [.int .i64 0, .int .i64 0, .int .i64 0]) := ⟨by kernel_rfl, rfl, by decide⟩
instance tsh47 : TSh Try.prog 47 (.many 3) := ⟨by kernel_rfl⟩
instance tcl47 : TCells Try.prog 47 3 := ⟨by kernel_rfl, by decide⟩
instance tfl47x0 : TField Try.prog 47 0 0 3 := ⟨by kernel_rfl, kne (k := 1) (by kernel_rfl) (by decide)⟩
instance tfl47x1 : TField Try.prog 47 1 1 3 := ⟨by kernel_rfl, kne (k := 1) (by kernel_rfl) (by decide)⟩
instance tfl47x2 : TField Try.prog 47 2 2 3 := ⟨by kernel_rfl, kne (k := 1) (by kernel_rfl) (by decide)⟩
instance tly47 : TLay Try.prog 47 [.int .i64 0, .int .i64 0, .int .i64 0] [(0, 1), (1, 1), (2, 1)] := ⟨by kernel_rfl⟩
instance tze47 : TZero Try.prog 47 (.agg [.int .i64 0, .int .i64 0, .int .i64 0]) := ⟨by kernel_rfl, rfl, by decide⟩
instance tsh48 : TSh Try.prog 48 .one := ⟨by kernel_rfl⟩
instance tcl48 : TCells Try.prog 48 1 := ⟨by kernel_rfl, by decide⟩
instance tze48 : TZero Try.prog 48 (.nilfunc) := ⟨by kernel_rfl, rfl, by decide⟩
instance tsh49 : TSh Try.prog 49 .one := ⟨by kernel_rfl⟩
instance tcl49 : TCells Try.prog 49 1 := ⟨by kernel_rfl, by decide⟩
instance tze49 : TZero Try.prog 49 (.nilfunc) := ⟨by kernel_rfl, rfl, by decide⟩
instance tsh50 : TSh Try.prog 50 .one := ⟨by kernel_rfl⟩
instance tcl50 : TCells Try.prog 50 1 := ⟨by kernel_rfl, by decide⟩
instance tze50 : TZero Try.prog 50 (.nilfunc) := ⟨by kernel_rfl, rfl, by decide⟩
instance tsh51 : TSh Try.prog 51 .one := ⟨by kernel_rfl⟩
instance tcl51 : TCells Try.prog 51 1 := ⟨by kernel_rfl, by decide⟩
instance tze51 : TZero Try.prog 51 (.nilfunc) := ⟨by kernel_rfl, rfl, by decide⟩
instance tsh52 : TSh Try.prog 52 .one := ⟨by kernel_rfl⟩
instance tcl52 : TCells Try.prog 52 1 := ⟨by kernel_rfl, by decide⟩
instance tze52 : TZero Try.prog 52 (.nilfunc) := ⟨by kernel_rfl, rfl, by decide⟩
instance tsh53 : TSh Try.prog 53 .one := ⟨by kernel_rfl⟩
instance tcl53 : TCells Try.prog 53 1 := ⟨by kernel_rfl, by decide⟩
instance tze53 : TZero Try.prog 53 (.nilfunc) := ⟨by kernel_rfl, rfl, by decide⟩
instance tsh54 : TSh Try.prog 54 .one := ⟨by kernel_rfl⟩
instance tcl54 : TCells Try.prog 54 1 := ⟨by kernel_rfl, by decide⟩
instance tze54 : TZero Try.prog 54 (.nilfunc) := ⟨by kernel_rfl, rfl, by decide⟩
instance tsh55 : TSh Try.prog 55 .one := ⟨by kernel_rfl⟩
instance tcl55 : TCells Try.prog 55 1 := ⟨by kernel_rfl, by decide⟩
instance tsh56 : TSh Try.prog 56 .one := ⟨by kernel_rfl⟩
instance tcl56 : TCells Try.prog 56 1 := ⟨by kernel_rfl, by decide⟩
instance tze56 : TZero Try.prog 56 (.nilfunc) := ⟨by kernel_rfl, rfl, by decide⟩
instance tsh57 : TSh Try.prog 57 .one := ⟨by kernel_rfl⟩
instance tcl57 : TCells Try.prog 57 1 := ⟨by kernel_rfl, by decide⟩
instance tze57 : TZero Try.prog 57 (.nilfunc) := ⟨by kernel_rfl, rfl, by decide⟩
instance tsh58 : TSh Try.prog 58 .one := ⟨by kernel_rfl⟩
instance tcl58 : TCells Try.prog 58 1 := ⟨by kernel_rfl, by decide⟩
instance tze58 : TZero Try.prog 58 (.nilfunc) := ⟨by kernel_rfl, rfl, by decide⟩
instance tsh59 : TSh Try.prog 59 .one := ⟨by kernel_rfl⟩
instance tcl59 : TCells Try.prog 59 1 := ⟨by kernel_rfl, by decide⟩
instance tze59 : TZero Try.prog 59 (.nilfunc) := ⟨by kernel_rfl, rfl, by decide⟩
instance tsh60 : TSh Try.prog 60 .one := ⟨by kernel_rfl⟩
instance tcl60 : TCells Try.prog 60 1 := ⟨by kernel_rfl, by decide⟩
instance tsl60 : TSlice Try.prog 60 76 3 := ⟨by kernel_rfl, by kernel_rfl, by decide⟩
instance tze60 : TZero Try.prog 60 (.nilsl) := ⟨by kernel_rfl, rfl, by decide⟩
instance tsh61 : TSh Try.prog 61 (.many 7) := ⟨by kernel_rfl⟩
instance tcl61 : TCells Try.prog 61 7 := ⟨by kernel_rfl, by decide⟩
instance tfl61x0 : TField Try.prog 61 0 0 60 := ⟨by kernel_rfl, kne (k := 1) (by kernel_rfl) (by decide)⟩
instance tfl61x1 : TField Try.prog 61 1 1 47 := ⟨by kernel_rfl, kne (k := 3) (by kernel_rfl) (by decide)⟩
instance tfl61x2 : TField Try.prog 61 2 4 23 := ⟨by kernel_rfl, kne (k := 2) (by kernel_rfl) (by decide)⟩
instance tfl61x3 : TField Try.prog 61 3 6 3 := ⟨by kernel_rfl, kne (k := 1) (by kernel_rfl) (by decide)⟩
instance tly61 : TLay Try.prog 61 [.nilsl, .int .i64 0, .int .i64 0, .int .i64 0, .int .i64 0, .int .i64 0, .int .i64 0] [(0, 1), (1, 3), (4, 2), (6, 1)] := ⟨by kernel_rfl⟩
instance tze61 : TZero Try.prog 61 (.agg [.nilsl, .int .i64 0, .int .i64 0, .int .i64 0, .int .i64 0, .int .i64 0, .int .i64 0]) := ⟨by kernel_rfl, rfl, by decide⟩
instance tsh62 : TSh Try.prog 62 (.many 7) := ⟨by kernel_rfl⟩
instance tcl62 : TCells Try.prog 62 7 := ⟨by kernel_rfl, by decide⟩
instance tfl62x0 : TField Try.prog 62 0 0 60 := ⟨by kernel_rfl, kne (k := 1) (by kernel_rfl) (by decide)⟩
instance tfl62x1 : TField Try.prog 62 1 1 47 := ⟨by kernel_rfl, kne (k := 3) (by kernel_rfl) (by decide)⟩
instance tfl62x2 : TField Try.prog 62 2 4 23 := ⟨by kernel_rfl, kne (k := 2) (by kernel_rfl) (by decide)⟩
instance tfl62x3 : TField Try.prog 62 3 6 3 := ⟨by kernel_rfl, kne (k := 1) (by kernel_rfl) (by decide)⟩
instance tly62 : TLay Try.prog 62 [.nilsl, .int .i64 0, .int .i64 0, .int .i64 0, .int .i64 0, .int .i64 0, .int .i64 0] [(0, 1), (1, 3), (4, 2), (6, 1)] := ⟨by kernel_rfl⟩
instance tze62 : TZero Try.prog 62 (.agg [.nilsl, .int .i64 0, .int .i64 0, .int .i64 0, .int .i64 0, .int .i64 0, .int .i64 0]) := ⟨by kernel_rfl, rfl, by decide⟩
instance tsh63 : TSh Try.prog 63 (.many 2) := ⟨by kernel_rfl⟩
instance tcl63 : TCells Try.prog 63 2 := ⟨by kernel_rfl, by decide⟩
instance tfl63x0 : TField Try.prog 63 0 0 3 := ⟨by kernel_rfl, kne (k := 1) (by kernel_rfl) (by decide)⟩
instance tfl63x1 : TField Try.prog 63 1 1 3 := ⟨by kernel_rfl, kne (k := 1) (by kernel_rfl) (by decide)⟩
instance tly63 : TLay Try.prog 63 [.int .i64 0, .int .i64 0] [(0, 1), (1, 1)] := ⟨by kernel_rfl⟩
instance tze63 : TZero Try.prog 63 (.agg [.int .i64 0, .int .i64 0]) := ⟨by kernel_rfl, rfl, by decide⟩
instance tsh64 : TSh Try.prog 64 (.many 2) := ⟨by kernel_rfl⟩
instance tcl64 : TCells Try.prog 64 2 := ⟨by kernel_rfl, by decide⟩
instance tfl64x0 : TField Try.prog 64 0 0 3 := ⟨by kernel_rfl, kne (k := 1) (by kernel_rfl) (by decide)⟩
instance tfl64x1 : TField Try.prog 64 1 1 3 := ⟨by kernel_rfl, kne (k := 1) (by kernel_rfl) (by decide)⟩
instance tly64 : TLay Try.prog 64 [.int .i64 0, .int .i64 0] [(0, 1), (1, 1)] := ⟨by kernel_rfl⟩
instance tze64 : TZero Try.prog 64 (.agg [.int .i64 0, .int .i64 0]) := ⟨by kernel_rfl, rfl, by decide⟩
instance tsh65 : TSh Try.prog 65 .one := ⟨by kernel_rfl⟩
instance tcl65 : TCells Try.prog 65 1 := ⟨by kernel_rfl, by decide⟩
instance tsh66 : TSh Try.prog 66 .one := ⟨by kernel_rfl⟩
instance tcl66 : TCells Try.prog 66 1 := ⟨by kernel_rfl, by decide⟩
instance tze66 : TZero Try.prog 66 (.nilfunc) := ⟨by kernel_rfl, rfl, by decide⟩
instance tsh67 : TSh Try.prog 67 .one := ⟨by kernel_rfl⟩
instance tcl67 : TCells Try.prog 67 1 := ⟨by kernel_rfl, by decide⟩
instance tze67 : TZero Try.prog 67 (.nilfunc) := ⟨by kernel_rfl, rfl, by decide⟩
instance tsh68 : TSh Try.prog 68 .one := ⟨by kernel_rfl⟩
instance tcl68 : TCells Try.prog 68 1 := ⟨by kernel_rfl, by decide⟩
instance tze68 : TZero Try.prog 68 (.nilfunc) := ⟨by kernel_rfl, rfl, by decide⟩
instance tsh69 : TSh Try.prog 69 .one := ⟨by kernel_rfl⟩
instance tcl69 : TCells Try.prog 69 1 := ⟨by kernel_rfl, by decide⟩
instance tze69 : TZero Try.prog 69 (.nilfunc) := ⟨by kernel_rfl, rfl, by decide⟩
instance tsh70 : TSh Try.prog 70 .one := ⟨by kernel_rfl⟩
instance tcl70 : TCells Try.prog 70 1 := ⟨by kernel_rfl, by decide⟩
instance tze70 : TZero Try.prog 70 (.nilfunc) := ⟨by kernel_rfl, rfl, by decide⟩
instance tsh71 : TSh Try.prog 71 .one := ⟨by kernel_rfl⟩
instance tcl71 : TCells Try.prog 71 1 := ⟨by kernel_rfl, by decide⟩
instance tze71 : TZero Try.prog 71 (.nilfunc) := ⟨by kernel_rfl, rfl, by decide⟩
instance tsh72 : TSh Try.prog 72 .one := ⟨by kernel_rfl⟩
instance tcl72 : TCells Try.prog 72 1 := ⟨by kernel_rfl, by decide⟩
instance tze72 : TZero Try.prog 72 (.int .i8 0) := ⟨by kernel_rfl, rfl, by decide⟩
instance tsh73 : TSh Try.prog 73 (.many 3) := ⟨by kernel_rfl⟩
instance tcl73 : TCells Try.prog 73 3 := ⟨by kernel_rfl, by decide⟩
instance tze73 : TZero Try.prog 73 (.agg [.int .i8 0, .int .i8 0, .int .i8 0]) := ⟨by kernel_rfl, rfl, by decide⟩
instance tsh74 : TSh Try.prog 74 .one := ⟨by kernel_rfl⟩
instance tcl74 : TCells Try.prog 74 1 := ⟨by kernel_rfl, by decide⟩
instance tze74 : TZero Try.prog 74 (.nilfunc) := ⟨by kernel_rfl, rfl, by decide⟩
instance tsh75 : TSh Try.prog 75 (.many 3) := ⟨by kernel_rfl⟩
instance tcl75 : TCells Try.prog 75 3 := ⟨by kernel_rfl, by decide⟩
instance tfl75x0 : TField Try.prog 75 0 0 3 := ⟨by kernel_rfl, kne (k := 1) (by kernel_rfl) (by decide)⟩
instance tfl75x1 : TField Try.prog 75 1 1 3 := ⟨by kernel_rfl, kne (k := 1) (by kernel_rfl) (by decide)⟩
instance tfl75x2 : TField Try.prog 75 2 2 3 := ⟨by kernel_rfl, kne (k := 1) (by kernel_rfl) (by decide)⟩
instance tly75 : TLay Try.prog 75 [.int .i64 0, .int .i64 0, .int .i64 0] [(0, 1), (1, 1), (2, 1)] := ⟨by kernel_rfl⟩
instance tze75 : TZero Try.prog 75 (.agg [.int .i64 0, .int .i64 0, .int .i64 0]) := ⟨by kernel_rfl, rfl, by decide⟩
instance tsh76 : TSh Try.prog 76 (.many 3) := ⟨by kernel_rfl⟩
instance tcl76 : TCells Try.prog 76 3 := ⟨by kernel_rfl, by decide⟩
instance tfl76x0 : TField Try.prog 76 0 0 3 := ⟨by kernel_rfl, kne (k := 1) (by kernel_rfl) (by decide)⟩
instance tfl76x1 : TField Try.prog 76 1 1 3 := ⟨by kernel_rfl, kne (k := 1) (by kernel_rfl) (by decide)⟩
instance tfl76x2 : TField Try.prog 76 2 2 3 := ⟨by kernel_rfl, kne (k := 1) (by kernel_rfl) (by decide)⟩
instance tly76 : TLay Try.prog 76 [.int .i64 0, .int .i64 0, .int .i64 0] [(0, 1), (1, 1), (2, 1)] := ⟨by kernel_rfl⟩
instance tze76 : TZero Try.prog 76 (.agg [.int .i64 0, .int .i64 0, .int .i64 0]) := ⟨by kernel_rfl, rfl, by decide⟩
instance tsh77 : TSh Try.prog 77 .one := ⟨by kernel_rfl⟩
instance tcl77 : TCells Try.prog 77 1 := ⟨by kernel_rfl, by decide⟩
instance tze77 : TZero Try.prog 77 (.nilfunc) := ⟨by kernel_rfl, rfl, by decide⟩
instance tsh78 : TSh Try.prog 78 .one := ⟨by kernel_rfl⟩
instance tcl78 : TCells Try.prog 78 1 := ⟨by kernel_rfl, by decide⟩
instance tze78 : TZero Try.prog 78 (.nilfunc) := ⟨by kernel_rfl, rfl, by decide⟩
instance tsh79 : TSh Try.prog 79 .one := ⟨by kernel_rfl⟩
instance tcl79 : TCells Try.prog 79 1 := ⟨by kernel_rfl, by decide⟩
instance tze79 : TZero Try.prog 79 (.nilfunc) := ⟨by kernel_rfl, rfl, by decide⟩
instance tsh80 : TSh Try.prog 80 .one := ⟨by kernel_rfl⟩
instance tcl80 : TCells Try.prog 80 1 := ⟨by kernel_rfl, by decide⟩
instance tsh81 : TSh Try.prog 81 .one := ⟨by kernel_rfl⟩
instance tcl81 : TCells Try.prog 81 1 := ⟨by kernel_rfl, by decide⟩
instance tze81 : TZero Try.prog 81 (.nilfunc) := ⟨by kernel_rfl, rfl, by decide⟩
instance tsh82 : TSh Try.prog 82 .one := ⟨by kernel_rfl⟩
instance tcl82 : TCells Try.prog 82 1 := ⟨by kernel_rfl, by decide⟩
instance tze82 : TZero Try.prog 82 (.nilfunc) := ⟨by kernel_rfl, rfl, by decide⟩
instance tsh83 : TSh Try.prog 83 .one := ⟨by kernel_rfl⟩
instance tcl83 : TCells Try.prog 83 1 := ⟨by kernel_rfl, by decide⟩
instance tze83 : TZero Try.prog 83 (.nilfunc) := ⟨by kernel_rfl, rfl, by decide⟩
instance tsh84 : TSh Try.prog 84 .one := ⟨by kernel_rfl⟩
instance tcl84 : TCells Try.prog 84 1 := ⟨by kernel_rfl, by decide⟩
instance tze84 : TZero Try.prog 84 (.nilfunc) := ⟨by kernel_rfl, rfl, by decide⟩
instance tsh85 : TSh Try.prog 85 .one := ⟨by kernel_rfl⟩
instance tcl85 : TCells Try.prog 85 1 := ⟨by kernel_rfl, by decide⟩
instance tze85 : TZero Try.prog 85 (.nilfunc) := ⟨by kernel_rfl, rfl, by decide⟩
instance tsh86 : TSh Try.prog 86 .one := ⟨by kernel_rfl⟩
instance tcl86 : TCells Try.prog 86 1 := ⟨by kernel_rfl, by decide⟩
instance tze86 : TZero Try.prog 86 (.nilfunc) := ⟨by kernel_rfl, rfl, by decide⟩
instance tsh87 : TSh Try.prog 87 .one := ⟨by kernel_rfl⟩
instance tcl87 : TCells Try.prog 87 1 := ⟨by kernel_rfl, by decide⟩
instance tze87 : TZero Try.prog 87 (.nilfunc) := ⟨by kernel_rfl, rfl, by decide⟩
instance tsh88 : TSh Try.prog 88 .one := ⟨by kernel_rfl⟩
instance tcl88 : TCells Try.prog 88 1 := ⟨by kernel_rfl, by decide⟩
instance tze88 : TZero Try.prog 88 (.nilfunc) := ⟨by kernel_rfl, rfl, by decide⟩
instance tsh89 : TSh Try.prog 89 .one := ⟨by kernel_rfl⟩
instance tcl89 : TCells Try.prog 89 1 := ⟨by kernel_rfl, by decide⟩
instance tze89 : TZero Try.prog 89 (.nilfunc) := ⟨by kernel_rfl, rfl, by decide⟩
instance tsh90 : TSh Try.prog 90 .one := ⟨by kernel_rfl⟩
instance tcl90 : TCells Try.prog 90 1 := ⟨by kernel_rfl, by decide⟩
instance tze90 : TZero Try.prog 90 (.nilfunc) := ⟨by kernel_rfl, rfl, by decide⟩
instance tsh91 : TSh Try.prog 91 .one := ⟨by kernel_rfl⟩
instance tcl91 : TCells Try.prog 91 1 := ⟨by kernel_rfl, by decide⟩
instance tze91 : TZero Try.prog 91 (.nilfunc) := ⟨by kernel_rfl, rfl, by decide⟩
instance tsh92 : TSh Try.prog 92 (.many 6) := ⟨by kernel_rfl⟩
instance tcl92 : TCells Try.prog 92 6 := ⟨by kernel_rfl, by decide⟩
instance tze92 : TZero Try.prog 92 (.agg [.int .i64 0, .int .i64 0, .int .i64 0, .int .i64 0, .int .i64 0, .int .i64 0]) := ⟨by kernel_rfl, rfl, by decide⟩
instance tsh93 : TSh Try.prog 93 .one := ⟨by kernel_rfl⟩
instance tcl93 : TCells Try.prog 93 1 := ⟨by kernel_rfl, by decide⟩
instance tze93 : TZero Try.prog 93 (.nilfunc) := ⟨by kernel_rfl, rfl, by decide⟩
instance tsh94 : TSh Try.prog 94 .one := ⟨by kernel_rfl⟩
instance tcl94 : TCells Try.prog 94 1 := ⟨by kernel_rfl, by decide⟩
instance tze94 : TZero Try.prog 94 (.nilfunc) := ⟨by kernel_rfl, rfl, by decide⟩
instance tsh95 : TSh Try.prog 95 .one := ⟨by kernel_rfl⟩
instance tcl95 : TCells Try.prog 95 1 := ⟨by kernel_rfl, by decide⟩
instance tze95 : TZero Try.prog 95 (.nilfunc) := ⟨by kernel_rfl, rfl, by decide⟩
instance tsh96 : TSh Try.prog 96 .one := ⟨by kernel_rfl⟩
instance tcl96 : TCells Try.prog 96 1 := ⟨by kernel_rfl, by decide⟩
instance tze96 : TZero Try.prog 96 (.nilfunc) := ⟨by kernel_rfl, rfl, by decide⟩
instance tsh97 : TSh Try.prog 97 .one := ⟨by kernel_rfl⟩
instance tcl97 : TCells Try.prog 97 1 := ⟨by kernel_rfl, by decide⟩
instance tze97 : TZero Try.prog 97 (.nilfunc) := ⟨by kernel_rfl, rfl, by decide⟩
instance tsh98 : TSh Try.prog 98 (.many 2) := ⟨by kernel_rfl⟩
instance tcl98 : TCells Try.prog 98 2 := ⟨by kernel_rfl, by decide⟩
instance tfl98x0 : TField Try.prog 98 0 0 26 := ⟨by kernel_rfl, kne (k := 1) (by kernel_rfl) (by decide)⟩
instance tfl98x1 : TField Try.prog 98 1 1 30 := ⟨by kernel_rfl, kne (k := 1) (by kernel_rfl) (by decide)⟩
instance tly98 : TLay Try.prog 98 [.int .i64 0, .nilfunc] [(0, 1), (1, 1)] := ⟨by kernel_rfl⟩
instance tze98 : TZero Try.prog 98 (.agg [.int .i64 0, .nilfunc]) := ⟨by kernel_rfl, rfl, by decide⟩
instance tsh99 : TSh Try.prog 99 (.many 2) := ⟨by kernel_rfl⟩
instance tcl99 : TCells Try.prog 99 2 := ⟨by kernel_rfl, by decide⟩
instance tfl99x0 : TField Try.prog 99 0 0 26 := ⟨by kernel_rfl, kne (k := 1) (by kernel_rfl) (by decide)⟩
instance tfl99x1 : TField Try.prog 99 1 1 30 := ⟨by kernel_rfl, kne (k := 1) (by kernel_rfl) (by decide)⟩
instance tly99 : TLay Try.prog 99 [.int .i64 0, .nilfunc] [(0, 1), (1, 1)] := ⟨by kernel_rfl⟩
instance tze99 : TZero Try.prog 99 (.agg [.int .i64 0, .nilfunc]) := ⟨by kernel_rfl, rfl, by decide⟩
instance tsh100 : TSh Try.prog 100 (.many 8) := ⟨by kernel_rfl⟩
instance tcl100 : TCells Try.prog 100 8 := ⟨by kernel_rfl, by decide⟩
instance tze100 : TZero Try.prog 100 (.agg [.int .i64 0, .nilfunc, .int .i64 0, .nilfunc, .int .i64 0, .nilfunc, .int .i64 0, .nilfunc]) := ⟨by kernel_rfl, rfl, by decide⟩
instance tsh101 : TSh Try.prog 101 .one := ⟨by kernel_rfl⟩
instance tcl101 : TCells Try.prog 101 1 := ⟨by kernel_rfl, by decide⟩
instance tze101 : TZero Try.prog 101 (.nilfunc) := ⟨by kernel_rfl, rfl, by decide⟩
instance tsh102 : TSh Try.prog 102 (.many 9) := ⟨by kernel_rfl⟩
instance tcl102 : TCells Try.prog 102 9 := ⟨by kernel_rfl, by decide⟩
instance tze102 : TZero Try.prog 102 (.agg [.int .i64 0, .int .i64 0, .int .i64 0, .int .i64 0, .int .i64 0, .int .i64 0, .int .i64 0, .int .i64 0, .int .i64 0]) := ⟨by kernel_rfl, rfl, by decide⟩
instance tsh103 : TSh Try.prog 103 .one := ⟨by kernel_rfl⟩
instance tcl103 : TCells Try.prog 103 1 := ⟨by kernel_rfl, by decide⟩
instance tsh104 : TSh Try.prog 104 .one := ⟨by kernel_rfl⟩
instance tcl104 : TCells Try.prog 104 1 := ⟨by kernel_rfl, by decide⟩
instance tze104 : TZero Try.prog 104 (.nilfunc) := ⟨by kernel_rfl, rfl, by decide⟩
instance tsh105 : TSh Try.prog 105 .one := ⟨by kernel_rfl⟩
instance tcl105 : TCells Try.prog 105 1 := ⟨by kernel_rfl, by decide⟩
instance tze105 : TZero Try.prog 105 (.nilfunc) := ⟨by kernel_rfl, rfl, by decide⟩
instance tsh106 : TSh Try.prog 106 .one := ⟨by kernel_rfl⟩
instance tcl106 : TCells Try.prog 106 1 := ⟨by kernel_rfl, by decide⟩
instance tze106 : TZero Try.prog 106 (.nilfunc) := ⟨by kernel_rfl, rfl, by decide⟩
instance tsh107 : TSh Try.prog 107 .one := ⟨by kernel_rfl⟩
instance tcl107 : TCells Try.prog 107 1 := ⟨by kernel_rfl, by decide⟩
instance tze107 : TZero Try.prog 107 (.nilfunc) := ⟨by kernel_rfl, rfl, by decide⟩
instance tsh108 : TSh Try.prog 108 .one := ⟨by kernel_rfl⟩
instance tcl108 : TCells Try.prog 108 1 := ⟨by kernel_rfl, by decide⟩
instance tze108 : TZero Try.prog 108 (.nilfunc) := ⟨by kernel_rfl, rfl, by decide⟩
instance tsh109 : TSh Try.prog 109 .one := ⟨by kernel_rfl⟩
instance tcl109 : TCells Try.prog 109 1 := ⟨by kernel_rfl, by decide⟩
instance tze109 : TZero Try.prog 109 (.nilfunc) := ⟨by kernel_rfl, rfl, by decide⟩
instance tsh110 : TSh Try.prog 110 (.many 3) := ⟨by kernel_rfl⟩
instance tcl110 : TCells Try.prog 110 3 := ⟨by kernel_rfl, by decide⟩
instance tze110 : TZero Try.prog 110 (.agg [.int .i64 0, .int .i64 0, .int .i64 0]) := ⟨by kernel_rfl, rfl, by decide⟩
instance tsh111 : TSh Try.prog 111 .one := ⟨by kernel_rfl⟩
instance tcl111 : TCells Try.prog 111 1 := ⟨by kernel_rfl, by decide⟩
instance tze111 : TZero Try.prog 111 (.nilfunc) := ⟨by kernel_rfl, rfl, by decide⟩
instance tsh112 : TSh Try.prog 112 .one := ⟨by kernel_rfl⟩
instance tcl112 : TCells Try.prog 112 1 := ⟨by kernel_rfl, by decide⟩
instance tze112 : TZero Try.prog 112 (.nilfunc) := ⟨by kernel_rfl, rfl, by decide⟩
instance tsh113 : TSh Try.prog 113 .one := ⟨by kernel_rfl⟩
instance tcl113 : TCells Try.prog 113 1 := ⟨by kernel_rfl, by decide⟩
instance tze113 : TZero Try.prog 113 (.nilfunc) := ⟨by kernel_rfl, rfl, by decide⟩
instance tsh114 : TSh Try.prog 114 .one := ⟨by kernel_rfl⟩
instance tcl114 : TCells Try.prog 114 1 := ⟨by kernel_rfl, by decide⟩
instance tze114 : TZero Try.prog 114 (.nilfunc) := ⟨by kernel_rfl, rfl, by decide⟩
instance tsh115 : TSh Try.prog 115 .one := ⟨by kernel_rfl⟩
instance tcl115 : TCells Try.prog 115 1 := ⟨by kernel_rfl, by decide⟩
instance tze115 : TZero Try.prog 115 (.nilfunc) := ⟨by kernel_rfl, rfl, by decide⟩
instance tsh116 : TSh Try.prog 116 .one := ⟨by kernel_rfl⟩
instance tcl116 : TCells Try.prog 116 1 := ⟨by kernel_rfl, by decide⟩
instance tze116 : TZero Try.prog 116 (.nilfunc) := ⟨by kernel_rfl, rfl, by decide⟩
instance tsh117 : TSh Try.prog 117 .one := ⟨by kernel_rfl⟩
instance tcl117 : TCells Try.prog 117 1 := ⟨by kernel_rfl, by decide⟩
instance tze117 : TZero Try.prog 117 (.nilfunc) := ⟨by kernel_rfl, rfl, by decide⟩
instance tsh118 : TSh Try.prog 118 .one := ⟨by kernel_rfl⟩
instance tcl118 : TCells Try.prog 118 1 := ⟨by kernel_rfl, by decide⟩
instance tsh119 : TSh Try.prog 119 .one := ⟨by kernel_rfl⟩
instance tcl119 : TCells Try.prog 119 1 := ⟨by kernel_rfl, by decide⟩
instance tze119 : TZero Try.prog 119 (.nilfunc) := ⟨by kernel_rfl, rfl, by decide⟩
instance tsh120 : TSh Try.prog 120 .one := ⟨by kernel_rfl⟩
instance tcl120 : TCells Try.prog 120 1 := ⟨by kernel_rfl, by decide⟩
instance tze120 : TZero Try.prog 120 (.nilfunc) := ⟨by kernel_rfl, rfl, by decide⟩
instance tsh121 : TSh Try.prog 121 .one := ⟨by kernel_rfl⟩
instance tcl121 : TCells Try.prog 121 1 := ⟨by kernel_rfl, by decide⟩
instance tze121 : TZero Try.prog 121 (.nilfunc) := ⟨by kernel_rfl, rfl, by decide⟩
instance tsh122 : TSh Try.prog 122 .one := ⟨by kernel_rfl⟩
instance tcl122 : TCells Try.prog 122 1 := ⟨by kernel_rfl, by decide⟩
instance tze122 : TZero Try.prog 122 (.nilfunc) := ⟨by kernel_rfl, rfl, by decide⟩
instance tsh123 : TSh Try.prog 123 .one := ⟨by kernel_rfl⟩
instance tcl123 : TCells Try.prog 123 1 := ⟨by kernel_rfl, by decide⟩
instance tze123 : TZero Try.prog 123 (.int .u64 0) := ⟨by kernel_rfl, rfl, by decide⟩
instance tsh124 : TSh Try.prog 124 .one := ⟨by kernel_rfl⟩
instance tcl124 : TCells Try.prog 124 1 := ⟨by kernel_rfl, by decide⟩
instance tze124 : TZero Try.prog 124 (.nilfunc) := ⟨by kernel_rfl, rfl, by decide⟩
instance tsh125 : TSh Try.prog 125 .one := ⟨by kernel_rfl⟩
instance tcl125 : TCells Try.prog 125 1 := ⟨by kernel_rfl, by decide⟩
instance tsl125 : TSlice Try.prog 125 3 1 := ⟨by kernel_rfl, by kernel_rfl, by decide⟩
instance tze125 : TZero Try.prog 125 (.nilsl) := ⟨by kernel_rfl, rfl, by decide⟩
instance tsh126 : TSh Try.prog 126 .one := ⟨by kernel_rfl⟩
instance tcl126 : TCells Try.prog 126 1 := ⟨by kernel_rfl, by decide⟩
instance tze126 : TZero Try.prog 126 (.nilfunc) := ⟨by kernel_rfl, rfl, by decide⟩
instance tsh127 : TSh Try.prog 127 .one := ⟨by kernel_rfl⟩
instance tcl127 : TCells Try.prog 127 1 := ⟨by kernel_rfl, by decide⟩
instance tze127 : TZero Try.prog 127 (.int .i64 0) := ⟨by kernel_rfl, rfl, by decide⟩
instance tsh128 : TSh Try.prog 128 .one := ⟨by kernel_rfl⟩
instance tcl128 : TCells Try.prog 128 1 := ⟨by kernel_rfl, by decide⟩
instance tsh129 : TSh Try.prog 129 .one := ⟨by kernel_rfl⟩
instance tcl129 : TCells Try.prog 129 1 := ⟨by kernel_rfl, by decide⟩
instance tze129 : TZero Try.prog 129 (.nilfunc) := ⟨by kernel_rfl, rfl, by decide⟩
instance tsh130 : TSh Try.prog 130 .one := ⟨by kernel_rfl⟩
instance tcl130 : TCells Try.prog 130 1 := ⟨by kernel_rfl, by decide⟩
instance tze130 : TZero Try.prog 130 (.nilfunc) := ⟨by kernel_rfl, rfl, by decide⟩
instance tsh131 : TSh Try.prog 131 .one := ⟨by kernel_rfl⟩
instance tcl131 : TCells Try.prog 131 1 := ⟨by kernel_rfl, by decide⟩
instance tze131 : TZero Try.prog 131 (.nilfunc) := ⟨by kernel_rfl, rfl, by decide⟩
instance tsh132 : TSh Try.prog 132 .one := ⟨by kernel_rfl⟩
instance tcl132 : TCells Try.prog 132 1 := ⟨by kernel_rfl, by decide⟩
instance tsh133 : TSh Try.prog 133 .one := ⟨by kernel_rfl⟩
instance tcl133 : TCells Try.prog 133 1 := ⟨by kernel_rfl, by decide⟩
instance tze133 : TZero Try.prog 133 (.nilfunc) := ⟨by kernel_rfl, rfl, by decide⟩
instance tsh134 : TSh Try.prog 134 .one := ⟨by kernel_rfl⟩
instance tcl134 : TCells Try.prog 134 1 := ⟨by kernel_rfl, by decide⟩
instance tze134 : TZero Try.prog 134 (.nilfunc) := ⟨by kernel_rfl, rfl, by decide⟩
instance tsh135 : TSh Try.prog 135 .one := ⟨by kernel_rfl⟩
instance tcl135 : TCells Try.prog 135 1 := ⟨by kernel_rfl, by decide⟩
instance tze135 : TZero Try.prog 135 (.int .u32 0) := ⟨by kernel_rfl, rfl, by decide⟩
instance tsh136 : TSh Try.prog 136 .one := ⟨by kernel_rfl⟩
instance tcl136 : TCells Try.prog 136 1 := ⟨by kernel_rfl, by decide⟩
instance tze136 : TZero Try.prog 136 (.nilfunc) := ⟨by kernel_rfl, rfl, by decide⟩
instance tsh137 : TSh Try.prog 137 .one := ⟨by kernel_rfl⟩
instance tcl137 : TCells Try.prog 137 1 := ⟨by kernel_rfl, by decide⟩
instance tze137 : TZero Try.prog 137 (.int .u64 0) := ⟨by kernel_rfl, rfl, by decide⟩
instance tsh138 : TSh Try.prog 138 .one := ⟨by kernel_rfl⟩
instance tcl138 : TCells Try.prog 138 1 := ⟨by kernel_rfl, by decide⟩
instance tze138 : TZero Try.prog 138 (.nilfunc) := ⟨by kernel_rfl, rfl, by decide⟩
instance tsh139 : TSh Try.prog 139 .one := ⟨by kernel_rfl⟩
instance tcl139 : TCells Try.prog 139 1 := ⟨by kernel_rfl, by decide⟩
instance tze139 : TZero Try.prog 139 (.nilfunc) := ⟨by kernel_rfl, rfl, by decide⟩
instance tsh140 : TSh Try.prog 140 .one := ⟨by kernel_rfl⟩
instance tcl140 : TCells Try.prog 140 1 := ⟨by kernel_rfl, by decide⟩
instance tze140 : TZero Try.prog 140 (.nilfunc) := ⟨by kernel_rfl, rfl, by decide⟩
instance tsh141 : TSh Try.prog 141 .one := ⟨by kernel_rfl⟩
instance tcl141 : TCells Try.prog 141 1 := ⟨by kernel_rfl, by decide⟩
instance tze141 : TZero Try.prog 141 (.nilfunc) := ⟨by kernel_rfl, rfl, by decide⟩
instance tsh142 : TSh Try.prog 142 .one := ⟨by kernel_rfl⟩
instance tcl142 : TCells Try.prog 142 1 := ⟨by kernel_rfl, by decide⟩
instance tze142 : TZero Try.prog 142 (.nilfunc) := ⟨by kernel_rfl, rfl, by decide⟩
instance tsh143 : TSh Try.prog 143 .one := ⟨by kernel_rfl⟩
instance tcl143 : TCells Try.prog 143 1 := ⟨by kernel_rfl, by decide⟩
instance tze143 : TZero Try.prog 143 (.int .u64 0) := ⟨by kernel_rfl, rfl, by decide⟩
instance tsh144 : TSh Try.prog 144 .one := ⟨by kernel_rfl⟩
instance tcl144 : TCells Try.prog 144 1 := ⟨by kernel_rfl, by decide⟩
instance tze144 : TZero Try.prog 144 (.nilfunc) := ⟨by kernel_rfl, rfl, by decide⟩
instance tsh145 : TSh Try.prog 145 .one := ⟨by kernel_rfl⟩
instance tcl145 : TCells Try.prog 145 1 := ⟨by kernel_rfl, by decide⟩
instance tze145 : TZero Try.prog 145 (.nilfunc) := ⟨by kernel_rfl, rfl, by decide⟩
instance tsh146 : TSh Try.prog 146 .one := ⟨by kernel_rfl⟩
instance tcl146 : TCells Try.prog 146 1 := ⟨by kernel_rfl, by decide⟩
instance tze146 : TZero Try.prog 146 (.nilfunc) := ⟨by kernel_rfl, rfl, by decide⟩
instance tsh147 : TSh Try.prog 147 .one := ⟨by kernel_rfl⟩
instance tcl147 : TCells Try.prog 147 1 := ⟨by kernel_rfl, by decide⟩
instance tze147 : TZero Try.prog 147 (.nilptr) := ⟨by kernel_rfl, rfl, by decide⟩
instance tsh148 : TSh Try.prog 148 .one := ⟨by kernel_rfl⟩
instance tcl148 : TCells Try.prog 148 1 := ⟨by kernel_rfl, by decide⟩
instance tze148 : TZero Try.prog 148 (.nilfunc) := ⟨by kernel_rfl, rfl, by decide⟩
instance tsh149 : TSh Try.prog 149 .one := ⟨by kernel_rfl⟩
instance tcl149 : TCells Try.prog 149 1 := ⟨by kernel_rfl, by decide⟩
instance tze149 : TZero Try.prog 149 (.nilfunc) := ⟨by kernel_rfl, rfl, by decide⟩
instance tsh150 : TSh Try.prog 150 .one := ⟨by kernel_rfl⟩
instance tcl150 : TCells Try.prog 150 1 := ⟨by kernel_rfl, by decide⟩
instance tze150 : TZero Try.prog 150 (.nilfunc) := ⟨by kernel_rfl, rfl, by decide⟩
instance tsh151 : TSh Try.prog 151 .one := ⟨by kernel_rfl⟩
instance tcl151 : TCells Try.prog 151 1 := ⟨by kernel_rfl, by decide⟩
instance tze151 : TZero Try.prog 151 (.nilptr) := ⟨by kernel_rfl, rfl, by decide⟩
instance tsh152 : TSh Try.prog 152 .one := ⟨by kernel_rfl⟩
instance tcl152 : TCells Try.prog 152 1 := ⟨by kernel_rfl, by decide⟩
instance tze152 : TZero Try.prog 152 (.nilfunc) := ⟨by kernel_rfl, rfl, by decide⟩
instance tsh153 : TSh Try.prog 153 .one := ⟨by kernel_rfl⟩
instance tcl153 : TCells Try.prog 153 1 := ⟨by kernel_rfl, by decide⟩
instance tze153 : TZero Try.prog 153 (.nilfunc) := ⟨by kernel_rfl, rfl, by decide⟩
instance tsh154 : TSh Try.prog 154 .one := ⟨by kernel_rfl⟩
instance tcl154 : TCells Try.prog 154 1 := ⟨by kernel_rfl, by decide⟩
instance tze154 : TZero Try.prog 154 (.nilfunc) := ⟨by kernel_rfl, rfl, by decide⟩
instance tsh155 : TSh Try.prog 155 (.many 4) := ⟨by kernel_rfl⟩
instance tcl155 : TCells Try.prog 155 4 := ⟨by kernel_rfl, by decide⟩
instance tfl155x0 : TField Try.prog 155 0 0 17 := ⟨by kernel_rfl, kne (k := 1) (by kernel_rfl) (by decide)⟩
instance tfl155x1 : TField Try.prog 155 1 1 17 := ⟨by kernel_rfl, kne (k := 1) (by kernel_rfl) (by decide)⟩
instance tfl155x2 : TField Try.prog 155 2 2 17 := ⟨by kernel_rfl, kne (k := 1) (by kernel_rfl) (by decide)⟩
instance tfl155x3 : TField Try.prog 155 3 3 9 := ⟨by kernel_rfl, kne (k := 1) (by kernel_rfl) (by decide)⟩
instance tly155 : TLay Try.prog 155 [.nilptr, .nilptr, .nilptr, .str ByteArray.empty] [(0, 1), (1, 1), (2, 1), (3, 1)] := ⟨by kernel_rfl⟩
instance tze155 : TZero Try.prog 155 (.agg [.nilptr, .nilptr, .nilptr, .str ByteArray.empty]) := ⟨by kernel_rfl, rfl, by decide⟩
instance tsh156 : TSh Try.prog 156 (.many 4) := ⟨by kernel_rfl⟩
instance tcl156 : TCells Try.prog 156 4 := ⟨by kernel_rfl, by decide⟩
instance tfl156x0 : TField Try.prog 156 0 0 17 := ⟨by kernel_rfl, kne (k := 1) (by kernel_rfl) (by decide)⟩
instance tfl156x1 : TField Try.prog 156 1 1 17 := ⟨by kernel_rfl, kne (k := 1) (by kernel_rfl) (by decide)⟩
instance tfl156x2 : TField Try.prog 156 2 2 17 := ⟨by kernel_rfl, kne (k := 1) (by kernel_rfl) (by decide)⟩
instance tfl156x3 : TField Try.prog 156 3 3 9 := ⟨by kernel_rfl, kne (k := 1) (by kernel_rfl) (by decide)⟩
instance tly156 : TLay Try.prog 156 [.nilptr, .nilptr, .nilptr, .str ByteArray.empty] [(0, 1), (1, 1), (2, 1), (3, 1)] := ⟨by kernel_rfl⟩
instance tze156 : TZero Try.prog 156 (.agg [.nilptr, .nilptr, .nilptr, .str ByteArray.empty]) := ⟨by kernel_rfl, rfl, by decide⟩
instance tsh160 : TSh Try.prog 160 .one := ⟨by kernel_rfl⟩
instance tcl160 : TCells Try.prog 160 1 := ⟨by kernel_rfl, by decide⟩
instance tze160 : TZero Try.prog 160 (.nilfunc) := ⟨by kernel_rfl, rfl, by decide⟩
instance tsh161 : TSh Try.prog 161 .one := ⟨by kernel_rfl⟩
instance tcl161 : TCells Try.prog 161 1 := ⟨by kernel_rfl, by decide⟩
instance tze161 : TZero Try.prog 161 (.int .u8 0) := ⟨by kernel_rfl, rfl, by decide⟩
instance tsh162 : TSh Try.prog 162 .one := ⟨by kernel_rfl⟩
instance tcl162 : TCells Try.prog 162 1 := ⟨by kernel_rfl, by decide⟩
instance tze162 : TZero Try.prog 162 (.int .u8 0) := ⟨by kernel_rfl, rfl, by decide⟩
instance tsh163 : TSh Try.prog 163 .one := ⟨by kernel_rfl⟩
instance tcl163 : TCells Try.prog 163 1 := ⟨by kernel_rfl, by decide⟩
instance tze163 : TZero Try.prog 163 (.nilfunc) := ⟨by kernel_rfl, rfl, by decide⟩
instance tsh164 : TSh Try.prog 164 .one := ⟨by kernel_rfl⟩
instance tcl164 : TCells Try.prog 164 1 := ⟨by kernel_rfl, by decide⟩
instance tze164 : TZero Try.prog 164 (.nilptr) := ⟨by kernel_rfl, rfl, by decide⟩
instance tsh165 : TSh Try.prog 165 .one := ⟨by kernel_rfl⟩
instance tcl165 : TCells Try.prog 165 1 := ⟨by kernel_rfl, by decide⟩
instance tze165 : TZero Try.prog 165 (.int .i32 0) := ⟨by kernel_rfl, rfl, by decide⟩
instance tsh166 : TSh Try.prog 166 .one := ⟨by kernel_rfl⟩
instance tcl166 : TCells Try.prog 166 1 := ⟨by kernel_rfl, by decide⟩
instance tze166 : TZero Try.prog 166 (.int .i32 0) := ⟨by kernel_rfl, rfl, by decide⟩
instance tsh167 : TSh Try.prog 167 (.many 11) := ⟨by kernel_rfl⟩
instance tcl167 : TCells Try.prog 167 11 := ⟨by kernel_rfl, by decide⟩
instance tfl167x0 : TField Try.prog 167 0 0 12 := ⟨by kernel_rfl, kne (k := 1) (by kernel_rfl) (by decide)⟩
instance tfl167x1 : TField Try.prog 167 1 1 12 := ⟨by kernel_rfl, kne (k := 1) (by kernel_rfl) (by decide)⟩
instance tfl167x2 : TField Try.prog 167 2 2 135 := ⟨by kernel_rfl, kne (k := 1) (by kernel_rfl) (by decide)⟩
instance tfl167x3 : TField Try.prog 167 3 3 161 := ⟨by kernel_rfl, kne (k := 1) (by kernel_rfl) (by decide)⟩
instance tfl167x4 : TField Try.prog 167 4 4 5 := ⟨by kernel_rfl, kne (k := 1) (by kernel_rfl) (by decide)⟩
instance tfl167x5 : TField Try.prog 167 5 5 5 := ⟨by kernel_rfl, kne (k := 1) (by kernel_rfl) (by decide)⟩
instance tfl167x6 : TField Try.prog 167 6 6 162 := ⟨by kernel_rfl, kne (k := 1) (by kernel_rfl) (by decide)⟩
instance tfl167x7 : TField Try.prog 167 7 7 163 := ⟨by kernel_rfl, kne (k := 1) (by kernel_rfl) (by decide)⟩
instance tfl167x8 : TField Try.prog 167 8 8 164 := ⟨by kernel_rfl, kne (k := 1) (by kernel_rfl) (by decide)⟩
instance tfl167x9 : TField Try.prog 167 9 9 165 := ⟨by kernel_rfl, kne (k := 1) (by kernel_rfl) (by decide)⟩
instance tfl167x10 : TField Try.prog 167 10 10 166 := ⟨by kernel_rfl, kne (k := 1) (by kernel_rfl) (by decide)⟩
instance tly167 : TLay Try.prog 167 [.int .u64 0, .int .u64 0, .int .u32 0, .int .u8 0, .int .u8 0, .int .u8 0, .int .u8 0, .nilfunc, .nilptr, .int .i32 0, .int .i32 0] [(0, 1), (1, 1), (2, 1), (3, 1), (4, 1), (5, 1), (6, 1), (7, 1), (8, 1), (9, 1), (10, 1)] := ⟨by kernel_rfl⟩
instance tze167 : TZero Try.prog 167 (.agg [.int .u64 0, .int .u64 0, .int .u32 0, .int .u8 0, .int .u8 0, .int .u8 0, .int .u8 0, .nilfunc, .nilptr, .int .i32 0, .int .i32 0]) := ⟨by kernel_rfl, rfl, by decide⟩
instance tsh168 : TSh Try.prog 168 (.many 11) := ⟨by kernel_rfl⟩
instance tcl168 : TCells Try.prog 168 11 := ⟨by kernel_rfl, by decide⟩
instance tfl168x0 : TField Try.prog 168 0 0 12 := ⟨by kernel_rfl, kne (k := 1) (by kernel_rfl) (by decide)⟩
instance tfl168x1 : TField Try.prog 168 1 1 12 := ⟨by kernel_rfl, kne (k := 1) (by kernel_rfl) (by decide)⟩
instance tfl168x2 : TField Try.prog 168 2 2 135 := ⟨by kernel_rfl, kne (k := 1) (by kernel_rfl) (by decide)⟩
instance tfl168x3 : TField Try.prog 168 3 3 161 := ⟨by kernel_rfl, kne (k := 1) (by kernel_rfl) (by decide)⟩
instance tfl168x4 : TField Try.prog 168 4 4 5 := ⟨by kernel_rfl, kne (k := 1) (by kernel_rfl) (by decide)⟩
instance tfl168x5 : TField Try.prog 168 5 5 5 := ⟨by kernel_rfl, kne (k := 1) (by kernel_rfl) (by decide)⟩
instance tfl168x6 : TField Try.prog 168 6 6 162 := ⟨by kernel_rfl, kne (k := 1) (by kernel_rfl) (by decide)⟩
instance tfl168x7 : TField Try.prog 168 7 7 163 := ⟨by kernel_rfl, kne (k := 1) (by kernel_rfl) (by decide)⟩
instance tfl168x8 : TField Try.prog 168 8 8 164 := ⟨by kernel_rfl, kne (k := 1) (by kernel_rfl) (by decide)⟩
instance tfl168x9 : TField Try.prog 168 9 9 165 := ⟨by kernel_rfl, kne (k := 1) (by kernel_rfl) (by decide)⟩
instance tfl168x10 : TField Try.prog 168 10 10 166 := ⟨by kernel_rfl, kne (k := 1) (by kernel_rfl) (by decide)⟩
instance tly168 : TLay Try.prog 168 [.int .u64 0, .int .u64 0, .int .u32 0, .int .u8 0, .int .u8 0, .int .u8 0, .int .u8 0, .nilfunc, .nilptr, .int .i32 0, .int .i32 0] [(0, 1), (1, 1), (2, 1), (3, 1), (4, 1), (5, 1), (6, 1), (7, 1), (8, 1), (9, 1), (10, 1)] := ⟨by kernel_rfl⟩
instance tze168 : TZero Try.prog 168 (.agg [.int .u64 0, .int .u64 0, .int .u32 0, .int .u8 0, .int .u8 0, .int .u8 0, .int .u8 0, .nilfunc, .nilptr, .int .i32 0, .int .i32 0]) := ⟨by kernel_rfl, rfl, by decide⟩
instance tsh169 : TSh Try.prog 169 .one := ⟨by kernel_rfl⟩
instance tcl169 : TCells Try.prog 169 1 := ⟨by kernel_rfl, by decide⟩
instance tze169 : TZero Try.prog 169 (.nilptr) := ⟨by kernel_rfl, rfl, by decide⟩
instance teq23 : TEq Try.prog 23 [.i, .i] := ⟨by kernel_rfl⟩
instance tar24 : TArr Try.prog 24 4 2 := ⟨23, by kernel_rfl, by kernel_rfl, by decide⟩
instance tae24 : TArrE Try.prog 24 4 23 2 := ⟨by kernel_rfl, by kernel_rfl, by decide⟩
instance tly24 : TLay Try.prog 24 [.int .i64 0, .int .i64 0, .int .i64 0, .int .i64 0, .int .i64 0, .int .i64 0, .int .i64 0, .int .i64 0] [(0, 2), (2, 2), (4, 2), (6, 2)] := ⟨by kernel_rfl⟩
instance teq47 : TEq Try.prog 47 [.i, .i, .i] := ⟨by kernel_rfl⟩
instance teq64 : TEq Try.prog 64 [.i, .i] := ⟨by kernel_rfl⟩
instance tar73 : TArr Try.prog 73 3 1 := ⟨72, by kernel_rfl, by kernel_rfl, by decide⟩
instance tae73 : TArrE Try.prog 73 3 72 1 := ⟨by kernel_rfl, by kernel_rfl, by decide⟩
instance tly73 : TLay Try.prog 73 [.int .i8 0, .int .i8 0, .int .i8 0] [(0, 1), (1, 1), (2, 1)] := ⟨by kernel_rfl⟩
instance teq76 : TEq Try.prog 76 [.i, .i, .i] := ⟨by kernel_rfl⟩
instance tar92 : TArr Try.prog 92 3 2 := ⟨23, by kernel_rfl, by kernel_rfl, by decide⟩
instance tae92 : TArrE Try.prog 92 3 23 2 := ⟨by kernel_rfl, by kernel_rfl, by decide⟩
instance tly92 : TLay Try.prog 92 [.int .i64 0, .int .i64 0, .int .i64 0, .int .i64 0, .int .i64 0, .int .i64 0] [(0, 2), (2, 2), (4, 2)] := ⟨by kernel_rfl⟩
instance tar100 : TArr Try.prog 100 4 2 := ⟨99, by kernel_rfl, by kernel_rfl, by decide⟩
instance tae100 : TArrE Try.prog 100 4 99 2 := ⟨by kernel_rfl, by kernel_rfl, by decide⟩
instance tly100 : TLay Try.prog 100 [.int .i64 0, .nilfunc, .int .i64 0, .nilfunc, .int .i64 0, .nilfunc, .int .i64 0, .nilfunc] [(0, 2), (2, 2), (4, 2), (6, 2)] := ⟨by kernel_rfl⟩
instance tar102 : TArr Try.prog 102 3 3 := ⟨76, by kernel_rfl, by kernel_rfl, by decide⟩
instance tae102 : TArrE Try.prog 102 3 76 3 := ⟨by kernel_rfl, by kernel_rfl, by decide⟩
instance tly102 : TLay Try.prog 102 [.int .i64 0, .int .i64 0, .int .i64 0, .int .i64 0, .int .i64 0, .int .i64 0, .int .i64 0, .int .i64 0, .int .i64 0] [(0, 3), (3, 3), (6, 3)] := ⟨by kernel_rfl⟩
instance tar110 : TArr Try.prog 110 3 1 := ⟨3, by kernel_rfl, by kernel_rfl, by decide⟩
instance tae110 : TArrE Try.prog 110 3 3 1 := ⟨by kernel_rfl, by kernel_rfl, by decide⟩
instance tly110 : TLay Try.prog 110 [.int .i64 0, .int .i64 0, .int .i64 0] [(0, 1), (1, 1), (2, 1)] := ⟨by kernel_rfl⟩
instance tar157 : TArr Try.prog 157 0 1 := ⟨16, by kernel_rfl, by kernel_rfl, by decide⟩
instance tae157 : TArrE Try.prog 157 0 16 1 := ⟨by kernel_rfl, by kernel_rfl, by decide⟩
instance tly157 : TLay Try.prog 157 [] [] := ⟨by kernel_rfl⟩
end Go.Pv.Tf
