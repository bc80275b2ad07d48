import Derived.Test.YtbojgmhpmcnfjaaProg
import Derived.Test.YtbojgmhpmcnfjaaWAD
import Derived.KernelRfl
import Derived.Test.YtbojgmhpmcnfjaaWAC
import Derived.Shelf.SlLaysF0
/- Part of the proofs over Ytbojgmhpmcnfjaa: GFacts, H1, HA, JL, JA, JB, JC, H2, H3. -/
set_option linter.unusedVariables false
set_option linter.unusedSimpArgs false
set_option linter.unnecessarySimpa false
open Go Go.Proofs Go.Pv
namespace Go.Pv.Tf
instance tsh0 : TSh Try.prog 0 .one := ⟨by kernel_rfl⟩
instance tcl0 : TCells Try.prog 0 1 := ⟨by kernel_rfl, by decide⟩
instance tsh1 : TSh Try.prog 1 .one := ⟨by kernel_rfl⟩
instance tcl1 : TCells Try.prog 1 1 := ⟨by kernel_rfl, by decide⟩
instance tze1 : TZero Try.prog 1 (.nilfunc) := ⟨by kernel_rfl, rfl, by decide⟩
instance tsh2 : TSh Try.prog 2 .one := ⟨by kernel_rfl⟩
instance tcl2 : TCells Try.prog 2 1 := ⟨by kernel_rfl, by decide⟩
instance tze2 : TZero Try.prog 2 (.int .i64 0) := ⟨by kernel_rfl, rfl, by decide⟩
instance tsh3 : TSh Try.prog 3 .one := ⟨by kernel_rfl⟩
instance tcl3 : TCells Try.prog 3 1 := ⟨by kernel_rfl, by decide⟩
instance tze3 : TZero Try.prog 3 (.int .i64 0) := ⟨by kernel_rfl, rfl, by decide⟩
instance tsh4 : TSh Try.prog 4 .one := ⟨by kernel_rfl⟩
instance tcl4 : TCells Try.prog 4 1 := ⟨by kernel_rfl, by decide⟩
instance tze4 : TZero Try.prog 4 (.bool false) := ⟨by kernel_rfl, rfl, by decide⟩
instance tsh5 : TSh Try.prog 5 .one := ⟨by kernel_rfl⟩
instance tcl5 : TCells Try.prog 5 1 := ⟨by kernel_rfl, by decide⟩
instance tze5 : TZero Try.prog 5 (.int .u8 0) := ⟨by kernel_rfl, rfl, by decide⟩
instance tsh6 : TSh Try.prog 6 .one := ⟨by kernel_rfl⟩
instance tcl6 : TCells Try.prog 6 1 := ⟨by kernel_rfl, by decide⟩
instance tze6 : TZero Try.prog 6 (.int .u8 0) := ⟨by kernel_rfl, rfl, by decide⟩
instance tsh7 : TSh Try.prog 7 (.many 4) := ⟨by kernel_rfl⟩
instance tcl7 : TCells Try.prog 7 4 := ⟨by kernel_rfl, by decide⟩
instance tfl7x0 : TField Try.prog 7 0 0 2 := ⟨by kernel_rfl, kne (k := 1) (by kernel_rfl) (by decide)⟩
instance tfl7x1 : TField Try.prog 7 1 1 3 := ⟨by kernel_rfl, kne (k := 1) (by kernel_rfl) (by decide)⟩
instance tfl7x2 : TField Try.prog 7 2 2 4 := ⟨by kernel_rfl, kne (k := 1) (by kernel_rfl) (by decide)⟩
instance tfl7x3 : TField Try.prog 7 3 3 6 := ⟨by kernel_rfl, kne (k := 1) (by kernel_rfl) (by decide)⟩
instance tly7 : TLay Try.prog 7 [.int .i64 0, .int .i64 0, .bool false, .int .u8 0] [(0, 1), (1, 1), (2, 1), (3, 1)] := ⟨by kernel_rfl⟩
instance tze7 : TZero Try.prog 7 (.agg [.int .i64 0, .int .i64 0, .bool false, .int .u8 0]) := ⟨by kernel_rfl, rfl, by decide⟩
instance tsh8 : TSh Try.prog 8 (.many 4) := ⟨by kernel_rfl⟩
instance tcl8 : TCells Try.prog 8 4 := ⟨by kernel_rfl, by decide⟩
instance tfl8x0 : TField Try.prog 8 0 0 2 := ⟨by kernel_rfl, kne (k := 1) (by kernel_rfl) (by decide)⟩
instance tfl8x1 : TField Try.prog 8 1 1 3 := ⟨by kernel_rfl, kne (k := 1) (by kernel_rfl) (by decide)⟩
instance tfl8x2 : TField Try.prog 8 2 2 4 := ⟨by kernel_rfl, kne (k := 1) (by kernel_rfl) (by decide)⟩
instance tfl8x3 : TField Try.prog 8 3 3 6 := ⟨by kernel_rfl, kne (k := 1) (by kernel_rfl) (by decide)⟩
instance tly8 : TLay Try.prog 8 [.int .i64 0, .int .i64 0, .bool false, .int .u8 0] [(0, 1), (1, 1), (2, 1), (3, 1)] := ⟨by kernel_rfl⟩
instance tze8 : TZero Try.prog 8 (.agg [.int .i64 0, .int .i64 0, .bool false, .int .u8 0]) := ⟨by kernel_rfl, rfl, by decide⟩
instance tsh9 : TSh Try.prog 9 .one := ⟨by kernel_rfl⟩
instance tst9 : TStr Try.prog 9 := ⟨by kernel_rfl⟩
instance tcl9 : TCells Try.prog 9 1 := ⟨by kernel_rfl, by decide⟩
instance tze9 : TZero Try.prog 9 (.str ByteArray.empty) := ⟨by kernel_rfl, rfl, by decide⟩
instance tsh10 : TSh Try.prog 10 .one := ⟨by kernel_rfl⟩
instance tst10 : TStr Try.prog 10 := ⟨by kernel_rfl⟩
instance tcl10 : TCells Try.prog 10 1 := ⟨by kernel_rfl, by decide⟩
instance tze10 : TZero Try.prog 10 (.str ByteArray.empty) := ⟨by kernel_rfl, rfl, by decide⟩
instance tsh11 : TSh Try.prog 11 .one := ⟨by kernel_rfl⟩
instance tst11 : TStr Try.prog 11 := ⟨by kernel_rfl⟩
instance tcl11 : TCells Try.prog 11 1 := ⟨by kernel_rfl, by decide⟩
instance tze11 : TZero Try.prog 11 (.str ByteArray.empty) := ⟨by kernel_rfl, rfl, by decide⟩
instance tsh12 : TSh Try.prog 12 .one := ⟨by kernel_rfl⟩
instance tcl12 : TCells Try.prog 12 1 := ⟨by kernel_rfl, by decide⟩
instance tze12 : TZero Try.prog 12 (.int .u64 0) := ⟨by kernel_rfl, rfl, by decide⟩
instance tsh13 : TSh Try.prog 13 (.many 2) := ⟨by kernel_rfl⟩
instance tcl13 : TCells Try.prog 13 2 := ⟨by kernel_rfl, by decide⟩
instance tfl13x0 : TField Try.prog 13 0 0 9 := ⟨by kernel_rfl, kne (k := 1) (by kernel_rfl) (by decide)⟩
instance tfl13x1 : TField Try.prog 13 1 1 12 := ⟨by kernel_rfl, kne (k := 1) (by kernel_rfl) (by decide)⟩
instance tly13 : TLay Try.prog 13 [.str ByteArray.empty, .int .u64 0] [(0, 1), (1, 1)] := ⟨by kernel_rfl⟩
instance tze13 : TZero Try.prog 13 (.agg [.str ByteArray.empty, .int .u64 0]) := ⟨by kernel_rfl, rfl, by decide⟩
instance tsh14 : TSh Try.prog 14 (.many 2) := ⟨by kernel_rfl⟩
instance tcl14 : TCells Try.prog 14 2 := ⟨by kernel_rfl, by decide⟩
instance tfl14x0 : TField Try.prog 14 0 0 9 := ⟨by kernel_rfl, kne (k := 1) (by kernel_rfl) (by decide)⟩
instance tfl14x1 : TField Try.prog 14 1 1 12 := ⟨by kernel_rfl, kne (k := 1) (by kernel_rfl) (by decide)⟩
instance tly14 : TLay Try.prog 14 [.str ByteArray.empty, .int .u64 0] [(0, 1), (1, 1)] := ⟨by kernel_rfl⟩
instance tze14 : TZero Try.prog 14 (.agg [.str ByteArray.empty, .int .u64 0]) := ⟨by kernel_rfl, rfl, by decide⟩
instance tsh15 : TSh Try.prog 15 .one := ⟨by kernel_rfl⟩
instance tcl15 : TCells Try.prog 15 1 := ⟨by kernel_rfl, by decide⟩
instance tze15 : TZero Try.prog 15 (.nilptr) := ⟨by kernel_rfl, rfl, by decide⟩
instance tsh16 : TSh Try.prog 16 .one := ⟨by kernel_rfl⟩
instance tcl16 : TCells Try.prog 16 1 := ⟨by kernel_rfl, by decide⟩
instance tze16 : TZero Try.prog 16 (.nilptr) := ⟨by kernel_rfl, rfl, by decide⟩
instance tsh17 : TSh Try.prog 17 .one := ⟨by kernel_rfl⟩
instance tcl17 : TCells Try.prog 17 1 := ⟨by kernel_rfl, by decide⟩
instance tze17 : TZero Try.prog 17 (.nilptr) := ⟨by kernel_rfl, rfl, by decide⟩
instance tsh18 : TSh Try.prog 18 (.many 1) := ⟨by kernel_rfl⟩
instance tcl18 : TCells Try.prog 18 1 := ⟨by kernel_rfl, by decide⟩
instance tfl18x0 : TField Try.prog 18 0 0 17 := ⟨by kernel_rfl, kne (k := 1) (by kernel_rfl) (by decide)⟩
instance tly18 : TLay Try.prog 18 [.nilptr] [(0, 1)] := ⟨by kernel_rfl⟩
instance tze18 : TZero Try.prog 18 (.agg [.nilptr]) := ⟨by kernel_rfl, rfl, by decide⟩
instance tsh19 : TSh Try.prog 19 (.many 1) := ⟨by kernel_rfl⟩
instance tcl19 : TCells Try.prog 19 1 := ⟨by kernel_rfl, by decide⟩
instance tfl19x0 : TField Try.prog 19 0 0 17 := ⟨by kernel_rfl, kne (k := 1) (by kernel_rfl) (by decide)⟩
instance tly19 : TLay Try.prog 19 [.nilptr] [(0, 1)] := ⟨by kernel_rfl⟩
instance tze19 : TZero Try.prog 19 (.agg [.nilptr]) := ⟨by kernel_rfl, rfl, by decide⟩
instance tsh20 : TSh Try.prog 20 .one := ⟨by kernel_rfl⟩
instance tcl20 : TCells Try.prog 20 1 := ⟨by kernel_rfl, by decide⟩
instance tze20 : TZero Try.prog 20 (.nilif) := ⟨by kernel_rfl, rfl, by decide⟩
instance tsh21 : TSh Try.prog 21 .one := ⟨by kernel_rfl⟩
instance tcl21 : TCells Try.prog 21 1 := ⟨by kernel_rfl, by decide⟩
instance tze21 : TZero Try.prog 21 (.int .i32 0) := ⟨by kernel_rfl, rfl, by decide⟩
instance tsh22 : TSh Try.prog 22 (.many 2) := ⟨by kernel_rfl⟩
instance tcl22 : TCells Try.prog 22 2 := ⟨by kernel_rfl, by decide⟩
instance tfl22x0 : TField Try.prog 22 0 0 3 := ⟨by kernel_rfl, kne (k := 1) (by kernel_rfl) (by decide)⟩
instance tfl22x1 : TField Try.prog 22 1 1 3 := ⟨by kernel_rfl, kne (k := 1) (by kernel_rfl) (by decide)⟩
instance tly22 : TLay Try.prog 22 [.int .i64 0, .int .i64 0] [(0, 1), (1, 1)] := ⟨by kernel_rfl⟩
instance tze22 : TZero Try.prog 22 (.agg [.int .i64 0, .int .i64 0]) := ⟨by kernel_rfl, rfl, by decide⟩
instance tsh23 : TSh Try.prog 23 (.many 2) := ⟨by kernel_rfl⟩
instance tcl23 : TCells Try.prog 23 2 := ⟨by kernel_rfl, by decide⟩
instance tfl23x0 : TField Try.prog 23 0 0 3 := ⟨by kernel_rfl, kne (k := 1) (by kernel_rfl) (by decide)⟩
instance tfl23x1 : TField Try.prog 23 1 1 3 := ⟨by kernel_rfl, kne (k := 1) (by kernel_rfl) (by decide)⟩
instance tly23 : TLay Try.prog 23 [.int .i64 0, .int .i64 0] [(0, 1), (1, 1)] := ⟨by kernel_rfl⟩
instance tze23 : TZero Try.prog 23 (.agg [.int .i64 0, .int .i64 0]) := ⟨by kernel_rfl, rfl, by decide⟩
instance tsh24 : TSh Try.prog 24 (.many 8) := ⟨by kernel_rfl⟩
instance tcl24 : TCells Try.prog 24 8 := ⟨by kernel_rfl, by decide⟩
instance tze24 : TZero Try.prog 24 (.agg [.int .i64 0, .int .i64 0, .int .i64 0, .int .i64 0, .int .i64 0, .int .i64 0, .int .i64 0, .int .i64 0]) := ⟨by kernel_rfl, rfl, by decide⟩
instance tsh25 : TSh Try.prog 25 .one := ⟨by kernel_rfl⟩
instance tcl25 : TCells Try.prog 25 1 := ⟨by kernel_rfl, by decide⟩
instance tze25 : TZero Try.prog 25 (.nilfunc) := ⟨by kernel_rfl, rfl, by decide⟩
instance tsh26 : TSh Try.prog 26 .one := ⟨by kernel_rfl⟩
instance tcl26 : TCells Try.prog 26 1 := ⟨by kernel_rfl, by decide⟩
instance tze26 : TZero Try.prog 26 (.int .i64 0) := ⟨by kernel_rfl, rfl, by decide⟩
instance tsh27 : TSh Try.prog 27 .one := ⟨by kernel_rfl⟩
instance tcl27 : TCells Try.prog 27 1 := ⟨by kernel_rfl, by decide⟩
instance tsh28 : TSh Try.prog 28 .one := ⟨by kernel_rfl⟩
instance tcl28 : TCells Try.prog 28 1 := ⟨by kernel_rfl, by decide⟩
instance tze28 : TZero Try.prog 28 (.nilfunc) := ⟨by kernel_rfl, rfl, by decide⟩
instance tsh29 : TSh Try.prog 29 .one := ⟨by kernel_rfl⟩
instance tcl29 : TCells Try.prog 29 1 := ⟨by kernel_rfl, by decide⟩
instance tze29 : TZero Try.prog 29 (.nilfunc) := ⟨by kernel_rfl, rfl, by decide⟩
instance tsh30 : TSh Try.prog 30 .one := ⟨by kernel_rfl⟩
instance tcl30 : TCells Try.prog 30 1 := ⟨by kernel_rfl, by decide⟩
instance tze30 : TZero Try.prog 30 (.nilfunc) := ⟨by kernel_rfl, rfl, by decide⟩
instance tsh31 : TSh Try.prog 31 .one := ⟨by kernel_rfl⟩
instance tcl31 : TCells Try.prog 31 1 := ⟨by kernel_rfl, by decide⟩
instance tsl31 : TSlice Try.prog 31 23 2 := ⟨by kernel_rfl, by kernel_rfl, by decide⟩
instance tze31 : TZero Try.prog 31 (.nilsl) := ⟨by kernel_rfl, rfl, by decide⟩
instance tsh32 : TSh Try.prog 32 .one := ⟨by kernel_rfl⟩
instance tcl32 : TCells Try.prog 32 1 := ⟨by kernel_rfl, by decide⟩
instance tze32 : TZero Try.prog 32 (.nilfunc) := ⟨by kernel_rfl, rfl, by decide⟩
instance tsh33 : TSh Try.prog 33 .one := ⟨by kernel_rfl⟩
instance tcl33 : TCells Try.prog 33 1 := ⟨by kernel_rfl, by decide⟩
instance tze33 : TZero Try.prog 33 (.nilfunc) := ⟨by kernel_rfl, rfl, by decide⟩
instance tsh34 : TSh Try.prog 34 .one := ⟨by kernel_rfl⟩
instance tcl34 : TCells Try.prog 34 1 := ⟨by kernel_rfl, by decide⟩
instance tze34 : TZero Try.prog 34 (.nilfunc) := ⟨by kernel_rfl, rfl, by decide⟩
instance tsh35 : TSh Try.prog 35 .one := ⟨by kernel_rfl⟩
instance tcl35 : TCells Try.prog 35 1 := ⟨by kernel_rfl, by decide⟩
instance tsh36 : TSh Try.prog 36 .one := ⟨by kernel_rfl⟩
instance tcl36 : TCells Try.prog 36 1 := ⟨by kernel_rfl, by decide⟩
instance tze36 : TZero Try.prog 36 (.nilfunc) := ⟨by kernel_rfl, rfl, by decide⟩
instance tsh37 : TSh Try.prog 37 .one := ⟨by kernel_rfl⟩
instance tcl37 : TCells Try.prog 37 1 := ⟨by kernel_rfl, by decide⟩
instance tze37 : TZero Try.prog 37 (.nilfunc) := ⟨by kernel_rfl, rfl, by decide⟩
instance tsh38 : TSh Try.prog 38 .one := ⟨by kernel_rfl⟩
instance tcl38 : TCells Try.prog 38 1 := ⟨by kernel_rfl, by decide⟩
instance tze38 : TZero Try.prog 38 (.nilfunc) := ⟨by kernel_rfl, rfl, by decide⟩
instance tsh39 : TSh Try.prog 39 .one := ⟨by kernel_rfl⟩
instance tcl39 : TCells Try.prog 39 1 := ⟨by kernel_rfl, by decide⟩
instance tze39 : TZero Try.prog 39 (.nilfunc) := ⟨by kernel_rfl, rfl, by decide⟩
instance tsh40 : TSh Try.prog 40 .one := ⟨by kernel_rfl⟩
instance tcl40 : TCells Try.prog 40 1 := ⟨by kernel_rfl, by decide⟩
instance tze40 : TZero Try.prog 40 (.nilfunc) := ⟨by kernel_rfl, rfl, by decide⟩
instance tsh41 : TSh Try.prog 41 .one := ⟨by kernel_rfl⟩
instance tcl41 : TCells Try.prog 41 1 := ⟨by kernel_rfl, by decide⟩
instance tsl41 : TSlice Try.prog 41 47 3 := ⟨by kernel_rfl, by kernel_rfl, by decide⟩
instance tze41 : TZero Try.prog 41 (.nilsl) := ⟨by kernel_rfl, rfl, by decide⟩
instance tsh42 : TSh Try.prog 42 .one := ⟨by kernel_rfl⟩
instance tcl42 : TCells Try.prog 42 1 := ⟨by kernel_rfl, by decide⟩
instance tsh43 : TSh Try.prog 43 .one := ⟨by kernel_rfl⟩
instance tcl43 : TCells Try.prog 43 1 := ⟨by kernel_rfl, by decide⟩
instance tze43 : TZero Try.prog 43 (.nilfunc) := ⟨by kernel_rfl, rfl, by decide⟩
instance tsh44 : TSh Try.prog 44 .one := ⟨by kernel_rfl⟩
instance tcl44 : TCells Try.prog 44 1 := ⟨by kernel_rfl, by decide⟩
instance tze44 : TZero Try.prog 44 (.nilfunc) := ⟨by kernel_rfl, rfl, by decide⟩
instance tsh45 : TSh Try.prog 45 .one := ⟨by kernel_rfl⟩
instance tcl45 : TCells Try.prog 45 1 := ⟨by kernel_rfl, by decide⟩
instance tze45 : TZero Try.prog 45 (.nilfunc) := ⟨by kernel_rfl, rfl, by decide⟩
instance tsh46 : TSh Try.prog 46 (.many 3) := ⟨by kernel_rfl⟩
instance tcl46 : TCells Try.prog 46 3 := ⟨by kernel_rfl, by decide⟩
instance tfl46x0 : TField Try.prog 46 0 0 3 := ⟨by kernel_rfl, kne (k := 1) (by kernel_rfl) (by decide)⟩
instance tfl46x1 : TField Try.prog 46 1 1 3 := ⟨by kernel_rfl, kne (k := 1) (by kernel_rfl) (by decide)⟩
instance tfl46x2 : TField Try.prog 46 2 2 3 := ⟨by kernel_rfl, kne (k := 1) (by kernel_rfl) (by decide)⟩
instance tly46 : TLay Try.prog 46 [.int .i64 0, .int .i64 0, .int .i64 0] [(0, 1), (1, 1), (2, 1)] := ⟨by kernel_rfl⟩
instance tze46 : TZero Try.prog 46 (.agg [.int .i64 0, .int .i64 0, .int .i64 0]) := ⟨by kernel_rfl, rfl, by decide⟩
instance tsh47 : TSh Try.prog 47 (.many 3) := ⟨by kernel_rfl⟩
instance tcl47 : TCells Try.prog 47 3 := ⟨by kernel_rfl, by decide⟩
instance tfl47x0 : TField Try.prog 47 0 0 3 := ⟨by kernel_rfl, kne (k := 1) (by kernel_rfl) (by decide)⟩
instance tfl47x1 : TField Try.prog 47 1 1 3 := ⟨by kernel_rfl, kne (k := 1) (by kernel_rfl) (by decide)⟩
instance tfl47x2 : TField Try.prog 47 2 2 3 := ⟨by kernel_rfl, kne (k := 1) (by kernel_rfl) (by decide)⟩
instance tly47 : TLay Try.prog 47 [.int .i64 0, .int .i64 0, .int .i64 0] [(0, 1), (1, 1), (2, 1)] := ⟨by kernel_rfl⟩
instance tze47 : TZero Try.prog 47 (.agg [.int .i64 0, .int .i64 0, .int .i64 0]) := ⟨by kernel_rfl, rfl, by decide⟩
instance tsh48 : TSh Try.prog 48 .one := ⟨by kernel_rfl⟩
instance tcl48 : TCells Try.prog 48 1 := ⟨by kernel_rfl, by decide⟩
instance tze48 : TZero Try.prog 48 (.nilfunc) := ⟨by kernel_rfl, rfl, by decide⟩
instance tsh49 : TSh Try.prog 49 .one := ⟨by kernel_rfl⟩
instance tcl49 : TCells Try.prog 49 1 := ⟨by kernel_rfl, by decide⟩
instance tze49 : TZero Try.prog 49 (.nilfunc) := ⟨by kernel_rfl, rfl, by decide⟩
instance tsh50 : TSh Try.prog 50 .one := ⟨by kernel_rfl⟩
instance tcl50 : TCells Try.prog 50 1 := ⟨by kernel_rfl, by decide⟩
instance tze50 : TZero Try.prog 50 (.nilfunc) := ⟨by kernel_rfl, rfl, by decide⟩
instance tsh51 : TSh Try.prog 51 .one := ⟨by kernel_rfl⟩
instance tcl51 : TCells Try.prog 51 1 := ⟨by kernel_rfl, by decide⟩
instance tze51 : TZero Try.prog 51 (.nilfunc) := ⟨by kernel_rfl, rfl, by decide⟩
instance tsh52 : TSh Try.prog 52 .one := ⟨by kernel_rfl⟩
instance tcl52 : TCells Try.prog 52 1 := ⟨by kernel_rfl, by decide⟩
instance tze52 : TZero Try.prog 52 (.nilfunc) := ⟨by kernel_rfl, rfl, by decide⟩
instance tsh53 : TSh Try.prog 53 .one := ⟨by kernel_rfl⟩
instance tcl53 : TCells Try.prog 53 1 := ⟨by kernel_rfl, by decide⟩
instance tze53 : TZero Try.prog 53 (.nilfunc) := ⟨by kernel_rfl, rfl, by decide⟩
instance tsh54 : TSh Try.prog 54 .one := ⟨by kernel_rfl⟩
instance tcl54 : TCells Try.prog 54 1 := ⟨by kernel_rfl, by decide⟩
instance tze54 : TZero Try.prog 54 (.nilfunc) := ⟨by kernel_rfl, rfl, by decide⟩
instance tsh55 : TSh Try.prog 55 .one := ⟨by kernel_rfl⟩
instance tcl55 : TCells Try.prog 55 1 := ⟨by kernel_rfl, by decide⟩
instance tsh56 : TSh Try.prog 56 .one := ⟨by kernel_rfl⟩
instance tcl56 : TCells Try.prog 56 1 := ⟨by kernel_rfl, by decide⟩
instance tze56 : TZero Try.prog 56 (.nilfunc) := ⟨by kernel_rfl, rfl, by decide⟩
instance tsh57 : TSh Try.prog 57 .one := ⟨by kernel_rfl⟩
instance tcl57 : TCells Try.prog 57 1 := ⟨by kernel_rfl, by decide⟩
instance tze57 : TZero Try.prog 57 (.nilfunc) := ⟨by kernel_rfl, rfl, by decide⟩
instance tsh58 : TSh Try.prog 58 .one := ⟨by kernel_rfl⟩
instance tcl58 : TCells Try.prog 58 1 := ⟨by kernel_rfl, by decide⟩
instance tze58 : TZero Try.prog 58 (.nilfunc) := ⟨by kernel_rfl, rfl, by decide⟩
instance tsh59 : TSh Try.prog 59 .one := ⟨by kernel_rfl⟩
instance tcl59 : TCells Try.prog 59 1 := ⟨by kernel_rfl, by decide⟩
instance tze59 : TZero Try.prog 59 (.nilfunc) := ⟨by kernel_rfl, rfl, by decide⟩
instance tsh60 : TSh Try.prog 60 .one := ⟨by kernel_rfl⟩
instance tcl60 : TCells Try.prog 60 1 := ⟨by kernel_rfl, by decide⟩
instance tsl60 : TSlice Try.prog 60 76 3 := ⟨by kernel_rfl, by kernel_rfl, by decide⟩
instance tze60 : TZero Try.prog 60 (.nilsl) := ⟨by kernel_rfl, rfl, by decide⟩
instance tsh61 : TSh Try.prog 61 (.many 7) := ⟨by kernel_rfl⟩
instance tcl61 : TCells Try.prog 61 7 := ⟨by kernel_rfl, by decide⟩
instance tfl61x0 : TField Try.prog 61 0 0 60 := ⟨by kernel_rfl, kne (k := 1) (by kernel_rfl) (by decide)⟩
instance tfl61x1 : TField Try.prog 61 1 1 47 := ⟨by kernel_rfl, kne (k := 3) (by kernel_rfl) (by decide)⟩
instance tfl61x2 : TField Try.prog 61 2 4 23 := ⟨by kernel_rfl, kne (k := 2) (by kernel_rfl) (by decide)⟩
instance tfl61x3 : TField Try.prog 61 3 6 3 := ⟨by kernel_rfl, kne (k := 1) (by kernel_rfl) (by decide)⟩
instance tly61 : TLay Try.prog 61 [.nilsl, .int .i64 0, .int .i64 0, .int .i64 0, .int .i64 0, .int .i64 0, .int .i64 0] [(0, 1), (1, 3), (4, 2), (6, 1)] := ⟨by kernel_rfl⟩
instance tze61 : TZero Try.prog 61 (.agg [.nilsl, .int .i64 0, .int .i64 0, .int .i64 0, .int .i64 0, .int .i64 0, .int .i64 0]) := ⟨by kernel_rfl, rfl, by decide⟩
instance tsh62 : TSh Try.prog 62 (.many 7) := ⟨by kernel_rfl⟩
instance tcl62 : TCells Try.prog 62 7 := ⟨by kernel_rfl, by decide⟩
instance tfl62x0 : TField Try.prog 62 0 0 60 := ⟨by kernel_rfl, kne (k := 1) (by kernel_rfl) (by decide)⟩
instance tfl62x1 : TField Try.prog 62 1 1 47 := ⟨by kernel_rfl, kne (k := 3) (by kernel_rfl) (by decide)⟩
instance tfl62x2 : TField Try.prog 62 2 4 23 := ⟨by kernel_rfl, kne (k := 2) (by kernel_rfl) (by decide)⟩
instance tfl62x3 : TField Try.prog 62 3 6 3 := ⟨by kernel_rfl, kne (k := 1) (by kernel_rfl) (by decide)⟩
instance tly62 : TLay Try.prog 62 [.nilsl, .int .i64 0, .int .i64 0, .int .i64 0, .int .i64 0, .int .i64 0, .int .i64 0] [(0, 1), (1, 3), (4, 2), (6, 1)] := ⟨by kernel_rfl⟩
instance tze62 : TZero Try.prog 62 (.agg [.nilsl, .int .i64 0, .int .i64 0, .int .i64 0, .int .i64 0, .int .i64 0, .int .i64 0]) := ⟨by kernel_rfl, rfl, by decide⟩
instance tsh63 : TSh Try.prog 63 (.many 2) := ⟨by kernel_rfl⟩
instance tcl63 : TCells Try.prog 63 2 := ⟨by kernel_rfl, by decide⟩
instance tfl63x0 : TField Try.prog 63 0 0 3 := ⟨by kernel_rfl, kne (k := 1) (by kernel_rfl) (by decide)⟩
instance tfl63x1 : TField Try.prog 63 1 1 3 := ⟨by kernel_rfl, kne (k := 1) (by kernel_rfl) (by decide)⟩
instance tly63 : TLay Try.prog 63 [.int .i64 0, .int .i64 0] [(0, 1), (1, 1)] := ⟨by kernel_rfl⟩
instance tze63 : TZero Try.prog 63 (.agg [.int .i64 0, .int .i64 0]) := ⟨by kernel_rfl, rfl, by decide⟩
instance tsh64 : TSh Try.prog 64 (.many 2) := ⟨by kernel_rfl⟩
instance tcl64 : TCells Try.prog 64 2 := ⟨by kernel_rfl, by decide⟩
instance tfl64x0 : TField Try.prog 64 0 0 3 := ⟨by kernel_rfl, kne (k := 1) (by kernel_rfl) (by decide)⟩
instance tfl64x1 : TField Try.prog 64 1 1 3 := ⟨by kernel_rfl, kne (k := 1) (by kernel_rfl) (by decide)⟩
instance tly64 : TLay Try.prog 64 [.int .i64 0, .int .i64 0] [(0, 1), (1, 1)] := ⟨by kernel_rfl⟩
instance tze64 : TZero Try.prog 64 (.agg [.int .i64 0, .int .i64 0]) := ⟨by kernel_rfl, rfl, by decide⟩
instance tsh65 : TSh Try.prog 65 .one := ⟨by kernel_rfl⟩
instance tcl65 : TCells Try.prog 65 1 := ⟨by kernel_rfl, by decide⟩
instance tsh66 : TSh Try.prog 66 .one := ⟨by kernel_rfl⟩
instance tcl66 : TCells Try.prog 66 1 := ⟨by kernel_rfl, by decide⟩
instance tze66 : TZero Try.prog 66 (.nilfunc) := ⟨by kernel_rfl, rfl, by decide⟩
instance tsh67 : TSh Try.prog 67 .one := ⟨by kernel_rfl⟩
instance tcl67 : TCells Try.prog 67 1 := ⟨by kernel_rfl, by decide⟩
instance tze67 : TZero Try.prog 67 (.nilfunc) := ⟨by kernel_rfl, rfl, by decide⟩
instance tsh68 : TSh Try.prog 68 .one := ⟨by kernel_rfl⟩
instance tcl68 : TCells Try.prog 68 1 := ⟨by kernel_rfl, by decide⟩
instance tze68 : TZero Try.prog 68 (.nilfunc) := ⟨by kernel_rfl, rfl, by decide⟩
instance tsh69 : TSh Try.prog 69 .one := ⟨by kernel_rfl⟩
instance tcl69 : TCells Try.prog 69 1 := ⟨by kernel_rfl, by decide⟩
instance tze69 : TZero Try.prog 69 (.nilfunc) := ⟨by kernel_rfl, rfl, by decide⟩
instance tsh70 : TSh Try.prog 70 .one := ⟨by kernel_rfl⟩
instance tcl70 : TCells Try.prog 70 1 := ⟨by kernel_rfl, by decide⟩
instance tze70 : TZero Try.prog 70 (.nilfunc) := ⟨by kernel_rfl, rfl, by decide⟩
instance tsh71 : TSh Try.prog 71 .one := ⟨by kernel_rfl⟩
instance tcl71 : TCells Try.prog 71 1 := ⟨by kernel_rfl, by decide⟩
instance tze71 : TZero Try.prog 71 (.nilfunc) := ⟨by kernel_rfl, rfl, by decide⟩
instance tsh72 : TSh Try.prog 72 .one := ⟨by kernel_rfl⟩
instance tcl72 : TCells Try.prog 72 1 := ⟨by kernel_rfl, by decide⟩
instance tze72 : TZero Try.prog 72 (.int .i8 0) := ⟨by kernel_rfl, rfl, by decide⟩
instance tsh73 : TSh Try.prog 73 (.many 3) := ⟨by kernel_rfl⟩
instance tcl73 : TCells Try.prog 73 3 := ⟨by kernel_rfl, by decide⟩
instance tze73 : TZero Try.prog 73 (.agg [.int .i8 0, .int .i8 0, .int .i8 0]) := ⟨by kernel_rfl, rfl, by decide⟩
instance tsh74 : TSh Try.prog 74 .one := ⟨by kernel_rfl⟩
instance tcl74 : TCells Try.prog 74 1 := ⟨by kernel_rfl, by decide⟩
instance tze74 : TZero Try.prog 74 (.nilfunc) := ⟨by kernel_rfl, rfl, by decide⟩
instance tsh75 : TSh Try.prog 75 (.many 3) := ⟨by kernel_rfl⟩
instance tcl75 : TCells Try.prog 75 3 := ⟨by kernel_rfl, by decide⟩
instance tfl75x0 : TField Try.prog 75 0 0 3 := ⟨by kernel_rfl, kne (k := 1) (by kernel_rfl) (by decide)⟩
instance tfl75x1 : TField Try.prog 75 1 1 3 := ⟨by kernel_rfl, kne (k := 1) (by kernel_rfl) (by decide)⟩
instance tfl75x2 : TField Try.prog 75 2 2 3 := ⟨by kernel_rfl, kne (k := 1) (by kernel_rfl) (by decide)⟩
instance tly75 : TLay Try.prog 75 [.int .i64 0, .int .i64 0, .int .i64 0] [(0, 1), (1, 1), (2, 1)] := ⟨by kernel_rfl⟩
instance tze75 : TZero Try.prog 75 (.agg [.int .i64 0, .int .i64 0, .int .i64 0]) := ⟨by kernel_rfl, rfl, by decide⟩
instance tsh76 : TSh Try.prog 76 (.many 3) := ⟨by kernel_rfl⟩
instance tcl76 : TCells Try.prog 76 3 := ⟨by kernel_rfl, by decide⟩
instance tfl76x0 : TField Try.prog 76 0 0 3 := ⟨by kernel_rfl, kne (k := 1) (by kernel_rfl) (by decide)⟩
instance tfl76x1 : TField Try.prog 76 1 1 3 := ⟨by kernel_rfl, kne (k := 1) (by kernel_rfl) (by decide)⟩
instance tfl76x2 : TField Try.prog 76 2 2 3 := ⟨by kernel_rfl, kne (k := 1) (by kernel_rfl) (by decide)⟩
instance tly76 : TLay Try.prog 76 [.int .i64 0, .int .i64 0, .int .i64 0] [(0, 1), (1, 1), (2, 1)] := ⟨by kernel_rfl⟩
instance tze76 : TZero Try.prog 76 (.agg [.int .i64 0, .int .i64 0, .int .i64 0]) := ⟨by kernel_rfl, rfl, by decide⟩
instance tsh77 : TSh Try.prog 77 .one := ⟨by kernel_rfl⟩
instance tcl77 : TCells Try.prog 77 1 := ⟨by kernel_rfl, by decide⟩
instance tze77 : TZero Try.prog 77 (.nilfunc) := ⟨by kernel_rfl, rfl, by decide⟩
instance tsh78 : TSh Try.prog 78 .one := ⟨by kernel_rfl⟩
instance tcl78 : TCells Try.prog 78 1 := ⟨by kernel_rfl, by decide⟩
instance tze78 : TZero Try.prog 78 (.nilfunc) := ⟨by kernel_rfl, rfl, by decide⟩
instance tsh79 : TSh Try.prog 79 .one := ⟨by kernel_rfl⟩
instance tcl79 : TCells Try.prog 79 1 := ⟨by kernel_rfl, by decide⟩
instance tze79 : TZero Try.prog 79 (.nilfunc) := ⟨by kernel_rfl, rfl, by decide⟩
instance tsh80 : TSh Try.prog 80 .one := ⟨by kernel_rfl⟩
instance tcl80 : TCells Try.prog 80 1 := ⟨by kernel_rfl, by decide⟩
instance tsh81 : TSh Try.prog 81 .one := ⟨by kernel_rfl⟩
instance tcl81 : TCells Try.prog 81 1 := ⟨by kernel_rfl, by decide⟩
instance tze81 : TZero Try.prog 81 (.nilfunc) := ⟨by kernel_rfl, rfl, by decide⟩
instance tsh82 : TSh Try.prog 82 .one := ⟨by kernel_rfl⟩
instance tcl82 : TCells Try.prog 82 1 := ⟨by kernel_rfl, by decide⟩
instance tze82 : TZero Try.prog 82 (.nilfunc) := ⟨by kernel_rfl, rfl, by decide⟩
instance tsh83 : TSh Try.prog 83 .one := ⟨by kernel_rfl⟩
instance tcl83 : TCells Try.prog 83 1 := ⟨by kernel_rfl, by decide⟩
instance tze83 : TZero Try.prog 83 (.nilfunc) := ⟨by kernel_rfl, rfl, by decide⟩
instance tsh84 : TSh Try.prog 84 .one := ⟨by kernel_rfl⟩
instance tcl84 : TCells Try.prog 84 1 := ⟨by kernel_rfl, by decide⟩
instance tze84 : TZero Try.prog 84 (.nilfunc) := ⟨by kernel_rfl, rfl, by decide⟩
instance tsh85 : TSh Try.prog 85 .one := ⟨by kernel_rfl⟩
instance tcl85 : TCells Try.prog 85 1 := ⟨by kernel_rfl, by decide⟩
instance tze85 : TZero Try.prog 85 (.nilfunc) := ⟨by kernel_rfl, rfl, by decide⟩
instance tsh86 : TSh Try.prog 86 .one := ⟨by kernel_rfl⟩
instance tcl86 : TCells Try.prog 86 1 := ⟨by kernel_rfl, by decide⟩
instance tze86 : TZero Try.prog 86 (.nilfunc) := ⟨by kernel_rfl, rfl, by decide⟩
instance tsh87 : TSh Try.prog 87 .one := ⟨by kernel_rfl⟩
instance tcl87 : TCells Try.prog 87 1 := ⟨by kernel_rfl, by decide⟩
instance tze87 : TZero Try.prog 87 (.nilfunc) := ⟨by kernel_rfl, rfl, by decide⟩
instance tsh88 : TSh Try.prog 88 .one := ⟨by kernel_rfl⟩
instance tcl88 : TCells Try.prog 88 1 := ⟨by kernel_rfl, by decide⟩
instance tze88 : TZero Try.prog 88 (.nilfunc) := ⟨by kernel_rfl, rfl, by decide⟩
instance tsh89 : TSh Try.prog 89 .one := ⟨by kernel_rfl⟩
instance tcl89 : TCells Try.prog 89 1 := ⟨by kernel_rfl, by decide⟩
instance tze89 : TZero Try.prog 89 (.nilfunc) := ⟨by kernel_rfl, rfl, by decide⟩
instance tsh90 : TSh Try.prog 90 .one := ⟨by kernel_rfl⟩
instance tcl90 : TCells Try.prog 90 1 := ⟨by kernel_rfl, by decide⟩
instance tze90 : TZero Try.prog 90 (.nilfunc) := ⟨by kernel_rfl, rfl, by decide⟩
instance tsh91 : TSh Try.prog 91 .one := ⟨by kernel_rfl⟩
instance tcl91 : TCells Try.prog 91 1 := ⟨by kernel_rfl, by decide⟩
instance tze91 : TZero Try.prog 91 (.nilfunc) := ⟨by kernel_rfl, rfl, by decide⟩
instance tsh92 : TSh Try.prog 92 (.many 6) := ⟨by kernel_rfl⟩
instance tcl92 : TCells Try.prog 92 6 := ⟨by kernel_rfl, by decide⟩
instance tze92 : TZero Try.prog 92 (.agg [.int .i64 0, .int .i64 0, .int .i64 0, .int .i64 0, .int .i64 0, .int .i64 0]) := ⟨by kernel_rfl, rfl, by decide⟩
instance tsh93 : TSh Try.prog 93 .one := ⟨by kernel_rfl⟩
instance tcl93 : TCells Try.prog 93 1 := ⟨by kernel_rfl, by decide⟩
instance tze93 : TZero Try.prog 93 (.nilfunc) := ⟨by kernel_rfl, rfl, by decide⟩
instance tsh94 : TSh Try.prog 94 .one := ⟨by kernel_rfl⟩
instance tcl94 : TCells Try.prog 94 1 := ⟨by kernel_rfl, by decide⟩
instance tze94 : TZero Try.prog 94 (.nilfunc) := ⟨by kernel_rfl, rfl, by decide⟩
instance tsh95 : TSh Try.prog 95 .one := ⟨by kernel_rfl⟩
instance tcl95 : TCells Try.prog 95 1 := ⟨by kernel_rfl, by decide⟩
instance tze95 : TZero Try.prog 95 (.nilfunc) := ⟨by kernel_rfl, rfl, by decide⟩
instance tsh96 : TSh Try.prog 96 .one := ⟨by kernel_rfl⟩
instance tcl96 : TCells Try.prog 96 1 := ⟨by kernel_rfl, by decide⟩
instance tze96 : TZero Try.prog 96 (.nilfunc) := ⟨by kernel_rfl, rfl, by decide⟩
instance tsh97 : TSh Try.prog 97 .one := ⟨by kernel_rfl⟩
instance tcl97 : TCells Try.prog 97 1 := ⟨by kernel_rfl, by decide⟩
instance tze97 : TZero Try.prog 97 (.nilfunc) := ⟨by kernel_rfl, rfl, by decide⟩
instance tsh98 : TSh Try.prog 98 (.many 2) := ⟨by kernel_rfl⟩
instance tcl98 : TCells Try.prog 98 2 := ⟨by kernel_rfl, by decide⟩
instance tfl98x0 : TField Try.prog 98 0 0 26 := ⟨by kernel_rfl, kne (k := 1) (by kernel_rfl) (by decide)⟩
instance tfl98x1 : TField Try.prog 98 1 1 30 := ⟨by kernel_rfl, kne (k := 1) (by kernel_rfl) (by decide)⟩
instance tly98 : TLay Try.prog 98 [.int .i64 0, .nilfunc] [(0, 1), (1, 1)] := ⟨by kernel_rfl⟩
instance tze98 : TZero Try.prog 98 (.agg [.int .i64 0, .nilfunc]) := ⟨by kernel_rfl, rfl, by decide⟩
instance tsh99 : TSh Try.prog 99 (.many 2) := ⟨by kernel_rfl⟩
instance tcl99 : TCells Try.prog 99 2 := ⟨by kernel_rfl, by decide⟩
instance tfl99x0 : TField Try.prog 99 0 0 26 := ⟨by kernel_rfl, kne (k := 1) (by kernel_rfl) (by decide)⟩
instance tfl99x1 : TField Try.prog 99 1 1 30 := ⟨by kernel_rfl, kne (k := 1) (by kernel_rfl) (by decide)⟩
instance tly99 : TLay Try.prog 99 [.int .i64 0, .nilfunc] [(0, 1), (1, 1)] := ⟨by kernel_rfl⟩
instance tze99 : TZero Try.prog 99 (.agg [.int .i64 0, .nilfunc]) := ⟨by kernel_rfl, rfl, by decide⟩
instance tsh100 : TSh Try.prog 100 (.many 8) := ⟨by kernel_rfl⟩
instance tcl100 : TCells Try.prog 100 8 := ⟨by kernel_rfl, by decide⟩
instance tze100 : TZero Try.prog 100 (.agg [.int .i64 0, .nilfunc, .int .i64 0, .nilfunc, .int .i64 0, .nilfunc, .int .i64 0, .nilfunc]) := ⟨by kernel_rfl, rfl, by decide⟩
instance tsh101 : TSh Try.prog 101 .one := ⟨by kernel_rfl⟩
instance tcl101 : TCells Try.prog 101 1 := ⟨by kernel_rfl, by decide⟩
instance tze101 : TZero Try.prog 101 (.nilfunc) := ⟨by kernel_rfl, rfl, by decide⟩
instance tsh102 : TSh Try.prog 102 (.many 9) := ⟨by kernel_rfl⟩
instance tcl102 : TCells Try.prog 102 9 := ⟨by kernel_rfl, by decide⟩
instance tze102 : TZero Try.prog 102 (.agg [.int .i64 0, .int .i64 0, .int .i64 0, .int .i64 0, .int .i64 0, .int .i64 0, .int .i64 0, .int .i64 0, .int .i64 0]) := ⟨by kernel_rfl, rfl, by decide⟩
instance tsh103 : TSh Try.prog 103 .one := ⟨by kernel_rfl⟩
instance tcl103 : TCells Try.prog 103 1 := ⟨by kernel_rfl, by decide⟩
instance tsh104 : TSh Try.prog 104 .one := ⟨by kernel_rfl⟩
instance tcl104 : TCells Try.prog 104 1 := ⟨by kernel_rfl, by decide⟩
instance tze104 : TZero Try.prog 104 (.nilfunc) := ⟨by kernel_rfl, rfl, by decide⟩
instance tsh105 : TSh Try.prog 105 .one := ⟨by kernel_rfl⟩
instance tcl105 : TCells Try.prog 105 1 := ⟨by kernel_rfl, by decide⟩
instance tze105 : TZero Try.prog 105 (.nilfunc) := ⟨by kernel_rfl, rfl, by decide⟩
instance tsh106 : TSh Try.prog 106 .one := ⟨by kernel_rfl⟩
instance tcl106 : TCells Try.prog 106 1 := ⟨by kernel_rfl, by decide⟩
instance tze106 : TZero Try.prog 106 (.nilfunc) := ⟨by kernel_rfl, rfl, by decide⟩
instance tsh107 : TSh Try.prog 107 .one := ⟨by kernel_rfl⟩
instance tcl107 : TCells Try.prog 107 1 := ⟨by kernel_rfl, by decide⟩
instance tze107 : TZero Try.prog 107 (.nilfunc) := ⟨by kernel_rfl, rfl, by decide⟩
instance tsh108 : TSh Try.prog 108 .one := ⟨by kernel_rfl⟩
instance tcl108 : TCells Try.prog 108 1 := ⟨by kernel_rfl, by decide⟩
instance tze108 : TZero Try.prog 108 (.nilfunc) := ⟨by kernel_rfl, rfl, by decide⟩
instance tsh109 : TSh Try.prog 109 .one := ⟨by kernel_rfl⟩
instance tcl109 : TCells Try.prog 109 1 := ⟨by kernel_rfl, by decide⟩
instance tze109 : TZero Try.prog 109 (.nilfunc) := ⟨by kernel_rfl, rfl, by decide⟩
instance tsh110 : TSh Try.prog 110 (.many 3) := ⟨by kernel_rfl⟩
instance tcl110 : TCells Try.prog 110 3 := ⟨by kernel_rfl, by decide⟩
instance tze110 : TZero Try.prog 110 (.agg [.int .i64 0, .int .i64 0, .int .i64 0]) := ⟨by kernel_rfl, rfl, by decide⟩
instance tsh111 : TSh Try.prog 111 .one := ⟨by kernel_rfl⟩
instance tcl111 : TCells Try.prog 111 1 := ⟨by kernel_rfl, by decide⟩
instance tze111 : TZero Try.prog 111 (.nilfunc) := ⟨by kernel_rfl, rfl, by decide⟩
instance tsh112 : TSh Try.prog 112 .one := ⟨by kernel_rfl⟩
instance tcl112 : TCells Try.prog 112 1 := ⟨by kernel_rfl, by decide⟩
instance tze112 : TZero Try.prog 112 (.nilfunc) := ⟨by kernel_rfl, rfl, by decide⟩
instance tsh113 : TSh Try.prog 113 .one := ⟨by kernel_rfl⟩
instance tcl113 : TCells Try.prog 113 1 := ⟨by kernel_rfl, by decide⟩
instance tze113 : TZero Try.prog 113 (.nilfunc) := ⟨by kernel_rfl, rfl, by decide⟩
instance tsh114 : TSh Try.prog 114 .one := ⟨by kernel_rfl⟩
instance tcl114 : TCells Try.prog 114 1 := ⟨by kernel_rfl, by decide⟩
instance tze114 : TZero Try.prog 114 (.nilfunc) := ⟨by kernel_rfl, rfl, by decide⟩
instance tsh115 : TSh Try.prog 115 .one := ⟨by kernel_rfl⟩
instance tcl115 : TCells Try.prog 115 1 := ⟨by kernel_rfl, by decide⟩
instance tze115 : TZero Try.prog 115 (.nilfunc) := ⟨by kernel_rfl, rfl, by decide⟩
instance tsh116 : TSh Try.prog 116 .one := ⟨by kernel_rfl⟩
instance tcl116 : TCells Try.prog 116 1 := ⟨by kernel_rfl, by decide⟩
instance tze116 : TZero Try.prog 116 (.nilfunc) := ⟨by kernel_rfl, rfl, by decide⟩
instance tsh117 : TSh Try.prog 117 .one := ⟨by kernel_rfl⟩
instance tcl117 : TCells Try.prog 117 1 := ⟨by kernel_rfl, by decide⟩
instance tze117 : TZero Try.prog 117 (.nilfunc) := ⟨by kernel_rfl, rfl, by decide⟩
instance tsh118 : TSh Try.prog 118 .one := ⟨by kernel_rfl⟩
instance tcl118 : TCells Try.prog 118 1 := ⟨by kernel_rfl, by decide⟩
instance tsh119 : TSh Try.prog 119 .one := ⟨by kernel_rfl⟩
instance tcl119 : TCells Try.prog 119 1 := ⟨by kernel_rfl, by decide⟩
instance tze119 : TZero Try.prog 119 (.nilfunc) := ⟨by kernel_rfl, rfl, by decide⟩
instance tsh120 : TSh Try.prog 120 .one := ⟨by kernel_rfl⟩
instance tcl120 : TCells Try.prog 120 1 := ⟨by kernel_rfl, by decide⟩
instance tze120 : TZero Try.prog 120 (.nilfunc) := ⟨by kernel_rfl, rfl, by decide⟩
instance tsh121 : TSh Try.prog 121 .one := ⟨by kernel_rfl⟩
instance tcl121 : TCells Try.prog 121 1 := ⟨by kernel_rfl, by decide⟩
instance tze121 : TZero Try.prog 121 (.nilfunc) := ⟨by kernel_rfl, rfl, by decide⟩
instance tsh122 : TSh Try.prog 122 .one := ⟨by kernel_rfl⟩
instance tcl122 : TCells Try.prog 122 1 := ⟨by kernel_rfl, by decide⟩
instance tze122 : TZero Try.prog 122 (.nilfunc) := ⟨by kernel_rfl, rfl, by decide⟩
instance tsh123 : TSh Try.prog 123 .one := ⟨by kernel_rfl⟩
instance tcl123 : TCells Try.prog 123 1 := ⟨by kernel_rfl, by decide⟩
instance tze123 : TZero Try.prog 123 (.int .u64 0) := ⟨by kernel_rfl, rfl, by decide⟩
instance tsh124 : TSh Try.prog 124 .one := ⟨by kernel_rfl⟩
instance tcl124 : TCells Try.prog 124 1 := ⟨by kernel_rfl, by decide⟩
instance tze124 : TZero Try.prog 124 (.nilfunc) := ⟨by kernel_rfl, rfl, by decide⟩
instance tsh125 : TSh Try.prog 125 .one := ⟨by kernel_rfl⟩
instance tcl125 : TCells Try.prog 125 1 := ⟨by kernel_rfl, by decide⟩
instance tsl125 : TSlice Try.prog 125 3 1 := ⟨by kernel_rfl, by kernel_rfl, by decide⟩
instance tze125 : TZero Try.prog 125 (.nilsl) := ⟨by kernel_rfl, rfl, by decide⟩
instance tsh126 : TSh Try.prog 126 .one := ⟨by kernel_rfl⟩
instance tcl126 : TCells Try.prog 126 1 := ⟨by kernel_rfl, by decide⟩
instance tze126 : TZero Try.prog 126 (.nilfunc) := ⟨by kernel_rfl, rfl, by decide⟩
instance tsh127 : TSh Try.prog 127 .one := ⟨by kernel_rfl⟩
instance tcl127 : TCells Try.prog 127 1 := ⟨by kernel_rfl, by decide⟩
instance tze127 : TZero Try.prog 127 (.int .i64 0) := ⟨by kernel_rfl, rfl, by decide⟩
instance tsh128 : TSh Try.prog 128 .one := ⟨by kernel_rfl⟩
instance tcl128 : TCells Try.prog 128 1 := ⟨by kernel_rfl, by decide⟩
instance tsh129 : TSh Try.prog 129 .one := ⟨by kernel_rfl⟩
instance tcl129 : TCells Try.prog 129 1 := ⟨by kernel_rfl, by decide⟩
instance tze129 : TZero Try.prog 129 (.nilfunc) := ⟨by kernel_rfl, rfl, by decide⟩
instance tsh130 : TSh Try.prog 130 .one := ⟨by kernel_rfl⟩
instance tcl130 : TCells Try.prog 130 1 := ⟨by kernel_rfl, by decide⟩
instance tze130 : TZero Try.prog 130 (.nilfunc) := ⟨by kernel_rfl, rfl, by decide⟩
instance tsh131 : TSh Try.prog 131 .one := ⟨by kernel_rfl⟩
instance tcl131 : TCells Try.prog 131 1 := ⟨by kernel_rfl, by decide⟩
instance tze131 : TZero Try.prog 131 (.nilfunc) := ⟨by kernel_rfl, rfl, by decide⟩
instance tsh132 : TSh Try.prog 132 .one := ⟨by kernel_rfl⟩
instance tcl132 : TCells Try.prog 132 1 := ⟨by kernel_rfl, by decide⟩
instance tsh133 : TSh Try.prog 133 .one := ⟨by kernel_rfl⟩
instance tcl133 : TCells Try.prog 133 1 := ⟨by kernel_rfl, by decide⟩
instance tze133 : TZero Try.prog 133 (.nilfunc) := ⟨by kernel_rfl, rfl, by decide⟩
instance tsh134 : TSh Try.prog 134 .one := ⟨by kernel_rfl⟩
instance tcl134 : TCells Try.prog 134 1 := ⟨by kernel_rfl, by decide⟩
instance tze134 : TZero Try.prog 134 (.nilfunc) := ⟨by kernel_rfl, rfl, by decide⟩
instance tsh135 : TSh Try.prog 135 .one := ⟨by kernel_rfl⟩
instance tcl135 : TCells Try.prog 135 1 := ⟨by kernel_rfl, by decide⟩
instance tze135 : TZero Try.prog 135 (.int .u32 0) := ⟨by kernel_rfl, rfl, by decide⟩
instance tsh136 : TSh Try.prog 136 .one := ⟨by kernel_rfl⟩
instance tcl136 : TCells Try.prog 136 1 := ⟨by kernel_rfl, by decide⟩
instance tze136 : TZero Try.prog 136 (.nilfunc) := ⟨by kernel_rfl, rfl, by decide⟩
instance tsh137 : TSh Try.prog 137 .one := ⟨by kernel_rfl⟩
instance tcl137 : TCells Try.prog 137 1 := ⟨by kernel_rfl, by decide⟩
instance tze137 : TZero Try.prog 137 (.int .u64 0) := ⟨by kernel_rfl, rfl, by decide⟩
instance tsh138 : TSh Try.prog 138 .one := ⟨by kernel_rfl⟩
instance tcl138 : TCells Try.prog 138 1 := ⟨by kernel_rfl, by decide⟩
instance tze138 : TZero Try.prog 138 (.nilfunc) := ⟨by kernel_rfl, rfl, by decide⟩
instance tsh139 : TSh Try.prog 139 .one := ⟨by kernel_rfl⟩
instance tcl139 : TCells Try.prog 139 1 := ⟨by kernel_rfl, by decide⟩
instance tze139 : TZero Try.prog 139 (.nilfunc) := ⟨by kernel_rfl, rfl, by decide⟩
instance tsh140 : TSh Try.prog 140 .one := ⟨by kernel_rfl⟩
instance tcl140 : TCells Try.prog 140 1 := ⟨by kernel_rfl, by decide⟩
instance tze140 : TZero Try.prog 140 (.nilfunc) := ⟨by kernel_rfl, rfl, by decide⟩
instance tsh141 : TSh Try.prog 141 .one := ⟨by kernel_rfl⟩
instance tcl141 : TCells Try.prog 141 1 := ⟨by kernel_rfl, by decide⟩
instance tze141 : TZero Try.prog 141 (.nilfunc) := ⟨by kernel_rfl, rfl, by decide⟩
instance tsh142 : TSh Try.prog 142 .one := ⟨by kernel_rfl⟩
instance tcl142 : TCells Try.prog 142 1 := ⟨by kernel_rfl, by decide⟩
instance tze142 : TZero Try.prog 142 (.nilfunc) := ⟨by kernel_rfl, rfl, by decide⟩
instance tsh143 : TSh Try.prog 143 .one := ⟨by kernel_rfl⟩
instance tcl143 : TCells Try.prog 143 1 := ⟨by kernel_rfl, by decide⟩
instance tze143 : TZero Try.prog 143 (.int .u64 0) := ⟨by kernel_rfl, rfl, by decide⟩
instance tsh144 : TSh Try.prog 144 .one := ⟨by kernel_rfl⟩
instance tcl144 : TCells Try.prog 144 1 := ⟨by kernel_rfl, by decide⟩
instance tze144 : TZero Try.prog 144 (.nilfunc) := ⟨by kernel_rfl, rfl, by decide⟩
instance tsh145 : TSh Try.prog 145 .one := ⟨by kernel_rfl⟩
instance tcl145 : TCells Try.prog 145 1 := ⟨by kernel_rfl, by decide⟩
instance tze145 : TZero Try.prog 145 (.nilfunc) := ⟨by kernel_rfl, rfl, by decide⟩
instance tsh146 : TSh Try.prog 146 .one := ⟨by kernel_rfl⟩
instance tcl146 : TCells Try.prog 146 1 := ⟨by kernel_rfl, by decide⟩
instance tze146 : TZero Try.prog 146 (.nilfunc) := ⟨by kernel_rfl, rfl, by decide⟩
instance tsh147 : TSh Try.prog 147 .one := ⟨by kernel_rfl⟩
instance tcl147 : TCells Try.prog 147 1 := ⟨by kernel_rfl, by decide⟩
instance tze147 : TZero Try.prog 147 (.nilptr) := ⟨by kernel_rfl, rfl, by decide⟩
instance tsh148 : TSh Try.prog 148 .one := ⟨by kernel_rfl⟩
instance tcl148 : TCells Try.prog 148 1 := ⟨by kernel_rfl, by decide⟩
instance tze148 : TZero Try.prog 148 (.nilfunc) := ⟨by kernel_rfl, rfl, by decide⟩
instance tsh149 : TSh Try.prog 149 .one := ⟨by kernel_rfl⟩
instance tcl149 : TCells Try.prog 149 1 := ⟨by kernel_rfl, by decide⟩
instance tze149 : TZero Try.prog 149 (.nilfunc) := ⟨by kernel_rfl, rfl, by decide⟩
instance tsh150 : TSh Try.prog 150 .one := ⟨by kernel_rfl⟩
instance tcl150 : TCells Try.prog 150 1 := ⟨by kernel_rfl, by decide⟩
instance tze150 : TZero Try.prog 150 (.nilfunc) := ⟨by kernel_rfl, rfl, by decide⟩
instance tsh151 : TSh Try.prog 151 .one := ⟨by kernel_rfl⟩
instance tcl151 : TCells Try.prog 151 1 := ⟨by kernel_rfl, by decide⟩
instance tze151 : TZero Try.prog 151 (.nilptr) := ⟨by kernel_rfl, rfl, by decide⟩
instance tsh152 : TSh Try.prog 152 .one := ⟨by kernel_rfl⟩
instance tcl152 : TCells Try.prog 152 1 := ⟨by kernel_rfl, by decide⟩
instance tze152 : TZero Try.prog 152 (.nilfunc) := ⟨by kernel_rfl, rfl, by decide⟩
instance tsh153 : TSh Try.prog 153 .one := ⟨by kernel_rfl⟩
instance tcl153 : TCells Try.prog 153 1 := ⟨by kernel_rfl, by decide⟩
instance tze153 : TZero Try.prog 153 (.nilfunc) := ⟨by kernel_rfl, rfl, by decide⟩
instance tsh154 : TSh Try.prog 154 .one := ⟨by kernel_rfl⟩
instance tcl154 : TCells Try.prog 154 1 := ⟨by kernel_rfl, by decide⟩
instance tze154 : TZero Try.prog 154 (.nilfunc) := ⟨by kernel_rfl, rfl, by decide⟩
instance tsh155 : TSh Try.prog 155 (.many 4) := ⟨by kernel_rfl⟩
instance tcl155 : TCells Try.prog 155 4 := ⟨by kernel_rfl, by decide⟩
instance tfl155x0 : TField Try.prog 155 0 0 17 := ⟨by kernel_rfl, kne (k := 1) (by kernel_rfl) (by decide)⟩
instance tfl155x1 : TField Try.prog 155 1 1 17 := ⟨by kernel_rfl, kne (k := 1) (by kernel_rfl) (by decide)⟩
instance tfl155x2 : TField Try.prog 155 2 2 17 := ⟨by kernel_rfl, kne (k := 1) (by kernel_rfl) (by decide)⟩
instance tfl155x3 : TField Try.prog 155 3 3 9 := ⟨by kernel_rfl, kne (k := 1) (by kernel_rfl) (by decide)⟩
instance tly155 : TLay Try.prog 155 [.nilptr, .nilptr, .nilptr, .str ByteArray.empty] [(0, 1), (1, 1), (2, 1), (3, 1)] := ⟨by kernel_rfl⟩
instance tze155 : TZero Try.prog 155 (.agg [.nilptr, .nilptr, .nilptr, .str ByteArray.empty]) := ⟨by kernel_rfl, rfl, by decide⟩
instance tsh156 : TSh Try.prog 156 (.many 4) := ⟨by kernel_rfl⟩
instance tcl156 : TCells Try.prog 156 4 := ⟨by kernel_rfl, by decide⟩
instance tfl156x0 : TField Try.prog 156 0 0 17 := ⟨by kernel_rfl, kne (k := 1) (by kernel_rfl) (by decide)⟩
instance tfl156x1 : TField Try.prog 156 1 1 17 := ⟨by kernel_rfl, kne (k := 1) (by kernel_rfl) (by decide)⟩
instance tfl156x2 : TField Try.prog 156 2 2 17 := ⟨by kernel_rfl, kne (k := 1) (by kernel_rfl) (by decide)⟩
instance tfl156x3 : TField Try.prog 156 3 3 9 := ⟨by kernel_rfl, kne (k := 1) (by kernel_rfl) (by decide)⟩
instance tly156 : TLay Try.prog 156 [.nilptr, .nilptr, .nilptr, .str ByteArray.empty] [(0, 1), (1, 1), (2, 1), (3, 1)] := ⟨by kernel_rfl⟩
instance tze156 : TZero Try.prog 156 (.agg [.nilptr, .nilptr, .nilptr, .str ByteArray.empty]) := ⟨by kernel_rfl, rfl, by decide⟩
instance tsh160 : TSh Try.prog 160 .one := ⟨by kernel_rfl⟩
instance tcl160 : TCells Try.prog 160 1 := ⟨by kernel_rfl, by decide⟩
instance tze160 : TZero Try.prog 160 (.nilfunc) := ⟨by kernel_rfl, rfl, by decide⟩
instance tsh161 : TSh Try.prog 161 .one := ⟨by kernel_rfl⟩
instance tcl161 : TCells Try.prog 161 1 := ⟨by kernel_rfl, by decide⟩
instance tze161 : TZero Try.prog 161 (.int .u8 0) := ⟨by kernel_rfl, rfl, by decide⟩
instance tsh162 : TSh Try.prog 162 .one := ⟨by kernel_rfl⟩
instance tcl162 : TCells Try.prog 162 1 := ⟨by kernel_rfl, by decide⟩
instance tze162 : TZero Try.prog 162 (.int .u8 0) := ⟨by kernel_rfl, rfl, by decide⟩
instance tsh163 : TSh Try.prog 163 .one := ⟨by kernel_rfl⟩
instance tcl163 : TCells Try.prog 163 1 := ⟨by kernel_rfl, by decide⟩
instance tze163 : TZero Try.prog 163 (.nilfunc) := ⟨by kernel_rfl, rfl, by decide⟩
instance tsh164 : TSh Try.prog 164 .one := ⟨by kernel_rfl⟩
instance tcl164 : TCells Try.prog 164 1 := ⟨by kernel_rfl, by decide⟩
instance tze164 : TZero Try.prog 164 (.nilptr) := ⟨by kernel_rfl, rfl, by decide⟩
instance tsh165 : TSh Try.prog 165 .one := ⟨by kernel_rfl⟩
instance tcl165 : TCells Try.prog 165 1 := ⟨by kernel_rfl, by decide⟩
instance tze165 : TZero Try.prog 165 (.int .i32 0) := ⟨by kernel_rfl, rfl, by decide⟩
instance tsh166 : TSh Try.prog 166 .one := ⟨by kernel_rfl⟩
instance tcl166 : TCells Try.prog 166 1 := ⟨by kernel_rfl, by decide⟩
instance tze166 : TZero Try.prog 166 (.int .i32 0) := ⟨by kernel_rfl, rfl, by decide⟩
instance tsh167 : TSh Try.prog 167 (.many 11) := ⟨by kernel_rfl⟩
instance tcl167 : TCells Try.prog 167 11 := ⟨by kernel_rfl, by decide⟩
instance tfl167x0 : TField Try.prog 167 0 0 12 := ⟨by kernel_rfl, kne (k := 1) (by kernel_rfl) (by decide)⟩
instance tfl167x1 : TField Try.prog 167 1 1 12 := ⟨by kernel_rfl, kne (k := 1) (by kernel_rfl) (by decide)⟩
instance tfl167x2 : TField Try.prog 167 2 2 135 := ⟨by kernel_rfl, kne (k := 1) (by kernel_rfl) (by decide)⟩
instance tfl167x3 : TField Try.prog 167 3 3 161 := ⟨by kernel_rfl, kne (k := 1) (by kernel_rfl) (by decide)⟩
instance tfl167x4 : TField Try.prog 167 4 4 5 := ⟨by kernel_rfl, kne (k := 1) (by kernel_rfl) (by decide)⟩
instance tfl167x5 : TField Try.prog 167 5 5 5 := ⟨by kernel_rfl, kne (k := 1) (by kernel_rfl) (by decide)⟩
instance tfl167x6 : TField Try.prog 167 6 6 162 := ⟨by kernel_rfl, kne (k := 1) (by kernel_rfl) (by decide)⟩
instance tfl167x7 : TField Try.prog 167 7 7 163 := ⟨by kernel_rfl, kne (k := 1) (by kernel_rfl) (by decide)⟩
instance tfl167x8 : TField Try.prog 167 8 8 164 := ⟨by kernel_rfl, kne (k := 1) (by kernel_rfl) (by decide)⟩
instance tfl167x9 : TField Try.prog 167 9 9 165 := ⟨by kernel_rfl, kne (k := 1) (by kernel_rfl) (by decide)⟩
instance tfl167x10 : TField Try.prog 167 10 10 166 := ⟨by kernel_rfl, kne (k := 1) (by kernel_rfl) (by decide)⟩
instance tly167 : TLay Try.prog 167 [.int .u64 0, .int .u64 0, .int .u32 0, .int .u8 0, .int .u8 0, .int .u8 0, .int .u8 0, .nilfunc, .nilptr, .int .i32 0, .int .i32 0] [(0, 1), (1, 1), (2, 1), (3, 1), (4, 1), (5, 1), (6, 1), (7, 1), (8, 1), (9, 1), (10, 1)] := ⟨by kernel_rfl⟩
instance tze167 : TZero Try.prog 167 (.agg [.int .u64 0, .int .u64 0, .int .u32 0, .int .u8 0, .int .u8 0, .int .u8 0, .int .u8 0, .nilfunc, .nilptr, .int .i32 0, .int .i32 0]) := ⟨by kernel_rfl, rfl, by decide⟩
instance tsh168 : TSh Try.prog 168 (.many 11) := ⟨by kernel_rfl⟩
instance tcl168 : TCells Try.prog 168 11 := ⟨by kernel_rfl, by decide⟩
instance tfl168x0 : TField Try.prog 168 0 0 12 := ⟨by kernel_rfl, kne (k := 1) (by kernel_rfl) (by decide)⟩
instance tfl168x1 : TField Try.prog 168 1 1 12 := ⟨by kernel_rfl, kne (k := 1) (by kernel_rfl) (by decide)⟩
instance tfl168x2 : TField Try.prog 168 2 2 135 := ⟨by kernel_rfl, kne (k := 1) (by kernel_rfl) (by decide)⟩
instance tfl168x3 : TField Try.prog 168 3 3 161 := ⟨by kernel_rfl, kne (k := 1) (by kernel_rfl) (by decide)⟩
instance tfl168x4 : TField Try.prog 168 4 4 5 := ⟨by kernel_rfl, kne (k := 1) (by kernel_rfl) (by decide)⟩
instance tfl168x5 : TField Try.prog 168 5 5 5 := ⟨by kernel_rfl, kne (k := 1) (by kernel_rfl) (by decide)⟩
instance tfl168x6 : TField Try.prog 168 6 6 162 := ⟨by kernel_rfl, kne (k := 1) (by kernel_rfl) (by decide)⟩
instance tfl168x7 : TField Try.prog 168 7 7 163 := ⟨by kernel_rfl, kne (k := 1) (by kernel_rfl) (by decide)⟩
instance tfl168x8 : TField Try.prog 168 8 8 164 := ⟨by kernel_rfl, kne (k := 1) (by kernel_rfl) (by decide)⟩
instance tfl168x9 : TField Try.prog 168 9 9 165 := ⟨by kernel_rfl, kne (k := 1) (by kernel_rfl) (by decide)⟩
instance tfl168x10 : TField Try.prog 168 10 10 166 := ⟨by kernel_rfl, kne (k := 1) (by kernel_rfl) (by decide)⟩
instance tly168 : TLay Try.prog 168 [.int .u64 0, .int .u64 0, .int .u32 0, .int .u8 0, .int .u8 0, .int .u8 0, .int .u8 0, .nilfunc, .nilptr, .int .i32 0, .int .i32 0] [(0, 1), (1, 1), (2, 1), (3, 1), (4, 1), (5, 1), (6, 1), (7, 1), (8, 1), (9, 1), (10, 1)] := ⟨by kernel_rfl⟩
instance tze168 : TZero Try.prog 168 (.agg [.int .u64 0, .int .u64 0, .int .u32 0, .int .u8 0, .int .u8 0, .int .u8 0, .int .u8 0, .nilfunc, .nilptr, .int .i32 0, .int .i32 0]) := ⟨by kernel_rfl, rfl, by decide⟩
instance tsh169 : TSh Try.prog 169 .one := ⟨by kernel_rfl⟩
instance tcl169 : TCells Try.prog 169 1 := ⟨by kernel_rfl, by decide⟩
instance tze169 : TZero Try.prog 169 (.nilptr) := ⟨by kernel_rfl, rfl, by decide⟩
instance teq23 : TEq Try.prog 23 [.i, .i] := ⟨by kernel_rfl⟩
instance tar24 : TArr Try.prog 24 4 2 := ⟨23, by kernel_rfl, by kernel_rfl, by decide⟩
instance tae24 : TArrE Try.prog 24 4 23 2 := ⟨by kernel_rfl, by kernel_rfl, by decide⟩
instance tly24 : TLay Try.prog 24 [.int .i64 0, .int .i64 0, .int .i64 0, .int .i64 0, .int .i64 0, .int .i64 0, .int .i64 0, .int .i64 0] [(0, 2), (2, 2), (4, 2), (6, 2)] := ⟨by kernel_rfl⟩
instance teq47 : TEq Try.prog 47 [.i, .i, .i] := ⟨by kernel_rfl⟩
instance teq64 : TEq Try.prog 64 [.i, .i] := ⟨by kernel_rfl⟩
instance tar73 : TArr Try.prog 73 3 1 := ⟨72, by kernel_rfl, by kernel_rfl, by decide⟩
instance tae73 : TArrE Try.prog 73 3 72 1 := ⟨by kernel_rfl, by kernel_rfl, by decide⟩
instance tly73 : TLay Try.prog 73 [.int .i8 0, .int .i8 0, .int .i8 0] [(0, 1), (1, 1), (2, 1)] := ⟨by kernel_rfl⟩
instance teq76 : TEq Try.prog 76 [.i, .i, .i] := ⟨by kernel_rfl⟩
instance tar92 : TArr Try.prog 92 3 2 := ⟨23, by kernel_rfl, by kernel_rfl, by decide⟩
instance tae92 : TArrE Try.prog 92 3 23 2 := ⟨by kernel_rfl, by kernel_rfl, by decide⟩
instance tly92 : TLay Try.prog 92 [.int .i64 0, .int .i64 0, .int .i64 0, .int .i64 0, .int .i64 0, .int .i64 0] [(0, 2), (2, 2), (4, 2)] := ⟨by kernel_rfl⟩
instance tar100 : TArr Try.prog 100 4 2 := ⟨99, by kernel_rfl, by kernel_rfl, by decide⟩
instance tae100 : TArrE Try.prog 100 4 99 2 := ⟨by kernel_rfl, by kernel_rfl, by decide⟩
instance tly100 : TLay Try.prog 100 [.int .i64 0, .nilfunc, .int .i64 0, .nilfunc, .int .i64 0, .nilfunc, .int .i64 0, .nilfunc] [(0, 2), (2, 2), (4, 2), (6, 2)] := ⟨by kernel_rfl⟩
instance tar102 : TArr Try.prog 102 3 3 := ⟨76, by kernel_rfl, by kernel_rfl, by decide⟩
instance tae102 : TArrE Try.prog 102 3 76 3 := ⟨by kernel_rfl, by kernel_rfl, by decide⟩
instance tly102 : TLay Try.prog 102 [.int .i64 0, .int .i64 0, .int .i64 0, .int .i64 0, .int .i64 0, .int .i64 0, .int .i64 0, .int .i64 0, .int .i64 0] [(0, 3), (3, 3), (6, 3)] := ⟨by kernel_rfl⟩
instance tar110 : TArr Try.prog 110 3 1 := ⟨3, by kernel_rfl, by kernel_rfl, by decide⟩
instance tae110 : TArrE Try.prog 110 3 3 1 := ⟨by kernel_rfl, by kernel_rfl, by decide⟩
instance tly110 : TLay Try.prog 110 [.int .i64 0, .int .i64 0, .int .i64 0] [(0, 1), (1, 1), (2, 1)] := ⟨by kernel_rfl⟩
instance tar157 : TArr Try.prog 157 0 1 := ⟨16, by kernel_rfl, by kernel_rfl, by decide⟩
instance tae157 : TArrE Try.prog 157 0 16 1 := ⟨by kernel_rfl, by kernel_rfl, by decide⟩
instance tly157 : TLay Try.prog 157 [] [] := ⟨by kernel_rfl⟩
end Go.Pv.Tf

open Go Go.Proofs Go.Pv
set_option maxHeartbeats 4000000
set_option maxRecDepth 100000
set_option linter.unusedSimpArgs false
set_option linter.unusedVariables false
namespace Go.Pv.Geo

theorem mix : Try.prog.follows .mixedOrders = true := by decide +kernel
structure Pt where
  x : Int
  y : Int
  deriving DecidableEq
def encPt (p : Pt) : List D := [.int .i64 p.x, .int .i64 p.y]
theorem scalPt : ScalF encPt 2 := fun _ => ⟨rfl, rfl⟩
def ptOK (p : Pt) : Bool := decide ((-1000000 ≤ p.x ∧ p.x ≤ 1000000) ∧ (-1000000 ≤ p.y ∧ p.y ≤ 1000000))
theorem pt_bd {p : Pt} (h : ptOK p = true) : (-1000000 ≤ p.x ∧ p.x ≤ 1000000) ∧ -1000000 ≤ p.y ∧ p.y ≤ 1000000 := by simpa [ptOK] using h
theorem pt_no {p : Pt} (h : ¬ ((-1000000 ≤ p.x ∧ p.x ≤ 1000000) ∧ (-1000000 ≤ p.y ∧ p.y ≤ 1000000))) : true = !ptOK p := by
  simp only [ptOK, decide_eq_false h, Bool.not_false]
theorem pt_yes {p : Pt} (h : (-1000000 ≤ p.x ∧ p.x ≤ 1000000) ∧ (-1000000 ≤ p.y ∧ p.y ≤ 1000000)) : false = !ptOK p := by
  simp only [ptOK, decide_eq_true h, Bool.not_true]

def idxOf {α : Type} (p : α → Bool) (l : List α) : Int := match l.findIdx? p with
  | some i => i
  | none => -1
theorem idxOf_none {α : Type} {p : α → Bool} {l : List α} (h : ∀ x ∈ l, p x = false) : idxOf p l = -1 := by
  have : l.findIdx? p = none := by simpa using h
  rw [idxOf, this]
theorem idxOf_some {α : Type} {p : α → Bool} {l : List α} {i : Nat} (hi : i < l.length) (h : p l[i] = true) (hb : ∀ j (hj : j < i), p (l[j]'(by omega)) = false) : idxOf p l = i := by
  have : l.findIdx? p = some i := by
    rw [List.findIdx?_eq_some_iff_getElem]
    exact ⟨hi, h, fun j hj => by simpa using hb j hj⟩
  rw [idxOf, this]
theorem idxOf_ge {α : Type} {p : α → Bool} {l : List α} : decide (0 ≤ idxOf p l) = l.any p := by
  unfold idxOf
  cases h : l.findIdx? p with
  | none =>
    have : l.any p = false := by
      rw [List.findIdx?_eq_none_iff] at h
      rw [List.any_eq_false]
      intro x hx
      simp [h x hx]
    rw [this]; rfl
  | some i =>
    have : l.any p = true := by
      rw [List.findIdx?_eq_some_iff_getElem] at h
      obtain ⟨hi, h1, _⟩ := h
      exact List.any_eq_true.2 ⟨l[i], List.getElem_mem hi, h1⟩
    rw [this]
    simp

theorem c_within (n lo hi : Int) : Contract Try.prog 33 [.int .i64 n, .int .i64 lo, .int .i64 hi] (.ret (.bool (decide (lo ≤ n ∧ n ≤ hi)))) := by
  refine contract_of mix Try.func33 rfl rfl (by rw [Try.ntmps33]; exact Nat.le_of_ble_eq_true rfl) ?_; rw [Try.results33, Try.ntmps33]; simp only [argsE, Nat.reduceAdd]
  repeat' first
           | (with_reducible apply go_op)
           | (with_reducible apply go_next)
           | ((with_reducible (show evOp _ _ _ _ _ _)); first
             | ((with_reducible (show evOp _ (.move _) _ _ _ _)) ; first | ((with_reducible apply go_mv_int); rfl; rfl) | ((with_reducible apply go_mv_bool); rfl; rfl))
             | ((with_reducible apply go_as))
             | (((with_reducible apply go_cmp); rfl; rfl; rfl; rfl))
             | (((with_reducible apply go_pick); rfl; rfl; rfl)))
           | ((with_reducible (show evOps _ _ _ _ _ _)); first
             | (with_reducible apply go_nil)
             | ((with_reducible apply go_run); rfl; rfl)
             | ((with_reducible apply go_pass); rfl; rfl; rfl)
             | (((with_reducible apply go_guard); rfl) <;> (intro h; simp only [h, Bool.not_true, Bool.not_false]; (try with_reducible (refine ⟨rfl, ?_⟩)); try simp only [decide_eq_true_eq, decide_eq_false_iff_not, Bool.not_eq_true', Bool.not_eq_false', Bool.not_true, Bool.not_false] at h; try exact absurd trivial h)))
           | ((with_reducible (show evG _ _ _ _ _)); first
             | (with_reducible apply go_seq)
             | (with_reducible apply go_region)
             | (with_reducible apply go_ret))
           | (with_reducible apply go_kseq)
           | ((with_reducible apply end_bool); rfl)
  all_goals (simp at *; try omega)
theorem c_good (p : Pt) : Contract Try.prog 21 [.agg (encPt p)] (.ret (.bool (ptOK p))) := by
  refine contract_of mix Try.func21 rfl rfl (by rw [Try.ntmps21]; exact Nat.le_of_ble_eq_true rfl) ?_; rw [Try.results21, Try.ntmps21]; simp only [argsE, Nat.reduceAdd]
  repeat' first
           | (with_reducible apply go_op)
           | (with_reducible apply go_next)
           | ((with_reducible (show evOp _ _ _ _ _ _)); first
             | (((with_reducible apply go_mv_bool); rfl; rfl))
             | ((with_reducible apply go_as))
             | (((with_reducible apply go_load_own); rfl; rfl; rfl; rfl))
             | (((with_reducible apply go_fieldAddr_own); rfl; rfl; rfl))
             | (((with_reducible apply go_fn_bool); rfl; (exact c_within _ _ _); rfl))
             | (((with_reducible apply go_pick); rfl; rfl; rfl))
             | (((with_reducible apply go_bx_agg); rfl; rfl; (exact Nat.le_of_ble_eq_true rfl); rfl; rfl)))
           | ((with_reducible (show evOps _ _ _ _ _ _)); first
             | (with_reducible apply go_nil)
             | ((with_reducible apply go_run); rfl; rfl)
             | ((with_reducible apply go_pass); rfl; rfl; rfl)
             | (((with_reducible apply go_guard); rfl) <;> (intro h; simp only [h, Bool.not_true, Bool.not_false]; (try with_reducible (refine ⟨rfl, ?_⟩)); try simp only [decide_eq_true_eq, decide_eq_false_iff_not, Bool.not_eq_true', Bool.not_eq_false', Bool.not_true, Bool.not_false] at h; try exact absurd trivial h)))
           | ((with_reducible (show evG _ _ _ _ _)); first
             | (with_reducible apply go_seq)
             | (with_reducible apply go_region)
             | (with_reducible apply go_ret))
           | (with_reducible apply go_kseq)
           | ((with_reducible apply end_bool); rfl)
  all_goals (unfold ptOK; first | exact decide_eq_decide.2 (by omega) | exact (decide_eq_true (by omega)).symm | exact (decide_eq_false (by omega)).symm | trace_state)
theorem c_outside1 (p : Pt) : Contract Try.prog 106 [.agg (encPt p)] (.ret (.bool (!ptOK p))) := by
  refine contract_of mix Try.func106 rfl rfl (by rw [Try.ntmps106]; exact Nat.le_of_ble_eq_true rfl) ?_; rw [Try.results106, Try.ntmps106]; simp only [argsE, Nat.reduceAdd]
  repeat' first
           | (with_reducible apply go_op)
           | (with_reducible apply go_next)
           | ((with_reducible (show evOp _ _ _ _ _ _)); first
             | (((with_reducible apply go_mv_bool); rfl; rfl))
             | ((with_reducible apply go_as))
             | (((with_reducible apply go_load_own); rfl; rfl; rfl; rfl))
             | (((with_reducible apply go_fieldAddr_own); rfl; rfl; rfl))
             | (((with_reducible apply go_cmp); rfl; rfl; rfl; rfl))
             | (((with_reducible apply go_pick); rfl; rfl; rfl))
             | (((with_reducible apply go_bx_agg); rfl; rfl; (exact Nat.le_of_ble_eq_true rfl); rfl; rfl)))
           | ((with_reducible (show evOps _ _ _ _ _ _)); first
             | (with_reducible apply go_nil)
             | ((with_reducible apply go_run); rfl; rfl)
             | ((with_reducible apply go_pass); rfl; rfl; rfl)
             | (((with_reducible apply go_guard); rfl) <;> (intro h; simp only [h, Bool.not_true, Bool.not_false]; (try with_reducible (refine ⟨rfl, ?_⟩)); try simp only [decide_eq_true_eq, decide_eq_false_iff_not, Bool.not_eq_true', Bool.not_eq_false', Bool.not_true, Bool.not_false] at h; try exact absurd trivial h)))
           | ((with_reducible (show evG _ _ _ _ _)); first
             | (with_reducible apply go_seq)
             | (with_reducible apply go_region)
             | (with_reducible apply go_ret))
           | (with_reducible apply go_kseq)
           | ((with_reducible apply end_bool); rfl)
  · by_cases h4 : 1000000 < p.y
    · rw [decide_eq_true h4]; exact pt_no (p := p) (by omega)
    · rw [decide_eq_false h4]; exact pt_yes (p := p) (by omega)
  all_goals exact pt_no (p := p) (by omega)
theorem c_IndexFunc (l : List Pt) (hl : l.length < 1000000000000) (g : FuncId) (p : Pt → Bool) (hf : ∀ x ∈ l, Contract Try.prog g [.agg (encPt x)] (.ret (.bool (p x)))) :
    Contract Try.prog 124 [.sl (l.map encPt), .clo (.func g) [] []] (.ret (.int .i64 (idxOf p l))) := by
  refine contract_of mix Try.func124 rfl rfl (by rw [Try.ntmps124]; exact Nat.le_of_ble_eq_true rfl) ?_; rw [Try.results124, Try.ntmps124]; simp only [argsE, Nat.reduceAdd]
  repeat' first
           | (with_reducible apply go_op)
           | (with_reducible apply go_next)
           | ((with_reducible (show evOp _ _ _ _ _ _)); first
             | ((with_reducible (show evOp _ (.move _) _ _ _ _)) ; first | ((with_reducible apply go_mv_int); rfl; rfl) | ((with_reducible apply go_mv_sl); rfl; rfl))
             | ((with_reducible apply go_as))
             | (((with_reducible apply go_len); rfl; rfl)))
           | ((with_reducible (show evOps _ _ _ _ _ _)); first
             | (with_reducible apply go_nil))
           | ((with_reducible (show evG _ _ _ _ _)); first
             | (with_reducible apply go_seq)
             | (with_reducible apply go_region)
             | (with_reducible apply go_block))
           | (with_reducible apply go_kseq)
  refine go_count (l.length) (fun i => ⟨[(8, .int .i64 i), (7, .int .i64 l.length), (0, .sl (l.map encPt)), (1, .clo (.func g) [] [])], [], 0, 19⟩) (fun i => ∀ j (hj : j < i) (hj' : j < l.length), p l[j] = false) (entails_eq (k := 0) (ns := []) (ks := [8, 7, 0, 1]) [] rfl (by simp) rfl) (by omega) ?_
  intro i hi hC
  repeat' first
           | (with_reducible apply go_op)
           | (with_reducible apply go_next)
           | ((with_reducible (show evOp _ _ _ _ _ _)); first
             | ((with_reducible (show evOp _ (.move _) _ _ _ _)) ; first | ((with_reducible apply go_mv_int); rfl; rfl) | ((with_reducible apply go_mv_sl); rfl; rfl) | ((with_reducible apply go_mv_clo); rfl; rfl))
             | ((with_reducible apply go_as))
             | (((with_reducible apply go_ld_ptr); rfl; rfl; rfl))
             | (((with_reducible apply go_index_nat); rfl; rfl; (with_reducible rfl); (intro; rfl); rfl; omega; (intro hlt)))
             | (((with_reducible apply go_cmp); rfl; rfl; rfl; rfl)))
           | ((with_reducible (show evOps _ _ _ _ _ _)); first
             | (with_reducible apply go_nil))
           | ((with_reducible (show evG _ _ _ _ _)); first
             | (with_reducible apply go_seq)
             | (with_reducible apply go_region)
             | (((with_reducible apply go_cond); rfl) <;> (intro h; simp only [h]; try simp only [decide_eq_true_eq, decide_eq_false_iff_not, Bool.not_eq_true', Bool.not_eq_false', Bool.not_true, Bool.not_false] at h; try exact absurd trivial h))
             | (with_reducible apply go_ret)
             | (with_reducible apply go_skipc)
             | (with_reducible apply go_block)
             | (with_reducible apply go_exit))
           | (with_reducible apply go_kseq)
           | (with_reducible apply go_kblock_exit)
           | (with_reducible apply go_kseq_exit)
           | ((with_reducible apply end_int); rfl)
  · refine go_clo_bool (d1 := .agg (encPt l[i])) rfl rfl (fun _ _ => rfl) (hf l[i] (List.getElem_mem _)) rfl ?_
    repeat' first
           | (with_reducible apply go_op)
           | (with_reducible apply go_next)
           | ((with_reducible (show evOp _ _ _ _ _ _)); first
             | (((with_reducible apply go_mv_int); rfl; rfl))
             | ((with_reducible apply go_as))
             | (((with_reducible apply go_add); rfl; rfl; rfl; omega)))
           | ((with_reducible (show evOps _ _ _ _ _ _)); first
             | (with_reducible apply go_nil))
           | ((with_reducible (show evG _ _ _ _ _)); first
             | (with_reducible apply go_seq)
             | (with_reducible apply go_region)
             | (((with_reducible apply go_cond); rfl) <;> (intro h; simp only [h]; try simp only [decide_eq_true_eq, decide_eq_false_iff_not, Bool.not_eq_true', Bool.not_eq_false', Bool.not_true, Bool.not_false] at h; try exact absurd trivial h))
             | (with_reducible apply go_ret)
             | (with_reducible apply go_skipc))
           | (with_reducible apply go_kseq)
           | (with_reducible apply go_kseq_ret)
           | (with_reducible apply go_kblock)
           | (with_reducible apply go_kblock_ret)
           | ((with_reducible apply end_int); rfl)
    · have h2 : i < l.length := by omega
      exact (idxOf_some h2 h fun j hj => hC j hj (by omega)).symm
    · have h2 : i < l.length := by omega
      refine ⟨by omega, fun j hj hj' => ?_, entails_eq (k := 0) (ns := []) (ks := [8, 7, 0, 1]) [] rfl (by simp) rfl⟩
      rcases Nat.lt_succ_iff_lt_or_eq.1 hj with h' | rfl
      · exact hC j h' hj'
      · exact h
  · refine (idxOf_none fun x hx => ?_).symm
    obtain ⟨j, hj, rfl⟩ := List.mem_iff_getElem.1 hx
    exact hC j (by omega) hj
theorem c_ContainsFunc (l : List Pt) (hl : l.length < 1000000000000) (g : FuncId) (p : Pt → Bool) (hf : ∀ x ∈ l, Contract Try.prog g [.agg (encPt x)] (.ret (.bool (p x)))) :
    Contract Try.prog 105 [.sl (l.map encPt), .clo (.func g) [] []] (.ret (.bool (l.any p))) := by
  refine contract_of mix Try.func105 rfl rfl (by rw [Try.ntmps105]; exact Nat.le_of_ble_eq_true rfl) ?_; rw [Try.results105, Try.ntmps105]; simp only [argsE, Nat.reduceAdd]
  repeat' first
           | (with_reducible apply go_op)
           | (with_reducible apply go_next)
           | ((with_reducible (show evOp _ _ _ _ _ _)); first
             | ((with_reducible (show evOp _ (.move _) _ _ _ _)) ; first | ((with_reducible apply go_mv_bool); rfl; rfl) | ((with_reducible apply go_mv_sl); rfl; rfl) | ((with_reducible apply go_mv_clo); rfl; rfl))
             | ((with_reducible apply go_as))
             | (((with_reducible apply go_cmp); rfl; rfl; rfl; rfl))
             | (((with_reducible apply go_fn_int); rfl; (exact c_IndexFunc l hl g p hf); rfl)))
           | ((with_reducible (show evOps _ _ _ _ _ _)); first
             | (with_reducible apply go_nil))
           | ((with_reducible (show evG _ _ _ _ _)); first
             | (with_reducible apply go_seq)
             | (with_reducible apply go_region)
             | (with_reducible apply go_ret))
           | (with_reducible apply go_kseq)
           | ((with_reducible apply end_bool); rfl)
  exact idxOf_ge
theorem c_outside (l : List Pt) (hl : l.length < 1000000000000) : Contract Try.prog 73 [.sl (l.map encPt)] (.ret (.bool (l.any fun p => !ptOK p))) := by
  refine contract_of mix Try.func73 rfl rfl (by rw [Try.ntmps73]; exact Nat.le_of_ble_eq_true rfl) ?_; rw [Try.results73, Try.ntmps73]; simp only [argsE, Nat.reduceAdd]
  repeat' first
           | (with_reducible apply go_op)
           | (with_reducible apply go_next)
           | ((with_reducible (show evOp _ _ _ _ _ _)); first
             | ((with_reducible (show evOp _ (.move _) _ _ _ _)) ; first | ((with_reducible apply go_mv_bool); rfl; rfl) | ((with_reducible apply go_mv_sl); rfl; rfl))
             | ((with_reducible apply go_as))
             | (((with_reducible apply go_fn_bool); rfl; (exact c_ContainsFunc l hl 106 (fun p => !ptOK p) fun x _ => c_outside1 x); rfl)))
           | ((with_reducible (show evOps _ _ _ _ _ _)); first
             | (with_reducible apply go_nil))
           | ((with_reducible (show evG _ _ _ _ _)); first
             | (with_reducible apply go_seq)
             | (with_reducible apply go_region)
             | (with_reducible apply go_ret))
           | (with_reducible apply go_kseq)
           | ((with_reducible apply end_bool); rfl)
           | (with_reducible rfl)
theorem c_outside_1 (a : Pt) : Contract Try.prog 73 [.sl [encPt a]] (.ret (.bool (!ptOK a))) := by
  have := c_outside [a] (by simp)
  simpa using this
theorem c_outside_2 (a b : Pt) : Contract Try.prog 73 [.sl [encPt a, encPt b]] (.ret (.bool (!(ptOK a && ptOK b)))) := by
  have := c_outside [a, b] (by simp)
  simpa [Bool.not_and] using this
theorem c_outside_3 (a b c : Pt) : Contract Try.prog 73 [.sl [encPt a, encPt b, encPt c]] (.ret (.bool (!(ptOK a && ptOK b && ptOK c)))) := by
  have := c_outside [a, b, c] (by simp)
  simpa [Bool.not_and, Bool.or_assoc] using this
theorem c_outside_4 (a b c d : Pt) : Contract Try.prog 73 [.sl [encPt a, encPt b, encPt c, encPt d]] (.ret (.bool (!(ptOK a && ptOK b && ptOK c && ptOK d)))) := by
  have := c_outside [a, b, c, d] (by simp)
  simpa [Bool.not_and, Bool.or_assoc] using this

theorem mul_abs {u v A B : Int} (hu : -A ≤ u ∧ u ≤ A) (hv : -B ≤ v ∧ v ≤ B) : -(A * B) ≤ u * v ∧ u * v ≤ A * B := by
  have key : ∀ y : Int, 0 ≤ y ∧ y ≤ B → -(A * B) ≤ u * y ∧ u * y ≤ A * B := fun y hy => by
    have h1 : u * y ≤ A * y := Int.mul_le_mul_of_nonneg_right hu.2 hy.1
    have h2 : -A * y ≤ u * y := Int.mul_le_mul_of_nonneg_right hu.1 hy.1
    have h3 : A * y ≤ A * B := Int.mul_le_mul_of_nonneg_left hy.2 (by omega)
    rw [Int.neg_mul] at h2
    omega
  by_cases h : 0 ≤ v
  · exact key v ⟨h, hv.2⟩
  · have := key (-v) ⟨by omega, by omega⟩
    rw [Int.mul_neg] at this
    omega
def crossE (a b c : Pt) : Int := (b.x - a.x) * (c.y - a.y) - (b.y - a.y) * (c.x - a.x)
def dotE (a b c : Pt) : Int := (b.x - a.x) * (c.x - a.x) + (b.y - a.y) * (c.y - a.y)
theorem mul4 {u v : Int} (hu : -2000000 ≤ u ∧ u ≤ 2000000) (hv : -2000000 ≤ v ∧ v ≤ 2000000) : -4000000000000 ≤ u * v ∧ u * v ≤ 4000000000000 := by
  have := mul_abs hu hv; omega
theorem cross_bd {a b c : Pt} (ha : ptOK a = true) (hb : ptOK b = true) (hc : ptOK c = true) : (-4000000000000 ≤ (b.x - a.x) * (c.y - a.y) ∧ (b.x - a.x) * (c.y - a.y) ≤ 4000000000000) ∧ (-4000000000000 ≤ (b.y - a.y) * (c.x - a.x) ∧ (b.y - a.y) * (c.x - a.x) ≤ 4000000000000) := by
  have h1 := pt_bd ha
  have h2 := pt_bd hb
  have h3 := pt_bd hc
  exact ⟨mul4 (by omega) (by omega), mul4 (by omega) (by omega)⟩
theorem dot_bd {a b c : Pt} (ha : ptOK a = true) (hb : ptOK b = true) (hc : ptOK c = true) : (-4000000000000 ≤ (b.x - a.x) * (c.x - a.x) ∧ (b.x - a.x) * (c.x - a.x) ≤ 4000000000000) ∧ (-4000000000000 ≤ (b.y - a.y) * (c.y - a.y) ∧ (b.y - a.y) * (c.y - a.y) ≤ 4000000000000) := by
  have h1 := pt_bd ha
  have h2 := pt_bd hb
  have h3 := pt_bd hc
  exact ⟨mul4 (by omega) (by omega), mul4 (by omega) (by omega)⟩
theorem crossE_bd {a b c : Pt} (ha : ptOK a = true) (hb : ptOK b = true) (hc : ptOK c = true) : -8000000000000 ≤ crossE a b c ∧ crossE a b c ≤ 8000000000000 := by
  have := cross_bd ha hb hc; unfold crossE; omega
theorem dotE_bd {a b c : Pt} (ha : ptOK a = true) (hb : ptOK b = true) (hc : ptOK c = true) : -8000000000000 ≤ dotE a b c ∧ dotE a b c ≤ 8000000000000 := by
  have := dot_bd ha hb hc; unfold dotE; omega
theorem c_cross (a b c : Pt) (ha : ptOK a = true) (hb : ptOK b = true) (hc : ptOK c = true) : Contract Try.prog 87 [.agg (encPt a), .agg (encPt b), .agg (encPt c)] (.ret (.int .i64 (crossE a b c))) := by
  have h1 := pt_bd ha
  have h2 := pt_bd hb
  have h3 := pt_bd hc
  have h4 := cross_bd ha hb hc
  refine contract_of mix Try.func87 rfl rfl (by rw [Try.ntmps87]; exact Nat.le_of_ble_eq_true rfl) ?_; rw [Try.results87, Try.ntmps87]; simp only [argsE, Nat.reduceAdd]
  repeat' first
           | (with_reducible apply go_op)
           | (with_reducible apply go_next)
           | ((with_reducible (show evOp _ _ _ _ _ _)); first
             | (((with_reducible apply go_mv_int); rfl; rfl))
             | ((with_reducible apply go_as))
             | (((with_reducible apply go_load_own); rfl; rfl; rfl; rfl))
             | (((with_reducible apply go_fieldAddr_own); rfl; rfl; rfl))
             | ((with_reducible (show evOp _ (.binOp _ _ _ _ _) _ _ _ _)) ; first | ((with_reducible apply go_sub); rfl; rfl; rfl; omega) | ((with_reducible apply go_mul); rfl; rfl; rfl; omega))
             | (((with_reducible apply go_bx_agg); rfl; rfl; (exact Nat.le_of_ble_eq_true rfl); rfl; rfl)))
           | ((with_reducible (show evOps _ _ _ _ _ _)); first
             | (with_reducible apply go_nil))
           | ((with_reducible (show evG _ _ _ _ _)); first
             | (with_reducible apply go_seq)
             | (with_reducible apply go_region)
             | (with_reducible apply go_ret))
           | (with_reducible apply go_kseq)
           | ((with_reducible apply end_int); rfl)
  all_goals rfl
theorem c_rcross (a b c : Pt) (ha : ptOK a = true) (hb : ptOK b = true) (hc : ptOK c = true) : Contract Try.prog 31 [.agg (encPt a), .agg (encPt b), .agg (encPt c)] (.ret (.int .i64 (crossE a b c))) := by
  have h1 := pt_bd ha
  have h2 := pt_bd hb
  have h3 := pt_bd hc
  have h4 := cross_bd ha hb hc
  refine contract_of mix Try.func31 rfl rfl (by rw [Try.ntmps31]; exact Nat.le_of_ble_eq_true rfl) ?_; rw [Try.results31, Try.ntmps31]; simp only [argsE, Nat.reduceAdd]
  repeat' first
           | (with_reducible apply go_op)
           | (with_reducible apply go_next)
           | ((with_reducible (show evOp _ _ _ _ _ _)); first
             | (((with_reducible apply go_mv_int); rfl; rfl))
             | ((with_reducible apply go_as))
             | (((with_reducible apply go_load_own); rfl; rfl; rfl; rfl))
             | (((with_reducible apply go_fieldAddr_own); rfl; rfl; rfl))
             | ((with_reducible (show evOp _ (.binOp _ _ _ _ _) _ _ _ _)) ; first | ((with_reducible apply go_sub); rfl; rfl; rfl; omega) | ((with_reducible apply go_mul); rfl; rfl; rfl; omega))
             | (((with_reducible apply go_bx_agg); rfl; rfl; (exact Nat.le_of_ble_eq_true rfl); rfl; rfl)))
           | ((with_reducible (show evOps _ _ _ _ _ _)); first
             | (with_reducible apply go_nil))
           | ((with_reducible (show evG _ _ _ _ _)); first
             | (with_reducible apply go_seq)
             | (with_reducible apply go_region)
             | (with_reducible apply go_ret))
           | (with_reducible apply go_kseq)
           | ((with_reducible apply end_int); rfl)
  all_goals rfl
theorem c_dot (a b c : Pt) (ha : ptOK a = true) (hb : ptOK b = true) (hc : ptOK c = true) : Contract Try.prog 100 [.agg (encPt a), .agg (encPt b), .agg (encPt c)] (.ret (.int .i64 (dotE a b c))) := by
  have h1 := pt_bd ha
  have h2 := pt_bd hb
  have h3 := pt_bd hc
  have h4 := dot_bd ha hb hc
  refine contract_of mix Try.func100 rfl rfl (by rw [Try.ntmps100]; exact Nat.le_of_ble_eq_true rfl) ?_; rw [Try.results100, Try.ntmps100]; simp only [argsE, Nat.reduceAdd]
  repeat' first
           | (with_reducible apply go_op)
           | (with_reducible apply go_next)
           | ((with_reducible (show evOp _ _ _ _ _ _)); first
             | (((with_reducible apply go_mv_int); rfl; rfl))
             | ((with_reducible apply go_as))
             | (((with_reducible apply go_load_own); rfl; rfl; rfl; rfl))
             | (((with_reducible apply go_fieldAddr_own); rfl; rfl; rfl))
             | ((with_reducible (show evOp _ (.binOp _ _ _ _ _) _ _ _ _)) ; first | ((with_reducible apply go_add); rfl; rfl; rfl; omega) | ((with_reducible apply go_sub); rfl; rfl; rfl; omega) | ((with_reducible apply go_mul); rfl; rfl; rfl; omega))
             | (((with_reducible apply go_bx_agg); rfl; rfl; (exact Nat.le_of_ble_eq_true rfl); rfl; rfl)))
           | ((with_reducible (show evOps _ _ _ _ _ _)); first
             | (with_reducible apply go_nil))
           | ((with_reducible (show evG _ _ _ _ _)); first
             | (with_reducible apply go_seq)
             | (with_reducible apply go_region)
             | (with_reducible apply go_ret))
           | (with_reducible apply go_kseq)
           | ((with_reducible apply end_int); rfl)
  all_goals rfl
theorem c_rdot (a b c : Pt) (ha : ptOK a = true) (hb : ptOK b = true) (hc : ptOK c = true) : Contract Try.prog 101 [.agg (encPt a), .agg (encPt b), .agg (encPt c)] (.ret (.int .i64 (dotE a b c))) := by
  have h1 := pt_bd ha
  have h2 := pt_bd hb
  have h3 := pt_bd hc
  have h4 := dot_bd ha hb hc
  refine contract_of mix Try.func101 rfl rfl (by rw [Try.ntmps101]; exact Nat.le_of_ble_eq_true rfl) ?_; rw [Try.results101, Try.ntmps101]; simp only [argsE, Nat.reduceAdd]
  repeat' first
           | (with_reducible apply go_op)
           | (with_reducible apply go_next)
           | ((with_reducible (show evOp _ _ _ _ _ _)); first
             | (((with_reducible apply go_mv_int); rfl; rfl))
             | ((with_reducible apply go_as))
             | (((with_reducible apply go_load_own); rfl; rfl; rfl; rfl))
             | (((with_reducible apply go_fieldAddr_own); rfl; rfl; rfl))
             | ((with_reducible (show evOp _ (.binOp _ _ _ _ _) _ _ _ _)) ; first | ((with_reducible apply go_add); rfl; rfl; rfl; omega) | ((with_reducible apply go_sub); rfl; rfl; rfl; omega) | ((with_reducible apply go_mul); rfl; rfl; rfl; omega))
             | (((with_reducible apply go_bx_agg); rfl; rfl; (exact Nat.le_of_ble_eq_true rfl); rfl; rfl)))
           | ((with_reducible (show evOps _ _ _ _ _ _)); first
             | (with_reducible apply go_nil))
           | ((with_reducible (show evG _ _ _ _ _)); first
             | (with_reducible apply go_seq)
             | (with_reducible apply go_region)
             | (with_reducible apply go_ret))
           | (with_reducible apply go_kseq)
           | ((with_reducible apply end_int); rfl)
  all_goals rfl
def sqE (a b : Pt) : Int := dotE a b b
theorem c_rsquare (a b : Pt) (ha : ptOK a = true) (hb : ptOK b = true) : Contract Try.prog 63 [.agg (encPt a), .agg (encPt b)] (.ret (.int .i64 (sqE a b))) := by
  refine contract_of mix Try.func63 rfl rfl (by rw [Try.ntmps63]; exact Nat.le_of_ble_eq_true rfl) ?_; rw [Try.results63, Try.ntmps63]; simp only [argsE, Nat.reduceAdd]
  repeat' first
           | (with_reducible apply go_op)
           | (with_reducible apply go_next)
           | ((with_reducible (show evOp _ _ _ _ _ _)); first
             | (((with_reducible apply go_mv_int); rfl; rfl))
             | ((with_reducible apply go_as))
             | (((with_reducible apply go_ld_agg); rfl; rfl; rfl; rfl))
             | (((with_reducible apply go_fn_int); rfl; (exact c_rdot a b b ha hb hb); rfl))
             | (((with_reducible apply go_bx_agg); rfl; rfl; (exact Nat.le_of_ble_eq_true rfl); rfl; rfl)))
           | ((with_reducible (show evOps _ _ _ _ _ _)); first
             | (with_reducible apply go_nil))
           | ((with_reducible (show evG _ _ _ _ _)); first
             | (with_reducible apply go_seq)
             | (with_reducible apply go_region)
             | (with_reducible apply go_ret))
           | (with_reducible apply go_kseq)
           | ((with_reducible apply end_int); rfl)
  rfl
def signE (n : Int) : Int := if n < 0 then -1 else if 0 < n then 1 else 0
theorem c_sign (n : Int) : Contract Try.prog 77 [.int .i64 n] (.ret (.int .i64 (signE n))) := by
  refine contract_of mix Try.func77 rfl rfl (by rw [Try.ntmps77]; exact Nat.le_of_ble_eq_true rfl) ?_; rw [Try.results77, Try.ntmps77]; simp only [argsE, Nat.reduceAdd]
  repeat' first
           | (with_reducible apply go_op)
           | (with_reducible apply go_next)
           | ((with_reducible (show evOp _ _ _ _ _ _)); first
             | (((with_reducible apply go_mv_int); rfl; rfl))
             | ((with_reducible apply go_as))
             | (((with_reducible apply go_cmp); rfl; rfl; rfl; rfl)))
           | ((with_reducible (show evOps _ _ _ _ _ _)); first
             | (with_reducible apply go_nil))
           | ((with_reducible (show evG _ _ _ _ _)); first
             | (with_reducible apply go_seq)
             | (with_reducible apply go_region)
             | (((with_reducible apply go_cond); rfl) <;> (intro h; simp only [h]; try simp only [decide_eq_true_eq, decide_eq_false_iff_not, Bool.not_eq_true', Bool.not_eq_false', Bool.not_true, Bool.not_false] at h; try exact absurd trivial h))
             | (with_reducible apply go_ret)
             | (with_reducible apply go_skipc))
           | (with_reducible apply go_kseq)
           | (with_reducible apply go_kseq_ret)
           | ((with_reducible apply end_int); rfl)
  all_goals (unfold signE; (repeat' split) <;> first | rfl | (exfalso; omega))
theorem c_rorient (a b c : Pt) (ha : ptOK a = true) (hb : ptOK b = true) (hc : ptOK c = true) : Contract Try.prog 23 [.agg (encPt a), .agg (encPt b), .agg (encPt c)] (.ret (.int .i64 (signE (crossE a b c)))) := by
  refine contract_of mix Try.func23 rfl rfl (by rw [Try.ntmps23]; exact Nat.le_of_ble_eq_true rfl) ?_; rw [Try.results23, Try.ntmps23]; simp only [argsE, Nat.reduceAdd]
  repeat' first
           | (with_reducible apply go_op)
           | (with_reducible apply go_next)
           | ((with_reducible (show evOp _ _ _ _ _ _)); first
             | (((with_reducible apply go_mv_int); rfl; rfl))
             | ((with_reducible apply go_as))
             | (((with_reducible apply go_ld_agg); rfl; rfl; rfl; rfl))
             | ((with_reducible (show evOp _ (.call _) _ _ _ _)) ; first | ((with_reducible apply go_fn_int); rfl; (exact c_rcross a b c ha hb hc); rfl) | ((with_reducible apply go_fn_int); rfl; (exact c_sign _); rfl))
             | (((with_reducible apply go_bx_agg); rfl; rfl; (exact Nat.le_of_ble_eq_true rfl); rfl; rfl)))
           | ((with_reducible (show evOps _ _ _ _ _ _)); first
             | (with_reducible apply go_nil))
           | ((with_reducible (show evG _ _ _ _ _)); first
             | (with_reducible apply go_seq)
             | (with_reducible apply go_region)
             | (with_reducible apply go_ret))
           | (with_reducible apply go_kseq)
           | ((with_reducible apply end_int); rfl)
           | (with_reducible rfl)
theorem c_isNaN (n : Int) : Contract Try.prog 122 [.int .i64 n] (.ret (.bool false)) := by
  refine contract_of mix Try.func122 rfl rfl (by rw [Try.ntmps122]; exact Nat.le_of_ble_eq_true rfl) ?_; rw [Try.results122, Try.ntmps122]; simp only [argsE, Nat.reduceAdd]
  repeat' first
           | (with_reducible apply go_op)
           | (with_reducible apply go_next)
           | ((with_reducible (show evOp _ _ _ _ _ _)); first
             | ((with_reducible (show evOp _ (.move _) _ _ _ _)) ; first | ((with_reducible apply go_mv_int); rfl; rfl) | ((with_reducible apply go_mv_bool); rfl; rfl))
             | ((with_reducible apply go_as))
             | (((with_reducible apply go_cmp); rfl; rfl; rfl; rfl)))
           | ((with_reducible (show evOps _ _ _ _ _ _)); first
             | (with_reducible apply go_nil))
           | ((with_reducible (show evG _ _ _ _ _)); first
             | (with_reducible apply go_seq)
             | (with_reducible apply go_region)
             | (with_reducible apply go_ret))
           | (with_reducible apply go_kseq)
           | ((with_reducible apply end_bool); rfl)
  all_goals simp
def cmpE (a b : Int) : Int := if a < b then -1 else if b < a then 1 else 0
theorem c_compare (n m : Int) : Contract Try.prog 97 [.int .i64 n, .int .i64 m] (.ret (.int .i64 (cmpE n m))) := by
  refine contract_of mix Try.func97 rfl rfl (by rw [Try.ntmps97]; exact Nat.le_of_ble_eq_true rfl) ?_; rw [Try.results97, Try.ntmps97]; simp only [argsE, Nat.reduceAdd]
  repeat' first
           | (with_reducible apply go_op)
           | (with_reducible apply go_next)
           | ((with_reducible (show evOp _ _ _ _ _ _)); first
             | ((with_reducible (show evOp _ (.move _) _ _ _ _)) ; first | ((with_reducible apply go_mv_int); rfl; rfl) | ((with_reducible apply go_mv_bool); rfl; rfl))
             | ((with_reducible apply go_as))
             | (((with_reducible apply go_cmp); rfl; rfl; rfl; rfl))
             | (((with_reducible apply go_fn_bool); rfl; (exact c_isNaN _); rfl)))
           | ((with_reducible (show evOps _ _ _ _ _ _)); first
             | (with_reducible apply go_nil))
           | ((with_reducible (show evG _ _ _ _ _)); first
             | (with_reducible apply go_seq)
             | (with_reducible apply go_region)
             | ((with_reducible apply go_cond_f); rfl; rfl)
             | (((with_reducible apply go_cond); rfl) <;> (intro h; simp only [h]; try simp only [decide_eq_true_eq, decide_eq_false_iff_not, Bool.not_eq_true', Bool.not_eq_false', Bool.not_true, Bool.not_false] at h; try exact absurd trivial h))
             | (with_reducible apply go_ret)
             | (with_reducible apply go_skipc))
           | (with_reducible apply go_kseq)
           | (with_reducible apply go_kseq_ret)
           | ((with_reducible apply end_int); rfl)
  all_goals (unfold cmpE; (repeat' split) <;> first | rfl | (exfalso; omega))
theorem c_compare0 (n : Int) : Contract Try.prog 97 [.int .i64 n, .int .i64 0] (.ret (.int .i64 (signE n))) := c_compare n 0
theorem c_side (a b c : Pt) (ha : ptOK a = true) (hb : ptOK b = true) (hc : ptOK c = true) : Contract Try.prog 75 [.agg (encPt a), .agg (encPt b), .agg (encPt c)] (.ret (.int .i64 (signE (crossE a b c)))) := by
  refine contract_of mix Try.func75 rfl rfl (by rw [Try.ntmps75]; exact Nat.le_of_ble_eq_true rfl) ?_; rw [Try.results75, Try.ntmps75]; simp only [argsE, Nat.reduceAdd]
  repeat' first
           | (with_reducible apply go_op)
           | (with_reducible apply go_next)
           | ((with_reducible (show evOp _ _ _ _ _ _)); first
             | (((with_reducible apply go_mv_int); rfl; rfl))
             | ((with_reducible apply go_as))
             | (((with_reducible apply go_ld_agg); rfl; rfl; rfl; rfl))
             | ((with_reducible (show evOp _ (.call _) _ _ _ _)) ; first | ((with_reducible apply go_fn_int); rfl; (exact c_cross a b c ha hb hc); rfl) | ((with_reducible apply go_fn_int); rfl; (exact c_compare0 _); rfl))
             | (((with_reducible apply go_bx_agg); rfl; rfl; (exact Nat.le_of_ble_eq_true rfl); rfl; rfl)))
           | ((with_reducible (show evOps _ _ _ _ _ _)); first
             | (with_reducible apply go_nil))
           | ((with_reducible (show evG _ _ _ _ _)); first
             | (with_reducible apply go_seq)
             | (with_reducible apply go_region)
             | (with_reducible apply go_ret))
           | (with_reducible apply go_kseq)
           | ((with_reducible apply end_int); rfl)
           | (with_reducible rfl)
/-- Is a point on a segment? -/
def onE (a b p : Pt) : Bool := decide (crossE a b p = 0 ∧ (min a.x b.x ≤ p.x ∧ p.x ≤ max a.x b.x) ∧ (min a.y b.y ≤ p.y ∧ p.y ≤ max a.y b.y))
theorem c_on (a b p : Pt) (ha : ptOK a = true) (hb : ptOK b = true) (hp : ptOK p = true) : Contract Try.prog 82 [.agg (encPt a), .agg (encPt b), .agg (encPt p)] (.ret (.bool (onE a b p))) := by
  refine contract_of mix Try.func82 rfl rfl (by rw [Try.ntmps82]; exact Nat.le_of_ble_eq_true rfl) ?_; rw [Try.results82, Try.ntmps82]; simp only [argsE, Nat.reduceAdd]
  repeat' first
           | (with_reducible apply go_op)
           | (with_reducible apply go_next)
           | ((with_reducible (show evOp _ _ _ _ _ _)); first
             | (((with_reducible apply go_mv_bool); rfl; rfl))
             | ((with_reducible apply go_as))
             | ((with_reducible (show evOp _ (.load _ _) _ _ _ _)) ; first | ((with_reducible apply go_ld_agg); rfl; rfl; rfl; rfl) | ((with_reducible apply go_load_own); rfl; rfl; rfl; rfl))
             | (((with_reducible apply go_fieldAddr_own); rfl; rfl; rfl))
             | (((with_reducible apply go_cmp); rfl; rfl; rfl; rfl))
             | ((with_reducible (show evOp _ (.call _) _ _ _ _)) ; first | ((with_reducible apply go_min); rfl; rfl; rfl) | ((with_reducible apply go_max); rfl; rfl; rfl) | ((with_reducible apply go_fn_int); rfl; (exact c_cross a b p ha hb hp); rfl))
             | (((with_reducible apply go_pick); rfl; rfl; rfl))
             | (((with_reducible apply go_bx_agg); rfl; rfl; (exact Nat.le_of_ble_eq_true rfl); rfl; rfl)))
           | ((with_reducible (show evOps _ _ _ _ _ _)); first
             | (with_reducible apply go_nil)
             | ((with_reducible apply go_run); rfl; rfl)
             | ((with_reducible apply go_pass); rfl; rfl; rfl)
             | (((with_reducible apply go_guard); rfl) <;> (intro h; simp only [h, Bool.not_true, Bool.not_false]; (try with_reducible (refine ⟨rfl, ?_⟩)); try simp only [decide_eq_true_eq, decide_eq_false_iff_not, Bool.not_eq_true', Bool.not_eq_false', Bool.not_true, Bool.not_false] at h; try exact absurd trivial h)))
           | ((with_reducible (show evG _ _ _ _ _)); first
             | (with_reducible apply go_seq)
             | (with_reducible apply go_region)
             | (with_reducible apply go_ret))
           | (with_reducible apply go_kseq)
           | ((with_reducible apply end_bool); rfl)
  all_goals (unfold onE; first | exact (decide_eq_true (by omega)).symm | exact (decide_eq_false (by omega)).symm | (exact decide_eq_decide.2 (by omega)) | trace_state)
theorem c_rbetween (a b p : Pt) (ha : ptOK a = true) (hb : ptOK b = true) (hp : ptOK p = true) : Contract Try.prog 32 [.agg (encPt a), .agg (encPt b), .agg (encPt p)] (.ret (.bool (onE a b p))) := by
  refine contract_of mix Try.func32 rfl rfl (by rw [Try.ntmps32]; exact Nat.le_of_ble_eq_true rfl) ?_; rw [Try.results32, Try.ntmps32]; simp only [argsE, Nat.reduceAdd]
  repeat' first
           | (with_reducible apply go_op)
           | (with_reducible apply go_next)
           | ((with_reducible (show evOp _ _ _ _ _ _)); first
             | (((with_reducible apply go_mv_bool); rfl; rfl))
             | ((with_reducible apply go_as))
             | ((with_reducible (show evOp _ (.load _ _) _ _ _ _)) ; first | ((with_reducible apply go_ld_agg); rfl; rfl; rfl; rfl) | ((with_reducible apply go_load_own); rfl; rfl; rfl; rfl))
             | (((with_reducible apply go_fieldAddr_own); rfl; rfl; rfl))
             | (((with_reducible apply go_cmp); rfl; rfl; rfl; rfl))
             | ((with_reducible (show evOp _ (.call _) _ _ _ _)) ; first | ((with_reducible apply go_min); rfl; rfl; rfl) | ((with_reducible apply go_max); rfl; rfl; rfl) | ((with_reducible apply go_fn_int); rfl; (exact c_rcross a b p ha hb hp); rfl) | ((with_reducible apply go_fn_bool); rfl; (exact c_within _ _ _); rfl))
             | (((with_reducible apply go_pick); rfl; rfl; rfl))
             | (((with_reducible apply go_bx_agg); rfl; rfl; (exact Nat.le_of_ble_eq_true rfl); rfl; rfl)))
           | ((with_reducible (show evOps _ _ _ _ _ _)); first
             | (with_reducible apply go_nil)
             | ((with_reducible apply go_run); rfl; rfl)
             | ((with_reducible apply go_pass); rfl; rfl; rfl)
             | (((with_reducible apply go_guard); rfl) <;> (intro h; simp only [h, Bool.not_true, Bool.not_false]; (try with_reducible (refine ⟨rfl, ?_⟩)); try simp only [decide_eq_true_eq, decide_eq_false_iff_not, Bool.not_eq_true', Bool.not_eq_false', Bool.not_true, Bool.not_false] at h; try exact absurd trivial h)))
           | ((with_reducible (show evG _ _ _ _ _)); first
             | (with_reducible apply go_seq)
             | (with_reducible apply go_region)
             | (with_reducible apply go_ret))
           | (with_reducible apply go_kseq)
           | ((with_reducible apply end_bool); rfl)
  all_goals (unfold onE; first | exact (decide_eq_true (by omega)).symm | exact (decide_eq_false (by omega)).symm | (exact decide_eq_decide.2 (by omega)) | trace_state)
theorem sign_mul (a b : Int) : -1 ≤ signE a * signE b ∧ signE a * signE b ≤ 1 := by
  have h : ∀ n, -1 ≤ signE n ∧ signE n ≤ 1 := fun n => by unfold signE; (repeat' split) <;> omega
  have := mul_abs (A := 1) (B := 1) (h a) (h b)
  omega
/-- Have two segments a point in common? -/
def meetE (a b c d : Pt) : Bool := (onE a b c || onE a b d || onE c d a || onE c d b) || (decide (signE (crossE a b c) * signE (crossE a b d) < 0) && decide (signE (crossE c d a) * signE (crossE c d b) < 0))
theorem c_meet (a b c d : Pt) (ha : ptOK a = true) (hb : ptOK b = true) (hc : ptOK c = true) (hd : ptOK d = true) : Contract Try.prog 83 [.agg (encPt a), .agg (encPt b), .agg (encPt c), .agg (encPt d)] (.ret (.bool (meetE a b c d))) := by
  have s1 := sign_mul (crossE a b c) (crossE a b d)
  have s2 := sign_mul (crossE c d a) (crossE c d b)
  refine contract_of mix Try.func83 rfl rfl (by rw [Try.ntmps83]; exact Nat.le_of_ble_eq_true rfl) ?_; rw [Try.results83, Try.ntmps83]; simp only [argsE, Nat.reduceAdd]
  repeat' first
           | (with_reducible apply go_op)
           | (with_reducible apply go_next)
           | ((with_reducible (show evOp _ _ _ _ _ _)); first
             | (((with_reducible apply go_mv_bool); rfl; rfl))
             | ((with_reducible apply go_as))
             | (((with_reducible apply go_ld_agg); rfl; rfl; rfl; rfl))
             | ((with_reducible (show evOp _ (.binOp _ _ _ _ _) _ _ _ _)) ; first | ((with_reducible apply go_cmp); rfl; rfl; rfl; rfl) | ((with_reducible apply go_mul); rfl; rfl; rfl; omega))
             | ((with_reducible (show evOp _ (.call _) _ _ _ _)) ; first | ((with_reducible apply go_fn_bool); rfl; (exact c_on a b c ha hb hc); rfl) | ((with_reducible apply go_fn_bool); rfl; (exact c_on a b d ha hb hd); rfl) | ((with_reducible apply go_fn_bool); rfl; (exact c_on c d a hc hd ha); rfl) | ((with_reducible apply go_fn_bool); rfl; (exact c_on c d b hc hd hb); rfl) | ((with_reducible apply go_fn_int); rfl; (exact c_side a b c ha hb hc); rfl) | ((with_reducible apply go_fn_int); rfl; (exact c_side a b d ha hb hd); rfl) | ((with_reducible apply go_fn_int); rfl; (exact c_side c d a hc hd ha); rfl) | ((with_reducible apply go_fn_int); rfl; (exact c_side c d b hc hd hb); rfl))
             | (((with_reducible apply go_pick); rfl; rfl; rfl))
             | (((with_reducible apply go_bx_agg); rfl; rfl; (exact Nat.le_of_ble_eq_true rfl); rfl; rfl)))
           | ((with_reducible (show evOps _ _ _ _ _ _)); first
             | (with_reducible apply go_nil)
             | ((with_reducible apply go_run); rfl; rfl)
             | ((with_reducible apply go_pass); rfl; rfl; rfl)
             | (((with_reducible apply go_guard); rfl) <;> (intro h; simp only [h, Bool.not_true, Bool.not_false]; (try with_reducible (refine ⟨rfl, ?_⟩)); try simp only [decide_eq_true_eq, decide_eq_false_iff_not, Bool.not_eq_true', Bool.not_eq_false', Bool.not_true, Bool.not_false] at h; try exact absurd trivial h))
             | ((with_reducible apply go_pre); rfl)
             | (with_reducible apply go_pre_nil)
             | ((with_reducible apply go_suf); rfl)
             | (with_reducible apply go_suf_nil))
           | ((with_reducible (show evG _ _ _ _ _)); first
             | (with_reducible apply go_seq)
             | (with_reducible apply go_region)
             | ((with_reducible apply go_cond_t); rfl; rfl)
             | (((with_reducible apply go_cond); rfl) <;> (intro h; simp only [h]; try simp only [decide_eq_true_eq, decide_eq_false_iff_not, Bool.not_eq_true', Bool.not_eq_false', Bool.not_true, Bool.not_false] at h; try exact absurd trivial h))
             | ((with_reducible apply go_order); kernel_rfl; rfl)
             | (with_reducible apply go_ret)
             | (with_reducible apply go_skipc))
           | (with_reducible apply go_kseq)
           | (with_reducible apply go_ksuf)
           | (with_reducible apply go_kseq_ret)
           | ((with_reducible apply end_bool); rfl)
  all_goals (unfold meetE; simp [*])
theorem c_rmeet (a b c d : Pt) (ha : ptOK a = true) (hb : ptOK b = true) (hc : ptOK c = true) (hd : ptOK d = true) : Contract Try.prog 36 [.agg (encPt a), .agg (encPt b), .agg (encPt c), .agg (encPt d)] (.ret (.bool (meetE a b c d))) := by
  have s1 := sign_mul (crossE a b c) (crossE a b d)
  have s2 := sign_mul (crossE c d a) (crossE c d b)
  refine contract_of mix Try.func36 rfl rfl (by rw [Try.ntmps36]; exact Nat.le_of_ble_eq_true rfl) ?_; rw [Try.results36, Try.ntmps36]; simp only [argsE, Nat.reduceAdd]
  repeat' first
           | (with_reducible apply go_op)
           | (with_reducible apply go_next)
           | ((with_reducible (show evOp _ _ _ _ _ _)); first
             | (((with_reducible apply go_mv_bool); rfl; rfl))
             | ((with_reducible apply go_as))
             | (((with_reducible apply go_ld_agg); rfl; rfl; rfl; rfl))
             | ((with_reducible (show evOp _ (.binOp _ _ _ _ _) _ _ _ _)) ; first | ((with_reducible apply go_cmp); rfl; rfl; rfl; rfl) | ((with_reducible apply go_mul); rfl; rfl; rfl; omega))
             | ((with_reducible (show evOp _ (.call _) _ _ _ _)) ; first | ((with_reducible apply go_fn_bool); rfl; (exact c_rbetween a b c ha hb hc); rfl) | ((with_reducible apply go_fn_bool); rfl; (exact c_rbetween a b d ha hb hd); rfl) | ((with_reducible apply go_fn_bool); rfl; (exact c_rbetween c d a hc hd ha); rfl) | ((with_reducible apply go_fn_bool); rfl; (exact c_rbetween c d b hc hd hb); rfl) | ((with_reducible apply go_fn_int); rfl; (exact c_rorient a b c ha hb hc); rfl) | ((with_reducible apply go_fn_int); rfl; (exact c_rorient a b d ha hb hd); rfl) | ((with_reducible apply go_fn_int); rfl; (exact c_rorient c d a hc hd ha); rfl) | ((with_reducible apply go_fn_int); rfl; (exact c_rorient c d b hc hd hb); rfl))
             | (((with_reducible apply go_pick); rfl; rfl; rfl))
             | (((with_reducible apply go_bx_agg); rfl; rfl; (exact Nat.le_of_ble_eq_true rfl); rfl; rfl)))
           | ((with_reducible (show evOps _ _ _ _ _ _)); first
             | (with_reducible apply go_nil)
             | ((with_reducible apply go_run); rfl; rfl)
             | ((with_reducible apply go_pass); rfl; rfl; rfl)
             | (((with_reducible apply go_guard); rfl) <;> (intro h; simp only [h, Bool.not_true, Bool.not_false]; (try with_reducible (refine ⟨rfl, ?_⟩)); try simp only [decide_eq_true_eq, decide_eq_false_iff_not, Bool.not_eq_true', Bool.not_eq_false', Bool.not_true, Bool.not_false] at h; try exact absurd trivial h))
             | ((with_reducible apply go_pre); rfl)
             | (with_reducible apply go_pre_nil)
             | ((with_reducible apply go_suf); rfl)
             | (with_reducible apply go_suf_nil))
           | ((with_reducible (show evG _ _ _ _ _)); first
             | (with_reducible apply go_seq)
             | (with_reducible apply go_region)
             | ((with_reducible apply go_cond_t); rfl; rfl)
             | (((with_reducible apply go_cond); rfl) <;> (intro h; simp only [h]; try simp only [decide_eq_true_eq, decide_eq_false_iff_not, Bool.not_eq_true', Bool.not_eq_false', Bool.not_true, Bool.not_false] at h; try exact absurd trivial h))
             | ((with_reducible apply go_order); kernel_rfl; rfl)
             | (with_reducible apply go_ret)
             | (with_reducible apply go_skipc))
           | (with_reducible apply go_kseq)
           | (with_reducible apply go_ksuf)
           | (with_reducible apply go_kseq_ret)
           | ((with_reducible apply end_bool); rfl)
  all_goals (unfold meetE; simp [*])
end Go.Pv.Geo

open Go Go.Proofs Go.Pv
set_option maxHeartbeats 4000000
set_option maxRecDepth 100000
set_option linter.unusedVariables false
namespace Go.Pv.Geo
def okB (o : Option Outc) : Bool := match o with | some (.ret (.bool b)) => b | _ => false
theorem okB_ok {f : FuncId} {ds : List D} {n k : Nat} (h : okB (runF Try.prog n k f ds) = true) : Contract Try.prog f ds (.ret (.bool true)) := by
  refine runF_ok mix k f ds _ (fuel := n) ?_
  unfold okB at h
  split at h
  · rename_i b hb; rw [hb, h]
  · cases h
/-- The document's examples hold: worked out. -/
theorem c_awake : Contract Try.prog 19 [] (.ret (.bool true)) := okB_ok (n := 100) (k := 14) (by kernel_rfl)
end Go.Pv.Geo

open Go Go.Proofs Go.Shelf
set_option maxRecDepth 100000
namespace Go.Pv.Geo
def sortPt_ren : Go.Shelf.Ren := ⟨fun | 6 => 108 | 15 => 126 | 14 => 125 | 28 => 138 | 29 => 139 | 20 => 130 | 21 => 131 | 22 => 132 | 23 => 133 | 24 => 134 | 25 => 135 | 26 => 136 | 27 => 137 | 46 => 148 | 47 => 149 | 48 => 150 | 49 => 151 | 50 => 152 | 57 => 156 | n => n, fun | 22 => 31 | 24 => 23 | 25 => 84 | 3 => 3 | 39 => 123 | 0 => 0 | 53 => 135 | 55 => 137 | 4 => 4 | 46 => 128 | 45 => 127 | 50 => 132 | 5 => 5 | 9 => 9 | 66 => 143 | 70 => 147 | 76 => 151 | 77 => 55 | n => n, fun | n => n⟩
theorem sortPt : SlLaysF0.n6 Try.prog sortPt_ren := {
  mixed := by kernel_rfl,
  f6 := ⟨Try.f108.name, by decide, Try.func108.trans (congrArg some (by kernel_rfl))⟩,
  f14 := ⟨Try.f125.name, by decide, Try.func125.trans (congrArg some (by kernel_rfl))⟩,
  f15 := Try.func126.trans (congrArg some (by kernel_rfl)),
  f20 := ⟨Try.f130.name, by decide, Try.func130.trans (congrArg some (by kernel_rfl))⟩,
  f21 := ⟨Try.f131.name, by decide, Try.func131.trans (congrArg some (by kernel_rfl))⟩,
  f22 := ⟨Try.f132.name, by decide, Try.func132.trans (congrArg some (by kernel_rfl))⟩,
  f23 := ⟨Try.f133.name, by decide, Try.func133.trans (congrArg some (by kernel_rfl))⟩,
  f24 := ⟨Try.f134.name, by decide, Try.func134.trans (congrArg some (by kernel_rfl))⟩,
  f25 := ⟨Try.f135.name, by decide, Try.func135.trans (congrArg some (by kernel_rfl))⟩,
  f26 := ⟨Try.f136.name, by decide, Try.func136.trans (congrArg some (by kernel_rfl))⟩,
  f27 := ⟨Try.f137.name, by decide, Try.func137.trans (congrArg some (by kernel_rfl))⟩,
  f28 := Try.func138.trans (congrArg some (by kernel_rfl)),
  f29 := Try.func139.trans (congrArg some (by kernel_rfl)),
  f46 := ⟨Try.f148.name, by decide, Try.func148.trans (congrArg some (by kernel_rfl))⟩,
  f47 := Try.func149.trans (congrArg some (by kernel_rfl)),
  f48 := Try.func150.trans (congrArg some (by kernel_rfl)),
  f49 := ⟨Try.f151.name, by decide, Try.func151.trans (congrArg some (by kernel_rfl))⟩,
  f50 := ⟨Try.f152.name, by decide, Try.func152.trans (congrArg some (by kernel_rfl))⟩,
  f57 := ⟨Try.f156.name, by decide, Try.func156.trans (congrArg some (by kernel_rfl))⟩,
  t0 := Try.underlying0,
  a0 := Try.isAgg0,
  z0 := Try.sizeOf0,
  v0 := Try.zeroValue0,
  t3 := Try.underlying3,
  a3 := Try.isAgg3,
  z3 := Try.sizeOf3,
  v3 := Try.zeroValue3,
  t4 := Try.underlying4,
  a4 := Try.isAgg4,
  z4 := Try.sizeOf4,
  v4 := Try.zeroValue4,
  t5 := Try.underlying5,
  a5 := Try.isAgg5,
  z5 := Try.sizeOf5,
  v5 := Try.zeroValue5,
  t9 := Try.underlying9,
  a9 := Try.isAgg9,
  z9 := Try.sizeOf9,
  v9 := Try.zeroValue9,
  t22 := Try.underlying31,
  a22 := Try.isAgg31,
  z22 := Try.sizeOf31,
  v22 := Try.zeroValue31,
  t25 := Try.underlying84,
  a25 := Try.isAgg84,
  z25 := Try.sizeOf84,
  v25 := Try.zeroValue84,
  t39 := Try.underlying123,
  a39 := Try.isAgg123,
  z39 := Try.sizeOf123,
  v39 := Try.zeroValue123,
  t45 := Try.underlying127,
  a45 := Try.isAgg127,
  z45 := Try.sizeOf127,
  v45 := Try.zeroValue127,
  t46 := Try.underlying128,
  a46 := Try.isAgg128,
  z46 := Try.sizeOf128,
  v46 := Try.zeroValue128,
  t50 := Try.underlying132,
  a50 := Try.isAgg132,
  z50 := Try.sizeOf132,
  v50 := Try.zeroValue132,
  t53 := Try.underlying135,
  a53 := Try.isAgg135,
  z53 := Try.sizeOf135,
  v53 := Try.zeroValue135,
  t55 := Try.underlying137,
  a55 := Try.isAgg137,
  z55 := Try.sizeOf137,
  v55 := Try.zeroValue137,
  t66 := Try.underlying143,
  a66 := Try.isAgg143,
  z66 := Try.sizeOf143,
  v66 := Try.zeroValue143,
  t70 := Try.underlying147,
  a70 := Try.isAgg147,
  z70 := Try.sizeOf147,
  v70 := Try.zeroValue147,
  t76 := Try.underlying151,
  a76 := Try.isAgg151,
  z76 := Try.sizeOf151,
  v76 := Try.zeroValue151,
  t77 := Try.underlying55,
  a77 := Try.isAgg55,
  z77 := Try.sizeOf55,
  v77 := Try.zeroValue55 }
end Go.Pv.Geo

set_option linter.unusedVariables false
set_option linter.unusedSimpArgs false
namespace Go.Pv.Geo
/-! The chain of the hull, plain. -/
/-- A linear order of places: by x, then by y. -/
def key (p : Pt) : Int := 4000001 * p.x + p.y
theorem key_lt {p q : Pt} (hp : ptOK p = true) (hq : ptOK q = true) : key p < key q ↔ p.x < q.x ∨ (p.x = q.x ∧ p.y < q.y) := by
  have := pt_bd hp; have := pt_bd hq
  unfold key; omega
theorem key_inj {p q : Pt} (hp : ptOK p = true) (hq : ptOK q = true) (h : key p = key q) : p = q := by
  have := pt_bd hp; have := pt_bd hq
  unfold key at h
  obtain ⟨a, b⟩ := p; obtain ⟨c, d⟩ := q
  simp only [Pt.mk.injEq] at *
  omega
/-- The order, turned or not. -/
def tau (s : Int) (p : Pt) : Int := s * key p
theorem plucker (s : Int) (a b c d : Pt) : (tau s b - tau s a) * crossE a c d - (tau s c - tau s a) * crossE a b d + (tau s d - tau s a) * crossE a b c = 0 := by
  unfold tau key crossE; grind
theorem cross_rot (a b c : Pt) : crossE a b c = crossE b c a := by unfold crossE; grind
theorem cross_sw (a b c : Pt) : crossE a b c = -crossE a c b := by unfold crossE; grind
theorem cross_sw' (a b c : Pt) : crossE a b c = -crossE b a c := by unfold crossE; grind
theorem cross_self (a b : Pt) : crossE a b b = 0 := by unfold crossE; grind
theorem cross_self' (a b : Pt) : crossE a b a = 0 := by unfold crossE; grind
theorem cross_self2 (a b : Pt) : crossE a a b = 0 := by unfold crossE; grind
/-- u (v x w) = v (u x w) - w (u x v), with numbers only. -/
theorem sgn3 {tu tv tw uv uw vw : Int} (h : tu * vw - tv * uw + tw * uv = 0) (hu : 0 < tu) (h1 : 0 ≤ tv) (h2 : 0 ≤ uw) (h3 : 0 ≤ tw) (h4 : uv ≤ 0) : 0 ≤ vw := by
  have a1 := Int.mul_nonneg h1 h2
  have a2 := Int.mul_nonneg h3 (show 0 ≤ -uv by omega)
  rw [Int.mul_neg] at a2
  have a3 : 0 ≤ tu * vw := by omega
  exact Int.nonneg_of_mul_nonneg_right a3 hu
variable {s : Int}
/-- From the edges a b and b p to the edge a p, if the turn at b is not to the left. -/
theorem pop_first {a b p r : Pt} (h1 : tau s a < tau s b) (h2 : tau s b < tau s p) (hc : crossE a b p ≤ 0) (h3 : tau s a ≤ tau s r) (h4 : tau s r ≤ tau s b) (hr : 0 ≤ crossE a b r) : 0 ≤ crossE a p r :=
  sgn3 (plucker s a b p r) (by omega) (by omega) hr (by omega) hc
theorem pop_second {a b p r : Pt} (h1 : tau s a < tau s b) (h2 : tau s b < tau s p) (hc : crossE a b p ≤ 0) (h3 : tau s b ≤ tau s r) (h4 : tau s r ≤ tau s p) (hr : 0 ≤ crossE b p r) : 0 ≤ crossE a p r := by
  -- at p: a, b, r
  have h := plucker s p b a r
  have e1 : crossE p a r = -crossE a p r := cross_sw' _ _ _
  have e2 : crossE p b r = -crossE b p r := cross_sw' _ _ _
  have e3 : crossE p b a = -crossE a b p := by rw [cross_rot a b p, cross_rot b p a, cross_sw p b a]
  rw [e1, e2, e3] at h
  refine sgn3 (tu := tau s p - tau s b) (tv := tau s p - tau s a) (tw := tau s p - tau s r) (uv := crossE a b p) (uw := crossE b p r) ?_ (by omega) (by omega) hr (by omega) hc
  grind
/-- Left of the edge b c, behind b, and the turn at b is to the left: left of a b. -/
theorem down_edge {a b c r : Pt} (h1 : tau s a < tau s b) (h2 : tau s b < tau s c) (hc : 0 < crossE a b c) (h3 : tau s b ≤ tau s r) (hr : 0 ≤ crossE b c r) : 0 ≤ crossE a b r ∧ (crossE a b r = 0 → tau s r ≤ tau s b) := by
  have h := plucker s b a c r
  have e1 : crossE b a r = -crossE a b r := cross_sw' _ _ _
  have e2 : crossE b a c = -crossE a b c := cross_sw' _ _ _
  rw [e1, e2] at h
  have k1 := Int.mul_nonneg (show 0 ≤ tau s b - tau s a by omega) hr
  have k2 := Int.mul_nonneg (show 0 ≤ tau s r - tau s b by omega) (show 0 ≤ crossE a b c by omega)
  have e : (tau s c - tau s b) * crossE a b r = (tau s b - tau s a) * crossE b c r + (tau s r - tau s b) * crossE a b c := by grind
  refine ⟨Int.nonneg_of_mul_nonneg_right (a := tau s c - tau s b) (by omega) (by omega), fun h0 => ?_⟩
  rw [h0, Int.mul_zero] at e
  have k3 : (tau s r - tau s b) * crossE a b c = 0 := by omega
  rcases Int.mul_eq_zero.1 k3 with h | h <;> omega
/-- Left of the edge a b, ahead of b, and the turn at b is to the left: left of b c. -/
theorem up_edge {a b c r : Pt} (h1 : tau s a < tau s b) (h2 : tau s b < tau s c) (hc : 0 < crossE a b c) (h3 : tau s r ≤ tau s b) (hr : 0 ≤ crossE a b r) : 0 ≤ crossE b c r ∧ (crossE b c r = 0 → tau s b ≤ tau s r) := by
  have h := plucker s b a c r
  have e1 : crossE b a r = -crossE a b r := cross_sw' _ _ _
  have e2 : crossE b a c = -crossE a b c := cross_sw' _ _ _
  rw [e1, e2] at h
  have k1 := Int.mul_nonneg (show 0 ≤ tau s c - tau s b by omega) hr
  have k2 := Int.mul_nonneg (show 0 ≤ tau s b - tau s r by omega) (show 0 ≤ crossE a b c by omega)
  have e : (tau s b - tau s a) * crossE b c r = (tau s c - tau s b) * crossE a b r + (tau s b - tau s r) * crossE a b c := by grind
  refine ⟨Int.nonneg_of_mul_nonneg_right (a := tau s b - tau s a) (by omega) (by omega), fun h0 => ?_⟩
  rw [h0, Int.mul_zero] at e
  have k3 : (tau s b - tau s r) * crossE a b c = 0 := by omega
  rcases Int.mul_eq_zero.1 k3 with h | h <;> omega
/-- What is popped for a new place; the stack's top comes first. -/
def popS (p : Pt) : List Pt → List Pt
  | b :: a :: t => if crossE a b p ≤ 0 then popS p (a :: t) else b :: a :: t
  | t => t
def chain (l : List Pt) : List Pt := l.foldl (fun t p => p :: popS p t) []
/-- Each one comes behind the next one of the stack. -/
def Dec (s : Int) : List Pt → Prop
  | b :: a :: t => tau s a < tau s b ∧ Dec s (a :: t)
  | _ => True
def Cvx : List Pt → Prop
  | c :: b :: a :: t => 0 < crossE a b c ∧ Cvx (b :: a :: t)
  | _ => True
/-- A place is between the ends of an edge, and not on its right side. -/
def Cov (s : Int) : List Pt → Pt → Prop
  | [], _ => False
  | [a], r => r = a
  | b :: a :: t, r => (tau s a ≤ tau s r ∧ tau s r ≤ tau s b ∧ 0 ≤ crossE a b r) ∨ Cov s (a :: t) r
theorem dec_tail {b : Pt} {t : List Pt} (h : Dec s (b :: t)) : Dec s t := by
  cases t with
  | nil => trivial
  | cons a t => exact h.2
theorem cov_le {b : Pt} {t : List Pt} {r : Pt} (hd : Dec s (b :: t)) (h : Cov s (b :: t) r) : tau s r ≤ tau s b := by
  induction t generalizing b with
  | nil => cases h; exact Int.le_refl _
  | cons a t ih =>
    rcases h with h | h
    · exact h.2.1
    · have := ih hd.2 h; have := hd.1; omega
theorem pop_dec {p : Pt} : ∀ {t : List Pt}, Dec s (p :: t) → Dec s (p :: popS p t)
  | [], h => h
  | [a], h => h
  | b :: a :: t, h => by
    rw [popS]
    split
    · exact pop_dec (t := a :: t) ⟨by have := h.1; have := h.2.1; omega, h.2.2⟩
    · exact h
theorem pop_cvx {p : Pt} : ∀ {t : List Pt}, Cvx t → Cvx (p :: popS p t)
  | [], h => trivial
  | [a], h => trivial
  | b :: a :: t, h => by
    rw [popS]
    split
    · refine pop_cvx (t := a :: t) ?_
      cases t with
      | nil => trivial
      | cons a' t => exact h.2
    · exact ⟨by omega, h⟩
theorem pop_cov {p r : Pt} : ∀ {t : List Pt}, Dec s (p :: t) → Cov s (p :: t) r → Cov s (p :: popS p t) r
  | [], _, h => h
  | [a], _, h => h
  | b :: a :: t, hd, h => by
    rw [popS]
    split
    · rename_i hc
      have h1 := hd.2.1
      have h2 := hd.1
      refine pop_cov (t := a :: t) ⟨by omega, hd.2.2⟩ ?_
      rcases h with h | h | h
      · exact .inl ⟨by omega, h.2.1, pop_second h1 h2 hc h.1 h.2.1 h.2.2⟩
      · exact .inl ⟨h.1, by omega, pop_first h1 h2 hc h.1 h.2.1 h.2.2⟩
      · exact .inr h
    · exact h
theorem pop_ne {p : Pt} : ∀ {t : List Pt}, t ≠ [] → popS p t ≠ []
  | [a], h => h
  | b :: a :: t, h => by
    rw [popS]; split
    · exact pop_ne (by simp)
    · exact h
theorem pop_last {p : Pt} : ∀ {t : List Pt}, (popS p t).getLast? = t.getLast?
  | [] => rfl
  | [a] => rfl
  | b :: a :: t => by
    rw [popS]; split
    · rw [pop_last]; rfl
    · rfl
theorem pop_mem {p r : Pt} : ∀ {t : List Pt}, r ∈ popS p t → r ∈ t
  | [], h => h
  | [a], h => h
  | b :: a :: t, h => by
    rw [popS] at h; split at h
    · exact List.mem_cons_of_mem _ (pop_mem h)
    · exact h
/-- What holds of the stack when some places, in order, have been laid. -/
structure Stk (s : Int) (l t : List Pt) : Prop where
  dec : Dec s t
  cvx : Cvx t
  cov : ∀ r ∈ l, Cov s t r
  mem : ∀ r ∈ t, r ∈ l
  head : t.head? = l.getLast?
  last : t.getLast? = l.head?
theorem stk_nil : Stk s [] [] := ⟨trivial, trivial, by simp, by simp, rfl, rfl⟩
theorem stk_step {l t : List Pt} {p : Pt} (h : Stk s l t) (hp : ∀ q ∈ l, tau s q < tau s p) : Stk s (l ++ [p]) (p :: popS p t) := by
  have hd : Dec s (p :: t) := by
    cases t with
    | nil => trivial
    | cons b t => exact ⟨hp b (h.mem b (by simp)), h.dec⟩
  refine ⟨pop_dec hd, pop_cvx h.cvx, ?_, ?_, by simp, ?_⟩
  · intro r hr
    refine pop_cov hd ?_
    rcases List.mem_append.1 hr with hr | hr
    · cases t with
      | nil => exact absurd (h.cov r hr) (by simp [Cov])
      | cons b t => exact .inr (h.cov r hr)
    · obtain rfl : r = p := by simpa using hr
      cases t with
      | nil => rfl
      | cons b t => exact .inl ⟨by have := hd.1; omega, Int.le_refl _, by rw [cross_self]; exact Int.le_refl _⟩
  · intro r hr
    rcases List.mem_cons.1 hr with rfl | hr
    · simp
    · exact List.mem_append.2 (.inl (h.mem r (pop_mem hr)))
  · cases l with
    | nil =>
      have : t = [] := by have := h.head; cases t <;> simp_all
      subst this; rfl
    | cons q l =>
      have ht : t ≠ [] := fun e => by subst e; have := h.last; simp at this
      have hn := pop_ne (p := p) ht
      rw [List.getLast?_cons, pop_last, h.last]; simp
theorem stk_fold {s : Int} : ∀ (l : List Pt) {l0 t : List Pt}, Stk s l0 t → (l0 ++ l).Pairwise (fun a b => tau s a < tau s b) → Stk s (l0 ++ l) (l.foldl (fun t p => p :: popS p t) t)
  | [], l0, t, h, _ => by simpa using h
  | p :: l, l0, t, h, hw => by
    have h1 := stk_step h (p := p) (fun q hq => (List.pairwise_append.1 hw).2.2 q hq p (by simp))
    have := stk_fold l h1 (by simpa using hw)
    simpa using this
theorem stk_chain {l : List Pt} (hw : l.Pairwise (fun a b => tau s a < tau s b)) : Stk s l (chain l) := by
  have := stk_fold l (stk_nil (s := s)) (by simpa using hw)
  simpa [chain] using this
/-- Left of all edges; on one only between its ends. -/
def LeftS (s : Int) : List Pt → Pt → Prop
  | b :: a :: t, r => (0 ≤ crossE a b r ∧ (crossE a b r = 0 → tau s a ≤ tau s r ∧ tau s r ≤ tau s b)) ∧ LeftS s (a :: t) r
  | _, _ => True
theorem left_down {r : Pt} : ∀ {t : List Pt} {b a : Pt}, Dec s (b :: a :: t) → Cvx (b :: a :: t) → tau s a ≤ tau s r → 0 ≤ crossE a b r → LeftS s (a :: t) r
  | [], b, a, _, _, _, _ => trivial
  | a' :: t, b, a, hd, hc, h1, h2 => by
    have := down_edge hd.2.1 hd.1 hc.1 h1 h2
    have h3 := hd.2.1
    exact ⟨⟨this.1, fun e => ⟨by omega, this.2 e⟩⟩, left_down hd.2 hc.2 (by omega) this.1⟩
theorem left_all {r : Pt} : ∀ {t : List Pt}, Dec s t → Cvx t → Cov s t r → LeftS s t r
  | [], _, _, _ => trivial
  | [a], _, _, _ => trivial
  | b :: a :: t, hd, hc, h => by
    rcases h with h | h
    · exact ⟨⟨h.2.2, fun _ => ⟨h.1, h.2.1⟩⟩, left_down hd hc h.1 h.2.2⟩
    · have hl := left_all hd.2 (by cases t with | nil => trivial | cons a' t => exact hc.2) h
      have hle := cov_le hd.2 h
      refine ⟨?_, hl⟩
      cases t with
      | nil =>
        cases h
        exact ⟨by rw [cross_self']; exact Int.le_refl _, fun _ => ⟨Int.le_refl _, by have := hd.1; omega⟩⟩
      | cons a' t =>
        have hh := up_edge hd.2.1 hd.1 hc.1 hle hl.1.1
        have := hd.1
        exact ⟨hh.1, fun e => ⟨hh.2 e, by omega⟩⟩
end Go.Pv.Geo

set_option linter.unusedVariables false
set_option linter.unusedSimpArgs false
namespace Go.Pv.Geo
/-! The hull's edges, and the walk around it, plain. -/
theorem nodup_len {α : Type} [DecidableEq α] : ∀ {l L : List α}, l.Nodup → (∀ x ∈ l, x ∈ L) → l.length ≤ L.length
  | [], L, _, _ => Nat.zero_le _
  | x :: l, L, hn, hs => by
    have hx := hs x (by simp)
    have hn' := List.nodup_cons.1 hn
    have h1 := nodup_len (l := l) (L := L.erase x) hn'.2 (fun y hy => by
      have : y ≠ x := fun e => hn'.1 (e ▸ hy)
      exact (List.mem_erase_of_ne this).2 (hs y (by simp [hy])))
    rw [List.length_erase_of_mem hx] at h1
    have := List.length_pos_of_mem hx
    simp only [List.length_cons]; omega
/-- b is behind a on the hull of L: all places are left of a b, or between. -/
def Btw (a b r : Pt) : Prop := (key a ≤ key r ∧ key r ≤ key b) ∨ (key b ≤ key r ∧ key r ≤ key a)
structure Edge (L : List Pt) (a b : Pt) : Prop where
  ne : key a ≠ key b
  mem : b ∈ L
  left : ∀ r ∈ L, 0 ≤ crossE a b r
  btw : ∀ r ∈ L, crossE a b r = 0 → Btw a b r
theorem between_of {tv tw vx wx : Int} (h : tv * wx = vx * tw) (hv : 0 < tv) (h0 : 0 ≤ tw) (h1 : tw ≤ tv) : (0 ≤ wx ∧ wx ≤ vx) ∨ (vx ≤ wx ∧ wx ≤ 0) := by
  rcases Int.le_total 0 vx with hx | hx
  · left
    have a1 := Int.mul_nonneg hx h0
    have a2 := Int.mul_nonneg hx (show 0 ≤ tv - tw by omega)
    rw [Int.mul_sub] at a2
    have a3 : 0 ≤ tv * wx := by omega
    have a4 : 0 ≤ tv * (vx - wx) := by rw [Int.mul_sub, Int.mul_comm tv vx]; omega
    have := Int.nonneg_of_mul_nonneg_right a3 hv
    have := Int.nonneg_of_mul_nonneg_right a4 hv
    omega
  · right
    have a1 := Int.mul_nonneg (show 0 ≤ -vx by omega) h0
    have a2 := Int.mul_nonneg (show 0 ≤ -vx by omega) (show 0 ≤ tv - tw by omega)
    rw [Int.mul_sub] at a2
    rw [Int.neg_mul] at a1 a2
    rw [Int.neg_mul] at a2
    have a3 : 0 ≤ tv * (-wx) := by rw [Int.mul_neg]; omega
    have a4 : 0 ≤ tv * (wx - vx) := by rw [Int.mul_sub, Int.mul_comm tv vx]; omega
    have := Int.nonneg_of_mul_nonneg_right a3 hv
    have := Int.nonneg_of_mul_nonneg_right a4 hv
    omega
theorem on_of_btw {a b r : Pt} (hk : key a ≠ key b) (h0 : crossE a b r = 0) (hb : Btw a b r) : onE a b r = true := by
  have hx : (key b - key a) * (r.x - a.x) = (b.x - a.x) * (key r - key a) := by
    unfold crossE at h0; unfold key; grind
  have hy : (key b - key a) * (r.y - a.y) = (b.y - a.y) * (key r - key a) := by
    unfold crossE at h0; unfold key; grind
  refine decide_eq_true ⟨h0, ?_⟩
  rcases hb with hb | hb
  · have h1 := between_of hx (by omega) (by omega) (by omega)
    have h2 := between_of hy (by omega) (by omega) (by omega)
    omega
  · have h1 := between_of (tv := key a - key b) (tw := key a - key r) (wx := r.x - a.x) (vx := b.x - a.x) (by grind) (by omega) (by omega) (by omega)
    have h2 := between_of (tv := key a - key b) (tw := key a - key r) (wx := r.y - a.y) (vx := b.y - a.y) (by grind) (by omega) (by omega) (by omega)
    omega
theorem sq_box {u v : Int} (h : (0 ≤ u ∧ u ≤ v) ∨ (v ≤ u ∧ u ≤ 0)) : u * u < v * v ∨ u = v := by
  by_cases e : u = v
  · exact .inr e
  · left
    rcases h with h | h
    · have h1 := Int.mul_le_mul_of_nonneg_left (show u ≤ v by omega) h.1
      have h2 := Int.mul_lt_mul_of_pos_right (show u < v by omega) (show 0 < v by omega)
      omega
    · have h1 := Int.mul_le_mul_of_nonneg_left (show -u ≤ -v by omega) (show 0 ≤ -u by omega)
      have h2 := Int.mul_lt_mul_of_pos_right (show -u < -v by omega) (show 0 < -v by omega)
      simp only [Int.neg_mul_neg] at h1 h2
      omega
theorem sq_of_on {a b r : Pt} (h : onE a b r = true) : sqE a r < sqE a b ∨ r = b := by
  have h := (of_decide_eq_true h).2
  have h1 := sq_box (u := r.x - a.x) (v := b.x - a.x) (by omega)
  have h2 := sq_box (u := r.y - a.y) (v := b.y - a.y) (by omega)
  have e1 : sqE a r = (r.x - a.x) * (r.x - a.x) + (r.y - a.y) * (r.y - a.y) := rfl
  have e2 : sqE a b = (b.x - a.x) * (b.x - a.x) + (b.y - a.y) * (b.y - a.y) := rfl
  rcases h1 with h1 | h1 <;> rcases h2 with h2 | h2
  · left; omega
  · left; rw [h2] at e1; omega
  · left; rw [h1] at e1; omega
  · right; obtain ⟨rx, ry⟩ := r; obtain ⟨bx, by'⟩ := b; simp only [Pt.mk.injEq]; simp only at h1 h2; omega
theorem Edge.on {L : List Pt} {a b r : Pt} (h : Edge L a b) (hr : r ∈ L) (h0 : crossE a b r = 0) : onE a b r = true := on_of_btw h.ne h0 (h.btw r hr h0)
theorem Edge.sq {L : List Pt} {a b r : Pt} (h : Edge L a b) (hr : r ∈ L) (h0 : crossE a b r = 0) : sqE a r < sqE a b ∨ r = b := sq_of_on (h.on hr h0)
/-- The next corner that the reference finds. -/
def wrapN (a n p : Pt) : Pt := if n = a ∨ crossE a n p < 0 ∨ (crossE a n p = 0 ∧ sqE a n < sqE a p) then p else n
def wrapS (L : List Pt) (a : Pt) : Pt := L.foldl (wrapN a) a
theorem wrap_stay {L : List Pt} {a b : Pt} (h : Edge L a b) : ∀ l : List Pt, (∀ p ∈ l, p ∈ L) → l.foldl (wrapN a) b = b
  | [], _ => rfl
  | p :: l, hl => by
    have hp := hl p (by simp)
    have e : wrapN a b p = b := by
      unfold wrapN
      have h1 : ¬ b = a := fun e => h.ne (by rw [e])
      have h2 := h.left p hp
      have h3 := h.sq hp
      split
      · rename_i hh
        rcases hh with hh | hh | hh
        · exact absurd hh h1
        · omega
        · rcases h3 hh.1 with h4 | h4
          · omega
          · exact h4
      · rfl
    rw [List.foldl_cons, e]
    exact wrap_stay h l (fun p hp => hl p (by simp [hp]))
theorem wrap_find {L : List Pt} {a b : Pt} (h : Edge L a b) : ∀ (l : List Pt) (n : Pt), (∀ p ∈ l, p ∈ L) → (n = a ∨ n ∈ L) → b ∈ l → l.foldl (wrapN a) n = b
  | p :: l, n, hl, hn, hb => by
    rw [List.foldl_cons]
    by_cases e : p = b
    · have e1 : wrapN a n p = b := by
        subst e
        unfold wrapN
        split
        · rfl
        · rename_i hh
          simp only [not_or, not_and, Int.not_lt] at hh
          rcases hn with hn | hn
          · exact absurd hn hh.1
          · have h1 := h.left n hn
            have h2 := cross_sw a p n
            have h3 : crossE a n p = 0 := by omega
            have h4 := hh.2.2 h3
            rcases h.sq hn (by omega) with h5 | h5
            · omega
            · exact h5
      rw [e1]
      exact wrap_stay h l (fun p hp => hl p (by simp [hp]))
    · refine wrap_find h l _ (fun p hp => hl p (by simp [hp])) ?_ ?_
      · unfold wrapN; split
        · exact .inr (hl p (by simp))
        · exact hn
      · rcases List.mem_cons.1 hb with hb | hb
        · exact absurd hb.symm e
        · exact hb
theorem wrap_edge {L : List Pt} {a b : Pt} (h : Edge L a b) : wrapS L a = b := wrap_find h L a (fun _ h => h) (.inl rfl) h.mem
theorem left_get {s : Int} {r : Pt} : ∀ {t : List Pt}, LeftS s t r → ∀ i (h : i + 1 < t.length), 0 ≤ crossE t[i+1] t[i] r ∧ (crossE t[i+1] t[i] r = 0 → tau s t[i+1] ≤ tau s r ∧ tau s r ≤ tau s t[i])
  | b :: a :: t, h, 0, _ => h.1
  | b :: a :: t, h, i + 1, hi => left_get (t := a :: t) h.2 i (by simpa using hi)
theorem dec_get {s : Int} : ∀ {t : List Pt}, Dec s t → ∀ i (h : i + 1 < t.length), tau s t[i+1] < tau s t[i]
  | b :: a :: t, h, 0, _ => h.1
  | b :: a :: t, h, i + 1, hi => dec_get (t := a :: t) h.2 i (by simpa using hi)
theorem dec_lt {s : Int} {t : List Pt} (h : Dec s t) : ∀ i k (hik : i < k) (hk : k < t.length), tau s t[k] < tau s t[i] := by
  intro i k hik hk
  induction k with
  | zero => omega
  | succ k ih =>
    have h1 := dec_get h k hk
    by_cases e : i = k
    · subst e; exact h1
    · have := ih (by omega) (by omega); omega
/-- The bottom comes first. -/
structure Path (L : List Pt) (s : Int) (P : List Pt) : Prop where
  edge : ∀ i (h : i + 1 < P.length), Edge L P[i] P[i+1]
  inc : ∀ i k (hik : i < k) (hk : k < P.length), tau s P[i] < tau s P[k]
theorem path_of {L l t : List Pt} {s : Int} (hs : s = 1 ∨ s = -1) (h : Stk s l t) (hL : ∀ r, r ∈ L ↔ r ∈ l) : Path L s t.reverse := by
  refine ⟨fun i hi => ?_, fun i k hik hk => ?_⟩
  · rw [List.length_reverse] at hi
    have e1 : t.reverse[i]'(by simp; omega) = t[(t.length - 1 - (i + 1)) + 1]'(by omega) := by
      rw [List.getElem_reverse]; congr 1; omega
    have e2 : t.reverse[i+1]'(by simp; omega) = t[t.length - 1 - (i + 1)]'(by omega) := by rw [List.getElem_reverse]
    have hd := dec_get h.dec (t.length - 1 - (i + 1)) (by omega)
    refine ⟨?_, ?_, fun r hr => ?_, fun r hr h0 => ?_⟩
    · intro e
      rw [e1, e2] at e
      unfold tau at hd; rw [e] at hd; omega
    · rw [e2]; exact (hL _).2 (h.mem _ (List.getElem_mem _))
    · have := left_get (left_all h.dec h.cvx (h.cov r ((hL r).1 hr))) (t.length - 1 - (i + 1)) (by omega)
      rw [e1, e2]; exact this.1
    · have := left_get (left_all h.dec h.cvx (h.cov r ((hL r).1 hr))) (t.length - 1 - (i + 1)) (by omega)
      rw [e1, e2] at h0 ⊢
      have := this.2 h0
      unfold tau at this
      unfold Btw
      rcases hs with rfl | rfl <;> omega
  · rw [List.length_reverse] at hk
    rw [List.getElem_reverse, List.getElem_reverse]
    exact dec_lt h.dec _ _ (by omega) (by omega)
/-- The corners of the hull of places in order. -/
def hullL (l : List Pt) : List Pt := (chain l).tail.reverse ++ (chain l.reverse).tail.reverse
end Go.Pv.Geo

set_option linter.unusedVariables false
set_option linter.unusedSimpArgs false
namespace Go.Pv.Geo
/-! The hull of places in order: its corners follow each other by edges, and are different. -/
theorem rev_take (t : List Pt) : t.tail.reverse = t.reverse.take (t.length - 1) := by
  cases t with
  | nil => rfl
  | cons a t => simp
structure HullOf (L H : List Pt) : Prop where
  len : 2 ≤ H.length
  len' : H.length ≤ L.length
  edge : ∀ i (h : i < H.length), Edge L H[i] (H[(i + 1) % H.length]'(Nat.mod_lt _ (by omega)))
  nodup : H.Nodup
  mem : ∀ p ∈ H, p ∈ L
theorem hull_of {L l : List Pt} (hl : l.Pairwise fun a b => key a < key b) (h2 : 2 ≤ l.length) (hL : ∀ r, r ∈ L ↔ r ∈ l) : HullOf L (hullL l) ∧ (hullL l).head? = l.head? := by
  have k1 : Stk 1 l (chain l) := stk_chain (hl.imp (by unfold tau; intros; omega))
  have k2 : Stk (-1) l.reverse (chain l.reverse) := stk_chain (List.pairwise_reverse.2 (hl.imp (by unfold tau; intros; omega)))
  have p1 := path_of (.inl rfl) k1 hL
  have p2 := path_of (.inr rfl) k2 (fun r => by rw [hL]; simp)
  obtain ⟨P, hP⟩ : ∃ P, (chain l).reverse = P := ⟨_, rfl⟩
  obtain ⟨Q, hQ⟩ : ∃ Q, (chain l.reverse).reverse = Q := ⟨_, rfl⟩
  have hH : hullL l = P.take (P.length - 1) ++ Q.take (Q.length - 1) := by
    unfold hullL
    rw [rev_take, rev_take, hP, hQ, ← hP, ← hQ]; simp
  rw [hP] at p1
  rw [hQ] at p2
  -- the ends
  have e0 : P.head? = l.head? := by rw [← hP, List.head?_reverse]; exact k1.last
  have e1 : P.getLast? = l.getLast? := by rw [← hP, List.getLast?_reverse]; exact k1.head
  have e2 : Q.head? = l.getLast? := by rw [← hQ, List.head?_reverse, k2.last]; simp
  have e3 : Q.getLast? = l.head? := by rw [← hQ, List.getLast?_reverse, k2.head]; simp
  have l0 : 0 < l.length := by omega
  have hne : key l[0] < key l[l.length - 1] := (List.pairwise_iff_getElem.1 hl) 0 (l.length - 1) (by omega) (by omega) (by omega)
  have f0 : l.head? = some l[0] := by rw [List.head?_eq_getElem?, List.getElem?_eq_getElem]
  have f1 : l.getLast? = some l[l.length - 1] := by rw [List.getLast?_eq_getElem?, List.getElem?_eq_getElem]
  have two : ∀ {X : List Pt} {a b : Pt}, X.head? = some a → X.getLast? = some b → key a ≠ key b → 2 ≤ X.length := by
    intro X a b ha hb hab
    match X with
    | [] => simp at ha
    | [x] => simp at ha hb; subst ha; subst hb; exact absurd rfl hab
    | x :: y :: X => simp
  have P2 : 2 ≤ P.length := two (e0.trans f0) (e1.trans f1) (by omega)
  have Q2 : 2 ≤ Q.length := two (e2.trans f1) (e3.trans f0) (by omega)
  have g0 : P[0]'(by omega) = l[0] := by
    have := e0.trans f0
    rw [List.head?_eq_getElem?, List.getElem?_eq_getElem (by omega)] at this; exact Option.some.inj this
  have g1 : P[P.length - 1]'(by omega) = l[l.length - 1] := by
    have := e1.trans f1
    rw [List.getLast?_eq_getElem?, List.getElem?_eq_getElem (by omega)] at this; exact Option.some.inj this
  have g2 : Q[0]'(by omega) = l[l.length - 1] := by
    have := e2.trans f1
    rw [List.head?_eq_getElem?, List.getElem?_eq_getElem (by omega)] at this; exact Option.some.inj this
  have g3 : Q[Q.length - 1]'(by omega) = l[0] := by
    have := e3.trans f0
    rw [List.getLast?_eq_getElem?, List.getElem?_eq_getElem (by omega)] at this; exact Option.some.inj this
  obtain ⟨m, hm⟩ : ∃ m, P.length = m + 1 := ⟨P.length - 1, by omega⟩
  obtain ⟨n, hn⟩ : ∃ n, Q.length = n + 1 := ⟨Q.length - 1, by omega⟩
  have hlen : (hullL l).length = m + n := by rw [hH, List.length_append, List.length_take, List.length_take]; omega
  have a1 : ∀ i (h : i < m), (hullL l)[i]'(by omega) = P[i]'(by omega) := by
    intro i hi
    simp only [hH]
    rw [List.getElem_append_left (by rw [List.length_take]; omega), List.getElem_take]
  have a2 : ∀ j (h : j < n), (hullL l)[m + j]'(by omega) = Q[j]'(by omega) := by
    intro j hj
    simp only [hH]
    rw [List.getElem_append_right (by rw [List.length_take]; omega), List.getElem_take]
    congr 1; rw [List.length_take]; omega
  have eP : P[m]'(by omega) = Q[0]'(by omega) := by rw [g2, ← g1]; congr 1; omega
  have eQ : Q[n]'(by omega) = P[0]'(by omega) := by rw [g0, ← g3]; congr 1; omega
  have n1 : ∀ i (h : i < m), (hullL l)[(i + 1) % (hullL l).length]'(Nat.mod_lt _ (by omega)) = P[i + 1]'(by omega) := by
    intro i hi
    have : (i + 1) % (hullL l).length = i + 1 := Nat.mod_eq_of_lt (by omega)
    simp only [this]
    by_cases h : i + 1 < m
    · exact a1 _ h
    · have : i + 1 = m := by omega
      subst this
      rw [eP]
      have := a2 0 (by omega)
      simpa using this
  have n2 : ∀ j (h : j < n), (hullL l)[(m + j + 1) % (hullL l).length]'(Nat.mod_lt _ (by omega)) = Q[j + 1]'(by omega) := by
    intro j hj
    by_cases h : j + 1 < n
    · have e : (m + j + 1) % (hullL l).length = m + (j + 1) := by rw [Nat.mod_eq_of_lt (by omega)]; omega
      simp only [e]
      exact a2 _ h
    · have e : (m + j + 1) % (hullL l).length = 0 := by rw [show m + j + 1 = (hullL l).length by omega]; exact Nat.mod_self _
      have : j + 1 = n := by omega
      subst this
      simp only [e]
      rw [eQ]
      exact a1 0 (by omega)
  have edge : ∀ i (h : i < (hullL l).length), Edge L (hullL l)[i] ((hullL l)[(i + 1) % (hullL l).length]'(Nat.mod_lt _ (by omega))) := by
    intro i hi
    by_cases h : i < m
    · rw [n1 i h, a1 i h]; exact p1.edge i (by omega)
    · obtain ⟨j, rfl⟩ : ∃ j, i = m + j := ⟨i - m, by omega⟩
      rw [n2 j (by omega), a2 j (by omega)]; exact p2.edge j (by omega)
  have hmem : ∀ p ∈ hullL l, p ∈ L := by
    intro p hp
    obtain ⟨i, hi, rfl⟩ := List.getElem_of_mem hp
    have := k1.mem
    by_cases h : i < m
    · rw [a1 i h, hL]
      exact k1.mem _ (by rw [← List.mem_reverse, hP]; exact List.getElem_mem _)
    · obtain ⟨j, rfl⟩ : ∃ j, i = m + j := ⟨i - m, by omega⟩
      rw [a2 j (by omega), hL]
      have := k2.mem (Q[j]'(by omega)) (by rw [← List.mem_reverse, hQ]; exact List.getElem_mem _)
      simpa using this
  have inc1 : ∀ i k (hik : i < k) (hk : k < P.length), key P[i] < key P[k] := fun i k hik hk => by have := p1.inc i k hik hk; unfold tau at this; omega
  have inc2 : ∀ i k (hik : i < k) (hk : k < Q.length), key Q[k] < key Q[i] := fun i k hik hk => by have := p2.inc i k hik hk; unfold tau at this; omega
  have nodup : (hullL l).Nodup := by
    have memT : ∀ {X : List Pt} {k : Nat} {x : Pt}, x ∈ X.take k → ∃ i, ∃ h : i < X.length, i < k ∧ X[i] = x := by
      intro X k x hx
      obtain ⟨i, hi, rfl⟩ := List.getElem_of_mem hx
      rw [List.length_take] at hi
      exact ⟨i, by omega, by omega, by rw [List.getElem_take]⟩
    rw [hH, List.nodup_append]
    refine ⟨?_, ?_, ?_⟩
    · refine List.pairwise_iff_getElem.2 fun i j hi hj hij e => ?_
      rw [List.length_take] at hi hj
      rw [List.getElem_take, List.getElem_take] at e
      have := inc1 i j hij (by omega)
      rw [e] at this; omega
    · refine List.pairwise_iff_getElem.2 fun i j hi hj hij e => ?_
      rw [List.length_take] at hi hj
      rw [List.getElem_take, List.getElem_take] at e
      have := inc2 i j hij (by omega)
      rw [e] at this; omega
    · intro a ha b hb e
      subst e
      obtain ⟨i, hi, hi', rfl⟩ := memT ha
      obtain ⟨j, hj, hj', e⟩ := memT hb
      have x1 := p1.edge i (by omega)
      have x2 := p2.edge j (by omega)
      rw [e] at x2
      have y1 := inc1 i (i + 1) (by omega) (by omega)
      have y2 := inc2 j (j + 1) (by omega) (by omega)
      rw [e] at y2
      have z1 := x1.left _ x2.mem
      have z2 := x2.left _ x1.mem
      have z3 := cross_sw P[i] P[i+1] Q[j+1]
      have z4 := x1.btw _ x2.mem (by omega)
      unfold Btw at z4
      omega
  refine ⟨⟨by omega, nodup_len nodup hmem, edge, nodup, hmem⟩, ?_⟩
  rw [List.head?_eq_getElem?, List.getElem?_eq_getElem (by omega), f0, a1 0 (by omega), g0]
end Go.Pv.Geo

open Go Go.Proofs Go.Pv
set_option maxHeartbeats 4000000
set_option maxRecDepth 100000
set_option linter.unusedSimpArgs false
set_option linter.unusedVariables false
namespace Go.Pv.Geo
def encT3 (a b c : Pt) : List D := [.int .i64 a.x, .int .i64 a.y, .int .i64 b.x, .int .i64 b.y, .int .i64 c.x, .int .i64 c.y]
def pre3 (u v w : Int) : Nat → List D
  | 0 => [.int .i64 0, .int .i64 0, .int .i64 0]
  | 1 => [.int .i64 u, .int .i64 0, .int .i64 0]
  | 2 => [.int .i64 u, .int .i64 v, .int .i64 0]
  | _ => [.int .i64 u, .int .i64 v, .int .i64 w]
def nrm (a d : Pt) : Int := (a.x - d.x) * (a.x - d.x) + (a.y - d.y) * (a.y - d.y)
def crs (b c d : Pt) : Int := (b.x - d.x) * (c.y - d.y) - (c.x - d.x) * (b.y - d.y)
def detE (a b c d : Pt) : Int := 0 + nrm a d * crs b c d + nrm b d * crs c a d + nrm c d * crs a b d
def detP (u v w : Int) : Nat → Int
  | 0 => 0
  | 1 => 0 + u
  | 2 => 0 + u + v
  | _ => 0 + u + v + w
def nearE (a d : Pt) : Prop := (-20000 ≤ a.x - d.x ∧ a.x - d.x ≤ 20000) ∧ -20000 ≤ a.y - d.y ∧ a.y - d.y ≤ 20000
theorem mulN {u v : Int} (hu : -20000 ≤ u ∧ u ≤ 20000) (hv : -20000 ≤ v ∧ v ≤ 20000) : -400000000 ≤ u * v ∧ u * v ≤ 400000000 := by
  have := mul_abs hu hv; omega
theorem nrm_bd {a d : Pt} (h : nearE a d) : -800000000 ≤ nrm a d ∧ nrm a d ≤ 800000000 := by
  have h1 := mulN h.1 h.1
  have h2 := mulN h.2 h.2
  unfold nrm; omega
theorem crs_bd {b c d : Pt} (h : nearE b d) (h' : nearE c d) : -800000000 ≤ crs b c d ∧ crs b c d ≤ 800000000 := by
  have h1 := mulN h.1 h'.2
  have h2 := mulN h'.1 h.2
  unfold crs; omega
theorem term_bd {a b c d : Pt} (ha : nearE a d) (hb : nearE b d) (hc : nearE c d) : -640000000000000000 ≤ nrm a d * crs b c d ∧ nrm a d * crs b c d ≤ 640000000000000000 := by
  have := mul_abs (nrm_bd ha) (crs_bd hb hc); omega
theorem c_circle (a b c d : Pt) (ka : ptOK a = true) (kb : ptOK b = true) (kc : ptOK c = true) (kd : ptOK d = true) (ha : nearE a d) (hb : nearE b d) (hc : nearE c d) : Contract Try.prog 76 [.agg (encT3 a b c), .agg (encPt d)] (.ret (.int .i64 (signE (detE a b c d)))) := by
  have t1 := term_bd ha hb hc
  have t2 := term_bd hb hc ha
  have t3 := term_bd hc ha hb
  have n1 := nrm_bd ha
  have n2 := nrm_bd hb
  have n3 := nrm_bd hc
  have m1 := mulN ha.1 ha.1
  have m2 := mulN hb.1 hb.1
  have m3 := mulN hc.1 hc.1
  have m4 := mulN ha.2 ha.2
  have m5 := mulN hb.2 hb.2
  have m6 := mulN hc.2 hc.2
  have x1 := mulN hb.1 hc.2
  have x2 := mulN hc.1 hb.2
  have x3 := mulN hc.1 ha.2
  have x4 := mulN ha.1 hc.2
  have x5 := mulN ha.1 hb.2
  have x6 := mulN hb.1 ha.2
  have k1 := pt_bd ka
  have k2 := pt_bd kb
  have k3 := pt_bd kc
  have k4 := pt_bd kd
  refine contract_of mix Try.func76 rfl rfl (by rw [Try.ntmps76]; exact Nat.le_of_ble_eq_true rfl) ?_; rw [Try.results76, Try.ntmps76]; simp only [argsE, Nat.reduceAdd]
  repeat' first
           | (with_reducible apply go_op)
           | (with_reducible apply go_next)
           | ((with_reducible (show evOp _ _ _ _ _ _)); first
             | (((with_reducible apply go_mv_int); rfl; rfl))
             | ((with_reducible apply go_as))
             | (((with_reducible apply go_ld_agg); rfl; rfl; rfl; rfl))
             | (((with_reducible apply go_bx_agg); rfl; rfl; (exact Nat.le_of_ble_eq_true rfl); rfl; rfl))
             | (((with_reducible apply go_alloc); rfl; rfl; rfl)))
           | ((with_reducible (show evOps _ _ _ _ _ _)); first
             | (with_reducible apply go_nil))
           | ((with_reducible (show evG _ _ _ _ _)); first
             | (with_reducible apply go_seq)
             | (with_reducible apply go_region)
             | (with_reducible apply go_block))
           | (with_reducible apply go_kseq)
  refine go_count 3 (fun i => ⟨[(15, .int .i64 i), (14, .agg (encT3 a b c)), (7, .op 4 0 0), (6, .op 3 0 0), (5, .op 2 0 0), (3, .op 1 0 0)], [(4, ⟨3, true, [pre3 (nrm a d) (nrm b d) (nrm c d) i]⟩), (3, ⟨3, true, [pre3 (a.y - d.y) (b.y - d.y) (c.y - d.y) i]⟩), (2, ⟨3, true, [pre3 (a.x - d.x) (b.x - d.x) (c.x - d.x) i]⟩), (1, ⟨2, true, [encPt d]⟩)], 32, 84⟩) (fun _ => True)
    (entails_eq (nx := 32) (k := 0) (ns := []) (ks := [15, 14, 7, 6, 5, 3]) [(160, 4), (128, 3), (96, 2), (32, 1)] rfl (by simp) (by kernel_rfl)) trivial ?_
  intro i hi hC
  have hc3 : i = 0 ∨ i = 1 ∨ i = 2 ∨ i = 3 := by omega
  rcases hc3 with rfl | rfl | rfl | rfl
  · repeat' first
           | (with_reducible apply go_op)
           | (with_reducible apply go_next)
           | ((with_reducible (show evOp _ _ _ _ _ _)); first
             | (((with_reducible apply go_mv_int); rfl; rfl))
             | ((with_reducible apply go_as))
             | (((with_reducible apply go_load_own); rfl; rfl; rfl; rfl))
             | (((with_reducible apply go_fieldAddr_own); rfl; rfl; rfl))
             | (((with_reducible apply go_index_arr); rfl; rfl; rfl; rfl; omega))
             | ((with_reducible (show evOp _ (.binOp _ _ _ _ _) _ _ _ _)) ; first | ((with_reducible apply go_cmp); rfl; rfl; rfl; rfl) | ((with_reducible apply go_add); rfl; rfl; rfl; omega) | ((with_reducible apply go_sub); rfl; rfl; rfl; omega) | ((with_reducible apply go_mul); rfl; rfl; rfl; omega))
             | ((with_reducible (show evOp _ (.store _ _ _) _ _ _ _)) ; first | ((with_reducible apply go_st_agg); rfl; rfl; rfl; rfl; rfl; rfl; rfl) | ((with_reducible apply go_store); rfl; rfl; rfl; rfl; rfl; rfl; (exact Nat.le_of_ble_eq_true rfl); (first | exact Nat.le_of_ble_eq_true rfl | omega); rfl; rfl))
             | (((with_reducible apply go_index_agg); rfl; rfl; rfl; omega; rfl))
             | (((with_reducible apply go_alloc); rfl; rfl; rfl)))
           | ((with_reducible (show evOps _ _ _ _ _ _)); first
             | (with_reducible apply go_nil)
             | ((with_reducible apply go_pre); rfl)
             | ((with_reducible apply go_pre_stop); rfl)
             | ((with_reducible apply go_suf); rfl)
             | ((with_reducible apply go_suf_stop); rfl)
             | (with_reducible apply go_take)
             | (with_reducible apply go_take0))
           | ((with_reducible (show evG _ _ _ _ _)); first
             | (with_reducible apply go_seq)
             | (with_reducible apply go_region)
             | ((with_reducible apply go_cond_t); rfl; rfl)
             | ((with_reducible apply (go_drawL 13 [[1, 7, 8, 9, 10, 11], [], []])); decide +kernel; rfl)
             | ((with_reducible apply go_order); kernel_rfl; rfl)
             | (with_reducible apply go_skipc)
             | (with_reducible apply go_block))
           | (with_reducible apply go_klined)
           | (with_reducible apply go_line_drop)
           | (with_reducible apply go_line_drop0)
           | (with_reducible apply go_line)
           | (with_reducible apply go_line_nil)
           | (with_reducible apply go_kln)
           | (with_reducible apply go_again_nil)
           | ((with_reducible apply go_again); rfl; (intro id'))
           | ((with_reducible apply go_kagain); rfl)
           | (with_reducible apply go_kseq)
           | (with_reducible apply go_ksuf)
           | (with_reducible apply go_kblock)
    refine ⟨by omega, trivial, entails_eq (nx := 32) (k := 0) (ns := []) (ks := [15, 14, 7, 6, 5, 3]) [(4, 4), (3, 3), (2, 2), (1, 1)] rfl (by simp) (by kernel_rfl)⟩
  · repeat' first
           | (with_reducible apply go_op)
           | (with_reducible apply go_next)
           | ((with_reducible (show evOp _ _ _ _ _ _)); first
             | (((with_reducible apply go_mv_int); rfl; rfl))
             | ((with_reducible apply go_as))
             | (((with_reducible apply go_load_own); rfl; rfl; rfl; rfl))
             | (((with_reducible apply go_fieldAddr_own); rfl; rfl; rfl))
             | (((with_reducible apply go_index_arr); rfl; rfl; rfl; rfl; omega))
             | ((with_reducible (show evOp _ (.binOp _ _ _ _ _) _ _ _ _)) ; first | ((with_reducible apply go_cmp); rfl; rfl; rfl; rfl) | ((with_reducible apply go_add); rfl; rfl; rfl; omega) | ((with_reducible apply go_sub); rfl; rfl; rfl; omega) | ((with_reducible apply go_mul); rfl; rfl; rfl; omega))
             | ((with_reducible (show evOp _ (.store _ _ _) _ _ _ _)) ; first | ((with_reducible apply go_st_agg); rfl; rfl; rfl; rfl; rfl; rfl; rfl) | ((with_reducible apply go_store); rfl; rfl; rfl; rfl; rfl; rfl; (exact Nat.le_of_ble_eq_true rfl); (first | exact Nat.le_of_ble_eq_true rfl | omega); rfl; rfl))
             | (((with_reducible apply go_index_agg); rfl; rfl; rfl; omega; rfl))
             | (((with_reducible apply go_alloc); rfl; rfl; rfl)))
           | ((with_reducible (show evOps _ _ _ _ _ _)); first
             | (with_reducible apply go_nil)
             | ((with_reducible apply go_pre); rfl)
             | ((with_reducible apply go_pre_stop); rfl)
             | ((with_reducible apply go_suf); rfl)
             | ((with_reducible apply go_suf_stop); rfl)
             | (with_reducible apply go_take)
             | (with_reducible apply go_take0))
           | ((with_reducible (show evG _ _ _ _ _)); first
             | (with_reducible apply go_seq)
             | (with_reducible apply go_region)
             | ((with_reducible apply go_cond_t); rfl; rfl)
             | ((with_reducible apply (go_drawL 13 [[1, 7, 8, 9, 10, 11], [], []])); decide +kernel; rfl)
             | ((with_reducible apply go_order); kernel_rfl; rfl)
             | (with_reducible apply go_skipc)
             | (with_reducible apply go_block))
           | (with_reducible apply go_klined)
           | (with_reducible apply go_line_drop)
           | (with_reducible apply go_line_drop0)
           | (with_reducible apply go_line)
           | (with_reducible apply go_line_nil)
           | (with_reducible apply go_kln)
           | (with_reducible apply go_again_nil)
           | ((with_reducible apply go_again); rfl; (intro id'))
           | ((with_reducible apply go_kagain); rfl)
           | (with_reducible apply go_kseq)
           | (with_reducible apply go_ksuf)
           | (with_reducible apply go_kblock)
    refine ⟨by omega, trivial, entails_eq (nx := 32) (k := 0) (ns := []) (ks := [15, 14, 7, 6, 5, 3]) [(4, 4), (3, 3), (2, 2), (1, 1)] rfl (by simp) (by kernel_rfl)⟩
  · repeat' first
           | (with_reducible apply go_op)
           | (with_reducible apply go_next)
           | ((with_reducible (show evOp _ _ _ _ _ _)); first
             | (((with_reducible apply go_mv_int); rfl; rfl))
             | ((with_reducible apply go_as))
             | (((with_reducible apply go_load_own); rfl; rfl; rfl; rfl))
             | (((with_reducible apply go_fieldAddr_own); rfl; rfl; rfl))
             | (((with_reducible apply go_index_arr); rfl; rfl; rfl; rfl; omega))
             | ((with_reducible (show evOp _ (.binOp _ _ _ _ _) _ _ _ _)) ; first | ((with_reducible apply go_cmp); rfl; rfl; rfl; rfl) | ((with_reducible apply go_add); rfl; rfl; rfl; omega) | ((with_reducible apply go_sub); rfl; rfl; rfl; omega) | ((with_reducible apply go_mul); rfl; rfl; rfl; omega))
             | ((with_reducible (show evOp _ (.store _ _ _) _ _ _ _)) ; first | ((with_reducible apply go_st_agg); rfl; rfl; rfl; rfl; rfl; rfl; rfl) | ((with_reducible apply go_store); rfl; rfl; rfl; rfl; rfl; rfl; (exact Nat.le_of_ble_eq_true rfl); (first | exact Nat.le_of_ble_eq_true rfl | omega); rfl; rfl))
             | (((with_reducible apply go_index_agg); rfl; rfl; rfl; omega; rfl))
             | (((with_reducible apply go_alloc); rfl; rfl; rfl)))
           | ((with_reducible (show evOps _ _ _ _ _ _)); first
             | (with_reducible apply go_nil)
             | ((with_reducible apply go_pre); rfl)
             | ((with_reducible apply go_pre_stop); rfl)
             | ((with_reducible apply go_suf); rfl)
             | ((with_reducible apply go_suf_stop); rfl)
             | (with_reducible apply go_take)
             | (with_reducible apply go_take0))
           | ((with_reducible (show evG _ _ _ _ _)); first
             | (with_reducible apply go_seq)
             | (with_reducible apply go_region)
             | ((with_reducible apply go_cond_t); rfl; rfl)
             | ((with_reducible apply (go_drawL 13 [[1, 7, 8, 9, 10, 11], [], []])); decide +kernel; rfl)
             | ((with_reducible apply go_order); kernel_rfl; rfl)
             | (with_reducible apply go_skipc)
             | (with_reducible apply go_block))
           | (with_reducible apply go_klined)
           | (with_reducible apply go_line_drop)
           | (with_reducible apply go_line_drop0)
           | (with_reducible apply go_line)
           | (with_reducible apply go_line_nil)
           | (with_reducible apply go_kln)
           | (with_reducible apply go_again_nil)
           | ((with_reducible apply go_again); rfl; (intro id'))
           | ((with_reducible apply go_kagain); rfl)
           | (with_reducible apply go_kseq)
           | (with_reducible apply go_ksuf)
           | (with_reducible apply go_kblock)
    refine ⟨by omega, trivial, entails_eq (nx := 32) (k := 0) (ns := []) (ks := [15, 14, 7, 6, 5, 3]) [(4, 4), (3, 3), (2, 2), (1, 1)] rfl (by simp) (by kernel_rfl)⟩
  · repeat' first
           | (with_reducible apply go_op)
           | (with_reducible apply go_next)
           | ((with_reducible (show evOp _ _ _ _ _ _)); first
             | (((with_reducible apply go_mv_int); rfl; rfl))
             | ((with_reducible apply go_as))
             | (((with_reducible apply go_cmp); rfl; rfl; rfl; rfl)))
           | ((with_reducible (show evOps _ _ _ _ _ _)); first
             | (with_reducible apply go_nil))
           | ((with_reducible (show evG _ _ _ _ _)); first
             | (with_reducible apply go_seq)
             | (with_reducible apply go_region)
             | ((with_reducible apply go_cond_f); rfl; rfl)
             | (with_reducible apply go_block)
             | (with_reducible apply go_exit))
           | (with_reducible apply go_kseq)
           | (with_reducible apply go_kblock_exit)
           | (with_reducible apply go_kseq_exit)
    refine go_count 3 (fun i => ⟨[(51, .int .i64 i), (10, .int .i64 (detP (nrm a d * crs b c d) (nrm b d * crs c a d) (nrm c d * crs a b d) i)), (7, .op 4 0 0), (6, .op 3 0 0), (5, .op 2 0 0)], [(4, ⟨3, true, [pre3 (nrm a d) (nrm b d) (nrm c d) 3]⟩), (3, ⟨3, true, [pre3 (a.y - d.y) (b.y - d.y) (c.y - d.y) 3]⟩), (2, ⟨3, true, [pre3 (a.x - d.x) (b.x - d.x) (c.x - d.x) 3]⟩)], 32, 84⟩) (fun _ => True)
      (entails_eq (nx := 32) (k := 0) (ns := []) (ks := [51, 10, 7, 6, 5]) [(4, 4), (3, 3), (2, 2)] rfl (by simp) (by kernel_rfl)) trivial ?_
    have d0 : detP (nrm a d * crs b c d) (nrm b d * crs c a d) (nrm c d * crs a b d) 0 = 0 := rfl
    have d1 : detP (nrm a d * crs b c d) (nrm b d * crs c a d) (nrm c d * crs a b d) 1 = nrm a d * ((b.x - d.x) * (c.y - d.y) - (c.x - d.x) * (b.y - d.y)) := Int.zero_add _
    have d2 : detP (nrm a d * crs b c d) (nrm b d * crs c a d) (nrm c d * crs a b d) 2 = nrm a d * ((b.x - d.x) * (c.y - d.y) - (c.x - d.x) * (b.y - d.y)) + nrm b d * ((c.x - d.x) * (a.y - d.y) - (a.x - d.x) * (c.y - d.y)) := by
      show 0 + _ + _ = _
      rw [Int.zero_add]; rfl
    simp only [crs] at t1 t2 t3
    intro i hi hC
    have hc3 : i = 0 ∨ i = 1 ∨ i = 2 ∨ i = 3 := by omega
    rcases hc3 with rfl | rfl | rfl | rfl
    · repeat' first
           | (with_reducible apply go_op)
           | (with_reducible apply go_next)
           | ((with_reducible (show evOp _ _ _ _ _ _)); first
             | (((with_reducible apply go_mv_int); rfl; rfl))
             | ((with_reducible apply go_as))
             | (((with_reducible apply go_load_own); rfl; rfl; rfl; rfl))
             | (((with_reducible apply go_index_arr); rfl; rfl; rfl; rfl; omega))
             | ((with_reducible (show evOp _ (.binOp _ _ _ _ _) _ _ _ _)) ; first | ((with_reducible apply go_cmp); rfl; rfl; rfl; rfl) | ((with_reducible apply go_add); rfl; rfl; rfl; omega) | ((with_reducible apply go_sub); rfl; rfl; rfl; omega) | ((with_reducible apply go_mul); rfl; rfl; rfl; omega) | ((with_reducible apply go_rem_pos); rfl; rfl; rfl; omega)))
           | ((with_reducible (show evOps _ _ _ _ _ _)); first
             | (with_reducible apply go_nil)
             | (with_reducible apply go_take)
             | (with_reducible apply go_take0)
             | (with_reducible apply go_drop)
             | (with_reducible apply go_drop0))
           | ((with_reducible (show evG _ _ _ _ _)); first
             | (with_reducible apply go_seq)
             | (with_reducible apply go_region)
             | ((with_reducible apply go_cond_t); rfl; rfl)
             | ((with_reducible apply (go_drawM 21)); decide +kernel; rfl)
             | (with_reducible apply go_skipc)
             | (with_reducible apply go_block))
           | (with_reducible apply go_kseq)
           | (with_reducible apply go_kblock)
           | (with_reducible apply go_kdrop)
      refine ⟨by omega, trivial, entails_eq (nx := 32) (k := 0) (ns := []) (ks := [51, 10, 7, 6, 5]) [(4, 4), (3, 3), (2, 2)] rfl (by simp) (by kernel_rfl)⟩
    · repeat' first
           | (with_reducible apply go_op)
           | (with_reducible apply go_next)
           | ((with_reducible (show evOp _ _ _ _ _ _)); first
             | (((with_reducible apply go_mv_int); rfl; rfl))
             | ((with_reducible apply go_as))
             | (((with_reducible apply go_load_own); rfl; rfl; rfl; rfl))
             | (((with_reducible apply go_index_arr); rfl; rfl; rfl; rfl; omega))
             | ((with_reducible (show evOp _ (.binOp _ _ _ _ _) _ _ _ _)) ; first | ((with_reducible apply go_cmp); rfl; rfl; rfl; rfl) | ((with_reducible apply go_add); rfl; rfl; rfl; omega) | ((with_reducible apply go_sub); rfl; rfl; rfl; omega) | ((with_reducible apply go_mul); rfl; rfl; rfl; omega) | ((with_reducible apply go_rem_pos); rfl; rfl; rfl; omega)))
           | ((with_reducible (show evOps _ _ _ _ _ _)); first
             | (with_reducible apply go_nil)
             | (with_reducible apply go_take)
             | (with_reducible apply go_take0)
             | (with_reducible apply go_drop)
             | (with_reducible apply go_drop0))
           | ((with_reducible (show evG _ _ _ _ _)); first
             | (with_reducible apply go_seq)
             | (with_reducible apply go_region)
             | ((with_reducible apply go_cond_t); rfl; rfl)
             | ((with_reducible apply (go_drawM 21)); decide +kernel; rfl)
             | (with_reducible apply go_skipc)
             | (with_reducible apply go_block))
           | (with_reducible apply go_kseq)
           | (with_reducible apply go_kblock)
           | (with_reducible apply go_kdrop)
      refine ⟨by omega, trivial, entails_eq (nx := 32) (k := 0) (ns := []) (ks := [51, 10, 7, 6, 5]) [(4, 4), (3, 3), (2, 2)] rfl (by simp) (by kernel_rfl)⟩
    · repeat' first
           | (with_reducible apply go_op)
           | (with_reducible apply go_next)
           | ((with_reducible (show evOp _ _ _ _ _ _)); first
             | (((with_reducible apply go_mv_int); rfl; rfl))
             | ((with_reducible apply go_as))
             | (((with_reducible apply go_load_own); rfl; rfl; rfl; rfl))
             | (((with_reducible apply go_index_arr); rfl; rfl; rfl; rfl; omega))
             | ((with_reducible (show evOp _ (.binOp _ _ _ _ _) _ _ _ _)) ; first | ((with_reducible apply go_cmp); rfl; rfl; rfl; rfl) | ((with_reducible apply go_add); rfl; rfl; rfl; omega) | ((with_reducible apply go_sub); rfl; rfl; rfl; omega) | ((with_reducible apply go_mul); rfl; rfl; rfl; omega) | ((with_reducible apply go_rem_pos); rfl; rfl; rfl; omega)))
           | ((with_reducible (show evOps _ _ _ _ _ _)); first
             | (with_reducible apply go_nil)
             | (with_reducible apply go_take)
             | (with_reducible apply go_take0)
             | (with_reducible apply go_drop)
             | (with_reducible apply go_drop0))
           | ((with_reducible (show evG _ _ _ _ _)); first
             | (with_reducible apply go_seq)
             | (with_reducible apply go_region)
             | ((with_reducible apply go_cond_t); rfl; rfl)
             | ((with_reducible apply (go_drawM 21)); decide +kernel; rfl)
             | (with_reducible apply go_skipc)
             | (with_reducible apply go_block))
           | (with_reducible apply go_kseq)
           | (with_reducible apply go_kblock)
           | (with_reducible apply go_kdrop)
      refine ⟨by omega, trivial, entails_eq (nx := 32) (k := 0) (ns := []) (ks := [51, 10, 7, 6, 5]) [(4, 4), (3, 3), (2, 2)] rfl (by simp) (by kernel_rfl)⟩
    · repeat' first
           | (with_reducible apply go_op)
           | (with_reducible apply go_next)
           | ((with_reducible (show evOp _ _ _ _ _ _)); first
             | (((with_reducible apply go_mv_int); rfl; rfl))
             | ((with_reducible apply go_as))
             | (((with_reducible apply go_cmp); rfl; rfl; rfl; rfl))
             | (((with_reducible apply go_fn_int); rfl; (exact c_compare0 _); rfl)))
           | ((with_reducible (show evOps _ _ _ _ _ _)); first
             | (with_reducible apply go_nil))
           | ((with_reducible (show evG _ _ _ _ _)); first
             | (with_reducible apply go_seq)
             | (with_reducible apply go_region)
             | ((with_reducible apply go_cond_f); rfl; rfl)
             | (with_reducible apply go_ret)
             | (with_reducible apply go_exit))
           | (with_reducible apply go_kseq)
           | (with_reducible apply go_kblock_exit)
           | (with_reducible apply go_kseq_exit)
           | ((with_reducible apply end_int); rfl)
      all_goals rfl
end Go.Pv.Geo

open Go Go.Proofs Go.Pv
set_option maxHeartbeats 4000000
set_option maxRecDepth 100000
set_option linter.unusedSimpArgs false
set_option linter.unusedVariables false
namespace Go.Pv.Geo
def absE (n : Int) : Int := if n < 0 then 0 - n else n
theorem c_abs (n : Int) (h : -9223372036854775807 ≤ n) (h' : n ≤ 9223372036854775807) : Contract Try.prog 54 [.int .i64 n] (.ret (.int .i64 (absE n))) := by
  refine contract_of mix Try.func54 rfl rfl (by rw [Try.ntmps54]; exact Nat.le_of_ble_eq_true rfl) ?_; rw [Try.results54, Try.ntmps54]; simp only [argsE, Nat.reduceAdd]
  repeat' first
           | (with_reducible apply go_op)
           | (with_reducible apply go_next)
           | ((with_reducible (show evOp _ _ _ _ _ _)); first
             | (((with_reducible apply go_mv_int); rfl; rfl))
             | ((with_reducible apply go_as))
             | (((with_reducible apply go_cmp); rfl; rfl; rfl; rfl))
             | (((with_reducible apply go_neg); rfl; rfl; omega)))
           | ((with_reducible (show evOps _ _ _ _ _ _)); first
             | (with_reducible apply go_nil))
           | ((with_reducible (show evG _ _ _ _ _)); first
             | (with_reducible apply go_seq)
             | (with_reducible apply go_region)
             | (((with_reducible apply go_cond); rfl) <;> (intro h; simp only [h]; try simp only [decide_eq_true_eq, decide_eq_false_iff_not, Bool.not_eq_true', Bool.not_eq_false', Bool.not_true, Bool.not_false] at h; try exact absurd trivial h))
             | (with_reducible apply go_ret)
             | (with_reducible apply go_skipc))
           | (with_reducible apply go_kseq)
           | (with_reducible apply go_kseq_ret)
           | ((with_reducible apply end_int); rfl)
  all_goals (unfold absE; first | rw [if_pos (by assumption)] | rw [if_neg (by omega)])
def farP (p q : Pt) : Bool := decide (20000 < p.x - q.x ∨ 20000 < p.y - q.y)
/-- Are some of the points too far from each other? -/
def farL (l : List Pt) : Bool := l.any fun p => l.any fun q => farP p q
theorem farL_yes {l : List Pt} {i k : Nat} (hi : i < l.length) (hk : k < l.length) (h : farP l[i] l[k] = true) : farL l = true :=
  List.any_eq_true.2 ⟨_, List.getElem_mem hi, List.any_eq_true.2 ⟨_, List.getElem_mem hk, h⟩⟩
theorem farL_no {l : List Pt} (h : ∀ i (hi : i < l.length), ∀ k (hk : k < l.length), farP l[i] l[k] = false) : farL l = false := by
  simp only [farL, List.any_eq_false]
  intro p hp
  obtain ⟨i, hi, rfl⟩ := List.mem_iff_getElem.1 hp
  simp only [List.any_eq_true, not_exists, not_and]
  intro q hq
  obtain ⟨k, hk, rfl⟩ := List.mem_iff_getElem.1 hq
  rw [h i hi k hk]; simp
theorem farP_self (p : Pt) : farP p p = false := by simp [farP]

theorem c_apart (l : List Pt) (hl : l.length < 1000000000000) (hok : ∀ p ∈ l, ptOK p = true) : Contract Try.prog 74 [.sl (l.map encPt)] (.ret (.bool (farL l))) := by
  refine contract_of mix Try.func74 rfl rfl (by rw [Try.ntmps74]; exact Nat.le_of_ble_eq_true rfl) ?_; rw [Try.results74, Try.ntmps74]; simp only [argsE, Nat.reduceAdd]
  repeat' first
           | (with_reducible apply go_op)
           | (with_reducible apply go_next)
           | ((with_reducible (show evOp _ _ _ _ _ _)); first
             | ((with_reducible (show evOp _ (.move _) _ _ _ _)) ; first | ((with_reducible apply go_mv_int); rfl; rfl) | ((with_reducible apply go_mv_bool); rfl; rfl) | ((with_reducible apply go_mv_sl); rfl; rfl))
             | ((with_reducible apply go_as))
             | (((with_reducible apply go_len); rfl; rfl)))
           | ((with_reducible (show evOps _ _ _ _ _ _)); first
             | (with_reducible apply go_nil))
           | ((with_reducible (show evG _ _ _ _ _)); first
             | (with_reducible apply go_seq)
             | (with_reducible apply go_region)
             | (with_reducible apply go_block))
           | (with_reducible apply go_kseq)
  refine go_count (l.length) (fun i => ⟨[(9, .int .i64 i), (8, .int .i64 l.length), (7, .sl (l.map encPt)), (0, .sl (l.map encPt))], [], 0, 35⟩) (fun i => ∀ j (hj : j < i) (hj' : j < l.length), ∀ k (hk : k < l.length), farP l[j] l[k] = false) (entails_eq (k := 0) (ns := []) (ks := [9, 8, 7, 0]) [] rfl (by simp) rfl) (by omega) ?_
  intro i hi hC
  repeat' first
           | (with_reducible apply go_op)
           | (with_reducible apply go_next)
           | ((with_reducible (show evOp _ _ _ _ _ _)); first
             | ((with_reducible (show evOp _ (.move _) _ _ _ _)) ; first | ((with_reducible apply go_mv_int); rfl; rfl) | ((with_reducible apply go_mv_bool); rfl; rfl) | ((with_reducible apply go_mv_sl); rfl; rfl))
             | ((with_reducible apply go_as))
             | (((with_reducible apply go_ld_ptr); rfl; rfl; rfl))
             | (((with_reducible apply go_index_nat); rfl; rfl; (with_reducible rfl); (intro; rfl); rfl; omega; (intro hlt)))
             | (((with_reducible apply go_cmp); rfl; rfl; rfl; rfl))
             | (((with_reducible apply go_len); rfl; rfl))
             | (((with_reducible apply go_st_agg); rfl; rfl; rfl; rfl; rfl; rfl; rfl))
             | (((with_reducible apply go_alloc); rfl; rfl; rfl)))
           | ((with_reducible (show evOps _ _ _ _ _ _)); first
             | (with_reducible apply go_nil))
           | ((with_reducible (show evG _ _ _ _ _)); first
             | (with_reducible apply go_seq)
             | (with_reducible apply go_region)
             | (((with_reducible apply go_cond); rfl) <;> (intro h; simp only [h]; try simp only [decide_eq_true_eq, decide_eq_false_iff_not, Bool.not_eq_true', Bool.not_eq_false', Bool.not_true, Bool.not_false] at h; try exact absurd trivial h))
             | (with_reducible apply go_ret)
             | (with_reducible apply go_skipc)
             | (with_reducible apply go_block)
             | (with_reducible apply go_exit))
           | (with_reducible apply go_kseq)
           | (with_reducible apply go_kblock_exit)
           | (with_reducible apply go_kseq_exit)
           | ((with_reducible apply end_bool); rfl)
  · have h2 : i < l.length := by omega
    refine go_count l.length (fun k => ⟨[(15, .int .i64 k), (14, .int .i64 l.length), (13, .sl (l.map encPt)), (4, .op 0 0 0), (9, .int .i64 i), (8, .int .i64 l.length), (7, .sl (l.map encPt)), (0, .sl (l.map encPt))], [(0, ⟨2, true, [encPt l[i]]⟩)], 32, 35⟩) (fun k => ∀ j (hj : j < k) (hj' : j < l.length), farP l[i] l[j] = false)
      (entails_eq (nx := 32) (k := 0) (ns := []) (ks := [15, 14, 13, 4, 9, 8, 7, 0]) [(96, 0)] rfl (by simp) (by kernel_rfl)) (by omega) ?_
    intro k hk hC2
    have b1 := pt_bd (hok _ (List.getElem_mem h2))
    by_cases h3 : k < l.length
    · have b2 := pt_bd (hok _ (List.getElem_mem h3))
      repeat' first
           | (with_reducible apply go_op)
           | (with_reducible apply go_next)
           | ((with_reducible (show evOp _ _ _ _ _ _)); first
             | ((with_reducible (show evOp _ (.move _) _ _ _ _)) ; first | ((with_reducible apply go_mv_int); rfl; rfl) | ((with_reducible apply go_mv_bool); rfl; rfl))
             | ((with_reducible apply go_as))
             | ((with_reducible (show evOp _ (.load _ _) _ _ _ _)) ; first | ((with_reducible apply go_ld_ptr); rfl; rfl; rfl) | ((with_reducible apply go_load_own); rfl; rfl; rfl; rfl))
             | (((with_reducible apply go_fieldAddr_own); rfl; rfl; rfl))
             | (((with_reducible apply go_index_nat); rfl; rfl; (with_reducible rfl); (intro; rfl); rfl; omega; (intro hlt)))
             | ((with_reducible (show evOp _ (.binOp _ _ _ _ _) _ _ _ _)) ; first | ((with_reducible apply go_cmp); rfl; rfl; rfl; rfl) | ((with_reducible apply go_add); rfl; rfl; rfl; omega) | ((with_reducible apply go_sub); rfl; rfl; rfl; omega))
             | (((with_reducible apply go_st_agg); rfl; rfl; rfl; rfl; rfl; rfl; rfl))
             | (((with_reducible apply go_pick); rfl; rfl; rfl))
             | (((with_reducible apply go_alloc); rfl; rfl; rfl)))
           | ((with_reducible (show evOps _ _ _ _ _ _)); first
             | (with_reducible apply go_nil)
             | ((with_reducible apply go_run); rfl; rfl)
             | ((with_reducible apply go_pass); rfl; rfl; rfl)
             | (((with_reducible apply go_guard); rfl) <;> (intro h; simp only [h, Bool.not_true, Bool.not_false]; (try with_reducible (refine ⟨rfl, ?_⟩)); try simp only [decide_eq_true_eq, decide_eq_false_iff_not, Bool.not_eq_true', Bool.not_eq_false', Bool.not_true, Bool.not_false] at h; try exact absurd trivial h)))
           | ((with_reducible (show evG _ _ _ _ _)); first
             | (with_reducible apply go_seq)
             | (with_reducible apply go_region)
             | ((with_reducible apply go_cond_t); rfl; rfl)
             | (((with_reducible apply go_cond); rfl) <;> (intro h; simp only [h]; try simp only [decide_eq_true_eq, decide_eq_false_iff_not, Bool.not_eq_true', Bool.not_eq_false', Bool.not_true, Bool.not_false] at h; try exact absurd trivial h))
             | (with_reducible apply go_ret)
             | (with_reducible apply go_skipc)
             | (with_reducible apply go_block)
             | (with_reducible apply go_exit))
           | (with_reducible apply go_kseq)
           | (with_reducible apply go_kseq_ret)
           | (with_reducible apply go_kblock)
           | (with_reducible apply go_kblock_ret)
           | (with_reducible apply go_kblock_exit)
           | (with_reducible apply go_kseq_exit)
           | ((with_reducible apply end_bool); rfl)
      · exact (farL_yes h2 h3 (by simp only [farP, decide_eq_true_eq]; omega)).symm
      · refine ⟨h3, fun j hj hj' => ?_, entails_eq (nx := 32) (k := 0) (ns := []) (ks := [15, 14, 13, 4, 9, 8, 7, 0]) [(0, 0)] rfl (by simp) (by kernel_rfl)⟩
        rcases Nat.lt_succ_iff_lt_or_eq.1 hj with h' | rfl
        · exact hC2 j h' hj'
        · simp only [farP, decide_eq_false_iff_not]; omega
      · exact (farL_yes h2 h3 (by simp only [farP, decide_eq_true_eq]; omega)).symm
      · omega
    · repeat' first
           | (with_reducible apply go_op)
           | (with_reducible apply go_next)
           | ((with_reducible (show evOp _ _ _ _ _ _)); first
             | ((with_reducible (show evOp _ (.move _) _ _ _ _)) ; first | ((with_reducible apply go_mv_int); rfl; rfl) | ((with_reducible apply go_mv_bool); rfl; rfl))
             | ((with_reducible apply go_as))
             | ((with_reducible (show evOp _ (.load _ _) _ _ _ _)) ; first | ((with_reducible apply go_ld_ptr); rfl; rfl; rfl) | ((with_reducible apply go_load_own); rfl; rfl; rfl; rfl))
             | (((with_reducible apply go_fieldAddr_own); rfl; rfl; rfl))
             | (((with_reducible apply go_index_nat); rfl; rfl; (with_reducible rfl); (intro; rfl); rfl; omega; (intro hlt)))
             | ((with_reducible (show evOp _ (.binOp _ _ _ _ _) _ _ _ _)) ; first | ((with_reducible apply go_cmp); rfl; rfl; rfl; rfl) | ((with_reducible apply go_add); rfl; rfl; rfl; omega) | ((with_reducible apply go_sub); rfl; rfl; rfl; omega))
             | (((with_reducible apply go_st_agg); rfl; rfl; rfl; rfl; rfl; rfl; rfl))
             | (((with_reducible apply go_pick); rfl; rfl; rfl))
             | (((with_reducible apply go_alloc); rfl; rfl; rfl)))
           | ((with_reducible (show evOps _ _ _ _ _ _)); first
             | (with_reducible apply go_nil)
             | ((with_reducible apply go_run); rfl; rfl)
             | ((with_reducible apply go_pass); rfl; rfl; rfl)
             | (((with_reducible apply go_guard); rfl) <;> (intro h; simp only [h, Bool.not_true, Bool.not_false]; (try with_reducible (refine ⟨rfl, ?_⟩)); try simp only [decide_eq_true_eq, decide_eq_false_iff_not, Bool.not_eq_true', Bool.not_eq_false', Bool.not_true, Bool.not_false] at h; try exact absurd trivial h)))
           | ((with_reducible (show evG _ _ _ _ _)); first
             | (with_reducible apply go_seq)
             | (with_reducible apply go_region)
             | ((with_reducible apply go_cond_t); rfl; rfl)
             | (((with_reducible apply go_cond); rfl) <;> (intro h; simp only [h]; try simp only [decide_eq_true_eq, decide_eq_false_iff_not, Bool.not_eq_true', Bool.not_eq_false', Bool.not_true, Bool.not_false] at h; try exact absurd trivial h))
             | (with_reducible apply go_ret)
             | (with_reducible apply go_skipc)
             | (with_reducible apply go_block)
             | (with_reducible apply go_exit))
           | (with_reducible apply go_kseq)
           | (with_reducible apply go_kseq_ret)
           | (with_reducible apply go_kblock)
           | (with_reducible apply go_kblock_ret)
           | (with_reducible apply go_kblock_exit)
           | (with_reducible apply go_kseq_exit)
           | ((with_reducible apply end_bool); rfl)
      · exact absurd ‹k < l.length› h3
      · exact absurd ‹k < l.length› h3
      · exact absurd ‹k < l.length› h3
      · refine ⟨h2, fun j hj hj' => ?_, entails_eq (k := 0) (ns := []) (ks := [9, 8, 7, 0]) [] rfl (by simp) rfl⟩
        rcases Nat.lt_succ_iff_lt_or_eq.1 hj with h' | rfl
        · exact hC j h' hj'
        · exact fun k' hk' => hC2 k' (by omega) hk'
  · exact (farL_no fun j hj k hk => hC j (by omega) hj k hk).symm
/-- .. the reference asks each pair once. -/
theorem c_close (l : List Pt) (hl : l.length < 1000000000000) (hok : ∀ p ∈ l, ptOK p = true) : Contract Try.prog 22 [.sl (l.map encPt)] (.ret (.bool (!farL l))) := by
  refine contract_of mix Try.func22 rfl rfl (by rw [Try.ntmps22]; exact Nat.le_of_ble_eq_true rfl) ?_; rw [Try.results22, Try.ntmps22]; simp only [argsE, Nat.reduceAdd]
  repeat' first
           | (with_reducible apply go_op)
           | (with_reducible apply go_next)
           | ((with_reducible (show evOp _ _ _ _ _ _)); first
             | ((with_reducible (show evOp _ (.move _) _ _ _ _)) ; first | ((with_reducible apply go_mv_int); rfl; rfl) | ((with_reducible apply go_mv_bool); rfl; rfl))
             | ((with_reducible apply go_as)))
           | ((with_reducible (show evOps _ _ _ _ _ _)); first
             | (with_reducible apply go_nil))
           | ((with_reducible (show evG _ _ _ _ _)); first
             | (with_reducible apply go_seq)
             | (with_reducible apply go_region)
             | (with_reducible apply go_block))
           | (with_reducible apply go_kseq)
  refine go_count (l.length) (fun i => ⟨[(3, .int .i64 i), (0, .sl (l.map encPt))], [], 0, 44⟩) (fun i => ∀ j (hj : j < i) (hj' : j < l.length), ∀ k (hk : k < j), farP l[j] l[k] = false ∧ farP l[k] l[j] = false) (entails_eq (k := 0) (ns := []) (ks := [3, 0]) [] rfl (by simp) rfl) (by omega) ?_
  intro i hi hC
  repeat' first
           | (with_reducible apply go_op)
           | (with_reducible apply go_next)
           | ((with_reducible (show evOp _ _ _ _ _ _)); first
             | ((with_reducible (show evOp _ (.move _) _ _ _ _)) ; first | ((with_reducible apply go_mv_int); rfl; rfl) | ((with_reducible apply go_mv_bool); rfl; rfl) | ((with_reducible apply go_mv_sl); rfl; rfl))
             | ((with_reducible apply go_as))
             | (((with_reducible apply go_cmp); rfl; rfl; rfl; rfl))
             | (((with_reducible apply go_len); rfl; rfl)))
           | ((with_reducible (show evOps _ _ _ _ _ _)); first
             | (with_reducible apply go_nil))
           | ((with_reducible (show evG _ _ _ _ _)); first
             | (with_reducible apply go_seq)
             | (with_reducible apply go_region)
             | (((with_reducible apply go_cond); rfl) <;> (intro h; simp only [h]; try simp only [decide_eq_true_eq, decide_eq_false_iff_not, Bool.not_eq_true', Bool.not_eq_false', Bool.not_true, Bool.not_false] at h; try exact absurd trivial h))
             | (with_reducible apply go_ret)
             | (with_reducible apply go_skipc)
             | (with_reducible apply go_block)
             | (with_reducible apply go_exit))
           | (with_reducible apply go_kseq)
           | (with_reducible apply go_kblock_exit)
           | (with_reducible apply go_kseq_exit)
           | ((with_reducible apply end_bool); rfl)
  · have h2 : i < l.length := by omega
    refine go_count i (fun k => ⟨[(4, .int .i64 k), (3, .int .i64 i), (0, .sl (l.map encPt))], [], 0, 44⟩) (fun k => ∀ j (hj : j < k) (hj' : j < i), farP l[i] l[j] = false ∧ farP l[j] l[i] = false)
      (entails_eq (nx := 0) (k := 0) (ns := []) (ks := [4, 3, 0]) [] rfl (by simp) (by kernel_rfl)) (by omega) ?_
    intro k hk hC2
    have b1 := pt_bd (hok _ (List.getElem_mem h2))
    by_cases h3 : k < i
    · have h4 : k < l.length := by omega
      have b2 := pt_bd (hok _ (List.getElem_mem h4))
      have a1 := c_abs (l[i].x - l[k].x) (by omega) (by omega)
      have a2 := c_abs (l[i].y - l[k].y) (by omega) (by omega)
      repeat' first
           | (with_reducible apply go_op)
           | (with_reducible apply go_next)
           | ((with_reducible (show evOp _ _ _ _ _ _)); first
             | ((with_reducible (show evOp _ (.move _) _ _ _ _)) ; first | ((with_reducible apply go_mv_int); rfl; rfl) | ((with_reducible apply go_mv_bool); rfl; rfl) | ((with_reducible apply go_mv_sl); rfl; rfl))
             | ((with_reducible apply go_as))
             | (((with_reducible apply go_load); rfl; rfl; rfl))
             | (((with_reducible apply go_fieldAddr); rfl; rfl))
             | (((with_reducible apply go_index_nat); rfl; rfl; (with_reducible rfl); (intro; rfl); rfl; omega; (intro hlt)))
             | ((with_reducible (show evOp _ (.binOp _ _ _ _ _) _ _ _ _)) ; first | ((with_reducible apply go_cmp); rfl; rfl; rfl; rfl) | ((with_reducible apply go_add); rfl; rfl; rfl; omega) | ((with_reducible apply go_sub); rfl; rfl; rfl; omega))
             | ((with_reducible (show evOp _ (.call _) _ _ _ _)) ; first | ((with_reducible apply go_fn_int); rfl; (exact a1); rfl) | ((with_reducible apply go_fn_int); rfl; (exact a2); rfl))
             | (((with_reducible apply go_pick); rfl; rfl; rfl)))
           | ((with_reducible (show evOps _ _ _ _ _ _)); first
             | (with_reducible apply go_nil)
             | ((with_reducible apply go_run); rfl; rfl)
             | ((with_reducible apply go_pass); rfl; rfl; rfl)
             | (((with_reducible apply go_guard); rfl) <;> (intro h; simp only [h, Bool.not_true, Bool.not_false]; (try with_reducible (refine ⟨rfl, ?_⟩)); try simp only [decide_eq_true_eq, decide_eq_false_iff_not, Bool.not_eq_true', Bool.not_eq_false', Bool.not_true, Bool.not_false] at h; try exact absurd trivial h))
             | ((with_reducible apply go_pre); rfl)
             | (with_reducible apply go_pre_nil)
             | ((with_reducible apply go_suf); rfl)
             | (with_reducible apply go_suf_nil))
           | ((with_reducible (show evG _ _ _ _ _)); first
             | (with_reducible apply go_seq)
             | (with_reducible apply go_region)
             | ((with_reducible apply go_cond_t); rfl; rfl)
             | (((with_reducible apply go_cond); rfl) <;> (intro h; simp only [h]; try simp only [decide_eq_true_eq, decide_eq_false_iff_not, Bool.not_eq_true', Bool.not_eq_false', Bool.not_true, Bool.not_false] at h; try exact absurd trivial h))
             | ((with_reducible apply go_order); kernel_rfl; rfl)
             | (with_reducible apply go_ret)
             | (with_reducible apply go_skipc)
             | (with_reducible apply go_block)
             | (with_reducible apply go_exit))
           | (with_reducible apply go_kseq)
           | (with_reducible apply go_ksuf)
           | (with_reducible apply go_kseq_ret)
           | (with_reducible apply go_kblock)
           | (with_reducible apply go_kblock_ret)
           | (with_reducible apply go_kblock_exit)
           | (with_reducible apply go_kseq_exit)
           | ((with_reducible apply end_bool); rfl)
      all_goals first
        | (refine ⟨h3, fun j hj hj' => ?_, entails_eq (nx := 0) (k := 0) (ns := []) (ks := [4, 3, 0]) [] rfl (by simp) (by kernel_rfl)⟩
           rcases Nat.lt_succ_iff_lt_or_eq.1 hj with h' | rfl
           · exact hC2 j h' hj'
           · unfold absE at *
             simp only [farP, decide_eq_false_iff_not]; constructor <;> (repeat' split at *) <;> omega)
        | (have hf : farL l = true := by
             unfold absE at *
             by_cases hp : farP l[i] l[k] = true
             · exact farL_yes h2 h4 hp
             · refine farL_yes h4 h2 ?_
               simp only [farP, decide_eq_true_eq] at hp ⊢; (repeat' split at *) <;> omega
           rw [hf]; rfl)
        | omega
    · repeat' first
           | (with_reducible apply go_op)
           | (with_reducible apply go_next)
           | ((with_reducible (show evOp _ _ _ _ _ _)); first
             | ((with_reducible (show evOp _ (.move _) _ _ _ _)) ; first | ((with_reducible apply go_mv_int); rfl; rfl) | ((with_reducible apply go_mv_sl); rfl; rfl))
             | ((with_reducible apply go_as))
             | (((with_reducible apply go_load); rfl; rfl; rfl))
             | (((with_reducible apply go_fieldAddr); rfl; rfl))
             | (((with_reducible apply go_index_nat); rfl; rfl; (with_reducible rfl); (intro; rfl); rfl; omega; (intro hlt)))
             | ((with_reducible (show evOp _ (.binOp _ _ _ _ _) _ _ _ _)) ; first | ((with_reducible apply go_cmp); rfl; rfl; rfl; rfl) | ((with_reducible apply go_add); rfl; rfl; rfl; omega) | ((with_reducible apply go_sub); rfl; rfl; rfl; omega)))
           | ((with_reducible (show evOps _ _ _ _ _ _)); first
             | (with_reducible apply go_nil)
             | ((with_reducible apply go_pre); rfl))
           | ((with_reducible (show evG _ _ _ _ _)); first
             | (with_reducible apply go_seq)
             | (with_reducible apply go_region)
             | (((with_reducible apply go_cond); rfl) <;> (intro h; simp only [h]; try simp only [decide_eq_true_eq, decide_eq_false_iff_not, Bool.not_eq_true', Bool.not_eq_false', Bool.not_true, Bool.not_false] at h; try exact absurd trivial h))
             | ((with_reducible apply go_order); kernel_rfl; rfl)
             | (with_reducible apply go_skipc)
             | (with_reducible apply go_block)
             | (with_reducible apply go_exit))
           | (with_reducible apply go_kseq)
           | (with_reducible apply go_kblock)
           | (with_reducible apply go_kblock_exit)
           | (with_reducible apply go_kseq_exit)
      all_goals first
        | (exfalso; omega)
        | (refine ⟨h2, fun j hj hj' => ?_, entails_eq (k := 0) (ns := []) (ks := [3, 0]) [] rfl (by simp) rfl⟩
           rcases Nat.lt_succ_iff_lt_or_eq.1 hj with h' | rfl
           · exact hC j h' hj'
           · exact fun k' hk' => hC2 k' (by omega) hk')
  · rw [farL_no]; rfl
    intro j hj k hk
    rcases Nat.lt_trichotomy j k with h | h | h
    · exact (hC k (by omega) hk j h).2
    · subst h; exact farP_self _
    · exact (hC j (by omega) hj k h).1

theorem c_apart_4 (a b c d : Pt) (ha : ptOK a = true) (hb : ptOK b = true) (hc : ptOK c = true) (hd : ptOK d = true) : Contract Try.prog 74 [.sl [encPt a, encPt b, encPt c, encPt d]] (.ret (.bool (farL [a, b, c, d]))) :=
  c_apart [a, b, c, d] (by simp) (by simp [*])
theorem c_close_4 (a b c d : Pt) (ha : ptOK a = true) (hb : ptOK b = true) (hc : ptOK c = true) (hd : ptOK d = true) : Contract Try.prog 22 [.sl [encPt a, encPt b, encPt c, encPt d]] (.ret (.bool (!farL [a, b, c, d]))) :=
  c_close [a, b, c, d] (by simp) (by simp [*])
theorem near_of {a b c d : Pt} (h : farL [a, b, c, d] = false) : nearE a d ∧ nearE b d ∧ nearE c d := by
  simp [farL, farP] at h
  simp only [nearE]
  omega
/-- What InCircle answers: the place and the error. -/
def inCircE (a b c d : Pt) : Int × Int :=
  if (ptOK a && ptOK b && ptOK c && ptOK d) = false then (0, 2) else if farL [a, b, c, d] = true then (0, 8) else if signE (crossE a b c) = 0 then (0, 10) else (signE (crossE a b c) * signE (detE a b c d), 0)
theorem c_InCircle (a b c d : Pt) : Contract Try.prog 20 [.agg (encPt a), .agg (encPt b), .agg (encPt c), .agg (encPt d)] (.ret (.tup [.int .i64 (inCircE a b c d).1, .int .i64 (inCircE a b c d).2])) := by
  cases hok : ptOK a && ptOK b && ptOK c && ptOK d
  · have h1 := c_outside_4 a b c d
    rw [hok] at h1
    have he : inCircE a b c d = (0, 2) := by simp [inCircE, hok]
    rw [he]
    refine contract_of mix Try.func20 rfl rfl (by rw [Try.ntmps20]; exact Nat.le_of_ble_eq_true rfl) ?_; rw [Try.results20, Try.ntmps20]; simp only [argsE, Nat.reduceAdd]
    repeat' first
           | (with_reducible apply go_op)
           | (with_reducible apply go_next)
           | ((with_reducible (show evOp _ _ _ _ _ _)); first
             | ((with_reducible (show evOp _ (.move _) _ _ _ _)) ; first | ((with_reducible apply go_mv_int); rfl; rfl) | ((with_reducible apply go_mv_bool); rfl; rfl))
             | ((with_reducible apply go_as))
             | (((with_reducible apply go_ld_agg); rfl; rfl; rfl; rfl))
             | (((with_reducible apply go_fn_bool); (exact purL_os rfl (by simp) rfl); (exact h1); rfl))
             | (((with_reducible apply go_bx_agg); rfl; rfl; (exact Nat.le_of_ble_eq_true rfl); rfl; rfl))
             | (((with_reducible apply go_bs4_agg); rfl; rfl; rfl; rfl; rfl; rfl; rfl; rfl; rfl; rfl; rfl; rfl)))
           | ((with_reducible (show evOps _ _ _ _ _ _)); first
             | (with_reducible apply go_nil))
           | ((with_reducible (show evG _ _ _ _ _)); first
             | (with_reducible apply go_seq)
             | (with_reducible apply go_region)
             | ((with_reducible apply go_cond_t); rfl; rfl)
             | (with_reducible apply go_ret)
             | (with_reducible apply go_block))
           | (with_reducible apply go_kseq)
           | (with_reducible apply go_kseq_ret)
           | (with_reducible apply go_kblock_ret)
           | ((with_reducible apply end_t2); rfl; rfl; rfl; rfl)
    all_goals rfl
  · have h1 := c_outside_4 a b c d
    rw [hok] at h1
    have hk : ((ptOK a = true ∧ ptOK b = true) ∧ ptOK c = true) ∧ ptOK d = true := by simpa using hok
    obtain ⟨⟨⟨ha, hb⟩, hc⟩, hd⟩ := hk
    have h2 := c_apart_4 a b c d ha hb hc hd
    cases hf : farL [a, b, c, d]
    · rw [hf] at h2
      obtain ⟨n1, n2, n3⟩ := near_of hf
      have h3 := c_side a b c ha hb hc
      have h4 : Contract Try.prog 76 [.agg [.int .i64 a.x, .int .i64 a.y, .int .i64 b.x, .int .i64 b.y, .int .i64 c.x, .int .i64 c.y], .agg (encPt d)] (.ret (.int .i64 (signE (detE a b c d)))) := c_circle a b c d ha hb hc hd n1 n2 n3
      have he : inCircE a b c d = if signE (crossE a b c) = 0 then (0, 10) else (signE (crossE a b c) * signE (detE a b c d), 0) := by simp [inCircE, hok, hf]
      have hs := sign_mul (crossE a b c) (detE a b c d)
      rw [he]
      refine contract_of mix Try.func20 rfl rfl (by rw [Try.ntmps20]; exact Nat.le_of_ble_eq_true rfl) ?_; rw [Try.results20, Try.ntmps20]; simp only [argsE, Nat.reduceAdd]
      repeat' first
           | (with_reducible apply go_op)
           | (with_reducible apply go_next)
           | ((with_reducible (show evOp _ _ _ _ _ _)); first
             | ((with_reducible (show evOp _ (.move _) _ _ _ _)) ; first | ((with_reducible apply go_mv_int); rfl; rfl) | ((with_reducible apply go_mv_bool); rfl; rfl))
             | ((with_reducible apply go_as))
             | (((with_reducible apply go_ld_agg); rfl; rfl; rfl; rfl))
             | ((with_reducible (show evOp _ (.binOp _ _ _ _ _) _ _ _ _)) ; first | ((with_reducible apply go_cmp); rfl; rfl; rfl; rfl) | ((with_reducible apply go_mul); rfl; rfl; rfl; omega))
             | ((with_reducible (show evOp _ (.call _) _ _ _ _)) ; first | ((with_reducible apply go_fn_bool); (exact purL_os rfl (by simp) rfl); (exact h1); rfl) | ((with_reducible apply go_fn_bool); (exact purL_os rfl (by simp) rfl); (exact h2); rfl) | ((with_reducible apply go_fn_int); rfl; (exact h3); rfl) | ((with_reducible apply go_fn_int); rfl; (exact h4); rfl))
             | (((with_reducible apply go_build); rfl; rfl))
             | (((with_reducible apply go_bx_agg); rfl; rfl; (exact Nat.le_of_ble_eq_true rfl); rfl; rfl))
             | (((with_reducible apply go_bs4_agg); rfl; rfl; rfl; rfl; rfl; rfl; rfl; rfl; rfl; rfl; rfl; rfl)))
           | ((with_reducible (show evOps _ _ _ _ _ _)); first
             | (with_reducible apply go_nil))
           | ((with_reducible (show evG _ _ _ _ _)); first
             | (with_reducible apply go_seq)
             | (with_reducible apply go_region)
             | ((with_reducible apply go_cond_f); rfl; rfl)
             | (((with_reducible apply go_cond); rfl) <;> (intro h; simp only [h]; try simp only [decide_eq_true_eq, decide_eq_false_iff_not, Bool.not_eq_true', Bool.not_eq_false', Bool.not_true, Bool.not_false] at h; try exact absurd trivial h))
             | (with_reducible apply go_ret)
             | (with_reducible apply go_skipc)
             | (with_reducible apply go_block))
           | (with_reducible apply go_kseq)
           | (with_reducible apply go_kseq_ret)
           | (with_reducible apply go_kblock)
           | ((with_reducible apply end_t2); rfl; rfl; rfl; rfl)
      all_goals first | (rw [if_pos (by assumption)]; rfl) | (rw [if_neg (by assumption)]; rfl)
    · rw [hf] at h2
      have he : inCircE a b c d = (0, 8) := by simp [inCircE, hok, hf]
      rw [he]
      refine contract_of mix Try.func20 rfl rfl (by rw [Try.ntmps20]; exact Nat.le_of_ble_eq_true rfl) ?_; rw [Try.results20, Try.ntmps20]; simp only [argsE, Nat.reduceAdd]
      repeat' first
           | (with_reducible apply go_op)
           | (with_reducible apply go_next)
           | ((with_reducible (show evOp _ _ _ _ _ _)); first
             | ((with_reducible (show evOp _ (.move _) _ _ _ _)) ; first | ((with_reducible apply go_mv_int); rfl; rfl) | ((with_reducible apply go_mv_bool); rfl; rfl))
             | ((with_reducible apply go_as))
             | (((with_reducible apply go_ld_agg); rfl; rfl; rfl; rfl))
             | ((with_reducible (show evOp _ (.call _) _ _ _ _)) ; first | ((with_reducible apply go_fn_bool); (exact purL_os rfl (by simp) rfl); (exact h1); rfl) | ((with_reducible apply go_fn_bool); (exact purL_os rfl (by simp) rfl); (exact h2); rfl))
             | (((with_reducible apply go_bx_agg); rfl; rfl; (exact Nat.le_of_ble_eq_true rfl); rfl; rfl))
             | (((with_reducible apply go_bs4_agg); rfl; rfl; rfl; rfl; rfl; rfl; rfl; rfl; rfl; rfl; rfl; rfl)))
           | ((with_reducible (show evOps _ _ _ _ _ _)); first
             | (with_reducible apply go_nil))
           | ((with_reducible (show evG _ _ _ _ _)); first
             | (with_reducible apply go_seq)
             | (with_reducible apply go_region)
             | ((with_reducible apply go_cond_t); rfl; rfl)
             | ((with_reducible apply go_cond_f); rfl; rfl)
             | (with_reducible apply go_ret)
             | (with_reducible apply go_block))
           | (with_reducible apply go_kseq)
           | (with_reducible apply go_kseq_ret)
           | (with_reducible apply go_kblock_ret)
           | ((with_reducible apply end_t2); rfl; rfl; rfl; rfl)
      all_goals rfl
end Go.Pv.Geo
