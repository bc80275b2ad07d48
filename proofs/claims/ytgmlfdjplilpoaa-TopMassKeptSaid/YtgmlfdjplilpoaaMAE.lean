import Derived.Test.YtgmlfdjplilpoaaProg
import Derived.Test.YtgmlfdjplilpoaaMAD
import Derived.KernelRfl
import Derived.Test.YtgmlfdjplilpoaaMAC
/- Part of the proofs over Ytgmlfdjplilpoaa: TFacts, S1, K1, S2, S3, S4, S5, S6, S7, S8, S9, S15, K2, K3. -/
set_option linter.unusedVariables false
set_option linter.unusedSimpArgs false
set_option linter.unnecessarySimpa false
open Go Go.Proofs Go.Pv
namespace Go.Pv.Tf
instance tsh0 : TSh Try.prog 0 .one := ⟨by kernel_rfl⟩
instance tcl0 : TCells Try.prog 0 1 := ⟨by kernel_rfl, by decide⟩
instance tsh1 : TSh Try.prog 1 .one := ⟨by kernel_rfl⟩
instance tcl1 : TCells Try.prog 1 1 := ⟨by kernel_rfl, by decide⟩
instance tze1 : TZero Try.prog 1 (.nilfunc) := ⟨by kernel_rfl, rfl, by decide⟩
instance tsh2 : TSh Try.prog 2 .one := ⟨by kernel_rfl⟩
instance tcl2 : TCells Try.prog 2 1 := ⟨by kernel_rfl, by decide⟩
instance tze2 : TZero Try.prog 2 (.int .i64 0) := ⟨by kernel_rfl, rfl, by decide⟩
instance tsh3 : TSh Try.prog 3 .one := ⟨by kernel_rfl⟩
instance tcl3 : TCells Try.prog 3 1 := ⟨by kernel_rfl, by decide⟩
instance tze3 : TZero Try.prog 3 (.int .i64 0) := ⟨by kernel_rfl, rfl, by decide⟩
instance tsh4 : TSh Try.prog 4 .one := ⟨by kernel_rfl⟩
instance tcl4 : TCells Try.prog 4 1 := ⟨by kernel_rfl, by decide⟩
instance tze4 : TZero Try.prog 4 (.bool false) := ⟨by kernel_rfl, rfl, by decide⟩
instance tsh5 : TSh Try.prog 5 .one := ⟨by kernel_rfl⟩
instance tcl5 : TCells Try.prog 5 1 := ⟨by kernel_rfl, by decide⟩
instance tze5 : TZero Try.prog 5 (.int .u8 0) := ⟨by kernel_rfl, rfl, by decide⟩
instance tsh6 : TSh Try.prog 6 .one := ⟨by kernel_rfl⟩
instance tcl6 : TCells Try.prog 6 1 := ⟨by kernel_rfl, by decide⟩
instance tze6 : TZero Try.prog 6 (.int .u8 0) := ⟨by kernel_rfl, rfl, by decide⟩
instance tsh7 : TSh Try.prog 7 (.many 4) := ⟨by kernel_rfl⟩
instance tcl7 : TCells Try.prog 7 4 := ⟨by kernel_rfl, by decide⟩
instance tfl7x0 : TField Try.prog 7 0 0 2 := ⟨by kernel_rfl, kne (k := 1) (by kernel_rfl) (by decide)⟩
instance tfl7x1 : TField Try.prog 7 1 1 3 := ⟨by kernel_rfl, kne (k := 1) (by kernel_rfl) (by decide)⟩
instance tfl7x2 : TField Try.prog 7 2 2 4 := ⟨by kernel_rfl, kne (k := 1) (by kernel_rfl) (by decide)⟩
instance tfl7x3 : TField Try.prog 7 3 3 6 := ⟨by kernel_rfl, kne (k := 1) (by kernel_rfl) (by decide)⟩
instance tly7 : TLay Try.prog 7 [.int .i64 0, .int .i64 0, .bool false, .int .u8 0] [(0, 1), (1, 1), (2, 1), (3, 1)] := ⟨by kernel_rfl⟩
instance tze7 : TZero Try.prog 7 (.agg [.int .i64 0, .int .i64 0, .bool false, .int .u8 0]) := ⟨by kernel_rfl, rfl, by decide⟩
instance tsh8 : TSh Try.prog 8 (.many 4) := ⟨by kernel_rfl⟩
instance tcl8 : TCells Try.prog 8 4 := ⟨by kernel_rfl, by decide⟩
instance tfl8x0 : TField Try.prog 8 0 0 2 := ⟨by kernel_rfl, kne (k := 1) (by kernel_rfl) (by decide)⟩
instance tfl8x1 : TField Try.prog 8 1 1 3 := ⟨by kernel_rfl, kne (k := 1) (by kernel_rfl) (by decide)⟩
instance tfl8x2 : TField Try.prog 8 2 2 4 := ⟨by kernel_rfl, kne (k := 1) (by kernel_rfl) (by decide)⟩
instance tfl8x3 : TField Try.prog 8 3 3 6 := ⟨by kernel_rfl, kne (k := 1) (by kernel_rfl) (by decide)⟩
instance tly8 : TLay Try.prog 8 [.int .i64 0, .int .i64 0, .bool false, .int .u8 0] [(0, 1), (1, 1), (2, 1), (3, 1)] := ⟨by kernel_rfl⟩
instance tze8 : TZero Try.prog 8 (.agg [.int .i64 0, .int .i64 0, .bool false, .int .u8 0]) := ⟨by kernel_rfl, rfl, by decide⟩
instance tsh9 : TSh Try.prog 9 .one := ⟨by kernel_rfl⟩
instance tst9 : TStr Try.prog 9 := ⟨by kernel_rfl⟩
instance tcl9 : TCells Try.prog 9 1 := ⟨by kernel_rfl, by decide⟩
instance tze9 : TZero Try.prog 9 (.str ByteArray.empty) := ⟨by kernel_rfl, rfl, by decide⟩
instance tsh10 : TSh Try.prog 10 .one := ⟨by kernel_rfl⟩
instance tst10 : TStr Try.prog 10 := ⟨by kernel_rfl⟩
instance tcl10 : TCells Try.prog 10 1 := ⟨by kernel_rfl, by decide⟩
instance tze10 : TZero Try.prog 10 (.str ByteArray.empty) := ⟨by kernel_rfl, rfl, by decide⟩
instance tsh11 : TSh Try.prog 11 .one := ⟨by kernel_rfl⟩
instance tst11 : TStr Try.prog 11 := ⟨by kernel_rfl⟩
instance tcl11 : TCells Try.prog 11 1 := ⟨by kernel_rfl, by decide⟩
instance tze11 : TZero Try.prog 11 (.str ByteArray.empty) := ⟨by kernel_rfl, rfl, by decide⟩
instance tsh12 : TSh Try.prog 12 .one := ⟨by kernel_rfl⟩
instance tcl12 : TCells Try.prog 12 1 := ⟨by kernel_rfl, by decide⟩
instance tze12 : TZero Try.prog 12 (.int .u64 0) := ⟨by kernel_rfl, rfl, by decide⟩
instance tsh13 : TSh Try.prog 13 (.many 2) := ⟨by kernel_rfl⟩
instance tcl13 : TCells Try.prog 13 2 := ⟨by kernel_rfl, by decide⟩
instance tfl13x0 : TField Try.prog 13 0 0 9 := ⟨by kernel_rfl, kne (k := 1) (by kernel_rfl) (by decide)⟩
instance tfl13x1 : TField Try.prog 13 1 1 12 := ⟨by kernel_rfl, kne (k := 1) (by kernel_rfl) (by decide)⟩
instance tly13 : TLay Try.prog 13 [.str ByteArray.empty, .int .u64 0] [(0, 1), (1, 1)] := ⟨by kernel_rfl⟩
instance tze13 : TZero Try.prog 13 (.agg [.str ByteArray.empty, .int .u64 0]) := ⟨by kernel_rfl, rfl, by decide⟩
instance tsh14 : TSh Try.prog 14 (.many 2) := ⟨by kernel_rfl⟩
instance tcl14 : TCells Try.prog 14 2 := ⟨by kernel_rfl, by decide⟩
instance tfl14x0 : TField Try.prog 14 0 0 9 := ⟨by kernel_rfl, kne (k := 1) (by kernel_rfl) (by decide)⟩
instance tfl14x1 : TField Try.prog 14 1 1 12 := ⟨by kernel_rfl, kne (k := 1) (by kernel_rfl) (by decide)⟩
instance tly14 : TLay Try.prog 14 [.str ByteArray.empty, .int .u64 0] [(0, 1), (1, 1)] := ⟨by kernel_rfl⟩
instance tze14 : TZero Try.prog 14 (.agg [.str ByteArray.empty, .int .u64 0]) := ⟨by kernel_rfl, rfl, by decide⟩
instance tsh15 : TSh Try.prog 15 .one := ⟨by kernel_rfl⟩
instance tcl15 : TCells Try.prog 15 1 := ⟨by kernel_rfl, by decide⟩
instance tze15 : TZero Try.prog 15 (.nilptr) := ⟨by kernel_rfl, rfl, by decide⟩
instance tsh16 : TSh Try.prog 16 .one := ⟨by kernel_rfl⟩
instance tcl16 : TCells Try.prog 16 1 := ⟨by kernel_rfl, by decide⟩
instance tze16 : TZero Try.prog 16 (.nilptr) := ⟨by kernel_rfl, rfl, by decide⟩
instance tsh17 : TSh Try.prog 17 .one := ⟨by kernel_rfl⟩
instance tcl17 : TCells Try.prog 17 1 := ⟨by kernel_rfl, by decide⟩
instance tze17 : TZero Try.prog 17 (.nilptr) := ⟨by kernel_rfl, rfl, by decide⟩
instance tsh18 : TSh Try.prog 18 (.many 1) := ⟨by kernel_rfl⟩
instance tcl18 : TCells Try.prog 18 1 := ⟨by kernel_rfl, by decide⟩
instance tfl18x0 : TField Try.prog 18 0 0 17 := ⟨by kernel_rfl, kne (k := 1) (by kernel_rfl) (by decide)⟩
instance tly18 : TLay Try.prog 18 [.nilptr] [(0, 1)] := ⟨by kernel_rfl⟩
instance tze18 : TZero Try.prog 18 (.agg [.nilptr]) := ⟨by kernel_rfl, rfl, by decide⟩
instance tsh19 : TSh Try.prog 19 (.many 1) := ⟨by kernel_rfl⟩
instance tcl19 : TCells Try.prog 19 1 := ⟨by kernel_rfl, by decide⟩
instance tfl19x0 : TField Try.prog 19 0 0 17 := ⟨by kernel_rfl, kne (k := 1) (by kernel_rfl) (by decide)⟩
instance tly19 : TLay Try.prog 19 [.nilptr] [(0, 1)] := ⟨by kernel_rfl⟩
instance tze19 : TZero Try.prog 19 (.agg [.nilptr]) := ⟨by kernel_rfl, rfl, by decide⟩
instance tsh20 : TSh Try.prog 20 .one := ⟨by kernel_rfl⟩
instance tcl20 : TCells Try.prog 20 1 := ⟨by kernel_rfl, by decide⟩
instance tze20 : TZero Try.prog 20 (.nilif) := ⟨by kernel_rfl, rfl, by decide⟩
instance tsh21 : TSh Try.prog 21 .one := ⟨by kernel_rfl⟩
instance tcl21 : TCells Try.prog 21 1 := ⟨by kernel_rfl, by decide⟩
instance tze21 : TZero Try.prog 21 (.int .i32 0) := ⟨by kernel_rfl, rfl, by decide⟩
instance tsh22 : TSh Try.prog 22 .one := ⟨by kernel_rfl⟩
instance tcl22 : TCells Try.prog 22 1 := ⟨by kernel_rfl, by decide⟩
instance tsl22 : TSlice Try.prog 22 58 6 := ⟨by kernel_rfl, by kernel_rfl, by decide⟩
instance tze22 : TZero Try.prog 22 (.nilsl) := ⟨by kernel_rfl, rfl, by decide⟩
instance tsh23 : TSh Try.prog 23 .one := ⟨by kernel_rfl⟩
instance tcl23 : TCells Try.prog 23 1 := ⟨by kernel_rfl, by decide⟩
instance tsl23 : TSlice Try.prog 23 51 3 := ⟨by kernel_rfl, by kernel_rfl, by decide⟩
instance tze23 : TZero Try.prog 23 (.nilsl) := ⟨by kernel_rfl, rfl, by decide⟩
instance tsh24 : TSh Try.prog 24 .one := ⟨by kernel_rfl⟩
instance tcl24 : TCells Try.prog 24 1 := ⟨by kernel_rfl, by decide⟩
instance tsl24 : TSlice Try.prog 24 60 3 := ⟨by kernel_rfl, by kernel_rfl, by decide⟩
instance tze24 : TZero Try.prog 24 (.nilsl) := ⟨by kernel_rfl, rfl, by decide⟩
instance tsh25 : TSh Try.prog 25 .one := ⟨by kernel_rfl⟩
instance tcl25 : TCells Try.prog 25 1 := ⟨by kernel_rfl, by decide⟩
instance tsl25 : TSlice Try.prog 25 3 1 := ⟨by kernel_rfl, by kernel_rfl, by decide⟩
instance tze25 : TZero Try.prog 25 (.nilsl) := ⟨by kernel_rfl, rfl, by decide⟩
instance tsh26 : TSh Try.prog 26 (.many 4) := ⟨by kernel_rfl⟩
instance tcl26 : TCells Try.prog 26 4 := ⟨by kernel_rfl, by decide⟩
instance tfl26x0 : TField Try.prog 26 0 0 22 := ⟨by kernel_rfl, kne (k := 1) (by kernel_rfl) (by decide)⟩
instance tfl26x1 : TField Try.prog 26 1 1 23 := ⟨by kernel_rfl, kne (k := 1) (by kernel_rfl) (by decide)⟩
instance tfl26x2 : TField Try.prog 26 2 2 24 := ⟨by kernel_rfl, kne (k := 1) (by kernel_rfl) (by decide)⟩
instance tfl26x3 : TField Try.prog 26 3 3 25 := ⟨by kernel_rfl, kne (k := 1) (by kernel_rfl) (by decide)⟩
instance tly26 : TLay Try.prog 26 [.nilsl, .nilsl, .nilsl, .nilsl] [(0, 1), (1, 1), (2, 1), (3, 1)] := ⟨by kernel_rfl⟩
instance tze26 : TZero Try.prog 26 (.agg [.nilsl, .nilsl, .nilsl, .nilsl]) := ⟨by kernel_rfl, rfl, by decide⟩
instance tsh27 : TSh Try.prog 27 (.many 4) := ⟨by kernel_rfl⟩
instance tcl27 : TCells Try.prog 27 4 := ⟨by kernel_rfl, by decide⟩
instance tfl27x0 : TField Try.prog 27 0 0 22 := ⟨by kernel_rfl, kne (k := 1) (by kernel_rfl) (by decide)⟩
instance tfl27x1 : TField Try.prog 27 1 1 23 := ⟨by kernel_rfl, kne (k := 1) (by kernel_rfl) (by decide)⟩
instance tfl27x2 : TField Try.prog 27 2 2 24 := ⟨by kernel_rfl, kne (k := 1) (by kernel_rfl) (by decide)⟩
instance tfl27x3 : TField Try.prog 27 3 3 25 := ⟨by kernel_rfl, kne (k := 1) (by kernel_rfl) (by decide)⟩
instance tly27 : TLay Try.prog 27 [.nilsl, .nilsl, .nilsl, .nilsl] [(0, 1), (1, 1), (2, 1), (3, 1)] := ⟨by kernel_rfl⟩
instance tze27 : TZero Try.prog 27 (.agg [.nilsl, .nilsl, .nilsl, .nilsl]) := ⟨by kernel_rfl, rfl, by decide⟩
instance tsh28 : TSh Try.prog 28 .one := ⟨by kernel_rfl⟩
instance tcl28 : TCells Try.prog 28 1 := ⟨by kernel_rfl, by decide⟩
instance tsl28 : TSlice Try.prog 28 44 5 := ⟨by kernel_rfl, by kernel_rfl, by decide⟩
instance tze28 : TZero Try.prog 28 (.nilsl) := ⟨by kernel_rfl, rfl, by decide⟩
instance tsh29 : TSh Try.prog 29 .one := ⟨by kernel_rfl⟩
instance tcl29 : TCells Try.prog 29 1 := ⟨by kernel_rfl, by decide⟩
instance tze29 : TZero Try.prog 29 (.nilfunc) := ⟨by kernel_rfl, rfl, by decide⟩
instance tsh30 : TSh Try.prog 30 .one := ⟨by kernel_rfl⟩
instance tcl30 : TCells Try.prog 30 1 := ⟨by kernel_rfl, by decide⟩
instance tze30 : TZero Try.prog 30 (.nilfunc) := ⟨by kernel_rfl, rfl, by decide⟩
instance tsh31 : TSh Try.prog 31 .one := ⟨by kernel_rfl⟩
instance tcl31 : TCells Try.prog 31 1 := ⟨by kernel_rfl, by decide⟩
instance tze31 : TZero Try.prog 31 (.nilfunc) := ⟨by kernel_rfl, rfl, by decide⟩
instance tsh32 : TSh Try.prog 32 .one := ⟨by kernel_rfl⟩
instance tcl32 : TCells Try.prog 32 1 := ⟨by kernel_rfl, by decide⟩
instance tze32 : TZero Try.prog 32 (.nilfunc) := ⟨by kernel_rfl, rfl, by decide⟩
instance tsh33 : TSh Try.prog 33 .one := ⟨by kernel_rfl⟩
instance tcl33 : TCells Try.prog 33 1 := ⟨by kernel_rfl, by decide⟩
instance tze33 : TZero Try.prog 33 (.nilfunc) := ⟨by kernel_rfl, rfl, by decide⟩
instance tsh34 : TSh Try.prog 34 .one := ⟨by kernel_rfl⟩
instance tcl34 : TCells Try.prog 34 1 := ⟨by kernel_rfl, by decide⟩
instance tze34 : TZero Try.prog 34 (.nilfunc) := ⟨by kernel_rfl, rfl, by decide⟩
instance tsh35 : TSh Try.prog 35 .one := ⟨by kernel_rfl⟩
instance tcl35 : TCells Try.prog 35 1 := ⟨by kernel_rfl, by decide⟩
instance tze35 : TZero Try.prog 35 (.nilfunc) := ⟨by kernel_rfl, rfl, by decide⟩
instance tsh36 : TSh Try.prog 36 (.many 4) := ⟨by kernel_rfl⟩
instance tcl36 : TCells Try.prog 36 4 := ⟨by kernel_rfl, by decide⟩
instance tfl36x0 : TField Try.prog 36 0 0 3 := ⟨by kernel_rfl, kne (k := 1) (by kernel_rfl) (by decide)⟩
instance tfl36x1 : TField Try.prog 36 1 1 3 := ⟨by kernel_rfl, kne (k := 1) (by kernel_rfl) (by decide)⟩
instance tfl36x2 : TField Try.prog 36 2 2 3 := ⟨by kernel_rfl, kne (k := 1) (by kernel_rfl) (by decide)⟩
instance tfl36x3 : TField Try.prog 36 3 3 3 := ⟨by kernel_rfl, kne (k := 1) (by kernel_rfl) (by decide)⟩
instance tly36 : TLay Try.prog 36 [.int .i64 0, .int .i64 0, .int .i64 0, .int .i64 0] [(0, 1), (1, 1), (2, 1), (3, 1)] := ⟨by kernel_rfl⟩
instance tze36 : TZero Try.prog 36 (.agg [.int .i64 0, .int .i64 0, .int .i64 0, .int .i64 0]) := ⟨by kernel_rfl, rfl, by decide⟩
instance tsh37 : TSh Try.prog 37 (.many 4) := ⟨by kernel_rfl⟩
instance tcl37 : TCells Try.prog 37 4 := ⟨by kernel_rfl, by decide⟩
instance tfl37x0 : TField Try.prog 37 0 0 3 := ⟨by kernel_rfl, kne (k := 1) (by kernel_rfl) (by decide)⟩
instance tfl37x1 : TField Try.prog 37 1 1 3 := ⟨by kernel_rfl, kne (k := 1) (by kernel_rfl) (by decide)⟩
instance tfl37x2 : TField Try.prog 37 2 2 3 := ⟨by kernel_rfl, kne (k := 1) (by kernel_rfl) (by decide)⟩
instance tfl37x3 : TField Try.prog 37 3 3 3 := ⟨by kernel_rfl, kne (k := 1) (by kernel_rfl) (by decide)⟩
instance tly37 : TLay Try.prog 37 [.int .i64 0, .int .i64 0, .int .i64 0, .int .i64 0] [(0, 1), (1, 1), (2, 1), (3, 1)] := ⟨by kernel_rfl⟩
instance tze37 : TZero Try.prog 37 (.agg [.int .i64 0, .int .i64 0, .int .i64 0, .int .i64 0]) := ⟨by kernel_rfl, rfl, by decide⟩
instance tsh38 : TSh Try.prog 38 .one := ⟨by kernel_rfl⟩
instance tcl38 : TCells Try.prog 38 1 := ⟨by kernel_rfl, by decide⟩
instance tze38 : TZero Try.prog 38 (.int .i64 0) := ⟨by kernel_rfl, rfl, by decide⟩
instance tsh39 : TSh Try.prog 39 .one := ⟨by kernel_rfl⟩
instance tcl39 : TCells Try.prog 39 1 := ⟨by kernel_rfl, by decide⟩
instance tsh40 : TSh Try.prog 40 .one := ⟨by kernel_rfl⟩
instance tcl40 : TCells Try.prog 40 1 := ⟨by kernel_rfl, by decide⟩
instance tze40 : TZero Try.prog 40 (.nilfunc) := ⟨by kernel_rfl, rfl, by decide⟩
instance tsh41 : TSh Try.prog 41 .one := ⟨by kernel_rfl⟩
instance tcl41 : TCells Try.prog 41 1 := ⟨by kernel_rfl, by decide⟩
instance tsh42 : TSh Try.prog 42 .one := ⟨by kernel_rfl⟩
instance tcl42 : TCells Try.prog 42 1 := ⟨by kernel_rfl, by decide⟩
instance tze42 : TZero Try.prog 42 (.nilfunc) := ⟨by kernel_rfl, rfl, by decide⟩
instance tsh43 : TSh Try.prog 43 (.many 5) := ⟨by kernel_rfl⟩
instance tcl43 : TCells Try.prog 43 5 := ⟨by kernel_rfl, by decide⟩
instance tfl43x0 : TField Try.prog 43 0 0 3 := ⟨by kernel_rfl, kne (k := 1) (by kernel_rfl) (by decide)⟩
instance tfl43x1 : TField Try.prog 43 1 1 3 := ⟨by kernel_rfl, kne (k := 1) (by kernel_rfl) (by decide)⟩
instance tfl43x2 : TField Try.prog 43 2 2 3 := ⟨by kernel_rfl, kne (k := 1) (by kernel_rfl) (by decide)⟩
instance tfl43x3 : TField Try.prog 43 3 3 9 := ⟨by kernel_rfl, kne (k := 1) (by kernel_rfl) (by decide)⟩
instance tfl43x4 : TField Try.prog 43 4 4 3 := ⟨by kernel_rfl, kne (k := 1) (by kernel_rfl) (by decide)⟩
instance tly43 : TLay Try.prog 43 [.int .i64 0, .int .i64 0, .int .i64 0, .str ByteArray.empty, .int .i64 0] [(0, 1), (1, 1), (2, 1), (3, 1), (4, 1)] := ⟨by kernel_rfl⟩
instance tze43 : TZero Try.prog 43 (.agg [.int .i64 0, .int .i64 0, .int .i64 0, .str ByteArray.empty, .int .i64 0]) := ⟨by kernel_rfl, rfl, by decide⟩
instance tsh44 : TSh Try.prog 44 (.many 5) := ⟨by kernel_rfl⟩
instance tcl44 : TCells Try.prog 44 5 := ⟨by kernel_rfl, by decide⟩
instance tfl44x0 : TField Try.prog 44 0 0 3 := ⟨by kernel_rfl, kne (k := 1) (by kernel_rfl) (by decide)⟩
instance tfl44x1 : TField Try.prog 44 1 1 3 := ⟨by kernel_rfl, kne (k := 1) (by kernel_rfl) (by decide)⟩
instance tfl44x2 : TField Try.prog 44 2 2 3 := ⟨by kernel_rfl, kne (k := 1) (by kernel_rfl) (by decide)⟩
instance tfl44x3 : TField Try.prog 44 3 3 9 := ⟨by kernel_rfl, kne (k := 1) (by kernel_rfl) (by decide)⟩
instance tfl44x4 : TField Try.prog 44 4 4 3 := ⟨by kernel_rfl, kne (k := 1) (by kernel_rfl) (by decide)⟩
instance tly44 : TLay Try.prog 44 [.int .i64 0, .int .i64 0, .int .i64 0, .str ByteArray.empty, .int .i64 0] [(0, 1), (1, 1), (2, 1), (3, 1), (4, 1)] := ⟨by kernel_rfl⟩
instance tze44 : TZero Try.prog 44 (.agg [.int .i64 0, .int .i64 0, .int .i64 0, .str ByteArray.empty, .int .i64 0]) := ⟨by kernel_rfl, rfl, by decide⟩
instance tsh45 : TSh Try.prog 45 .one := ⟨by kernel_rfl⟩
instance tcl45 : TCells Try.prog 45 1 := ⟨by kernel_rfl, by decide⟩
instance tsh46 : TSh Try.prog 46 .one := ⟨by kernel_rfl⟩
instance tcl46 : TCells Try.prog 46 1 := ⟨by kernel_rfl, by decide⟩
instance tze46 : TZero Try.prog 46 (.nilfunc) := ⟨by kernel_rfl, rfl, by decide⟩
instance tsh47 : TSh Try.prog 47 .one := ⟨by kernel_rfl⟩
instance tcl47 : TCells Try.prog 47 1 := ⟨by kernel_rfl, by decide⟩
instance tze47 : TZero Try.prog 47 (.nilfunc) := ⟨by kernel_rfl, rfl, by decide⟩
instance tsh48 : TSh Try.prog 48 (.many 2) := ⟨by kernel_rfl⟩
instance tcl48 : TCells Try.prog 48 2 := ⟨by kernel_rfl, by decide⟩
instance tfl48x0 : TField Try.prog 48 0 0 3 := ⟨by kernel_rfl, kne (k := 1) (by kernel_rfl) (by decide)⟩
instance tfl48x1 : TField Try.prog 48 1 1 3 := ⟨by kernel_rfl, kne (k := 1) (by kernel_rfl) (by decide)⟩
instance tly48 : TLay Try.prog 48 [.int .i64 0, .int .i64 0] [(0, 1), (1, 1)] := ⟨by kernel_rfl⟩
instance tze48 : TZero Try.prog 48 (.agg [.int .i64 0, .int .i64 0]) := ⟨by kernel_rfl, rfl, by decide⟩
instance tsh49 : TSh Try.prog 49 (.many 2) := ⟨by kernel_rfl⟩
instance tcl49 : TCells Try.prog 49 2 := ⟨by kernel_rfl, by decide⟩
instance tfl49x0 : TField Try.prog 49 0 0 3 := ⟨by kernel_rfl, kne (k := 1) (by kernel_rfl) (by decide)⟩
instance tfl49x1 : TField Try.prog 49 1 1 3 := ⟨by kernel_rfl, kne (k := 1) (by kernel_rfl) (by decide)⟩
instance tly49 : TLay Try.prog 49 [.int .i64 0, .int .i64 0] [(0, 1), (1, 1)] := ⟨by kernel_rfl⟩
instance tze49 : TZero Try.prog 49 (.agg [.int .i64 0, .int .i64 0]) := ⟨by kernel_rfl, rfl, by decide⟩
instance tsh50 : TSh Try.prog 50 (.many 3) := ⟨by kernel_rfl⟩
instance tcl50 : TCells Try.prog 50 3 := ⟨by kernel_rfl, by decide⟩
instance tfl50x0 : TField Try.prog 50 0 0 9 := ⟨by kernel_rfl, kne (k := 1) (by kernel_rfl) (by decide)⟩
instance tfl50x1 : TField Try.prog 50 1 1 49 := ⟨by kernel_rfl, kne (k := 2) (by kernel_rfl) (by decide)⟩
instance tly50 : TLay Try.prog 50 [.str ByteArray.empty, .int .i64 0, .int .i64 0] [(0, 1), (1, 2)] := ⟨by kernel_rfl⟩
instance tze50 : TZero Try.prog 50 (.agg [.str ByteArray.empty, .int .i64 0, .int .i64 0]) := ⟨by kernel_rfl, rfl, by decide⟩
instance tsh51 : TSh Try.prog 51 (.many 3) := ⟨by kernel_rfl⟩
instance tcl51 : TCells Try.prog 51 3 := ⟨by kernel_rfl, by decide⟩
instance tfl51x0 : TField Try.prog 51 0 0 9 := ⟨by kernel_rfl, kne (k := 1) (by kernel_rfl) (by decide)⟩
instance tfl51x1 : TField Try.prog 51 1 1 49 := ⟨by kernel_rfl, kne (k := 2) (by kernel_rfl) (by decide)⟩
instance tly51 : TLay Try.prog 51 [.str ByteArray.empty, .int .i64 0, .int .i64 0] [(0, 1), (1, 2)] := ⟨by kernel_rfl⟩
instance tze51 : TZero Try.prog 51 (.agg [.str ByteArray.empty, .int .i64 0, .int .i64 0]) := ⟨by kernel_rfl, rfl, by decide⟩
instance tsh52 : TSh Try.prog 52 .one := ⟨by kernel_rfl⟩
instance tcl52 : TCells Try.prog 52 1 := ⟨by kernel_rfl, by decide⟩
instance tze52 : TZero Try.prog 52 (.nilfunc) := ⟨by kernel_rfl, rfl, by decide⟩
instance tsh53 : TSh Try.prog 53 (.many 5) := ⟨by kernel_rfl⟩
instance tcl53 : TCells Try.prog 53 5 := ⟨by kernel_rfl, by decide⟩
instance tfl53x0 : TField Try.prog 53 0 0 9 := ⟨by kernel_rfl, kne (k := 1) (by kernel_rfl) (by decide)⟩
instance tfl53x1 : TField Try.prog 53 1 1 3 := ⟨by kernel_rfl, kne (k := 1) (by kernel_rfl) (by decide)⟩
instance tfl53x2 : TField Try.prog 53 2 2 3 := ⟨by kernel_rfl, kne (k := 1) (by kernel_rfl) (by decide)⟩
instance tfl53x3 : TField Try.prog 53 3 3 49 := ⟨by kernel_rfl, kne (k := 2) (by kernel_rfl) (by decide)⟩
instance tly53 : TLay Try.prog 53 [.str ByteArray.empty, .int .i64 0, .int .i64 0, .int .i64 0, .int .i64 0] [(0, 1), (1, 1), (2, 1), (3, 2)] := ⟨by kernel_rfl⟩
instance tze53 : TZero Try.prog 53 (.agg [.str ByteArray.empty, .int .i64 0, .int .i64 0, .int .i64 0, .int .i64 0]) := ⟨by kernel_rfl, rfl, by decide⟩
instance tsh54 : TSh Try.prog 54 (.many 5) := ⟨by kernel_rfl⟩
instance tcl54 : TCells Try.prog 54 5 := ⟨by kernel_rfl, by decide⟩
instance tfl54x0 : TField Try.prog 54 0 0 9 := ⟨by kernel_rfl, kne (k := 1) (by kernel_rfl) (by decide)⟩
instance tfl54x1 : TField Try.prog 54 1 1 3 := ⟨by kernel_rfl, kne (k := 1) (by kernel_rfl) (by decide)⟩
instance tfl54x2 : TField Try.prog 54 2 2 3 := ⟨by kernel_rfl, kne (k := 1) (by kernel_rfl) (by decide)⟩
instance tfl54x3 : TField Try.prog 54 3 3 49 := ⟨by kernel_rfl, kne (k := 2) (by kernel_rfl) (by decide)⟩
instance tly54 : TLay Try.prog 54 [.str ByteArray.empty, .int .i64 0, .int .i64 0, .int .i64 0, .int .i64 0] [(0, 1), (1, 1), (2, 1), (3, 2)] := ⟨by kernel_rfl⟩
instance tze54 : TZero Try.prog 54 (.agg [.str ByteArray.empty, .int .i64 0, .int .i64 0, .int .i64 0, .int .i64 0]) := ⟨by kernel_rfl, rfl, by decide⟩
instance tsh55 : TSh Try.prog 55 .one := ⟨by kernel_rfl⟩
instance tcl55 : TCells Try.prog 55 1 := ⟨by kernel_rfl, by decide⟩
instance tsh56 : TSh Try.prog 56 .one := ⟨by kernel_rfl⟩
instance tcl56 : TCells Try.prog 56 1 := ⟨by kernel_rfl, by decide⟩
instance tze56 : TZero Try.prog 56 (.nilfunc) := ⟨by kernel_rfl, rfl, by decide⟩
instance tsh57 : TSh Try.prog 57 (.many 6) := ⟨by kernel_rfl⟩
instance tcl57 : TCells Try.prog 57 6 := ⟨by kernel_rfl, by decide⟩
instance tfl57x0 : TField Try.prog 57 0 0 9 := ⟨by kernel_rfl, kne (k := 1) (by kernel_rfl) (by decide)⟩
instance tfl57x1 : TField Try.prog 57 1 1 3 := ⟨by kernel_rfl, kne (k := 1) (by kernel_rfl) (by decide)⟩
instance tfl57x2 : TField Try.prog 57 2 2 3 := ⟨by kernel_rfl, kne (k := 1) (by kernel_rfl) (by decide)⟩
instance tfl57x3 : TField Try.prog 57 3 3 3 := ⟨by kernel_rfl, kne (k := 1) (by kernel_rfl) (by decide)⟩
instance tfl57x4 : TField Try.prog 57 4 4 25 := ⟨by kernel_rfl, kne (k := 1) (by kernel_rfl) (by decide)⟩
instance tfl57x5 : TField Try.prog 57 5 5 3 := ⟨by kernel_rfl, kne (k := 1) (by kernel_rfl) (by decide)⟩
instance tly57 : TLay Try.prog 57 [.str ByteArray.empty, .int .i64 0, .int .i64 0, .int .i64 0, .nilsl, .int .i64 0] [(0, 1), (1, 1), (2, 1), (3, 1), (4, 1), (5, 1)] := ⟨by kernel_rfl⟩
instance tze57 : TZero Try.prog 57 (.agg [.str ByteArray.empty, .int .i64 0, .int .i64 0, .int .i64 0, .nilsl, .int .i64 0]) := ⟨by kernel_rfl, rfl, by decide⟩
instance tsh58 : TSh Try.prog 58 (.many 6) := ⟨by kernel_rfl⟩
instance tcl58 : TCells Try.prog 58 6 := ⟨by kernel_rfl, by decide⟩
instance tfl58x0 : TField Try.prog 58 0 0 9 := ⟨by kernel_rfl, kne (k := 1) (by kernel_rfl) (by decide)⟩
instance tfl58x1 : TField Try.prog 58 1 1 3 := ⟨by kernel_rfl, kne (k := 1) (by kernel_rfl) (by decide)⟩
instance tfl58x2 : TField Try.prog 58 2 2 3 := ⟨by kernel_rfl, kne (k := 1) (by kernel_rfl) (by decide)⟩
instance tfl58x3 : TField Try.prog 58 3 3 3 := ⟨by kernel_rfl, kne (k := 1) (by kernel_rfl) (by decide)⟩
instance tfl58x4 : TField Try.prog 58 4 4 25 := ⟨by kernel_rfl, kne (k := 1) (by kernel_rfl) (by decide)⟩
instance tfl58x5 : TField Try.prog 58 5 5 3 := ⟨by kernel_rfl, kne (k := 1) (by kernel_rfl) (by decide)⟩
instance tly58 : TLay Try.prog 58 [.str ByteArray.empty, .int .i64 0, .int .i64 0, .int .i64 0, .nilsl, .int .i64 0] [(0, 1), (1, 1), (2, 1), (3, 1), (4, 1), (5, 1)] := ⟨by kernel_rfl⟩
instance tze58 : TZero Try.prog 58 (.agg [.str ByteArray.empty, .int .i64 0, .int .i64 0, .int .i64 0, .nilsl, .int .i64 0]) := ⟨by kernel_rfl, rfl, by decide⟩
instance tsh59 : TSh Try.prog 59 (.many 3) := ⟨by kernel_rfl⟩
instance tcl59 : TCells Try.prog 59 3 := ⟨by kernel_rfl, by decide⟩
instance tfl59x0 : TField Try.prog 59 0 0 3 := ⟨by kernel_rfl, kne (k := 1) (by kernel_rfl) (by decide)⟩
instance tfl59x1 : TField Try.prog 59 1 1 9 := ⟨by kernel_rfl, kne (k := 1) (by kernel_rfl) (by decide)⟩
instance tfl59x2 : TField Try.prog 59 2 2 3 := ⟨by kernel_rfl, kne (k := 1) (by kernel_rfl) (by decide)⟩
instance tly59 : TLay Try.prog 59 [.int .i64 0, .str ByteArray.empty, .int .i64 0] [(0, 1), (1, 1), (2, 1)] := ⟨by kernel_rfl⟩
instance tze59 : TZero Try.prog 59 (.agg [.int .i64 0, .str ByteArray.empty, .int .i64 0]) := ⟨by kernel_rfl, rfl, by decide⟩
instance tsh60 : TSh Try.prog 60 (.many 3) := ⟨by kernel_rfl⟩
instance tcl60 : TCells Try.prog 60 3 := ⟨by kernel_rfl, by decide⟩
instance tfl60x0 : TField Try.prog 60 0 0 3 := ⟨by kernel_rfl, kne (k := 1) (by kernel_rfl) (by decide)⟩
instance tfl60x1 : TField Try.prog 60 1 1 9 := ⟨by kernel_rfl, kne (k := 1) (by kernel_rfl) (by decide)⟩
instance tfl60x2 : TField Try.prog 60 2 2 3 := ⟨by kernel_rfl, kne (k := 1) (by kernel_rfl) (by decide)⟩
instance tly60 : TLay Try.prog 60 [.int .i64 0, .str ByteArray.empty, .int .i64 0] [(0, 1), (1, 1), (2, 1)] := ⟨by kernel_rfl⟩
instance tze60 : TZero Try.prog 60 (.agg [.int .i64 0, .str ByteArray.empty, .int .i64 0]) := ⟨by kernel_rfl, rfl, by decide⟩
instance tsh61 : TSh Try.prog 61 .one := ⟨by kernel_rfl⟩
instance tcl61 : TCells Try.prog 61 1 := ⟨by kernel_rfl, by decide⟩
instance tze61 : TZero Try.prog 61 (.nilfunc) := ⟨by kernel_rfl, rfl, by decide⟩
instance tsh62 : TSh Try.prog 62 .one := ⟨by kernel_rfl⟩
instance tcl62 : TCells Try.prog 62 1 := ⟨by kernel_rfl, by decide⟩
instance tze62 : TZero Try.prog 62 (.nilfunc) := ⟨by kernel_rfl, rfl, by decide⟩
instance tsh63 : TSh Try.prog 63 .one := ⟨by kernel_rfl⟩
instance tcl63 : TCells Try.prog 63 1 := ⟨by kernel_rfl, by decide⟩
instance tze63 : TZero Try.prog 63 (.nilfunc) := ⟨by kernel_rfl, rfl, by decide⟩
instance tsh64 : TSh Try.prog 64 .one := ⟨by kernel_rfl⟩
instance tcl64 : TCells Try.prog 64 1 := ⟨by kernel_rfl, by decide⟩
instance tze64 : TZero Try.prog 64 (.nilfunc) := ⟨by kernel_rfl, rfl, by decide⟩
instance tsh65 : TSh Try.prog 65 .one := ⟨by kernel_rfl⟩
instance tcl65 : TCells Try.prog 65 1 := ⟨by kernel_rfl, by decide⟩
instance tze65 : TZero Try.prog 65 (.nilfunc) := ⟨by kernel_rfl, rfl, by decide⟩
instance tsh66 : TSh Try.prog 66 .one := ⟨by kernel_rfl⟩
instance tcl66 : TCells Try.prog 66 1 := ⟨by kernel_rfl, by decide⟩
instance tze66 : TZero Try.prog 66 (.nilfunc) := ⟨by kernel_rfl, rfl, by decide⟩
instance tsh67 : TSh Try.prog 67 .one := ⟨by kernel_rfl⟩
instance tcl67 : TCells Try.prog 67 1 := ⟨by kernel_rfl, by decide⟩
instance tze67 : TZero Try.prog 67 (.nilfunc) := ⟨by kernel_rfl, rfl, by decide⟩
instance tsh68 : TSh Try.prog 68 .one := ⟨by kernel_rfl⟩
instance tcl68 : TCells Try.prog 68 1 := ⟨by kernel_rfl, by decide⟩
instance tze68 : TZero Try.prog 68 (.nilfunc) := ⟨by kernel_rfl, rfl, by decide⟩
instance tsh69 : TSh Try.prog 69 .one := ⟨by kernel_rfl⟩
instance tcl69 : TCells Try.prog 69 1 := ⟨by kernel_rfl, by decide⟩
instance tze69 : TZero Try.prog 69 (.nilfunc) := ⟨by kernel_rfl, rfl, by decide⟩
instance tsh70 : TSh Try.prog 70 .one := ⟨by kernel_rfl⟩
instance tcl70 : TCells Try.prog 70 1 := ⟨by kernel_rfl, by decide⟩
instance tze70 : TZero Try.prog 70 (.nilfunc) := ⟨by kernel_rfl, rfl, by decide⟩
instance tsh71 : TSh Try.prog 71 .one := ⟨by kernel_rfl⟩
instance tcl71 : TCells Try.prog 71 1 := ⟨by kernel_rfl, by decide⟩
instance tze71 : TZero Try.prog 71 (.nilfunc) := ⟨by kernel_rfl, rfl, by decide⟩
instance tsh72 : TSh Try.prog 72 .one := ⟨by kernel_rfl⟩
instance tcl72 : TCells Try.prog 72 1 := ⟨by kernel_rfl, by decide⟩
instance tze72 : TZero Try.prog 72 (.nilfunc) := ⟨by kernel_rfl, rfl, by decide⟩
instance tsh73 : TSh Try.prog 73 .one := ⟨by kernel_rfl⟩
instance tcl73 : TCells Try.prog 73 1 := ⟨by kernel_rfl, by decide⟩
instance tze73 : TZero Try.prog 73 (.nilfunc) := ⟨by kernel_rfl, rfl, by decide⟩
instance tsh74 : TSh Try.prog 74 .one := ⟨by kernel_rfl⟩
instance tcl74 : TCells Try.prog 74 1 := ⟨by kernel_rfl, by decide⟩
instance tze74 : TZero Try.prog 74 (.nilfunc) := ⟨by kernel_rfl, rfl, by decide⟩
instance tsh75 : TSh Try.prog 75 .one := ⟨by kernel_rfl⟩
instance tcl75 : TCells Try.prog 75 1 := ⟨by kernel_rfl, by decide⟩
instance tze75 : TZero Try.prog 75 (.nilfunc) := ⟨by kernel_rfl, rfl, by decide⟩
instance tsh76 : TSh Try.prog 76 .one := ⟨by kernel_rfl⟩
instance tcl76 : TCells Try.prog 76 1 := ⟨by kernel_rfl, by decide⟩
instance tze76 : TZero Try.prog 76 (.nilfunc) := ⟨by kernel_rfl, rfl, by decide⟩
instance tsh77 : TSh Try.prog 77 .one := ⟨by kernel_rfl⟩
instance tcl77 : TCells Try.prog 77 1 := ⟨by kernel_rfl, by decide⟩
instance tze77 : TZero Try.prog 77 (.nilfunc) := ⟨by kernel_rfl, rfl, by decide⟩
instance tsh78 : TSh Try.prog 78 .one := ⟨by kernel_rfl⟩
instance tcl78 : TCells Try.prog 78 1 := ⟨by kernel_rfl, by decide⟩
instance tze78 : TZero Try.prog 78 (.nilfunc) := ⟨by kernel_rfl, rfl, by decide⟩
instance tsh79 : TSh Try.prog 79 .one := ⟨by kernel_rfl⟩
instance tcl79 : TCells Try.prog 79 1 := ⟨by kernel_rfl, by decide⟩
instance tze79 : TZero Try.prog 79 (.nilfunc) := ⟨by kernel_rfl, rfl, by decide⟩
instance tsh80 : TSh Try.prog 80 .one := ⟨by kernel_rfl⟩
instance tcl80 : TCells Try.prog 80 1 := ⟨by kernel_rfl, by decide⟩
instance tze80 : TZero Try.prog 80 (.nilfunc) := ⟨by kernel_rfl, rfl, by decide⟩
instance tsh81 : TSh Try.prog 81 .one := ⟨by kernel_rfl⟩
instance tcl81 : TCells Try.prog 81 1 := ⟨by kernel_rfl, by decide⟩
instance tsh82 : TSh Try.prog 82 .one := ⟨by kernel_rfl⟩
instance tcl82 : TCells Try.prog 82 1 := ⟨by kernel_rfl, by decide⟩
instance tze82 : TZero Try.prog 82 (.nilfunc) := ⟨by kernel_rfl, rfl, by decide⟩
instance tsh83 : TSh Try.prog 83 .one := ⟨by kernel_rfl⟩
instance tcl83 : TCells Try.prog 83 1 := ⟨by kernel_rfl, by decide⟩
instance tze83 : TZero Try.prog 83 (.nilfunc) := ⟨by kernel_rfl, rfl, by decide⟩
instance tsh84 : TSh Try.prog 84 .one := ⟨by kernel_rfl⟩
instance tcl84 : TCells Try.prog 84 1 := ⟨by kernel_rfl, by decide⟩
instance tze84 : TZero Try.prog 84 (.nilfunc) := ⟨by kernel_rfl, rfl, by decide⟩
instance tsh85 : TSh Try.prog 85 .one := ⟨by kernel_rfl⟩
instance tcl85 : TCells Try.prog 85 1 := ⟨by kernel_rfl, by decide⟩
instance tze85 : TZero Try.prog 85 (.nilfunc) := ⟨by kernel_rfl, rfl, by decide⟩
instance tsh86 : TSh Try.prog 86 .one := ⟨by kernel_rfl⟩
instance tcl86 : TCells Try.prog 86 1 := ⟨by kernel_rfl, by decide⟩
instance tze86 : TZero Try.prog 86 (.nilfunc) := ⟨by kernel_rfl, rfl, by decide⟩
instance tsh87 : TSh Try.prog 87 .one := ⟨by kernel_rfl⟩
instance tcl87 : TCells Try.prog 87 1 := ⟨by kernel_rfl, by decide⟩
instance tsl87 : TSlice Try.prog 87 54 5 := ⟨by kernel_rfl, by kernel_rfl, by decide⟩
instance tze87 : TZero Try.prog 87 (.nilsl) := ⟨by kernel_rfl, rfl, by decide⟩
instance tsh88 : TSh Try.prog 88 .one := ⟨by kernel_rfl⟩
instance tcl88 : TCells Try.prog 88 1 := ⟨by kernel_rfl, by decide⟩
instance tze88 : TZero Try.prog 88 (.nilfunc) := ⟨by kernel_rfl, rfl, by decide⟩
instance tsh89 : TSh Try.prog 89 .one := ⟨by kernel_rfl⟩
instance tcl89 : TCells Try.prog 89 1 := ⟨by kernel_rfl, by decide⟩
instance tze89 : TZero Try.prog 89 (.nilfunc) := ⟨by kernel_rfl, rfl, by decide⟩
instance tsh90 : TSh Try.prog 90 .one := ⟨by kernel_rfl⟩
instance tcl90 : TCells Try.prog 90 1 := ⟨by kernel_rfl, by decide⟩
instance tze90 : TZero Try.prog 90 (.nilfunc) := ⟨by kernel_rfl, rfl, by decide⟩
instance tsh91 : TSh Try.prog 91 .one := ⟨by kernel_rfl⟩
instance tcl91 : TCells Try.prog 91 1 := ⟨by kernel_rfl, by decide⟩
instance tze91 : TZero Try.prog 91 (.nilfunc) := ⟨by kernel_rfl, rfl, by decide⟩
instance tsh92 : TSh Try.prog 92 .one := ⟨by kernel_rfl⟩
instance tcl92 : TCells Try.prog 92 1 := ⟨by kernel_rfl, by decide⟩
instance tze92 : TZero Try.prog 92 (.nilfunc) := ⟨by kernel_rfl, rfl, by decide⟩
instance tsh93 : TSh Try.prog 93 .one := ⟨by kernel_rfl⟩
instance tcl93 : TCells Try.prog 93 1 := ⟨by kernel_rfl, by decide⟩
instance tze93 : TZero Try.prog 93 (.nilfunc) := ⟨by kernel_rfl, rfl, by decide⟩
instance tsh94 : TSh Try.prog 94 .one := ⟨by kernel_rfl⟩
instance tcl94 : TCells Try.prog 94 1 := ⟨by kernel_rfl, by decide⟩
instance tze94 : TZero Try.prog 94 (.nilfunc) := ⟨by kernel_rfl, rfl, by decide⟩
instance tsh95 : TSh Try.prog 95 .one := ⟨by kernel_rfl⟩
instance tcl95 : TCells Try.prog 95 1 := ⟨by kernel_rfl, by decide⟩
instance tze95 : TZero Try.prog 95 (.nilfunc) := ⟨by kernel_rfl, rfl, by decide⟩
instance tsh96 : TSh Try.prog 96 .one := ⟨by kernel_rfl⟩
instance tcl96 : TCells Try.prog 96 1 := ⟨by kernel_rfl, by decide⟩
instance tze96 : TZero Try.prog 96 (.nilfunc) := ⟨by kernel_rfl, rfl, by decide⟩
instance tsh97 : TSh Try.prog 97 .one := ⟨by kernel_rfl⟩
instance tcl97 : TCells Try.prog 97 1 := ⟨by kernel_rfl, by decide⟩
instance tze97 : TZero Try.prog 97 (.nilfunc) := ⟨by kernel_rfl, rfl, by decide⟩
instance tsh98 : TSh Try.prog 98 .one := ⟨by kernel_rfl⟩
instance tcl98 : TCells Try.prog 98 1 := ⟨by kernel_rfl, by decide⟩
instance tze98 : TZero Try.prog 98 (.nilfunc) := ⟨by kernel_rfl, rfl, by decide⟩
instance tsh99 : TSh Try.prog 99 .one := ⟨by kernel_rfl⟩
instance tcl99 : TCells Try.prog 99 1 := ⟨by kernel_rfl, by decide⟩
instance tze99 : TZero Try.prog 99 (.nilfunc) := ⟨by kernel_rfl, rfl, by decide⟩
instance tsh100 : TSh Try.prog 100 .one := ⟨by kernel_rfl⟩
instance tcl100 : TCells Try.prog 100 1 := ⟨by kernel_rfl, by decide⟩
instance tze100 : TZero Try.prog 100 (.nilfunc) := ⟨by kernel_rfl, rfl, by decide⟩
instance tsh101 : TSh Try.prog 101 .one := ⟨by kernel_rfl⟩
instance tcl101 : TCells Try.prog 101 1 := ⟨by kernel_rfl, by decide⟩
instance tze101 : TZero Try.prog 101 (.nilfunc) := ⟨by kernel_rfl, rfl, by decide⟩
instance tsh102 : TSh Try.prog 102 .one := ⟨by kernel_rfl⟩
instance tcl102 : TCells Try.prog 102 1 := ⟨by kernel_rfl, by decide⟩
instance tze102 : TZero Try.prog 102 (.nilfunc) := ⟨by kernel_rfl, rfl, by decide⟩
instance tsh103 : TSh Try.prog 103 .one := ⟨by kernel_rfl⟩
instance tcl103 : TCells Try.prog 103 1 := ⟨by kernel_rfl, by decide⟩
instance tze103 : TZero Try.prog 103 (.nilfunc) := ⟨by kernel_rfl, rfl, by decide⟩
instance tsh104 : TSh Try.prog 104 .one := ⟨by kernel_rfl⟩
instance tcl104 : TCells Try.prog 104 1 := ⟨by kernel_rfl, by decide⟩
instance tze104 : TZero Try.prog 104 (.nilfunc) := ⟨by kernel_rfl, rfl, by decide⟩
instance tsh105 : TSh Try.prog 105 .one := ⟨by kernel_rfl⟩
instance tcl105 : TCells Try.prog 105 1 := ⟨by kernel_rfl, by decide⟩
instance tze105 : TZero Try.prog 105 (.nilfunc) := ⟨by kernel_rfl, rfl, by decide⟩
instance tsh106 : TSh Try.prog 106 .one := ⟨by kernel_rfl⟩
instance tcl106 : TCells Try.prog 106 1 := ⟨by kernel_rfl, by decide⟩
instance tsh107 : TSh Try.prog 107 .one := ⟨by kernel_rfl⟩
instance tcl107 : TCells Try.prog 107 1 := ⟨by kernel_rfl, by decide⟩
instance tze107 : TZero Try.prog 107 (.nilfunc) := ⟨by kernel_rfl, rfl, by decide⟩
instance tsh108 : TSh Try.prog 108 .one := ⟨by kernel_rfl⟩
instance tcl108 : TCells Try.prog 108 1 := ⟨by kernel_rfl, by decide⟩
instance tze108 : TZero Try.prog 108 (.nilfunc) := ⟨by kernel_rfl, rfl, by decide⟩
instance tsh109 : TSh Try.prog 109 .one := ⟨by kernel_rfl⟩
instance tcl109 : TCells Try.prog 109 1 := ⟨by kernel_rfl, by decide⟩
instance tze109 : TZero Try.prog 109 (.nilfunc) := ⟨by kernel_rfl, rfl, by decide⟩
instance tsh110 : TSh Try.prog 110 .one := ⟨by kernel_rfl⟩
instance tcl110 : TCells Try.prog 110 1 := ⟨by kernel_rfl, by decide⟩
instance tze110 : TZero Try.prog 110 (.nilfunc) := ⟨by kernel_rfl, rfl, by decide⟩
instance tsh111 : TSh Try.prog 111 .one := ⟨by kernel_rfl⟩
instance tcl111 : TCells Try.prog 111 1 := ⟨by kernel_rfl, by decide⟩
instance tze111 : TZero Try.prog 111 (.nilfunc) := ⟨by kernel_rfl, rfl, by decide⟩
instance tsh112 : TSh Try.prog 112 (.many 4) := ⟨by kernel_rfl⟩
instance tcl112 : TCells Try.prog 112 4 := ⟨by kernel_rfl, by decide⟩
instance tfl112x0 : TField Try.prog 112 0 0 17 := ⟨by kernel_rfl, kne (k := 1) (by kernel_rfl) (by decide)⟩
instance tfl112x1 : TField Try.prog 112 1 1 17 := ⟨by kernel_rfl, kne (k := 1) (by kernel_rfl) (by decide)⟩
instance tfl112x2 : TField Try.prog 112 2 2 17 := ⟨by kernel_rfl, kne (k := 1) (by kernel_rfl) (by decide)⟩
instance tfl112x3 : TField Try.prog 112 3 3 9 := ⟨by kernel_rfl, kne (k := 1) (by kernel_rfl) (by decide)⟩
instance tly112 : TLay Try.prog 112 [.nilptr, .nilptr, .nilptr, .str ByteArray.empty] [(0, 1), (1, 1), (2, 1), (3, 1)] := ⟨by kernel_rfl⟩
instance tze112 : TZero Try.prog 112 (.agg [.nilptr, .nilptr, .nilptr, .str ByteArray.empty]) := ⟨by kernel_rfl, rfl, by decide⟩
instance tsh113 : TSh Try.prog 113 (.many 4) := ⟨by kernel_rfl⟩
instance tcl113 : TCells Try.prog 113 4 := ⟨by kernel_rfl, by decide⟩
instance tfl113x0 : TField Try.prog 113 0 0 17 := ⟨by kernel_rfl, kne (k := 1) (by kernel_rfl) (by decide)⟩
instance tfl113x1 : TField Try.prog 113 1 1 17 := ⟨by kernel_rfl, kne (k := 1) (by kernel_rfl) (by decide)⟩
instance tfl113x2 : TField Try.prog 113 2 2 17 := ⟨by kernel_rfl, kne (k := 1) (by kernel_rfl) (by decide)⟩
instance tfl113x3 : TField Try.prog 113 3 3 9 := ⟨by kernel_rfl, kne (k := 1) (by kernel_rfl) (by decide)⟩
instance tly113 : TLay Try.prog 113 [.nilptr, .nilptr, .nilptr, .str ByteArray.empty] [(0, 1), (1, 1), (2, 1), (3, 1)] := ⟨by kernel_rfl⟩
instance tze113 : TZero Try.prog 113 (.agg [.nilptr, .nilptr, .nilptr, .str ByteArray.empty]) := ⟨by kernel_rfl, rfl, by decide⟩
instance tsh117 : TSh Try.prog 117 .one := ⟨by kernel_rfl⟩
instance tcl117 : TCells Try.prog 117 1 := ⟨by kernel_rfl, by decide⟩
instance tze117 : TZero Try.prog 117 (.nilfunc) := ⟨by kernel_rfl, rfl, by decide⟩
instance tsh118 : TSh Try.prog 118 .one := ⟨by kernel_rfl⟩
instance tcl118 : TCells Try.prog 118 1 := ⟨by kernel_rfl, by decide⟩
instance tze118 : TZero Try.prog 118 (.int .u32 0) := ⟨by kernel_rfl, rfl, by decide⟩
instance tsh119 : TSh Try.prog 119 .one := ⟨by kernel_rfl⟩
instance tcl119 : TCells Try.prog 119 1 := ⟨by kernel_rfl, by decide⟩
instance tze119 : TZero Try.prog 119 (.int .u8 0) := ⟨by kernel_rfl, rfl, by decide⟩
instance tsh120 : TSh Try.prog 120 .one := ⟨by kernel_rfl⟩
instance tcl120 : TCells Try.prog 120 1 := ⟨by kernel_rfl, by decide⟩
instance tze120 : TZero Try.prog 120 (.int .u8 0) := ⟨by kernel_rfl, rfl, by decide⟩
instance tsh121 : TSh Try.prog 121 .one := ⟨by kernel_rfl⟩
instance tcl121 : TCells Try.prog 121 1 := ⟨by kernel_rfl, by decide⟩
instance tze121 : TZero Try.prog 121 (.nilfunc) := ⟨by kernel_rfl, rfl, by decide⟩
instance tsh122 : TSh Try.prog 122 .one := ⟨by kernel_rfl⟩
instance tcl122 : TCells Try.prog 122 1 := ⟨by kernel_rfl, by decide⟩
instance tze122 : TZero Try.prog 122 (.nilptr) := ⟨by kernel_rfl, rfl, by decide⟩
instance tsh123 : TSh Try.prog 123 .one := ⟨by kernel_rfl⟩
instance tcl123 : TCells Try.prog 123 1 := ⟨by kernel_rfl, by decide⟩
instance tze123 : TZero Try.prog 123 (.int .i32 0) := ⟨by kernel_rfl, rfl, by decide⟩
instance tsh124 : TSh Try.prog 124 .one := ⟨by kernel_rfl⟩
instance tcl124 : TCells Try.prog 124 1 := ⟨by kernel_rfl, by decide⟩
instance tze124 : TZero Try.prog 124 (.int .i32 0) := ⟨by kernel_rfl, rfl, by decide⟩
instance tsh125 : TSh Try.prog 125 (.many 11) := ⟨by kernel_rfl⟩
instance tcl125 : TCells Try.prog 125 11 := ⟨by kernel_rfl, by decide⟩
instance tfl125x0 : TField Try.prog 125 0 0 12 := ⟨by kernel_rfl, kne (k := 1) (by kernel_rfl) (by decide)⟩
instance tfl125x1 : TField Try.prog 125 1 1 12 := ⟨by kernel_rfl, kne (k := 1) (by kernel_rfl) (by decide)⟩
instance tfl125x2 : TField Try.prog 125 2 2 118 := ⟨by kernel_rfl, kne (k := 1) (by kernel_rfl) (by decide)⟩
instance tfl125x3 : TField Try.prog 125 3 3 119 := ⟨by kernel_rfl, kne (k := 1) (by kernel_rfl) (by decide)⟩
instance tfl125x4 : TField Try.prog 125 4 4 5 := ⟨by kernel_rfl, kne (k := 1) (by kernel_rfl) (by decide)⟩
instance tfl125x5 : TField Try.prog 125 5 5 5 := ⟨by kernel_rfl, kne (k := 1) (by kernel_rfl) (by decide)⟩
instance tfl125x6 : TField Try.prog 125 6 6 120 := ⟨by kernel_rfl, kne (k := 1) (by kernel_rfl) (by decide)⟩
instance tfl125x7 : TField Try.prog 125 7 7 121 := ⟨by kernel_rfl, kne (k := 1) (by kernel_rfl) (by decide)⟩
instance tfl125x8 : TField Try.prog 125 8 8 122 := ⟨by kernel_rfl, kne (k := 1) (by kernel_rfl) (by decide)⟩
instance tfl125x9 : TField Try.prog 125 9 9 123 := ⟨by kernel_rfl, kne (k := 1) (by kernel_rfl) (by decide)⟩
instance tfl125x10 : TField Try.prog 125 10 10 124 := ⟨by kernel_rfl, kne (k := 1) (by kernel_rfl) (by decide)⟩
instance tly125 : TLay Try.prog 125 [.int .u64 0, .int .u64 0, .int .u32 0, .int .u8 0, .int .u8 0, .int .u8 0, .int .u8 0, .nilfunc, .nilptr, .int .i32 0, .int .i32 0] [(0, 1), (1, 1), (2, 1), (3, 1), (4, 1), (5, 1), (6, 1), (7, 1), (8, 1), (9, 1), (10, 1)] := ⟨by kernel_rfl⟩
instance tze125 : TZero Try.prog 125 (.agg [.int .u64 0, .int .u64 0, .int .u32 0, .int .u8 0, .int .u8 0, .int .u8 0, .int .u8 0, .nilfunc, .nilptr, .int .i32 0, .int .i32 0]) := ⟨by kernel_rfl, rfl, by decide⟩
instance tsh126 : TSh Try.prog 126 (.many 11) := ⟨by kernel_rfl⟩
instance tcl126 : TCells Try.prog 126 11 := ⟨by kernel_rfl, by decide⟩
instance tfl126x0 : TField Try.prog 126 0 0 12 := ⟨by kernel_rfl, kne (k := 1) (by kernel_rfl) (by decide)⟩
instance tfl126x1 : TField Try.prog 126 1 1 12 := ⟨by kernel_rfl, kne (k := 1) (by kernel_rfl) (by decide)⟩
instance tfl126x2 : TField Try.prog 126 2 2 118 := ⟨by kernel_rfl, kne (k := 1) (by kernel_rfl) (by decide)⟩
instance tfl126x3 : TField Try.prog 126 3 3 119 := ⟨by kernel_rfl, kne (k := 1) (by kernel_rfl) (by decide)⟩
instance tfl126x4 : TField Try.prog 126 4 4 5 := ⟨by kernel_rfl, kne (k := 1) (by kernel_rfl) (by decide)⟩
instance tfl126x5 : TField Try.prog 126 5 5 5 := ⟨by kernel_rfl, kne (k := 1) (by kernel_rfl) (by decide)⟩
instance tfl126x6 : TField Try.prog 126 6 6 120 := ⟨by kernel_rfl, kne (k := 1) (by kernel_rfl) (by decide)⟩
instance tfl126x7 : TField Try.prog 126 7 7 121 := ⟨by kernel_rfl, kne (k := 1) (by kernel_rfl) (by decide)⟩
instance tfl126x8 : TField Try.prog 126 8 8 122 := ⟨by kernel_rfl, kne (k := 1) (by kernel_rfl) (by decide)⟩
instance tfl126x9 : TField Try.prog 126 9 9 123 := ⟨by kernel_rfl, kne (k := 1) (by kernel_rfl) (by decide)⟩
instance tfl126x10 : TField Try.prog 126 10 10 124 := ⟨by kernel_rfl, kne (k := 1) (by kernel_rfl) (by decide)⟩
instance tly126 : TLay Try.prog 126 [.int .u64 0, .int .u64 0, .int .u32 0, .int .u8 0, .int .u8 0, .int .u8 0, .int .u8 0, .nilfunc, .nilptr, .int .i32 0, .int .i32 0] [(0, 1), (1, 1), (2, 1), (3, 1), (4, 1), (5, 1), (6, 1), (7, 1), (8, 1), (9, 1), (10, 1)] := ⟨by kernel_rfl⟩
instance tze126 : TZero Try.prog 126 (.agg [.int .u64 0, .int .u64 0, .int .u32 0, .int .u8 0, .int .u8 0, .int .u8 0, .int .u8 0, .nilfunc, .nilptr, .int .i32 0, .int .i32 0]) := ⟨by kernel_rfl, rfl, by decide⟩
instance tsh127 : TSh Try.prog 127 .one := ⟨by kernel_rfl⟩
instance tcl127 : TCells Try.prog 127 1 := ⟨by kernel_rfl, by decide⟩
instance tze127 : TZero Try.prog 127 (.nilptr) := ⟨by kernel_rfl, rfl, by decide⟩
instance teq37 : TEq Try.prog 37 [.i, .i, .i, .i] := ⟨by kernel_rfl⟩
instance teq44 : TEq Try.prog 44 [.i, .i, .i, .s, .i] := ⟨by kernel_rfl⟩
instance teq49 : TEq Try.prog 49 [.i, .i] := ⟨by kernel_rfl⟩
instance teq60 : TEq Try.prog 60 [.i, .s, .i] := ⟨by kernel_rfl⟩
instance tar114 : TArr Try.prog 114 0 1 := ⟨16, by kernel_rfl, by kernel_rfl, by decide⟩
instance tae114 : TArrE Try.prog 114 0 16 1 := ⟨by kernel_rfl, by kernel_rfl, by decide⟩
instance tly114 : TLay Try.prog 114 [] [] := ⟨by kernel_rfl⟩
instance tmpS : TMap Try.prog 106 .string (.bool false) := ⟨⟨9, 4, by kernel_rfl, by kernel_rfl, by kernel_rfl⟩⟩
instance tmpI : TMap Try.prog 81 (.int .i64) (.bool false) := ⟨⟨3, 4, by kernel_rfl, by kernel_rfl, by kernel_rfl⟩⟩
end Go.Pv.Tf

open Go Go.Proofs Go.Pv
set_option maxHeartbeats 1000000
set_option maxRecDepth 100000
set_option linter.unusedSimpArgs false
set_option linter.unusedVariables false
namespace Go.Pv.Soil

theorem mix : Try.prog.follows .mixedOrders = true := by decide +kernel

theorem c38 (n lo hi : Int) : Contract Try.prog 19 [.int .i64 n, .int .i64 lo, .int .i64 hi] (.ret (.bool (decide (lo ≤ n ∧ n ≤ hi)))) := by
  refine contract_of mix Try.func19 rfl rfl (by rw [Try.ntmps19]; exact Nat.le_of_ble_eq_true rfl) ?_; rw [Try.results19, Try.ntmps19]; simp only [argsE, Nat.reduceAdd]
  repeat' first
           | (with_reducible apply go_op)
           | (with_reducible apply go_next)
           | ((with_reducible (show evOp _ _ _ _ _ _)); first
             | ((with_reducible (show evOp _ (.move _) _ _ _ _)) ; first | ((with_reducible apply go_mv_int); rfl; rfl) | ((with_reducible apply go_mv_bool); rfl; rfl))
             | ((with_reducible apply go_as))
             | (((with_reducible apply go_cmp); rfl; rfl; rfl; rfl))
             | (((with_reducible apply go_pick); rfl; rfl; rfl)))
           | ((with_reducible (show evOps _ _ _ _ _ _)); first
             | (with_reducible apply go_nil)
             | ((with_reducible apply go_run); rfl; rfl)
             | ((with_reducible apply go_pass); rfl; rfl; rfl)
             | (((with_reducible apply go_guard); rfl) <;> (intro h; simp only [h, Bool.not_true, Bool.not_false]; (try with_reducible (refine ⟨rfl, ?_⟩)); try simp only [decide_eq_true_eq, decide_eq_false_iff_not, Bool.not_eq_true', Bool.not_eq_false', Bool.not_true, Bool.not_false] at h; try exact absurd trivial h)))
           | ((with_reducible (show evG _ _ _ _ _)); first
             | (with_reducible apply go_seq)
             | (with_reducible apply go_region)
             | (with_reducible apply go_ret))
           | (with_reducible apply go_kseq)
           | ((with_reducible apply end_bool); rfl)
  all_goals (simp at *; try omega)
theorem c108 (n lo hi : Int) : Contract Try.prog 45 [.int .i64 n, .int .i64 lo, .int .i64 hi] (.ret (.bool (decide (lo ≤ n ∧ n ≤ hi)))) := by
  refine contract_of mix Try.func45 rfl rfl (by rw [Try.ntmps45]; exact Nat.le_of_ble_eq_true rfl) ?_; rw [Try.results45, Try.ntmps45]; simp only [argsE, Nat.reduceAdd]
  repeat' first
           | (with_reducible apply go_op)
           | (with_reducible apply go_next)
           | ((with_reducible (show evOp _ _ _ _ _ _)); first
             | ((with_reducible (show evOp _ (.move _) _ _ _ _)) ; first | ((with_reducible apply go_mv_int); rfl; rfl) | ((with_reducible apply go_mv_bool); rfl; rfl))
             | ((with_reducible apply go_as))
             | (((with_reducible apply go_cmp); rfl; rfl; rfl; rfl))
             | (((with_reducible apply go_pick); rfl; rfl; rfl)))
           | ((with_reducible (show evOps _ _ _ _ _ _)); first
             | (with_reducible apply go_nil)
             | ((with_reducible apply go_run); rfl; rfl)
             | ((with_reducible apply go_pass); rfl; rfl; rfl)
             | (((with_reducible apply go_guard); rfl) <;> (intro h; simp only [h, Bool.not_true, Bool.not_false]; (try with_reducible (refine ⟨rfl, ?_⟩)); try simp only [decide_eq_true_eq, decide_eq_false_iff_not, Bool.not_eq_true', Bool.not_eq_false', Bool.not_true, Bool.not_false] at h; try exact absurd trivial h)))
           | ((with_reducible (show evG _ _ _ _ _)); first
             | (with_reducible apply go_seq)
             | (with_reducible apply go_region)
             | (with_reducible apply go_ret))
           | (with_reducible apply go_kseq)
           | ((with_reducible apply end_bool); rfl)
  all_goals (simp at *; try omega)

def letter (c : Int) : Bool := decide ((97 ≤ c ∧ c ≤ 122) ∨ (65 ≤ c ∧ c ≤ 90))
def chOK (i : Nat) (c : Int) : Bool := letter c || (decide (i ≠ 0) && decide (c = 45 ∨ (48 ≤ c ∧ c ≤ 57)))
def nameOK (s : ByteArray) : Bool := decide (1 ≤ s.size ∧ s.size ≤ 12) && (List.range s.size).all fun i => chOK i (byteAt s i)

theorem nameOK_size {s : ByteArray} (h : s.size < 1 ∨ 12 < s.size) : false = nameOK s := by
  have : decide (1 ≤ s.size ∧ s.size ≤ 12) = false := by simp; omega
  simp only [nameOK, this, Bool.false_and]

theorem nameOK_not {s : ByteArray} {i : Nat} (hi : i < s.size) (h : chOK i (byteAt s i) = false) : false = nameOK s := by
  have : ((List.range s.size).all fun i => chOK i (byteAt s i)) = false := by
    rw [List.all_eq_false]
    exact ⟨i, by simpa using hi, by simp [h]⟩
  simp only [nameOK, this, Bool.and_false]

theorem nameOK_yes {s : ByteArray} (h1 : ¬ s.size < 1) (h2 : ¬ 12 < s.size) (h : ∀ j, j < s.size → chOK j (byteAt s j) = true) : true = nameOK s := by
  have e : ((List.range s.size).all fun i => chOK i (byteAt s i)) = true := by
    rw [List.all_eq_true]
    exact fun j hj => h j (by simpa using hj)
  have e2 : decide (1 ≤ s.size ∧ s.size ≤ 12) = true := by simp; omega
  simp only [nameOK, e, e2, Bool.and_true]

theorem chars_step {s : ByteArray} {i : Nat} (hC : ∀ j, j < i → chOK j (byteAt s j) = true) (h : chOK i (byteAt s i) = true) : ∀ j, j < i + 1 → chOK j (byteAt s j) = true := fun j hj => by
  rcases Nat.lt_succ_iff_lt_or_eq.1 hj with h' | rfl
  · exact hC j h'
  · exact h

theorem chOK_yes {i : Nat} {c : Int} (h : ((97 ≤ c ∧ c ≤ 122) ∨ (65 ≤ c ∧ c ≤ 90)) ∨ (i ≠ 0 ∧ (c = 45 ∨ (48 ≤ c ∧ c ≤ 57)))) : chOK i c = true := by
  simpa only [chOK, letter, Bool.or_eq_true, Bool.and_eq_true, decide_eq_true_eq] using h
theorem chOK_no {i : Nat} {c : Int} (h : ¬ (((97 ≤ c ∧ c ≤ 122) ∨ (65 ≤ c ∧ c ≤ 90)) ∨ (i ≠ 0 ∧ (c = 45 ∨ (48 ≤ c ∧ c ≤ 57))))) : chOK i c = false := by
  rw [← Bool.not_eq_true]
  simpa only [chOK, letter, Bool.or_eq_true, Bool.and_eq_true, decide_eq_true_eq] using h

theorem c137 (s : ByteArray) : Contract Try.prog 69 [.str s] (.ret (.bool (nameOK s))) := by
  refine contract_of mix Try.func69 rfl rfl (by rw [Try.ntmps69]; exact Nat.le_of_ble_eq_true rfl) ?_; rw [Try.results69, Try.ntmps69]; simp only [argsE, Nat.reduceAdd]
  repeat' first
           | (with_reducible apply go_op)
           | (with_reducible apply go_next)
           | ((with_reducible (show evOp _ _ _ _ _ _)); first
             | ((with_reducible (show evOp _ (.move _) _ _ _ _)) ; first | ((with_reducible apply go_mv_int); rfl; rfl) | ((with_reducible apply go_mv_bool); rfl; rfl) | ((with_reducible apply go_mv_str); rfl; rfl))
             | ((with_reducible apply go_as))
             | (((with_reducible apply go_cmp); rfl; rfl; rfl; rfl))
             | (((with_reducible apply go_len_str); rfl; rfl))
             | (((with_reducible apply go_pick); rfl; rfl; rfl)))
           | ((with_reducible (show evOps _ _ _ _ _ _)); first
             | (with_reducible apply go_nil)
             | ((with_reducible apply go_run); rfl; rfl)
             | ((with_reducible apply go_pass); rfl; rfl; rfl)
             | (((with_reducible apply go_guard); rfl) <;> (intro h; simp only [h, Bool.not_true, Bool.not_false]; (try with_reducible (refine ⟨rfl, ?_⟩)); try simp only [decide_eq_true_eq, decide_eq_false_iff_not, Bool.not_eq_true', Bool.not_eq_false', Bool.not_true, Bool.not_false] at h; try exact absurd trivial h)))
           | ((with_reducible (show evG _ _ _ _ _)); first
             | (with_reducible apply go_seq)
             | (with_reducible apply go_region)
             | ((with_reducible apply go_cond_t); rfl; rfl)
             | (((with_reducible apply go_cond); rfl) <;> (intro h; simp only [h]; try simp only [decide_eq_true_eq, decide_eq_false_iff_not, Bool.not_eq_true', Bool.not_eq_false', Bool.not_true, Bool.not_false] at h; try exact absurd trivial h))
             | (with_reducible apply go_ret)
             | (with_reducible apply go_skipc)
             | (with_reducible apply go_block))
           | (with_reducible apply go_kseq)
           | (with_reducible apply go_kseq_ret)
           | ((with_reducible apply end_bool); rfl)
  · exact nameOK_size (by omega)
  rotate_left
  · exact nameOK_size (by omega)
  · refine go_count s.size (fun i => ⟨[(16, .int .i64 i), (15, .int .i64 s.size), (0, .str s)], [], 0, 55⟩) (fun i => ∀ j, j < i → chOK j (byteAt s j) = true) (entails_eq (k := 0) (ns := []) (ks := [16, 15, 0]) [] rfl (by simp) rfl) (by omega) ?_
    intro i hi hC
    repeat' first
           | (with_reducible apply go_op)
           | (with_reducible apply go_next)
           | ((with_reducible (show evOp _ _ _ _ _ _)); first
             | ((with_reducible (show evOp _ (.move _) _ _ _ _)) ; first | ((with_reducible apply go_mv_int); rfl; rfl) | ((with_reducible apply go_mv_bool); rfl; rfl) | ((with_reducible apply go_mv_str); rfl; rfl))
             | ((with_reducible apply go_as))
             | ((with_reducible (show evOp _ (.binOp _ _ _ _ _) _ _ _ _)) ; first | ((with_reducible apply go_cmp); rfl; rfl; rfl; rfl) | ((with_reducible apply go_add); rfl; rfl; rfl; omega))
             | (((with_reducible apply go_index_str); rfl; rfl; rfl; omega))
             | (((with_reducible apply go_not); rfl; rfl))
             | (((with_reducible apply go_pick); rfl; rfl; rfl)))
           | ((with_reducible (show evOps _ _ _ _ _ _)); first
             | (with_reducible apply go_nil)
             | ((with_reducible apply go_run); rfl; rfl)
             | ((with_reducible apply go_pass); rfl; rfl; rfl)
             | ((with_reducible apply go_skip); rfl; rfl)
             | (((with_reducible apply go_guard); rfl) <;> (intro h; simp only [h, Bool.not_true, Bool.not_false]; (try with_reducible (refine ⟨rfl, ?_⟩)); try simp only [decide_eq_true_eq, decide_eq_false_iff_not, Bool.not_eq_true', Bool.not_eq_false', Bool.not_true, Bool.not_false] at h; try exact absurd trivial h)))
           | ((with_reducible (show evG _ _ _ _ _)); first
             | (with_reducible apply go_seq)
             | (with_reducible apply go_region)
             | ((with_reducible apply go_cond_t); rfl; rfl)
             | ((with_reducible apply go_cond_f); rfl; rfl)
             | (((with_reducible apply go_cond); rfl) <;> (intro h; simp only [h]; try simp only [decide_eq_true_eq, decide_eq_false_iff_not, Bool.not_eq_true', Bool.not_eq_false', Bool.not_true, Bool.not_false] at h; try exact absurd trivial h))
             | (with_reducible apply go_ret)
             | (with_reducible apply go_skipc)
             | (with_reducible apply go_block)
             | (with_reducible apply go_exit))
           | (with_reducible apply go_kseq)
           | (with_reducible apply go_kseq_ret)
           | (with_reducible apply go_kblock)
           | (with_reducible apply go_kblock_ret)
           | (with_reducible apply go_kblock_exit)
           | (with_reducible apply go_kseq_exit)
           | ((with_reducible apply end_bool); rfl)
    all_goals try simp only [Int.toNat_natCast] at *
    all_goals first
      | exact nameOK_not (i := i) (by omega) (chOK_no (by omega))
      | exact ⟨by omega, chars_step hC (chOK_yes (by omega)), entails_eq (k := 0) (ns := []) (ks := [16, 15, 0]) [] rfl (by simp) rfl⟩
      | exact nameOK_yes (by omega) (by omega) fun j hj => hC j (by omega)
theorem c83 (s : ByteArray) : Contract Try.prog 37 [.str s] (.ret (.bool (nameOK s))) := by
  refine contract_of mix Try.func37 rfl rfl (by rw [Try.ntmps37]; exact Nat.le_of_ble_eq_true rfl) ?_; rw [Try.results37, Try.ntmps37]; simp only [argsE, Nat.reduceAdd]
  repeat' first
           | (with_reducible apply go_op)
           | (with_reducible apply go_next)
           | ((with_reducible (show evOp _ _ _ _ _ _)); first
             | ((with_reducible (show evOp _ (.move _) _ _ _ _)) ; first | ((with_reducible apply go_mv_int); rfl; rfl) | ((with_reducible apply go_mv_bool); rfl; rfl) | ((with_reducible apply go_mv_str); rfl; rfl))
             | ((with_reducible apply go_as))
             | (((with_reducible apply go_cmp); rfl; rfl; rfl; rfl))
             | (((with_reducible apply go_len_str); rfl; rfl))
             | (((with_reducible apply go_pick); rfl; rfl; rfl)))
           | ((with_reducible (show evOps _ _ _ _ _ _)); first
             | (with_reducible apply go_nil)
             | ((with_reducible apply go_run); rfl; rfl)
             | ((with_reducible apply go_pass); rfl; rfl; rfl)
             | (((with_reducible apply go_guard); rfl) <;> (intro h; simp only [h, Bool.not_true, Bool.not_false]; (try with_reducible (refine ⟨rfl, ?_⟩)); try simp only [decide_eq_true_eq, decide_eq_false_iff_not, Bool.not_eq_true', Bool.not_eq_false', Bool.not_true, Bool.not_false] at h; try exact absurd trivial h)))
           | ((with_reducible (show evG _ _ _ _ _)); first
             | (with_reducible apply go_seq)
             | (with_reducible apply go_region)
             | ((with_reducible apply go_cond_t); rfl; rfl)
             | (((with_reducible apply go_cond); rfl) <;> (intro h; simp only [h]; try simp only [decide_eq_true_eq, decide_eq_false_iff_not, Bool.not_eq_true', Bool.not_eq_false', Bool.not_true, Bool.not_false] at h; try exact absurd trivial h))
             | (with_reducible apply go_ret)
             | (with_reducible apply go_skipc)
             | (with_reducible apply go_block))
           | (with_reducible apply go_kseq)
           | (with_reducible apply go_kseq_ret)
           | ((with_reducible apply end_bool); rfl)
  · exact nameOK_size (by omega)
  rotate_left
  · exact nameOK_size (by omega)
  · refine go_count s.size (fun i => ⟨[(3, .int .i64 i), (0, .str s)], [], 0, 55⟩) (fun i => ∀ j, j < i → chOK j (byteAt s j) = true) (entails_eq (k := 0) (ns := []) (ks := [3, 0]) [] rfl (by simp) rfl) (by omega) ?_
    intro i hi hC
    repeat' first
           | (with_reducible apply go_op)
           | (with_reducible apply go_next)
           | ((with_reducible (show evOp _ _ _ _ _ _)); first
             | ((with_reducible (show evOp _ (.move _) _ _ _ _)) ; first | ((with_reducible apply go_mv_int); rfl; rfl) | ((with_reducible apply go_mv_bool); rfl; rfl) | ((with_reducible apply go_mv_str); rfl; rfl))
             | ((with_reducible apply go_as))
             | ((with_reducible (show evOp _ (.binOp _ _ _ _ _) _ _ _ _)) ; first | ((with_reducible apply go_cmp); rfl; rfl; rfl; rfl) | ((with_reducible apply go_add); rfl; rfl; rfl; omega))
             | (((with_reducible apply go_len_str); rfl; rfl))
             | (((with_reducible apply go_index_str); rfl; rfl; rfl; omega))
             | (((with_reducible apply go_not); rfl; rfl))
             | (((with_reducible apply go_pick); rfl; rfl; rfl)))
           | ((with_reducible (show evOps _ _ _ _ _ _)); first
             | (with_reducible apply go_nil)
             | ((with_reducible apply go_run); rfl; rfl)
             | ((with_reducible apply go_pass); rfl; rfl; rfl)
             | ((with_reducible apply go_skip); rfl; rfl)
             | (((with_reducible apply go_guard); rfl) <;> (intro h; simp only [h, Bool.not_true, Bool.not_false]; (try with_reducible (refine ⟨rfl, ?_⟩)); try simp only [decide_eq_true_eq, decide_eq_false_iff_not, Bool.not_eq_true', Bool.not_eq_false', Bool.not_true, Bool.not_false] at h; try exact absurd trivial h)))
           | ((with_reducible (show evG _ _ _ _ _)); first
             | (with_reducible apply go_seq)
             | (with_reducible apply go_region)
             | ((with_reducible apply go_cond_t); rfl; rfl)
             | ((with_reducible apply go_cond_f); rfl; rfl)
             | (((with_reducible apply go_cond); rfl) <;> (intro h; simp only [h]; try simp only [decide_eq_true_eq, decide_eq_false_iff_not, Bool.not_eq_true', Bool.not_eq_false', Bool.not_true, Bool.not_false] at h; try exact absurd trivial h))
             | (with_reducible apply go_ret)
             | (with_reducible apply go_skipc)
             | (with_reducible apply go_block)
             | (with_reducible apply go_exit))
           | (with_reducible apply go_kseq)
           | (with_reducible apply go_kseq_ret)
           | (with_reducible apply go_kblock)
           | (with_reducible apply go_kblock_ret)
           | (with_reducible apply go_kblock_exit)
           | (with_reducible apply go_kseq_exit)
           | ((with_reducible apply end_bool); rfl)
    all_goals try simp only [Int.toNat_natCast] at *
    all_goals first
      | exact nameOK_not (i := i) (by omega) (chOK_no (by omega))
      | exact ⟨by omega, chars_step hC (chOK_yes (by omega)), entails_eq (k := 0) (ns := []) (ks := [3, 0]) [] rfl (by simp) rfl⟩
      | exact nameOK_yes (by omega) (by omega) fun j hj => hC j (by omega)
end Go.Pv.Soil

open Go Go.Proofs Go.Pv
set_option maxHeartbeats 4000000
set_option maxRecDepth 100000
set_option linter.unusedSimpArgs false
set_option linter.unusedVariables false
namespace Go.Pv.Soil
instance tintK : TInt Try.prog 3 .i64 := ⟨by kernel_rfl⟩
instance tintKB : TInt Try.prog 5 .u8 := ⟨by kernel_rfl⟩
structure Pit where
  name : ByteArray
  area : Int
  low : Int
  high : Int
  classes : List Int
  price : Int
structure Bulk where
  soil : ByteArray
  num : Int
  den : Int
structure Dep where
  batch : Int
  pit : ByteArray
  vol : Int
structure Batch where
  number : Int
  bed : Int
  over : Int
  soil : ByteArray
  cls : Int
structure Yard where
  pits : List Pit
  bulk : List Bulk
  deps : List Dep
  carry : List Int
def encI (n : Int) : List D := [.int .i64 n]
def encPit (p : Pit) : List D := [.str p.name, .int .i64 p.area, .int .i64 p.low, .int .i64 p.high, .sl (p.classes.map encI), .int .i64 p.price]
def encBulk (b : Bulk) : List D := [.str b.soil, .int .i64 b.num, .int .i64 b.den]
def encDep (d : Dep) : List D := [.int .i64 d.batch, .str d.pit, .int .i64 d.vol]
def encBatch (b : Batch) : List D := [.int .i64 b.number, .int .i64 b.bed, .int .i64 b.over, .str b.soil, .int .i64 b.cls]
def encYard (s : Yard) : List D := [.sl (s.pits.map encPit), .sl (s.bulk.map encBulk), .sl (s.deps.map encDep), .sl (s.carry.map encI)]
theorem scalI : ScalF encI 1 := fun _ => ⟨rfl, rfl⟩
theorem scalBulk : ScalF encBulk 3 := fun _ => ⟨rfl, rfl⟩
theorem scalDep : ScalF encDep 3 := fun _ => ⟨rfl, rfl⟩
theorem scalBatch : ScalF encBatch 5 := fun _ => ⟨rfl, rfl⟩
theorem liteI : LiteF encI 1 := fun _ => ⟨rfl, rfl, rfl⟩
theorem litePit : LiteF encPit 6 := fun _ => ⟨rfl, rfl, rfl⟩
theorem liteBulk : LiteF encBulk 3 := fun _ => ⟨rfl, rfl, rfl⟩
theorem liteDep : LiteF encDep 3 := fun _ => ⟨rfl, rfl, rfl⟩
theorem byteAt_bd (s : ByteArray) (i : Nat) : 0 ≤ byteAt s i ∧ byteAt s i ≤ 255 := by
  unfold byteAt
  have := (s[i]?.getD 0).toNat_lt
  omega
theorem k_letter (c : Int) : Contract Try.prog 72 [.int .u8 c] (.ret (.bool (letter c))) := by
  refine contract_of mix Try.func72 rfl rfl (by rw [Try.ntmps72]; exact Nat.le_of_ble_eq_true rfl) ?_; rw [Try.results72, Try.ntmps72]; simp only [argsE, Nat.reduceAdd]
  repeat' first
           | (with_reducible apply go_op)
           | (with_reducible apply go_next)
           | ((with_reducible (show evOp _ _ _ _ _ _)); first
             | ((with_reducible (show evOp _ (.move _) _ _ _ _)) ; first | ((with_reducible apply go_mv_int); rfl; rfl) | ((with_reducible apply go_mv_bool); rfl; rfl))
             | ((with_reducible apply go_as))
             | (((with_reducible apply go_cmp); rfl; rfl; rfl; rfl))
             | (((with_reducible apply go_pick); rfl; rfl; rfl)))
           | ((with_reducible (show evOps _ _ _ _ _ _)); first
             | (with_reducible apply go_nil)
             | ((with_reducible apply go_run); rfl; rfl)
             | ((with_reducible apply go_pass); rfl; rfl; rfl)
             | ((with_reducible apply go_skip); rfl; rfl)
             | (((with_reducible apply go_guard); rfl) <;> (intro h; simp only [h, Bool.not_true, Bool.not_false]; (try with_reducible (refine ⟨rfl, ?_⟩)); try simp only [decide_eq_true_eq, decide_eq_false_iff_not, Bool.not_eq_true', Bool.not_eq_false', Bool.not_true, Bool.not_false] at h; try exact absurd trivial h)))
           | ((with_reducible (show evG _ _ _ _ _)); first
             | (with_reducible apply go_seq)
             | (with_reducible apply go_region)
             | (with_reducible apply go_ret))
           | (with_reducible apply go_kseq)
           | ((with_reducible apply end_bool); rfl)
  all_goals (unfold letter; first | (symm; apply decide_eq_true; omega) | (symm; apply decide_eq_false; omega) | (apply decide_eq_decide.2; omega) | trace_state)
theorem k_within (n lo hi : Int) : Contract Try.prog 59 [.int .i64 n, .int .i64 lo, .int .i64 hi] (.ret (.bool (decide (lo ≤ n ∧ n ≤ hi)))) := by
  refine contract_of mix Try.func59 rfl rfl (by rw [Try.ntmps59]; exact Nat.le_of_ble_eq_true rfl) ?_; rw [Try.results59, Try.ntmps59]; simp only [argsE, Nat.reduceAdd]
  repeat' first
           | (with_reducible apply go_op)
           | (with_reducible apply go_next)
           | ((with_reducible (show evOp _ _ _ _ _ _)); first
             | ((with_reducible (show evOp _ (.move _) _ _ _ _)) ; first | ((with_reducible apply go_mv_int); rfl; rfl) | ((with_reducible apply go_mv_bool); rfl; rfl))
             | ((with_reducible apply go_as))
             | (((with_reducible apply go_cmp); rfl; rfl; rfl; rfl))
             | (((with_reducible apply go_pick); rfl; rfl; rfl)))
           | ((with_reducible (show evOps _ _ _ _ _ _)); first
             | (with_reducible apply go_nil)
             | ((with_reducible apply go_run); rfl; rfl)
             | ((with_reducible apply go_pass); rfl; rfl; rfl)
             | (((with_reducible apply go_guard); rfl) <;> (intro h; simp only [h, Bool.not_true, Bool.not_false]; (try with_reducible (refine ⟨rfl, ?_⟩)); try simp only [decide_eq_true_eq, decide_eq_false_iff_not, Bool.not_eq_true', Bool.not_eq_false', Bool.not_true, Bool.not_false] at h; try exact absurd trivial h)))
           | ((with_reducible (show evG _ _ _ _ _)); first
             | (with_reducible apply go_seq)
             | (with_reducible apply go_region)
             | (with_reducible apply go_ret))
           | (with_reducible apply go_kseq)
           | ((with_reducible apply end_bool); rfl)
  all_goals (simp at *; try omega)
theorem k_name (s : ByteArray) : Contract Try.prog 68 [.str s] (.ret (.bool (nameOK s))) := by
  refine contract_of mix Try.func68 rfl rfl (by rw [Try.ntmps68]; exact Nat.le_of_ble_eq_true rfl) ?_; rw [Try.results68, Try.ntmps68]; simp only [argsE, Nat.reduceAdd]
  repeat' first
           | (with_reducible apply go_op)
           | (with_reducible apply go_next)
           | ((with_reducible (show evOp _ _ _ _ _ _)); first
             | ((with_reducible (show evOp _ (.move _) _ _ _ _)) ; first | ((with_reducible apply go_mv_int); rfl; rfl) | ((with_reducible apply go_mv_bool); rfl; rfl) | ((with_reducible apply go_mv_str); rfl; rfl))
             | ((with_reducible apply go_as))
             | (((with_reducible apply go_cmp); rfl; rfl; rfl; rfl))
             | ((with_reducible (show evOp _ (.call _) _ _ _ _)) ; first | ((with_reducible apply go_len_str); rfl; rfl) | ((with_reducible apply go_fn_bool); rfl; (exact k_letter _); rfl))
             | (((with_reducible apply go_index_str); rfl; rfl; rfl; omega))
             | (((with_reducible apply go_not); rfl; rfl))
             | (((with_reducible apply go_pick); rfl; rfl; rfl)))
           | ((with_reducible (show evOps _ _ _ _ _ _)); first
             | (with_reducible apply go_nil)
             | ((with_reducible apply go_run); rfl; rfl)
             | ((with_reducible apply go_pass); rfl; rfl; rfl)
             | (((with_reducible apply go_guard); rfl) <;> (intro h; simp only [h, Bool.not_true, Bool.not_false]; (try with_reducible (refine ⟨rfl, ?_⟩)); try simp only [decide_eq_true_eq, decide_eq_false_iff_not, Bool.not_eq_true', Bool.not_eq_false', Bool.not_true, Bool.not_false] at h; try exact absurd trivial h)))
           | ((with_reducible (show evG _ _ _ _ _)); first
             | (with_reducible apply go_seq)
             | (with_reducible apply go_region)
             | ((with_reducible apply go_cond_t); rfl; rfl)
             | (((with_reducible apply go_cond); rfl) <;> (intro h; simp only [h]; try simp only [decide_eq_true_eq, decide_eq_false_iff_not, Bool.not_eq_true', Bool.not_eq_false', Bool.not_true, Bool.not_false] at h; try exact absurd trivial h))
             | (with_reducible apply go_ret)
             | (with_reducible apply go_skipc)
             | (with_reducible apply go_block))
           | (with_reducible apply go_kseq)
           | (with_reducible apply go_kseq_ret)
           | ((with_reducible apply end_bool); rfl)
  · have h3 := h
    exact nameOK_not (i := 0) (by omega) (by rw [show chOK 0 (byteAt s 0) = (letter (byteAt s 0) || (decide ((0 : Nat) ≠ 0) && decide (byteAt s 0 = 45 ∨ (48 ≤ byteAt s 0 ∧ byteAt s 0 ≤ 57)))) from rfl]; rw [show byteAt s 0 = byteAt s (Int.toNat 0) from rfl, h3]; rfl)
  · have h0 : letter (byteAt s 0) = true := h
    refine go_count s.size (fun i => ⟨[(21, .int .i64 i), (20, .int .i64 s.size), (0, .str s)], [], 32, 41⟩) (fun i => ∀ j, j < i → chOK j (byteAt s j) = true) (entails_eq (nx := 32) (k := 0) (ns := []) (ks := [21, 20, 0]) [] rfl (by simp) (by kernel_rfl)) (by omega) ?_
    intro i hi hC
    have hz : i = 0 → letter (byteAt s i) = true := fun e => by rw [e]; exact h0
    have hbd := byteAt_bd s (Int.toNat (i : Int))
    repeat' first
           | (with_reducible apply go_op)
           | (with_reducible apply go_next)
           | ((with_reducible (show evOp _ _ _ _ _ _)); first
             | ((with_reducible (show evOp _ (.move _) _ _ _ _)) ; first | ((with_reducible apply go_mv_int); rfl; rfl) | ((with_reducible apply go_mv_bool); rfl; rfl) | ((with_reducible apply go_mv_str); rfl; rfl))
             | ((with_reducible apply go_as))
             | ((with_reducible (show evOp _ (.binOp _ _ _ _ _) _ _ _ _)) ; first | ((with_reducible apply go_cmp); rfl; rfl; rfl; rfl) | ((with_reducible apply go_add); rfl; rfl; rfl; omega))
             | ((with_reducible (show evOp _ (.call _) _ _ _ _)) ; first | ((with_reducible apply go_fn_bool); rfl; (exact k_letter _); rfl) | ((with_reducible apply go_fn_bool); rfl; (exact k_within _ _ _); rfl))
             | (((with_reducible apply go_index_str); rfl; rfl; rfl; omega))
             | (((with_reducible apply go_not); rfl; rfl))
             | (((with_reducible apply go_conv64); rfl; rfl; omega))
             | (((with_reducible apply go_pick); rfl; rfl; rfl)))
           | ((with_reducible (show evOps _ _ _ _ _ _)); first
             | (with_reducible apply go_nil)
             | ((with_reducible apply go_run); rfl; rfl)
             | ((with_reducible apply go_pass); rfl; rfl; rfl)
             | (((with_reducible apply go_guard); rfl) <;> (intro h; simp only [h, Bool.not_true, Bool.not_false]; (try with_reducible (refine ⟨rfl, ?_⟩)); try simp only [decide_eq_true_eq, decide_eq_false_iff_not, Bool.not_eq_true', Bool.not_eq_false', Bool.not_true, Bool.not_false] at h; try exact absurd trivial h)))
           | ((with_reducible (show evG _ _ _ _ _)); first
             | (with_reducible apply go_seq)
             | (with_reducible apply go_region)
             | ((with_reducible apply go_cond_f); rfl; rfl)
             | (((with_reducible apply go_cond); rfl) <;> (intro h; simp only [h]; try simp only [decide_eq_true_eq, decide_eq_false_iff_not, Bool.not_eq_true', Bool.not_eq_false', Bool.not_true, Bool.not_false] at h; try exact absurd trivial h))
             | (with_reducible apply go_ret)
             | (with_reducible apply go_skipc)
             | (with_reducible apply go_block)
             | (with_reducible apply go_exit))
           | (with_reducible apply go_kseq)
           | (with_reducible apply go_kseq_ret)
           | (with_reducible apply go_kblock)
           | (with_reducible apply go_kblock_ret)
           | (with_reducible apply go_kblock_exit)
           | (with_reducible apply go_kseq_exit)
           | ((with_reducible apply end_bool); rfl)
    all_goals try simp only [Int.toNat_natCast] at *
    all_goals first
      | (refine nameOK_not (i := i) (by omega) ?_
         have hl : letter (byteAt s i) = false := by assumption
         simp only [chOK, hl, Bool.false_or]
         simp; omega)
      | (refine ⟨by omega, chars_step hC ?_, entails_eq (nx := 32) (k := 0) (ns := []) (ks := [21, 20, 0]) [] rfl (by simp) (by kernel_rfl)⟩
         first
           | (have hl : letter (byteAt s i) = true := by assumption
              simp only [chOK, hl, Bool.true_or])
           | (have hl : letter (byteAt s i) = false := by assumption
              have hi0 : i ≠ 0 := fun e => by rw [hz e] at hl; cases hl
              simp only [chOK, hl, Bool.false_or]
              simp [hi0]; omega))
      | exact nameOK_yes (by omega) (by omega) fun j hj => hC j (by omega)
      | trace_state
  · exact nameOK_size (by omega)
  · exact nameOK_size (by omega)
end Go.Pv.Soil

open Go Go.Proofs Go.Pv
set_option maxHeartbeats 1000000
set_option maxRecDepth 100000
set_option linter.unusedSimpArgs false
set_option linter.unusedVariables false
namespace Go.Pv.Soil
structure Soil where
  name : ByteArray
  a : Int
  b : Int
  r : Int
  h : Int

def encSoil (x : Soil) : List D := [.str x.name, .int .i64 x.a, .int .i64 x.b, .int .i64 x.r, .int .i64 x.h]

def idxOf {α : Type} (p : α → Bool) (l : List α) : Int := match l.findIdx? p with
  | some i => i
  | none => -1

theorem idxOf_none {α : Type} {p : α → Bool} {l : List α} (h : ∀ x ∈ l, p x = false) : idxOf p l = -1 := by
  have : l.findIdx? p = none := by simpa using h
  rw [idxOf, this]
theorem idxOf_some {α : Type} {p : α → Bool} {l : List α} {i : Nat} (hi : i < l.length) (h : p l[i] = true) (hb : ∀ j (hj : j < i), p (l[j]'(by omega)) = false) : idxOf p l = i := by
  have : l.findIdx? p = some i := by
    rw [List.findIdx?_eq_some_iff_getElem]
    exact ⟨hi, h, fun j hj => by simpa using hb j hj⟩
  rw [idxOf, this]

theorem c150 (l : List Soil) (hl : l.length < 1000000000000) (g : FuncId) (ys : List D) (hst : Stab ys) (hpu : pureL ys = true) (p : Soil → Bool) (hf : ∀ x ∈ l, Contract Try.prog g (.agg (encSoil x) :: ys) (.ret (.bool (p x)))) :
    Contract Try.prog 73 [.sl (l.map encSoil), .clo (.func g) [] ys] (.ret (.int .i64 (idxOf p l))) := by
  refine contract_of mix Try.func73 rfl rfl (by rw [Try.ntmps73]; exact Nat.le_of_ble_eq_true rfl) ?_; rw [Try.results73, Try.ntmps73]; simp only [argsE, Nat.reduceAdd]
  repeat' first
           | (with_reducible apply go_op)
           | (with_reducible apply go_next)
           | ((with_reducible (show evOp _ _ _ _ _ _)); first
             | ((with_reducible (show evOp _ (.move _) _ _ _ _)) ; first | ((with_reducible apply go_mv_int); rfl; rfl) | ((with_reducible apply go_mv_sl); rfl; rfl))
             | ((with_reducible apply go_as))
             | (((with_reducible apply go_len); rfl; rfl)))
           | ((with_reducible (show evOps _ _ _ _ _ _)); first
             | (with_reducible apply go_nil))
           | ((with_reducible (show evG _ _ _ _ _)); first
             | (with_reducible apply go_seq)
             | (with_reducible apply go_region)
             | (with_reducible apply go_block))
           | (with_reducible apply go_kseq)
  have e8 : ∀ i : Nat, (⟨[(8, .int .i64 i), (7, .int .i64 l.length), (0, .sl (l.map encSoil)), (1, .clo (.func g) [] (renL [] ys))], [], 0, 19⟩ : St) = ⟨[(8, .int .i64 i), (7, .int .i64 l.length), (0, .sl (l.map encSoil)), (1, .clo (.func g) [] ys)], [], 0, 19⟩ := fun i => by rw [renL_pure hpu]
  refine go_count l.length (fun i => ⟨[(8, .int .i64 i), (7, .int .i64 l.length), (0, .sl (l.map encSoil)), (1, .clo (.func g) [] ys)], [], 0, 19⟩) (fun i => ∀ j (hj : j < i) (hj' : j < l.length), p l[j] = false) (entails_eq (k := 0) (ns := []) (ks := [8, 7, 0, 1]) [] rfl (by simp) (e8 _)) (by omega) ?_
  intro i hi hC
  repeat' first
           | (with_reducible apply go_op)
           | (with_reducible apply go_next)
           | ((with_reducible (show evOp _ _ _ _ _ _)); first
             | ((with_reducible (show evOp _ (.move _) _ _ _ _)) ; first | ((with_reducible apply go_mv_int); rfl; rfl) | ((with_reducible apply go_mv_sl); rfl; rfl) | ((with_reducible apply go_mv_clo); rfl; rfl))
             | ((with_reducible apply go_as))
             | (((with_reducible apply go_load); rfl; rfl; rfl))
             | (((with_reducible apply go_index); rfl; rfl; (intro; rfl); rfl; omega; intro hlt))
             | (((with_reducible apply go_cmp); rfl; rfl; rfl; rfl)))
           | ((with_reducible (show evOps _ _ _ _ _ _)); first
             | (with_reducible apply go_nil))
           | ((with_reducible (show evG _ _ _ _ _)); first
             | (with_reducible apply go_seq)
             | (with_reducible apply go_region)
             | (((with_reducible apply go_cond); rfl) <;> (intro h; simp only [h]; try simp only [decide_eq_true_eq, decide_eq_false_iff_not, Bool.not_eq_true', Bool.not_eq_false', Bool.not_true, Bool.not_false] at h; try exact absurd trivial h))
             | (with_reducible apply go_ret)
             | (with_reducible apply go_skipc)
             | (with_reducible apply go_block)
             | (with_reducible apply go_exit))
           | (with_reducible apply go_kseq)
           | (with_reducible apply go_kblock_exit)
           | (with_reducible apply go_kseq_exit)
           | ((with_reducible apply end_int); rfl)
  · refine go_clo_bool rfl rfl hst (hf l[i] (List.getElem_mem _)) rfl ?_
    repeat' first
           | (with_reducible apply go_op)
           | (with_reducible apply go_next)
           | ((with_reducible (show evOp _ _ _ _ _ _)); first
             | (((with_reducible apply go_mv_int); rfl; rfl))
             | ((with_reducible apply go_as))
             | (((with_reducible apply go_add); rfl; rfl; rfl; omega)))
           | ((with_reducible (show evOps _ _ _ _ _ _)); first
             | (with_reducible apply go_nil))
           | ((with_reducible (show evG _ _ _ _ _)); first
             | (with_reducible apply go_seq)
             | (with_reducible apply go_region)
             | (((with_reducible apply go_cond); rfl) <;> (intro h; simp only [h]; try simp only [decide_eq_true_eq, decide_eq_false_iff_not, Bool.not_eq_true', Bool.not_eq_false', Bool.not_true, Bool.not_false] at h; try exact absurd trivial h))
             | (with_reducible apply go_ret)
             | (with_reducible apply go_skipc))
           | (with_reducible apply go_kseq)
           | (with_reducible apply go_kseq_ret)
           | (with_reducible apply go_kblock)
           | (with_reducible apply go_kblock_ret)
           | ((with_reducible apply end_int); rfl)
    · have h2 : i < l.length := by omega
      exact (idxOf_some h2 h fun j hj => hC j hj (by omega)).symm
    · have h2 : i < l.length := by omega
      refine ⟨by omega, fun j hj hj' => ?_, entails_eq (k := 0) (ns := []) (ks := [8, 7, 0, 1]) [] rfl (by simp) (e8 _)⟩
      rcases Nat.lt_succ_iff_lt_or_eq.1 hj with h' | rfl
      · exact hC j h' hj'
      · exact h
  · refine (idxOf_none fun x hx => ?_).symm
    obtain ⟨j, hj, rfl⟩ := List.mem_iff_getElem.1 hx
    exact hC j (by omega) hj

theorem idxOf_ge {α : Type} {p : α → Bool} {l : List α} : decide (0 ≤ idxOf p l) = l.any p := by
  unfold idxOf
  cases h : l.findIdx? p with
  | none =>
    have : l.any p = false := by
      rw [List.findIdx?_eq_none_iff] at h
      rw [List.any_eq_false]
      intro x hx
      simp [h x hx]
    rw [this]; rfl
  | some i =>
    have : l.any p = true := by
      rw [List.findIdx?_eq_some_iff_getElem] at h
      obtain ⟨hi, hp, _⟩ := h
      rw [List.any_eq_true]
      exact ⟨_, List.getElem_mem hi, hp⟩
    rw [this]
    simp

theorem c138 (l : List Soil) (hl : l.length < 1000000000000) (g : FuncId) (ys : List D) (hst : Stab ys) (hpu : pureL ys = true) (p : Soil → Bool) (hf : ∀ x ∈ l, Contract Try.prog g (.agg (encSoil x) :: ys) (.ret (.bool (p x)))) :
    Contract Try.prog 70 [.sl (l.map encSoil), .clo (.func g) [] ys] (.ret (.bool (l.any p))) := by
  refine contract_of mix Try.func70 rfl rfl (by rw [Try.ntmps70]; exact Nat.le_of_ble_eq_true rfl) ?_; rw [Try.results70, Try.ntmps70]; simp only [argsE, Nat.reduceAdd]
  repeat' first
           | (with_reducible apply go_op)
           | (with_reducible apply go_next)
           | ((with_reducible (show evOp _ _ _ _ _ _)); first
             | ((with_reducible (show evOp _ (.move _) _ _ _ _)) ; first | ((with_reducible apply go_mv_bool); rfl; rfl) | ((with_reducible apply go_mv_sl); rfl; rfl) | ((with_reducible apply go_mv_clo); rfl; rfl))
             | ((with_reducible apply go_as)))
           | ((with_reducible (show evOps _ _ _ _ _ _)); first
             | (with_reducible apply go_nil))
           | ((with_reducible (show evG _ _ _ _ _)); first
             | (with_reducible apply go_seq)
             | (with_reducible apply go_region))
           | (with_reducible apply go_kseq)
  refine go_fn_int (args' := [.sl (l.map encSoil), .clo (.func g) [] ys]) ?_ (c150 l hl g ys hst hpu p hf) rfl ?_
  · have e := hst (lkH []) 45
    simp only [List.map_cons, List.map_nil, evalD, lkE, purL, pur, Option.bind_some, Option.map_some, Nat.reduceEqDiff, if_true, if_false, e]
  repeat' first
           | (with_reducible apply go_op)
           | (with_reducible apply go_next)
           | ((with_reducible (show evOp _ _ _ _ _ _)); first
             | (((with_reducible apply go_mv_bool); rfl; rfl))
             | ((with_reducible apply go_as))
             | (((with_reducible apply go_cmp); rfl; rfl; rfl; rfl)))
           | ((with_reducible (show evOps _ _ _ _ _ _)); first
             | (with_reducible apply go_nil))
           | ((with_reducible (show evG _ _ _ _ _)); first
             | (with_reducible apply go_ret))
           | (with_reducible apply go_kseq)
           | ((with_reducible apply end_bool); rfl)
  exact idxOf_ge

theorem c81 (x : Soil) : Contract Try.prog 65 [.agg (encSoil x)] (.ret (.str x.name)) := by
  refine contract_of mix Try.func65 rfl rfl (by rw [Try.ntmps65]; exact Nat.le_of_ble_eq_true rfl) ?_; rw [Try.results65, Try.ntmps65]; simp only [argsE, Nat.reduceAdd]
  repeat' first
           | (with_reducible apply go_op)
           | (with_reducible apply go_next)
           | ((with_reducible (show evOp _ _ _ _ _ _)); first
             | (((with_reducible apply go_mv_str); rfl; rfl))
             | ((with_reducible apply go_as))
             | (((with_reducible apply go_load_own); rfl; rfl; rfl; rfl))
             | (((with_reducible apply go_fieldAddr_own); rfl; rfl; rfl))
             | (((with_reducible apply go_bx_agg); rfl; rfl; (exact Nat.le_of_ble_eq_true rfl); rfl; rfl)))
           | ((with_reducible (show evOps _ _ _ _ _ _)); first
             | (with_reducible apply go_nil))
           | ((with_reducible (show evG _ _ _ _ _)); first
             | (with_reducible apply go_seq)
             | (with_reducible apply go_region)
             | (with_reducible apply go_ret))
           | (with_reducible apply go_kseq)
           | ((with_reducible apply end_str); rfl)
           | (with_reducible rfl)

theorem c139 (x : Soil) (s nm : ByteArray) (g : FuncId) (hn : Contract Try.prog g [.agg (encSoil x)] (.ret (.str nm))) : Contract Try.prog 71 [.agg (encSoil x), .ptr [.clo (.func g) [] []], .ptr [.str s]] (.ret (.bool (decide (nm = s)))) := by
  refine contract_of mix Try.func71 rfl rfl (by rw [Try.ntmps71]; exact Nat.le_of_ble_eq_true rfl) ?_; rw [Try.results71, Try.ntmps71]; simp only [argsE, Nat.reduceAdd]
  repeat' first
           | (with_reducible apply go_op)
           | (with_reducible apply go_next)
           | ((with_reducible (show evOp _ _ _ _ _ _)); first
             | (((with_reducible apply go_mv_bool); rfl; rfl))
             | ((with_reducible apply go_as))
             | ((with_reducible (show evOp _ (.load _ _) _ _ _ _)) ; first | ((with_reducible apply go_load); rfl; rfl; rfl) | ((with_reducible apply go_load_own); rfl; rfl; rfl; rfl))
             | (((with_reducible apply go_bx_agg); rfl; rfl; (exact Nat.le_of_ble_eq_true rfl); rfl; rfl)))
           | ((with_reducible (show evOps _ _ _ _ _ _)); first
             | (with_reducible apply go_nil)
             | ((with_reducible apply go_pre); rfl))
           | ((with_reducible (show evG _ _ _ _ _)); first
             | (with_reducible apply go_seq)
             | (with_reducible apply go_region)
             | ((with_reducible apply go_order); kernel_rfl; rfl))
           | (with_reducible apply go_kseq)
  refine go_clo_str (d1 := .agg (encSoil x)) rfl rfl (fun _ _ => rfl) hn rfl ?_
  repeat' first
           | (with_reducible apply go_op)
           | (with_reducible apply go_next)
           | ((with_reducible (show evOp _ _ _ _ _ _)); first
             | (((with_reducible apply go_mv_bool); rfl; rfl))
             | ((with_reducible apply go_as))
             | (((with_reducible apply go_load); rfl; rfl; rfl))
             | (((with_reducible apply go_bin); rfl; rfl)))
           | ((with_reducible (show evOps _ _ _ _ _ _)); first
             | (with_reducible apply go_nil)
             | ((with_reducible apply go_pre); rfl)
             | (with_reducible apply go_pre_nil)
             | ((with_reducible apply go_suf); rfl)
             | (with_reducible apply go_suf_nil))
           | ((with_reducible (show evG _ _ _ _ _)); first
             | (with_reducible apply go_ret))
           | (with_reducible apply go_kseq)
           | (with_reducible apply go_ksuf)
           | ((with_reducible apply end_bool); rfl)
           | (with_reducible rfl)

/-- The first of n numbers that is not 0. -/
def firstE : Nat → (Nat → Int) → Int
  | 0, _ => 0
  | n + 1, f => if f 0 = 0 then firstE n (fun i => f (i + 1)) else f 0

theorem firstE_at : ∀ {n : Nat} {f : Nat → Int} {i : Nat}, i < n → (∀ j, j < i → f j = 0) → f i ≠ 0 → firstE n f = f i
  | n + 1, f, 0, _, _, h => by simp [firstE, h]
  | n + 1, f, i + 1, hi, hb, h => by
    simp only [firstE, hb 0 (by omega), if_true]
    exact firstE_at (f := fun i => f (i + 1)) (by omega) (fun j hj => hb (j + 1) (by omega)) h

theorem firstE_zero : ∀ {n : Nat} {f : Nat → Int}, (∀ j, j < n → f j = 0) → firstE n f = 0
  | 0, _, _ => rfl
  | n + 1, f, h => by
    simp only [firstE, h 0 (by omega), if_true]
    exact firstE_zero fun j hj => h (j + 1) (by omega)

def stepE {α : Type} (nm : α → ByteArray) (er : α → Int) (l : List α) (i : Nat) : Int :=
  match l[i]? with
  | none => 0
  | some x => if nameOK (nm x) = false then 4 else if ((l.take i).any fun y => decide (nm y = nm x)) = true then 5 else er x

def eachE {α : Type} (nm : α → ByteArray) (er : α → Int) (l : List α) : Int := firstE l.length (stepE nm er l)

theorem each_at {α : Type} {nm : α → ByteArray} {er : α → Int} {l : List α} {i : Nat} {e : Int} (hi : i < l.length) (hC : ∀ j, j < i → stepE nm er l j = 0) (h : stepE nm er l i = e) (he : e ≠ 0) : e = eachE nm er l := by
  subst h
  exact (firstE_at hi hC he).symm

theorem c80 (l : List Soil) (hl : l.length < 1000000000000) (g g' : FuncId) (nm : Soil → ByteArray) (er : Soil → Int) (hn : ∀ x, Contract Try.prog g [.agg (encSoil x)] (.ret (.str (nm x)))) (he : ∀ x, Contract Try.prog g' [.agg (encSoil x)] (.ret (.int .i64 (er x)))) :
    Contract Try.prog 64 [.sl (l.map encSoil), .clo (.func g) [] [], .clo (.func g') [] []] (.ret (.int .i64 (eachE nm er l))) := by
  refine contract_of mix Try.func64 rfl rfl (by rw [Try.ntmps64]; exact Nat.le_of_ble_eq_true rfl) ?_; rw [Try.results64, Try.ntmps64]; simp only [argsE, Nat.reduceAdd]
  repeat' first
           | (with_reducible apply go_op)
           | (with_reducible apply go_next)
           | ((with_reducible (show evOp _ _ _ _ _ _)); first
             | ((with_reducible (show evOp _ (.move _) _ _ _ _)) ; first | ((with_reducible apply go_mv_int); rfl; rfl) | ((with_reducible apply go_mv_sl); rfl; rfl))
             | ((with_reducible apply go_as))
             | (((with_reducible apply go_len); rfl; rfl))
             | (((with_reducible apply go_bx_clo); rfl; rfl)))
           | ((with_reducible (show evOps _ _ _ _ _ _)); first
             | (with_reducible apply go_nil))
           | ((with_reducible (show evG _ _ _ _ _)); first
             | (with_reducible apply go_seq)
             | (with_reducible apply go_region)
             | (with_reducible apply go_block))
           | (with_reducible apply go_kseq)
  refine go_count l.length (fun i => ⟨[(13, .int .i64 i), (12, .int .i64 l.length), (11, .sl (l.map encSoil)), (0, .sl (l.map encSoil)), (2, .clo (.func g') [] []), (4, .op 0 0 0)], [(0, ⟨1, false, [[.clo (.func g) [] []]]⟩)], 32, 36⟩) (fun i => ∀ j, j < i → stepE nm er l j = 0) (entails_eq (k := 0) (ns := []) (ks := [13, 12, 11, 0, 2, 4]) [(0, 0)] rfl (by simp) rfl) (by omega) ?_
  intro i hi hC
  repeat' first
           | (with_reducible apply go_op)
           | (with_reducible apply go_next)
           | ((with_reducible (show evOp _ _ _ _ _ _)); first
             | (((with_reducible apply go_mv_int); rfl; rfl))
             | ((with_reducible apply go_as))
             | ((with_reducible (show evOp _ (.load _ _) _ _ _ _)) ; first | ((with_reducible apply go_load); rfl; rfl; rfl) | ((with_reducible apply go_load_own); rfl; rfl; rfl; rfl))
             | (((with_reducible apply go_index); rfl; rfl; (intro; rfl); rfl; omega; intro hlt))
             | (((with_reducible apply go_cmp); rfl; rfl; rfl; rfl))
             | (((with_reducible apply go_st_agg); rfl; rfl; rfl; rfl; rfl; rfl; rfl))
             | (((with_reducible apply go_alloc); rfl; rfl; rfl)))
           | ((with_reducible (show evOps _ _ _ _ _ _)); first
             | (with_reducible apply go_nil))
           | ((with_reducible (show evG _ _ _ _ _)); first
             | (with_reducible apply go_seq)
             | (with_reducible apply go_region)
             | (((with_reducible apply go_cond); rfl) <;> (intro h; simp only [h]; try simp only [decide_eq_true_eq, decide_eq_false_iff_not, Bool.not_eq_true', Bool.not_eq_false', Bool.not_true, Bool.not_false] at h; try exact absurd trivial h))
             | (with_reducible apply go_ret)
             | (with_reducible apply go_skipc)
             | (with_reducible apply go_block)
             | (with_reducible apply go_exit))
           | (with_reducible apply go_kseq)
           | (with_reducible apply go_kblock_exit)
           | (with_reducible apply go_kseq_exit)
           | ((with_reducible apply end_int); rfl)
  refine go_clo_str (d1 := .agg (encSoil l[i])) rfl rfl (fun _ _ => rfl) (hn _) rfl ?_
  repeat' first
           | (with_reducible apply go_op)
           | (with_reducible apply go_next)
           | ((with_reducible (show evOp _ _ _ _ _ _)); first
             | (((with_reducible apply go_load_own); rfl; rfl; rfl; rfl))
             | (((with_reducible apply go_st_str); rfl; rfl; rfl))
             | (((with_reducible apply go_alloc); rfl; rfl; rfl)))
           | ((with_reducible (show evOps _ _ _ _ _ _)); first
             | (with_reducible apply go_nil))
           | ((with_reducible (show evG _ _ _ _ _)); first
             | (with_reducible apply go_seq)
             | (with_reducible apply go_region))
           | (with_reducible apply go_kseq)
  refine go_fn_bool (args' := [.str (nm l[i])]) rfl (c137 _) rfl ?_
  repeat' first
           | (with_reducible apply go_op)
           | (with_reducible apply go_next)
           | ((with_reducible (show evOp _ _ _ _ _ _)); first
             | ((with_reducible (show evOp _ (.move _) _ _ _ _)) ; first | ((with_reducible apply go_mv_int); rfl; rfl) | ((with_reducible apply go_mv_sl); rfl; rfl))
             | ((with_reducible apply go_as))
             | (((with_reducible apply go_take_sl); rfl; rfl; (intro; rfl); rfl; omega))
             | (((with_reducible apply go_not); rfl; rfl))
             | (((with_reducible apply go_fn2); rfl; rfl; rfl)))
           | ((with_reducible (show evOps _ _ _ _ _ _)); first
             | (with_reducible apply go_nil))
           | ((with_reducible (show evG _ _ _ _ _)); first
             | (with_reducible apply go_seq)
             | (with_reducible apply go_region)
             | (((with_reducible apply go_cond); rfl) <;> (intro h; simp only [h]; try simp only [decide_eq_true_eq, decide_eq_false_iff_not, Bool.not_eq_true', Bool.not_eq_false', Bool.not_true, Bool.not_false] at h; try exact absurd trivial h))
             | (with_reducible apply go_ret)
             | (with_reducible apply go_skipc))
           | (with_reducible apply go_kseq)
           | (with_reducible apply go_kseq_ret)
           | (with_reducible apply go_kblock_ret)
           | ((with_reducible apply end_int); rfl)
  · have h2 : i < l.length := by omega
    exact each_at h2 hC (by simp [stepE, h2, h]) (by decide)
  refine go_fn_bool (args' := [.sl ((l.take i).map encSoil), .clo (.func 71) [] [.ptr [.clo (.func g) [] []], .ptr [.str (nm l[i])]]]) rfl (c138 (l.take i) (by simp; omega) 71 _ (fun _ _ => rfl) rfl (fun y => decide (nm y = nm l[i])) fun y _ => c139 y _ _ g (hn y)) rfl ?_
  repeat' first
           | (with_reducible apply go_op)
           | (with_reducible apply go_next)
           | ((with_reducible (show evOp _ _ _ _ _ _)); first
             | ((with_reducible (show evOp _ (.move _) _ _ _ _)) ; first | ((with_reducible apply go_mv_int); rfl; rfl) | ((with_reducible apply go_mv_clo); rfl; rfl))
             | ((with_reducible apply go_as))
             | (((with_reducible apply go_load_own); rfl; rfl; rfl; rfl)))
           | ((with_reducible (show evOps _ _ _ _ _ _)); first
             | (with_reducible apply go_nil))
           | ((with_reducible (show evG _ _ _ _ _)); first
             | (with_reducible apply go_seq)
             | (with_reducible apply go_region)
             | (((with_reducible apply go_cond); rfl) <;> (intro h; simp only [h]; try simp only [decide_eq_true_eq, decide_eq_false_iff_not, Bool.not_eq_true', Bool.not_eq_false', Bool.not_true, Bool.not_false] at h; try exact absurd trivial h))
             | (with_reducible apply go_ret)
             | (with_reducible apply go_skipc))
           | (with_reducible apply go_kseq)
           | (with_reducible apply go_kseq_ret)
           | (with_reducible apply go_kblock_ret)
           | ((with_reducible apply end_int); rfl)
  · rename_i h1 _
    have h2 : i < l.length := by omega
    exact each_at h2 hC (by simp only [stepE, List.getElem?_eq_getElem h2, h, *]; simp) (by decide)
  refine go_clo_int (d1 := .agg (encSoil l[i])) rfl rfl (fun _ _ => rfl) (he _) rfl ?_
  repeat' first
           | (with_reducible apply go_op)
           | (with_reducible apply go_next)
           | ((with_reducible (show evOp _ _ _ _ _ _)); first
             | (((with_reducible apply go_mv_int); rfl; rfl))
             | ((with_reducible apply go_as))
             | ((with_reducible (show evOp _ (.binOp _ _ _ _ _) _ _ _ _)) ; first | ((with_reducible apply go_cmp); rfl; rfl; rfl; rfl) | ((with_reducible apply go_add); rfl; rfl; rfl; omega)))
           | ((with_reducible (show evOps _ _ _ _ _ _)); first
             | (with_reducible apply go_nil))
           | ((with_reducible (show evG _ _ _ _ _)); first
             | (with_reducible apply go_seq)
             | (with_reducible apply go_region)
             | (((with_reducible apply go_cond); rfl) <;> (intro h; simp only [h]; try simp only [decide_eq_true_eq, decide_eq_false_iff_not, Bool.not_eq_true', Bool.not_eq_false', Bool.not_true, Bool.not_false] at h; try exact absurd trivial h))
             | (with_reducible apply go_ret)
             | (with_reducible apply go_skipc))
           | (with_reducible apply go_kseq)
           | (with_reducible apply go_kseq_ret)
           | (with_reducible apply go_kblock)
           | (with_reducible apply go_kblock_ret)
           | ((with_reducible apply end_int); rfl)
  · have h2 : i < l.length := by omega
    exact each_at h2 hC (by simp only [stepE, List.getElem?_eq_getElem h2, *]; simp) h
  · have h2 : i < l.length := by omega
    refine ⟨h2, fun j hj => ?_, entails_eq (k := 0) (ns := []) (ks := [13, 12, 11, 0, 2, 4]) [(0, 0)] rfl (by simp) rfl⟩
    rcases Nat.lt_succ_iff_lt_or_eq.1 hj with h' | rfl
    · exact hC j h'
    · simp only [stepE, List.getElem?_eq_getElem h2, *]; simp
  · refine (firstE_zero fun j hj => hC j (by omega)).symm
end Go.Pv.Soil

open Go Go.Proofs Go.Pv
set_option maxHeartbeats 1000000
set_option maxRecDepth 100000
set_option linter.unusedSimpArgs false
set_option linter.unusedVariables false
namespace Go.Pv.Soil

def soilE (x : Soil) : Int := if (1 ≤ x.a ∧ x.a ≤ 1000) ∧ (1 ≤ x.b ∧ x.b ≤ 5000) ∧ (1 ≤ x.r ∧ x.r ≤ 1000) ∧ (1 ≤ x.h ∧ x.h ≤ 1000) ∧ x.h ≤ x.r then 0 else 2

theorem c82 (x : Soil) : Contract Try.prog 66 [.agg (encSoil x)] (.ret (.int .i64 (soilE x))) := by
  refine contract_of mix Try.func66 rfl rfl (by rw [Try.ntmps66]; exact Nat.le_of_ble_eq_true rfl) ?_; rw [Try.results66, Try.ntmps66]; simp only [argsE, Nat.reduceAdd]
  repeat' first
           | (with_reducible apply go_op)
           | (with_reducible apply go_next)
           | ((with_reducible (show evOp _ _ _ _ _ _)); first
             | ((with_reducible (show evOp _ (.move _) _ _ _ _)) ; first | ((with_reducible apply go_mv_int); rfl; rfl) | ((with_reducible apply go_mv_bool); rfl; rfl))
             | ((with_reducible apply go_as))
             | (((with_reducible apply go_load_own); rfl; rfl; rfl; rfl))
             | (((with_reducible apply go_fieldAddr_own); rfl; rfl; rfl))
             | (((with_reducible apply go_cmp); rfl; rfl; rfl; rfl))
             | (((with_reducible apply go_fn_bool); rfl; (exact c108 _ _ _); rfl))
             | (((with_reducible apply go_not); rfl; rfl))
             | (((with_reducible apply go_pick); rfl; rfl; rfl))
             | (((with_reducible apply go_bx_agg); rfl; rfl; (exact Nat.le_of_ble_eq_true rfl); rfl; rfl)))
           | ((with_reducible (show evOps _ _ _ _ _ _)); first
             | (with_reducible apply go_nil)
             | ((with_reducible apply go_run); rfl; rfl)
             | ((with_reducible apply go_pass); rfl; rfl; rfl)
             | (((with_reducible apply go_guard); rfl) <;> (intro h; simp only [h, Bool.not_true, Bool.not_false]; (try with_reducible (refine ⟨rfl, ?_⟩)); try simp only [decide_eq_true_eq, decide_eq_false_iff_not, Bool.not_eq_true', Bool.not_eq_false', Bool.not_true, Bool.not_false] at h; try exact absurd trivial h)))
           | ((with_reducible (show evG _ _ _ _ _)); first
             | (with_reducible apply go_seq)
             | (with_reducible apply go_region)
             | ((with_reducible apply go_cond_t); rfl; rfl)
             | (((with_reducible apply go_cond); rfl) <;> (intro h; simp only [h]; try simp only [decide_eq_true_eq, decide_eq_false_iff_not, Bool.not_eq_true', Bool.not_eq_false', Bool.not_true, Bool.not_false] at h; try exact absurd trivial h))
             | (with_reducible apply go_ret)
             | (with_reducible apply go_skipc))
           | (with_reducible apply go_kseq)
           | (with_reducible apply go_kseq_ret)
           | ((with_reducible apply end_int); rfl)
  all_goals first
    | (simp only [soilE]; rw [if_pos (by omega)])
    | (simp only [soilE]; rw [if_neg (by omega)])
end Go.Pv.Soil

open Go Go.Proofs Go.Pv
set_option maxHeartbeats 1000000
set_option maxRecDepth 100000
set_option linter.unusedSimpArgs false
set_option linter.unusedVariables false
namespace Go.Pv.Soil

def soilsE (l : List Soil) : Int := if l.length = 0 then 10 else if 8 < l.length then 8 else eachE (·.name) soilE l

theorem c20 (l : List Soil) (hl : l.length < 1000000000000) : Contract Try.prog 44 [.sl (l.map encSoil)] (.ret (.int .i64 (soilsE l))) := by
  refine contract_of mix Try.func44 rfl rfl (by rw [Try.ntmps44]; exact Nat.le_of_ble_eq_true rfl) ?_; rw [Try.results44, Try.ntmps44]; simp only [argsE, Nat.reduceAdd]
  repeat' first
           | (with_reducible apply go_op)
           | (with_reducible apply go_next)
           | ((with_reducible (show evOp _ _ _ _ _ _)); first
             | ((with_reducible (show evOp _ (.move _) _ _ _ _)) ; first | ((with_reducible apply go_mv_int); rfl; rfl) | ((with_reducible apply go_mv_sl); rfl; rfl))
             | ((with_reducible apply go_as))
             | (((with_reducible apply go_cmp); rfl; rfl; rfl; rfl))
             | (((with_reducible apply go_len); rfl; rfl)))
           | ((with_reducible (show evOps _ _ _ _ _ _)); first
             | (with_reducible apply go_nil))
           | ((with_reducible (show evG _ _ _ _ _)); first
             | (with_reducible apply go_seq)
             | (with_reducible apply go_region)
             | (((with_reducible apply go_cond); rfl) <;> (intro h; simp only [h]; try simp only [decide_eq_true_eq, decide_eq_false_iff_not, Bool.not_eq_true', Bool.not_eq_false', Bool.not_true, Bool.not_false] at h; try exact absurd trivial h))
             | (with_reducible apply go_ret)
             | (with_reducible apply go_skipc))
           | (with_reducible apply go_kseq)
           | (with_reducible apply go_kseq_ret)
           | ((with_reducible apply end_int); rfl)
  · simp only [soilsE]; rw [if_pos (by omega)]
  · simp only [soilsE]; rw [if_neg (by omega), if_pos (by omega)]
  · refine go_fn_int (args' := [.sl (l.map encSoil), .clo (.func 65) [] [], .clo (.func 66) [] []]) rfl (c80 l hl 65 66 (·.name) soilE c81 c82) rfl ?_
    repeat' first
           | (with_reducible apply go_op)
           | (with_reducible apply go_next)
           | ((with_reducible (show evOp _ _ _ _ _ _)); first
             | (((with_reducible apply go_mv_int); rfl; rfl))
             | ((with_reducible apply go_as)))
           | ((with_reducible (show evOps _ _ _ _ _ _)); first
             | (with_reducible apply go_nil))
           | ((with_reducible (show evG _ _ _ _ _)); first
             | (with_reducible apply go_ret))
           | (with_reducible apply go_kseq)
           | ((with_reducible apply end_int); rfl)
    simp only [soilsE]; rw [if_neg (by omega), if_neg (by omega)]

def ofName (l : List Soil) (s : ByteArray) : Int := idxOf (fun x => decide (x.name = s)) l

theorem ofName_self (l : List Soil) {i : Nat} (hi : i < l.length) : (ofName l l[i].name = i) ↔ ((l.take i).any fun y => decide (y.name = l[i].name)) = false := by
  constructor
  · intro h
    rw [List.any_eq_false]
    intro y hy
    obtain ⟨j, hj, rfl⟩ := List.mem_iff_getElem.1 hy
    simp only [List.length_take] at hj
    simp only [List.getElem_take]
    unfold ofName idxOf at h
    split at h
    · rename_i k hk
      rw [List.findIdx?_eq_some_iff_getElem] at hk
      obtain ⟨h1, h2, h3⟩ := hk
      have : k = i := by omega
      subst this
      exact h3 j (by omega)
    · omega
  · intro h
    refine idxOf_some hi (by simp) fun j hj => ?_
    rw [List.any_eq_false] at h
    have := h l[j] (List.mem_iff_getElem.2 ⟨j, by simp; omega, by simp⟩)
    simpa using this

end Go.Pv.Soil

open Go Go.Proofs Go.Pv
set_option maxHeartbeats 1000000
set_option maxRecDepth 100000
set_option linter.unusedSimpArgs false
set_option linter.unusedVariables false
namespace Go.Pv.Soil

structure Layer where
  top : Int
  soil : ByteArray
structure Boring where
  name : ByteArray
  x : Int
  y : Int
  layers : List Layer
structure Pt where
  x : Int
  y : Int
def encLayer (l : Layer) : List D := [.int .i64 l.top, .str l.soil]
def encBor (b : Boring) : List D := [.str b.name, .int .i64 b.x, .int .i64 b.y, .sl (b.layers.map encLayer)]
def encPt (p : Pt) : List D := [.int .i64 p.x, .int .i64 p.y]

def ptOK (p : Pt) : Bool := decide ((-1000000 ≤ p.x ∧ p.x ≤ 1000000) ∧ (-1000000 ≤ p.y ∧ p.y ≤ 1000000))
def lvOK (n : Int) : Bool := decide (-20000 ≤ n ∧ n ≤ 20000)

end Go.Pv.Soil

open Go Go.Proofs Go.Pv
set_option maxHeartbeats 1000000
set_option maxRecDepth 100000
set_option linter.unusedSimpArgs false
set_option linter.unusedVariables false
namespace Go.Pv.Soil

structure Ground where
  soils : List Soil
  borings : List Boring
def encGround (g : Ground) : List D := [.sl (g.soils.map encSoil), .sl (g.borings.map encBor)]

def layE (l : List Soil) (ls : List Layer) (i : Nat) : Int :=
  match ls[i]? with
  | none => 0
  | some x => if lvOK x.top = false then 2 else if 0 < i ∧ ((ls[i - 1]?).map (·.top)).getD 0 ≤ x.top then 9 else if ofName l x.soil < 0 then 6 else 0

def borE (l : List Soil) (b : Boring) : Int :=
  if ptOK ⟨b.x, b.y⟩ = false then 2 else if b.layers.length = 0 then 10 else if 12 < b.layers.length then 8 else firstE b.layers.length (layE l b.layers)

theorem layE_is {l : List Soil} {ls : List Layer} {i : Nat} (hi : i < ls.length) : layE l ls i = if lvOK ls[i].top = false then 2 else if 0 < i ∧ ((ls[i - 1]?).map (·.top)).getD 0 ≤ ls[i].top then 9 else if ofName l ls[i].soil < 0 then 6 else 0 := by
  simp only [layE, List.getElem?_eq_getElem hi]

theorem layE_2 {l : List Soil} {ls : List Layer} {i : Nat} (hi : i < ls.length) (h : lvOK ls[i].top = false) : layE l ls i = 2 := by rw [layE_is hi, if_pos h]
theorem layE_9 {l : List Soil} {ls : List Layer} {i : Nat} (hi : i < ls.length) (h1 : lvOK ls[i].top = true) (h2 : 0 < i) (h3 : (ls[i - 1]'(by omega)).top ≤ ls[i].top) : layE l ls i = 9 := by
  rw [layE_is hi, if_neg (by simp [h1]), if_pos ⟨h2, by rw [List.getElem?_eq_getElem (by omega)]; exact h3⟩]
theorem layE_6 {l : List Soil} {ls : List Layer} {i : Nat} (hi : i < ls.length) (h1 : lvOK ls[i].top = true) (h2 : i = 0 ∨ ∃ h : i - 1 < ls.length, ¬ ls[i - 1].top ≤ ls[i].top) (h : ofName l ls[i].soil < 0) : layE l ls i = 6 := by
  rw [layE_is hi, if_neg (by simp [h1]), if_neg, if_pos h]
  rintro ⟨h3, h4⟩
  rcases h2 with h2 | ⟨h5, h2⟩
  · omega
  · rw [List.getElem?_eq_getElem h5] at h4; exact h2 h4
theorem layE_0 {l : List Soil} {ls : List Layer} {i : Nat} (hi : i < ls.length) (h1 : lvOK ls[i].top = true) (h2 : i = 0 ∨ ∃ h : i - 1 < ls.length, ¬ ls[i - 1].top ≤ ls[i].top) (h : ¬ ofName l ls[i].soil < 0) : layE l ls i = 0 := by
  rw [layE_is hi, if_neg (by simp [h1]), if_neg, if_neg h]
  rintro ⟨h3, h4⟩
  rcases h2 with h2 | ⟨h5, h2⟩
  · omega
  · rw [List.getElem?_eq_getElem h5] at h4; exact h2 h4

theorem lay_at {l : List Soil} {ls : List Layer} {i : Nat} {e : Int} (hi : i < ls.length) (hC : ∀ j, j < i → layE l ls j = 0) (h : layE l ls i = e) (he : e ≠ 0) : e = firstE ls.length (layE l ls) := by
  subst h
  exact (firstE_at hi hC he).symm
theorem lay_step {l : List Soil} {ls : List Layer} {i : Nat} (hC : ∀ j, j < i → layE l ls j = 0) (h : layE l ls i = 0) : ∀ j, j < i + 1 → layE l ls j = 0 := fun j hj => by
  rcases Nat.lt_succ_iff_lt_or_eq.1 hj with h' | rfl
  · exact hC j h'
  · exact h

end Go.Pv.Soil

open Go Go.Proofs Go.Pv
set_option maxHeartbeats 1000000
set_option maxRecDepth 100000
set_option linter.unusedSimpArgs false
set_option linter.unusedVariables false
namespace Go.Pv.Soil

end Go.Pv.Soil

open Go Go.Proofs Go.Pv
set_option maxHeartbeats 1000000
set_option maxRecDepth 100000
set_option linter.unusedSimpArgs false
set_option linter.unusedVariables false
namespace Go.Pv.Soil

theorem stabG (gr : Ground) : StabF [.agg (encGround gr)] := fun hp m ds ds' h => by
  show (pur hp (m + 16) (.agg (encGround gr))).bind _ = _
  have : pur hp (m + 16) (.agg (encGround gr)) = some (.agg (encGround gr)) := rfl
  rw [this]
  simp only [Option.bind_some]
  show (purL hp (m + 16) ([] ++ ds)).map _ = _
  rw [List.nil_append, h]
  rfl

end Go.Pv.Soil

open Go Go.Proofs Go.Pv
set_option maxHeartbeats 1000000
set_option maxRecDepth 100000
set_option linter.unusedSimpArgs false
set_option linter.unusedVariables false
namespace Go.Pv.Soil

def groundE (g : Ground) : Int := if soilsE g.soils ≠ 0 then soilsE g.soils else if g.borings.length = 0 then 10 else if 20 < g.borings.length then 8 else eachE (·.name) (borE g.soils) g.borings

end Go.Pv.Soil

open Go Go.Proofs Go.Pv
set_option maxHeartbeats 1000000
set_option maxRecDepth 100000
set_option linter.unusedSimpArgs false
set_option linter.unusedVariables false
namespace Go.Pv.Soil

def encInt (n : Int) : List D := [.int .i64 n]

/-- The error of a ground, a place and levels. -/
def askedE (g : Ground) (p : Pt) (l : List Int) : Int := if groundE g ≠ 0 then groundE g else if ptOK p = false ∨ (l.any fun n => !lvOK n) = true then 2 else 0

theorem pt_no {p : Pt} (h : ¬ ((-1000000 ≤ p.x ∧ p.x ≤ 1000000) ∧ (-1000000 ≤ p.y ∧ p.y ≤ 1000000))) : true = !ptOK p := by
  simp only [ptOK, decide_eq_false h, Bool.not_false]
theorem pt_yes {p : Pt} (h : (-1000000 ≤ p.x ∧ p.x ≤ 1000000) ∧ (-1000000 ≤ p.y ∧ p.y ≤ 1000000)) : false = !ptOK p := by
  simp only [ptOK, decide_eq_true h, Bool.not_true]
/-- The scalar product of b - a and c - a. -/
def dotE (a b c : Pt) : Int := (b.x - a.x) * (c.x - a.x) + (b.y - a.y) * (c.y - a.y)
def sqE (a b : Pt) : Int := (b.x - a.x) * (b.x - a.x) + (b.y - a.y) * (b.y - a.y)

theorem ptOK_bd {p : Pt} (h : ptOK p = true) : (-1000000 ≤ p.x ∧ p.x ≤ 1000000) ∧ (-1000000 ≤ p.y ∧ p.y ≤ 1000000) := by
  simpa [ptOK] using h
theorem prod_bd {a b m : Int} (hm : 0 ≤ m) (ha : -m ≤ a ∧ a ≤ m) (hb : -m ≤ b ∧ b ≤ m) : -(m * m) ≤ a * b ∧ a * b ≤ m * m := by
  have h : (a * b).natAbs ≤ (m * m).natAbs := by
    rw [Int.natAbs_mul, Int.natAbs_mul]
    exact Nat.mul_le_mul (by omega) (by omega)
  have h2 : ((m * m).natAbs : Int) = m * m := Int.natAbs_of_nonneg (Int.mul_nonneg hm hm)
  omega
theorem prod4 {a b : Int} (ha : -2000000 ≤ a ∧ a ≤ 2000000) (hb : -2000000 ≤ b ∧ b ≤ 2000000) : -4000000000000 ≤ a * b ∧ a * b ≤ 4000000000000 := by
  have := prod_bd (m := 2000000) (by omega) ha hb; omega

end Go.Pv.Soil

open Go Go.Proofs Go.Pv
set_option maxHeartbeats 4000000
set_option maxRecDepth 100000
set_option linter.unusedSimpArgs false
set_option linter.unusedVariables false
namespace Go.Pv.Soil
theorem k_clonedI (l : List Int) (hl : l.length ≤ 1000000000) : Contract Try.prog 31 [.sl (l.map encI)] (.ret (.fr 1 (l.map encI))) := by
  by_cases h0 : l.length = 0
  · obtain rfl : l = [] := List.eq_nil_of_length_eq_zero h0
    refine contract_of mix Try.func31 rfl rfl (by rw [Try.ntmps31]; exact Nat.le_of_ble_eq_true rfl) ?_; rw [Try.results31, Try.ntmps31]; simp only [argsE, Nat.reduceAdd]
    repeat' first
           | (with_reducible apply go_op)
           | (with_reducible apply go_next)
           | ((with_reducible (show evOp _ _ _ _ _ _)); first
             | ((with_reducible (show evOp _ (.move _) _ _ _ _)) ; first | ((with_reducible apply go_mv_sl); rfl; rfl) | ((with_reducible apply go_mv_nilsl); rfl; rfl))
             | ((with_reducible apply go_as))
             | (((with_reducible apply go_cmp); rfl; rfl; rfl; rfl))
             | (((with_reducible apply go_len); rfl; rfl)))
           | ((with_reducible (show evOps _ _ _ _ _ _)); first
             | (with_reducible apply go_nil))
           | ((with_reducible (show evG _ _ _ _ _)); first
             | (with_reducible apply go_seq)
             | (with_reducible apply go_region)
             | ((with_reducible apply go_cond_t); rfl; rfl)
             | (with_reducible apply go_ret))
           | (with_reducible apply go_kseq)
           | (with_reducible apply go_kseq_ret)
    all_goals first
      | exact finK_ret (fin_nil1 rfl)
      | (exfalso; simp_all; done)
      | trace_state
  · have hb : Try.prog.bytesOf 3 = 8 := by kernel_rfl
    refine contract_of mix Try.func31 rfl rfl (by rw [Try.ntmps31]; exact Nat.le_of_ble_eq_true rfl) ?_; rw [Try.results31, Try.ntmps31]; simp only [argsE, Nat.reduceAdd]
    repeat' first
           | (with_reducible apply go_op)
           | (with_reducible apply go_next)
           | ((with_reducible (show evOp _ _ _ _ _ _)); first
             | ((with_reducible (show evOp _ (.move _) _ _ _ _)) ; first | ((with_reducible apply go_mv_sl); rfl; rfl) | ((with_reducible apply go_mv_nilsl); rfl; rfl))
             | ((with_reducible apply go_as))
             | (((with_reducible apply go_cmp); rfl; rfl; rfl; rfl))
             | (((with_reducible apply go_len); rfl; rfl)))
           | ((with_reducible (show evOps _ _ _ _ _ _)); first
             | (with_reducible apply go_nil))
           | ((with_reducible (show evG _ _ _ _ _)); first
             | (with_reducible apply go_seq)
             | (with_reducible apply go_region)
             | (((with_reducible apply go_cond); rfl) <;> (intro h; simp only [h]; try simp only [decide_eq_true_eq, decide_eq_false_iff_not, Bool.not_eq_true', Bool.not_eq_false', Bool.not_true, Bool.not_false] at h; try exact absurd trivial h))
             | (with_reducible apply go_ret)
             | (with_reducible apply go_skipc))
           | (with_reducible apply go_kseq)
           | (with_reducible apply go_kseq_ret)
    · exfalso; omega
    refine go_makeN (z := .int .i64 0) rfl rfl (by kernel_rfl) rfl rfl (by kernel_rfl) (by omega) rfl ?_
    repeat' first
           | ((with_reducible (show evG _ _ (.region 4 _ _) _ _)); (with_reducible apply go_regionM))
           | ((with_reducible apply (goM_copy (f := encI) (l := l) (hf := liteI))); rfl; rfl; kernel_rfl; (first | rfl | simp); rfl; rfl; omega; rfl)
           | (with_reducible apply goM_op)
           | (with_reducible apply goM_next)
           | (with_reducible apply goM_nil)
           | (with_reducible apply go_op)
           | (with_reducible apply go_next)
           | ((with_reducible (show evOp _ _ _ _ _ _)); first
             | ((with_reducible (show evOp _ (.move _) _ _ _ _)) ; first | ((with_reducible apply go_mv_sl); rfl; rfl) | ((with_reducible apply go_mv_os); rfl; rfl))
             | ((with_reducible apply go_as)))
           | ((with_reducible (show evOps _ _ _ _ _ _)); first
             | (with_reducible apply go_nil))
           | ((with_reducible (show evG _ _ _ _ _)); first
             | (with_reducible apply go_seq)
             | (with_reducible apply go_region)
             | (with_reducible apply go_ret))
           | (with_reducible apply go_kseq)
    all_goals first
      | exact end_frn (l := l) rfl rfl (by simp) rfl
      | trace_state
theorem k_clonedP (l : List Pit) (hl : l.length ≤ 1000000000) : Contract Try.prog 50 [.sl (l.map encPit)] (.ret (.fr 6 (l.map encPit))) := by
  by_cases h0 : l.length = 0
  · obtain rfl : l = [] := List.eq_nil_of_length_eq_zero h0
    refine contract_of mix Try.func50 rfl rfl (by rw [Try.ntmps50]; exact Nat.le_of_ble_eq_true rfl) ?_; rw [Try.results50, Try.ntmps50]; simp only [argsE, Nat.reduceAdd]
    repeat' first
           | (with_reducible apply go_op)
           | (with_reducible apply go_next)
           | ((with_reducible (show evOp _ _ _ _ _ _)); first
             | ((with_reducible (show evOp _ (.move _) _ _ _ _)) ; first | ((with_reducible apply go_mv_sl); rfl; rfl) | ((with_reducible apply go_mv_nilsl); rfl; rfl))
             | ((with_reducible apply go_as))
             | (((with_reducible apply go_cmp); rfl; rfl; rfl; rfl))
             | (((with_reducible apply go_len); rfl; rfl)))
           | ((with_reducible (show evOps _ _ _ _ _ _)); first
             | (with_reducible apply go_nil))
           | ((with_reducible (show evG _ _ _ _ _)); first
             | (with_reducible apply go_seq)
             | (with_reducible apply go_region)
             | ((with_reducible apply go_cond_t); rfl; rfl)
             | (with_reducible apply go_ret))
           | (with_reducible apply go_kseq)
           | (with_reducible apply go_kseq_ret)
    all_goals first
      | exact finK_ret (fin_nil1 rfl)
      | (exfalso; simp_all; done)
      | trace_state
  · have hb : Try.prog.bytesOf 58 = 72 := by kernel_rfl
    refine contract_of mix Try.func50 rfl rfl (by rw [Try.ntmps50]; exact Nat.le_of_ble_eq_true rfl) ?_; rw [Try.results50, Try.ntmps50]; simp only [argsE, Nat.reduceAdd]
    repeat' first
           | (with_reducible apply go_op)
           | (with_reducible apply go_next)
           | ((with_reducible (show evOp _ _ _ _ _ _)); first
             | ((with_reducible (show evOp _ (.move _) _ _ _ _)) ; first | ((with_reducible apply go_mv_sl); rfl; rfl) | ((with_reducible apply go_mv_nilsl); rfl; rfl))
             | ((with_reducible apply go_as))
             | (((with_reducible apply go_cmp); rfl; rfl; rfl; rfl))
             | (((with_reducible apply go_len); rfl; rfl)))
           | ((with_reducible (show evOps _ _ _ _ _ _)); first
             | (with_reducible apply go_nil))
           | ((with_reducible (show evG _ _ _ _ _)); first
             | (with_reducible apply go_seq)
             | (with_reducible apply go_region)
             | (((with_reducible apply go_cond); rfl) <;> (intro h; simp only [h]; try simp only [decide_eq_true_eq, decide_eq_false_iff_not, Bool.not_eq_true', Bool.not_eq_false', Bool.not_true, Bool.not_false] at h; try exact absurd trivial h))
             | (with_reducible apply go_ret)
             | (with_reducible apply go_skipc))
           | (with_reducible apply go_kseq)
           | (with_reducible apply go_kseq_ret)
    · exfalso; omega
    refine go_makeN (z := .agg [.str ByteArray.empty, .int .i64 0, .int .i64 0, .int .i64 0, .nilsl, .int .i64 0]) rfl rfl (by kernel_rfl) rfl rfl (by kernel_rfl) (by omega) rfl ?_
    repeat' first
           | ((with_reducible (show evG _ _ (.region 4 _ _) _ _)); (with_reducible apply go_regionM))
           | ((with_reducible apply (goM_copy (f := encPit) (l := l) (hf := litePit))); rfl; rfl; kernel_rfl; (first | rfl | simp); rfl; rfl; omega; rfl)
           | (with_reducible apply goM_op)
           | (with_reducible apply goM_next)
           | (with_reducible apply goM_nil)
           | (with_reducible apply go_op)
           | (with_reducible apply go_next)
           | ((with_reducible (show evOp _ _ _ _ _ _)); first
             | ((with_reducible (show evOp _ (.move _) _ _ _ _)) ; first | ((with_reducible apply go_mv_sl); rfl; rfl) | ((with_reducible apply go_mv_os); rfl; rfl))
             | ((with_reducible apply go_as)))
           | ((with_reducible (show evOps _ _ _ _ _ _)); first
             | (with_reducible apply go_nil))
           | ((with_reducible (show evG _ _ _ _ _)); first
             | (with_reducible apply go_seq)
             | (with_reducible apply go_region)
             | (with_reducible apply go_ret))
           | (with_reducible apply go_kseq)
    all_goals first
      | exact end_frn (l := l) rfl rfl (by simp) rfl
      | trace_state
theorem k_clonedB (l : List Bulk) (hl : l.length ≤ 1000000000) : Contract Try.prog 51 [.sl (l.map encBulk)] (.ret (.fr 3 (l.map encBulk))) := by
  by_cases h0 : l.length = 0
  · obtain rfl : l = [] := List.eq_nil_of_length_eq_zero h0
    refine contract_of mix Try.func51 rfl rfl (by rw [Try.ntmps51]; exact Nat.le_of_ble_eq_true rfl) ?_; rw [Try.results51, Try.ntmps51]; simp only [argsE, Nat.reduceAdd]
    repeat' first
           | (with_reducible apply go_op)
           | (with_reducible apply go_next)
           | ((with_reducible (show evOp _ _ _ _ _ _)); first
             | ((with_reducible (show evOp _ (.move _) _ _ _ _)) ; first | ((with_reducible apply go_mv_sl); rfl; rfl) | ((with_reducible apply go_mv_nilsl); rfl; rfl))
             | ((with_reducible apply go_as))
             | (((with_reducible apply go_cmp); rfl; rfl; rfl; rfl))
             | (((with_reducible apply go_len); rfl; rfl)))
           | ((with_reducible (show evOps _ _ _ _ _ _)); first
             | (with_reducible apply go_nil))
           | ((with_reducible (show evG _ _ _ _ _)); first
             | (with_reducible apply go_seq)
             | (with_reducible apply go_region)
             | ((with_reducible apply go_cond_t); rfl; rfl)
             | (with_reducible apply go_ret))
           | (with_reducible apply go_kseq)
           | (with_reducible apply go_kseq_ret)
    all_goals first
      | exact finK_ret (fin_nil1 rfl)
      | (exfalso; simp_all; done)
      | trace_state
  · have hb : Try.prog.bytesOf 51 = 32 := by kernel_rfl
    refine contract_of mix Try.func51 rfl rfl (by rw [Try.ntmps51]; exact Nat.le_of_ble_eq_true rfl) ?_; rw [Try.results51, Try.ntmps51]; simp only [argsE, Nat.reduceAdd]
    repeat' first
           | (with_reducible apply go_op)
           | (with_reducible apply go_next)
           | ((with_reducible (show evOp _ _ _ _ _ _)); first
             | ((with_reducible (show evOp _ (.move _) _ _ _ _)) ; first | ((with_reducible apply go_mv_sl); rfl; rfl) | ((with_reducible apply go_mv_nilsl); rfl; rfl))
             | ((with_reducible apply go_as))
             | (((with_reducible apply go_cmp); rfl; rfl; rfl; rfl))
             | (((with_reducible apply go_len); rfl; rfl)))
           | ((with_reducible (show evOps _ _ _ _ _ _)); first
             | (with_reducible apply go_nil))
           | ((with_reducible (show evG _ _ _ _ _)); first
             | (with_reducible apply go_seq)
             | (with_reducible apply go_region)
             | (((with_reducible apply go_cond); rfl) <;> (intro h; simp only [h]; try simp only [decide_eq_true_eq, decide_eq_false_iff_not, Bool.not_eq_true', Bool.not_eq_false', Bool.not_true, Bool.not_false] at h; try exact absurd trivial h))
             | (with_reducible apply go_ret)
             | (with_reducible apply go_skipc))
           | (with_reducible apply go_kseq)
           | (with_reducible apply go_kseq_ret)
    · exfalso; omega
    refine go_makeN (z := .agg [.str ByteArray.empty, .int .i64 0, .int .i64 0]) rfl rfl (by kernel_rfl) rfl rfl (by kernel_rfl) (by omega) rfl ?_
    repeat' first
           | ((with_reducible (show evG _ _ (.region 4 _ _) _ _)); (with_reducible apply go_regionM))
           | ((with_reducible apply (goM_copy (f := encBulk) (l := l) (hf := liteBulk))); rfl; rfl; kernel_rfl; (first | rfl | simp); rfl; rfl; omega; rfl)
           | (with_reducible apply goM_op)
           | (with_reducible apply goM_next)
           | (with_reducible apply goM_nil)
           | (with_reducible apply go_op)
           | (with_reducible apply go_next)
           | ((with_reducible (show evOp _ _ _ _ _ _)); first
             | ((with_reducible (show evOp _ (.move _) _ _ _ _)) ; first | ((with_reducible apply go_mv_sl); rfl; rfl) | ((with_reducible apply go_mv_os); rfl; rfl))
             | ((with_reducible apply go_as)))
           | ((with_reducible (show evOps _ _ _ _ _ _)); first
             | (with_reducible apply go_nil))
           | ((with_reducible (show evG _ _ _ _ _)); first
             | (with_reducible apply go_seq)
             | (with_reducible apply go_region)
             | (with_reducible apply go_ret))
           | (with_reducible apply go_kseq)
    all_goals first
      | exact end_frn (l := l) rfl rfl (by simp) rfl
      | trace_state
theorem k_clonedD (l : List Dep) (hl : l.length ≤ 1000000000) : Contract Try.prog 52 [.sl (l.map encDep)] (.ret (.fr 3 (l.map encDep))) := by
  by_cases h0 : l.length = 0
  · obtain rfl : l = [] := List.eq_nil_of_length_eq_zero h0
    refine contract_of mix Try.func52 rfl rfl (by rw [Try.ntmps52]; exact Nat.le_of_ble_eq_true rfl) ?_; rw [Try.results52, Try.ntmps52]; simp only [argsE, Nat.reduceAdd]
    repeat' first
           | (with_reducible apply go_op)
           | (with_reducible apply go_next)
           | ((with_reducible (show evOp _ _ _ _ _ _)); first
             | ((with_reducible (show evOp _ (.move _) _ _ _ _)) ; first | ((with_reducible apply go_mv_sl); rfl; rfl) | ((with_reducible apply go_mv_nilsl); rfl; rfl))
             | ((with_reducible apply go_as))
             | (((with_reducible apply go_cmp); rfl; rfl; rfl; rfl))
             | (((with_reducible apply go_len); rfl; rfl)))
           | ((with_reducible (show evOps _ _ _ _ _ _)); first
             | (with_reducible apply go_nil))
           | ((with_reducible (show evG _ _ _ _ _)); first
             | (with_reducible apply go_seq)
             | (with_reducible apply go_region)
             | ((with_reducible apply go_cond_t); rfl; rfl)
             | (with_reducible apply go_ret))
           | (with_reducible apply go_kseq)
           | (with_reducible apply go_kseq_ret)
    all_goals first
      | exact finK_ret (fin_nil1 rfl)
      | (exfalso; simp_all; done)
      | trace_state
  · have hb : Try.prog.bytesOf 60 = 32 := by kernel_rfl
    refine contract_of mix Try.func52 rfl rfl (by rw [Try.ntmps52]; exact Nat.le_of_ble_eq_true rfl) ?_; rw [Try.results52, Try.ntmps52]; simp only [argsE, Nat.reduceAdd]
    repeat' first
           | (with_reducible apply go_op)
           | (with_reducible apply go_next)
           | ((with_reducible (show evOp _ _ _ _ _ _)); first
             | ((with_reducible (show evOp _ (.move _) _ _ _ _)) ; first | ((with_reducible apply go_mv_sl); rfl; rfl) | ((with_reducible apply go_mv_nilsl); rfl; rfl))
             | ((with_reducible apply go_as))
             | (((with_reducible apply go_cmp); rfl; rfl; rfl; rfl))
             | (((with_reducible apply go_len); rfl; rfl)))
           | ((with_reducible (show evOps _ _ _ _ _ _)); first
             | (with_reducible apply go_nil))
           | ((with_reducible (show evG _ _ _ _ _)); first
             | (with_reducible apply go_seq)
             | (with_reducible apply go_region)
             | (((with_reducible apply go_cond); rfl) <;> (intro h; simp only [h]; try simp only [decide_eq_true_eq, decide_eq_false_iff_not, Bool.not_eq_true', Bool.not_eq_false', Bool.not_true, Bool.not_false] at h; try exact absurd trivial h))
             | (with_reducible apply go_ret)
             | (with_reducible apply go_skipc))
           | (with_reducible apply go_kseq)
           | (with_reducible apply go_kseq_ret)
    · exfalso; omega
    refine go_makeN (z := .agg [.int .i64 0, .str ByteArray.empty, .int .i64 0]) rfl rfl (by kernel_rfl) rfl rfl (by kernel_rfl) (by omega) rfl ?_
    repeat' first
           | ((with_reducible (show evG _ _ (.region 4 _ _) _ _)); (with_reducible apply go_regionM))
           | ((with_reducible apply (goM_copy (f := encDep) (l := l) (hf := liteDep))); rfl; rfl; kernel_rfl; (first | rfl | simp); rfl; rfl; omega; rfl)
           | (with_reducible apply goM_op)
           | (with_reducible apply goM_next)
           | (with_reducible apply goM_nil)
           | (with_reducible apply go_op)
           | (with_reducible apply go_next)
           | ((with_reducible (show evOp _ _ _ _ _ _)); first
             | ((with_reducible (show evOp _ (.move _) _ _ _ _)) ; first | ((with_reducible apply go_mv_sl); rfl; rfl) | ((with_reducible apply go_mv_os); rfl; rfl))
             | ((with_reducible apply go_as)))
           | ((with_reducible (show evOps _ _ _ _ _ _)); first
             | (with_reducible apply go_nil))
           | ((with_reducible (show evG _ _ _ _ _)); first
             | (with_reducible apply go_seq)
             | (with_reducible apply go_region)
             | (with_reducible apply go_ret))
           | (with_reducible apply go_kseq)
    all_goals first
      | exact end_frn (l := l) rfl rfl (by simp) rfl
      | trace_state
end Go.Pv.Soil

open Go Go.Proofs Go.Pv
set_option maxHeartbeats 4000000
set_option maxRecDepth 100000
set_option linter.unusedSimpArgs false
set_option linter.unusedVariables false
namespace Go.Pv.Soil
theorem k_indexP (l : List Pit) (hl : l.length < 1000000000000) (g : FuncId) (ys : List D) (hst : Stab ys) (hpu : pureL ys = true) (p : Pit → Bool) (hf : ∀ x ∈ l, Contract Try.prog g (.agg (encPit x) :: ys) (.ret (.bool (p x)))) :
    Contract Try.prog 46 [.sl (l.map encPit), .clo (.func g) [] ys] (.ret (.int .i64 (idxOf p l))) := by
  refine contract_of mix Try.func46 rfl rfl (by rw [Try.ntmps46]; exact Nat.le_of_ble_eq_true rfl) ?_; rw [Try.results46, Try.ntmps46]; simp only [argsE, Nat.reduceAdd]
  repeat' first
           | (with_reducible apply go_op)
           | (with_reducible apply go_next)
           | ((with_reducible (show evOp _ _ _ _ _ _)); first
             | ((with_reducible (show evOp _ (.move _) _ _ _ _)) ; first | ((with_reducible apply go_mv_int); rfl; rfl) | ((with_reducible apply go_mv_sl); rfl; rfl))
             | ((with_reducible apply go_as))
             | (((with_reducible apply go_len); rfl; rfl)))
           | ((with_reducible (show evOps _ _ _ _ _ _)); first
             | (with_reducible apply go_nil))
           | ((with_reducible (show evG _ _ _ _ _)); first
             | (with_reducible apply go_seq)
             | (with_reducible apply go_region)
             | (with_reducible apply go_block))
           | (with_reducible apply go_kseq)
  have e8 : ∀ i : Nat, (⟨[(8, .int .i64 i), (7, .int .i64 l.length), (0, .sl (l.map encPit)), (1, .clo (.func g) [] (renL [] ys))], [], 0, 19⟩ : St) = ⟨[(8, .int .i64 i), (7, .int .i64 l.length), (0, .sl (l.map encPit)), (1, .clo (.func g) [] ys)], [], 0, 19⟩ := fun i => by rw [renL_pure hpu]
  refine go_count l.length (fun i => ⟨[(8, .int .i64 i), (7, .int .i64 l.length), (0, .sl (l.map encPit)), (1, .clo (.func g) [] ys)], [], 0, 19⟩) (fun i => ∀ j (hj : j < i) (hj' : j < l.length), p l[j] = false) (entails_eq (k := 0) (ns := []) (ks := [8, 7, 0, 1]) [] rfl (by simp) (e8 _)) (by omega) ?_
  intro i hi hC
  repeat' first
           | (with_reducible apply go_op)
           | (with_reducible apply go_next)
           | ((with_reducible (show evOp _ _ _ _ _ _)); first
             | ((with_reducible (show evOp _ (.move _) _ _ _ _)) ; first | ((with_reducible apply go_mv_int); rfl; rfl) | ((with_reducible apply go_mv_sl); rfl; rfl) | ((with_reducible apply go_mv_clo); rfl; rfl))
             | ((with_reducible apply go_as))
             | (((with_reducible apply go_ld_ptr); rfl; rfl; rfl))
             | (((with_reducible apply go_index_nat); rfl; rfl; (with_reducible rfl); (intro; rfl); rfl; omega; (intro hlt)))
             | (((with_reducible apply go_cmp); rfl; rfl; rfl; rfl)))
           | ((with_reducible (show evOps _ _ _ _ _ _)); first
             | (with_reducible apply go_nil))
           | ((with_reducible (show evG _ _ _ _ _)); first
             | (with_reducible apply go_seq)
             | (with_reducible apply go_region)
             | (((with_reducible apply go_cond); rfl) <;> (intro h; simp only [h]; try simp only [decide_eq_true_eq, decide_eq_false_iff_not, Bool.not_eq_true', Bool.not_eq_false', Bool.not_true, Bool.not_false] at h; try exact absurd trivial h))
             | (with_reducible apply go_ret)
             | (with_reducible apply go_skipc)
             | (with_reducible apply go_block)
             | (with_reducible apply go_exit))
           | (with_reducible apply go_kseq)
           | (with_reducible apply go_kblock_exit)
           | (with_reducible apply go_kseq_exit)
           | ((with_reducible apply end_int); rfl)
  · refine go_clo_bool rfl rfl hst (hf l[i] (List.getElem_mem _)) rfl ?_
    repeat' first
           | (with_reducible apply go_op)
           | (with_reducible apply go_next)
           | ((with_reducible (show evOp _ _ _ _ _ _)); first
             | (((with_reducible apply go_mv_int); rfl; rfl))
             | ((with_reducible apply go_as))
             | (((with_reducible apply go_add); rfl; rfl; rfl; omega)))
           | ((with_reducible (show evOps _ _ _ _ _ _)); first
             | (with_reducible apply go_nil))
           | ((with_reducible (show evG _ _ _ _ _)); first
             | (with_reducible apply go_seq)
             | (with_reducible apply go_region)
             | (((with_reducible apply go_cond); rfl) <;> (intro h; simp only [h]; try simp only [decide_eq_true_eq, decide_eq_false_iff_not, Bool.not_eq_true', Bool.not_eq_false', Bool.not_true, Bool.not_false] at h; try exact absurd trivial h))
             | (with_reducible apply go_ret)
             | (with_reducible apply go_skipc))
           | (with_reducible apply go_kseq)
           | (with_reducible apply go_kseq_ret)
           | (with_reducible apply go_kblock)
           | (with_reducible apply go_kblock_ret)
           | ((with_reducible apply end_int); rfl)
    · have h2 : i < l.length := by omega
      exact (idxOf_some h2 h fun j hj => hC j hj (by omega)).symm
    · have h2 : i < l.length := by omega
      refine ⟨by omega, fun j hj hj' => ?_, entails_eq (k := 0) (ns := []) (ks := [8, 7, 0, 1]) [] rfl (by simp) (e8 _)⟩
      rcases Nat.lt_succ_iff_lt_or_eq.1 hj with h' | rfl
      · exact hC j h' hj'
      · exact h
  · refine (idxOf_none fun x hx => ?_).symm
    obtain ⟨j, hj, rfl⟩ := List.mem_iff_getElem.1 hx
    exact hC j (by omega) hj
theorem k_indexB (l : List Bulk) (hl : l.length < 1000000000000) (g : FuncId) (ys : List D) (hst : Stab ys) (hpu : pureL ys = true) (p : Bulk → Bool) (hf : ∀ x ∈ l, Contract Try.prog g (.agg (encBulk x) :: ys) (.ret (.bool (p x)))) :
    Contract Try.prog 42 [.sl (l.map encBulk), .clo (.func g) [] ys] (.ret (.int .i64 (idxOf p l))) := by
  refine contract_of mix Try.func42 rfl rfl (by rw [Try.ntmps42]; exact Nat.le_of_ble_eq_true rfl) ?_; rw [Try.results42, Try.ntmps42]; simp only [argsE, Nat.reduceAdd]
  repeat' first
           | (with_reducible apply go_op)
           | (with_reducible apply go_next)
           | ((with_reducible (show evOp _ _ _ _ _ _)); first
             | ((with_reducible (show evOp _ (.move _) _ _ _ _)) ; first | ((with_reducible apply go_mv_int); rfl; rfl) | ((with_reducible apply go_mv_sl); rfl; rfl))
             | ((with_reducible apply go_as))
             | (((with_reducible apply go_len); rfl; rfl)))
           | ((with_reducible (show evOps _ _ _ _ _ _)); first
             | (with_reducible apply go_nil))
           | ((with_reducible (show evG _ _ _ _ _)); first
             | (with_reducible apply go_seq)
             | (with_reducible apply go_region)
             | (with_reducible apply go_block))
           | (with_reducible apply go_kseq)
  have e8 : ∀ i : Nat, (⟨[(8, .int .i64 i), (7, .int .i64 l.length), (0, .sl (l.map encBulk)), (1, .clo (.func g) [] (renL [] ys))], [], 0, 19⟩ : St) = ⟨[(8, .int .i64 i), (7, .int .i64 l.length), (0, .sl (l.map encBulk)), (1, .clo (.func g) [] ys)], [], 0, 19⟩ := fun i => by rw [renL_pure hpu]
  refine go_count l.length (fun i => ⟨[(8, .int .i64 i), (7, .int .i64 l.length), (0, .sl (l.map encBulk)), (1, .clo (.func g) [] ys)], [], 0, 19⟩) (fun i => ∀ j (hj : j < i) (hj' : j < l.length), p l[j] = false) (entails_eq (k := 0) (ns := []) (ks := [8, 7, 0, 1]) [] rfl (by simp) (e8 _)) (by omega) ?_
  intro i hi hC
  repeat' first
           | (with_reducible apply go_op)
           | (with_reducible apply go_next)
           | ((with_reducible (show evOp _ _ _ _ _ _)); first
             | ((with_reducible (show evOp _ (.move _) _ _ _ _)) ; first | ((with_reducible apply go_mv_int); rfl; rfl) | ((with_reducible apply go_mv_sl); rfl; rfl) | ((with_reducible apply go_mv_clo); rfl; rfl))
             | ((with_reducible apply go_as))
             | (((with_reducible apply go_ld_ptr); rfl; rfl; rfl))
             | (((with_reducible apply go_index_nat); rfl; rfl; (with_reducible rfl); (intro; rfl); rfl; omega; (intro hlt)))
             | (((with_reducible apply go_cmp); rfl; rfl; rfl; rfl)))
           | ((with_reducible (show evOps _ _ _ _ _ _)); first
             | (with_reducible apply go_nil))
           | ((with_reducible (show evG _ _ _ _ _)); first
             | (with_reducible apply go_seq)
             | (with_reducible apply go_region)
             | (((with_reducible apply go_cond); rfl) <;> (intro h; simp only [h]; try simp only [decide_eq_true_eq, decide_eq_false_iff_not, Bool.not_eq_true', Bool.not_eq_false', Bool.not_true, Bool.not_false] at h; try exact absurd trivial h))
             | (with_reducible apply go_ret)
             | (with_reducible apply go_skipc)
             | (with_reducible apply go_block)
             | (with_reducible apply go_exit))
           | (with_reducible apply go_kseq)
           | (with_reducible apply go_kblock_exit)
           | (with_reducible apply go_kseq_exit)
           | ((with_reducible apply end_int); rfl)
  · refine go_clo_bool rfl rfl hst (hf l[i] (List.getElem_mem _)) rfl ?_
    repeat' first
           | (with_reducible apply go_op)
           | (with_reducible apply go_next)
           | ((with_reducible (show evOp _ _ _ _ _ _)); first
             | (((with_reducible apply go_mv_int); rfl; rfl))
             | ((with_reducible apply go_as))
             | (((with_reducible apply go_add); rfl; rfl; rfl; omega)))
           | ((with_reducible (show evOps _ _ _ _ _ _)); first
             | (with_reducible apply go_nil))
           | ((with_reducible (show evG _ _ _ _ _)); first
             | (with_reducible apply go_seq)
             | (with_reducible apply go_region)
             | (((with_reducible apply go_cond); rfl) <;> (intro h; simp only [h]; try simp only [decide_eq_true_eq, decide_eq_false_iff_not, Bool.not_eq_true', Bool.not_eq_false', Bool.not_true, Bool.not_false] at h; try exact absurd trivial h))
             | (with_reducible apply go_ret)
             | (with_reducible apply go_skipc))
           | (with_reducible apply go_kseq)
           | (with_reducible apply go_kseq_ret)
           | (with_reducible apply go_kblock)
           | (with_reducible apply go_kblock_ret)
           | ((with_reducible apply end_int); rfl)
    · have h2 : i < l.length := by omega
      exact (idxOf_some h2 h fun j hj => hC j hj (by omega)).symm
    · have h2 : i < l.length := by omega
      refine ⟨by omega, fun j hj hj' => ?_, entails_eq (k := 0) (ns := []) (ks := [8, 7, 0, 1]) [] rfl (by simp) (e8 _)⟩
      rcases Nat.lt_succ_iff_lt_or_eq.1 hj with h' | rfl
      · exact hC j h' hj'
      · exact h
  · refine (idxOf_none fun x hx => ?_).symm
    obtain ⟨j, hj, rfl⟩ := List.mem_iff_getElem.1 hx
    exact hC j (by omega) hj
theorem k_indexD (l : List Dep) (hl : l.length < 1000000000000) (g : FuncId) (ys : List D) (hst : Stab ys) (hpu : pureL ys = true) (p : Dep → Bool) (hf : ∀ x ∈ l, Contract Try.prog g (.agg (encDep x) :: ys) (.ret (.bool (p x)))) :
    Contract Try.prog 67 [.sl (l.map encDep), .clo (.func g) [] ys] (.ret (.int .i64 (idxOf p l))) := by
  refine contract_of mix Try.func67 rfl rfl (by rw [Try.ntmps67]; exact Nat.le_of_ble_eq_true rfl) ?_; rw [Try.results67, Try.ntmps67]; simp only [argsE, Nat.reduceAdd]
  repeat' first
           | (with_reducible apply go_op)
           | (with_reducible apply go_next)
           | ((with_reducible (show evOp _ _ _ _ _ _)); first
             | ((with_reducible (show evOp _ (.move _) _ _ _ _)) ; first | ((with_reducible apply go_mv_int); rfl; rfl) | ((with_reducible apply go_mv_sl); rfl; rfl))
             | ((with_reducible apply go_as))
             | (((with_reducible apply go_len); rfl; rfl)))
           | ((with_reducible (show evOps _ _ _ _ _ _)); first
             | (with_reducible apply go_nil))
           | ((with_reducible (show evG _ _ _ _ _)); first
             | (with_reducible apply go_seq)
             | (with_reducible apply go_region)
             | (with_reducible apply go_block))
           | (with_reducible apply go_kseq)
  have e8 : ∀ i : Nat, (⟨[(8, .int .i64 i), (7, .int .i64 l.length), (0, .sl (l.map encDep)), (1, .clo (.func g) [] (renL [] ys))], [], 0, 19⟩ : St) = ⟨[(8, .int .i64 i), (7, .int .i64 l.length), (0, .sl (l.map encDep)), (1, .clo (.func g) [] ys)], [], 0, 19⟩ := fun i => by rw [renL_pure hpu]
  refine go_count l.length (fun i => ⟨[(8, .int .i64 i), (7, .int .i64 l.length), (0, .sl (l.map encDep)), (1, .clo (.func g) [] ys)], [], 0, 19⟩) (fun i => ∀ j (hj : j < i) (hj' : j < l.length), p l[j] = false) (entails_eq (k := 0) (ns := []) (ks := [8, 7, 0, 1]) [] rfl (by simp) (e8 _)) (by omega) ?_
  intro i hi hC
  repeat' first
           | (with_reducible apply go_op)
           | (with_reducible apply go_next)
           | ((with_reducible (show evOp _ _ _ _ _ _)); first
             | ((with_reducible (show evOp _ (.move _) _ _ _ _)) ; first | ((with_reducible apply go_mv_int); rfl; rfl) | ((with_reducible apply go_mv_sl); rfl; rfl) | ((with_reducible apply go_mv_clo); rfl; rfl))
             | ((with_reducible apply go_as))
             | (((with_reducible apply go_ld_ptr); rfl; rfl; rfl))
             | (((with_reducible apply go_index_nat); rfl; rfl; (with_reducible rfl); (intro; rfl); rfl; omega; (intro hlt)))
             | (((with_reducible apply go_cmp); rfl; rfl; rfl; rfl)))
           | ((with_reducible (show evOps _ _ _ _ _ _)); first
             | (with_reducible apply go_nil))
           | ((with_reducible (show evG _ _ _ _ _)); first
             | (with_reducible apply go_seq)
             | (with_reducible apply go_region)
             | (((with_reducible apply go_cond); rfl) <;> (intro h; simp only [h]; try simp only [decide_eq_true_eq, decide_eq_false_iff_not, Bool.not_eq_true', Bool.not_eq_false', Bool.not_true, Bool.not_false] at h; try exact absurd trivial h))
             | (with_reducible apply go_ret)
             | (with_reducible apply go_skipc)
             | (with_reducible apply go_block)
             | (with_reducible apply go_exit))
           | (with_reducible apply go_kseq)
           | (with_reducible apply go_kblock_exit)
           | (with_reducible apply go_kseq_exit)
           | ((with_reducible apply end_int); rfl)
  · refine go_clo_bool rfl rfl hst (hf l[i] (List.getElem_mem _)) rfl ?_
    repeat' first
           | (with_reducible apply go_op)
           | (with_reducible apply go_next)
           | ((with_reducible (show evOp _ _ _ _ _ _)); first
             | (((with_reducible apply go_mv_int); rfl; rfl))
             | ((with_reducible apply go_as))
             | (((with_reducible apply go_add); rfl; rfl; rfl; omega)))
           | ((with_reducible (show evOps _ _ _ _ _ _)); first
             | (with_reducible apply go_nil))
           | ((with_reducible (show evG _ _ _ _ _)); first
             | (with_reducible apply go_seq)
             | (with_reducible apply go_region)
             | (((with_reducible apply go_cond); rfl) <;> (intro h; simp only [h]; try simp only [decide_eq_true_eq, decide_eq_false_iff_not, Bool.not_eq_true', Bool.not_eq_false', Bool.not_true, Bool.not_false] at h; try exact absurd trivial h))
             | (with_reducible apply go_ret)
             | (with_reducible apply go_skipc))
           | (with_reducible apply go_kseq)
           | (with_reducible apply go_kseq_ret)
           | (with_reducible apply go_kblock)
           | (with_reducible apply go_kblock_ret)
           | ((with_reducible apply end_int); rfl)
    · have h2 : i < l.length := by omega
      exact (idxOf_some h2 h fun j hj => hC j hj (by omega)).symm
    · have h2 : i < l.length := by omega
      refine ⟨by omega, fun j hj hj' => ?_, entails_eq (k := 0) (ns := []) (ks := [8, 7, 0, 1]) [] rfl (by simp) (e8 _)⟩
      rcases Nat.lt_succ_iff_lt_or_eq.1 hj with h' | rfl
      · exact hC j h' hj'
      · exact h
  · refine (idxOf_none fun x hx => ?_).symm
    obtain ⟨j, hj, rfl⟩ := List.mem_iff_getElem.1 hx
    exact hC j (by omega) hj
theorem k_containsD (l : List Dep) (hl : l.length < 1000000000000) (g : FuncId) (ys : List D) (hst : Stab ys) (hpu : pureL ys = true) (p : Dep → Bool) (hf : ∀ x ∈ l, Contract Try.prog g (.agg (encDep x) :: ys) (.ret (.bool (p x)))) :
    Contract Try.prog 48 [.sl (l.map encDep), .clo (.func g) [] ys] (.ret (.bool (l.any p))) := by
  refine contract_of mix Try.func48 rfl rfl (by rw [Try.ntmps48]; exact Nat.le_of_ble_eq_true rfl) ?_; rw [Try.results48, Try.ntmps48]; simp only [argsE, Nat.reduceAdd]
  repeat' first
           | (with_reducible apply go_op)
           | (with_reducible apply go_next)
           | ((with_reducible (show evOp _ _ _ _ _ _)); first
             | ((with_reducible (show evOp _ (.move _) _ _ _ _)) ; first | ((with_reducible apply go_mv_bool); rfl; rfl) | ((with_reducible apply go_mv_sl); rfl; rfl) | ((with_reducible apply go_mv_clo); rfl; rfl))
             | ((with_reducible apply go_as)))
           | ((with_reducible (show evOps _ _ _ _ _ _)); first
             | (with_reducible apply go_nil))
           | ((with_reducible (show evG _ _ _ _ _)); first
             | (with_reducible apply go_seq)
             | (with_reducible apply go_region))
           | (with_reducible apply go_kseq)
  refine go_fn_int (args' := [.sl (l.map encDep), .clo (.func g) [] ys]) ?_ (k_indexD l hl g ys hst hpu p hf) rfl ?_
  · have e := hst (lkH []) 45
    simp only [List.map_cons, List.map_nil, evalD, lkE, purL, pur, Option.bind_some, Option.map_some, Nat.reduceEqDiff, if_true, if_false, e]
  repeat' first
           | (with_reducible apply go_op)
           | (with_reducible apply go_next)
           | ((with_reducible (show evOp _ _ _ _ _ _)); first
             | (((with_reducible apply go_mv_bool); rfl; rfl))
             | ((with_reducible apply go_as))
             | (((with_reducible apply go_cmp); rfl; rfl; rfl; rfl)))
           | ((with_reducible (show evOps _ _ _ _ _ _)); first
             | (with_reducible apply go_nil))
           | ((with_reducible (show evG _ _ _ _ _)); first
             | (with_reducible apply go_ret))
           | (with_reducible apply go_kseq)
           | ((with_reducible apply end_bool); rfl)
  exact idxOf_ge
theorem k_pitOf1 (p : Pit) (s : ByteArray) : Contract Try.prog 47 [.agg (encPit p), .ptr [.str s]] (.ret (.bool (decide (p.name = s)))) := by
  refine contract_of mix Try.func47 rfl rfl (by rw [Try.ntmps47]; exact Nat.le_of_ble_eq_true rfl) ?_; rw [Try.results47, Try.ntmps47]; simp only [argsE, Nat.reduceAdd]
  repeat' first
           | (with_reducible apply go_op)
           | (with_reducible apply go_next)
           | ((with_reducible (show evOp _ _ _ _ _ _)); first
             | (((with_reducible apply go_mv_bool); rfl; rfl))
             | ((with_reducible apply go_as))
             | ((with_reducible (show evOp _ (.load _ _) _ _ _ _)) ; first | ((with_reducible apply go_load); rfl; rfl; rfl) | ((with_reducible apply go_load_own); rfl; rfl; rfl; rfl))
             | (((with_reducible apply go_fieldAddr_own); rfl; rfl; rfl))
             | (((with_reducible apply go_bin); rfl; rfl))
             | (((with_reducible apply go_bx_agg); rfl; rfl; (exact Nat.le_of_ble_eq_true rfl); rfl; rfl)))
           | ((with_reducible (show evOps _ _ _ _ _ _)); first
             | (with_reducible apply go_nil))
           | ((with_reducible (show evG _ _ _ _ _)); first
             | (with_reducible apply go_seq)
             | (with_reducible apply go_region)
             | (with_reducible apply go_ret))
           | (with_reducible apply go_kseq)
           | ((with_reducible apply end_bool); rfl)
           | (with_reducible rfl)
theorem k_factorOf1 (b : Bulk) (s : ByteArray) : Contract Try.prog 43 [.agg (encBulk b), .ptr [.str s]] (.ret (.bool (decide (b.soil = s)))) := by
  refine contract_of mix Try.func43 rfl rfl (by rw [Try.ntmps43]; exact Nat.le_of_ble_eq_true rfl) ?_; rw [Try.results43, Try.ntmps43]; simp only [argsE, Nat.reduceAdd]
  repeat' first
           | (with_reducible apply go_op)
           | (with_reducible apply go_next)
           | ((with_reducible (show evOp _ _ _ _ _ _)); first
             | (((with_reducible apply go_mv_bool); rfl; rfl))
             | ((with_reducible apply go_as))
             | ((with_reducible (show evOp _ (.load _ _) _ _ _ _)) ; first | ((with_reducible apply go_load); rfl; rfl; rfl) | ((with_reducible apply go_load_own); rfl; rfl; rfl; rfl))
             | (((with_reducible apply go_fieldAddr_own); rfl; rfl; rfl))
             | (((with_reducible apply go_bin); rfl; rfl))
             | (((with_reducible apply go_bx_agg); rfl; rfl; (exact Nat.le_of_ble_eq_true rfl); rfl; rfl)))
           | ((with_reducible (show evOps _ _ _ _ _ _)); first
             | (with_reducible apply go_nil))
           | ((with_reducible (show evG _ _ _ _ _)); first
             | (with_reducible apply go_seq)
             | (with_reducible apply go_region)
             | (with_reducible apply go_ret))
           | (with_reducible apply go_kseq)
           | ((with_reducible apply end_bool); rfl)
           | (with_reducible rfl)
theorem k_deposited1 (d : Dep) (n : Int) : Contract Try.prog 49 [.agg (encDep d), .ptr [.int .i64 n]] (.ret (.bool (decide (d.batch = n)))) := by
  refine contract_of mix Try.func49 rfl rfl (by rw [Try.ntmps49]; exact Nat.le_of_ble_eq_true rfl) ?_; rw [Try.results49, Try.ntmps49]; simp only [argsE, Nat.reduceAdd]
  repeat' first
           | (with_reducible apply go_op)
           | (with_reducible apply go_next)
           | ((with_reducible (show evOp _ _ _ _ _ _)); first
             | (((with_reducible apply go_mv_bool); rfl; rfl))
             | ((with_reducible apply go_as))
             | ((with_reducible (show evOp _ (.load _ _) _ _ _ _)) ; first | ((with_reducible apply go_load); rfl; rfl; rfl) | ((with_reducible apply go_load_own); rfl; rfl; rfl; rfl))
             | (((with_reducible apply go_fieldAddr_own); rfl; rfl; rfl))
             | (((with_reducible apply go_cmp); rfl; rfl; rfl; rfl))
             | (((with_reducible apply go_bx_agg); rfl; rfl; (exact Nat.le_of_ble_eq_true rfl); rfl; rfl)))
           | ((with_reducible (show evOps _ _ _ _ _ _)); first
             | (with_reducible apply go_nil))
           | ((with_reducible (show evG _ _ _ _ _)); first
             | (with_reducible apply go_seq)
             | (with_reducible apply go_region)
             | (with_reducible apply go_ret))
           | (with_reducible apply go_kseq)
           | ((with_reducible apply end_bool); rfl)
           | (with_reducible rfl)
def pitI (s : Yard) (n : ByteArray) : Int := idxOf (fun p => decide (p.name = n)) s.pits
def bulkI (s : Yard) (n : ByteArray) : Int := idxOf (fun b => decide (b.soil = n)) s.bulk
def depB (s : Yard) (n : Int) : Bool := s.deps.any fun d => decide (d.batch = n)
theorem k_pitOf (s : Yard) (n : ByteArray) (hl : s.pits.length < 1000000000000) : Contract Try.prog 34 [.agg (encYard s), .str n] (.ret (.int .i64 (pitI s n))) := by
  refine contract_of mix Try.func34 rfl rfl (by rw [Try.ntmps34]; exact Nat.le_of_ble_eq_true rfl) ?_; rw [Try.results34, Try.ntmps34]; simp only [argsE, Nat.reduceAdd]
  repeat' first
           | (with_reducible apply go_op)
           | (with_reducible apply go_next)
           | ((with_reducible (show evOp _ _ _ _ _ _)); first
             | (((with_reducible apply go_mv_int); rfl; rfl))
             | ((with_reducible apply go_as))
             | (((with_reducible apply go_load_own); rfl; rfl; rfl; rfl))
             | (((with_reducible apply go_fieldAddr_own); rfl; rfl; rfl))
             | ((with_reducible (show evOp _ (.box _ _) _ _ _ _)) ; first | ((with_reducible apply go_bx_str); rfl; rfl) | ((with_reducible apply go_bx_agg); rfl; rfl; (exact Nat.le_of_ble_eq_true rfl); rfl; rfl))
             | (((with_reducible apply go_fn1); rfl; rfl)))
           | ((with_reducible (show evOps _ _ _ _ _ _)); first
             | (with_reducible apply go_nil))
           | ((with_reducible (show evG _ _ _ _ _)); first
             | (with_reducible apply go_seq)
             | (with_reducible apply go_region))
           | (with_reducible apply go_kseq)
  refine go_fn_int (args' := [.sl (s.pits.map encPit), .clo (.func 47) [] [.ptr [.str n]]]) rfl (k_indexP s.pits hl 47 _ (fun _ _ => rfl) rfl (fun p => decide (p.name = n)) fun y _ => k_pitOf1 y n) rfl ?_
  repeat' first
           | (with_reducible apply go_op)
           | (with_reducible apply go_next)
           | ((with_reducible (show evOp _ _ _ _ _ _)); first
             | (((with_reducible apply go_mv_int); rfl; rfl))
             | ((with_reducible apply go_as)))
           | ((with_reducible (show evOps _ _ _ _ _ _)); first
             | (with_reducible apply go_nil))
           | ((with_reducible (show evG _ _ _ _ _)); first
             | (with_reducible apply go_ret))
           | (with_reducible apply go_kseq)
           | ((with_reducible apply end_int); rfl)
  rfl
theorem k_factorOf (s : Yard) (n : ByteArray) (hl : s.bulk.length < 1000000000000) : Contract Try.prog 32 [.agg (encYard s), .str n] (.ret (.int .i64 (bulkI s n))) := by
  refine contract_of mix Try.func32 rfl rfl (by rw [Try.ntmps32]; exact Nat.le_of_ble_eq_true rfl) ?_; rw [Try.results32, Try.ntmps32]; simp only [argsE, Nat.reduceAdd]
  repeat' first
           | (with_reducible apply go_op)
           | (with_reducible apply go_next)
           | ((with_reducible (show evOp _ _ _ _ _ _)); first
             | (((with_reducible apply go_mv_int); rfl; rfl))
             | ((with_reducible apply go_as))
             | (((with_reducible apply go_load_own); rfl; rfl; rfl; rfl))
             | (((with_reducible apply go_fieldAddr_own); rfl; rfl; rfl))
             | ((with_reducible (show evOp _ (.box _ _) _ _ _ _)) ; first | ((with_reducible apply go_bx_str); rfl; rfl) | ((with_reducible apply go_bx_agg); rfl; rfl; (exact Nat.le_of_ble_eq_true rfl); rfl; rfl))
             | (((with_reducible apply go_fn1); rfl; rfl)))
           | ((with_reducible (show evOps _ _ _ _ _ _)); first
             | (with_reducible apply go_nil))
           | ((with_reducible (show evG _ _ _ _ _)); first
             | (with_reducible apply go_seq)
             | (with_reducible apply go_region))
           | (with_reducible apply go_kseq)
  refine go_fn_int (args' := [.sl (s.bulk.map encBulk), .clo (.func 43) [] [.ptr [.str n]]]) rfl (k_indexB s.bulk hl 43 _ (fun _ _ => rfl) rfl (fun p => decide (p.soil = n)) fun y _ => k_factorOf1 y n) rfl ?_
  repeat' first
           | (with_reducible apply go_op)
           | (with_reducible apply go_next)
           | ((with_reducible (show evOp _ _ _ _ _ _)); first
             | (((with_reducible apply go_mv_int); rfl; rfl))
             | ((with_reducible apply go_as)))
           | ((with_reducible (show evOps _ _ _ _ _ _)); first
             | (with_reducible apply go_nil))
           | ((with_reducible (show evG _ _ _ _ _)); first
             | (with_reducible apply go_ret))
           | (with_reducible apply go_kseq)
           | ((with_reducible apply end_int); rfl)
  rfl
theorem k_deposited (s : Yard) (n : Int) (hl : s.deps.length < 1000000000000) : Contract Try.prog 35 [.agg (encYard s), .int .i64 n] (.ret (.bool (depB s n))) := by
  refine contract_of mix Try.func35 rfl rfl (by rw [Try.ntmps35]; exact Nat.le_of_ble_eq_true rfl) ?_; rw [Try.results35, Try.ntmps35]; simp only [argsE, Nat.reduceAdd]
  repeat' first
           | (with_reducible apply go_op)
           | (with_reducible apply go_next)
           | ((with_reducible (show evOp _ _ _ _ _ _)); first
             | (((with_reducible apply go_mv_bool); rfl; rfl))
             | ((with_reducible apply go_as))
             | (((with_reducible apply go_load_own); rfl; rfl; rfl; rfl))
             | (((with_reducible apply go_fieldAddr_own); rfl; rfl; rfl))
             | ((with_reducible (show evOp _ (.box _ _) _ _ _ _)) ; first | ((with_reducible apply go_bx_int); rfl; rfl) | ((with_reducible apply go_bx_agg); rfl; rfl; (exact Nat.le_of_ble_eq_true rfl); rfl; rfl))
             | (((with_reducible apply go_fn1); rfl; rfl)))
           | ((with_reducible (show evOps _ _ _ _ _ _)); first
             | (with_reducible apply go_nil))
           | ((with_reducible (show evG _ _ _ _ _)); first
             | (with_reducible apply go_seq)
             | (with_reducible apply go_region))
           | (with_reducible apply go_kseq)
  refine go_fn_bool (args' := [.sl (s.deps.map encDep), .clo (.func 49) [] [.ptr [.int .i64 n]]]) rfl (k_containsD s.deps hl 49 _ (fun _ _ => rfl) rfl (fun d => decide (d.batch = n)) fun y _ => k_deposited1 y n) rfl ?_
  repeat' first
           | (with_reducible apply go_op)
           | (with_reducible apply go_next)
           | ((with_reducible (show evOp _ _ _ _ _ _)); first
             | (((with_reducible apply go_mv_bool); rfl; rfl))
             | ((with_reducible apply go_as)))
           | ((with_reducible (show evOps _ _ _ _ _ _)); first
             | (with_reducible apply go_nil))
           | ((with_reducible (show evG _ _ _ _ _)); first
             | (with_reducible apply go_ret))
           | (with_reducible apply go_kseq)
           | ((with_reducible apply end_bool); rfl)
  rfl
/-- What is so of a pit that is one. -/
def pitOK (p : Pit) : Bool := decide ((1 ≤ p.area ∧ p.area ≤ 1000000000) ∧ (-20000 ≤ p.low ∧ p.low ≤ 20000) ∧ (-20000 ≤ p.high ∧ p.high ≤ 20000) ∧ p.low < p.high ∧ 0 ≤ p.price ∧ p.price ≤ 10000)
def clsStep (l : List Int) (i : Nat) : Bool := match l[i]? with
  | none => true
  | some c => decide (0 ≤ c ∧ c ≤ 9) && (decide (i = 0) || decide (l.getD (i - 1) 0 < c))
def clsOK (l : List Int) : Prop := ∀ i, i < l.length → clsStep l i = true
def bulkOK (b : Bulk) : Bool := decide ((1 ≤ b.den ∧ b.den ≤ 1000) ∧ 1 ≤ b.num ∧ b.num ≤ 10 * b.den)
def depOK (d : Dep) : Bool := decide ((1 ≤ d.batch ∧ d.batch ≤ 1000000) ∧ 0 ≤ d.vol ∧ d.vol ≤ 100000000000000)
def capE (p : Pit) : Int := p.area * (p.high - p.low)
/-- What a pit has taken of the first deposits. -/
def takA (l : List Dep) (n : ByteArray) : Nat → Int
  | 0 => 0
  | i + 1 => takA l n i + (match l[i]? with
    | some d => if d.pit = n then d.vol else 0
    | none => 0)
def takE (l : List Dep) (n : ByteArray) : Int := takA l n l.length
theorem takA_at {l : List Dep} {n : ByteArray} {i : Nat} (h : i < l.length) : takA l n (i + 1) = takA l n i + if l[i].pit = n then l[i].vol else 0 := by
  simp only [takA, List.getElem?_eq_getElem h]
theorem takA_bd {l : List Dep} {n : ByteArray} (hd : ∀ d ∈ l, depOK d = true) : ∀ i, i ≤ l.length → 0 ≤ takA l n i ∧ takA l n i ≤ i * 100000000000000
  | 0, _ => by simp [takA]
  | i + 1, h => by
    have ih := takA_bd hd (n := n) i (by omega)
    rw [takA_at (by omega)]
    have := of_decide_eq_true (hd l[i] (List.getElem_mem _))
    split <;> omega
theorem k_checkPit (p : Pit) (hp : pitOK p = true) (hc : clsOK p.classes) (hl : p.classes.length ≤ 1000000) : Contract Try.prog 55 [.agg (encPit p)] (.ret (.int .i64 0)) := by
  obtain ⟨nm, area, low, high, cls, price⟩ := p
  have h := of_decide_eq_true hp
  simp only at h hc hl
  refine contract_of mix Try.func55 rfl rfl (by rw [Try.ntmps55]; exact Nat.le_of_ble_eq_true rfl) ?_; rw [Try.results55, Try.ntmps55]; simp only [argsE, Nat.reduceAdd]
  repeat' first
           | (with_reducible apply go_op)
           | (with_reducible apply go_next)
           | ((with_reducible (show evOp _ _ _ _ _ _)); first
             | ((with_reducible (show evOp _ (.move _) _ _ _ _)) ; first | ((with_reducible apply go_mv_int); rfl; rfl) | ((with_reducible apply go_mv_bool); rfl; rfl))
             | ((with_reducible apply go_as))
             | (((with_reducible apply go_load_own); rfl; rfl; rfl; rfl))
             | (((with_reducible apply go_fieldAddr_own); rfl; rfl; rfl))
             | (((with_reducible apply go_cmp); rfl; rfl; rfl; rfl))
             | ((with_reducible (show evOp _ (.call _) _ _ _ _)) ; first | ((with_reducible apply go_len); rfl; rfl) | ((with_reducible apply go_fn_bool); rfl; (exact k_within _ _ _); rfl))
             | (((with_reducible apply go_not); rfl; rfl))
             | (((with_reducible apply go_pick); rfl; rfl; rfl))
             | (((with_reducible apply go_bx_agg); rfl; rfl; (exact Nat.le_of_ble_eq_true rfl); rfl; rfl)))
           | ((with_reducible (show evOps _ _ _ _ _ _)); first
             | (with_reducible apply go_nil)
             | ((with_reducible apply go_run); rfl; rfl)
             | ((with_reducible apply go_pass); rfl; rfl; rfl)
             | (((with_reducible apply go_guard); rfl) <;> (intro h; simp only [h, Bool.not_true, Bool.not_false]; (try with_reducible (refine ⟨rfl, ?_⟩)); try simp only [decide_eq_true_eq, decide_eq_false_iff_not, Bool.not_eq_true', Bool.not_eq_false', Bool.not_true, Bool.not_false] at h; try exact absurd trivial h)))
           | ((with_reducible (show evG _ _ _ _ _)); first
             | (with_reducible apply go_seq)
             | (with_reducible apply go_region)
             | ((with_reducible apply go_cond_t); rfl; rfl)
             | (((with_reducible apply go_cond); rfl) <;> (intro h; simp only [h]; try simp only [decide_eq_true_eq, decide_eq_false_iff_not, Bool.not_eq_true', Bool.not_eq_false', Bool.not_true, Bool.not_false] at h; try exact absurd trivial h))
             | (with_reducible apply go_ret)
             | (with_reducible apply go_skipc)
             | (with_reducible apply go_block))
           | (with_reducible apply go_kseq)
           | (with_reducible apply go_kseq_ret)
           | (with_reducible apply go_kblock)
           | (with_reducible apply go_kblock_ret)
           | ((with_reducible apply end_int); rfl)
  all_goals try (exfalso; omega)
  refine go_count cls.length (fun i => ⟨[(36, .int .i64 i), (34, .sl (cls.map encI)), (35, .int .i64 cls.length), (1, .op 0 0 0)], [(0, ⟨6, true, [[.str nm, .int .i64 area, .int .i64 low, .int .i64 high, .sl (cls.map encI), .int .i64 price]]⟩)], 32, 57⟩) (fun i => True) (entails_eq (nx := 32) (k := 0) (ns := []) (ks := [36, 34, 35, 1]) [(0, 0)] rfl (by simp) (by kernel_rfl)) trivial ?_
  intro i hi _
  by_cases hlt : i < cls.length
  · have hs := hc i hlt
    simp only [clsStep, List.getElem?_eq_getElem hlt, Bool.and_eq_true, Bool.or_eq_true, decide_eq_true_eq] at hs
    have hgd : 0 < i → ∀ h : ((i : Int) - 1).toNat < cls.length, cls.getD (i - 1) 0 = cls[((i : Int) - 1).toNat]'h := fun hp h => by
      have e : ((i : Int) - 1).toNat = i - 1 := by omega
      rw [List.getD_eq_getElem?_getD, ← e, List.getElem?_eq_getElem h]; rfl
    repeat' first
           | (with_reducible apply go_op)
           | (with_reducible apply go_next)
           | ((with_reducible (show evOp _ _ _ _ _ _)); first
             | ((with_reducible (show evOp _ (.move _) _ _ _ _)) ; first | ((with_reducible apply go_mv_int); rfl; rfl) | ((with_reducible apply go_mv_bool); rfl; rfl))
             | ((with_reducible apply go_as))
             | ((with_reducible (show evOp _ (.load _ _) _ _ _ _)) ; first | ((with_reducible apply go_load); rfl; rfl; rfl) | ((with_reducible apply go_load_own); rfl; rfl; rfl; rfl))
             | (((with_reducible apply go_fieldAddr_own); rfl; rfl; rfl))
             | ((with_reducible (show evOp _ (.indexAddr _ _ _) _ _ _ _)) ; first | ((with_reducible apply go_index_nat); rfl; rfl; (with_reducible rfl); (intro; rfl); rfl; omega; (intro hlt)) | ((with_reducible apply go_index); rfl; rfl; (intro; rfl); rfl; omega; intro hlt))
             | ((with_reducible (show evOp _ (.binOp _ _ _ _ _) _ _ _ _)) ; first | ((with_reducible apply go_cmp); rfl; rfl; rfl; rfl) | ((with_reducible apply go_add); rfl; rfl; rfl; omega) | ((with_reducible apply go_sub); rfl; rfl; rfl; omega))
             | (((with_reducible apply go_fn_bool); rfl; (exact k_within _ _ _); rfl))
             | (((with_reducible apply go_not); rfl; rfl))
             | (((with_reducible apply go_pick); rfl; rfl; rfl)))
           | ((with_reducible (show evOps _ _ _ _ _ _)); first
             | (with_reducible apply go_nil)
             | ((with_reducible apply go_run); rfl; rfl)
             | ((with_reducible apply go_pass); rfl; rfl; rfl)
             | (((with_reducible apply go_guard); rfl) <;> (intro h; simp only [h, Bool.not_true, Bool.not_false]; (try with_reducible (refine ⟨rfl, ?_⟩)); try simp only [decide_eq_true_eq, decide_eq_false_iff_not, Bool.not_eq_true', Bool.not_eq_false', Bool.not_true, Bool.not_false] at h; try exact absurd trivial h)))
           | ((with_reducible (show evG _ _ _ _ _)); first
             | (with_reducible apply go_seq)
             | (with_reducible apply go_region)
             | ((with_reducible apply go_cond_f); rfl; rfl)
             | (((with_reducible apply go_cond); rfl) <;> (intro h; simp only [h]; try simp only [decide_eq_true_eq, decide_eq_false_iff_not, Bool.not_eq_true', Bool.not_eq_false', Bool.not_true, Bool.not_false] at h; try exact absurd trivial h))
             | (with_reducible apply go_ret)
             | (with_reducible apply go_skipc)
             | (with_reducible apply go_block)
             | (with_reducible apply go_exit))
           | (with_reducible apply go_kseq)
           | (with_reducible apply go_kseq_ret)
           | (with_reducible apply go_kblock)
           | (with_reducible apply go_kblock_ret)
           | (with_reducible apply go_kblock_exit)
           | (with_reducible apply go_kseq_exit)
           | ((with_reducible apply end_int); rfl)
           | (with_reducible rfl)
    all_goals first
      | exact absurd hlt (by omega)
      | (exfalso; omega)
      | (exfalso; have e := hgd (by omega) (by omega); omega)
      | exact ⟨by omega, trivial, entails_eq (nx := 32) (k := 0) (ns := []) (ks := [36, 34, 35, 1]) [(0, 0)] rfl (by simp) (by kernel_rfl)⟩
      | trace_state
  · repeat' first
           | (with_reducible apply go_op)
           | (with_reducible apply go_next)
           | ((with_reducible (show evOp _ _ _ _ _ _)); first
             | (((with_reducible apply go_mv_int); rfl; rfl))
             | ((with_reducible apply go_as))
             | (((with_reducible apply go_load); rfl; rfl; rfl))
             | (((with_reducible apply go_index_nat); rfl; rfl; (with_reducible rfl); (intro; rfl); rfl; omega; (intro hlt)))
             | (((with_reducible apply go_cmp); rfl; rfl; rfl; rfl)))
           | ((with_reducible (show evOps _ _ _ _ _ _)); first
             | (with_reducible apply go_nil))
           | ((with_reducible (show evG _ _ _ _ _)); first
             | (with_reducible apply go_seq)
             | (with_reducible apply go_region)
             | (((with_reducible apply go_cond); rfl) <;> (intro h; simp only [h]; try simp only [decide_eq_true_eq, decide_eq_false_iff_not, Bool.not_eq_true', Bool.not_eq_false', Bool.not_true, Bool.not_false] at h; try exact absurd trivial h))
             | (with_reducible apply go_ret)
             | (with_reducible apply go_skipc)
             | (with_reducible apply go_block)
             | (with_reducible apply go_exit))
           | (with_reducible apply go_kseq)
           | (with_reducible apply go_kblock_exit)
           | (with_reducible apply go_kseq_exit)
           | ((with_reducible apply end_int); rfl)
           | (with_reducible rfl)
    all_goals first
      | exact absurd hlt (by omega)
      | rfl
      | trace_state
theorem k_checkFactor (b : Bulk) (hb : bulkOK b = true) : Contract Try.prog 58 [.agg (encBulk b)] (.ret (.int .i64 0)) := by
  have h := of_decide_eq_true hb
  refine contract_of mix Try.func58 rfl rfl (by rw [Try.ntmps58]; exact Nat.le_of_ble_eq_true rfl) ?_; rw [Try.results58, Try.ntmps58]; simp only [argsE, Nat.reduceAdd]
  repeat' first
           | (with_reducible apply go_op)
           | (with_reducible apply go_next)
           | ((with_reducible (show evOp _ _ _ _ _ _)); first
             | ((with_reducible (show evOp _ (.move _) _ _ _ _)) ; first | ((with_reducible apply go_mv_int); rfl; rfl) | ((with_reducible apply go_mv_bool); rfl; rfl))
             | ((with_reducible apply go_as))
             | (((with_reducible apply go_load_own); rfl; rfl; rfl; rfl))
             | (((with_reducible apply go_fieldAddr_own); rfl; rfl; rfl))
             | (((with_reducible apply go_mul); rfl; rfl; rfl; omega))
             | (((with_reducible apply go_fn_bool); rfl; (exact k_within _ _ _); rfl))
             | (((with_reducible apply go_not); rfl; rfl))
             | (((with_reducible apply go_pick); rfl; rfl; rfl))
             | (((with_reducible apply go_bx_agg); rfl; rfl; (exact Nat.le_of_ble_eq_true rfl); rfl; rfl)))
           | ((with_reducible (show evOps _ _ _ _ _ _)); first
             | (with_reducible apply go_nil)
             | ((with_reducible apply go_run); rfl; rfl)
             | ((with_reducible apply go_pass); rfl; rfl; rfl)
             | (((with_reducible apply go_guard); rfl) <;> (intro h; simp only [h, Bool.not_true, Bool.not_false]; (try with_reducible (refine ⟨rfl, ?_⟩)); try simp only [decide_eq_true_eq, decide_eq_false_iff_not, Bool.not_eq_true', Bool.not_eq_false', Bool.not_true, Bool.not_false] at h; try exact absurd trivial h)))
           | ((with_reducible (show evG _ _ _ _ _)); first
             | (with_reducible apply go_seq)
             | (with_reducible apply go_region)
             | ((with_reducible apply go_cond_t); rfl; rfl)
             | (((with_reducible apply go_cond); rfl) <;> (intro h; simp only [h]; try simp only [decide_eq_true_eq, decide_eq_false_iff_not, Bool.not_eq_true', Bool.not_eq_false', Bool.not_true, Bool.not_false] at h; try exact absurd trivial h))
             | (with_reducible apply go_ret)
             | (with_reducible apply go_skipc))
           | (with_reducible apply go_kseq)
           | (with_reducible apply go_kseq_ret)
           | ((with_reducible apply end_int); rfl)
           | (with_reducible rfl)
  all_goals first | rfl | (exfalso; omega) | trace_state
theorem k_capacity (p : Pit) (hp : pitOK p = true) : Contract Try.prog 62 [.agg (encPit p)] (.ret (.int .i64 (capE p))) := by
  have h := of_decide_eq_true hp
  have hm : 0 ≤ p.area * (p.high - p.low) ∧ p.area * (p.high - p.low) ≤ 40000000000000 := by
    refine ⟨Int.mul_nonneg (by omega) (by omega), ?_⟩
    have := Int.mul_le_mul h.1.2 (show p.high - p.low ≤ 40000 by omega) (by omega) (by omega)
    omega
  refine contract_of mix Try.func62 rfl rfl (by rw [Try.ntmps62]; exact Nat.le_of_ble_eq_true rfl) ?_; rw [Try.results62, Try.ntmps62]; simp only [argsE, Nat.reduceAdd]
  repeat' first
           | (with_reducible apply go_op)
           | (with_reducible apply go_next)
           | ((with_reducible (show evOp _ _ _ _ _ _)); first
             | (((with_reducible apply go_mv_int); rfl; rfl))
             | ((with_reducible apply go_as))
             | (((with_reducible apply go_load_own); rfl; rfl; rfl; rfl))
             | (((with_reducible apply go_fieldAddr_own); rfl; rfl; rfl))
             | ((with_reducible (show evOp _ (.binOp _ _ _ _ _) _ _ _ _)) ; first | ((with_reducible apply go_sub); rfl; rfl; rfl; omega) | ((with_reducible apply go_mul); rfl; rfl; rfl; omega))
             | (((with_reducible apply go_bx_agg); rfl; rfl; (exact Nat.le_of_ble_eq_true rfl); rfl; rfl)))
           | ((with_reducible (show evOps _ _ _ _ _ _)); first
             | (with_reducible apply go_nil))
           | ((with_reducible (show evG _ _ _ _ _)); first
             | (with_reducible apply go_seq)
             | (with_reducible apply go_region)
             | (with_reducible apply go_ret))
           | (with_reducible apply go_kseq)
           | ((with_reducible apply end_int); rfl)
  rfl
theorem k_taken (s : Yard) (n : ByteArray) (hl : s.deps.length ≤ 200) (hd : ∀ d ∈ s.deps, depOK d = true) : Contract Try.prog 63 [.agg (encYard s), .str n] (.ret (.int .i64 (takE s.deps n))) := by
  refine contract_of mix Try.func63 rfl rfl (by rw [Try.ntmps63]; exact Nat.le_of_ble_eq_true rfl) ?_; rw [Try.results63, Try.ntmps63]; simp only [argsE, Nat.reduceAdd]
  repeat' first
           | (with_reducible apply go_op)
           | (with_reducible apply go_next)
           | ((with_reducible (show evOp _ _ _ _ _ _)); first
             | (((with_reducible apply go_mv_int); rfl; rfl))
             | ((with_reducible apply go_as))
             | (((with_reducible apply go_load_own); rfl; rfl; rfl; rfl))
             | (((with_reducible apply go_fieldAddr_own); rfl; rfl; rfl))
             | (((with_reducible apply go_len); rfl; rfl))
             | (((with_reducible apply go_bx_agg); rfl; rfl; (exact Nat.le_of_ble_eq_true rfl); rfl; rfl)))
           | ((with_reducible (show evOps _ _ _ _ _ _)); first
             | (with_reducible apply go_nil))
           | ((with_reducible (show evG _ _ _ _ _)); first
             | (with_reducible apply go_seq)
             | (with_reducible apply go_region)
             | (with_reducible apply go_block))
           | (with_reducible apply go_kseq)
  refine go_count s.deps.length (fun i => ⟨[(5, .int .i64 (takA s.deps n i)), (11, .int .i64 i), (9, .sl (s.deps.map encDep)), (10, .int .i64 s.deps.length), (1, .str n)], [], 32, 25⟩) (fun i => True) (entails_eq (nx := 32) (k := 0) (ns := []) (ks := [5, 11, 9, 10, 1]) [] rfl (by simp) (by kernel_rfl)) trivial ?_
  intro i hi _
  by_cases hlt : i < s.deps.length
  · have hb := takA_bd hd (n := n) i hi
    have e := takA_at (n := n) hlt
    have hv := of_decide_eq_true (hd s.deps[i] (List.getElem_mem _))
    generalize takA s.deps n i = c at *
    repeat' first
           | (with_reducible apply go_op)
           | (with_reducible apply go_next)
           | ((with_reducible (show evOp _ _ _ _ _ _)); first
             | ((with_reducible (show evOp _ (.move _) _ _ _ _)) ; first | ((with_reducible apply go_mv_int); rfl; rfl) | ((with_reducible apply go_mv_str); rfl; rfl))
             | ((with_reducible apply go_as))
             | ((with_reducible (show evOp _ (.load _ _) _ _ _ _)) ; first | ((with_reducible apply go_ld_ptr); rfl; rfl; rfl) | ((with_reducible apply go_load_own); rfl; rfl; rfl; rfl))
             | (((with_reducible apply go_fieldAddr_own); rfl; rfl; rfl))
             | (((with_reducible apply go_index_nat); rfl; rfl; (with_reducible rfl); (intro; rfl); rfl; omega; (intro hlt)))
             | ((with_reducible (show evOp _ (.binOp _ _ _ _ _) _ _ _ _)) ; first | ((with_reducible apply go_cmp); rfl; rfl; rfl; rfl) | ((with_reducible apply go_add); rfl; rfl; rfl; omega) | ((with_reducible apply go_bin); rfl; rfl))
             | (((with_reducible apply go_st_agg); rfl; rfl; rfl; rfl; rfl; rfl; rfl))
             | (((with_reducible apply go_alloc); rfl; rfl; rfl)))
           | ((with_reducible (show evOps _ _ _ _ _ _)); first
             | (with_reducible apply go_nil))
           | ((with_reducible (show evG _ _ _ _ _)); first
             | (with_reducible apply go_seq)
             | (with_reducible apply go_region)
             | (((with_reducible apply go_cond); rfl) <;> (intro h; simp only [h]; try simp only [decide_eq_true_eq, decide_eq_false_iff_not, Bool.not_eq_true', Bool.not_eq_false', Bool.not_true, Bool.not_false] at h; try exact absurd trivial h))
             | (with_reducible apply go_ret)
             | (with_reducible apply go_skipc)
             | (with_reducible apply go_block)
             | (with_reducible apply go_exit))
           | (with_reducible apply go_kseq)
           | (with_reducible apply go_kblock)
           | (with_reducible apply go_kblock_exit)
           | (with_reducible apply go_kseq_exit)
           | ((with_reducible apply end_int); rfl)
    all_goals first
      | exact absurd hlt (by omega)
      | (first | rw [if_pos (by assumption)] at e | (rw [if_neg (by assumption), Int.add_zero] at e)
         refine ⟨hlt, trivial, ?_⟩
         show Entails _ ⟨[(5, .int .i64 (takA s.deps n (i + 1))), (11, .int .i64 (i + 1 : Nat)), (9, .sl (s.deps.map encDep)), (10, .int .i64 s.deps.length), (1, .str n)], [], 32, 25⟩
         rw [e]
         exact entails_eq (nx := 32) (k := 0) (ns := []) (ks := [5, 11, 9, 10, 1]) [] rfl (by simp) (by kernel_rfl))
      | trace_state
  · have e : i = s.deps.length := by omega
    subst e
    repeat' first
           | (with_reducible apply go_op)
           | (with_reducible apply go_next)
           | ((with_reducible (show evOp _ _ _ _ _ _)); first
             | ((with_reducible (show evOp _ (.move _) _ _ _ _)) ; first | ((with_reducible apply go_mv_int); rfl; rfl) | ((with_reducible apply go_mv_str); rfl; rfl))
             | ((with_reducible apply go_as))
             | ((with_reducible (show evOp _ (.load _ _) _ _ _ _)) ; first | ((with_reducible apply go_ld_ptr); rfl; rfl; rfl) | ((with_reducible apply go_load_own); rfl; rfl; rfl; rfl))
             | (((with_reducible apply go_fieldAddr_own); rfl; rfl; rfl))
             | (((with_reducible apply go_index_nat); rfl; rfl; (with_reducible rfl); (intro; rfl); rfl; omega; (intro hlt)))
             | ((with_reducible (show evOp _ (.binOp _ _ _ _ _) _ _ _ _)) ; first | ((with_reducible apply go_cmp); rfl; rfl; rfl; rfl) | ((with_reducible apply go_add); rfl; rfl; rfl; omega) | ((with_reducible apply go_bin); rfl; rfl))
             | (((with_reducible apply go_st_agg); rfl; rfl; rfl; rfl; rfl; rfl; rfl))
             | (((with_reducible apply go_alloc); rfl; rfl; rfl)))
           | ((with_reducible (show evOps _ _ _ _ _ _)); first
             | (with_reducible apply go_nil))
           | ((with_reducible (show evG _ _ _ _ _)); first
             | (with_reducible apply go_seq)
             | (with_reducible apply go_region)
             | (((with_reducible apply go_cond); rfl) <;> (intro h; simp only [h]; try simp only [decide_eq_true_eq, decide_eq_false_iff_not, Bool.not_eq_true', Bool.not_eq_false', Bool.not_true, Bool.not_false] at h; try exact absurd trivial h))
             | (with_reducible apply go_ret)
             | (with_reducible apply go_skipc)
             | (with_reducible apply go_block)
             | (with_reducible apply go_exit))
           | (with_reducible apply go_kseq)
           | (with_reducible apply go_kblock)
           | (with_reducible apply go_kblock_exit)
           | (with_reducible apply go_kseq_exit)
           | ((with_reducible apply end_int); rfl)
    all_goals first
      | exact absurd hlt (by omega)
      | rfl
      | trace_state
theorem k_room (s : Yard) (p : Pit) (hp : pitOK p = true) (hl : s.deps.length ≤ 200) (hd : ∀ d ∈ s.deps, depOK d = true) : Contract Try.prog 41 [.agg (encYard s), .agg (encPit p)] (.ret (.int .i64 (capE p - takE s.deps p.name))) := by
  have h := of_decide_eq_true hp
  have hm : 0 ≤ capE p ∧ capE p ≤ 40000000000000 := by
    refine ⟨Int.mul_nonneg (by omega) (by omega), ?_⟩
    have := Int.mul_le_mul h.1.2 (show p.high - p.low ≤ 40000 by omega) (by omega) (by omega)
    unfold capE; omega
  have hb := takA_bd hd (n := p.name) s.deps.length (Nat.le_refl _)
  have hb' : 0 ≤ takE s.deps p.name ∧ takE s.deps p.name ≤ 20000000000000000 := by unfold takE; omega
  have h1 := k_capacity p hp
  have h2 := k_taken s p.name hl hd
  refine contract_of mix Try.func41 rfl rfl (by rw [Try.ntmps41]; exact Nat.le_of_ble_eq_true rfl) ?_; rw [Try.results41, Try.ntmps41]; simp only [argsE, Nat.reduceAdd]
  repeat' first
           | (with_reducible apply go_op)
           | (with_reducible apply go_next)
           | ((with_reducible (show evOp _ _ _ _ _ _)); first
             | (((with_reducible apply go_mv_int); rfl; rfl))
             | ((with_reducible apply go_as))
             | ((with_reducible (show evOp _ (.load _ _) _ _ _ _)) ; first | ((with_reducible apply go_ld_agg); rfl; rfl; rfl; rfl) | ((with_reducible apply go_load_own); rfl; rfl; rfl; rfl))
             | (((with_reducible apply go_fieldAddr_own); rfl; rfl; rfl))
             | (((with_reducible apply go_sub); rfl; rfl; rfl; omega))
             | ((with_reducible (show evOp _ (.call _) _ _ _ _)) ; first | ((with_reducible apply go_fn_int); rfl; (exact h1); rfl) | ((with_reducible apply go_fn_int); rfl; (exact h2); rfl))
             | (((with_reducible apply go_bx_agg); rfl; rfl; (exact Nat.le_of_ble_eq_true rfl); rfl; rfl)))
           | ((with_reducible (show evOps _ _ _ _ _ _)); first
             | (with_reducible apply go_nil)
             | ((with_reducible apply go_pre); rfl)
             | (with_reducible apply go_pre_nil)
             | ((with_reducible apply go_suf); rfl)
             | (with_reducible apply go_suf_nil))
           | ((with_reducible (show evG _ _ _ _ _)); first
             | (with_reducible apply go_seq)
             | (with_reducible apply go_region)
             | ((with_reducible apply go_order); kernel_rfl; rfl)
             | (with_reducible apply go_ret))
           | (with_reducible apply go_kseq)
           | (with_reducible apply go_ksuf)
           | ((with_reducible apply end_int); rfl)
           | (with_reducible rfl)
end Go.Pv.Soil
