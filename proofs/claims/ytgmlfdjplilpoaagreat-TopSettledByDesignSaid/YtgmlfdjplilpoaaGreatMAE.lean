import Derived.Test.YtgmlfdjplilpoaaGreatProg
import Derived.Test.YtgmlfdjplilpoaaGreatMAD
import Derived.KernelRfl
import Derived.Test.YtgmlfdjplilpoaaGreatMAC
/- Part of the proofs over YtgmlfdjplilpoaaGreat: TZFacts, S1, PH1, K30, K31, PH2, PH3, PH10, PH11, PH12, K32, S2, S3, S4, S5, S6, S7, S8, S9. -/
set_option linter.unusedVariables false
set_option linter.unusedSimpArgs false
set_option linter.unnecessarySimpa false
open Go Go.Proofs Go.Pv
namespace Go.Pv.Tf
instance tsh0 : TSh Tryz.prog 0 .one := ⟨by kernel_rfl⟩
instance tcl0 : TCells Tryz.prog 0 1 := ⟨by kernel_rfl, by decide⟩
instance tsh3 : TSh Tryz.prog 3 .one := ⟨by kernel_rfl⟩
instance tcl3 : TCells Tryz.prog 3 1 := ⟨by kernel_rfl, by decide⟩
instance tze3 : TZero Tryz.prog 3 (.int .i64 0) := ⟨by kernel_rfl, rfl, by decide⟩
instance tsh4 : TSh Tryz.prog 4 .one := ⟨by kernel_rfl⟩
instance tcl4 : TCells Tryz.prog 4 1 := ⟨by kernel_rfl, by decide⟩
instance tze4 : TZero Tryz.prog 4 (.bool false) := ⟨by kernel_rfl, rfl, by decide⟩
instance tsh5 : TSh Tryz.prog 5 .one := ⟨by kernel_rfl⟩
instance tcl5 : TCells Tryz.prog 5 1 := ⟨by kernel_rfl, by decide⟩
instance tze5 : TZero Tryz.prog 5 (.int .u8 0) := ⟨by kernel_rfl, rfl, by decide⟩
instance tsh9 : TSh Tryz.prog 9 .one := ⟨by kernel_rfl⟩
instance tst9 : TStr Tryz.prog 9 := ⟨by kernel_rfl⟩
instance tcl9 : TCells Tryz.prog 9 1 := ⟨by kernel_rfl, by decide⟩
instance tze9 : TZero Tryz.prog 9 (.str ByteArray.empty) := ⟨by kernel_rfl, rfl, by decide⟩
instance tsh20 : TSh Tryz.prog 20 .one := ⟨by kernel_rfl⟩
instance tcl20 : TCells Tryz.prog 20 1 := ⟨by kernel_rfl, by decide⟩
instance tze20 : TZero Tryz.prog 20 (.nilif) := ⟨by kernel_rfl, rfl, by decide⟩
instance tsh22 : TSh Tryz.prog 22 .one := ⟨by kernel_rfl⟩
instance tcl22 : TCells Tryz.prog 22 1 := ⟨by kernel_rfl, by decide⟩
instance tsl22 : TSlice Tryz.prog 22 37 5 := ⟨by kernel_rfl, by kernel_rfl, by decide⟩
instance tze22 : TZero Tryz.prog 22 (.nilsl) := ⟨by kernel_rfl, rfl, by decide⟩
instance tsh23 : TSh Tryz.prog 23 .one := ⟨by kernel_rfl⟩
instance tcl23 : TCells Tryz.prog 23 1 := ⟨by kernel_rfl, by decide⟩
instance tsl23 : TSlice Tryz.prog 23 54 3 := ⟨by kernel_rfl, by kernel_rfl, by decide⟩
instance tze23 : TZero Tryz.prog 23 (.nilsl) := ⟨by kernel_rfl, rfl, by decide⟩
instance tsh25 : TSh Tryz.prog 25 (.many 5) := ⟨by kernel_rfl⟩
instance tcl25 : TCells Tryz.prog 25 5 := ⟨by kernel_rfl, by decide⟩
instance tfl25x0 : TField Tryz.prog 25 0 0 9 := ⟨by kernel_rfl, kne (k := 1) (by kernel_rfl) (by decide)⟩
instance tfl25x1 : TField Tryz.prog 25 1 1 22 := ⟨by kernel_rfl, kne (k := 1) (by kernel_rfl) (by decide)⟩
instance tfl25x2 : TField Tryz.prog 25 2 2 3 := ⟨by kernel_rfl, kne (k := 1) (by kernel_rfl) (by decide)⟩
instance tfl25x3 : TField Tryz.prog 25 3 3 3 := ⟨by kernel_rfl, kne (k := 1) (by kernel_rfl) (by decide)⟩
instance tfl25x4 : TField Tryz.prog 25 4 4 23 := ⟨by kernel_rfl, kne (k := 1) (by kernel_rfl) (by decide)⟩
instance tly25 : TLay Tryz.prog 25 [.str ByteArray.empty, .nilsl, .int .i64 0, .int .i64 0, .nilsl] [(0, 1), (1, 1), (2, 1), (3, 1), (4, 1)] := ⟨by kernel_rfl⟩
instance tze25 : TZero Tryz.prog 25 (.agg [.str ByteArray.empty, .nilsl, .int .i64 0, .int .i64 0, .nilsl]) := ⟨by kernel_rfl, rfl, by decide⟩
instance tsh26 : TSh Tryz.prog 26 .one := ⟨by kernel_rfl⟩
instance tcl26 : TCells Tryz.prog 26 1 := ⟨by kernel_rfl, by decide⟩
instance tsl26 : TSlice Tryz.prog 26 3 1 := ⟨by kernel_rfl, by kernel_rfl, by decide⟩
instance tze26 : TZero Tryz.prog 26 (.nilsl) := ⟨by kernel_rfl, rfl, by decide⟩
instance tsh28 : TSh Tryz.prog 28 (.many 6) := ⟨by kernel_rfl⟩
instance tcl28 : TCells Tryz.prog 28 6 := ⟨by kernel_rfl, by decide⟩
instance tfl28x0 : TField Tryz.prog 28 0 0 3 := ⟨by kernel_rfl, kne (k := 1) (by kernel_rfl) (by decide)⟩
instance tfl28x1 : TField Tryz.prog 28 1 1 3 := ⟨by kernel_rfl, kne (k := 1) (by kernel_rfl) (by decide)⟩
instance tfl28x2 : TField Tryz.prog 28 2 2 3 := ⟨by kernel_rfl, kne (k := 1) (by kernel_rfl) (by decide)⟩
instance tfl28x3 : TField Tryz.prog 28 3 3 3 := ⟨by kernel_rfl, kne (k := 1) (by kernel_rfl) (by decide)⟩
instance tfl28x4 : TField Tryz.prog 28 4 4 3 := ⟨by kernel_rfl, kne (k := 1) (by kernel_rfl) (by decide)⟩
instance tfl28x5 : TField Tryz.prog 28 5 5 26 := ⟨by kernel_rfl, kne (k := 1) (by kernel_rfl) (by decide)⟩
instance tly28 : TLay Tryz.prog 28 [.int .i64 0, .int .i64 0, .int .i64 0, .int .i64 0, .int .i64 0, .nilsl] [(0, 1), (1, 1), (2, 1), (3, 1), (4, 1), (5, 1)] := ⟨by kernel_rfl⟩
instance tze28 : TZero Tryz.prog 28 (.agg [.int .i64 0, .int .i64 0, .int .i64 0, .int .i64 0, .int .i64 0, .nilsl]) := ⟨by kernel_rfl, rfl, by decide⟩
instance tsh29 : TSh Tryz.prog 29 .one := ⟨by kernel_rfl⟩
instance tcl29 : TCells Tryz.prog 29 1 := ⟨by kernel_rfl, by decide⟩
instance tze29 : TZero Tryz.prog 29 (.int .u16 0) := ⟨by kernel_rfl, rfl, by decide⟩
instance tsh37 : TSh Tryz.prog 37 (.many 5) := ⟨by kernel_rfl⟩
instance tcl37 : TCells Tryz.prog 37 5 := ⟨by kernel_rfl, by decide⟩
instance tfl37x0 : TField Tryz.prog 37 0 0 3 := ⟨by kernel_rfl, kne (k := 1) (by kernel_rfl) (by decide)⟩
instance tfl37x1 : TField Tryz.prog 37 1 1 3 := ⟨by kernel_rfl, kne (k := 1) (by kernel_rfl) (by decide)⟩
instance tfl37x2 : TField Tryz.prog 37 2 2 3 := ⟨by kernel_rfl, kne (k := 1) (by kernel_rfl) (by decide)⟩
instance tfl37x3 : TField Tryz.prog 37 3 3 3 := ⟨by kernel_rfl, kne (k := 1) (by kernel_rfl) (by decide)⟩
instance tfl37x4 : TField Tryz.prog 37 4 4 3 := ⟨by kernel_rfl, kne (k := 1) (by kernel_rfl) (by decide)⟩
instance tly37 : TLay Tryz.prog 37 [.int .i64 0, .int .i64 0, .int .i64 0, .int .i64 0, .int .i64 0] [(0, 1), (1, 1), (2, 1), (3, 1), (4, 1)] := ⟨by kernel_rfl⟩
instance tze37 : TZero Tryz.prog 37 (.agg [.int .i64 0, .int .i64 0, .int .i64 0, .int .i64 0, .int .i64 0]) := ⟨by kernel_rfl, rfl, by decide⟩
instance tsh39 : TSh Tryz.prog 39 .one := ⟨by kernel_rfl⟩
instance tcl39 : TCells Tryz.prog 39 1 := ⟨by kernel_rfl, by decide⟩
instance tze39 : TZero Tryz.prog 39 (.int .i64 0) := ⟨by kernel_rfl, rfl, by decide⟩
instance tsh40 : TSh Tryz.prog 40 .one := ⟨by kernel_rfl⟩
instance tcl40 : TCells Tryz.prog 40 1 := ⟨by kernel_rfl, by decide⟩
instance tsh43 : TSh Tryz.prog 43 .one := ⟨by kernel_rfl⟩
instance tcl43 : TCells Tryz.prog 43 1 := ⟨by kernel_rfl, by decide⟩
instance tsh45 : TSh Tryz.prog 45 .one := ⟨by kernel_rfl⟩
instance tcl45 : TCells Tryz.prog 45 1 := ⟨by kernel_rfl, by decide⟩
instance tsh49 : TSh Tryz.prog 49 (.many 3) := ⟨by kernel_rfl⟩
instance tcl49 : TCells Tryz.prog 49 3 := ⟨by kernel_rfl, by decide⟩
instance tfl49x0 : TField Tryz.prog 49 0 0 3 := ⟨by kernel_rfl, kne (k := 1) (by kernel_rfl) (by decide)⟩
instance tfl49x1 : TField Tryz.prog 49 1 1 3 := ⟨by kernel_rfl, kne (k := 1) (by kernel_rfl) (by decide)⟩
instance tfl49x2 : TField Tryz.prog 49 2 2 3 := ⟨by kernel_rfl, kne (k := 1) (by kernel_rfl) (by decide)⟩
instance tly49 : TLay Tryz.prog 49 [.int .i64 0, .int .i64 0, .int .i64 0] [(0, 1), (1, 1), (2, 1)] := ⟨by kernel_rfl⟩
instance tze49 : TZero Tryz.prog 49 (.agg [.int .i64 0, .int .i64 0, .int .i64 0]) := ⟨by kernel_rfl, rfl, by decide⟩
instance tsh50 : TSh Tryz.prog 50 .one := ⟨by kernel_rfl⟩
instance tcl50 : TCells Tryz.prog 50 1 := ⟨by kernel_rfl, by decide⟩
instance tsh52 : TSh Tryz.prog 52 .one := ⟨by kernel_rfl⟩
instance tcl52 : TCells Tryz.prog 52 1 := ⟨by kernel_rfl, by decide⟩
instance tsl52 : TSlice Tryz.prog 52 76 2 := ⟨by kernel_rfl, by kernel_rfl, by decide⟩
instance tze52 : TZero Tryz.prog 52 (.nilsl) := ⟨by kernel_rfl, rfl, by decide⟩
instance tsh54 : TSh Tryz.prog 54 (.many 3) := ⟨by kernel_rfl⟩
instance tcl54 : TCells Tryz.prog 54 3 := ⟨by kernel_rfl, by decide⟩
instance tfl54x0 : TField Tryz.prog 54 0 0 9 := ⟨by kernel_rfl, kne (k := 1) (by kernel_rfl) (by decide)⟩
instance tfl54x1 : TField Tryz.prog 54 1 1 3 := ⟨by kernel_rfl, kne (k := 1) (by kernel_rfl) (by decide)⟩
instance tfl54x2 : TField Tryz.prog 54 2 2 52 := ⟨by kernel_rfl, kne (k := 1) (by kernel_rfl) (by decide)⟩
instance tly54 : TLay Tryz.prog 54 [.str ByteArray.empty, .int .i64 0, .nilsl] [(0, 1), (1, 1), (2, 1)] := ⟨by kernel_rfl⟩
instance tze54 : TZero Tryz.prog 54 (.agg [.str ByteArray.empty, .int .i64 0, .nilsl]) := ⟨by kernel_rfl, rfl, by decide⟩
instance tsh56 : TSh Tryz.prog 56 .one := ⟨by kernel_rfl⟩
instance tcl56 : TCells Tryz.prog 56 1 := ⟨by kernel_rfl, by decide⟩
instance tsl56 : TSlice Tryz.prog 56 28 6 := ⟨by kernel_rfl, by kernel_rfl, by decide⟩
instance tze56 : TZero Tryz.prog 56 (.nilsl) := ⟨by kernel_rfl, rfl, by decide⟩
instance tsh63 : TSh Tryz.prog 63 .one := ⟨by kernel_rfl⟩
instance tcl63 : TCells Tryz.prog 63 1 := ⟨by kernel_rfl, by decide⟩
instance tze63 : TZero Tryz.prog 63 (.nilfunc) := ⟨by kernel_rfl, rfl, by decide⟩
instance tsh65 : TSh Tryz.prog 65 .one := ⟨by kernel_rfl⟩
instance tcl65 : TCells Tryz.prog 65 1 := ⟨by kernel_rfl, by decide⟩
instance tze65 : TZero Tryz.prog 65 (.nilfunc) := ⟨by kernel_rfl, rfl, by decide⟩
instance tsh69 : TSh Tryz.prog 69 (.many 2) := ⟨by kernel_rfl⟩
instance tcl69 : TCells Tryz.prog 69 2 := ⟨by kernel_rfl, by decide⟩
instance tfl69x0 : TField Tryz.prog 69 0 0 3 := ⟨by kernel_rfl, kne (k := 1) (by kernel_rfl) (by decide)⟩
instance tfl69x1 : TField Tryz.prog 69 1 1 3 := ⟨by kernel_rfl, kne (k := 1) (by kernel_rfl) (by decide)⟩
instance tly69 : TLay Tryz.prog 69 [.int .i64 0, .int .i64 0] [(0, 1), (1, 1)] := ⟨by kernel_rfl⟩
instance tze69 : TZero Tryz.prog 69 (.agg [.int .i64 0, .int .i64 0]) := ⟨by kernel_rfl, rfl, by decide⟩
instance tsh71 : TSh Tryz.prog 71 .one := ⟨by kernel_rfl⟩
instance tcl71 : TCells Tryz.prog 71 1 := ⟨by kernel_rfl, by decide⟩
instance tze71 : TZero Tryz.prog 71 (.nilfunc) := ⟨by kernel_rfl, rfl, by decide⟩
instance tsh74 : TSh Tryz.prog 74 .one := ⟨by kernel_rfl⟩
instance tcl74 : TCells Tryz.prog 74 1 := ⟨by kernel_rfl, by decide⟩
instance tze74 : TZero Tryz.prog 74 (.nilfunc) := ⟨by kernel_rfl, rfl, by decide⟩
instance tsh76 : TSh Tryz.prog 76 (.many 2) := ⟨by kernel_rfl⟩
instance tcl76 : TCells Tryz.prog 76 2 := ⟨by kernel_rfl, by decide⟩
instance tfl76x0 : TField Tryz.prog 76 0 0 3 := ⟨by kernel_rfl, kne (k := 1) (by kernel_rfl) (by decide)⟩
instance tfl76x1 : TField Tryz.prog 76 1 1 3 := ⟨by kernel_rfl, kne (k := 1) (by kernel_rfl) (by decide)⟩
instance tly76 : TLay Tryz.prog 76 [.int .i64 0, .int .i64 0] [(0, 1), (1, 1)] := ⟨by kernel_rfl⟩
instance tze76 : TZero Tryz.prog 76 (.agg [.int .i64 0, .int .i64 0]) := ⟨by kernel_rfl, rfl, by decide⟩
instance tsh79 : TSh Tryz.prog 79 .one := ⟨by kernel_rfl⟩
instance tcl79 : TCells Tryz.prog 79 1 := ⟨by kernel_rfl, by decide⟩
instance tsh87 : TSh Tryz.prog 87 (.many 5) := ⟨by kernel_rfl⟩
instance tcl87 : TCells Tryz.prog 87 5 := ⟨by kernel_rfl, by decide⟩
instance tfl87x0 : TField Tryz.prog 87 0 0 3 := ⟨by kernel_rfl, kne (k := 1) (by kernel_rfl) (by decide)⟩
instance tfl87x1 : TField Tryz.prog 87 1 1 3 := ⟨by kernel_rfl, kne (k := 1) (by kernel_rfl) (by decide)⟩
instance tfl87x2 : TField Tryz.prog 87 2 2 3 := ⟨by kernel_rfl, kne (k := 1) (by kernel_rfl) (by decide)⟩
instance tfl87x3 : TField Tryz.prog 87 3 3 3 := ⟨by kernel_rfl, kne (k := 1) (by kernel_rfl) (by decide)⟩
instance tfl87x4 : TField Tryz.prog 87 4 4 3 := ⟨by kernel_rfl, kne (k := 1) (by kernel_rfl) (by decide)⟩
instance tly87 : TLay Tryz.prog 87 [.int .i64 0, .int .i64 0, .int .i64 0, .int .i64 0, .int .i64 0] [(0, 1), (1, 1), (2, 1), (3, 1), (4, 1)] := ⟨by kernel_rfl⟩
instance tze87 : TZero Tryz.prog 87 (.agg [.int .i64 0, .int .i64 0, .int .i64 0, .int .i64 0, .int .i64 0]) := ⟨by kernel_rfl, rfl, by decide⟩
instance tsh93 : TSh Tryz.prog 93 .one := ⟨by kernel_rfl⟩
instance tcl93 : TCells Tryz.prog 93 1 := ⟨by kernel_rfl, by decide⟩
instance tsl93 : TSlice Tryz.prog 93 96 4 := ⟨by kernel_rfl, by kernel_rfl, by decide⟩
instance tze93 : TZero Tryz.prog 93 (.nilsl) := ⟨by kernel_rfl, rfl, by decide⟩
instance tsh96 : TSh Tryz.prog 96 (.many 4) := ⟨by kernel_rfl⟩
instance tcl96 : TCells Tryz.prog 96 4 := ⟨by kernel_rfl, by decide⟩
instance tfl96x0 : TField Tryz.prog 96 0 0 3 := ⟨by kernel_rfl, kne (k := 1) (by kernel_rfl) (by decide)⟩
instance tfl96x1 : TField Tryz.prog 96 1 1 3 := ⟨by kernel_rfl, kne (k := 1) (by kernel_rfl) (by decide)⟩
instance tfl96x2 : TField Tryz.prog 96 2 2 3 := ⟨by kernel_rfl, kne (k := 1) (by kernel_rfl) (by decide)⟩
instance tfl96x3 : TField Tryz.prog 96 3 3 3 := ⟨by kernel_rfl, kne (k := 1) (by kernel_rfl) (by decide)⟩
instance tly96 : TLay Tryz.prog 96 [.int .i64 0, .int .i64 0, .int .i64 0, .int .i64 0] [(0, 1), (1, 1), (2, 1), (3, 1)] := ⟨by kernel_rfl⟩
instance tze96 : TZero Tryz.prog 96 (.agg [.int .i64 0, .int .i64 0, .int .i64 0, .int .i64 0]) := ⟨by kernel_rfl, rfl, by decide⟩
instance tsh98 : TSh Tryz.prog 98 .one := ⟨by kernel_rfl⟩
instance tcl98 : TCells Tryz.prog 98 1 := ⟨by kernel_rfl, by decide⟩
instance tsh106 : TSh Tryz.prog 106 .one := ⟨by kernel_rfl⟩
instance tcl106 : TCells Tryz.prog 106 1 := ⟨by kernel_rfl, by decide⟩
instance tze106 : TZero Tryz.prog 106 (.int .u64 0) := ⟨by kernel_rfl, rfl, by decide⟩
instance tsh107 : TSh Tryz.prog 107 .one := ⟨by kernel_rfl⟩
instance tcl107 : TCells Tryz.prog 107 1 := ⟨by kernel_rfl, by decide⟩
instance tsh109 : TSh Tryz.prog 109 .one := ⟨by kernel_rfl⟩
instance tcl109 : TCells Tryz.prog 109 1 := ⟨by kernel_rfl, by decide⟩
instance tsh113 : TSh Tryz.prog 113 .one := ⟨by kernel_rfl⟩
instance tcl113 : TCells Tryz.prog 113 1 := ⟨by kernel_rfl, by decide⟩
instance tze113 : TZero Tryz.prog 113 (.nilfunc) := ⟨by kernel_rfl, rfl, by decide⟩
instance tsh117 : TSh Tryz.prog 117 .one := ⟨by kernel_rfl⟩
instance tcl117 : TCells Tryz.prog 117 1 := ⟨by kernel_rfl, by decide⟩
instance tze117 : TZero Tryz.prog 117 (.int .u32 0) := ⟨by kernel_rfl, rfl, by decide⟩
instance tsh118 : TSh Tryz.prog 118 .one := ⟨by kernel_rfl⟩
instance tcl118 : TCells Tryz.prog 118 1 := ⟨by kernel_rfl, by decide⟩
instance tsh120 : TSh Tryz.prog 120 .one := ⟨by kernel_rfl⟩
instance tcl120 : TCells Tryz.prog 120 1 := ⟨by kernel_rfl, by decide⟩
instance tze120 : TZero Tryz.prog 120 (.int .u64 0) := ⟨by kernel_rfl, rfl, by decide⟩
instance tsh121 : TSh Tryz.prog 121 .one := ⟨by kernel_rfl⟩
instance tcl121 : TCells Tryz.prog 121 1 := ⟨by kernel_rfl, by decide⟩
instance tsh123 : TSh Tryz.prog 123 .one := ⟨by kernel_rfl⟩
instance tcl123 : TCells Tryz.prog 123 1 := ⟨by kernel_rfl, by decide⟩
instance tsh128 : TSh Tryz.prog 128 .one := ⟨by kernel_rfl⟩
instance tcl128 : TCells Tryz.prog 128 1 := ⟨by kernel_rfl, by decide⟩
instance tze128 : TZero Tryz.prog 128 (.nilfunc) := ⟨by kernel_rfl, rfl, by decide⟩
instance tsh130 : TSh Tryz.prog 130 (.many 2) := ⟨by kernel_rfl⟩
instance tcl130 : TCells Tryz.prog 130 2 := ⟨by kernel_rfl, by decide⟩
instance tfl130x0 : TField Tryz.prog 130 0 0 39 := ⟨by kernel_rfl, kne (k := 1) (by kernel_rfl) (by decide)⟩
instance tfl130x1 : TField Tryz.prog 130 1 1 128 := ⟨by kernel_rfl, kne (k := 1) (by kernel_rfl) (by decide)⟩
instance tly130 : TLay Tryz.prog 130 [.int .i64 0, .nilfunc] [(0, 1), (1, 1)] := ⟨by kernel_rfl⟩
instance tze130 : TZero Tryz.prog 130 (.agg [.int .i64 0, .nilfunc]) := ⟨by kernel_rfl, rfl, by decide⟩
instance tsh131 : TSh Tryz.prog 131 (.many 8) := ⟨by kernel_rfl⟩
instance tcl131 : TCells Tryz.prog 131 8 := ⟨by kernel_rfl, by decide⟩
instance tze131 : TZero Tryz.prog 131 (.agg [.int .i64 0, .nilfunc, .int .i64 0, .nilfunc, .int .i64 0, .nilfunc, .int .i64 0, .nilfunc]) := ⟨by kernel_rfl, rfl, by decide⟩
instance tsh137 : TSh Tryz.prog 137 .one := ⟨by kernel_rfl⟩
instance tcl137 : TCells Tryz.prog 137 1 := ⟨by kernel_rfl, by decide⟩
instance teq37 : TEq Tryz.prog 37 [.i, .i, .i, .i, .i] := ⟨by kernel_rfl⟩
instance teq49 : TEq Tryz.prog 49 [.i, .i, .i] := ⟨by kernel_rfl⟩
instance teq69 : TEq Tryz.prog 69 [.i, .i] := ⟨by kernel_rfl⟩
instance teq76 : TEq Tryz.prog 76 [.i, .i] := ⟨by kernel_rfl⟩
instance teq87 : TEq Tryz.prog 87 [.i, .i, .i, .i, .i] := ⟨by kernel_rfl⟩
instance teq96 : TEq Tryz.prog 96 [.i, .i, .i, .i] := ⟨by kernel_rfl⟩
instance tar131 : TArr Tryz.prog 131 4 2 := ⟨130, by kernel_rfl, by kernel_rfl, by decide⟩
instance tae131 : TArrE Tryz.prog 131 4 130 2 := ⟨by kernel_rfl, by kernel_rfl, by decide⟩
instance tly131 : TLay Tryz.prog 131 [.int .i64 0, .nilfunc, .int .i64 0, .nilfunc, .int .i64 0, .nilfunc, .int .i64 0, .nilfunc] [(0, 2), (2, 2), (4, 2), (6, 2)] := ⟨by kernel_rfl⟩
end Go.Pv.Tf

open Go Go.Proofs Go.Pv
set_option maxHeartbeats 1000000
set_option maxRecDepth 100000
set_option linter.unusedSimpArgs false
set_option linter.unusedVariables false
namespace Go.Pv.Soil

theorem mix : Tryz.prog.follows .mixedOrders = true := by decide +kernel

theorem c38 (n lo hi : Int) : Contract Tryz.prog 34 [.int .i64 n, .int .i64 lo, .int .i64 hi] (.ret (.bool (decide (lo ≤ n ∧ n ≤ hi)))) := by
  refine contract_of mix Tryz.func34 rfl rfl (by rw [Tryz.ntmps34]; exact Nat.le_of_ble_eq_true rfl) ?_; rw [Tryz.results34, Tryz.ntmps34]; simp only [argsE, Nat.reduceAdd]
  repeat' first
           | (with_reducible apply go_op)
           | (with_reducible apply go_next)
           | ((with_reducible (show evOp _ _ _ _ _ _)); first
             | ((with_reducible (show evOp _ (.move _) _ _ _ _)) ; first | ((with_reducible apply go_mv_int); rfl; rfl) | ((with_reducible apply go_mv_bool); rfl; rfl))
             | ((with_reducible apply go_as))
             | (((with_reducible apply go_cmp); rfl; rfl; rfl; rfl))
             | (((with_reducible apply go_pick); rfl; rfl; rfl)))
           | ((with_reducible (show evOps _ _ _ _ _ _)); first
             | (with_reducible apply go_nil)
             | ((with_reducible apply go_run); rfl; rfl)
             | ((with_reducible apply go_pass); rfl; rfl; rfl)
             | (((with_reducible apply go_guard); rfl) <;> (intro h; simp only [h, Bool.not_true, Bool.not_false]; (try with_reducible (refine ⟨rfl, ?_⟩)); try simp only [decide_eq_true_eq, decide_eq_false_iff_not, Bool.not_eq_true', Bool.not_eq_false', Bool.not_true, Bool.not_false] at h; try exact absurd trivial h)))
           | ((with_reducible (show evG _ _ _ _ _)); first
             | (with_reducible apply go_seq)
             | (with_reducible apply go_region)
             | (with_reducible apply go_ret))
           | (with_reducible apply go_kseq)
           | ((with_reducible apply end_bool); rfl)
  all_goals (simp at *; try omega)
def letter (c : Int) : Bool := decide ((97 ≤ c ∧ c ≤ 122) ∨ (65 ≤ c ∧ c ≤ 90))
def chOK (i : Nat) (c : Int) : Bool := letter c || (decide (i ≠ 0) && decide (c = 45 ∨ (48 ≤ c ∧ c ≤ 57)))
def nameOK (s : ByteArray) : Bool := decide (1 ≤ s.size ∧ s.size ≤ 12) && (List.range s.size).all fun i => chOK i (byteAt s i)

theorem nameOK_size {s : ByteArray} (h : s.size < 1 ∨ 12 < s.size) : false = nameOK s := by
  have : decide (1 ≤ s.size ∧ s.size ≤ 12) = false := by simp; omega
  simp only [nameOK, this, Bool.false_and]

theorem nameOK_not {s : ByteArray} {i : Nat} (hi : i < s.size) (h : chOK i (byteAt s i) = false) : false = nameOK s := by
  have : ((List.range s.size).all fun i => chOK i (byteAt s i)) = false := by
    rw [List.all_eq_false]
    exact ⟨i, by simpa using hi, by simp [h]⟩
  simp only [nameOK, this, Bool.and_false]

theorem nameOK_yes {s : ByteArray} (h1 : ¬ s.size < 1) (h2 : ¬ 12 < s.size) (h : ∀ j, j < s.size → chOK j (byteAt s j) = true) : true = nameOK s := by
  have e : ((List.range s.size).all fun i => chOK i (byteAt s i)) = true := by
    rw [List.all_eq_true]
    exact fun j hj => h j (by simpa using hj)
  have e2 : decide (1 ≤ s.size ∧ s.size ≤ 12) = true := by simp; omega
  simp only [nameOK, e, e2, Bool.and_true]

theorem chars_step {s : ByteArray} {i : Nat} (hC : ∀ j, j < i → chOK j (byteAt s j) = true) (h : chOK i (byteAt s i) = true) : ∀ j, j < i + 1 → chOK j (byteAt s j) = true := fun j hj => by
  rcases Nat.lt_succ_iff_lt_or_eq.1 hj with h' | rfl
  · exact hC j h'
  · exact h

theorem chOK_yes {i : Nat} {c : Int} (h : ((97 ≤ c ∧ c ≤ 122) ∨ (65 ≤ c ∧ c ≤ 90)) ∨ (i ≠ 0 ∧ (c = 45 ∨ (48 ≤ c ∧ c ≤ 57)))) : chOK i c = true := by
  simpa only [chOK, letter, Bool.or_eq_true, Bool.and_eq_true, decide_eq_true_eq] using h
theorem chOK_no {i : Nat} {c : Int} (h : ¬ (((97 ≤ c ∧ c ≤ 122) ∨ (65 ≤ c ∧ c ≤ 90)) ∨ (i ≠ 0 ∧ (c = 45 ∨ (48 ≤ c ∧ c ≤ 57))))) : chOK i c = false := by
  rw [← Bool.not_eq_true]
  simpa only [chOK, letter, Bool.or_eq_true, Bool.and_eq_true, decide_eq_true_eq] using h

theorem c83 (s : ByteArray) : Contract Tryz.prog 36 [.str s] (.ret (.bool (nameOK s))) := by
  refine contract_of mix Tryz.func36 rfl rfl (by rw [Tryz.ntmps36]; exact Nat.le_of_ble_eq_true rfl) ?_; rw [Tryz.results36, Tryz.ntmps36]; simp only [argsE, Nat.reduceAdd]
  repeat' first
           | (with_reducible apply go_op)
           | (with_reducible apply go_next)
           | ((with_reducible (show evOp _ _ _ _ _ _)); first
             | ((with_reducible (show evOp _ (.move _) _ _ _ _)) ; first | ((with_reducible apply go_mv_int); rfl; rfl) | ((with_reducible apply go_mv_bool); rfl; rfl) | ((with_reducible apply go_mv_str); rfl; rfl))
             | ((with_reducible apply go_as))
             | (((with_reducible apply go_cmp); rfl; rfl; rfl; rfl))
             | (((with_reducible apply go_len_str); rfl; rfl))
             | (((with_reducible apply go_pick); rfl; rfl; rfl)))
           | ((with_reducible (show evOps _ _ _ _ _ _)); first
             | (with_reducible apply go_nil)
             | ((with_reducible apply go_run); rfl; rfl)
             | ((with_reducible apply go_pass); rfl; rfl; rfl)
             | (((with_reducible apply go_guard); rfl) <;> (intro h; simp only [h, Bool.not_true, Bool.not_false]; (try with_reducible (refine ⟨rfl, ?_⟩)); try simp only [decide_eq_true_eq, decide_eq_false_iff_not, Bool.not_eq_true', Bool.not_eq_false', Bool.not_true, Bool.not_false] at h; try exact absurd trivial h)))
           | ((with_reducible (show evG _ _ _ _ _)); first
             | (with_reducible apply go_seq)
             | (with_reducible apply go_region)
             | ((with_reducible apply go_cond_t); rfl; rfl)
             | (((with_reducible apply go_cond); rfl) <;> (intro h; simp only [h]; try simp only [decide_eq_true_eq, decide_eq_false_iff_not, Bool.not_eq_true', Bool.not_eq_false', Bool.not_true, Bool.not_false] at h; try exact absurd trivial h))
             | (with_reducible apply go_ret)
             | (with_reducible apply go_skipc)
             | (with_reducible apply go_block))
           | (with_reducible apply go_kseq)
           | (with_reducible apply go_kseq_ret)
           | ((with_reducible apply end_bool); rfl)
  · exact nameOK_size (by omega)
  rotate_left
  · exact nameOK_size (by omega)
  · refine go_count s.size (fun i => ⟨[(3, .int .i64 i), (0, .str s)], [], 0, 55⟩) (fun i => ∀ j, j < i → chOK j (byteAt s j) = true) (entails_eq (k := 0) (ns := []) (ks := [3, 0]) [] rfl (by simp) rfl) (by omega) ?_
    intro i hi hC
    repeat' first
           | (with_reducible apply go_op)
           | (with_reducible apply go_next)
           | ((with_reducible (show evOp _ _ _ _ _ _)); first
             | ((with_reducible (show evOp _ (.move _) _ _ _ _)) ; first | ((with_reducible apply go_mv_int); rfl; rfl) | ((with_reducible apply go_mv_bool); rfl; rfl) | ((with_reducible apply go_mv_str); rfl; rfl))
             | ((with_reducible apply go_as))
             | ((with_reducible (show evOp _ (.binOp _ _ _ _ _) _ _ _ _)) ; first | ((with_reducible apply go_cmp); rfl; rfl; rfl; rfl) | ((with_reducible apply go_add); rfl; rfl; rfl; omega))
             | (((with_reducible apply go_len_str); rfl; rfl))
             | (((with_reducible apply go_index_str); rfl; rfl; rfl; omega))
             | (((with_reducible apply go_not); rfl; rfl))
             | (((with_reducible apply go_pick); rfl; rfl; rfl)))
           | ((with_reducible (show evOps _ _ _ _ _ _)); first
             | (with_reducible apply go_nil)
             | ((with_reducible apply go_run); rfl; rfl)
             | ((with_reducible apply go_pass); rfl; rfl; rfl)
             | ((with_reducible apply go_skip); rfl; rfl)
             | (((with_reducible apply go_guard); rfl) <;> (intro h; simp only [h, Bool.not_true, Bool.not_false]; (try with_reducible (refine ⟨rfl, ?_⟩)); try simp only [decide_eq_true_eq, decide_eq_false_iff_not, Bool.not_eq_true', Bool.not_eq_false', Bool.not_true, Bool.not_false] at h; try exact absurd trivial h)))
           | ((with_reducible (show evG _ _ _ _ _)); first
             | (with_reducible apply go_seq)
             | (with_reducible apply go_region)
             | ((with_reducible apply go_cond_t); rfl; rfl)
             | ((with_reducible apply go_cond_f); rfl; rfl)
             | (((with_reducible apply go_cond); rfl) <;> (intro h; simp only [h]; try simp only [decide_eq_true_eq, decide_eq_false_iff_not, Bool.not_eq_true', Bool.not_eq_false', Bool.not_true, Bool.not_false] at h; try exact absurd trivial h))
             | (with_reducible apply go_ret)
             | (with_reducible apply go_skipc)
             | (with_reducible apply go_block)
             | (with_reducible apply go_exit))
           | (with_reducible apply go_kseq)
           | (with_reducible apply go_kseq_ret)
           | (with_reducible apply go_kblock)
           | (with_reducible apply go_kblock_ret)
           | (with_reducible apply go_kblock_exit)
           | (with_reducible apply go_kseq_exit)
           | ((with_reducible apply end_bool); rfl)
    all_goals try simp only [Int.toNat_natCast] at *
    all_goals first
      | exact nameOK_not (i := i) (by omega) (chOK_no (by omega))
      | exact ⟨by omega, chars_step hC (chOK_yes (by omega)), entails_eq (k := 0) (ns := []) (ks := [3, 0]) [] rfl (by simp) rfl⟩
      | exact nameOK_yes (by omega) (by omega) fun j hj => hC j (by omega)
end Go.Pv.Soil

open Go Go.Proofs Go.Pv
set_option maxHeartbeats 4000000
set_option maxRecDepth 100000
set_option linter.unusedSimpArgs false
set_option linter.unusedVariables false
namespace Go.Pv.Geo

theorem mix : Tryz.prog.follows .mixedOrders = true := by decide +kernel
structure Pt where
  x : Int
  y : Int
  deriving DecidableEq
def encPt (p : Pt) : List D := [.int .i64 p.x, .int .i64 p.y]
theorem scalPt : ScalF encPt 2 := fun _ => ⟨rfl, rfl⟩
def ptOK (p : Pt) : Bool := decide ((-1000000 ≤ p.x ∧ p.x ≤ 1000000) ∧ (-1000000 ≤ p.y ∧ p.y ≤ 1000000))
theorem pt_bd {p : Pt} (h : ptOK p = true) : (-1000000 ≤ p.x ∧ p.x ≤ 1000000) ∧ -1000000 ≤ p.y ∧ p.y ≤ 1000000 := by simpa [ptOK] using h
theorem pt_no {p : Pt} (h : ¬ ((-1000000 ≤ p.x ∧ p.x ≤ 1000000) ∧ (-1000000 ≤ p.y ∧ p.y ≤ 1000000))) : true = !ptOK p := by
  simp only [ptOK, decide_eq_false h, Bool.not_false]
theorem pt_yes {p : Pt} (h : (-1000000 ≤ p.x ∧ p.x ≤ 1000000) ∧ (-1000000 ≤ p.y ∧ p.y ≤ 1000000)) : false = !ptOK p := by
  simp only [ptOK, decide_eq_true h, Bool.not_true]

def idxOf {α : Type} (p : α → Bool) (l : List α) : Int := match l.findIdx? p with
  | some i => i
  | none => -1
theorem idxOf_none {α : Type} {p : α → Bool} {l : List α} (h : ∀ x ∈ l, p x = false) : idxOf p l = -1 := by
  have : l.findIdx? p = none := by simpa using h
  rw [idxOf, this]
theorem idxOf_some {α : Type} {p : α → Bool} {l : List α} {i : Nat} (hi : i < l.length) (h : p l[i] = true) (hb : ∀ j (hj : j < i), p (l[j]'(by omega)) = false) : idxOf p l = i := by
  have : l.findIdx? p = some i := by
    rw [List.findIdx?_eq_some_iff_getElem]
    exact ⟨hi, h, fun j hj => by simpa using hb j hj⟩
  rw [idxOf, this]
theorem idxOf_ge {α : Type} {p : α → Bool} {l : List α} : decide (0 ≤ idxOf p l) = l.any p := by
  unfold idxOf
  cases h : l.findIdx? p with
  | none =>
    have : l.any p = false := by
      rw [List.findIdx?_eq_none_iff] at h
      rw [List.any_eq_false]
      intro x hx
      simp [h x hx]
    rw [this]; rfl
  | some i =>
    have : l.any p = true := by
      rw [List.findIdx?_eq_some_iff_getElem] at h
      obtain ⟨hi, h1, _⟩ := h
      exact List.any_eq_true.2 ⟨l[i], List.getElem_mem hi, h1⟩
    rw [this]
    simp

theorem c_within (n lo hi : Int) : Contract Tryz.prog 34 [.int .i64 n, .int .i64 lo, .int .i64 hi] (.ret (.bool (decide (lo ≤ n ∧ n ≤ hi)))) := by
  refine contract_of mix Tryz.func34 rfl rfl (by rw [Tryz.ntmps34]; exact Nat.le_of_ble_eq_true rfl) ?_; rw [Tryz.results34, Tryz.ntmps34]; simp only [argsE, Nat.reduceAdd]
  repeat' first
           | (with_reducible apply go_op)
           | (with_reducible apply go_next)
           | ((with_reducible (show evOp _ _ _ _ _ _)); first
             | ((with_reducible (show evOp _ (.move _) _ _ _ _)) ; first | ((with_reducible apply go_mv_int); rfl; rfl) | ((with_reducible apply go_mv_bool); rfl; rfl))
             | ((with_reducible apply go_as))
             | (((with_reducible apply go_cmp); rfl; rfl; rfl; rfl))
             | (((with_reducible apply go_pick); rfl; rfl; rfl)))
           | ((with_reducible (show evOps _ _ _ _ _ _)); first
             | (with_reducible apply go_nil)
             | ((with_reducible apply go_run); rfl; rfl)
             | ((with_reducible apply go_pass); rfl; rfl; rfl)
             | (((with_reducible apply go_guard); rfl) <;> (intro h; simp only [h, Bool.not_true, Bool.not_false]; (try with_reducible (refine ⟨rfl, ?_⟩)); try simp only [decide_eq_true_eq, decide_eq_false_iff_not, Bool.not_eq_true', Bool.not_eq_false', Bool.not_true, Bool.not_false] at h; try exact absurd trivial h)))
           | ((with_reducible (show evG _ _ _ _ _)); first
             | (with_reducible apply go_seq)
             | (with_reducible apply go_region)
             | (with_reducible apply go_ret))
           | (with_reducible apply go_kseq)
           | ((with_reducible apply end_bool); rfl)
  all_goals (simp at *; try omega)
theorem c_good (p : Pt) : Contract Tryz.prog 37 [.agg (encPt p)] (.ret (.bool (ptOK p))) := by
  refine contract_of mix Tryz.func37 rfl rfl (by rw [Tryz.ntmps37]; exact Nat.le_of_ble_eq_true rfl) ?_; rw [Tryz.results37, Tryz.ntmps37]; simp only [argsE, Nat.reduceAdd]
  repeat' first
           | (with_reducible apply go_op)
           | (with_reducible apply go_next)
           | ((with_reducible (show evOp _ _ _ _ _ _)); first
             | (((with_reducible apply go_mv_bool); rfl; rfl))
             | ((with_reducible apply go_as))
             | (((with_reducible apply go_load_own); rfl; rfl; rfl; rfl))
             | (((with_reducible apply go_fieldAddr_own); rfl; rfl; rfl))
             | (((with_reducible apply go_fn_bool); rfl; (exact c_within _ _ _); rfl))
             | (((with_reducible apply go_pick); rfl; rfl; rfl))
             | (((with_reducible apply go_bx_agg); rfl; rfl; (exact Nat.le_of_ble_eq_true rfl); rfl; rfl)))
           | ((with_reducible (show evOps _ _ _ _ _ _)); first
             | (with_reducible apply go_nil)
             | ((with_reducible apply go_run); rfl; rfl)
             | ((with_reducible apply go_pass); rfl; rfl; rfl)
             | (((with_reducible apply go_guard); rfl) <;> (intro h; simp only [h, Bool.not_true, Bool.not_false]; (try with_reducible (refine ⟨rfl, ?_⟩)); try simp only [decide_eq_true_eq, decide_eq_false_iff_not, Bool.not_eq_true', Bool.not_eq_false', Bool.not_true, Bool.not_false] at h; try exact absurd trivial h)))
           | ((with_reducible (show evG _ _ _ _ _)); first
             | (with_reducible apply go_seq)
             | (with_reducible apply go_region)
             | (with_reducible apply go_ret))
           | (with_reducible apply go_kseq)
           | ((with_reducible apply end_bool); rfl)
  all_goals (unfold ptOK; first | exact decide_eq_decide.2 (by omega) | exact (decide_eq_true (by omega)).symm | exact (decide_eq_false (by omega)).symm | trace_state)
theorem c_outside1 (p : Pt) : Contract Tryz.prog 102 [.agg (encPt p)] (.ret (.bool (!ptOK p))) := by
  refine contract_of mix Tryz.func102 rfl rfl (by rw [Tryz.ntmps102]; exact Nat.le_of_ble_eq_true rfl) ?_; rw [Tryz.results102, Tryz.ntmps102]; simp only [argsE, Nat.reduceAdd]
  repeat' first
           | (with_reducible apply go_op)
           | (with_reducible apply go_next)
           | ((with_reducible (show evOp _ _ _ _ _ _)); first
             | (((with_reducible apply go_mv_bool); rfl; rfl))
             | ((with_reducible apply go_as))
             | (((with_reducible apply go_load_own); rfl; rfl; rfl; rfl))
             | (((with_reducible apply go_fieldAddr_own); rfl; rfl; rfl))
             | (((with_reducible apply go_cmp); rfl; rfl; rfl; rfl))
             | (((with_reducible apply go_pick); rfl; rfl; rfl))
             | (((with_reducible apply go_bx_agg); rfl; rfl; (exact Nat.le_of_ble_eq_true rfl); rfl; rfl)))
           | ((with_reducible (show evOps _ _ _ _ _ _)); first
             | (with_reducible apply go_nil)
             | ((with_reducible apply go_run); rfl; rfl)
             | ((with_reducible apply go_pass); rfl; rfl; rfl)
             | (((with_reducible apply go_guard); rfl) <;> (intro h; simp only [h, Bool.not_true, Bool.not_false]; (try with_reducible (refine ⟨rfl, ?_⟩)); try simp only [decide_eq_true_eq, decide_eq_false_iff_not, Bool.not_eq_true', Bool.not_eq_false', Bool.not_true, Bool.not_false] at h; try exact absurd trivial h)))
           | ((with_reducible (show evG _ _ _ _ _)); first
             | (with_reducible apply go_seq)
             | (with_reducible apply go_region)
             | (with_reducible apply go_ret))
           | (with_reducible apply go_kseq)
           | ((with_reducible apply end_bool); rfl)
  · by_cases h4 : 1000000 < p.y
    · rw [decide_eq_true h4]; exact pt_no (p := p) (by omega)
    · rw [decide_eq_false h4]; exact pt_yes (p := p) (by omega)
  all_goals exact pt_no (p := p) (by omega)
theorem c_IndexFunc (l : List Pt) (hl : l.length < 1000000000000) (g : FuncId) (p : Pt → Bool) (hf : ∀ x ∈ l, Contract Tryz.prog g [.agg (encPt x)] (.ret (.bool (p x)))) :
    Contract Tryz.prog 108 [.sl (l.map encPt), .clo (.func g) [] []] (.ret (.int .i64 (idxOf p l))) := by
  refine contract_of mix Tryz.func108 rfl rfl (by rw [Tryz.ntmps108]; exact Nat.le_of_ble_eq_true rfl) ?_; rw [Tryz.results108, Tryz.ntmps108]; simp only [argsE, Nat.reduceAdd]
  repeat' first
           | (with_reducible apply go_op)
           | (with_reducible apply go_next)
           | ((with_reducible (show evOp _ _ _ _ _ _)); first
             | ((with_reducible (show evOp _ (.move _) _ _ _ _)) ; first | ((with_reducible apply go_mv_int); rfl; rfl) | ((with_reducible apply go_mv_sl); rfl; rfl))
             | ((with_reducible apply go_as))
             | (((with_reducible apply go_len); rfl; rfl)))
           | ((with_reducible (show evOps _ _ _ _ _ _)); first
             | (with_reducible apply go_nil))
           | ((with_reducible (show evG _ _ _ _ _)); first
             | (with_reducible apply go_seq)
             | (with_reducible apply go_region)
             | (with_reducible apply go_block))
           | (with_reducible apply go_kseq)
  refine go_count (l.length) (fun i => ⟨[(8, .int .i64 i), (7, .int .i64 l.length), (0, .sl (l.map encPt)), (1, .clo (.func g) [] [])], [], 0, 19⟩) (fun i => ∀ j (hj : j < i) (hj' : j < l.length), p l[j] = false) (entails_eq (k := 0) (ns := []) (ks := [8, 7, 0, 1]) [] rfl (by simp) rfl) (by omega) ?_
  intro i hi hC
  repeat' first
           | (with_reducible apply go_op)
           | (with_reducible apply go_next)
           | ((with_reducible (show evOp _ _ _ _ _ _)); first
             | ((with_reducible (show evOp _ (.move _) _ _ _ _)) ; first | ((with_reducible apply go_mv_int); rfl; rfl) | ((with_reducible apply go_mv_sl); rfl; rfl) | ((with_reducible apply go_mv_clo); rfl; rfl))
             | ((with_reducible apply go_as))
             | (((with_reducible apply go_ld_ptr); rfl; rfl; rfl))
             | (((with_reducible apply go_index_nat); rfl; rfl; (with_reducible rfl); (intro; rfl); rfl; omega; (intro hlt)))
             | (((with_reducible apply go_cmp); rfl; rfl; rfl; rfl)))
           | ((with_reducible (show evOps _ _ _ _ _ _)); first
             | (with_reducible apply go_nil))
           | ((with_reducible (show evG _ _ _ _ _)); first
             | (with_reducible apply go_seq)
             | (with_reducible apply go_region)
             | (((with_reducible apply go_cond); rfl) <;> (intro h; simp only [h]; try simp only [decide_eq_true_eq, decide_eq_false_iff_not, Bool.not_eq_true', Bool.not_eq_false', Bool.not_true, Bool.not_false] at h; try exact absurd trivial h))
             | (with_reducible apply go_ret)
             | (with_reducible apply go_skipc)
             | (with_reducible apply go_block)
             | (with_reducible apply go_exit))
           | (with_reducible apply go_kseq)
           | (with_reducible apply go_kblock_exit)
           | (with_reducible apply go_kseq_exit)
           | ((with_reducible apply end_int); rfl)
  · refine go_clo_bool (d1 := .agg (encPt l[i])) rfl rfl (fun _ _ => rfl) (hf l[i] (List.getElem_mem _)) rfl ?_
    repeat' first
           | (with_reducible apply go_op)
           | (with_reducible apply go_next)
           | ((with_reducible (show evOp _ _ _ _ _ _)); first
             | (((with_reducible apply go_mv_int); rfl; rfl))
             | ((with_reducible apply go_as))
             | (((with_reducible apply go_add); rfl; rfl; rfl; omega)))
           | ((with_reducible (show evOps _ _ _ _ _ _)); first
             | (with_reducible apply go_nil))
           | ((with_reducible (show evG _ _ _ _ _)); first
             | (with_reducible apply go_seq)
             | (with_reducible apply go_region)
             | (((with_reducible apply go_cond); rfl) <;> (intro h; simp only [h]; try simp only [decide_eq_true_eq, decide_eq_false_iff_not, Bool.not_eq_true', Bool.not_eq_false', Bool.not_true, Bool.not_false] at h; try exact absurd trivial h))
             | (with_reducible apply go_ret)
             | (with_reducible apply go_skipc))
           | (with_reducible apply go_kseq)
           | (with_reducible apply go_kseq_ret)
           | (with_reducible apply go_kblock)
           | (with_reducible apply go_kblock_ret)
           | ((with_reducible apply end_int); rfl)
    · have h2 : i < l.length := by omega
      exact (idxOf_some h2 h fun j hj => hC j hj (by omega)).symm
    · have h2 : i < l.length := by omega
      refine ⟨by omega, fun j hj hj' => ?_, entails_eq (k := 0) (ns := []) (ks := [8, 7, 0, 1]) [] rfl (by simp) rfl⟩
      rcases Nat.lt_succ_iff_lt_or_eq.1 hj with h' | rfl
      · exact hC j h' hj'
      · exact h
  · refine (idxOf_none fun x hx => ?_).symm
    obtain ⟨j, hj, rfl⟩ := List.mem_iff_getElem.1 hx
    exact hC j (by omega) hj
theorem c_ContainsFunc (l : List Pt) (hl : l.length < 1000000000000) (g : FuncId) (p : Pt → Bool) (hf : ∀ x ∈ l, Contract Tryz.prog g [.agg (encPt x)] (.ret (.bool (p x)))) :
    Contract Tryz.prog 101 [.sl (l.map encPt), .clo (.func g) [] []] (.ret (.bool (l.any p))) := by
  refine contract_of mix Tryz.func101 rfl rfl (by rw [Tryz.ntmps101]; exact Nat.le_of_ble_eq_true rfl) ?_; rw [Tryz.results101, Tryz.ntmps101]; simp only [argsE, Nat.reduceAdd]
  repeat' first
           | (with_reducible apply go_op)
           | (with_reducible apply go_next)
           | ((with_reducible (show evOp _ _ _ _ _ _)); first
             | ((with_reducible (show evOp _ (.move _) _ _ _ _)) ; first | ((with_reducible apply go_mv_bool); rfl; rfl) | ((with_reducible apply go_mv_sl); rfl; rfl) | ((with_reducible apply go_mv_clo); rfl; rfl))
             | ((with_reducible apply go_as))
             | (((with_reducible apply go_cmp); rfl; rfl; rfl; rfl))
             | (((with_reducible apply go_fn_int); rfl; (exact c_IndexFunc l hl g p hf); rfl)))
           | ((with_reducible (show evOps _ _ _ _ _ _)); first
             | (with_reducible apply go_nil))
           | ((with_reducible (show evG _ _ _ _ _)); first
             | (with_reducible apply go_seq)
             | (with_reducible apply go_region)
             | (with_reducible apply go_ret))
           | (with_reducible apply go_kseq)
           | ((with_reducible apply end_bool); rfl)
  exact idxOf_ge
theorem c_outside (l : List Pt) (hl : l.length < 1000000000000) : Contract Tryz.prog 93 [.sl (l.map encPt)] (.ret (.bool (l.any fun p => !ptOK p))) := by
  refine contract_of mix Tryz.func93 rfl rfl (by rw [Tryz.ntmps93]; exact Nat.le_of_ble_eq_true rfl) ?_; rw [Tryz.results93, Tryz.ntmps93]; simp only [argsE, Nat.reduceAdd]
  repeat' first
           | (with_reducible apply go_op)
           | (with_reducible apply go_next)
           | ((with_reducible (show evOp _ _ _ _ _ _)); first
             | ((with_reducible (show evOp _ (.move _) _ _ _ _)) ; first | ((with_reducible apply go_mv_bool); rfl; rfl) | ((with_reducible apply go_mv_sl); rfl; rfl))
             | ((with_reducible apply go_as))
             | (((with_reducible apply go_fn_bool); rfl; (exact c_ContainsFunc l hl 102 (fun p => !ptOK p) fun x _ => c_outside1 x); rfl)))
           | ((with_reducible (show evOps _ _ _ _ _ _)); first
             | (with_reducible apply go_nil))
           | ((with_reducible (show evG _ _ _ _ _)); first
             | (with_reducible apply go_seq)
             | (with_reducible apply go_region)
             | (with_reducible apply go_ret))
           | (with_reducible apply go_kseq)
           | ((with_reducible apply end_bool); rfl)
           | (with_reducible rfl)
theorem c_outside_1 (a : Pt) : Contract Tryz.prog 93 [.sl [encPt a]] (.ret (.bool (!ptOK a))) := by
  have := c_outside [a] (by simp)
  simpa using this
theorem c_outside_2 (a b : Pt) : Contract Tryz.prog 93 [.sl [encPt a, encPt b]] (.ret (.bool (!(ptOK a && ptOK b)))) := by
  have := c_outside [a, b] (by simp)
  simpa [Bool.not_and] using this
theorem c_outside_3 (a b c : Pt) : Contract Tryz.prog 93 [.sl [encPt a, encPt b, encPt c]] (.ret (.bool (!(ptOK a && ptOK b && ptOK c)))) := by
  have := c_outside [a, b, c] (by simp)
  simpa [Bool.not_and, Bool.or_assoc] using this
theorem c_outside_4 (a b c d : Pt) : Contract Tryz.prog 93 [.sl [encPt a, encPt b, encPt c, encPt d]] (.ret (.bool (!(ptOK a && ptOK b && ptOK c && ptOK d)))) := by
  have := c_outside [a, b, c, d] (by simp)
  simpa [Bool.not_and, Bool.or_assoc] using this

theorem mul_abs {u v A B : Int} (hu : -A ≤ u ∧ u ≤ A) (hv : -B ≤ v ∧ v ≤ B) : -(A * B) ≤ u * v ∧ u * v ≤ A * B := by
  have key : ∀ y : Int, 0 ≤ y ∧ y ≤ B → -(A * B) ≤ u * y ∧ u * y ≤ A * B := fun y hy => by
    have h1 : u * y ≤ A * y := Int.mul_le_mul_of_nonneg_right hu.2 hy.1
    have h2 : -A * y ≤ u * y := Int.mul_le_mul_of_nonneg_right hu.1 hy.1
    have h3 : A * y ≤ A * B := Int.mul_le_mul_of_nonneg_left hy.2 (by omega)
    rw [Int.neg_mul] at h2
    omega
  by_cases h : 0 ≤ v
  · exact key v ⟨h, hv.2⟩
  · have := key (-v) ⟨by omega, by omega⟩
    rw [Int.mul_neg] at this
    omega
def crossE (a b c : Pt) : Int := (b.x - a.x) * (c.y - a.y) - (b.y - a.y) * (c.x - a.x)
def dotE (a b c : Pt) : Int := (b.x - a.x) * (c.x - a.x) + (b.y - a.y) * (c.y - a.y)
theorem mul4 {u v : Int} (hu : -2000000 ≤ u ∧ u ≤ 2000000) (hv : -2000000 ≤ v ∧ v ≤ 2000000) : -4000000000000 ≤ u * v ∧ u * v ≤ 4000000000000 := by
  have := mul_abs hu hv; omega
theorem cross_bd {a b c : Pt} (ha : ptOK a = true) (hb : ptOK b = true) (hc : ptOK c = true) : (-4000000000000 ≤ (b.x - a.x) * (c.y - a.y) ∧ (b.x - a.x) * (c.y - a.y) ≤ 4000000000000) ∧ (-4000000000000 ≤ (b.y - a.y) * (c.x - a.x) ∧ (b.y - a.y) * (c.x - a.x) ≤ 4000000000000) := by
  have h1 := pt_bd ha
  have h2 := pt_bd hb
  have h3 := pt_bd hc
  exact ⟨mul4 (by omega) (by omega), mul4 (by omega) (by omega)⟩
theorem dot_bd {a b c : Pt} (ha : ptOK a = true) (hb : ptOK b = true) (hc : ptOK c = true) : (-4000000000000 ≤ (b.x - a.x) * (c.x - a.x) ∧ (b.x - a.x) * (c.x - a.x) ≤ 4000000000000) ∧ (-4000000000000 ≤ (b.y - a.y) * (c.y - a.y) ∧ (b.y - a.y) * (c.y - a.y) ≤ 4000000000000) := by
  have h1 := pt_bd ha
  have h2 := pt_bd hb
  have h3 := pt_bd hc
  exact ⟨mul4 (by omega) (by omega), mul4 (by omega) (by omega)⟩
theorem crossE_bd {a b c : Pt} (ha : ptOK a = true) (hb : ptOK b = true) (hc : ptOK c = true) : -8000000000000 ≤ crossE a b c ∧ crossE a b c ≤ 8000000000000 := by
  have := cross_bd ha hb hc; unfold crossE; omega
theorem dotE_bd {a b c : Pt} (ha : ptOK a = true) (hb : ptOK b = true) (hc : ptOK c = true) : -8000000000000 ≤ dotE a b c ∧ dotE a b c ≤ 8000000000000 := by
  have := dot_bd ha hb hc; unfold dotE; omega
theorem c_cross (a b c : Pt) (ha : ptOK a = true) (hb : ptOK b = true) (hc : ptOK c = true) : Contract Tryz.prog 100 [.agg (encPt a), .agg (encPt b), .agg (encPt c)] (.ret (.int .i64 (crossE a b c))) := by
  have h1 := pt_bd ha
  have h2 := pt_bd hb
  have h3 := pt_bd hc
  have h4 := cross_bd ha hb hc
  refine contract_of mix Tryz.func100 rfl rfl (by rw [Tryz.ntmps100]; exact Nat.le_of_ble_eq_true rfl) ?_; rw [Tryz.results100, Tryz.ntmps100]; simp only [argsE, Nat.reduceAdd]
  repeat' first
           | (with_reducible apply go_op)
           | (with_reducible apply go_next)
           | ((with_reducible (show evOp _ _ _ _ _ _)); first
             | (((with_reducible apply go_mv_int); rfl; rfl))
             | ((with_reducible apply go_as))
             | (((with_reducible apply go_load_own); rfl; rfl; rfl; rfl))
             | (((with_reducible apply go_fieldAddr_own); rfl; rfl; rfl))
             | ((with_reducible (show evOp _ (.binOp _ _ _ _ _) _ _ _ _)) ; first | ((with_reducible apply go_sub); rfl; rfl; rfl; omega) | ((with_reducible apply go_mul); rfl; rfl; rfl; omega))
             | (((with_reducible apply go_bx_agg); rfl; rfl; (exact Nat.le_of_ble_eq_true rfl); rfl; rfl)))
           | ((with_reducible (show evOps _ _ _ _ _ _)); first
             | (with_reducible apply go_nil))
           | ((with_reducible (show evG _ _ _ _ _)); first
             | (with_reducible apply go_seq)
             | (with_reducible apply go_region)
             | (with_reducible apply go_ret))
           | (with_reducible apply go_kseq)
           | ((with_reducible apply end_int); rfl)
  all_goals rfl
theorem c_rcross (a b c : Pt) (ha : ptOK a = true) (hb : ptOK b = true) (hc : ptOK c = true) : Contract Tryz.prog 79 [.agg (encPt a), .agg (encPt b), .agg (encPt c)] (.ret (.int .i64 (crossE a b c))) := by
  have h1 := pt_bd ha
  have h2 := pt_bd hb
  have h3 := pt_bd hc
  have h4 := cross_bd ha hb hc
  refine contract_of mix Tryz.func79 rfl rfl (by rw [Tryz.ntmps79]; exact Nat.le_of_ble_eq_true rfl) ?_; rw [Tryz.results79, Tryz.ntmps79]; simp only [argsE, Nat.reduceAdd]
  repeat' first
           | (with_reducible apply go_op)
           | (with_reducible apply go_next)
           | ((with_reducible (show evOp _ _ _ _ _ _)); first
             | (((with_reducible apply go_mv_int); rfl; rfl))
             | ((with_reducible apply go_as))
             | (((with_reducible apply go_load_own); rfl; rfl; rfl; rfl))
             | (((with_reducible apply go_fieldAddr_own); rfl; rfl; rfl))
             | ((with_reducible (show evOp _ (.binOp _ _ _ _ _) _ _ _ _)) ; first | ((with_reducible apply go_sub); rfl; rfl; rfl; omega) | ((with_reducible apply go_mul); rfl; rfl; rfl; omega))
             | (((with_reducible apply go_bx_agg); rfl; rfl; (exact Nat.le_of_ble_eq_true rfl); rfl; rfl)))
           | ((with_reducible (show evOps _ _ _ _ _ _)); first
             | (with_reducible apply go_nil))
           | ((with_reducible (show evG _ _ _ _ _)); first
             | (with_reducible apply go_seq)
             | (with_reducible apply go_region)
             | (with_reducible apply go_ret))
           | (with_reducible apply go_kseq)
           | ((with_reducible apply end_int); rfl)
  all_goals rfl
theorem c_dot (a b c : Pt) (ha : ptOK a = true) (hb : ptOK b = true) (hc : ptOK c = true) : Contract Tryz.prog 103 [.agg (encPt a), .agg (encPt b), .agg (encPt c)] (.ret (.int .i64 (dotE a b c))) := by
  have h1 := pt_bd ha
  have h2 := pt_bd hb
  have h3 := pt_bd hc
  have h4 := dot_bd ha hb hc
  refine contract_of mix Tryz.func103 rfl rfl (by rw [Tryz.ntmps103]; exact Nat.le_of_ble_eq_true rfl) ?_; rw [Tryz.results103, Tryz.ntmps103]; simp only [argsE, Nat.reduceAdd]
  repeat' first
           | (with_reducible apply go_op)
           | (with_reducible apply go_next)
           | ((with_reducible (show evOp _ _ _ _ _ _)); first
             | (((with_reducible apply go_mv_int); rfl; rfl))
             | ((with_reducible apply go_as))
             | (((with_reducible apply go_load_own); rfl; rfl; rfl; rfl))
             | (((with_reducible apply go_fieldAddr_own); rfl; rfl; rfl))
             | ((with_reducible (show evOp _ (.binOp _ _ _ _ _) _ _ _ _)) ; first | ((with_reducible apply go_add); rfl; rfl; rfl; omega) | ((with_reducible apply go_sub); rfl; rfl; rfl; omega) | ((with_reducible apply go_mul); rfl; rfl; rfl; omega))
             | (((with_reducible apply go_bx_agg); rfl; rfl; (exact Nat.le_of_ble_eq_true rfl); rfl; rfl)))
           | ((with_reducible (show evOps _ _ _ _ _ _)); first
             | (with_reducible apply go_nil))
           | ((with_reducible (show evG _ _ _ _ _)); first
             | (with_reducible apply go_seq)
             | (with_reducible apply go_region)
             | (with_reducible apply go_ret))
           | (with_reducible apply go_kseq)
           | ((with_reducible apply end_int); rfl)
  all_goals rfl
def sqE (a b : Pt) : Int := dotE a b b
def signE (n : Int) : Int := if n < 0 then -1 else if 0 < n then 1 else 0
theorem c_sign (n : Int) : Contract Tryz.prog 90 [.int .i64 n] (.ret (.int .i64 (signE n))) := by
  refine contract_of mix Tryz.func90 rfl rfl (by rw [Tryz.ntmps90]; exact Nat.le_of_ble_eq_true rfl) ?_; rw [Tryz.results90, Tryz.ntmps90]; simp only [argsE, Nat.reduceAdd]
  repeat' first
           | (with_reducible apply go_op)
           | (with_reducible apply go_next)
           | ((with_reducible (show evOp _ _ _ _ _ _)); first
             | (((with_reducible apply go_mv_int); rfl; rfl))
             | ((with_reducible apply go_as))
             | (((with_reducible apply go_cmp); rfl; rfl; rfl; rfl)))
           | ((with_reducible (show evOps _ _ _ _ _ _)); first
             | (with_reducible apply go_nil))
           | ((with_reducible (show evG _ _ _ _ _)); first
             | (with_reducible apply go_seq)
             | (with_reducible apply go_region)
             | (((with_reducible apply go_cond); rfl) <;> (intro h; simp only [h]; try simp only [decide_eq_true_eq, decide_eq_false_iff_not, Bool.not_eq_true', Bool.not_eq_false', Bool.not_true, Bool.not_false] at h; try exact absurd trivial h))
             | (with_reducible apply go_ret)
             | (with_reducible apply go_skipc))
           | (with_reducible apply go_kseq)
           | (with_reducible apply go_kseq_ret)
           | ((with_reducible apply end_int); rfl)
  all_goals (unfold signE; (repeat' split) <;> first | rfl | (exfalso; omega))
theorem c_rorient (a b c : Pt) (ha : ptOK a = true) (hb : ptOK b = true) (hc : ptOK c = true) : Contract Tryz.prog 80 [.agg (encPt a), .agg (encPt b), .agg (encPt c)] (.ret (.int .i64 (signE (crossE a b c)))) := by
  refine contract_of mix Tryz.func80 rfl rfl (by rw [Tryz.ntmps80]; exact Nat.le_of_ble_eq_true rfl) ?_; rw [Tryz.results80, Tryz.ntmps80]; simp only [argsE, Nat.reduceAdd]
  repeat' first
           | (with_reducible apply go_op)
           | (with_reducible apply go_next)
           | ((with_reducible (show evOp _ _ _ _ _ _)); first
             | (((with_reducible apply go_mv_int); rfl; rfl))
             | ((with_reducible apply go_as))
             | (((with_reducible apply go_ld_agg); rfl; rfl; rfl; rfl))
             | ((with_reducible (show evOp _ (.call _) _ _ _ _)) ; first | ((with_reducible apply go_fn_int); rfl; (exact c_rcross a b c ha hb hc); rfl) | ((with_reducible apply go_fn_int); rfl; (exact c_sign _); rfl))
             | (((with_reducible apply go_bx_agg); rfl; rfl; (exact Nat.le_of_ble_eq_true rfl); rfl; rfl)))
           | ((with_reducible (show evOps _ _ _ _ _ _)); first
             | (with_reducible apply go_nil))
           | ((with_reducible (show evG _ _ _ _ _)); first
             | (with_reducible apply go_seq)
             | (with_reducible apply go_region)
             | (with_reducible apply go_ret))
           | (with_reducible apply go_kseq)
           | ((with_reducible apply end_int); rfl)
           | (with_reducible rfl)
theorem c_isNaN (n : Int) : Contract Tryz.prog 112 [.int .i64 n] (.ret (.bool false)) := by
  refine contract_of mix Tryz.func112 rfl rfl (by rw [Tryz.ntmps112]; exact Nat.le_of_ble_eq_true rfl) ?_; rw [Tryz.results112, Tryz.ntmps112]; simp only [argsE, Nat.reduceAdd]
  repeat' first
           | (with_reducible apply go_op)
           | (with_reducible apply go_next)
           | ((with_reducible (show evOp _ _ _ _ _ _)); first
             | ((with_reducible (show evOp _ (.move _) _ _ _ _)) ; first | ((with_reducible apply go_mv_int); rfl; rfl) | ((with_reducible apply go_mv_bool); rfl; rfl))
             | ((with_reducible apply go_as))
             | (((with_reducible apply go_cmp); rfl; rfl; rfl; rfl)))
           | ((with_reducible (show evOps _ _ _ _ _ _)); first
             | (with_reducible apply go_nil))
           | ((with_reducible (show evG _ _ _ _ _)); first
             | (with_reducible apply go_seq)
             | (with_reducible apply go_region)
             | (with_reducible apply go_ret))
           | (with_reducible apply go_kseq)
           | ((with_reducible apply end_bool); rfl)
  all_goals simp
def cmpE (a b : Int) : Int := if a < b then -1 else if b < a then 1 else 0
theorem c_compare (n m : Int) : Contract Tryz.prog 111 [.int .i64 n, .int .i64 m] (.ret (.int .i64 (cmpE n m))) := by
  refine contract_of mix Tryz.func111 rfl rfl (by rw [Tryz.ntmps111]; exact Nat.le_of_ble_eq_true rfl) ?_; rw [Tryz.results111, Tryz.ntmps111]; simp only [argsE, Nat.reduceAdd]
  repeat' first
           | (with_reducible apply go_op)
           | (with_reducible apply go_next)
           | ((with_reducible (show evOp _ _ _ _ _ _)); first
             | ((with_reducible (show evOp _ (.move _) _ _ _ _)) ; first | ((with_reducible apply go_mv_int); rfl; rfl) | ((with_reducible apply go_mv_bool); rfl; rfl))
             | ((with_reducible apply go_as))
             | (((with_reducible apply go_cmp); rfl; rfl; rfl; rfl))
             | (((with_reducible apply go_fn_bool); rfl; (exact c_isNaN _); rfl)))
           | ((with_reducible (show evOps _ _ _ _ _ _)); first
             | (with_reducible apply go_nil))
           | ((with_reducible (show evG _ _ _ _ _)); first
             | (with_reducible apply go_seq)
             | (with_reducible apply go_region)
             | ((with_reducible apply go_cond_f); rfl; rfl)
             | (((with_reducible apply go_cond); rfl) <;> (intro h; simp only [h]; try simp only [decide_eq_true_eq, decide_eq_false_iff_not, Bool.not_eq_true', Bool.not_eq_false', Bool.not_true, Bool.not_false] at h; try exact absurd trivial h))
             | (with_reducible apply go_ret)
             | (with_reducible apply go_skipc))
           | (with_reducible apply go_kseq)
           | (with_reducible apply go_kseq_ret)
           | ((with_reducible apply end_int); rfl)
  all_goals (unfold cmpE; (repeat' split) <;> first | rfl | (exfalso; omega))
theorem c_compare0 (n : Int) : Contract Tryz.prog 111 [.int .i64 n, .int .i64 0] (.ret (.int .i64 (signE n))) := c_compare n 0
theorem c_side (a b c : Pt) (ha : ptOK a = true) (hb : ptOK b = true) (hc : ptOK c = true) : Contract Tryz.prog 110 [.agg (encPt a), .agg (encPt b), .agg (encPt c)] (.ret (.int .i64 (signE (crossE a b c)))) := by
  refine contract_of mix Tryz.func110 rfl rfl (by rw [Tryz.ntmps110]; exact Nat.le_of_ble_eq_true rfl) ?_; rw [Tryz.results110, Tryz.ntmps110]; simp only [argsE, Nat.reduceAdd]
  repeat' first
           | (with_reducible apply go_op)
           | (with_reducible apply go_next)
           | ((with_reducible (show evOp _ _ _ _ _ _)); first
             | (((with_reducible apply go_mv_int); rfl; rfl))
             | ((with_reducible apply go_as))
             | (((with_reducible apply go_ld_agg); rfl; rfl; rfl; rfl))
             | ((with_reducible (show evOp _ (.call _) _ _ _ _)) ; first | ((with_reducible apply go_fn_int); rfl; (exact c_cross a b c ha hb hc); rfl) | ((with_reducible apply go_fn_int); rfl; (exact c_compare0 _); rfl))
             | (((with_reducible apply go_bx_agg); rfl; rfl; (exact Nat.le_of_ble_eq_true rfl); rfl; rfl)))
           | ((with_reducible (show evOps _ _ _ _ _ _)); first
             | (with_reducible apply go_nil))
           | ((with_reducible (show evG _ _ _ _ _)); first
             | (with_reducible apply go_seq)
             | (with_reducible apply go_region)
             | (with_reducible apply go_ret))
           | (with_reducible apply go_kseq)
           | ((with_reducible apply end_int); rfl)
           | (with_reducible rfl)
/-- Is a point on a segment? -/
def onE (a b p : Pt) : Bool := decide (crossE a b p = 0 ∧ (min a.x b.x ≤ p.x ∧ p.x ≤ max a.x b.x) ∧ (min a.y b.y ≤ p.y ∧ p.y ≤ max a.y b.y))
theorem c_on (a b p : Pt) (ha : ptOK a = true) (hb : ptOK b = true) (hp : ptOK p = true) : Contract Tryz.prog 106 [.agg (encPt a), .agg (encPt b), .agg (encPt p)] (.ret (.bool (onE a b p))) := by
  refine contract_of mix Tryz.func106 rfl rfl (by rw [Tryz.ntmps106]; exact Nat.le_of_ble_eq_true rfl) ?_; rw [Tryz.results106, Tryz.ntmps106]; simp only [argsE, Nat.reduceAdd]
  repeat' first
           | (with_reducible apply go_op)
           | (with_reducible apply go_next)
           | ((with_reducible (show evOp _ _ _ _ _ _)); first
             | (((with_reducible apply go_mv_bool); rfl; rfl))
             | ((with_reducible apply go_as))
             | ((with_reducible (show evOp _ (.load _ _) _ _ _ _)) ; first | ((with_reducible apply go_ld_agg); rfl; rfl; rfl; rfl) | ((with_reducible apply go_load_own); rfl; rfl; rfl; rfl))
             | (((with_reducible apply go_fieldAddr_own); rfl; rfl; rfl))
             | (((with_reducible apply go_cmp); rfl; rfl; rfl; rfl))
             | ((with_reducible (show evOp _ (.call _) _ _ _ _)) ; first | ((with_reducible apply go_min); rfl; rfl; rfl) | ((with_reducible apply go_max); rfl; rfl; rfl) | ((with_reducible apply go_fn_int); rfl; (exact c_cross a b p ha hb hp); rfl))
             | (((with_reducible apply go_pick); rfl; rfl; rfl))
             | (((with_reducible apply go_bx_agg); rfl; rfl; (exact Nat.le_of_ble_eq_true rfl); rfl; rfl)))
           | ((with_reducible (show evOps _ _ _ _ _ _)); first
             | (with_reducible apply go_nil)
             | ((with_reducible apply go_run); rfl; rfl)
             | ((with_reducible apply go_pass); rfl; rfl; rfl)
             | (((with_reducible apply go_guard); rfl) <;> (intro h; simp only [h, Bool.not_true, Bool.not_false]; (try with_reducible (refine ⟨rfl, ?_⟩)); try simp only [decide_eq_true_eq, decide_eq_false_iff_not, Bool.not_eq_true', Bool.not_eq_false', Bool.not_true, Bool.not_false] at h; try exact absurd trivial h)))
           | ((with_reducible (show evG _ _ _ _ _)); first
             | (with_reducible apply go_seq)
             | (with_reducible apply go_region)
             | (with_reducible apply go_ret))
           | (with_reducible apply go_kseq)
           | ((with_reducible apply end_bool); rfl)
  all_goals (unfold onE; first | exact (decide_eq_true (by omega)).symm | exact (decide_eq_false (by omega)).symm | (exact decide_eq_decide.2 (by omega)) | trace_state)
theorem c_rbetween (a b p : Pt) (ha : ptOK a = true) (hb : ptOK b = true) (hp : ptOK p = true) : Contract Tryz.prog 65 [.agg (encPt a), .agg (encPt b), .agg (encPt p)] (.ret (.bool (onE a b p))) := by
  refine contract_of mix Tryz.func65 rfl rfl (by rw [Tryz.ntmps65]; exact Nat.le_of_ble_eq_true rfl) ?_; rw [Tryz.results65, Tryz.ntmps65]; simp only [argsE, Nat.reduceAdd]
  repeat' first
           | (with_reducible apply go_op)
           | (with_reducible apply go_next)
           | ((with_reducible (show evOp _ _ _ _ _ _)); first
             | (((with_reducible apply go_mv_bool); rfl; rfl))
             | ((with_reducible apply go_as))
             | ((with_reducible (show evOp _ (.load _ _) _ _ _ _)) ; first | ((with_reducible apply go_ld_agg); rfl; rfl; rfl; rfl) | ((with_reducible apply go_load_own); rfl; rfl; rfl; rfl))
             | (((with_reducible apply go_fieldAddr_own); rfl; rfl; rfl))
             | (((with_reducible apply go_cmp); rfl; rfl; rfl; rfl))
             | ((with_reducible (show evOp _ (.call _) _ _ _ _)) ; first | ((with_reducible apply go_min); rfl; rfl; rfl) | ((with_reducible apply go_max); rfl; rfl; rfl) | ((with_reducible apply go_fn_int); rfl; (exact c_rcross a b p ha hb hp); rfl) | ((with_reducible apply go_fn_bool); rfl; (exact c_within _ _ _); rfl))
             | (((with_reducible apply go_pick); rfl; rfl; rfl))
             | (((with_reducible apply go_bx_agg); rfl; rfl; (exact Nat.le_of_ble_eq_true rfl); rfl; rfl)))
           | ((with_reducible (show evOps _ _ _ _ _ _)); first
             | (with_reducible apply go_nil)
             | ((with_reducible apply go_run); rfl; rfl)
             | ((with_reducible apply go_pass); rfl; rfl; rfl)
             | (((with_reducible apply go_guard); rfl) <;> (intro h; simp only [h, Bool.not_true, Bool.not_false]; (try with_reducible (refine ⟨rfl, ?_⟩)); try simp only [decide_eq_true_eq, decide_eq_false_iff_not, Bool.not_eq_true', Bool.not_eq_false', Bool.not_true, Bool.not_false] at h; try exact absurd trivial h)))
           | ((with_reducible (show evG _ _ _ _ _)); first
             | (with_reducible apply go_seq)
             | (with_reducible apply go_region)
             | (with_reducible apply go_ret))
           | (with_reducible apply go_kseq)
           | ((with_reducible apply end_bool); rfl)
  all_goals (unfold onE; first | exact (decide_eq_true (by omega)).symm | exact (decide_eq_false (by omega)).symm | (exact decide_eq_decide.2 (by omega)) | trace_state)
theorem sign_mul (a b : Int) : -1 ≤ signE a * signE b ∧ signE a * signE b ≤ 1 := by
  have h : ∀ n, -1 ≤ signE n ∧ signE n ≤ 1 := fun n => by unfold signE; (repeat' split) <;> omega
  have := mul_abs (A := 1) (B := 1) (h a) (h b)
  omega
/-- Have two segments a point in common? -/
def meetE (a b c d : Pt) : Bool := (onE a b c || onE a b d || onE c d a || onE c d b) || (decide (signE (crossE a b c) * signE (crossE a b d) < 0) && decide (signE (crossE c d a) * signE (crossE c d b) < 0))
theorem c_meet (a b c d : Pt) (ha : ptOK a = true) (hb : ptOK b = true) (hc : ptOK c = true) (hd : ptOK d = true) : Contract Tryz.prog 107 [.agg (encPt a), .agg (encPt b), .agg (encPt c), .agg (encPt d)] (.ret (.bool (meetE a b c d))) := by
  have s1 := sign_mul (crossE a b c) (crossE a b d)
  have s2 := sign_mul (crossE c d a) (crossE c d b)
  refine contract_of mix Tryz.func107 rfl rfl (by rw [Tryz.ntmps107]; exact Nat.le_of_ble_eq_true rfl) ?_; rw [Tryz.results107, Tryz.ntmps107]; simp only [argsE, Nat.reduceAdd]
  repeat' first
           | (with_reducible apply go_op)
           | (with_reducible apply go_next)
           | ((with_reducible (show evOp _ _ _ _ _ _)); first
             | (((with_reducible apply go_mv_bool); rfl; rfl))
             | ((with_reducible apply go_as))
             | (((with_reducible apply go_ld_agg); rfl; rfl; rfl; rfl))
             | ((with_reducible (show evOp _ (.binOp _ _ _ _ _) _ _ _ _)) ; first | ((with_reducible apply go_cmp); rfl; rfl; rfl; rfl) | ((with_reducible apply go_mul); rfl; rfl; rfl; omega))
             | ((with_reducible (show evOp _ (.call _) _ _ _ _)) ; first | ((with_reducible apply go_fn_bool); rfl; (exact c_on a b c ha hb hc); rfl) | ((with_reducible apply go_fn_bool); rfl; (exact c_on a b d ha hb hd); rfl) | ((with_reducible apply go_fn_bool); rfl; (exact c_on c d a hc hd ha); rfl) | ((with_reducible apply go_fn_bool); rfl; (exact c_on c d b hc hd hb); rfl) | ((with_reducible apply go_fn_int); rfl; (exact c_side a b c ha hb hc); rfl) | ((with_reducible apply go_fn_int); rfl; (exact c_side a b d ha hb hd); rfl) | ((with_reducible apply go_fn_int); rfl; (exact c_side c d a hc hd ha); rfl) | ((with_reducible apply go_fn_int); rfl; (exact c_side c d b hc hd hb); rfl))
             | (((with_reducible apply go_pick); rfl; rfl; rfl))
             | (((with_reducible apply go_bx_agg); rfl; rfl; (exact Nat.le_of_ble_eq_true rfl); rfl; rfl)))
           | ((with_reducible (show evOps _ _ _ _ _ _)); first
             | (with_reducible apply go_nil)
             | ((with_reducible apply go_run); rfl; rfl)
             | ((with_reducible apply go_pass); rfl; rfl; rfl)
             | (((with_reducible apply go_guard); rfl) <;> (intro h; simp only [h, Bool.not_true, Bool.not_false]; (try with_reducible (refine ⟨rfl, ?_⟩)); try simp only [decide_eq_true_eq, decide_eq_false_iff_not, Bool.not_eq_true', Bool.not_eq_false', Bool.not_true, Bool.not_false] at h; try exact absurd trivial h))
             | ((with_reducible apply go_pre); rfl)
             | (with_reducible apply go_pre_nil)
             | ((with_reducible apply go_suf); rfl)
             | (with_reducible apply go_suf_nil))
           | ((with_reducible (show evG _ _ _ _ _)); first
             | (with_reducible apply go_seq)
             | (with_reducible apply go_region)
             | ((with_reducible apply go_cond_t); rfl; rfl)
             | (((with_reducible apply go_cond); rfl) <;> (intro h; simp only [h]; try simp only [decide_eq_true_eq, decide_eq_false_iff_not, Bool.not_eq_true', Bool.not_eq_false', Bool.not_true, Bool.not_false] at h; try exact absurd trivial h))
             | ((with_reducible apply go_order); kernel_rfl; rfl)
             | (with_reducible apply go_ret)
             | (with_reducible apply go_skipc))
           | (with_reducible apply go_kseq)
           | (with_reducible apply go_ksuf)
           | (with_reducible apply go_kseq_ret)
           | ((with_reducible apply end_bool); rfl)
  all_goals (unfold meetE; simp [*])
theorem c_rmeet (a b c d : Pt) (ha : ptOK a = true) (hb : ptOK b = true) (hc : ptOK c = true) (hd : ptOK d = true) : Contract Tryz.prog 66 [.agg (encPt a), .agg (encPt b), .agg (encPt c), .agg (encPt d)] (.ret (.bool (meetE a b c d))) := by
  have s1 := sign_mul (crossE a b c) (crossE a b d)
  have s2 := sign_mul (crossE c d a) (crossE c d b)
  refine contract_of mix Tryz.func66 rfl rfl (by rw [Tryz.ntmps66]; exact Nat.le_of_ble_eq_true rfl) ?_; rw [Tryz.results66, Tryz.ntmps66]; simp only [argsE, Nat.reduceAdd]
  repeat' first
           | (with_reducible apply go_op)
           | (with_reducible apply go_next)
           | ((with_reducible (show evOp _ _ _ _ _ _)); first
             | (((with_reducible apply go_mv_bool); rfl; rfl))
             | ((with_reducible apply go_as))
             | (((with_reducible apply go_ld_agg); rfl; rfl; rfl; rfl))
             | ((with_reducible (show evOp _ (.binOp _ _ _ _ _) _ _ _ _)) ; first | ((with_reducible apply go_cmp); rfl; rfl; rfl; rfl) | ((with_reducible apply go_mul); rfl; rfl; rfl; omega))
             | ((with_reducible (show evOp _ (.call _) _ _ _ _)) ; first | ((with_reducible apply go_fn_bool); rfl; (exact c_rbetween a b c ha hb hc); rfl) | ((with_reducible apply go_fn_bool); rfl; (exact c_rbetween a b d ha hb hd); rfl) | ((with_reducible apply go_fn_bool); rfl; (exact c_rbetween c d a hc hd ha); rfl) | ((with_reducible apply go_fn_bool); rfl; (exact c_rbetween c d b hc hd hb); rfl) | ((with_reducible apply go_fn_int); rfl; (exact c_rorient a b c ha hb hc); rfl) | ((with_reducible apply go_fn_int); rfl; (exact c_rorient a b d ha hb hd); rfl) | ((with_reducible apply go_fn_int); rfl; (exact c_rorient c d a hc hd ha); rfl) | ((with_reducible apply go_fn_int); rfl; (exact c_rorient c d b hc hd hb); rfl))
             | (((with_reducible apply go_pick); rfl; rfl; rfl))
             | (((with_reducible apply go_bx_agg); rfl; rfl; (exact Nat.le_of_ble_eq_true rfl); rfl; rfl)))
           | ((with_reducible (show evOps _ _ _ _ _ _)); first
             | (with_reducible apply go_nil)
             | ((with_reducible apply go_run); rfl; rfl)
             | ((with_reducible apply go_pass); rfl; rfl; rfl)
             | (((with_reducible apply go_guard); rfl) <;> (intro h; simp only [h, Bool.not_true, Bool.not_false]; (try with_reducible (refine ⟨rfl, ?_⟩)); try simp only [decide_eq_true_eq, decide_eq_false_iff_not, Bool.not_eq_true', Bool.not_eq_false', Bool.not_true, Bool.not_false] at h; try exact absurd trivial h))
             | ((with_reducible apply go_pre); rfl)
             | (with_reducible apply go_pre_nil)
             | ((with_reducible apply go_suf); rfl)
             | (with_reducible apply go_suf_nil))
           | ((with_reducible (show evG _ _ _ _ _)); first
             | (with_reducible apply go_seq)
             | (with_reducible apply go_region)
             | ((with_reducible apply go_cond_t); rfl; rfl)
             | (((with_reducible apply go_cond); rfl) <;> (intro h; simp only [h]; try simp only [decide_eq_true_eq, decide_eq_false_iff_not, Bool.not_eq_true', Bool.not_eq_false', Bool.not_true, Bool.not_false] at h; try exact absurd trivial h))
             | ((with_reducible apply go_order); kernel_rfl; rfl)
             | (with_reducible apply go_ret)
             | (with_reducible apply go_skipc))
           | (with_reducible apply go_kseq)
           | (with_reducible apply go_ksuf)
           | (with_reducible apply go_kseq_ret)
           | ((with_reducible apply end_bool); rfl)
  all_goals (unfold meetE; simp [*])
end Go.Pv.Geo

open Go Go.Proofs Go.Pv
set_option maxHeartbeats 4000000
set_option maxRecDepth 100000
set_option linter.unusedSimpArgs false
set_option linter.unusedVariables false
namespace Go.Pv.Soil
structure Axp where
  x : Int
  y : Int
  half : Int
  level : Int
  run : Int
def encAxp (a : Axp) : List D := [.int .i64 a.x, .int .i64 a.y, .int .i64 a.half, .int .i64 a.level, .int .i64 a.run]
def axPt (a : Axp) : Geo.Pt := ⟨a.x, a.y⟩
theorem h_outside (n lo hi : Int) : Contract Tryz.prog 57 [.int .i64 n, .int .i64 lo, .int .i64 hi] (.ret (.bool (decide (n < lo ∨ hi < n)))) := by
  refine contract_of mix Tryz.func57 rfl rfl (by rw [Tryz.ntmps57]; exact Nat.le_of_ble_eq_true rfl) ?_; rw [Tryz.results57, Tryz.ntmps57]; simp only [argsE, Nat.reduceAdd]
  repeat' first
           | (with_reducible apply go_op)
           | (with_reducible apply go_next)
           | ((with_reducible (show evOp _ _ _ _ _ _)); first
             | ((with_reducible (show evOp _ (.move _) _ _ _ _)) ; first | ((with_reducible apply go_mv_int); rfl; rfl) | ((with_reducible apply go_mv_bool); rfl; rfl))
             | ((with_reducible apply go_as))
             | (((with_reducible apply go_cmp); rfl; rfl; rfl; rfl))
             | (((with_reducible apply go_pick); rfl; rfl; rfl)))
           | ((with_reducible (show evOps _ _ _ _ _ _)); first
             | (with_reducible apply go_nil)
             | ((with_reducible apply go_run); rfl; rfl)
             | ((with_reducible apply go_pass); rfl; rfl; rfl)
             | (((with_reducible apply go_guard); rfl) <;> (intro h; simp only [h, Bool.not_true, Bool.not_false]; (try with_reducible (refine ⟨rfl, ?_⟩)); try simp only [decide_eq_true_eq, decide_eq_false_iff_not, Bool.not_eq_true', Bool.not_eq_false', Bool.not_true, Bool.not_false] at h; try exact absurd trivial h)))
           | ((with_reducible (show evG _ _ _ _ _)); first
             | (with_reducible apply go_seq)
             | (with_reducible apply go_region)
             | (with_reducible apply go_ret))
           | (with_reducible apply go_kseq)
           | ((with_reducible apply end_bool); rfl)
  all_goals (simp at *; try omega)
theorem h_place (a : Axp) : Contract Tryz.prog 73 [.agg (encAxp a)] (.ret (.agg (Geo.encPt (axPt a)))) := by
  refine contract_of mix Tryz.func73 rfl rfl (by rw [Tryz.ntmps73]; exact Nat.le_of_ble_eq_true rfl) ?_; rw [Tryz.results73, Tryz.ntmps73]; simp only [argsE, Nat.reduceAdd]
  repeat' first
           | (with_reducible apply go_op)
           | (with_reducible apply go_next)
           | ((with_reducible (show evOp _ _ _ _ _ _)); first
             | (((with_reducible apply go_load_own); rfl; rfl; rfl; rfl))
             | (((with_reducible apply go_fieldAddr_own); rfl; rfl; rfl))
             | (((with_reducible apply go_st_agg); rfl; rfl; rfl; rfl; rfl; rfl; rfl))
             | (((with_reducible apply go_bd2_int); rfl; rfl; rfl; rfl))
             | (((with_reducible apply go_bx_agg); rfl; rfl; (exact Nat.le_of_ble_eq_true rfl); rfl; rfl))
             | (((with_reducible apply go_alloc); rfl; rfl; rfl)))
           | ((with_reducible (show evOps _ _ _ _ _ _)); first
             | (with_reducible apply go_nil))
           | ((with_reducible (show evG _ _ _ _ _)); first
             | (with_reducible apply go_seq)
             | (with_reducible apply go_region)
             | (with_reducible apply go_ret))
           | (with_reducible apply go_kseq)
           | ((with_reducible apply end_agg); rfl; rfl)
  kernel_rfl
theorem h_inRange (p : Geo.Pt) : Contract Tryz.prog 72 [.agg (Geo.encPt p)] (.ret (.bool (decide ((-1000000 ≤ p.x ∧ p.x ≤ 1000000) ∧ (-1000000 ≤ p.y ∧ p.y ≤ 1000000))))) := by
  refine contract_of mix Tryz.func72 rfl rfl (by rw [Tryz.ntmps72]; exact Nat.le_of_ble_eq_true rfl) ?_; rw [Tryz.results72, Tryz.ntmps72]; simp only [argsE, Nat.reduceAdd]
  repeat' first
           | (with_reducible apply go_op)
           | (with_reducible apply go_next)
           | ((with_reducible (show evOp _ _ _ _ _ _)); first
             | (((with_reducible apply go_mv_bool); rfl; rfl))
             | ((with_reducible apply go_as))
             | (((with_reducible apply go_load_own); rfl; rfl; rfl; rfl))
             | (((with_reducible apply go_fieldAddr_own); rfl; rfl; rfl))
             | (((with_reducible apply go_fn_bool); rfl; (exact h_outside _ _ _); rfl))
             | (((with_reducible apply go_not); rfl; rfl))
             | (((with_reducible apply go_pick); rfl; rfl; rfl))
             | (((with_reducible apply go_bx_agg); rfl; rfl; (exact Nat.le_of_ble_eq_true rfl); rfl; rfl)))
           | ((with_reducible (show evOps _ _ _ _ _ _)); first
             | (with_reducible apply go_nil)
             | ((with_reducible apply go_run); rfl; rfl)
             | ((with_reducible apply go_pass); rfl; rfl; rfl)
             | (((with_reducible apply go_guard); rfl) <;> (intro h; simp only [h, Bool.not_true, Bool.not_false]; (try with_reducible (refine ⟨rfl, ?_⟩)); try simp only [decide_eq_true_eq, decide_eq_false_iff_not, Bool.not_eq_true', Bool.not_eq_false', Bool.not_true, Bool.not_false] at h; try exact absurd trivial h)))
           | ((with_reducible (show evG _ _ _ _ _)); first
             | (with_reducible apply go_seq)
             | (with_reducible apply go_region)
             | (with_reducible apply go_ret))
           | (with_reducible apply go_kseq)
           | ((with_reducible apply end_bool); rfl)
  all_goals (rw [Bool.eq_iff_iff]; simp; omega)
theorem down_tdiv {a b : Int} (hb : 0 < b) : (a.tmod b < 0 → a.tdiv b - 1 = a / b) ∧ (¬ a.tmod b < 0 → a.tdiv b = a / b) := by
  have h1 := Int.tdiv_eq_ediv (a := a) (b := b)
  have h2 := Int.tmod_eq_emod (a := a) (b := b)
  have h3 := Int.emod_nonneg a (show b ≠ 0 by omega)
  have h4 := Int.emod_lt_of_pos a hb
  have h5 : b.sign = 1 := Int.sign_eq_one_of_pos hb
  by_cases hc : 0 ≤ a ∨ b ∣ a
  · rw [if_pos hc] at h1 h2
    exact ⟨fun h => by omega, fun _ => by omega⟩
  · rw [if_neg hc] at h1 h2
    exact ⟨fun _ => by omega, fun h => by omega⟩
theorem h_down (a b : Int) (hb : 0 < b) (ha : -9223372036854775807 ≤ a ∧ a ≤ 9223372036854775807) : Contract Tryz.prog 85 [.int .i64 a, .int .i64 b] (.ret (.int .i64 (a / b))) := by
  have hd := down_tdiv (a := a) hb
  have ht := tdiv_abs (a := a) (b := b) (by omega) ha
  have hq : -9223372036854775807 ≤ a / b := Int.le_ediv_of_mul_le hb (by omega)
  have hq' : a.tmod b < 0 → -9223372036854775807 ≤ a.tdiv b - 1 := fun h => by rw [hd.1 h]; exact hq
  refine contract_of mix Tryz.func85 rfl rfl (by rw [Tryz.ntmps85]; exact Nat.le_of_ble_eq_true rfl) ?_; rw [Tryz.results85, Tryz.ntmps85]; simp only [argsE, Nat.reduceAdd]
  repeat' first
           | (with_reducible apply go_op)
           | (with_reducible apply go_next)
           | ((with_reducible (show evOp _ _ _ _ _ _)); first
             | (((with_reducible apply go_mv_int); rfl; rfl))
             | ((with_reducible apply go_as))
             | ((with_reducible (show evOp _ (.binOp _ _ _ _ _) _ _ _ _)) ; first | ((with_reducible apply go_cmp); rfl; rfl; rfl; rfl) | ((with_reducible apply go_sub); rfl; rfl; rfl; omega) | ((with_reducible apply go_quo_any); rfl; rfl; rfl; omega; omega) | ((with_reducible apply go_rem); rfl; rfl; rfl; omega)))
           | ((with_reducible (show evOps _ _ _ _ _ _)); first
             | (with_reducible apply go_nil)
             | ((with_reducible apply go_pre); rfl)
             | (with_reducible apply go_pre_nil)
             | ((with_reducible apply go_suf); rfl)
             | (with_reducible apply go_suf_nil))
           | ((with_reducible (show evG _ _ _ _ _)); first
             | (with_reducible apply go_seq)
             | (with_reducible apply go_region)
             | (((with_reducible apply go_cond); rfl) <;> (intro h; simp only [h]; try simp only [decide_eq_true_eq, decide_eq_false_iff_not, Bool.not_eq_true', Bool.not_eq_false', Bool.not_true, Bool.not_false] at h; try exact absurd trivial h))
             | ((with_reducible apply go_order); kernel_rfl; rfl)
             | (with_reducible apply go_ret)
             | (with_reducible apply go_skipc))
           | (with_reducible apply go_kseq)
           | (with_reducible apply go_ksuf)
           | ((with_reducible apply end_int); rfl)
  · exact hd.1 h
  · exact hd.2 h
end Go.Pv.Soil

open Go Go.Proofs Go.Pv
set_option maxHeartbeats 4000000
set_option maxRecDepth 100000
set_option linter.unusedVariables false
namespace Go.Pv.Soil
theorem size_pos {s : ByteArray} (h : ¬ s = ⟨#[]⟩) : 1 ≤ s.size := by
  rcases Nat.lt_or_ge 0 s.size with h1 | h1
  · exact h1
  · exfalso
    apply h
    have : s.size = 0 := by omega
    cases s with
    | mk d =>
      have hd : d.size = 0 := this
      rw [Array.size_eq_zero_iff.1 hd]
theorem h_named (s : ByteArray) : Contract Tryz.prog 56 [.str s] (.ret (.bool (nameOK s))) := by
  by_cases h0 : s = ⟨#[]⟩
  · subst h0
    refine contract_of mix Tryz.func56 rfl rfl (by rw [Tryz.ntmps56]; exact Nat.le_of_ble_eq_true rfl) ?_; rw [Tryz.results56, Tryz.ntmps56]; simp only [argsE, Nat.reduceAdd]
    repeat' first
           | (with_reducible apply go_op)
           | (with_reducible apply go_next)
           | ((with_reducible (show evOp _ _ _ _ _ _)); first
             | ((with_reducible (show evOp _ (.move _) _ _ _ _)) ; first | ((with_reducible apply go_mv_bool); rfl; rfl) | ((with_reducible apply go_mv_str); rfl; rfl))
             | ((with_reducible apply go_as))
             | (((with_reducible apply go_bin); rfl; rfl))
             | (((with_reducible apply go_pick); rfl; rfl; rfl)))
           | ((with_reducible (show evOps _ _ _ _ _ _)); first
             | (with_reducible apply go_nil)
             | ((with_reducible apply go_pass); rfl; rfl; rfl))
           | ((with_reducible (show evG _ _ _ _ _)); first
             | (with_reducible apply go_seq)
             | (with_reducible apply go_region)
             | ((with_reducible apply go_cond_t); rfl; rfl)
             | (with_reducible apply go_ret))
           | (with_reducible apply go_kseq)
           | (with_reducible apply go_kseq_ret)
           | ((with_reducible apply end_bool); rfl)
    all_goals first | exact nameOK_size (by decide) | trace_state
  have h1 := size_pos h0
  refine contract_of mix Tryz.func56 rfl rfl (by rw [Tryz.ntmps56]; exact Nat.le_of_ble_eq_true rfl) ?_; rw [Tryz.results56, Tryz.ntmps56]; simp only [argsE, Nat.reduceAdd]
  repeat' first
           | (with_reducible apply go_op)
           | (with_reducible apply go_next)
           | ((with_reducible (show evOp _ _ _ _ _ _)); first
             | ((with_reducible (show evOp _ (.move _) _ _ _ _)) ; first | ((with_reducible apply go_mv_int); rfl; rfl) | ((with_reducible apply go_mv_bool); rfl; rfl) | ((with_reducible apply go_mv_str); rfl; rfl))
             | ((with_reducible apply go_as))
             | ((with_reducible (show evOp _ (.binOp _ _ _ _ _) _ _ _ _)) ; first | ((with_reducible apply go_cmp); rfl; rfl; rfl; rfl) | ((with_reducible apply go_bin); rfl; rfl))
             | (((with_reducible apply go_len_str); rfl; rfl))
             | (((with_reducible apply go_pick); rfl; rfl; rfl)))
           | ((with_reducible (show evOps _ _ _ _ _ _)); first
             | (with_reducible apply go_nil)
             | ((with_reducible apply go_run); rfl; rfl)
             | ((with_reducible apply go_pass); rfl; rfl; rfl)
             | (((with_reducible apply go_guard); rfl) <;> (intro h; simp only [h, Bool.not_true, Bool.not_false]; (try with_reducible (refine ⟨rfl, ?_⟩)); try simp only [decide_eq_true_eq, decide_eq_false_iff_not, Bool.not_eq_true', Bool.not_eq_false', Bool.not_true, Bool.not_false] at h; try exact absurd trivial h)))
           | ((with_reducible (show evG _ _ _ _ _)); first
             | (with_reducible apply go_seq)
             | (with_reducible apply go_region)
             | ((with_reducible apply go_cond_t); rfl; rfl)
             | (((with_reducible apply go_cond); rfl) <;> (intro h; simp only [h]; try simp only [decide_eq_true_eq, decide_eq_false_iff_not, Bool.not_eq_true', Bool.not_eq_false', Bool.not_true, Bool.not_false] at h; try exact absurd trivial h))
             | (with_reducible apply go_ret)
             | (with_reducible apply go_skipc)
             | (with_reducible apply go_block))
           | (with_reducible apply go_kseq)
           | (with_reducible apply go_kseq_ret)
           | ((with_reducible apply end_bool); rfl)
  all_goals try (exact nameOK_size (by omega))
  all_goals try exact absurd (by assumption) h0
  refine go_count s.size (fun i => ⟨[(16, .int .i64 i), (15, .int .i64 s.size), (0, .str s)], [], 32, 57⟩) (fun i => ∀ j, j < i → chOK j (byteAt s j) = true) (entails_eq (nx := 32) (k := 0) (ns := []) (ks := [16, 15, 0]) [] rfl (by simp) (by kernel_rfl)) (by omega) ?_
  intro i hi hC
  repeat' first
           | (with_reducible apply go_op)
           | (with_reducible apply go_next)
           | ((with_reducible (show evOp _ _ _ _ _ _)); first
             | ((with_reducible (show evOp _ (.move _) _ _ _ _)) ; first | ((with_reducible apply go_mv_int); rfl; rfl) | ((with_reducible apply go_mv_bool); rfl; rfl) | ((with_reducible apply go_mv_str); rfl; rfl))
             | ((with_reducible apply go_as))
             | ((with_reducible (show evOp _ (.binOp _ _ _ _ _) _ _ _ _)) ; first | ((with_reducible apply go_cmp); rfl; rfl; rfl; rfl) | ((with_reducible apply go_add); rfl; rfl; rfl; omega))
             | (((with_reducible apply go_index_str); rfl; rfl; rfl; omega))
             | (((with_reducible apply go_not); rfl; rfl))
             | (((with_reducible apply go_pick); rfl; rfl; rfl)))
           | ((with_reducible (show evOps _ _ _ _ _ _)); first
             | (with_reducible apply go_nil)
             | ((with_reducible apply go_run); rfl; rfl)
             | ((with_reducible apply go_pass); rfl; rfl; rfl)
             | ((with_reducible apply go_skip); rfl; rfl)
             | (((with_reducible apply go_guard); rfl) <;> (intro h; simp only [h, Bool.not_true, Bool.not_false]; (try with_reducible (refine ⟨rfl, ?_⟩)); try simp only [decide_eq_true_eq, decide_eq_false_iff_not, Bool.not_eq_true', Bool.not_eq_false', Bool.not_true, Bool.not_false] at h; try exact absurd trivial h)))
           | ((with_reducible (show evG _ _ _ _ _)); first
             | (with_reducible apply go_seq)
             | (with_reducible apply go_region)
             | ((with_reducible apply go_cond_t); rfl; rfl)
             | ((with_reducible apply go_cond_f); rfl; rfl)
             | (((with_reducible apply go_cond); rfl) <;> (intro h; simp only [h]; try simp only [decide_eq_true_eq, decide_eq_false_iff_not, Bool.not_eq_true', Bool.not_eq_false', Bool.not_true, Bool.not_false] at h; try exact absurd trivial h))
             | (with_reducible apply go_ret)
             | (with_reducible apply go_skipc)
             | (with_reducible apply go_block)
             | (with_reducible apply go_exit))
           | (with_reducible apply go_kseq)
           | (with_reducible apply go_kseq_ret)
           | (with_reducible apply go_kblock)
           | (with_reducible apply go_kblock_ret)
           | (with_reducible apply go_kblock_exit)
           | (with_reducible apply go_kseq_exit)
           | ((with_reducible apply end_bool); rfl)
  all_goals try simp only [Int.toNat_natCast] at *
  all_goals first
    | exact nameOK_yes (by omega) (by omega) fun j hj => hC j (by omega)
    | exact nameOK_not (i := i) (by omega) (chOK_no (by omega))
    | exact nameOK_not (i := i) (by omega) (by simp only [chOK, letter]; simp; omega)
    | (refine ⟨by omega, chars_step hC (by simp only [chOK, letter]; simp; omega), entails_eq (nx := 32) (k := 0) (ns := []) (ks := [16, 15, 0]) [] rfl (by simp) (by kernel_rfl)⟩)
    | trace_state
end Go.Pv.Soil

open Go Go.Proofs Go.Pv
set_option maxHeartbeats 4000000
set_option maxRecDepth 100000
set_option linter.unusedSimpArgs false
set_option linter.unusedVariables false
namespace Go.Pv.Geo
def encT3 (a b c : Pt) : List D := [.int .i64 a.x, .int .i64 a.y, .int .i64 b.x, .int .i64 b.y, .int .i64 c.x, .int .i64 c.y]
def pre3 (u v w : Int) : Nat → List D
  | 0 => [.int .i64 0, .int .i64 0, .int .i64 0]
  | 1 => [.int .i64 u, .int .i64 0, .int .i64 0]
  | 2 => [.int .i64 u, .int .i64 v, .int .i64 0]
  | _ => [.int .i64 u, .int .i64 v, .int .i64 w]
def nrm (a d : Pt) : Int := (a.x - d.x) * (a.x - d.x) + (a.y - d.y) * (a.y - d.y)
def crs (b c d : Pt) : Int := (b.x - d.x) * (c.y - d.y) - (c.x - d.x) * (b.y - d.y)
def detE (a b c d : Pt) : Int := 0 + nrm a d * crs b c d + nrm b d * crs c a d + nrm c d * crs a b d
def detP (u v w : Int) : Nat → Int
  | 0 => 0
  | 1 => 0 + u
  | 2 => 0 + u + v
  | _ => 0 + u + v + w
def nearE (a d : Pt) : Prop := (-20000 ≤ a.x - d.x ∧ a.x - d.x ≤ 20000) ∧ -20000 ≤ a.y - d.y ∧ a.y - d.y ≤ 20000
theorem mulN {u v : Int} (hu : -20000 ≤ u ∧ u ≤ 20000) (hv : -20000 ≤ v ∧ v ≤ 20000) : -400000000 ≤ u * v ∧ u * v ≤ 400000000 := by
  have := mul_abs hu hv; omega
theorem nrm_bd {a d : Pt} (h : nearE a d) : -800000000 ≤ nrm a d ∧ nrm a d ≤ 800000000 := by
  have h1 := mulN h.1 h.1
  have h2 := mulN h.2 h.2
  unfold nrm; omega
theorem crs_bd {b c d : Pt} (h : nearE b d) (h' : nearE c d) : -800000000 ≤ crs b c d ∧ crs b c d ≤ 800000000 := by
  have h1 := mulN h.1 h'.2
  have h2 := mulN h'.1 h.2
  unfold crs; omega
theorem term_bd {a b c d : Pt} (ha : nearE a d) (hb : nearE b d) (hc : nearE c d) : -640000000000000000 ≤ nrm a d * crs b c d ∧ nrm a d * crs b c d ≤ 640000000000000000 := by
  have := mul_abs (nrm_bd ha) (crs_bd hb hc); omega
end Go.Pv.Geo

open Go Go.Proofs Go.Pv
set_option maxHeartbeats 4000000
set_option maxRecDepth 100000
set_option linter.unusedSimpArgs false
set_option linter.unusedVariables false
namespace Go.Pv.Geo
def absE (n : Int) : Int := if n < 0 then 0 - n else n
def farP (p q : Pt) : Bool := decide (20000 < p.x - q.x ∨ 20000 < p.y - q.y)
/-- Are some of the points too far from each other? -/
def farL (l : List Pt) : Bool := l.any fun p => l.any fun q => farP p q
theorem farL_yes {l : List Pt} {i k : Nat} (hi : i < l.length) (hk : k < l.length) (h : farP l[i] l[k] = true) : farL l = true :=
  List.any_eq_true.2 ⟨_, List.getElem_mem hi, List.any_eq_true.2 ⟨_, List.getElem_mem hk, h⟩⟩
theorem farL_no {l : List Pt} (h : ∀ i (hi : i < l.length), ∀ k (hk : k < l.length), farP l[i] l[k] = false) : farL l = false := by
  simp only [farL, List.any_eq_false]
  intro p hp
  obtain ⟨i, hi, rfl⟩ := List.mem_iff_getElem.1 hp
  simp only [List.any_eq_true, not_exists, not_and]
  intro q hq
  obtain ⟨k, hk, rfl⟩ := List.mem_iff_getElem.1 hq
  rw [h i hi k hk]; simp
theorem farP_self (p : Pt) : farP p p = false := by simp [farP]

theorem near_of {a b c d : Pt} (h : farL [a, b, c, d] = false) : nearE a d ∧ nearE b d ∧ nearE c d := by
  simp [farL, farP] at h
  simp only [nearE]
  omega
/-- What InCircle answers: the place and the error. -/
def inCircE (a b c d : Pt) : Int × Int :=
  if (ptOK a && ptOK b && ptOK c && ptOK d) = false then (0, 2) else if farL [a, b, c, d] = true then (0, 8) else if signE (crossE a b c) = 0 then (0, 10) else (signE (crossE a b c) * signE (detE a b c d), 0)
end Go.Pv.Geo

open Go Go.Proofs Go.Pv
set_option maxHeartbeats 4000000
set_option maxRecDepth 100000
set_option linter.unusedSimpArgs false
set_option linter.unusedVariables false
namespace Go.Pv.Geo
theorem cellsPt : Tryz.prog.cellsOf 76 = 2 := by kernel_rfl
/-- The corner with a number, counted on from the first one. -/
def cornerP (l : List Pt) (i : Nat) : Pt := l.getD (i % l.length) ⟨0, 0⟩
theorem cornerP_get {l : List Pt} (h : 0 < l.length) (i : Nat) : cornerP l i = l[i % l.length]'(Nat.mod_lt _ h) := by
  simp [cornerP, List.getD_eq_getElem?_getD, Nat.mod_lt _ h]
theorem cornerP_mem {l : List Pt} (h : 0 < l.length) (i : Nat) : cornerP l i ∈ l := by
  rw [cornerP_get h]; exact List.getElem_mem _
theorem cornerP_lt {l : List Pt} {i : Nat} (h : i < l.length) : cornerP l i = l[i] := by
  rw [cornerP_get (by omega)]; simp only [Nat.mod_eq_of_lt h]
theorem c_corner (l : List Pt) (h0 : 0 < l.length) (hl : l.length < 1000000000000) (i : Nat) : Contract Tryz.prog 105 [.sl (l.map encPt), .int .i64 i] (.ret (.agg (encPt (cornerP l i)))) := by
  have hm := Nat.mod_lt i h0
  have e : ((i : Int) % (l.length : Int)) = ((i % l.length : Nat) : Int) := by simp
  have hlt' : 0 ≤ (i : Int) % (l.length : Int) ∧ (i : Int) % (l.length : Int) < l.length := by rw [e]; omega
  have e2 : ((i : Int) % (l.length : Int)).toNat = i % l.length := by rw [e]; rfl
  rw [cornerP_get h0]
  refine contract_of mix Tryz.func105 rfl rfl (by rw [Tryz.ntmps105]; exact Nat.le_of_ble_eq_true rfl) ?_; rw [Tryz.results105, Tryz.ntmps105]; simp only [argsE, Nat.reduceAdd]
  repeat' first
           | (with_reducible apply go_op)
           | (with_reducible apply go_next)
           | ((with_reducible (show evOp _ _ _ _ _ _)); first
             | ((with_reducible (show evOp _ (.move _) _ _ _ _)) ; first | ((with_reducible apply go_mv_int); rfl; rfl) | ((with_reducible apply go_mv_sl); rfl; rfl))
             | (((with_reducible apply go_ld_ptr); rfl; rfl; rfl))
             | (((with_reducible apply go_index); rfl; rfl; (intro; rfl); rfl; omega; intro hlt))
             | (((with_reducible apply go_rem_pos); rfl; rfl; rfl; omega))
             | (((with_reducible apply go_len); rfl; rfl))
             | (((with_reducible apply go_st_agg); rfl; rfl; rfl; rfl; rfl; rfl; rfl))
             | (((with_reducible apply go_alloc); rfl; rfl; rfl)))
           | ((with_reducible (show evOps _ _ _ _ _ _)); first
             | (with_reducible apply go_nil))
           | ((with_reducible (show evG _ _ _ _ _)); first
             | (with_reducible apply go_seq)
             | (with_reducible apply go_region)
             | (with_reducible apply go_ret))
           | (with_reducible apply go_kseq)
           | ((with_reducible apply end_agg); rfl; rfl)
  all_goals (rw [cellsPt]; simp only [e2]; rfl)
theorem c_rcorner (l : List Pt) (h0 : 0 < l.length) (hl : l.length < 1000000000000) (i : Nat) : Contract Tryz.prog 64 [.sl (l.map encPt), .int .i64 i] (.ret (.agg (encPt (cornerP l i)))) := by
  have hm := Nat.mod_lt i h0
  have e : ((i : Int) % (l.length : Int)) = ((i % l.length : Nat) : Int) := by simp
  have hlt' : 0 ≤ (i : Int) % (l.length : Int) ∧ (i : Int) % (l.length : Int) < l.length := by rw [e]; omega
  have e2 : ((i : Int) % (l.length : Int)).toNat = i % l.length := by rw [e]; rfl
  rw [cornerP_get h0]
  refine contract_of mix Tryz.func64 rfl rfl (by rw [Tryz.ntmps64]; exact Nat.le_of_ble_eq_true rfl) ?_; rw [Tryz.results64, Tryz.ntmps64]; simp only [argsE, Nat.reduceAdd]
  repeat' first
           | (with_reducible apply go_op)
           | (with_reducible apply go_next)
           | ((with_reducible (show evOp _ _ _ _ _ _)); first
             | ((with_reducible (show evOp _ (.move _) _ _ _ _)) ; first | ((with_reducible apply go_mv_int); rfl; rfl) | ((with_reducible apply go_mv_sl); rfl; rfl))
             | (((with_reducible apply go_ld_ptr); rfl; rfl; rfl))
             | (((with_reducible apply go_index); rfl; rfl; (intro; rfl); rfl; omega; intro hlt))
             | (((with_reducible apply go_rem_pos); rfl; rfl; rfl; omega))
             | (((with_reducible apply go_len); rfl; rfl))
             | (((with_reducible apply go_st_agg); rfl; rfl; rfl; rfl; rfl; rfl; rfl))
             | (((with_reducible apply go_alloc); rfl; rfl; rfl)))
           | ((with_reducible (show evOps _ _ _ _ _ _)); first
             | (with_reducible apply go_nil))
           | ((with_reducible (show evG _ _ _ _ _)); first
             | (with_reducible apply go_seq)
             | (with_reducible apply go_region)
             | (with_reducible apply go_ret))
           | (with_reducible apply go_kseq)
           | ((with_reducible apply end_agg); rfl; rfl)
  all_goals (rw [cellsPt]; simp only [e2]; rfl)
/-- A corner at which a polygon is not simple; a pair of edges that meet. -/
def ptEq (a b : Pt) : Bool := decide (a.x = b.x) && (decide (a.y = b.y) && true)
theorem ptEq_iff {a b : Pt} : ptEq a b = true ↔ a = b := by
  cases a; cases b; simp [ptEq]
def turnBad (l : List Pt) (i : Nat) : Bool := ptEq (cornerP l i) (cornerP l (i + 1)) || onE (cornerP l i) (cornerP l (i + 1)) (cornerP l (i + 2)) || onE (cornerP l (i + 1)) (cornerP l (i + 2)) (cornerP l i)
def pairBad (l : List Pt) (i k : Nat) : Bool := decide ((k + 1) % l.length ≠ i) && meetE (cornerP l i) (cornerP l (i + 1)) (cornerP l k) (cornerP l (k + 1))
def simpleE (l : List Pt) : Bool := (List.range l.length).all fun i => !turnBad l i && (List.range l.length).all fun k => !(decide (i + 2 ≤ k) && pairBad l i k)
theorem simple_turn {l : List Pt} {i : Nat} (hi : i < l.length) (h : turnBad l i = true) : simpleE l = false := by
  rw [simpleE, List.all_eq_false]
  exact ⟨i, List.mem_range.2 hi, by simp [h]⟩
theorem simple_pair {l : List Pt} {i k : Nat} (hi : i < l.length) (hk : k < l.length) (hik : i + 2 ≤ k) (h : pairBad l i k = true) : simpleE l = false := by
  rw [simpleE, List.all_eq_false]
  refine ⟨i, List.mem_range.2 hi, ?_⟩
  have : ((List.range l.length).all fun k => !(decide (i + 2 ≤ k) && pairBad l i k)) = false := by
    rw [List.all_eq_false]
    exact ⟨k, List.mem_range.2 hk, by simp [h, hik]⟩
  rw [this, Bool.and_false]; simp
theorem simple_yes {l : List Pt} (h1 : ∀ i, i < l.length → turnBad l i = false) (h2 : ∀ i, i < l.length → ∀ k, k < l.length → i + 2 ≤ k → pairBad l i k = false) : simpleE l = true := by
  rw [simpleE, List.all_eq_true]
  intro i hi
  rw [h1 i (List.mem_range.1 hi), Bool.not_false, Bool.true_and, List.all_eq_true]
  intro k hk
  by_cases hik : i + 2 ≤ k
  · rw [h2 i (List.mem_range.1 hi) k (List.mem_range.1 hk) hik, Bool.and_false]; rfl
  · simp [hik]

theorem c_simple (l : List Pt) (h3 : 3 ≤ l.length) (hl : l.length < 1000000000) (hok : ∀ q ∈ l, ptOK q = true) : Contract Tryz.prog 99 [.sl (l.map encPt)] (.ret (.bool (simpleE l))) := by
  refine contract_of mix Tryz.func99 rfl rfl (by rw [Tryz.ntmps99]; exact Nat.le_of_ble_eq_true rfl) ?_; rw [Tryz.results99, Tryz.ntmps99]; simp only [argsE, Nat.reduceAdd]
  repeat' first
           | (with_reducible apply go_op)
           | (with_reducible apply go_next)
           | ((with_reducible (show evOp _ _ _ _ _ _)); first
             | ((with_reducible (show evOp _ (.move _) _ _ _ _)) ; first | ((with_reducible apply go_mv_int); rfl; rfl) | ((with_reducible apply go_mv_bool); rfl; rfl) | ((with_reducible apply go_mv_sl); rfl; rfl))
             | ((with_reducible apply go_as))
             | (((with_reducible apply go_len); rfl; rfl)))
           | ((with_reducible (show evOps _ _ _ _ _ _)); first
             | (with_reducible apply go_nil))
           | ((with_reducible (show evG _ _ _ _ _)); first
             | (with_reducible apply go_seq)
             | (with_reducible apply go_region)
             | (with_reducible apply go_block))
           | (with_reducible apply go_kseq)
  refine go_count l.length (fun i => ⟨[(12, .int .i64 i), (11, .int .i64 l.length), (3, .int .i64 l.length), (0, .sl (l.map encPt))], [], 0, 69⟩) (fun i => ∀ j, j < i → turnBad l j = false ∧ ∀ k, k < l.length → j + 2 ≤ k → pairBad l j k = false)
    (entails_eq (nx := 0) (k := 0) (ns := []) (ks := [12, 11, 3, 0]) [] rfl (by simp) (by kernel_rfl)) (by omega) ?_
  intro i hi hC
  by_cases h2 : i < l.length
  · have h0 : 0 < l.length := by omega
    have ec := cornerP_lt h2
    have o0 : ptOK l[i] = true := hok _ (List.getElem_mem h2)
    have o1 := hok _ (cornerP_mem h0 (i + 1))
    have o2 := hok _ (cornerP_mem h0 (i + 2))
    have k1 : Contract Tryz.prog 105 [.sl (l.map encPt), .int .i64 ((i : Int) + 1)] (.ret (.agg (encPt (cornerP l (i + 1))))) := c_corner l h0 (by omega) (i + 1)
    have k2 : Contract Tryz.prog 105 [.sl (l.map encPt), .int .i64 ((i : Int) + 2)] (.ret (.agg (encPt (cornerP l (i + 2))))) := c_corner l h0 (by omega) (i + 2)
    have n1 := c_on l[i] (cornerP l (i + 1)) (cornerP l (i + 2)) o0 o1 o2
    have n2 := c_on (cornerP l (i + 1)) (cornerP l (i + 2)) l[i] o1 o2 o0
    have hbad : turnBad l i = (ptEq l[i] (cornerP l (i + 1)) || onE l[i] (cornerP l (i + 1)) (cornerP l (i + 2)) || onE (cornerP l (i + 1)) (cornerP l (i + 2)) l[i]) := by rw [turnBad, ec]
    have hst := fun h => simple_turn (l := l) h2 h
    rw [hbad] at hst
    generalize hb : cornerP l (i + 1) = b at *
    generalize hc : cornerP l (i + 2) = c at *
    have hCi : ∀ j, j < i → turnBad l j = false ∧ ∀ k, k < l.length → j + 2 ≤ k → pairBad l j k = false := hC
    repeat' first
           | (with_reducible apply go_op)
           | (with_reducible apply go_next)
           | ((with_reducible (show evOp _ _ _ _ _ _)); first
             | ((with_reducible (show evOp _ (.move _) _ _ _ _)) ; first | ((with_reducible apply go_mv_int); rfl; rfl) | ((with_reducible apply go_mv_bool); rfl; rfl) | ((with_reducible apply go_mv_sl); rfl; rfl))
             | ((with_reducible apply go_as))
             | ((with_reducible (show evOp _ (.load _ _) _ _ _ _)) ; first | ((with_reducible apply go_ld_ptr); rfl; rfl; rfl) | ((with_reducible apply go_ld_agg); rfl; rfl; rfl; rfl))
             | (((with_reducible apply go_index_nat); rfl; rfl; (with_reducible rfl); (intro; rfl); rfl; omega; (intro hlt)))
             | ((with_reducible (show evOp _ (.binOp _ _ _ _ _) _ _ _ _)) ; first | ((with_reducible apply go_cmp); rfl; rfl; rfl; rfl) | ((with_reducible apply go_add); rfl; rfl; rfl; omega) | ((with_reducible apply go_eql_agg); rfl; rfl; rfl; rfl))
             | ((with_reducible (show evOp _ (.call _) _ _ _ _)) ; first | ((with_reducible apply go_fn_plain); rfl; (exact k1); rfl; (exact Nat.le_of_ble_eq_true rfl); rfl) | ((with_reducible apply go_fn_plain); rfl; (exact k2); rfl; (exact Nat.le_of_ble_eq_true rfl); rfl) | ((with_reducible apply go_fn_bool); rfl; (exact n1); rfl) | ((with_reducible apply go_fn_bool); rfl; (exact n2); rfl))
             | (((with_reducible apply go_st_agg); rfl; rfl; rfl; rfl; rfl; rfl; rfl))
             | (((with_reducible apply go_pick); rfl; rfl; rfl))
             | (((with_reducible apply go_alloc); rfl; rfl; rfl)))
           | ((with_reducible (show evOps _ _ _ _ _ _)); first
             | (with_reducible apply go_nil)
             | ((with_reducible apply go_run); rfl; rfl)
             | ((with_reducible apply go_pass); rfl; rfl; rfl)
             | (((with_reducible apply go_guard); rfl) <;> (intro h; simp only [h, Bool.not_true, Bool.not_false]; (try with_reducible (refine ⟨rfl, ?_⟩)); try simp only [decide_eq_true_eq, decide_eq_false_iff_not, Bool.not_eq_true', Bool.not_eq_false', Bool.not_true, Bool.not_false] at h; try exact absurd trivial h))
             | ((with_reducible apply go_pre); rfl)
             | ((with_reducible apply go_pre_stop); rfl)
             | ((with_reducible apply go_suf); rfl)
             | ((with_reducible apply go_suf_stop); rfl))
           | ((with_reducible (show evG _ _ _ _ _)); first
             | (with_reducible apply go_seq)
             | (with_reducible apply go_region)
             | ((with_reducible apply go_cond_t); rfl; rfl)
             | (((with_reducible apply go_cond); rfl) <;> (intro h; simp only [h]; try simp only [decide_eq_true_eq, decide_eq_false_iff_not, Bool.not_eq_true', Bool.not_eq_false', Bool.not_true, Bool.not_false] at h; try exact absurd trivial h))
             | ((with_reducible apply go_order); kernel_rfl; rfl)
             | (with_reducible apply go_ret)
             | (with_reducible apply go_skipc)
             | (with_reducible apply go_block)
             | (with_reducible apply go_exit))
           | (with_reducible apply go_kseq)
           | (with_reducible apply go_ksuf)
           | (with_reducible apply go_kseq_ret)
           | (with_reducible apply go_kblock_ret)
           | (with_reducible apply go_kblock_exit)
           | (with_reducible apply go_kseq_exit)
           | ((with_reducible apply end_bool); rfl)
    all_goals try (exfalso; omega)
    · exact (hst (by simp [*])).symm
    · have hb0 : turnBad l i = false := by
        have e1 : ptEq l[i] b = false := ‹(decide (l[i].x = b.x) && (decide (l[i].y = b.y) && true)) = false›
        rw [hbad]; simp [*]
      refine go_count l.length (fun j => ⟨[(8, .int .i64 ((i + 2 + j : Nat) : Int)), (12, .int .i64 i), (11, .int .i64 l.length), (4, .int .i64 i), (3, .int .i64 l.length), (5, .op 0 0 0), (6, .op 1 0 0), (0, .sl (l.map encPt))], [(0, ⟨2, true, [encPt l[i]]⟩), (1, ⟨2, true, [encPt b]⟩)], 32, 69⟩) (fun j => ∀ k, k < l.length → i + 2 ≤ k → k < i + 2 + j → pairBad l i k = false)
        (entails_eq (nx := 32) (k := 0) (ns := []) (ks := [8, 12, 11, 4, 3, 5, 6, 0]) [(480, 0), (512, 1)] rfl (by simp) (by kernel_rfl)) (by omega) ?_
      intro j hj hC2
      by_cases h5 : i + 2 + j < l.length
      · have ek := cornerP_lt h5
        have q0 : ptOK (l[i + 2 + j]) = true := hok _ (List.getElem_mem h5)
        have q1 := hok _ (cornerP_mem h0 (i + 2 + j + 1))
        have k3 : Contract Tryz.prog 105 [.sl (l.map encPt), .int .i64 (((i + 2 + j : Nat) : Int) + 1)] (.ret (.agg (encPt (cornerP l (i + 2 + j + 1))))) := c_corner l h0 (by omega) (i + 2 + j + 1)
        have mt := c_meet l[i] b l[i + 2 + j] (cornerP l (i + 2 + j + 1)) o0 o1 q0 q1
        have hpb : pairBad l i (i + 2 + j) = (decide ((i + 2 + j + 1) % l.length ≠ i) && meetE l[i] b l[i + 2 + j] (cornerP l (i + 2 + j + 1))) := by rw [pairBad, ec, ek, hb]
        have hsp := fun h => simple_pair (l := l) h2 h5 (by omega) h
        rw [hpb] at hsp
        have hmod : (((i + 2 + j : Nat) : Int) + 1) % (l.length : Int) = (((i + 2 + j + 1) % l.length : Nat) : Int) := by
          rw [Int.natCast_emod]; rfl
        generalize cornerP l (i + 2 + j + 1) = d at *
        generalize hk : i + 2 + j = k at *
        repeat' first
           | (with_reducible apply go_op)
           | (with_reducible apply go_next)
           | ((with_reducible (show evOp _ _ _ _ _ _)); first
             | ((with_reducible (show evOp _ (.move _) _ _ _ _)) ; first | ((with_reducible apply go_mv_int); rfl; rfl) | ((with_reducible apply go_mv_bool); rfl; rfl) | ((with_reducible apply go_mv_sl); rfl; rfl))
             | ((with_reducible apply go_as))
             | ((with_reducible (show evOp _ (.load _ _) _ _ _ _)) ; first | ((with_reducible apply go_ld_ptr); rfl; rfl; rfl) | ((with_reducible apply go_ld_agg); rfl; rfl; rfl; rfl))
             | (((with_reducible apply go_index_nat); rfl; rfl; (with_reducible rfl); (intro; rfl); rfl; omega; (intro hlt)))
             | ((with_reducible (show evOp _ (.binOp _ _ _ _ _) _ _ _ _)) ; first | ((with_reducible apply go_cmp); rfl; rfl; rfl; rfl) | ((with_reducible apply go_add); rfl; rfl; rfl; omega) | ((with_reducible apply go_rem_pos); rfl; rfl; rfl; omega))
             | ((with_reducible (show evOp _ (.call _) _ _ _ _)) ; first | ((with_reducible apply go_fn_plain); rfl; (exact k3); rfl; (exact Nat.le_of_ble_eq_true rfl); rfl) | ((with_reducible apply go_fn_bool); rfl; (exact mt); rfl))
             | (((with_reducible apply go_pick); rfl; rfl; rfl)))
           | ((with_reducible (show evOps _ _ _ _ _ _)); first
             | (with_reducible apply go_nil)
             | ((with_reducible apply go_run); rfl; rfl)
             | ((with_reducible apply go_pass); rfl; rfl; rfl)
             | (((with_reducible apply go_guard); rfl) <;> (intro h; simp only [h, Bool.not_true, Bool.not_false]; (try with_reducible (refine ⟨rfl, ?_⟩)); try simp only [decide_eq_true_eq, decide_eq_false_iff_not, Bool.not_eq_true', Bool.not_eq_false', Bool.not_true, Bool.not_false] at h; try exact absurd trivial h))
             | ((with_reducible apply go_pre); rfl)
             | (with_reducible apply go_pre_nil)
             | ((with_reducible apply go_suf); rfl)
             | (with_reducible apply go_suf_nil))
           | ((with_reducible (show evG _ _ _ _ _)); first
             | (with_reducible apply go_seq)
             | (with_reducible apply go_region)
             | ((with_reducible apply go_cond_f); rfl; rfl)
             | (((with_reducible apply go_cond); rfl) <;> (intro h; simp only [h]; try simp only [decide_eq_true_eq, decide_eq_false_iff_not, Bool.not_eq_true', Bool.not_eq_false', Bool.not_true, Bool.not_false] at h; try exact absurd trivial h))
             | ((with_reducible apply go_order); kernel_rfl; rfl)
             | (with_reducible apply go_ret)
             | (with_reducible apply go_skipc)
             | (with_reducible apply go_block)
             | (with_reducible apply go_exit))
           | (with_reducible apply go_kseq)
           | (with_reducible apply go_ksuf)
           | (with_reducible apply go_kseq_ret)
           | (with_reducible apply go_kblock)
           | (with_reducible apply go_kblock_ret)
           | (with_reducible apply go_kblock_exit)
           | (with_reducible apply go_kseq_exit)
           | ((with_reducible apply end_bool); rfl)
        all_goals first
          | (exfalso; omega)
          | (refine (hsp ?_).symm
             simp only [Bool.and_eq_true, decide_eq_true_eq]
             exact ⟨by omega, by assumption⟩)
          | (refine ⟨by omega, fun k' hk' hk2 hk3 => ?_, ?_⟩
             · by_cases hlast : k' < k
               · exact hC2 k' hk' hk2 (by omega)
               · have : k' = k := by omega
                 subst this
                 rw [hpb]
                 by_cases hm2 : (k' + 1) % l.length = i
                 · simp only [hm2, ne_eq, not_true_eq_false, decide_false, Bool.false_and]
                 · have : meetE l[i] b l[k'] d = false := by first | assumption | (exfalso; omega)
                   rw [this, Bool.and_false]
             · rw [show i + 2 + (j + 1) = k + 1 by omega]
               exact entails_eq (nx := 32) (k := 0) (ns := []) (ks := [8, 12, 11, 4, 3, 5, 6, 0]) [(0, 0), (1, 1)] rfl (by simp) (by kernel_rfl))
          | trace_state
      · repeat' first
           | (with_reducible apply go_op)
           | (with_reducible apply go_next)
           | ((with_reducible (show evOp _ _ _ _ _ _)); first
             | ((with_reducible (show evOp _ (.move _) _ _ _ _)) ; first | ((with_reducible apply go_mv_int); rfl; rfl) | ((with_reducible apply go_mv_bool); rfl; rfl) | ((with_reducible apply go_mv_sl); rfl; rfl))
             | ((with_reducible apply go_as))
             | ((with_reducible (show evOp _ (.load _ _) _ _ _ _)) ; first | ((with_reducible apply go_ld_ptr); rfl; rfl; rfl) | ((with_reducible apply go_ld_agg); rfl; rfl; rfl; rfl))
             | (((with_reducible apply go_index_nat); rfl; rfl; (with_reducible rfl); (intro; rfl); rfl; omega; (intro hlt)))
             | ((with_reducible (show evOp _ (.binOp _ _ _ _ _) _ _ _ _)) ; first | ((with_reducible apply go_cmp); rfl; rfl; rfl; rfl) | ((with_reducible apply go_add); rfl; rfl; rfl; omega) | ((with_reducible apply go_rem_pos); rfl; rfl; rfl; omega))
             | (((with_reducible apply go_pick); rfl; rfl; rfl)))
           | ((with_reducible (show evOps _ _ _ _ _ _)); first
             | (with_reducible apply go_nil)
             | ((with_reducible apply go_run); rfl; rfl)
             | ((with_reducible apply go_pass); rfl; rfl; rfl)
             | (((with_reducible apply go_guard); rfl) <;> (intro h; simp only [h, Bool.not_true, Bool.not_false]; (try with_reducible (refine ⟨rfl, ?_⟩)); try simp only [decide_eq_true_eq, decide_eq_false_iff_not, Bool.not_eq_true', Bool.not_eq_false', Bool.not_true, Bool.not_false] at h; try exact absurd trivial h))
             | ((with_reducible apply go_pre); rfl)
             | (with_reducible apply go_pre_nil)
             | ((with_reducible apply go_suf); rfl)
             | (with_reducible apply go_suf_nil))
           | ((with_reducible (show evG _ _ _ _ _)); first
             | (with_reducible apply go_seq)
             | (with_reducible apply go_region)
             | ((with_reducible apply go_cond_f); rfl; rfl)
             | (((with_reducible apply go_cond); rfl) <;> (intro h; simp only [h]; try simp only [decide_eq_true_eq, decide_eq_false_iff_not, Bool.not_eq_true', Bool.not_eq_false', Bool.not_true, Bool.not_false] at h; try exact absurd trivial h))
             | ((with_reducible apply go_order); kernel_rfl; rfl)
             | (with_reducible apply go_skipc)
             | (with_reducible apply go_block)
             | (with_reducible apply go_exit))
           | (with_reducible apply go_kseq)
           | (with_reducible apply go_ksuf)
           | (with_reducible apply go_kblock)
           | (with_reducible apply go_kblock_exit)
           | (with_reducible apply go_kseq_exit)
        all_goals first
          | (exfalso; omega)
          | (refine ⟨h2, fun j' hj' => ?_, entails_eq (nx := 0) (k := 0) (ns := []) (ks := [12, 11, 3, 0]) [] rfl (by simp) (by kernel_rfl)⟩
             rcases Nat.lt_succ_iff_lt_or_eq.1 hj' with h' | rfl
             · exact hCi j' h'
             · exact ⟨hb0, fun k hk hik => hC2 k hk hik (by omega)⟩)
          | trace_state
    · exact (hst (by simp [*])).symm
    · have e1 : ptEq l[i] b = true := ‹(decide (l[i].x = b.x) && (decide (l[i].y = b.y) && true)) = true›
      exact (hst (by simp [*])).symm
  · repeat' first
           | (with_reducible apply go_op)
           | (with_reducible apply go_next)
           | ((with_reducible (show evOp _ _ _ _ _ _)); first
             | ((with_reducible (show evOp _ (.move _) _ _ _ _)) ; first | ((with_reducible apply go_mv_int); rfl; rfl) | ((with_reducible apply go_mv_bool); rfl; rfl) | ((with_reducible apply go_mv_sl); rfl; rfl))
             | ((with_reducible apply go_as))
             | (((with_reducible apply go_ld_ptr); rfl; rfl; rfl))
             | (((with_reducible apply go_index_nat); rfl; rfl; (with_reducible rfl); (intro; rfl); rfl; omega; (intro hlt)))
             | ((with_reducible (show evOp _ (.binOp _ _ _ _ _) _ _ _ _)) ; first | ((with_reducible apply go_cmp); rfl; rfl; rfl; rfl) | ((with_reducible apply go_add); rfl; rfl; rfl; omega)))
           | ((with_reducible (show evOps _ _ _ _ _ _)); first
             | (with_reducible apply go_nil)
             | ((with_reducible apply go_pre); rfl))
           | ((with_reducible (show evG _ _ _ _ _)); first
             | (with_reducible apply go_seq)
             | (with_reducible apply go_region)
             | (((with_reducible apply go_cond); rfl) <;> (intro h; simp only [h]; try simp only [decide_eq_true_eq, decide_eq_false_iff_not, Bool.not_eq_true', Bool.not_eq_false', Bool.not_true, Bool.not_false] at h; try exact absurd trivial h))
             | ((with_reducible apply go_order); kernel_rfl; rfl)
             | (with_reducible apply go_ret)
             | (with_reducible apply go_skipc)
             | (with_reducible apply go_block)
             | (with_reducible apply go_exit))
           | (with_reducible apply go_kseq)
           | (with_reducible apply go_kblock_exit)
           | (with_reducible apply go_kseq_exit)
           | ((with_reducible apply end_bool); rfl)
    all_goals first
      | (exfalso; omega)
      | exact (simple_yes (fun j hj => (hC j (by omega)).1) fun j hj k hk hjk => (hC j (by omega)).2 k hk hjk).symm
      | trace_state
end Go.Pv.Geo

open Go Go.Proofs Go.Pv
set_option maxHeartbeats 4000000
set_option maxRecDepth 100000
set_option linter.unusedSimpArgs false
set_option linter.unusedVariables false
namespace Go.Pv.Geo
def shapesD : List D := [.int .i64 10, .clo (.func 95) [] [], .int .i64 8, .clo (.func 96) [] [], .int .i64 2, .clo (.func 97) [] [], .int .i64 3, .clo (.func 98) [] []]
theorem c_shapes : Contract Tryz.prog 89 [] (.ret (.agg shapesD)) := by
  refine contract_of mix Tryz.func89 rfl rfl (by rw [Tryz.ntmps89]; exact Nat.le_of_ble_eq_true rfl) ?_; rw [Tryz.results89, Tryz.ntmps89]; simp only [argsE, Nat.reduceAdd]
  repeat' first
           | (with_reducible apply go_op)
           | (with_reducible apply go_next)
           | ((with_reducible (show evOp _ _ _ _ _ _)); first
             | (((with_reducible apply go_st_agg); rfl; rfl; rfl; rfl; rfl; rfl; rfl))
             | (((with_reducible apply go_build); rfl; rfl))
             | (((with_reducible apply go_alloc); rfl; rfl; rfl)))
           | ((with_reducible (show evOps _ _ _ _ _ _)); first
             | (with_reducible apply go_nil))
           | ((with_reducible (show evG _ _ _ _ _)); first
             | (with_reducible apply go_seq)
             | (with_reducible apply go_region)
             | (with_reducible apply go_ret))
           | (with_reducible apply go_kseq)
           | ((with_reducible apply end_ret); apply fin1; rfl; rfl; rfl)
  all_goals kernel_rfl
theorem c_shapes1 (l : List Pt) : Contract Tryz.prog 95 [.sl (l.map encPt)] (.ret (.bool (decide (l.length < 3)))) := by
  refine contract_of mix Tryz.func95 rfl rfl (by rw [Tryz.ntmps95]; exact Nat.le_of_ble_eq_true rfl) ?_; rw [Tryz.results95, Tryz.ntmps95]; simp only [argsE, Nat.reduceAdd]
  repeat' first
           | (with_reducible apply go_op)
           | (with_reducible apply go_next)
           | ((with_reducible (show evOp _ _ _ _ _ _)); first
             | ((with_reducible (show evOp _ (.move _) _ _ _ _)) ; first | ((with_reducible apply go_mv_bool); rfl; rfl) | ((with_reducible apply go_mv_sl); rfl; rfl))
             | ((with_reducible apply go_as))
             | (((with_reducible apply go_cmp); rfl; rfl; rfl; rfl))
             | (((with_reducible apply go_len); rfl; rfl)))
           | ((with_reducible (show evOps _ _ _ _ _ _)); first
             | (with_reducible apply go_nil))
           | ((with_reducible (show evG _ _ _ _ _)); first
             | (with_reducible apply go_seq)
             | (with_reducible apply go_region)
             | (with_reducible apply go_ret))
           | (with_reducible apply go_kseq)
           | ((with_reducible apply end_bool); rfl)
  all_goals (exact decide_eq_decide.2 (by omega))
theorem c_shapes2 (l : List Pt) : Contract Tryz.prog 96 [.sl (l.map encPt)] (.ret (.bool (decide (40 < l.length)))) := by
  refine contract_of mix Tryz.func96 rfl rfl (by rw [Tryz.ntmps96]; exact Nat.le_of_ble_eq_true rfl) ?_; rw [Tryz.results96, Tryz.ntmps96]; simp only [argsE, Nat.reduceAdd]
  repeat' first
           | (with_reducible apply go_op)
           | (with_reducible apply go_next)
           | ((with_reducible (show evOp _ _ _ _ _ _)); first
             | ((with_reducible (show evOp _ (.move _) _ _ _ _)) ; first | ((with_reducible apply go_mv_bool); rfl; rfl) | ((with_reducible apply go_mv_sl); rfl; rfl))
             | ((with_reducible apply go_as))
             | (((with_reducible apply go_cmp); rfl; rfl; rfl; rfl))
             | (((with_reducible apply go_len); rfl; rfl)))
           | ((with_reducible (show evOps _ _ _ _ _ _)); first
             | (with_reducible apply go_nil))
           | ((with_reducible (show evG _ _ _ _ _)); first
             | (with_reducible apply go_seq)
             | (with_reducible apply go_region)
             | (with_reducible apply go_ret))
           | (with_reducible apply go_kseq)
           | ((with_reducible apply end_bool); rfl)
  all_goals (exact decide_eq_decide.2 (by omega))
theorem c_shapes3 (l : List Pt) (hl : l.length < 1000000000000) : Contract Tryz.prog 97 [.sl (l.map encPt)] (.ret (.bool (l.any fun p => !ptOK p))) := by
  refine contract_of mix Tryz.func97 rfl rfl (by rw [Tryz.ntmps97]; exact Nat.le_of_ble_eq_true rfl) ?_; rw [Tryz.results97, Tryz.ntmps97]; simp only [argsE, Nat.reduceAdd]
  repeat' first
           | (with_reducible apply go_op)
           | (with_reducible apply go_next)
           | ((with_reducible (show evOp _ _ _ _ _ _)); first
             | ((with_reducible (show evOp _ (.move _) _ _ _ _)) ; first | ((with_reducible apply go_mv_bool); rfl; rfl) | ((with_reducible apply go_mv_sl); rfl; rfl))
             | ((with_reducible apply go_as))
             | (((with_reducible apply go_fn_bool); rfl; (exact c_outside l hl); rfl)))
           | ((with_reducible (show evOps _ _ _ _ _ _)); first
             | (with_reducible apply go_nil))
           | ((with_reducible (show evG _ _ _ _ _)); first
             | (with_reducible apply go_seq)
             | (with_reducible apply go_region)
             | (with_reducible apply go_ret))
           | (with_reducible apply go_kseq)
           | ((with_reducible apply end_bool); rfl)
           | (with_reducible rfl)
theorem c_shapes4 (l : List Pt) (h3 : 3 ≤ l.length) (hl : l.length < 1000000000) (hok : ∀ q ∈ l, ptOK q = true) : Contract Tryz.prog 98 [.sl (l.map encPt)] (.ret (.bool (!simpleE l))) := by
  refine contract_of mix Tryz.func98 rfl rfl (by rw [Tryz.ntmps98]; exact Nat.le_of_ble_eq_true rfl) ?_; rw [Tryz.results98, Tryz.ntmps98]; simp only [argsE, Nat.reduceAdd]
  repeat' first
           | (with_reducible apply go_op)
           | (with_reducible apply go_next)
           | ((with_reducible (show evOp _ _ _ _ _ _)); first
             | ((with_reducible (show evOp _ (.move _) _ _ _ _)) ; first | ((with_reducible apply go_mv_bool); rfl; rfl) | ((with_reducible apply go_mv_sl); rfl; rfl))
             | ((with_reducible apply go_as))
             | (((with_reducible apply go_fn_bool); rfl; (exact c_simple l h3 hl hok); rfl))
             | (((with_reducible apply go_not); rfl; rfl)))
           | ((with_reducible (show evOps _ _ _ _ _ _)); first
             | (with_reducible apply go_nil))
           | ((with_reducible (show evG _ _ _ _ _)); first
             | (with_reducible apply go_seq)
             | (with_reducible apply go_region)
             | (with_reducible apply go_ret))
           | (with_reducible apply go_kseq)
           | ((with_reducible apply end_bool); rfl)
           | (with_reducible rfl)
/-- The error of a polygon. -/
def polyE (l : List Pt) : Int := if l.length < 3 then 10 else if 40 < l.length then 8 else if (l.any fun p => !ptOK p) = true then 2 else if simpleE l = true then 0 else 3
theorem poly_ok {l : List Pt} (h : polyE l = 0) : (3 ≤ l.length ∧ l.length ≤ 40) ∧ (∀ p ∈ l, ptOK p = true) ∧ simpleE l = true := by
  unfold polyE at h
  (repeat' split at h) <;> first | (cases h; done) | skip
  rename_i h1 h2 h3 h4
  refine ⟨by omega, fun p hp => ?_, h4⟩
  simp only [List.any_eq_true, not_exists, not_and] at h3
  simpa using h3 p hp
theorem c_CheckPolygon (l : List Pt) : Contract Tryz.prog 76 [.sl (l.map encPt)] (.ret (.int .i64 (polyE l))) := by
  have s1 := c_shapes1 l
  have s2 := c_shapes2 l
  refine contract_of mix Tryz.func76 rfl rfl (by rw [Tryz.ntmps76]; exact Nat.le_of_ble_eq_true rfl) ?_; rw [Tryz.results76, Tryz.ntmps76]; simp only [argsE, Nat.reduceAdd]
  repeat' first
           | (with_reducible apply go_op)
           | (with_reducible apply go_next)
           | ((with_reducible (show evOp _ _ _ _ _ _)); first
             | (((with_reducible apply go_mv_int); rfl; rfl))
             | ((with_reducible apply go_as)))
           | ((with_reducible (show evOps _ _ _ _ _ _)); first
             | (with_reducible apply go_nil))
           | ((with_reducible (show evG _ _ _ _ _)); first
             | (with_reducible apply go_seq)
             | (with_reducible apply go_region))
           | (with_reducible apply go_kseq)
  refine go_call_fn (args := []) (args' := []) rfl c_shapes rfl (Nat.le_of_ble_eq_true rfl) rfl ?_
  repeat' first
           | (with_reducible apply go_op)
           | (with_reducible apply go_next)
           | ((with_reducible (show evOp _ _ _ _ _ _)); first
             | (((with_reducible apply go_mv_int); rfl; rfl)))
           | ((with_reducible (show evOps _ _ _ _ _ _)); first
             | (with_reducible apply go_nil))
           | ((with_reducible (show evG _ _ _ _ _)); first
             | (with_reducible apply go_block))
           | (with_reducible apply go_kseq)
  refine go_count 4 (fun i => ⟨[(6, .int .i64 i), (5, .agg shapesD), (0, .sl (l.map encPt))], [], 0, 16⟩) (fun i => (1 ≤ i → 3 ≤ l.length) ∧ (2 ≤ i → l.length ≤ 40) ∧ (3 ≤ i → ∀ q ∈ l, ptOK q = true) ∧ (4 ≤ i → simpleE l = true))
    (entails_eq (nx := 0) (k := 0) (ns := []) (ks := [6, 5, 0]) [] rfl (by simp) (by kernel_rfl)) ⟨by omega, by omega, by omega, by omega⟩ ?_
  intro i hi hC
  have hc4 : i = 0 ∨ i = 1 ∨ i = 2 ∨ i = 3 ∨ i = 4 := by omega
  rcases hc4 with rfl | rfl | rfl | rfl | rfl
  · repeat' first
           | (with_reducible apply go_op)
           | (with_reducible apply go_next)
           | ((with_reducible (show evOp _ _ _ _ _ _)); first
             | (((with_reducible apply go_mv_sl); rfl; rfl))
             | (((with_reducible apply go_load_own); rfl; rfl; rfl; rfl))
             | (((with_reducible apply go_fieldAddr_own); rfl; rfl; rfl))
             | (((with_reducible apply go_cmp); rfl; rfl; rfl; rfl))
             | (((with_reducible apply go_st_agg); rfl; rfl; rfl; rfl; rfl; rfl; rfl))
             | (((with_reducible apply go_index_agg); rfl; rfl; rfl; omega; rfl))
             | (((with_reducible apply go_alloc); rfl; rfl; rfl)))
           | ((with_reducible (show evOps _ _ _ _ _ _)); first
             | (with_reducible apply go_nil))
           | ((with_reducible (show evG _ _ _ _ _)); first
             | (with_reducible apply go_seq)
             | (with_reducible apply go_region)
             | ((with_reducible apply go_cond_t); rfl; rfl)
             | (with_reducible apply go_skipc)
             | (with_reducible apply go_block))
           | (with_reducible apply go_kseq)
    refine go_clo_bool (g := 95) (ys := []) (d1 := .sl (l.map encPt)) rfl rfl (fun _ _ => rfl) s1 rfl ?_
    repeat' first
           | (with_reducible apply go_op)
           | (with_reducible apply go_next)
           | ((with_reducible (show evOp _ _ _ _ _ _)); first
             | (((with_reducible apply go_mv_int); rfl; rfl))
             | ((with_reducible apply go_as))
             | (((with_reducible apply go_load_own); rfl; rfl; rfl; rfl))
             | (((with_reducible apply go_fieldAddr_own); rfl; rfl; rfl))
             | (((with_reducible apply go_add); rfl; rfl; rfl; omega)))
           | ((with_reducible (show evOps _ _ _ _ _ _)); first
             | (with_reducible apply go_nil))
           | ((with_reducible (show evG _ _ _ _ _)); first
             | (with_reducible apply go_seq)
             | (with_reducible apply go_region)
             | (((with_reducible apply go_cond); rfl) <;> (intro h; simp only [h]; try simp only [decide_eq_true_eq, decide_eq_false_iff_not, Bool.not_eq_true', Bool.not_eq_false', Bool.not_true, Bool.not_false] at h; try exact absurd trivial h))
             | (with_reducible apply go_ret)
             | (with_reducible apply go_skipc))
           | (with_reducible apply go_kseq)
           | (with_reducible apply go_kseq_ret)
           | (with_reducible apply go_kblock)
           | (with_reducible apply go_kblock_ret)
           | ((with_reducible apply end_int); rfl)
    · unfold polyE; rw [if_pos (by omega)]
    · exact ⟨by omega, ⟨by omega, by omega, by omega, by omega⟩, entails_eq (nx := 0) (k := 0) (ns := []) (ks := [6, 5, 0]) [] rfl (by simp) (by kernel_rfl)⟩
  · have h3 := hC.1 (by omega)
    repeat' first
           | (with_reducible apply go_op)
           | (with_reducible apply go_next)
           | ((with_reducible (show evOp _ _ _ _ _ _)); first
             | (((with_reducible apply go_mv_sl); rfl; rfl))
             | (((with_reducible apply go_load_own); rfl; rfl; rfl; rfl))
             | (((with_reducible apply go_fieldAddr_own); rfl; rfl; rfl))
             | (((with_reducible apply go_cmp); rfl; rfl; rfl; rfl))
             | (((with_reducible apply go_st_agg); rfl; rfl; rfl; rfl; rfl; rfl; rfl))
             | (((with_reducible apply go_index_agg); rfl; rfl; rfl; omega; rfl))
             | (((with_reducible apply go_alloc); rfl; rfl; rfl)))
           | ((with_reducible (show evOps _ _ _ _ _ _)); first
             | (with_reducible apply go_nil))
           | ((with_reducible (show evG _ _ _ _ _)); first
             | (with_reducible apply go_seq)
             | (with_reducible apply go_region)
             | ((with_reducible apply go_cond_t); rfl; rfl)
             | (with_reducible apply go_skipc)
             | (with_reducible apply go_block))
           | (with_reducible apply go_kseq)
    refine go_clo_bool (g := 96) (ys := []) (d1 := .sl (l.map encPt)) rfl rfl (fun _ _ => rfl) s2 rfl ?_
    repeat' first
           | (with_reducible apply go_op)
           | (with_reducible apply go_next)
           | ((with_reducible (show evOp _ _ _ _ _ _)); first
             | (((with_reducible apply go_mv_int); rfl; rfl))
             | ((with_reducible apply go_as))
             | (((with_reducible apply go_load_own); rfl; rfl; rfl; rfl))
             | (((with_reducible apply go_fieldAddr_own); rfl; rfl; rfl))
             | (((with_reducible apply go_add); rfl; rfl; rfl; omega)))
           | ((with_reducible (show evOps _ _ _ _ _ _)); first
             | (with_reducible apply go_nil))
           | ((with_reducible (show evG _ _ _ _ _)); first
             | (with_reducible apply go_seq)
             | (with_reducible apply go_region)
             | (((with_reducible apply go_cond); rfl) <;> (intro h; simp only [h]; try simp only [decide_eq_true_eq, decide_eq_false_iff_not, Bool.not_eq_true', Bool.not_eq_false', Bool.not_true, Bool.not_false] at h; try exact absurd trivial h))
             | (with_reducible apply go_ret)
             | (with_reducible apply go_skipc))
           | (with_reducible apply go_kseq)
           | (with_reducible apply go_kseq_ret)
           | (with_reducible apply go_kblock)
           | (with_reducible apply go_kblock_ret)
           | ((with_reducible apply end_int); rfl)
    · unfold polyE; rw [if_neg (by omega), if_pos (by omega)]
    · exact ⟨by omega, ⟨by omega, by omega, by omega, by omega⟩, entails_eq (nx := 0) (k := 0) (ns := []) (ks := [6, 5, 0]) [] rfl (by simp) (by kernel_rfl)⟩
  · have h3 := hC.1 (by omega)
    have h4 := hC.2.1 (by omega)
    repeat' first
           | (with_reducible apply go_op)
           | (with_reducible apply go_next)
           | ((with_reducible (show evOp _ _ _ _ _ _)); first
             | (((with_reducible apply go_mv_sl); rfl; rfl))
             | (((with_reducible apply go_load_own); rfl; rfl; rfl; rfl))
             | (((with_reducible apply go_fieldAddr_own); rfl; rfl; rfl))
             | (((with_reducible apply go_cmp); rfl; rfl; rfl; rfl))
             | (((with_reducible apply go_st_agg); rfl; rfl; rfl; rfl; rfl; rfl; rfl))
             | (((with_reducible apply go_index_agg); rfl; rfl; rfl; omega; rfl))
             | (((with_reducible apply go_alloc); rfl; rfl; rfl)))
           | ((with_reducible (show evOps _ _ _ _ _ _)); first
             | (with_reducible apply go_nil))
           | ((with_reducible (show evG _ _ _ _ _)); first
             | (with_reducible apply go_seq)
             | (with_reducible apply go_region)
             | ((with_reducible apply go_cond_t); rfl; rfl)
             | (with_reducible apply go_skipc)
             | (with_reducible apply go_block))
           | (with_reducible apply go_kseq)
    refine go_clo_bool (g := 97) (ys := []) (d1 := .sl (l.map encPt)) rfl rfl (fun _ _ => rfl) (c_shapes3 l (by omega)) rfl ?_
    repeat' first
           | (with_reducible apply go_op)
           | (with_reducible apply go_next)
           | ((with_reducible (show evOp _ _ _ _ _ _)); first
             | (((with_reducible apply go_mv_int); rfl; rfl))
             | ((with_reducible apply go_as))
             | (((with_reducible apply go_load_own); rfl; rfl; rfl; rfl))
             | (((with_reducible apply go_fieldAddr_own); rfl; rfl; rfl))
             | (((with_reducible apply go_add); rfl; rfl; rfl; omega)))
           | ((with_reducible (show evOps _ _ _ _ _ _)); first
             | (with_reducible apply go_nil))
           | ((with_reducible (show evG _ _ _ _ _)); first
             | (with_reducible apply go_seq)
             | (with_reducible apply go_region)
             | (((with_reducible apply go_cond); rfl) <;> (intro h; simp only [h]; try simp only [decide_eq_true_eq, decide_eq_false_iff_not, Bool.not_eq_true', Bool.not_eq_false', Bool.not_true, Bool.not_false] at h; try exact absurd trivial h))
             | (with_reducible apply go_ret)
             | (with_reducible apply go_skipc))
           | (with_reducible apply go_kseq)
           | (with_reducible apply go_kseq_ret)
           | (with_reducible apply go_kblock)
           | (with_reducible apply go_kblock_ret)
           | ((with_reducible apply end_int); rfl)
    · unfold polyE; rw [if_neg (by omega), if_neg (by omega), if_pos (by assumption)]
    · refine ⟨by omega, ⟨by omega, by omega, fun _ q hq => ?_, by omega⟩, entails_eq (nx := 0) (k := 0) (ns := []) (ks := [6, 5, 0]) [] rfl (by simp) (by kernel_rfl)⟩
      have := List.any_eq_false.1 ‹(l.any fun p => !ptOK p) = false› q hq
      simpa using this
  · have h3 := hC.1 (by omega)
    have h4 := hC.2.1 (by omega)
    have h5 := hC.2.2.1 (by omega)
    have hn : ¬ (l.any fun p => !ptOK p) = true := by
      simp only [List.any_eq_true, not_exists, not_and]
      intro q hq; rw [h5 q hq]; simp
    repeat' first
           | (with_reducible apply go_op)
           | (with_reducible apply go_next)
           | ((with_reducible (show evOp _ _ _ _ _ _)); first
             | (((with_reducible apply go_mv_sl); rfl; rfl))
             | (((with_reducible apply go_load_own); rfl; rfl; rfl; rfl))
             | (((with_reducible apply go_fieldAddr_own); rfl; rfl; rfl))
             | (((with_reducible apply go_cmp); rfl; rfl; rfl; rfl))
             | (((with_reducible apply go_st_agg); rfl; rfl; rfl; rfl; rfl; rfl; rfl))
             | (((with_reducible apply go_index_agg); rfl; rfl; rfl; omega; rfl))
             | (((with_reducible apply go_alloc); rfl; rfl; rfl)))
           | ((with_reducible (show evOps _ _ _ _ _ _)); first
             | (with_reducible apply go_nil))
           | ((with_reducible (show evG _ _ _ _ _)); first
             | (with_reducible apply go_seq)
             | (with_reducible apply go_region)
             | ((with_reducible apply go_cond_t); rfl; rfl)
             | (with_reducible apply go_skipc)
             | (with_reducible apply go_block))
           | (with_reducible apply go_kseq)
    refine go_clo_bool (g := 98) (ys := []) (d1 := .sl (l.map encPt)) rfl rfl (fun _ _ => rfl) (c_shapes4 l h3 (by omega) h5) rfl ?_
    repeat' first
           | (with_reducible apply go_op)
           | (with_reducible apply go_next)
           | ((with_reducible (show evOp _ _ _ _ _ _)); first
             | (((with_reducible apply go_mv_int); rfl; rfl))
             | ((with_reducible apply go_as))
             | (((with_reducible apply go_load_own); rfl; rfl; rfl; rfl))
             | (((with_reducible apply go_fieldAddr_own); rfl; rfl; rfl))
             | (((with_reducible apply go_add); rfl; rfl; rfl; omega)))
           | ((with_reducible (show evOps _ _ _ _ _ _)); first
             | (with_reducible apply go_nil))
           | ((with_reducible (show evG _ _ _ _ _)); first
             | (with_reducible apply go_seq)
             | (with_reducible apply go_region)
             | (((with_reducible apply go_cond); rfl) <;> (intro h; simp only [h]; try simp only [decide_eq_true_eq, decide_eq_false_iff_not, Bool.not_eq_true', Bool.not_eq_false', Bool.not_true, Bool.not_false] at h; try exact absurd trivial h))
             | (with_reducible apply go_ret)
             | (with_reducible apply go_skipc))
           | (with_reducible apply go_kseq)
           | (with_reducible apply go_kseq_ret)
           | (with_reducible apply go_kblock)
           | (with_reducible apply go_kblock_ret)
           | ((with_reducible apply end_int); rfl)
    all_goals first
      | (unfold polyE; rw [if_neg (by omega), if_neg (by omega), if_neg hn, if_neg (by rw [‹simpleE l = false›]; simp)])
      | (exact ⟨by omega, ⟨by omega, by omega, fun _ => h5, fun _ => by simp_all⟩, entails_eq (nx := 0) (k := 0) (ns := []) (ks := [6, 5, 0]) [] rfl (by simp) (by kernel_rfl)⟩)
      | trace_state
  · have h3 := hC.1 (by omega)
    have h4 := hC.2.1 (by omega)
    have h5 := hC.2.2.1 (by omega)
    have h6 := hC.2.2.2 (by omega)
    have hn : ¬ (l.any fun p => !ptOK p) = true := by
      simp only [List.any_eq_true, not_exists, not_and]
      intro q hq; rw [h5 q hq]; simp
    repeat' first
           | (with_reducible apply go_op)
           | (with_reducible apply go_next)
           | ((with_reducible (show evOp _ _ _ _ _ _)); first
             | (((with_reducible apply go_mv_int); rfl; rfl))
             | ((with_reducible apply go_as))
             | (((with_reducible apply go_cmp); rfl; rfl; rfl; rfl)))
           | ((with_reducible (show evOps _ _ _ _ _ _)); first
             | (with_reducible apply go_nil))
           | ((with_reducible (show evG _ _ _ _ _)); first
             | (with_reducible apply go_seq)
             | (with_reducible apply go_region)
             | ((with_reducible apply go_cond_f); rfl; rfl)
             | (with_reducible apply go_ret)
             | (with_reducible apply go_exit))
           | (with_reducible apply go_kseq)
           | (with_reducible apply go_kblock_exit)
           | (with_reducible apply go_kseq_exit)
           | ((with_reducible apply end_int); rfl)
    all_goals first
      | (unfold polyE; rw [if_neg (by omega), if_neg (by omega), if_neg hn, if_pos h6])
      | trace_state
end Go.Pv.Geo

open Go Go.Proofs Go.Pv
set_option maxHeartbeats 4000000
set_option maxRecDepth 100000
set_option linter.unusedSimpArgs false
set_option linter.unusedVariables false
namespace Go.Pv.Geo
theorem on_first (a b : Pt) : onE a b a = true := by
  rw [onE, decide_eq_true_eq]
  exact ⟨by simp [crossE], by omega, by omega⟩
theorem meet_first (a b d : Pt) : meetE a b a d = true := by simp [meetE, on_first]
theorem simple_dup {l : List Pt} {k i : Nat} (hk : k < i) (hi : i < l.length) (h : l[i] = l[k]) : simpleE l = false := by
  have e1 : cornerP l k = l[k] := cornerP_lt (by omega)
  have e2 : cornerP l i = l[i] := cornerP_lt hi
  by_cases h1 : i = k + 1
  · subst h1
    exact simple_turn (i := k) (by omega) (by simp only [turnBad]; rw [e1, e2, h, ptEq_iff.2 rfl]; simp)
  by_cases h2 : (i + 1) % l.length = k
  · have hn : i + 1 = l.length := by
      rcases Nat.lt_or_ge (i + 1) l.length with hlt | hge
      · rw [Nat.mod_eq_of_lt hlt] at h2; omega
      · omega
    rw [hn, Nat.mod_self] at h2
    subst h2
    have e3 : cornerP l (i + 1) = l[0] := by
      rw [hn, cornerP_get (by omega)]; simp
    exact simple_turn (i := i) hi (by simp only [turnBad]; rw [e2, e3, h, ptEq_iff.2 rfl]; simp)
  · exact simple_pair (i := k) (k := i) (by omega) hi (by omega) (by
      simp only [pairBad, Bool.and_eq_true, decide_eq_true_eq]
      refine ⟨h2, ?_⟩
      rw [e1, e2, h]; exact meet_first _ _ _)
def rturn (l : List Pt) (i : Nat) : Bool := onE (cornerP l i) (cornerP l (i + 1)) (cornerP l (i + 2)) || onE (cornerP l (i + 1)) (cornerP l (i + 2)) (cornerP l i)
theorem rturn_bad {l : List Pt} {i : Nat} (h : rturn l i = true) : turnBad l i = true := by
  simp only [rturn, turnBad, Bool.or_eq_true] at *; rcases h with h | h <;> simp [h]
theorem turn_ok {l : List Pt} {i : Nat} (h3 : 3 ≤ l.length) (hi : i < l.length) (hd : ∀ i (hi : i < l.length), ∀ k (hk : k < i), l[i] ≠ l[k]) (h : rturn l i = false) : turnBad l i = false := by
  simp only [rturn, turnBad, Bool.or_eq_false_iff] at *
  refine ⟨⟨?_, h.1⟩, h.2⟩
  rw [Bool.eq_false_iff]
  intro he
  have he := ptEq_iff.1 he
  rw [cornerP_lt hi, cornerP_get (by omega)] at he
  rcases Nat.lt_or_ge (i + 1) l.length with hlt | hge
  · simp only [Nat.mod_eq_of_lt hlt] at he
    exact hd (i + 1) hlt i (by omega) he.symm
  · have hn : i + 1 = l.length := by omega
    simp only [hn, Nat.mod_self] at he
    exact hd i hi 0 (by omega) he

theorem c_rCheckPolygon (l : List Pt) : Contract Tryz.prog 51 [.sl (l.map encPt)] (.ret (.int .i64 (polyE l))) := by
  by_cases hb : 3 ≤ l.length ∧ l.length ≤ 40
  rotate_left
  · refine contract_of mix Tryz.func51 rfl rfl (by rw [Tryz.ntmps51]; exact Nat.le_of_ble_eq_true rfl) ?_; rw [Tryz.results51, Tryz.ntmps51]; simp only [argsE, Nat.reduceAdd]
    repeat' first
           | (with_reducible apply go_op)
           | (with_reducible apply go_next)
           | ((with_reducible (show evOp _ _ _ _ _ _)); first
             | ((with_reducible (show evOp _ (.move _) _ _ _ _)) ; first | ((with_reducible apply go_mv_int); rfl; rfl) | ((with_reducible apply go_mv_sl); rfl; rfl))
             | ((with_reducible apply go_as))
             | (((with_reducible apply go_cmp); rfl; rfl; rfl; rfl))
             | (((with_reducible apply go_len); rfl; rfl)))
           | ((with_reducible (show evOps _ _ _ _ _ _)); first
             | (with_reducible apply go_nil))
           | ((with_reducible (show evG _ _ _ _ _)); first
             | (with_reducible apply go_seq)
             | (with_reducible apply go_region)
             | (((with_reducible apply go_cond); rfl) <;> (intro h; simp only [h]; try simp only [decide_eq_true_eq, decide_eq_false_iff_not, Bool.not_eq_true', Bool.not_eq_false', Bool.not_true, Bool.not_false] at h; try exact absurd trivial h))
             | (with_reducible apply go_ret)
             | (with_reducible apply go_skipc)
             | (with_reducible apply go_block))
           | (with_reducible apply go_kseq)
           | (with_reducible apply go_kseq_ret)
           | ((with_reducible apply end_int); rfl)
    · unfold polyE; rw [if_pos (by omega)]
    · unfold polyE; rw [if_neg (by omega), if_pos (by omega)]
    · exfalso; omega
  have hp4 : ∀ p ∈ l, ptOK p = false → polyE l = 2 := fun p hp ho => by
    unfold polyE; rw [if_neg (by omega), if_neg (by omega), if_pos (List.any_eq_true.2 ⟨p, hp, by rw [ho]; rfl⟩)]
  have hpo : (∀ p ∈ l, ptOK p = true) → polyE l = if simpleE l = true then 0 else 3 := fun h => by
    unfold polyE; rw [if_neg (by omega), if_neg (by omega), if_neg]
    simp only [List.any_eq_true, not_exists, not_and]
    intro q hq; rw [h q hq]; simp
  refine contract_of mix Tryz.func51 rfl rfl (by rw [Tryz.ntmps51]; exact Nat.le_of_ble_eq_true rfl) ?_; rw [Tryz.results51, Tryz.ntmps51]; simp only [argsE, Nat.reduceAdd]
  repeat' first
           | (with_reducible apply go_op)
           | (with_reducible apply go_next)
           | ((with_reducible (show evOp _ _ _ _ _ _)); first
             | ((with_reducible (show evOp _ (.move _) _ _ _ _)) ; first | ((with_reducible apply go_mv_int); rfl; rfl) | ((with_reducible apply go_mv_sl); rfl; rfl))
             | ((with_reducible apply go_as))
             | (((with_reducible apply go_cmp); rfl; rfl; rfl; rfl))
             | (((with_reducible apply go_len); rfl; rfl)))
           | ((with_reducible (show evOps _ _ _ _ _ _)); first
             | (with_reducible apply go_nil))
           | ((with_reducible (show evG _ _ _ _ _)); first
             | (with_reducible apply go_seq)
             | (with_reducible apply go_region)
             | (((with_reducible apply go_cond); rfl) <;> (intro h; simp only [h]; try simp only [decide_eq_true_eq, decide_eq_false_iff_not, Bool.not_eq_true', Bool.not_eq_false', Bool.not_true, Bool.not_false] at h; try exact absurd trivial h))
             | (with_reducible apply go_ret)
             | (with_reducible apply go_skipc)
             | (with_reducible apply go_block))
           | (with_reducible apply go_kseq)
           | (with_reducible apply go_kseq_ret)
           | ((with_reducible apply end_int); rfl)
  all_goals try (exfalso; omega)
  refine go_count (l.length) (fun i => ⟨[(3, .int .i64 i), (0, .sl (l.map encPt))], [], 0, 102⟩) (fun i => ∀ j (hj : j < i) (hj' : j < l.length), ptOK l[j] = true) (entails_eq (k := 0) (ns := []) (ks := [3, 0]) [] rfl (by simp) rfl) (by omega) ?_
  intro i hi hC
  by_cases h2 : i < l.length
  · have g := c_good l[i]
    cases hp : ptOK l[i]
    · rw [hp] at g
      have e := hp4 _ (List.getElem_mem h2) hp
      repeat' first
           | (with_reducible apply go_op)
           | (with_reducible apply go_next)
           | ((with_reducible (show evOp _ _ _ _ _ _)); first
             | ((with_reducible (show evOp _ (.move _) _ _ _ _)) ; first | ((with_reducible apply go_mv_int); rfl; rfl) | ((with_reducible apply go_mv_sl); rfl; rfl))
             | ((with_reducible apply go_as))
             | (((with_reducible apply go_ld_ptr); rfl; rfl; rfl))
             | (((with_reducible apply go_index_nat); rfl; rfl; (with_reducible rfl); (intro; rfl); rfl; omega; (intro hlt)))
             | (((with_reducible apply go_cmp); rfl; rfl; rfl; rfl))
             | ((with_reducible (show evOp _ (.call _) _ _ _ _)) ; first | ((with_reducible apply go_len); rfl; rfl) | ((with_reducible apply go_fn_bool); rfl; (exact g); rfl))
             | (((with_reducible apply go_not); rfl; rfl)))
           | ((with_reducible (show evOps _ _ _ _ _ _)); first
             | (with_reducible apply go_nil))
           | ((with_reducible (show evG _ _ _ _ _)); first
             | (with_reducible apply go_seq)
             | (with_reducible apply go_region)
             | ((with_reducible apply go_cond_t); rfl; rfl)
             | (((with_reducible apply go_cond); rfl) <;> (intro h; simp only [h]; try simp only [decide_eq_true_eq, decide_eq_false_iff_not, Bool.not_eq_true', Bool.not_eq_false', Bool.not_true, Bool.not_false] at h; try exact absurd trivial h))
             | (with_reducible apply go_ret)
             | (with_reducible apply go_skipc)
             | (with_reducible apply go_block)
             | (with_reducible apply go_exit))
           | (with_reducible apply go_kseq)
           | (with_reducible apply go_kseq_ret)
           | (with_reducible apply go_kblock_ret)
           | (with_reducible apply go_kblock_exit)
           | (with_reducible apply go_kseq_exit)
           | ((with_reducible apply end_int); rfl)
      all_goals first | (exfalso; omega) | exact e.symm
    · rw [hp] at g
      repeat' first
           | (with_reducible apply go_op)
           | (with_reducible apply go_next)
           | ((with_reducible (show evOp _ _ _ _ _ _)); first
             | ((with_reducible (show evOp _ (.move _) _ _ _ _)) ; first | ((with_reducible apply go_mv_int); rfl; rfl) | ((with_reducible apply go_mv_sl); rfl; rfl))
             | ((with_reducible apply go_as))
             | (((with_reducible apply go_ld_ptr); rfl; rfl; rfl))
             | (((with_reducible apply go_index_nat); rfl; rfl; (with_reducible rfl); (intro; rfl); rfl; omega; (intro hlt)))
             | ((with_reducible (show evOp _ (.binOp _ _ _ _ _) _ _ _ _)) ; first | ((with_reducible apply go_cmp); rfl; rfl; rfl; rfl) | ((with_reducible apply go_add); rfl; rfl; rfl; omega))
             | ((with_reducible (show evOp _ (.call _) _ _ _ _)) ; first | ((with_reducible apply go_len); rfl; rfl) | ((with_reducible apply go_fn_bool); rfl; (exact g); rfl))
             | (((with_reducible apply go_not); rfl; rfl)))
           | ((with_reducible (show evOps _ _ _ _ _ _)); first
             | (with_reducible apply go_nil))
           | ((with_reducible (show evG _ _ _ _ _)); first
             | (with_reducible apply go_seq)
             | (with_reducible apply go_region)
             | ((with_reducible apply go_cond_f); rfl; rfl)
             | (((with_reducible apply go_cond); rfl) <;> (intro h; simp only [h]; try simp only [decide_eq_true_eq, decide_eq_false_iff_not, Bool.not_eq_true', Bool.not_eq_false', Bool.not_true, Bool.not_false] at h; try exact absurd trivial h))
             | (with_reducible apply go_skipc)
             | (with_reducible apply go_block)
             | (with_reducible apply go_exit))
           | (with_reducible apply go_kseq)
           | (with_reducible apply go_kblock)
           | (with_reducible apply go_kblock_exit)
           | (with_reducible apply go_kseq_exit)
      all_goals first
        | (exfalso; omega)
        | (refine ⟨h2, fun j hj hj' => ?_, entails_eq (k := 0) (ns := []) (ks := [3, 0]) [] rfl (by simp) rfl⟩
           rcases Nat.lt_succ_iff_lt_or_eq.1 hj with h' | rfl
           · exact hC j h' hj'
           · exact hp)
  have hok : ∀ p ∈ l, ptOK p = true := fun p hp => by
    obtain ⟨j, hj, rfl⟩ := List.mem_iff_getElem.1 hp
    exact hC j (by omega) hj
  have hpe := hpo hok
  have h0 : 0 < l.length := by omega
  clear hpo hp4
  repeat' first
           | (with_reducible apply go_op)
           | (with_reducible apply go_next)
           | ((with_reducible (show evOp _ _ _ _ _ _)); first
             | ((with_reducible (show evOp _ (.move _) _ _ _ _)) ; first | ((with_reducible apply go_mv_int); rfl; rfl) | ((with_reducible apply go_mv_sl); rfl; rfl))
             | ((with_reducible apply go_as))
             | (((with_reducible apply go_ld_ptr); rfl; rfl; rfl))
             | (((with_reducible apply go_index_nat); rfl; rfl; (with_reducible rfl); (intro; rfl); rfl; omega; (intro hlt)))
             | (((with_reducible apply go_cmp); rfl; rfl; rfl; rfl))
             | (((with_reducible apply go_len); rfl; rfl)))
           | ((with_reducible (show evOps _ _ _ _ _ _)); first
             | (with_reducible apply go_nil))
           | ((with_reducible (show evG _ _ _ _ _)); first
             | (with_reducible apply go_seq)
             | (with_reducible apply go_region)
             | (((with_reducible apply go_cond); rfl) <;> (intro h; simp only [h]; try simp only [decide_eq_true_eq, decide_eq_false_iff_not, Bool.not_eq_true', Bool.not_eq_false', Bool.not_true, Bool.not_false] at h; try exact absurd trivial h))
             | (with_reducible apply go_skipc)
             | (with_reducible apply go_block)
             | (with_reducible apply go_exit))
           | (with_reducible apply go_kseq)
           | (with_reducible apply go_kblock_exit)
           | (with_reducible apply go_kseq_exit)
  all_goals try (exfalso; omega)
  refine go_count (l.length) (fun i => ⟨[(5, .int .i64 i), (4, .int .i64 l.length), (0, .sl (l.map encPt))], [], 0, 102⟩) (fun i => ∀ j (hj : j < i) (hj' : j < l.length), ∀ k (hk : k < j), l[j] ≠ l[k]) (entails_eq (k := 0) (ns := []) (ks := [5, 4, 0]) [] rfl (by simp) rfl) (by omega) ?_
  intro i hi hC
  by_cases h2 : i < l.length
  · repeat' first
           | (with_reducible apply go_op)
           | (with_reducible apply go_next)
           | ((with_reducible (show evOp _ _ _ _ _ _)); first
             | (((with_reducible apply go_mv_int); rfl; rfl))
             | ((with_reducible apply go_as))
             | (((with_reducible apply go_cmp); rfl; rfl; rfl; rfl)))
           | ((with_reducible (show evOps _ _ _ _ _ _)); first
             | (with_reducible apply go_nil))
           | ((with_reducible (show evG _ _ _ _ _)); first
             | (with_reducible apply go_seq)
             | (with_reducible apply go_region)
             | (((with_reducible apply go_cond); rfl) <;> (intro h; simp only [h]; try simp only [decide_eq_true_eq, decide_eq_false_iff_not, Bool.not_eq_true', Bool.not_eq_false', Bool.not_true, Bool.not_false] at h; try exact absurd trivial h))
             | (with_reducible apply go_skipc)
             | (with_reducible apply go_block)
             | (with_reducible apply go_exit))
           | (with_reducible apply go_kseq)
           | (with_reducible apply go_kblock_exit)
           | (with_reducible apply go_kseq_exit)
    all_goals try (exfalso; omega)
    refine go_count i (fun k => ⟨[(6, .int .i64 k), (5, .int .i64 i), (4, .int .i64 l.length), (0, .sl (l.map encPt))], [], 0, 102⟩) (fun k => ∀ j (hj : j < k) (hj' : j < i), l[i] ≠ l[j])
      (entails_eq (nx := 0) (k := 0) (ns := []) (ks := [6, 5, 4, 0]) [] rfl (by simp) (by kernel_rfl)) (by omega) ?_
    intro k hk hC2
    by_cases h3 : k < i
    · repeat' first
           | (with_reducible apply go_op)
           | (with_reducible apply go_next)
           | ((with_reducible (show evOp _ _ _ _ _ _)); first
             | ((with_reducible (show evOp _ (.move _) _ _ _ _)) ; first | ((with_reducible apply go_mv_int); rfl; rfl) | ((with_reducible apply go_mv_sl); rfl; rfl))
             | ((with_reducible apply go_as))
             | (((with_reducible apply go_ld_ptr); rfl; rfl; rfl))
             | (((with_reducible apply go_index_nat); rfl; rfl; (with_reducible rfl); (intro; rfl); rfl; omega; (intro hlt)))
             | ((with_reducible (show evOp _ (.binOp _ _ _ _ _) _ _ _ _)) ; first | ((with_reducible apply go_cmp); rfl; rfl; rfl; rfl) | ((with_reducible apply go_add); rfl; rfl; rfl; omega) | ((with_reducible apply go_eql_agg); rfl; rfl; rfl; rfl)))
           | ((with_reducible (show evOps _ _ _ _ _ _)); first
             | (with_reducible apply go_nil)
             | ((with_reducible apply go_pre); rfl)
             | (with_reducible apply go_pre_nil)
             | ((with_reducible apply go_suf); rfl)
             | (with_reducible apply go_suf_nil))
           | ((with_reducible (show evG _ _ _ _ _)); first
             | (with_reducible apply go_seq)
             | (with_reducible apply go_region)
             | (((with_reducible apply go_cond); rfl) <;> (intro h; simp only [h]; try simp only [decide_eq_true_eq, decide_eq_false_iff_not, Bool.not_eq_true', Bool.not_eq_false', Bool.not_true, Bool.not_false] at h; try exact absurd trivial h))
             | ((with_reducible apply go_order); kernel_rfl; rfl)
             | (with_reducible apply go_ret)
             | (with_reducible apply go_skipc)
             | (with_reducible apply go_block)
             | (with_reducible apply go_exit))
           | (with_reducible apply go_kseq)
           | (with_reducible apply go_ksuf)
           | (with_reducible apply go_kseq_ret)
           | (with_reducible apply go_kblock)
           | (with_reducible apply go_kblock_ret)
           | (with_reducible apply go_kblock_exit)
           | (with_reducible apply go_kseq_exit)
           | ((with_reducible apply end_int); rfl)
      all_goals first
        | (exfalso; omega)
        | (have e1 : ptEq l[i] l[k] = true := by assumption
           rw [hpe, simple_dup h3 h2 (ptEq_iff.1 e1)]; rfl)
        | (have e1 : ptEq l[i] l[k] = false := by assumption
           refine ⟨h3, fun j hj hj' => ?_, entails_eq (nx := 0) (k := 0) (ns := []) (ks := [6, 5, 4, 0]) [] rfl (by simp) (by kernel_rfl)⟩
           rcases Nat.lt_succ_iff_lt_or_eq.1 hj with h' | rfl
           · exact hC2 j h' hj'
           · intro he; rw [ptEq_iff.2 he] at e1; cases e1)
        | trace_state
    · repeat' first
           | (with_reducible apply go_op)
           | (with_reducible apply go_next)
           | ((with_reducible (show evOp _ _ _ _ _ _)); first
             | ((with_reducible (show evOp _ (.move _) _ _ _ _)) ; first | ((with_reducible apply go_mv_int); rfl; rfl) | ((with_reducible apply go_mv_sl); rfl; rfl))
             | ((with_reducible apply go_as))
             | (((with_reducible apply go_ld_ptr); rfl; rfl; rfl))
             | (((with_reducible apply go_index_nat); rfl; rfl; (with_reducible rfl); (intro; rfl); rfl; omega; (intro hlt)))
             | ((with_reducible (show evOp _ (.binOp _ _ _ _ _) _ _ _ _)) ; first | ((with_reducible apply go_cmp); rfl; rfl; rfl; rfl) | ((with_reducible apply go_add); rfl; rfl; rfl; omega) | ((with_reducible apply go_eql_agg); rfl; rfl; rfl; rfl)))
           | ((with_reducible (show evOps _ _ _ _ _ _)); first
             | (with_reducible apply go_nil)
             | ((with_reducible apply go_pre); rfl)
             | (with_reducible apply go_pre_nil)
             | ((with_reducible apply go_suf); rfl)
             | (with_reducible apply go_suf_nil))
           | ((with_reducible (show evG _ _ _ _ _)); first
             | (with_reducible apply go_seq)
             | (with_reducible apply go_region)
             | (((with_reducible apply go_cond); rfl) <;> (intro h; simp only [h]; try simp only [decide_eq_true_eq, decide_eq_false_iff_not, Bool.not_eq_true', Bool.not_eq_false', Bool.not_true, Bool.not_false] at h; try exact absurd trivial h))
             | ((with_reducible apply go_order); kernel_rfl; rfl)
             | (with_reducible apply go_ret)
             | (with_reducible apply go_skipc)
             | (with_reducible apply go_block)
             | (with_reducible apply go_exit))
           | (with_reducible apply go_kseq)
           | (with_reducible apply go_ksuf)
           | (with_reducible apply go_kseq_ret)
           | (with_reducible apply go_kblock)
           | (with_reducible apply go_kblock_ret)
           | (with_reducible apply go_kblock_exit)
           | (with_reducible apply go_kseq_exit)
           | ((with_reducible apply end_int); rfl)
      all_goals first
        | (exfalso; omega)
        | (refine ⟨h2, fun j hj hj' => ?_, entails_eq (k := 0) (ns := []) (ks := [5, 4, 0]) [] rfl (by simp) rfl⟩
           rcases Nat.lt_succ_iff_lt_or_eq.1 hj with h' | rfl
           · exact hC j h' hj'
           · exact fun k' hk' => hC2 k' (by omega) hk')
        | trace_state
  have hd : ∀ i (hi : i < l.length), ∀ k (hk : k < i), l[i] ≠ l[k] := fun i' hi' => hC i' (by omega) hi'
  repeat' first
           | (with_reducible apply go_op)
           | (with_reducible apply go_next)
           | ((with_reducible (show evOp _ _ _ _ _ _)); first
             | (((with_reducible apply go_mv_int); rfl; rfl))
             | ((with_reducible apply go_as))
             | (((with_reducible apply go_cmp); rfl; rfl; rfl; rfl)))
           | ((with_reducible (show evOps _ _ _ _ _ _)); first
             | (with_reducible apply go_nil))
           | ((with_reducible (show evG _ _ _ _ _)); first
             | (with_reducible apply go_seq)
             | (with_reducible apply go_region)
             | (((with_reducible apply go_cond); rfl) <;> (intro h; simp only [h]; try simp only [decide_eq_true_eq, decide_eq_false_iff_not, Bool.not_eq_true', Bool.not_eq_false', Bool.not_true, Bool.not_false] at h; try exact absurd trivial h))
             | (with_reducible apply go_skipc)
             | (with_reducible apply go_block)
             | (with_reducible apply go_exit))
           | (with_reducible apply go_kseq)
           | (with_reducible apply go_kblock_exit)
           | (with_reducible apply go_kseq_exit)
  all_goals try (exfalso; omega)
  refine go_count (l.length) (fun i => ⟨[(7, .int .i64 i), (4, .int .i64 l.length), (0, .sl (l.map encPt))], [], 0, 102⟩) (fun i => ∀ j, j < i → rturn l j = false ∧ ∀ k, k < l.length → j + 2 ≤ k → pairBad l j k = false) (entails_eq (k := 0) (ns := []) (ks := [7, 4, 0]) [] rfl (by simp) rfl) (by omega) ?_
  intro i hi hC
  by_cases h2 : i < l.length
  rotate_left
  · repeat' first
           | (with_reducible apply go_op)
           | (with_reducible apply go_next)
           | ((with_reducible (show evOp _ _ _ _ _ _)); first
             | ((with_reducible (show evOp _ (.move _) _ _ _ _)) ; first | ((with_reducible apply go_mv_int); rfl; rfl) | ((with_reducible apply go_mv_sl); rfl; rfl))
             | ((with_reducible apply go_as))
             | (((with_reducible apply go_cmp); rfl; rfl; rfl; rfl)))
           | ((with_reducible (show evOps _ _ _ _ _ _)); first
             | (with_reducible apply go_nil))
           | ((with_reducible (show evG _ _ _ _ _)); first
             | (with_reducible apply go_seq)
             | (with_reducible apply go_region)
             | (((with_reducible apply go_cond); rfl) <;> (intro h; simp only [h]; try simp only [decide_eq_true_eq, decide_eq_false_iff_not, Bool.not_eq_true', Bool.not_eq_false', Bool.not_true, Bool.not_false] at h; try exact absurd trivial h))
             | (with_reducible apply go_ret)
             | (with_reducible apply go_skipc)
             | (with_reducible apply go_block)
             | (with_reducible apply go_exit))
           | (with_reducible apply go_kseq)
           | (with_reducible apply go_kblock_exit)
           | (with_reducible apply go_kseq_exit)
           | ((with_reducible apply end_int); rfl)
    all_goals first
      | (exfalso; omega)
      | (rw [hpe, simple_yes (fun j hj => turn_ok hb.1 hj hd (hC j (by omega)).1) fun j hj k hk hjk => (hC j (by omega)).2 k hk hjk]; rfl)
      | trace_state
  have o0 := hok _ (cornerP_mem h0 i)
  have o1 := hok _ (cornerP_mem h0 (i + 1))
  have o2 := hok _ (cornerP_mem h0 (i + 2))
  have k0 := c_rcorner l h0 (by omega) i
  have k1 : Contract Tryz.prog 64 [.sl (l.map encPt), .int .i64 ((i : Int) + 1)] (.ret (.agg (encPt (cornerP l (i + 1))))) := c_rcorner l h0 (by omega) (i + 1)
  have k2 : Contract Tryz.prog 64 [.sl (l.map encPt), .int .i64 ((i : Int) + 2)] (.ret (.agg (encPt (cornerP l (i + 2))))) := c_rcorner l h0 (by omega) (i + 2)
  have n1 := c_rbetween (cornerP l i) (cornerP l (i + 1)) (cornerP l (i + 2)) o0 o1 o2
  have n2 := c_rbetween (cornerP l (i + 1)) (cornerP l (i + 2)) (cornerP l i) o1 o2 o0
  have hst := fun h => simple_turn (l := l) h2 (rturn_bad h)
  have hbad : rturn l i = (onE (cornerP l i) (cornerP l (i + 1)) (cornerP l (i + 2)) || onE (cornerP l (i + 1)) (cornerP l (i + 2)) (cornerP l i)) := rfl
  rw [hbad] at hst
  generalize ha : cornerP l i = a at *
  generalize hb' : cornerP l (i + 1) = b at *
  generalize hc : cornerP l (i + 2) = c at *
  have hCi : ∀ j, j < i → rturn l j = false ∧ ∀ k, k < l.length → j + 2 ≤ k → pairBad l j k = false := hC
  repeat' first
           | (with_reducible apply go_op)
           | (with_reducible apply go_next)
           | ((with_reducible (show evOp _ _ _ _ _ _)); first
             | ((with_reducible (show evOp _ (.move _) _ _ _ _)) ; first | ((with_reducible apply go_mv_int); rfl; rfl) | ((with_reducible apply go_mv_bool); rfl; rfl) | ((with_reducible apply go_mv_sl); rfl; rfl))
             | ((with_reducible apply go_as))
             | (((with_reducible apply go_ld_agg); rfl; rfl; rfl; rfl))
             | ((with_reducible (show evOp _ (.binOp _ _ _ _ _) _ _ _ _)) ; first | ((with_reducible apply go_cmp); rfl; rfl; rfl; rfl) | ((with_reducible apply go_add); rfl; rfl; rfl; omega))
             | ((with_reducible (show evOp _ (.call _) _ _ _ _)) ; first | ((with_reducible apply go_fn_plain); rfl; (exact k0); rfl; (exact Nat.le_of_ble_eq_true rfl); rfl) | ((with_reducible apply go_fn_plain); rfl; (exact k1); rfl; (exact Nat.le_of_ble_eq_true rfl); rfl) | ((with_reducible apply go_fn_plain); rfl; (exact k2); rfl; (exact Nat.le_of_ble_eq_true rfl); rfl) | ((with_reducible apply go_fn_bool); rfl; (exact n1); rfl) | ((with_reducible apply go_fn_bool); rfl; (exact n2); rfl))
             | (((with_reducible apply go_st_agg); rfl; rfl; rfl; rfl; rfl; rfl; rfl))
             | (((with_reducible apply go_pick); rfl; rfl; rfl))
             | (((with_reducible apply go_alloc); rfl; rfl; rfl)))
           | ((with_reducible (show evOps _ _ _ _ _ _)); first
             | (with_reducible apply go_nil)
             | ((with_reducible apply go_run); rfl; rfl)
             | ((with_reducible apply go_pass); rfl; rfl; rfl)
             | (((with_reducible apply go_guard); rfl) <;> (intro h; simp only [h, Bool.not_true, Bool.not_false]; (try with_reducible (refine ⟨rfl, ?_⟩)); try simp only [decide_eq_true_eq, decide_eq_false_iff_not, Bool.not_eq_true', Bool.not_eq_false', Bool.not_true, Bool.not_false] at h; try exact absurd trivial h)))
           | ((with_reducible (show evG _ _ _ _ _)); first
             | (with_reducible apply go_seq)
             | (with_reducible apply go_region)
             | ((with_reducible apply go_cond_t); rfl; rfl)
             | (((with_reducible apply go_cond); rfl) <;> (intro h; simp only [h]; try simp only [decide_eq_true_eq, decide_eq_false_iff_not, Bool.not_eq_true', Bool.not_eq_false', Bool.not_true, Bool.not_false] at h; try exact absurd trivial h))
             | (with_reducible apply go_ret)
             | (with_reducible apply go_skipc)
             | (with_reducible apply go_block)
             | (with_reducible apply go_exit))
           | (with_reducible apply go_kseq)
           | (with_reducible apply go_kseq_ret)
           | (with_reducible apply go_kblock_ret)
           | (with_reducible apply go_kblock_exit)
           | (with_reducible apply go_kseq_exit)
           | ((with_reducible apply end_int); rfl)
  all_goals try (exfalso; omega)
  · rw [hpe, hst (by simp [*])]; rfl
  · have hb0 : rturn l i = false := by rw [hbad]; simp [*]
    refine go_count l.length (fun j => ⟨[(11, .int .i64 ((i + 2 + j : Nat) : Int)), (7, .int .i64 i), (4, .int .i64 l.length), (8, .op 0 0 0), (9, .op 1 0 0), (0, .sl (l.map encPt))], [(0, ⟨2, true, [encPt a]⟩), (1, ⟨2, true, [encPt b]⟩)], 32, 102⟩) (fun j => ∀ k, k < l.length → i + 2 ≤ k → k < i + 2 + j → pairBad l i k = false)
      (entails_eq (nx := 32) (k := 0) (ns := []) (ks := [11, 7, 4, 8, 9, 0]) [(448, 0), (480, 1)] rfl (by simp) (by kernel_rfl)) (by omega) ?_
    intro j hj hC2
    by_cases h5 : i + 2 + j < l.length
    · have q0 := hok _ (cornerP_mem h0 (i + 2 + j))
      have q1 := hok _ (cornerP_mem h0 (i + 2 + j + 1))
      have k3 := c_rcorner l h0 (by omega) (i + 2 + j)
      have k4 : Contract Tryz.prog 64 [.sl (l.map encPt), .int .i64 (((i + 2 + j : Nat) : Int) + 1)] (.ret (.agg (encPt (cornerP l (i + 2 + j + 1))))) := c_rcorner l h0 (by omega) (i + 2 + j + 1)
      have mt := c_rmeet a b (cornerP l (i + 2 + j)) (cornerP l (i + 2 + j + 1)) o0 o1 q0 q1
      have hpb : pairBad l i (i + 2 + j) = (decide ((i + 2 + j + 1) % l.length ≠ i) && meetE a b (cornerP l (i + 2 + j)) (cornerP l (i + 2 + j + 1))) := by rw [pairBad, ha, hb']
      have hsp := fun h => simple_pair (l := l) h2 h5 (by omega) h
      rw [hpb] at hsp
      have hmod : (((i + 2 + j : Nat) : Int) + 1) % (l.length : Int) = (((i + 2 + j + 1) % l.length : Nat) : Int) := by
        rw [Int.natCast_emod]; rfl
      generalize cornerP l (i + 2 + j + 1) = d at *
      generalize cornerP l (i + 2 + j) = e at *
      generalize hk : i + 2 + j = k at *
      repeat' first
           | (with_reducible apply go_op)
           | (with_reducible apply go_next)
           | ((with_reducible (show evOp _ _ _ _ _ _)); first
             | ((with_reducible (show evOp _ (.move _) _ _ _ _)) ; first | ((with_reducible apply go_mv_int); rfl; rfl) | ((with_reducible apply go_mv_bool); rfl; rfl) | ((with_reducible apply go_mv_sl); rfl; rfl))
             | ((with_reducible apply go_as))
             | (((with_reducible apply go_ld_agg); rfl; rfl; rfl; rfl))
             | ((with_reducible (show evOp _ (.binOp _ _ _ _ _) _ _ _ _)) ; first | ((with_reducible apply go_cmp); rfl; rfl; rfl; rfl) | ((with_reducible apply go_add); rfl; rfl; rfl; omega) | ((with_reducible apply go_rem_pos); rfl; rfl; rfl; omega))
             | ((with_reducible (show evOp _ (.call _) _ _ _ _)) ; first | ((with_reducible apply go_fn_plain); rfl; (exact k3); rfl; (exact Nat.le_of_ble_eq_true rfl); rfl) | ((with_reducible apply go_fn_plain); rfl; (exact k4); rfl; (exact Nat.le_of_ble_eq_true rfl); rfl) | ((with_reducible apply go_fn_bool); rfl; (exact mt); rfl))
             | (((with_reducible apply go_pick); rfl; rfl; rfl)))
           | ((with_reducible (show evOps _ _ _ _ _ _)); first
             | (with_reducible apply go_nil)
             | ((with_reducible apply go_run); rfl; rfl)
             | ((with_reducible apply go_pass); rfl; rfl; rfl)
             | (((with_reducible apply go_guard); rfl) <;> (intro h; simp only [h, Bool.not_true, Bool.not_false]; (try with_reducible (refine ⟨rfl, ?_⟩)); try simp only [decide_eq_true_eq, decide_eq_false_iff_not, Bool.not_eq_true', Bool.not_eq_false', Bool.not_true, Bool.not_false] at h; try exact absurd trivial h))
             | ((with_reducible apply go_pre); rfl)
             | (with_reducible apply go_pre_nil)
             | ((with_reducible apply go_suf); rfl)
             | (with_reducible apply go_suf_nil))
           | ((with_reducible (show evG _ _ _ _ _)); first
             | (with_reducible apply go_seq)
             | (with_reducible apply go_region)
             | ((with_reducible apply go_cond_f); rfl; rfl)
             | (((with_reducible apply go_cond); rfl) <;> (intro h; simp only [h]; try simp only [decide_eq_true_eq, decide_eq_false_iff_not, Bool.not_eq_true', Bool.not_eq_false', Bool.not_true, Bool.not_false] at h; try exact absurd trivial h))
             | ((with_reducible apply go_order); kernel_rfl; rfl)
             | (with_reducible apply go_ret)
             | (with_reducible apply go_skipc)
             | (with_reducible apply go_block)
             | (with_reducible apply go_exit))
           | (with_reducible apply go_kseq)
           | (with_reducible apply go_ksuf)
           | (with_reducible apply go_kseq_ret)
           | (with_reducible apply go_kblock)
           | (with_reducible apply go_kblock_ret)
           | (with_reducible apply go_kblock_exit)
           | (with_reducible apply go_kseq_exit)
           | ((with_reducible apply end_int); rfl)
      all_goals first
        | (exfalso; omega)
        | (rw [hpe, hsp ?_]; rfl
           simp only [Bool.and_eq_true, decide_eq_true_eq]
           exact ⟨by omega, by assumption⟩)
        | (refine ⟨by omega, fun k' hk' hk2 hk3 => ?_, ?_⟩
           · by_cases hlast : k' < k
             · exact hC2 k' hk' hk2 (by omega)
             · have : k' = k := by omega
               subst this
               rw [hpb]
               by_cases hm2 : (k' + 1) % l.length = i
               · simp only [hm2, ne_eq, not_true_eq_false, decide_false, Bool.false_and]
               · have : meetE a b e d = false := by first | assumption | (exfalso; omega)
                 rw [this, Bool.and_false]
           · rw [show i + 2 + (j + 1) = k + 1 by omega]
             exact entails_eq (nx := 32) (k := 0) (ns := []) (ks := [11, 7, 4, 8, 9, 0]) [(0, 0), (1, 1)] rfl (by simp) (by kernel_rfl))
        | trace_state
    · repeat' first
           | (with_reducible apply go_op)
           | (with_reducible apply go_next)
           | ((with_reducible (show evOp _ _ _ _ _ _)); first
             | ((with_reducible (show evOp _ (.move _) _ _ _ _)) ; first | ((with_reducible apply go_mv_int); rfl; rfl) | ((with_reducible apply go_mv_bool); rfl; rfl) | ((with_reducible apply go_mv_sl); rfl; rfl))
             | ((with_reducible apply go_as))
             | (((with_reducible apply go_ld_agg); rfl; rfl; rfl; rfl))
             | ((with_reducible (show evOp _ (.binOp _ _ _ _ _) _ _ _ _)) ; first | ((with_reducible apply go_cmp); rfl; rfl; rfl; rfl) | ((with_reducible apply go_add); rfl; rfl; rfl; omega) | ((with_reducible apply go_rem_pos); rfl; rfl; rfl; omega))
             | (((with_reducible apply go_pick); rfl; rfl; rfl)))
           | ((with_reducible (show evOps _ _ _ _ _ _)); first
             | (with_reducible apply go_nil)
             | ((with_reducible apply go_run); rfl; rfl)
             | ((with_reducible apply go_pass); rfl; rfl; rfl)
             | (((with_reducible apply go_guard); rfl) <;> (intro h; simp only [h, Bool.not_true, Bool.not_false]; (try with_reducible (refine ⟨rfl, ?_⟩)); try simp only [decide_eq_true_eq, decide_eq_false_iff_not, Bool.not_eq_true', Bool.not_eq_false', Bool.not_true, Bool.not_false] at h; try exact absurd trivial h))
             | ((with_reducible apply go_pre); rfl)
             | (with_reducible apply go_pre_nil)
             | ((with_reducible apply go_suf); rfl)
             | (with_reducible apply go_suf_nil))
           | ((with_reducible (show evG _ _ _ _ _)); first
             | (with_reducible apply go_seq)
             | (with_reducible apply go_region)
             | ((with_reducible apply go_cond_f); rfl; rfl)
             | (((with_reducible apply go_cond); rfl) <;> (intro h; simp only [h]; try simp only [decide_eq_true_eq, decide_eq_false_iff_not, Bool.not_eq_true', Bool.not_eq_false', Bool.not_true, Bool.not_false] at h; try exact absurd trivial h))
             | ((with_reducible apply go_order); kernel_rfl; rfl)
             | (with_reducible apply go_skipc)
             | (with_reducible apply go_block)
             | (with_reducible apply go_exit))
           | (with_reducible apply go_kseq)
           | (with_reducible apply go_ksuf)
           | (with_reducible apply go_kblock)
           | (with_reducible apply go_kblock_exit)
           | (with_reducible apply go_kseq_exit)
      all_goals first
        | (exfalso; omega)
        | (refine ⟨h2, fun j' hj' => ?_, entails_eq (k := 0) (ns := []) (ks := [7, 4, 0]) [] rfl (by simp) rfl⟩
           rcases Nat.lt_succ_iff_lt_or_eq.1 hj' with h' | rfl
           · exact hCi j' h'
           · exact ⟨hb0, fun k hk hik => hC2 k hk hik (by omega)⟩)
        | trace_state
  · rw [hpe, hst (by simp [*])]; rfl
end Go.Pv.Geo

open Go Go.Proofs Go.Pv
set_option maxHeartbeats 4000000
set_option maxRecDepth 100000
set_option linter.unusedVariables false
namespace Go.Pv.Soil
set_option linter.unusedVariables false
structure Reg where
  name : ByteArray
  kind : Int
  corners : List Geo.Pt
structure Chan where
  name : ByteArray
  axis : List Axp
  over : Int
  buffer : Int
  regions : List Reg
def encReg (r : Reg) : List D := [.str r.name, .int .i64 r.kind, .sl (r.corners.map Geo.encPt)]
def encChan (c : Chan) : List D := [.str c.name, .sl (c.axis.map encAxp), .int .i64 c.over, .int .i64 c.buffer, .sl (c.regions.map encReg)]
def axpOK (over : Int) (a : Axp) : Bool := decide (((-1000000 ≤ a.x ∧ a.x ≤ 1000000) ∧ (-1000000 ≤ a.y ∧ a.y ≤ 1000000)) ∧ (1 ≤ a.half ∧ a.half ≤ 100000) ∧ (over - 20000 ≤ a.level ∧ a.level ≤ 20000) ∧ (0 ≤ a.run ∧ a.run ≤ 1000))
/-- What is so of a channel that is one. -/
structure OkChan (c : Chan) : Prop where
  nm : nameOK c.name = true
  ov : 0 ≤ c.over ∧ c.over ≤ 1000
  bf : 0 ≤ c.buffer ∧ c.buffer ≤ 100000
  len : 2 ≤ c.axis.length ∧ c.axis.length ≤ 20
  axp : ∀ a ∈ c.axis, axpOK c.over a = true
  next : ∀ i (h : i + 1 < c.axis.length), ¬ (c.axis[i + 1].x = c.axis[i].x ∧ c.axis[i + 1].y = c.axis[i].y)
  rl : c.regions.length ≤ 20
  rok : ∀ r ∈ c.regions, nameOK r.name = true ∧ (0 ≤ r.kind ∧ r.kind ≤ 3) ∧ Geo.polyE r.corners = 0
  rd : c.regions.Pairwise fun x y => x.name ≠ y.name
theorem h_checkAxis (c : Chan) (hc : OkChan c) : Contract Tryz.prog 58 [.agg (encChan c)] (.ret (.int .i64 0)) := by
  have hl := hc.len
  have hov := hc.ov
  refine contract_of mix Tryz.func58 rfl rfl (by rw [Tryz.ntmps58]; exact Nat.le_of_ble_eq_true rfl) ?_; rw [Tryz.results58, Tryz.ntmps58]; simp only [argsE, Nat.reduceAdd]
  repeat' first
           | (with_reducible apply go_op)
           | (with_reducible apply go_next)
           | ((with_reducible (show evOp _ _ _ _ _ _)); first
             | (((with_reducible apply go_mv_int); rfl; rfl))
             | ((with_reducible apply go_as))
             | (((with_reducible apply go_load_own); rfl; rfl; rfl; rfl))
             | (((with_reducible apply go_fieldAddr_own); rfl; rfl; rfl))
             | (((with_reducible apply go_cmp); rfl; rfl; rfl; rfl))
             | (((with_reducible apply go_len); rfl; rfl))
             | (((with_reducible apply go_bx_agg); rfl; rfl; (exact Nat.le_of_ble_eq_true rfl); rfl; rfl)))
           | ((with_reducible (show evOps _ _ _ _ _ _)); first
             | (with_reducible apply go_nil))
           | ((with_reducible (show evG _ _ _ _ _)); first
             | (with_reducible apply go_seq)
             | (with_reducible apply go_region)
             | (((with_reducible apply go_cond); rfl) <;> (intro h; simp only [h]; try simp only [decide_eq_true_eq, decide_eq_false_iff_not, Bool.not_eq_true', Bool.not_eq_false', Bool.not_true, Bool.not_false] at h; try exact absurd trivial h))
             | (with_reducible apply go_ret)
             | (with_reducible apply go_skipc)
             | (with_reducible apply go_block))
           | (with_reducible apply go_kseq)
           | (with_reducible apply go_kseq_ret)
           | ((with_reducible apply end_int); rfl)
  all_goals try (exfalso; omega)
  refine go_count c.axis.length (fun i => ⟨[(16, .int .i64 i), (14, .sl (c.axis.map encAxp)), (15, .int .i64 c.axis.length), (1, .op 0 0 0)], [(0, ⟨5, true, [encChan c]⟩)], 32, 58⟩) (fun i => True) (entails_eq (nx := 32) (k := 0) (ns := []) (ks := [16, 14, 15, 1]) [(0, 0)] rfl (by simp) (by kernel_rfl)) trivial ?_
  intro i hi _
  by_cases hlt : i < c.axis.length
  · have ha := of_decide_eq_true (hc.axp c.axis[i] (List.getElem_mem _))
    have hp := h_place c.axis[i]
    have hr := h_inRange (axPt c.axis[i])
    rw [decide_eq_true (show (-1000000 ≤ (axPt c.axis[i]).x ∧ (axPt c.axis[i]).x ≤ 1000000) ∧ (-1000000 ≤ (axPt c.axis[i]).y ∧ (axPt c.axis[i]).y ≤ 1000000) from ha.1)] at hr
    have hne : 0 < i → ∀ h : ((i : Int) - 1).toNat < c.axis.length, ¬ (c.axis[i].x = (c.axis[((i : Int) - 1).toNat]'h).x ∧ c.axis[i].y = (c.axis[((i : Int) - 1).toNat]'h).y) := fun h0 h => by
      obtain ⟨j, rfl⟩ : ∃ j, i = j + 1 := ⟨i - 1, by omega⟩
      have e : (((j + 1 : Nat) : Int) - 1).toNat = j := by omega
      have := hc.next j hlt
      simpa only [e] using this
    repeat' first
           | (with_reducible apply go_op)
           | (with_reducible apply go_next)
           | ((with_reducible (show evOp _ _ _ _ _ _)); first
             | ((with_reducible (show evOp _ (.move _) _ _ _ _)) ; first | ((with_reducible apply go_mv_int); rfl; rfl) | ((with_reducible apply go_mv_bool); rfl; rfl))
             | ((with_reducible apply go_as))
             | ((with_reducible (show evOp _ (.load _ _) _ _ _ _)) ; first | ((with_reducible apply go_ld_ptr); rfl; rfl; rfl) | ((with_reducible apply go_ld_agg); rfl; rfl; rfl; rfl) | ((with_reducible apply go_load_own); rfl; rfl; rfl; rfl))
             | (((with_reducible apply go_fieldAddr_own); rfl; rfl; rfl))
             | ((with_reducible (show evOp _ (.indexAddr _ _ _) _ _ _ _)) ; first | ((with_reducible apply go_index_nat); rfl; rfl; (with_reducible rfl); (intro; rfl); rfl; omega; (intro hlt)) | ((with_reducible apply go_index); rfl; rfl; (intro; rfl); rfl; omega; intro hlt))
             | ((with_reducible (show evOp _ (.binOp _ _ _ _ _) _ _ _ _)) ; first | ((with_reducible apply go_cmp); rfl; rfl; rfl; rfl) | ((with_reducible apply go_add); rfl; rfl; rfl; omega) | ((with_reducible apply go_sub); rfl; rfl; rfl; omega) | ((with_reducible apply go_eql_agg); rfl; rfl; rfl; rfl))
             | ((with_reducible (show evOp _ (.call _) _ _ _ _)) ; first | ((with_reducible apply go_fn_plain); rfl; (exact hp); rfl; (exact Nat.le_of_ble_eq_true rfl); rfl) | ((with_reducible apply go_fn_bool); rfl; (exact hr); rfl) | ((with_reducible apply go_fn_bool); rfl; (exact h_outside _ _ _); rfl) | ((with_reducible apply go_fn_plain); rfl; (exact h_place _); rfl; (exact Nat.le_of_ble_eq_true rfl); rfl))
             | (((with_reducible apply go_st_agg); rfl; rfl; rfl; rfl; rfl; rfl; rfl))
             | (((with_reducible apply go_not); rfl; rfl))
             | (((with_reducible apply go_pick); rfl; rfl; rfl))
             | (((with_reducible apply go_alloc); rfl; rfl; rfl)))
           | ((with_reducible (show evOps _ _ _ _ _ _)); first
             | (with_reducible apply go_nil)
             | ((with_reducible apply go_run); rfl; rfl)
             | ((with_reducible apply go_pass); rfl; rfl; rfl)
             | (((with_reducible apply go_guard); rfl) <;> (intro h; simp only [h, Bool.not_true, Bool.not_false]; (try with_reducible (refine ⟨rfl, ?_⟩)); try simp only [decide_eq_true_eq, decide_eq_false_iff_not, Bool.not_eq_true', Bool.not_eq_false', Bool.not_true, Bool.not_false] at h; try exact absurd trivial h))
             | ((with_reducible apply go_pre); rfl)
             | (with_reducible apply go_pre_nil)
             | ((with_reducible apply go_suf); rfl)
             | (with_reducible apply go_suf_nil))
           | ((with_reducible (show evG _ _ _ _ _)); first
             | (with_reducible apply go_seq)
             | (with_reducible apply go_region)
             | ((with_reducible apply go_cond_t); rfl; rfl)
             | ((with_reducible apply go_cond_f); rfl; rfl)
             | (((with_reducible apply go_cond); rfl) <;> (intro h; simp only [h]; try simp only [decide_eq_true_eq, decide_eq_false_iff_not, Bool.not_eq_true', Bool.not_eq_false', Bool.not_true, Bool.not_false] at h; try exact absurd trivial h))
             | ((with_reducible apply go_order); kernel_rfl; rfl)
             | (with_reducible apply go_ret)
             | (with_reducible apply go_skipc)
             | (with_reducible apply go_block)
             | (with_reducible apply go_exit))
           | (with_reducible apply go_kseq)
           | (with_reducible apply go_ksuf)
           | (with_reducible apply go_kseq_ret)
           | (with_reducible apply go_kblock)
           | (with_reducible apply go_kblock_ret)
           | (with_reducible apply go_kblock_exit)
           | (with_reducible apply go_kseq_exit)
           | ((with_reducible apply end_int); rfl)
           | (with_reducible rfl)
    all_goals first
      | exact absurd hlt (by omega)
      | (exfalso; omega)
      | (exfalso
         rename_i hh
         first
           | (simp only [Bool.and_true, Bool.and_eq_true, decide_eq_true_eq] at hh; exact hne (by omega) (by omega) hh)
           | (rename_i hh2; simp only [Bool.and_true, Bool.and_eq_true, decide_eq_true_eq] at hh2; exact hne (by omega) (by omega) hh2)
           | (simp only [Bool.and_true, Bool.and_eq_true, decide_eq_true_eq] at h; exact hne (by omega) (by omega) h))
      | exact ⟨by omega, trivial, entails_eq (nx := 32) (k := 0) (ns := []) (ks := [16, 14, 15, 1]) [(0, 0)] rfl (by simp) (by kernel_rfl)⟩
      | trace_state
  · repeat' first
           | (with_reducible apply go_op)
           | (with_reducible apply go_next)
           | ((with_reducible (show evOp _ _ _ _ _ _)); first
             | (((with_reducible apply go_mv_int); rfl; rfl))
             | ((with_reducible apply go_as))
             | ((with_reducible (show evOp _ (.load _ _) _ _ _ _)) ; first | ((with_reducible apply go_ld_ptr); rfl; rfl; rfl) | ((with_reducible apply go_ld_agg); rfl; rfl; rfl; rfl))
             | (((with_reducible apply go_index_nat); rfl; rfl; (with_reducible rfl); (intro; rfl); rfl; omega; (intro hlt)))
             | (((with_reducible apply go_cmp); rfl; rfl; rfl; rfl))
             | (((with_reducible apply go_st_agg); rfl; rfl; rfl; rfl; rfl; rfl; rfl))
             | (((with_reducible apply go_alloc); rfl; rfl; rfl)))
           | ((with_reducible (show evOps _ _ _ _ _ _)); first
             | (with_reducible apply go_nil))
           | ((with_reducible (show evG _ _ _ _ _)); first
             | (with_reducible apply go_seq)
             | (with_reducible apply go_region)
             | (((with_reducible apply go_cond); rfl) <;> (intro h; simp only [h]; try simp only [decide_eq_true_eq, decide_eq_false_iff_not, Bool.not_eq_true', Bool.not_eq_false', Bool.not_true, Bool.not_false] at h; try exact absurd trivial h))
             | (with_reducible apply go_ret)
             | (with_reducible apply go_skipc)
             | (with_reducible apply go_block)
             | (with_reducible apply go_exit))
           | (with_reducible apply go_kseq)
           | (with_reducible apply go_kblock_exit)
           | (with_reducible apply go_kseq_exit)
           | ((with_reducible apply end_int); rfl)
           | (with_reducible rfl)
    all_goals first
      | exact absurd hlt (by omega)
      | rfl
      | trace_state
end Go.Pv.Soil

open Go Go.Proofs Go.Pv
set_option maxHeartbeats 1000000
set_option maxRecDepth 100000
set_option linter.unusedSimpArgs false
set_option linter.unusedVariables false
namespace Go.Pv.Soil
structure Soil where
  name : ByteArray
  a : Int
  b : Int
  r : Int
  h : Int

def encSoil (x : Soil) : List D := [.str x.name, .int .i64 x.a, .int .i64 x.b, .int .i64 x.r, .int .i64 x.h]

def idxOf {α : Type} (p : α → Bool) (l : List α) : Int := match l.findIdx? p with
  | some i => i
  | none => -1

theorem idxOf_none {α : Type} {p : α → Bool} {l : List α} (h : ∀ x ∈ l, p x = false) : idxOf p l = -1 := by
  have : l.findIdx? p = none := by simpa using h
  rw [idxOf, this]
theorem idxOf_some {α : Type} {p : α → Bool} {l : List α} {i : Nat} (hi : i < l.length) (h : p l[i] = true) (hb : ∀ j (hj : j < i), p (l[j]'(by omega)) = false) : idxOf p l = i := by
  have : l.findIdx? p = some i := by
    rw [List.findIdx?_eq_some_iff_getElem]
    exact ⟨hi, h, fun j hj => by simpa using hb j hj⟩
  rw [idxOf, this]

theorem idxOf_ge {α : Type} {p : α → Bool} {l : List α} : decide (0 ≤ idxOf p l) = l.any p := by
  unfold idxOf
  cases h : l.findIdx? p with
  | none =>
    have : l.any p = false := by
      rw [List.findIdx?_eq_none_iff] at h
      rw [List.any_eq_false]
      intro x hx
      simp [h x hx]
    rw [this]; rfl
  | some i =>
    have : l.any p = true := by
      rw [List.findIdx?_eq_some_iff_getElem] at h
      obtain ⟨hi, hp, _⟩ := h
      rw [List.any_eq_true]
      exact ⟨_, List.getElem_mem hi, hp⟩
    rw [this]
    simp

/-- The first of n numbers that is not 0. -/
def firstE : Nat → (Nat → Int) → Int
  | 0, _ => 0
  | n + 1, f => if f 0 = 0 then firstE n (fun i => f (i + 1)) else f 0

theorem firstE_at : ∀ {n : Nat} {f : Nat → Int} {i : Nat}, i < n → (∀ j, j < i → f j = 0) → f i ≠ 0 → firstE n f = f i
  | n + 1, f, 0, _, _, h => by simp [firstE, h]
  | n + 1, f, i + 1, hi, hb, h => by
    simp only [firstE, hb 0 (by omega), if_true]
    exact firstE_at (f := fun i => f (i + 1)) (by omega) (fun j hj => hb (j + 1) (by omega)) h

theorem firstE_zero : ∀ {n : Nat} {f : Nat → Int}, (∀ j, j < n → f j = 0) → firstE n f = 0
  | 0, _, _ => rfl
  | n + 1, f, h => by
    simp only [firstE, h 0 (by omega), if_true]
    exact firstE_zero fun j hj => h (j + 1) (by omega)

def stepE {α : Type} (nm : α → ByteArray) (er : α → Int) (l : List α) (i : Nat) : Int :=
  match l[i]? with
  | none => 0
  | some x => if nameOK (nm x) = false then 4 else if ((l.take i).any fun y => decide (nm y = nm x)) = true then 5 else er x

def eachE {α : Type} (nm : α → ByteArray) (er : α → Int) (l : List α) : Int := firstE l.length (stepE nm er l)

theorem each_at {α : Type} {nm : α → ByteArray} {er : α → Int} {l : List α} {i : Nat} {e : Int} (hi : i < l.length) (hC : ∀ j, j < i → stepE nm er l j = 0) (h : stepE nm er l i = e) (he : e ≠ 0) : e = eachE nm er l := by
  subst h
  exact (firstE_at hi hC he).symm

end Go.Pv.Soil

open Go Go.Proofs Go.Pv
set_option maxHeartbeats 1000000
set_option maxRecDepth 100000
set_option linter.unusedSimpArgs false
set_option linter.unusedVariables false
namespace Go.Pv.Soil

def soilE (x : Soil) : Int := if (1 ≤ x.a ∧ x.a ≤ 1000) ∧ (1 ≤ x.b ∧ x.b ≤ 5000) ∧ (1 ≤ x.r ∧ x.r ≤ 1000) ∧ (1 ≤ x.h ∧ x.h ≤ 1000) ∧ x.h ≤ x.r then 0 else 2

end Go.Pv.Soil

open Go Go.Proofs Go.Pv
set_option maxHeartbeats 1000000
set_option maxRecDepth 100000
set_option linter.unusedSimpArgs false
set_option linter.unusedVariables false
namespace Go.Pv.Soil

def soilsE (l : List Soil) : Int := if l.length = 0 then 10 else if 8 < l.length then 8 else eachE (·.name) soilE l

def ofName (l : List Soil) (s : ByteArray) : Int := idxOf (fun x => decide (x.name = s)) l

theorem ofName_self (l : List Soil) {i : Nat} (hi : i < l.length) : (ofName l l[i].name = i) ↔ ((l.take i).any fun y => decide (y.name = l[i].name)) = false := by
  constructor
  · intro h
    rw [List.any_eq_false]
    intro y hy
    obtain ⟨j, hj, rfl⟩ := List.mem_iff_getElem.1 hy
    simp only [List.length_take] at hj
    simp only [List.getElem_take]
    unfold ofName idxOf at h
    split at h
    · rename_i k hk
      rw [List.findIdx?_eq_some_iff_getElem] at hk
      obtain ⟨h1, h2, h3⟩ := hk
      have : k = i := by omega
      subst this
      exact h3 j (by omega)
    · omega
  · intro h
    refine idxOf_some hi (by simp) fun j hj => ?_
    rw [List.any_eq_false] at h
    have := h l[j] (List.mem_iff_getElem.2 ⟨j, by simp; omega, by simp⟩)
    simpa using this

end Go.Pv.Soil

open Go Go.Proofs Go.Pv
set_option maxHeartbeats 1000000
set_option maxRecDepth 100000
set_option linter.unusedSimpArgs false
set_option linter.unusedVariables false
namespace Go.Pv.Soil

structure Layer where
  top : Int
  soil : ByteArray
structure Boring where
  name : ByteArray
  x : Int
  y : Int
  layers : List Layer
structure Pt where
  x : Int
  y : Int
def encLayer (l : Layer) : List D := [.int .i64 l.top, .str l.soil]
def encBor (b : Boring) : List D := [.str b.name, .int .i64 b.x, .int .i64 b.y, .sl (b.layers.map encLayer)]
def encPt (p : Pt) : List D := [.int .i64 p.x, .int .i64 p.y]

def ptOK (p : Pt) : Bool := decide ((-1000000 ≤ p.x ∧ p.x ≤ 1000000) ∧ (-1000000 ≤ p.y ∧ p.y ≤ 1000000))
def lvOK (n : Int) : Bool := decide (-20000 ≤ n ∧ n ≤ 20000)

theorem c46 (p : Pt) : Contract Tryz.prog 37 [.agg (encPt p)] (.ret (.bool (ptOK p))) := by
  refine contract_of mix Tryz.func37 rfl rfl (by rw [Tryz.ntmps37]; exact Nat.le_of_ble_eq_true rfl) ?_; rw [Tryz.results37, Tryz.ntmps37]; simp only [argsE, Nat.reduceAdd]
  repeat' first
           | (with_reducible apply go_op)
           | (with_reducible apply go_next)
           | ((with_reducible (show evOp _ _ _ _ _ _)); first
             | (((with_reducible apply go_mv_bool); rfl; rfl))
             | ((with_reducible apply go_as))
             | (((with_reducible apply go_load_own); rfl; rfl; rfl; rfl))
             | (((with_reducible apply go_fieldAddr_own); rfl; rfl; rfl))
             | (((with_reducible apply go_fn_bool); rfl; (exact c38 _ _ _); rfl))
             | (((with_reducible apply go_pick); rfl; rfl; rfl))
             | (((with_reducible apply go_bx_agg); rfl; rfl; (exact Nat.le_of_ble_eq_true rfl); rfl; rfl)))
           | ((with_reducible (show evOps _ _ _ _ _ _)); first
             | (with_reducible apply go_nil)
             | ((with_reducible apply go_run); rfl; rfl)
             | ((with_reducible apply go_pass); rfl; rfl; rfl)
             | (((with_reducible apply go_guard); rfl) <;> (intro h; simp only [h, Bool.not_true, Bool.not_false]; (try with_reducible (refine ⟨rfl, ?_⟩)); try simp only [decide_eq_true_eq, decide_eq_false_iff_not, Bool.not_eq_true', Bool.not_eq_false', Bool.not_true, Bool.not_false] at h; try exact absurd trivial h)))
           | ((with_reducible (show evG _ _ _ _ _)); first
             | (with_reducible apply go_seq)
             | (with_reducible apply go_region)
             | (with_reducible apply go_ret))
           | (with_reducible apply go_kseq)
           | ((with_reducible apply end_bool); rfl)
  all_goals (simp only [ptOK]; simp_all; try omega)
theorem c48 (n : Int) : Contract Tryz.prog 35 [.int .i64 n] (.ret (.bool (lvOK n))) := by
  refine contract_of mix Tryz.func35 rfl rfl (by rw [Tryz.ntmps35]; exact Nat.le_of_ble_eq_true rfl) ?_; rw [Tryz.results35, Tryz.ntmps35]; simp only [argsE, Nat.reduceAdd]
  repeat' first
           | (with_reducible apply go_op)
           | (with_reducible apply go_next)
           | ((with_reducible (show evOp _ _ _ _ _ _)); first
             | ((with_reducible (show evOp _ (.move _) _ _ _ _)) ; first | ((with_reducible apply go_mv_int); rfl; rfl) | ((with_reducible apply go_mv_bool); rfl; rfl))
             | ((with_reducible apply go_as))
             | (((with_reducible apply go_fn_bool); rfl; (exact c38 _ _ _); rfl)))
           | ((with_reducible (show evOps _ _ _ _ _ _)); first
             | (with_reducible apply go_nil))
           | ((with_reducible (show evG _ _ _ _ _)); first
             | (with_reducible apply go_seq)
             | (with_reducible apply go_region)
             | (with_reducible apply go_ret))
           | (with_reducible apply go_kseq)
           | ((with_reducible apply end_bool); rfl)
  rfl
end Go.Pv.Soil

open Go Go.Proofs Go.Pv
set_option maxHeartbeats 1000000
set_option maxRecDepth 100000
set_option linter.unusedSimpArgs false
set_option linter.unusedVariables false
namespace Go.Pv.Soil

structure Ground where
  soils : List Soil
  borings : List Boring
def encGround (g : Ground) : List D := [.sl (g.soils.map encSoil), .sl (g.borings.map encBor)]

def layE (l : List Soil) (ls : List Layer) (i : Nat) : Int :=
  match ls[i]? with
  | none => 0
  | some x => if lvOK x.top = false then 2 else if 0 < i ∧ ((ls[i - 1]?).map (·.top)).getD 0 ≤ x.top then 9 else if ofName l x.soil < 0 then 6 else 0

def borE (l : List Soil) (b : Boring) : Int :=
  if ptOK ⟨b.x, b.y⟩ = false then 2 else if b.layers.length = 0 then 10 else if 12 < b.layers.length then 8 else firstE b.layers.length (layE l b.layers)

theorem layE_is {l : List Soil} {ls : List Layer} {i : Nat} (hi : i < ls.length) : layE l ls i = if lvOK ls[i].top = false then 2 else if 0 < i ∧ ((ls[i - 1]?).map (·.top)).getD 0 ≤ ls[i].top then 9 else if ofName l ls[i].soil < 0 then 6 else 0 := by
  simp only [layE, List.getElem?_eq_getElem hi]

theorem layE_2 {l : List Soil} {ls : List Layer} {i : Nat} (hi : i < ls.length) (h : lvOK ls[i].top = false) : layE l ls i = 2 := by rw [layE_is hi, if_pos h]
theorem layE_9 {l : List Soil} {ls : List Layer} {i : Nat} (hi : i < ls.length) (h1 : lvOK ls[i].top = true) (h2 : 0 < i) (h3 : (ls[i - 1]'(by omega)).top ≤ ls[i].top) : layE l ls i = 9 := by
  rw [layE_is hi, if_neg (by simp [h1]), if_pos ⟨h2, by rw [List.getElem?_eq_getElem (by omega)]; exact h3⟩]
theorem layE_6 {l : List Soil} {ls : List Layer} {i : Nat} (hi : i < ls.length) (h1 : lvOK ls[i].top = true) (h2 : i = 0 ∨ ∃ h : i - 1 < ls.length, ¬ ls[i - 1].top ≤ ls[i].top) (h : ofName l ls[i].soil < 0) : layE l ls i = 6 := by
  rw [layE_is hi, if_neg (by simp [h1]), if_neg, if_pos h]
  rintro ⟨h3, h4⟩
  rcases h2 with h2 | ⟨h5, h2⟩
  · omega
  · rw [List.getElem?_eq_getElem h5] at h4; exact h2 h4
theorem layE_0 {l : List Soil} {ls : List Layer} {i : Nat} (hi : i < ls.length) (h1 : lvOK ls[i].top = true) (h2 : i = 0 ∨ ∃ h : i - 1 < ls.length, ¬ ls[i - 1].top ≤ ls[i].top) (h : ¬ ofName l ls[i].soil < 0) : layE l ls i = 0 := by
  rw [layE_is hi, if_neg (by simp [h1]), if_neg, if_neg h]
  rintro ⟨h3, h4⟩
  rcases h2 with h2 | ⟨h5, h2⟩
  · omega
  · rw [List.getElem?_eq_getElem h5] at h4; exact h2 h4

theorem lay_at {l : List Soil} {ls : List Layer} {i : Nat} {e : Int} (hi : i < ls.length) (hC : ∀ j, j < i → layE l ls j = 0) (h : layE l ls i = e) (he : e ≠ 0) : e = firstE ls.length (layE l ls) := by
  subst h
  exact (firstE_at hi hC he).symm
theorem lay_step {l : List Soil} {ls : List Layer} {i : Nat} (hC : ∀ j, j < i → layE l ls j = 0) (h : layE l ls i = 0) : ∀ j, j < i + 1 → layE l ls j = 0 := fun j hj => by
  rcases Nat.lt_succ_iff_lt_or_eq.1 hj with h' | rfl
  · exact hC j h'
  · exact h

end Go.Pv.Soil

open Go Go.Proofs Go.Pv
set_option maxHeartbeats 1000000
set_option maxRecDepth 100000
set_option linter.unusedSimpArgs false
set_option linter.unusedVariables false
namespace Go.Pv.Soil

end Go.Pv.Soil

open Go Go.Proofs Go.Pv
set_option maxHeartbeats 1000000
set_option maxRecDepth 100000
set_option linter.unusedSimpArgs false
set_option linter.unusedVariables false
namespace Go.Pv.Soil

theorem stabG (gr : Ground) : StabF [.agg (encGround gr)] := fun hp m ds ds' h => by
  show (pur hp (m + 16) (.agg (encGround gr))).bind _ = _
  have : pur hp (m + 16) (.agg (encGround gr)) = some (.agg (encGround gr)) := rfl
  rw [this]
  simp only [Option.bind_some]
  show (purL hp (m + 16) ([] ++ ds)).map _ = _
  rw [List.nil_append, h]
  rfl

end Go.Pv.Soil

open Go Go.Proofs Go.Pv
set_option maxHeartbeats 1000000
set_option maxRecDepth 100000
set_option linter.unusedSimpArgs false
set_option linter.unusedVariables false
namespace Go.Pv.Soil

def groundE (g : Ground) : Int := if soilsE g.soils ≠ 0 then soilsE g.soils else if g.borings.length = 0 then 10 else if 20 < g.borings.length then 8 else eachE (·.name) (borE g.soils) g.borings

end Go.Pv.Soil
