import Derived.Test.YtfklpkgdobdbpaaGreatProg
import Derived.KernelRfl
import Derived.Test.YtfklpkgdobdbpaaGreatCAC
/- Part of the proofs over YtfklpkgdobdbpaaGreat: CFacts. -/
set_option linter.unusedVariables false
set_option linter.unusedSimpArgs false
set_option linter.unnecessarySimpa false
open Go Go.Proofs Go.Pv
namespace Go.Pv.Tf
instance qJ0:TSh Tryz.prog 3 .one:=⟨by kernel_rfl⟩
instance qJ1:TCells Tryz.prog 3 1:=⟨by kernel_rfl,by decide⟩
instance qJ2:TZero Tryz.prog 3 (.int .i64 0):=⟨by kernel_rfl,rfl,by decide⟩
instance qJ3:TSh Tryz.prog 4 .one:=⟨by kernel_rfl⟩
instance qJ4:TCells Tryz.prog 4 1:=⟨by kernel_rfl,by decide⟩
instance qJ5:TZero Tryz.prog 4 (.bool false):=⟨by kernel_rfl,rfl,by decide⟩
instance qJ6:TSh Tryz.prog 9 .one:=⟨by kernel_rfl⟩
instance qJ7:TStr Tryz.prog 9:=⟨by kernel_rfl⟩
instance qJ8:TCells Tryz.prog 9 1:=⟨by kernel_rfl,by decide⟩
instance qJ9:TZero Tryz.prog 9 (.str ByteArray.empty):=⟨by kernel_rfl,rfl,by decide⟩
instance qIu:TSh Tryz.prog 22 .one:=⟨by kernel_rfl⟩
instance qIv:TCells Tryz.prog 22 1:=⟨by kernel_rfl,by decide⟩
instance qIw:TSlice Tryz.prog 22 3 1:=⟨by kernel_rfl,by kernel_rfl,by decide⟩
instance qIx:TZero Tryz.prog 22 (.nilsl):=⟨by kernel_rfl,rfl,by decide⟩
instance qIy:TSh Tryz.prog 24 (.many 6):=⟨by kernel_rfl⟩
instance qIz:TCells Tryz.prog 24 6:=⟨by kernel_rfl,by decide⟩
instance qE5:TField Tryz.prog 24 0 0 3:=⟨by kernel_rfl,kne (k:=1) (by kernel_rfl) (by decide)⟩
instance qE6:TField Tryz.prog 24 1 1 3:=⟨by kernel_rfl,kne (k:=1) (by kernel_rfl) (by decide)⟩
instance qE7:TField Tryz.prog 24 2 2 3:=⟨by kernel_rfl,kne (k:=1) (by kernel_rfl) (by decide)⟩
instance qE8:TField Tryz.prog 24 3 3 3:=⟨by kernel_rfl,kne (k:=1) (by kernel_rfl) (by decide)⟩
instance qE9:TField Tryz.prog 24 4 4 3:=⟨by kernel_rfl,kne (k:=1) (by kernel_rfl) (by decide)⟩
instance qFa:TField Tryz.prog 24 5 5 22:=⟨by kernel_rfl,kne (k:=1) (by kernel_rfl) (by decide)⟩
instance qIA:TLay Tryz.prog 24 [.int .i64 0,.int .i64 0,.int .i64 0,.int .i64 0,.int .i64 0,.nilsl] [(0,1),(1,1),(2,1),(3,1),(4,1),(5,1)]:=⟨by kernel_rfl⟩
instance qIB:TZero Tryz.prog 24 (.agg [.int .i64 0,.int .i64 0,.int .i64 0,.int .i64 0,.int .i64 0,.nilsl]):=⟨by kernel_rfl,rfl,by decide⟩
instance qIC:TSh Tryz.prog 25 .one:=⟨by kernel_rfl⟩
instance qID:TSlice Tryz.prog 25 218 5:=⟨by kernel_rfl,by kernel_rfl,by decide⟩
instance qIE:TSh Tryz.prog 26 .one:=⟨by kernel_rfl⟩
instance qIF:TSlice Tryz.prog 26 138 4:=⟨by kernel_rfl,by kernel_rfl,by decide⟩
instance qIG:TSh Tryz.prog 28 (.many 2):=⟨by kernel_rfl⟩
instance qFb:TField Tryz.prog 28 0 0 25:=⟨by kernel_rfl,kne (k:=1) (by kernel_rfl) (by decide)⟩
instance qFc:TField Tryz.prog 28 1 1 26:=⟨by kernel_rfl,kne (k:=1) (by kernel_rfl) (by decide)⟩
instance qIH:TSh Tryz.prog 29 .one:=⟨by kernel_rfl⟩
instance qII:TSlice Tryz.prog 29 104 3:=⟨by kernel_rfl,by kernel_rfl,by decide⟩
instance qIJ:TSh Tryz.prog 30 .one:=⟨by kernel_rfl⟩
instance qIK:TSlice Tryz.prog 30 110 7:=⟨by kernel_rfl,by kernel_rfl,by decide⟩
instance qIL:TSh Tryz.prog 31 .one:=⟨by kernel_rfl⟩
instance qIM:TSlice Tryz.prog 31 141 4:=⟨by kernel_rfl,by kernel_rfl,by decide⟩
instance qIN:TSh Tryz.prog 32 .one:=⟨by kernel_rfl⟩
instance qIO:TSlice Tryz.prog 32 37 8:=⟨by kernel_rfl,by kernel_rfl,by decide⟩
instance qIP:TSh Tryz.prog 34 (.many 12):=⟨by kernel_rfl⟩
instance qFd:TField Tryz.prog 34 0 0 24:=⟨by kernel_rfl,kne (k:=6) (by kernel_rfl) (by decide)⟩
instance qFe:TField Tryz.prog 34 1 6 28:=⟨by kernel_rfl,kne (k:=2) (by kernel_rfl) (by decide)⟩
instance qFf:TField Tryz.prog 34 2 8 29:=⟨by kernel_rfl,kne (k:=1) (by kernel_rfl) (by decide)⟩
instance qFg:TField Tryz.prog 34 3 9 30:=⟨by kernel_rfl,kne (k:=1) (by kernel_rfl) (by decide)⟩
instance qFh:TField Tryz.prog 34 4 10 31:=⟨by kernel_rfl,kne (k:=1) (by kernel_rfl) (by decide)⟩
instance qFi:TField Tryz.prog 34 5 11 32:=⟨by kernel_rfl,kne (k:=1) (by kernel_rfl) (by decide)⟩
instance qIQ:TSh Tryz.prog 35 .one:=⟨by kernel_rfl⟩
instance qIR:TSlice Tryz.prog 35 146 3:=⟨by kernel_rfl,by kernel_rfl,by decide⟩
instance qIS:TSh Tryz.prog 37 (.many 8):=⟨by kernel_rfl⟩
instance qIT:TCells Tryz.prog 37 8:=⟨by kernel_rfl,by decide⟩
instance qFj:TField Tryz.prog 37 0 0 9:=⟨by kernel_rfl,kne (k:=1) (by kernel_rfl) (by decide)⟩
instance qFk:TField Tryz.prog 37 1 1 3:=⟨by kernel_rfl,kne (k:=1) (by kernel_rfl) (by decide)⟩
instance qFl:TField Tryz.prog 37 2 2 3:=⟨by kernel_rfl,kne (k:=1) (by kernel_rfl) (by decide)⟩
instance qFm:TField Tryz.prog 37 3 3 3:=⟨by kernel_rfl,kne (k:=1) (by kernel_rfl) (by decide)⟩
instance qFn:TField Tryz.prog 37 4 4 3:=⟨by kernel_rfl,kne (k:=1) (by kernel_rfl) (by decide)⟩
instance qFo:TField Tryz.prog 37 5 5 3:=⟨by kernel_rfl,kne (k:=1) (by kernel_rfl) (by decide)⟩
instance qFp:TField Tryz.prog 37 6 6 3:=⟨by kernel_rfl,kne (k:=1) (by kernel_rfl) (by decide)⟩
instance qFq:TField Tryz.prog 37 7 7 35:=⟨by kernel_rfl,kne (k:=1) (by kernel_rfl) (by decide)⟩
instance qIU:TLay Tryz.prog 37 [.str ByteArray.empty,.int .i64 0,.int .i64 0,.int .i64 0,.int .i64 0,.int .i64 0,.int .i64 0,.nilsl] [(0,1),(1,1),(2,1),(3,1),(4,1),(5,1),(6,1),(7,1)]:=⟨by kernel_rfl⟩
instance qIV:TZero Tryz.prog 37 (.agg [.str ByteArray.empty,.int .i64 0,.int .i64 0,.int .i64 0,.int .i64 0,.int .i64 0,.int .i64 0,.nilsl]):=⟨by kernel_rfl,rfl,by decide⟩
instance qIW:TSlice Tryz.prog 38 51 8:=⟨by kernel_rfl,by kernel_rfl,by decide⟩
instance qIX:TSh Tryz.prog 42 .one:=⟨by kernel_rfl⟩
instance qIY:TCells Tryz.prog 42 1:=⟨by kernel_rfl,by decide⟩
instance qIZ:TSh Tryz.prog 51 (.many 8):=⟨by kernel_rfl⟩
instance qI0:TCells Tryz.prog 51 8:=⟨by kernel_rfl,by decide⟩
instance qFr:TField Tryz.prog 51 0 0 9:=⟨by kernel_rfl,kne (k:=1) (by kernel_rfl) (by decide)⟩
instance qFs:TField Tryz.prog 51 1 1 9:=⟨by kernel_rfl,kne (k:=1) (by kernel_rfl) (by decide)⟩
instance qFt:TField Tryz.prog 51 2 2 3:=⟨by kernel_rfl,kne (k:=1) (by kernel_rfl) (by decide)⟩
instance qFu:TField Tryz.prog 51 3 3 3:=⟨by kernel_rfl,kne (k:=1) (by kernel_rfl) (by decide)⟩
instance qFv:TField Tryz.prog 51 4 4 3:=⟨by kernel_rfl,kne (k:=1) (by kernel_rfl) (by decide)⟩
instance qFw:TField Tryz.prog 51 5 5 3:=⟨by kernel_rfl,kne (k:=1) (by kernel_rfl) (by decide)⟩
instance qFx:TField Tryz.prog 51 6 6 3:=⟨by kernel_rfl,kne (k:=1) (by kernel_rfl) (by decide)⟩
instance qFy:TField Tryz.prog 51 7 7 3:=⟨by kernel_rfl,kne (k:=1) (by kernel_rfl) (by decide)⟩
instance qI1:TLay Tryz.prog 51 [.str ByteArray.empty,.str ByteArray.empty,.int .i64 0,.int .i64 0,.int .i64 0,.int .i64 0,.int .i64 0,.int .i64 0] [(0,1),(1,1),(2,1),(3,1),(4,1),(5,1),(6,1),(7,1)]:=⟨by kernel_rfl⟩
instance qI2:TZero Tryz.prog 51 (.agg [.str ByteArray.empty,.str ByteArray.empty,.int .i64 0,.int .i64 0,.int .i64 0,.int .i64 0,.int .i64 0,.int .i64 0]):=⟨by kernel_rfl,rfl,by decide⟩
instance qI3:TSh Tryz.prog 53 (.many 3):=⟨by kernel_rfl⟩
instance qI4:TCells Tryz.prog 53 3:=⟨by kernel_rfl,by decide⟩
instance qFz:TField Tryz.prog 53 0 0 3:=⟨by kernel_rfl,kne (k:=1) (by kernel_rfl) (by decide)⟩
instance qFA:TField Tryz.prog 53 2 2 42:=⟨by kernel_rfl,kne (k:=1) (by kernel_rfl) (by decide)⟩
instance qI5:TLay Tryz.prog 53 [.int .i64 0,.int .i64 0,.int .i64 0] [(0,1),(1,1),(2,1)]:=⟨by kernel_rfl⟩
instance qI6:TZero Tryz.prog 53 (.agg [.int .i64 0,.int .i64 0,.int .i64 0]):=⟨by kernel_rfl,rfl,by decide⟩
instance qI7:TSh Tryz.prog 66 .one:=⟨by kernel_rfl⟩
instance qI8:TCells Tryz.prog 66 1:=⟨by kernel_rfl,by decide⟩
instance qI9:TSlice Tryz.prog 66 22 1:=⟨by kernel_rfl,by kernel_rfl,by decide⟩
instance qJa:TSlice Tryz.prog 72 76 2:=⟨by kernel_rfl,by kernel_rfl,by decide⟩
instance qJb:TSh Tryz.prog 76 (.many 2):=⟨by kernel_rfl⟩
instance qJc:TCells Tryz.prog 76 2:=⟨by kernel_rfl,by decide⟩
instance qFB:TField Tryz.prog 76 0 0 9:=⟨by kernel_rfl,kne (k:=1) (by kernel_rfl) (by decide)⟩
instance qFC:TField Tryz.prog 76 1 1 3:=⟨by kernel_rfl,kne (k:=1) (by kernel_rfl) (by decide)⟩
instance qJd:TLay Tryz.prog 76 [.str ByteArray.empty,.int .i64 0] [(0,1),(1,1)]:=⟨by kernel_rfl⟩
instance qJe:TZero Tryz.prog 76 (.agg [.str ByteArray.empty,.int .i64 0]):=⟨by kernel_rfl,rfl,by decide⟩
instance qJf:TSlice Tryz.prog 91 191 2:=⟨by kernel_rfl,by kernel_rfl,by decide⟩
instance qJg:TSlice Tryz.prog 99 113 3:=⟨by kernel_rfl,by kernel_rfl,by decide⟩
instance qGm:TSh Tryz.prog 102 .one:=⟨by kernel_rfl⟩
instance qGn:TSlice Tryz.prog 102 108 2:=⟨by kernel_rfl,by kernel_rfl,by decide⟩
instance qGo:TSh Tryz.prog 104 (.many 3):=⟨by kernel_rfl⟩
instance qGp:TCells Tryz.prog 104 3:=⟨by kernel_rfl,by decide⟩
instance qDT:TField Tryz.prog 104 0 0 9:=⟨by kernel_rfl,kne (k:=1) (by kernel_rfl) (by decide)⟩
instance qDU:TField Tryz.prog 104 2 2 102:=⟨by kernel_rfl,kne (k:=1) (by kernel_rfl) (by decide)⟩
instance qGq:TZero Tryz.prog 104 (.agg [.str ByteArray.empty,.int .i64 0,.nilsl]):=⟨by kernel_rfl,rfl,by decide⟩
instance qGr:TSh Tryz.prog 108 (.many 2):=⟨by kernel_rfl⟩
instance qGs:TCells Tryz.prog 108 2:=⟨by kernel_rfl,by decide⟩
instance qDV:TField Tryz.prog 108 0 0 3:=⟨by kernel_rfl,kne (k:=1) (by kernel_rfl) (by decide)⟩
instance qDW:TField Tryz.prog 108 1 1 3:=⟨by kernel_rfl,kne (k:=1) (by kernel_rfl) (by decide)⟩
instance qGt:TLay Tryz.prog 108 [.int .i64 0,.int .i64 0] [(0,1),(1,1)]:=⟨by kernel_rfl⟩
instance qGu:TZero Tryz.prog 108 (.agg [.int .i64 0,.int .i64 0]):=⟨by kernel_rfl,rfl,by decide⟩
instance qGv:TSh Tryz.prog 110 (.many 7):=⟨by kernel_rfl⟩
instance qGw:TCells Tryz.prog 110 7:=⟨by kernel_rfl,by decide⟩
instance qDX:TField Tryz.prog 110 0 0 9:=⟨by kernel_rfl,kne (k:=1) (by kernel_rfl) (by decide)⟩
instance qDY:TField Tryz.prog 110 1 1 108:=⟨by kernel_rfl,kne (k:=2) (by kernel_rfl) (by decide)⟩
instance qDZ:TField Tryz.prog 110 2 3 108:=⟨by kernel_rfl,kne (k:=2) (by kernel_rfl) (by decide)⟩
instance qD0:TField Tryz.prog 110 3 5 3:=⟨by kernel_rfl,kne (k:=1) (by kernel_rfl) (by decide)⟩
instance qD1:TField Tryz.prog 110 4 6 3:=⟨by kernel_rfl,kne (k:=1) (by kernel_rfl) (by decide)⟩
instance qGx:TZero Tryz.prog 110 (.agg [.str ByteArray.empty,.int .i64 0,.int .i64 0,.int .i64 0,.int .i64 0,.int .i64 0,.int .i64 0]):=⟨by kernel_rfl,rfl,by decide⟩
instance qGy:TSh Tryz.prog 113 (.many 3):=⟨by kernel_rfl⟩
instance qGz:TCells Tryz.prog 113 3:=⟨by kernel_rfl,by decide⟩
instance qD2:TField Tryz.prog 113 0 0 3:=⟨by kernel_rfl,kne (k:=1) (by kernel_rfl) (by decide)⟩
instance qD3:TField Tryz.prog 113 1 1 3:=⟨by kernel_rfl,kne (k:=1) (by kernel_rfl) (by decide)⟩
instance qGA:TLay Tryz.prog 113 [.int .i64 0,.int .i64 0,.int .i64 0] [(0,1),(1,1),(2,1)]:=⟨by kernel_rfl⟩
instance qGB:TZero Tryz.prog 113 (.agg [.int .i64 0,.int .i64 0,.int .i64 0]):=⟨by kernel_rfl,rfl,by decide⟩
instance qGC:TSlice Tryz.prog 123 128 2:=⟨by kernel_rfl,by kernel_rfl,by decide⟩
instance qGD:TSh Tryz.prog 128 (.many 2):=⟨by kernel_rfl⟩
instance qGE:TCells Tryz.prog 128 2:=⟨by kernel_rfl,by decide⟩
instance qD4:TField Tryz.prog 128 0 0 3:=⟨by kernel_rfl,kne (k:=1) (by kernel_rfl) (by decide)⟩
instance qD5:TField Tryz.prog 128 1 1 3:=⟨by kernel_rfl,kne (k:=1) (by kernel_rfl) (by decide)⟩
instance qGF:TLay Tryz.prog 128 [.int .i64 0,.int .i64 0] [(0,1),(1,1)]:=⟨by kernel_rfl⟩
instance qGG:TZero Tryz.prog 128 (.agg [.int .i64 0,.int .i64 0]):=⟨by kernel_rfl,rfl,by decide⟩
instance qGH:TSh Tryz.prog 136 .one:=⟨by kernel_rfl⟩
instance qGI:TSlice Tryz.prog 136 220 2:=⟨by kernel_rfl,by kernel_rfl,by decide⟩
instance qGJ:TSh Tryz.prog 138 (.many 4):=⟨by kernel_rfl⟩
instance qGK:TCells Tryz.prog 138 4:=⟨by kernel_rfl,by decide⟩
instance qD6:TField Tryz.prog 138 0 0 9:=⟨by kernel_rfl,kne (k:=1) (by kernel_rfl) (by decide)⟩
instance qD7:TField Tryz.prog 138 1 1 3:=⟨by kernel_rfl,kne (k:=1) (by kernel_rfl) (by decide)⟩
instance qD8:TField Tryz.prog 138 2 2 3:=⟨by kernel_rfl,kne (k:=1) (by kernel_rfl) (by decide)⟩
instance qD9:TField Tryz.prog 138 3 3 136:=⟨by kernel_rfl,kne (k:=1) (by kernel_rfl) (by decide)⟩
instance qGL:TZero Tryz.prog 138 (.agg [.str ByteArray.empty,.int .i64 0,.int .i64 0,.nilsl]):=⟨by kernel_rfl,rfl,by decide⟩
instance qGM:TSh Tryz.prog 139 .one:=⟨by kernel_rfl⟩
instance qGN:TSlice Tryz.prog 139 222 2:=⟨by kernel_rfl,by kernel_rfl,by decide⟩
instance qGO:TSh Tryz.prog 141 (.many 4):=⟨by kernel_rfl⟩
instance qGP:TCells Tryz.prog 141 4:=⟨by kernel_rfl,by decide⟩
instance qEa:TField Tryz.prog 141 0 0 9:=⟨by kernel_rfl,kne (k:=1) (by kernel_rfl) (by decide)⟩
instance qEb:TField Tryz.prog 141 1 1 3:=⟨by kernel_rfl,kne (k:=1) (by kernel_rfl) (by decide)⟩
instance qEc:TField Tryz.prog 141 2 2 3:=⟨by kernel_rfl,kne (k:=1) (by kernel_rfl) (by decide)⟩
instance qEd:TField Tryz.prog 141 3 3 139:=⟨by kernel_rfl,kne (k:=1) (by kernel_rfl) (by decide)⟩
instance qGQ:TZero Tryz.prog 141 (.agg [.str ByteArray.empty,.int .i64 0,.int .i64 0,.nilsl]):=⟨by kernel_rfl,rfl,by decide⟩
instance qGR:TSh Tryz.prog 146 (.many 3):=⟨by kernel_rfl⟩
instance qGS:TCells Tryz.prog 146 3:=⟨by kernel_rfl,by decide⟩
instance qEe:TField Tryz.prog 146 0 0 9:=⟨by kernel_rfl,kne (k:=1) (by kernel_rfl) (by decide)⟩
instance qEf:TField Tryz.prog 146 1 1 3:=⟨by kernel_rfl,kne (k:=1) (by kernel_rfl) (by decide)⟩
instance qEg:TField Tryz.prog 146 2 2 3:=⟨by kernel_rfl,kne (k:=1) (by kernel_rfl) (by decide)⟩
instance qGT:TLay Tryz.prog 146 [.str ByteArray.empty,.int .i64 0,.int .i64 0] [(0,1),(1,1),(2,1)]:=⟨by kernel_rfl⟩
instance qGU:TZero Tryz.prog 146 (.agg [.str ByteArray.empty,.int .i64 0,.int .i64 0]):=⟨by kernel_rfl,rfl,by decide⟩
instance qGV:TSh Tryz.prog 149 .one:=⟨by kernel_rfl⟩
instance qGW:TZero Tryz.prog 149 (.nilfunc):=⟨by kernel_rfl,rfl,by decide⟩
instance qGX:TSlice Tryz.prog 154 149 1:=⟨by kernel_rfl,by kernel_rfl,by decide⟩
instance qGY:TSh Tryz.prog 168 .one:=⟨by kernel_rfl⟩
instance qGZ:TCells Tryz.prog 168 1:=⟨by kernel_rfl,by decide⟩
instance qG0:TZero Tryz.prog 168 (.nilptr):=⟨by kernel_rfl,rfl,by decide⟩
instance qG1:TSh Tryz.prog 173 .one:=⟨by kernel_rfl⟩
instance qG2:TCells Tryz.prog 173 1:=⟨by kernel_rfl,by decide⟩
instance qG3:TSlice Tryz.prog 173 188 1:=⟨by kernel_rfl,by kernel_rfl,by decide⟩
instance qEh:TField Tryz.prog 175 0 0 3:=⟨by kernel_rfl,kne (k:=1) (by kernel_rfl) (by decide)⟩
instance qEi:TField Tryz.prog 175 1 1 173:=⟨by kernel_rfl,kne (k:=1) (by kernel_rfl) (by decide)⟩
instance qEj:TField Tryz.prog 175 2 2 66:=⟨by kernel_rfl,kne (k:=1) (by kernel_rfl) (by decide)⟩
instance qG4:TLay Tryz.prog 175 [.int .i64 0,.nilsl,.nilsl] [(0,1),(1,1),(2,1)]:=⟨by kernel_rfl⟩
instance qG5:TSlice Tryz.prog 186 4 1:=⟨by kernel_rfl,by kernel_rfl,by decide⟩
instance qG6:TSh Tryz.prog 188 .one:=⟨by kernel_rfl⟩
instance qG7:TSlice Tryz.prog 188 42 1:=⟨by kernel_rfl,by kernel_rfl,by decide⟩
instance qG8:TZero Tryz.prog 188 (.nilsl):=⟨by kernel_rfl,rfl,by decide⟩
instance qG9:TLay Tryz.prog 191 [.int .i64 0,.nilsl] [(0,1),(1,1)]:=⟨by kernel_rfl⟩
instance qHa:TZero Tryz.prog 191 (.agg [.int .i64 0,.nilsl]):=⟨by kernel_rfl,rfl,by decide⟩
instance qEk:TField Tryz.prog 216 0 0 3:=⟨by kernel_rfl,kne (k:=1) (by kernel_rfl) (by decide)⟩
instance qEl:TField Tryz.prog 216 1 1 3:=⟨by kernel_rfl,kne (k:=1) (by kernel_rfl) (by decide)⟩
instance qHb:TSh Tryz.prog 218 (.many 5):=⟨by kernel_rfl⟩
instance qHc:TCells Tryz.prog 218 5:=⟨by kernel_rfl,by decide⟩
instance qEm:TField Tryz.prog 218 0 0 9:=⟨by kernel_rfl,kne (k:=1) (by kernel_rfl) (by decide)⟩
instance qEn:TField Tryz.prog 218 1 1 3:=⟨by kernel_rfl,kne (k:=1) (by kernel_rfl) (by decide)⟩
instance qEo:TField Tryz.prog 218 2 2 3:=⟨by kernel_rfl,kne (k:=1) (by kernel_rfl) (by decide)⟩
instance qEp:TField Tryz.prog 218 3 3 216:=⟨by kernel_rfl,kne (k:=2) (by kernel_rfl) (by decide)⟩
instance qHd:TZero Tryz.prog 218 (.agg [.str ByteArray.empty,.int .i64 0,.int .i64 0,.int .i64 0,.int .i64 0]):=⟨by kernel_rfl,rfl,by decide⟩
instance qHe:TSh Tryz.prog 220 (.many 2):=⟨by kernel_rfl⟩
instance qHf:TCells Tryz.prog 220 2:=⟨by kernel_rfl,by decide⟩
instance qEq:TField Tryz.prog 220 0 0 3:=⟨by kernel_rfl,kne (k:=1) (by kernel_rfl) (by decide)⟩
instance qEr:TField Tryz.prog 220 1 1 9:=⟨by kernel_rfl,kne (k:=1) (by kernel_rfl) (by decide)⟩
instance qHg:TZero Tryz.prog 220 (.agg [.int .i64 0,.str ByteArray.empty]):=⟨by kernel_rfl,rfl,by decide⟩
instance qHh:TSh Tryz.prog 222 (.many 2):=⟨by kernel_rfl⟩
instance qHi:TCells Tryz.prog 222 2:=⟨by kernel_rfl,by decide⟩
instance qEs:TField Tryz.prog 222 0 0 3:=⟨by kernel_rfl,kne (k:=1) (by kernel_rfl) (by decide)⟩
instance qEt:TField Tryz.prog 222 1 1 3:=⟨by kernel_rfl,kne (k:=1) (by kernel_rfl) (by decide)⟩
instance qHj:TZero Tryz.prog 222 (.agg [.int .i64 0,.int .i64 0]):=⟨by kernel_rfl,rfl,by decide⟩
instance qHk:TSh Tryz.prog 227 .one:=⟨by kernel_rfl⟩
instance qHl:TSh Tryz.prog 230 (.many 2):=⟨by kernel_rfl⟩
instance qEu:TField Tryz.prog 230 0 0 28:=⟨by kernel_rfl,kne (k:=2) (by kernel_rfl) (by decide)⟩
instance qHm:TLay Tryz.prog 230 [.nilsl,.nilsl] [(0,2)]:=⟨by kernel_rfl⟩
instance qHn:TCells Tryz.prog 248 2:=⟨by kernel_rfl,by decide⟩
instance qEv:TField Tryz.prog 248 0 0 42:=⟨by kernel_rfl,kne (k:=1) (by kernel_rfl) (by decide)⟩
instance qEw:TField Tryz.prog 248 1 1 3:=⟨by kernel_rfl,kne (k:=1) (by kernel_rfl) (by decide)⟩
instance qHo:TLay Tryz.prog 248 [.int .i64 0,.int .i64 0] [(0,1),(1,1)]:=⟨by kernel_rfl⟩
instance qHp:TZero Tryz.prog 248 (.agg [.int .i64 0,.int .i64 0]):=⟨by kernel_rfl,rfl,by decide⟩
instance qHq:TSh Tryz.prog 249 .one:=⟨by kernel_rfl⟩
instance qEx:TField Tryz.prog 252 0 0 34:=⟨by kernel_rfl,kne (k:=12) (by kernel_rfl) (by decide)⟩
instance qEy:TField Tryz.prog 252 1 12 24:=⟨by kernel_rfl,kne (k:=6) (by kernel_rfl) (by decide)⟩
instance qEz:TField Tryz.prog 252 2 18 51:=⟨by kernel_rfl,kne (k:=8) (by kernel_rfl) (by decide)⟩
instance qEA:TField Tryz.prog 252 3 26 37:=⟨by kernel_rfl,kne (k:=8) (by kernel_rfl) (by decide)⟩
instance qEB:TField Tryz.prog 252 4 34 22:=⟨by kernel_rfl,kne (k:=1) (by kernel_rfl) (by decide)⟩
instance qEC:TField Tryz.prog 252 5 35 24:=⟨by kernel_rfl,kne (k:=6) (by kernel_rfl) (by decide)⟩
instance qED:TField Tryz.prog 252 6 41 22:=⟨by kernel_rfl,kne (k:=1) (by kernel_rfl) (by decide)⟩
instance qEE:TField Tryz.prog 252 7 42 128:=⟨by kernel_rfl,kne (k:=2) (by kernel_rfl) (by decide)⟩
instance qHr:TLay Tryz.prog 252 [.int .i64 0,.int .i64 0,.int .i64 0,.int .i64 0,.int .i64 0,.nilsl,.nilsl,.nilsl,.nilsl,.nilsl,.nilsl,.nilsl,.int .i64 0,.int .i64 0,.int .i64 0,.int .i64 0,.int .i64 0,.nilsl,.str ByteArray.empty,.str ByteArray.empty,.int .i64 0,.int .i64 0,.int .i64 0,.int .i64 0,.int .i64 0,.int .i64 0,.str ByteArray.empty,.int .i64 0,.int .i64 0,.int .i64 0,.int .i64 0,.int .i64 0,.int .i64 0,.nilsl,.nilsl,.int .i64 0,.int .i64 0,.int .i64 0,.int .i64 0,.int .i64 0,.nilsl,.nilsl,.int .i64 0,.int .i64 0] [(0,12),(12,6),(18,8),(26,8),(34,1),(35,6),(41,1),(42,2)]:=⟨by kernel_rfl⟩
instance qHs:TSlice Tryz.prog 253 256 3:=⟨by kernel_rfl,by kernel_rfl,by decide⟩
instance qHt:TSh Tryz.prog 256 (.many 3):=⟨by kernel_rfl⟩
instance qHu:TCells Tryz.prog 256 3:=⟨by kernel_rfl,by decide⟩
instance qEF:TField Tryz.prog 256 0 0 9:=⟨by kernel_rfl,kne (k:=1) (by kernel_rfl) (by decide)⟩
instance qEG:TField Tryz.prog 256 1 1 3:=⟨by kernel_rfl,kne (k:=1) (by kernel_rfl) (by decide)⟩
instance qEH:TField Tryz.prog 256 2 2 3:=⟨by kernel_rfl,kne (k:=1) (by kernel_rfl) (by decide)⟩
instance qHv:TLay Tryz.prog 256 [.str ByteArray.empty,.int .i64 0,.int .i64 0] [(0,1),(1,1),(2,1)]:=⟨by kernel_rfl⟩
instance qHw:TZero Tryz.prog 256 (.agg [.str ByteArray.empty,.int .i64 0,.int .i64 0]):=⟨by kernel_rfl,rfl,by decide⟩
instance qHx:TSh Tryz.prog 257 (.many 2):=⟨by kernel_rfl⟩
instance qHy:TCells Tryz.prog 257 2:=⟨by kernel_rfl,by decide⟩
instance qEI:TField Tryz.prog 257 0 0 3:=⟨by kernel_rfl,kne (k:=1) (by kernel_rfl) (by decide)⟩
instance qEJ:TField Tryz.prog 257 1 1 3:=⟨by kernel_rfl,kne (k:=1) (by kernel_rfl) (by decide)⟩
instance qHz:TLay Tryz.prog 257 [.int .i64 0,.int .i64 0] [(0,1),(1,1)]:=⟨by kernel_rfl⟩
instance qHA:TZero Tryz.prog 257 (.agg [.int .i64 0,.int .i64 0]):=⟨by kernel_rfl,rfl,by decide⟩
instance qHB:TSh Tryz.prog 259 (.many 2):=⟨by kernel_rfl⟩
instance qHC:TCells Tryz.prog 259 2:=⟨by kernel_rfl,by decide⟩
instance qEK:TField Tryz.prog 259 0 0 3:=⟨by kernel_rfl,kne (k:=1) (by kernel_rfl) (by decide)⟩
instance qEL:TField Tryz.prog 259 1 1 3:=⟨by kernel_rfl,kne (k:=1) (by kernel_rfl) (by decide)⟩
instance qHD:TLay Tryz.prog 259 [.int .i64 0,.int .i64 0] [(0,1),(1,1)]:=⟨by kernel_rfl⟩
instance qHE:TZero Tryz.prog 259 (.agg [.int .i64 0,.int .i64 0]):=⟨by kernel_rfl,rfl,by decide⟩
instance qHF:TSh Tryz.prog 281 (.many 7):=⟨by kernel_rfl⟩
instance qHG:TCells Tryz.prog 281 7:=⟨by kernel_rfl,by decide⟩
instance qEM:TField Tryz.prog 281 0 0 24:=⟨by kernel_rfl,kne (k:=6) (by kernel_rfl) (by decide)⟩
instance qEN:TField Tryz.prog 281 1 6 22:=⟨by kernel_rfl,kne (k:=1) (by kernel_rfl) (by decide)⟩
instance qHH:TLay Tryz.prog 281 [.int .i64 0,.int .i64 0,.int .i64 0,.int .i64 0,.int .i64 0,.nilsl,.nilsl] [(0,6),(6,1)]:=⟨by kernel_rfl⟩
instance qHI:TZero Tryz.prog 281 (.agg [.int .i64 0,.int .i64 0,.int .i64 0,.int .i64 0,.int .i64 0,.nilsl,.nilsl]):=⟨by kernel_rfl,rfl,by decide⟩
instance qHJ:TSh Tryz.prog 287 .one:=⟨by kernel_rfl⟩
instance qHK:TSh Tryz.prog 292 .one:=⟨by kernel_rfl⟩
instance qHL:TSh Tryz.prog 294 (.many 2):=⟨by kernel_rfl⟩
instance qHM:TCells Tryz.prog 294 2:=⟨by kernel_rfl,by decide⟩
instance qEO:TField Tryz.prog 294 0 0 42:=⟨by kernel_rfl,kne (k:=1) (by kernel_rfl) (by decide)⟩
instance qEP:TField Tryz.prog 294 1 1 292:=⟨by kernel_rfl,kne (k:=1) (by kernel_rfl) (by decide)⟩
instance qHN:TLay Tryz.prog 294 [.int .i64 0,.nilfunc] [(0,1),(1,1)]:=⟨by kernel_rfl⟩
instance qHO:TZero Tryz.prog 294 (.agg [.int .i64 0,.nilfunc]):=⟨by kernel_rfl,rfl,by decide⟩
instance qHP:TCells Tryz.prog 295 8:=⟨by kernel_rfl,by decide⟩
instance qHQ:TZero Tryz.prog 295 (.agg [.int .i64 0,.nilfunc,.int .i64 0,.nilfunc,.int .i64 0,.nilfunc,.int .i64 0,.nilfunc]):=⟨by kernel_rfl,rfl,by decide⟩
instance qHR:TSh Tryz.prog 317 (.many 8):=⟨by kernel_rfl⟩
instance qHS:TCells Tryz.prog 317 8:=⟨by kernel_rfl,by decide⟩
instance qHT:TZero Tryz.prog 317 (.agg [.int .i64 0,.int .i64 0,.int .i64 0,.int .i64 0,.int .i64 0,.int .i64 0,.int .i64 0,.int .i64 0]):=⟨by kernel_rfl,rfl,by decide⟩
instance qHU:TSlice Tryz.prog 320 24 6:=⟨by kernel_rfl,by kernel_rfl,by decide⟩
instance qHV:TEq Tryz.prog 108 [.i,.i]:=⟨by kernel_rfl⟩
instance qHW:TArrE Tryz.prog 295 4 294 2:=⟨by kernel_rfl,by kernel_rfl,by decide⟩
instance qHX:TLay Tryz.prog 295 [.int .i64 0,.nilfunc,.int .i64 0,.nilfunc,.int .i64 0,.nilfunc,.int .i64 0,.nilfunc] [(0,2),(2,2),(4,2),(6,2)]:=⟨by kernel_rfl⟩
instance qHY:TArr Tryz.prog 317 4 2:=⟨108,by kernel_rfl,by kernel_rfl,by decide⟩
instance qHZ:TArrE Tryz.prog 317 4 108 2:=⟨by kernel_rfl,by kernel_rfl,by decide⟩
instance qH0:TLay Tryz.prog 317 [.int .i64 0,.int .i64 0,.int .i64 0,.int .i64 0,.int .i64 0,.int .i64 0,.int .i64 0,.int .i64 0] [(0,2),(2,2),(4,2),(6,2)]:=⟨by kernel_rfl⟩
end Go.Pv.Tf
