import Derived.Test.YtfklpkgdobdbpaaGreatProg
import Derived.Test.YtfklpkgdobdbpaaGreatCAD
/- Part of the proofs over YtfklpkgdobdbpaaGreat: CFacts, S1. -/
set_option linter.unusedVariables false
set_option linter.unusedSimpArgs false
set_option linter.unnecessarySimpa false
open Go Go.Proofs Go.Pv
namespace Go.Pv.Tf
instance tsh5:TSh Tryz.prog 5 .one:=⟨by kernel_rfl⟩
instance qMk:TSh Tryz.prog 3 .one:=⟨by kernel_rfl⟩
instance qMl:TCells Tryz.prog 3 1:=⟨by kernel_rfl,by decide⟩
instance qMm:TZero Tryz.prog 3 (.int .i64 0):=⟨by kernel_rfl,rfl,by decide⟩
instance qMn:TSh Tryz.prog 4 .one:=⟨by kernel_rfl⟩
instance qMo:TCells Tryz.prog 4 1:=⟨by kernel_rfl,by decide⟩
instance qMp:TZero Tryz.prog 4 (.bool false):=⟨by kernel_rfl,rfl,by decide⟩
instance qMq:TSh Tryz.prog 9 .one:=⟨by kernel_rfl⟩
instance qMr:TStr Tryz.prog 9:=⟨by kernel_rfl⟩
instance qMs:TCells Tryz.prog 9 1:=⟨by kernel_rfl,by decide⟩
instance qMt:TZero Tryz.prog 9 (.str ByteArray.empty):=⟨by kernel_rfl,rfl,by decide⟩
instance qKI:TSh Tryz.prog 22 .one:=⟨by kernel_rfl⟩
instance qKJ:TCells Tryz.prog 22 1:=⟨by kernel_rfl,by decide⟩
instance qKK:TSlice Tryz.prog 22 3 1:=⟨by kernel_rfl,by kernel_rfl,by decide⟩
instance qKL:TZero Tryz.prog 22 (.nilsl):=⟨by kernel_rfl,rfl,by decide⟩
instance qKM:TSh Tryz.prog 24 (.many 6):=⟨by kernel_rfl⟩
instance qKN:TCells Tryz.prog 24 6:=⟨by kernel_rfl,by decide⟩
instance qHh:TField Tryz.prog 24 0 0 3:=⟨by kernel_rfl,kne (k:=1) (by kernel_rfl) (by decide)⟩
instance qHi:TField Tryz.prog 24 1 1 3:=⟨by kernel_rfl,kne (k:=1) (by kernel_rfl) (by decide)⟩
instance qHj:TField Tryz.prog 24 2 2 3:=⟨by kernel_rfl,kne (k:=1) (by kernel_rfl) (by decide)⟩
instance qHk:TField Tryz.prog 24 3 3 3:=⟨by kernel_rfl,kne (k:=1) (by kernel_rfl) (by decide)⟩
instance qHl:TField Tryz.prog 24 4 4 3:=⟨by kernel_rfl,kne (k:=1) (by kernel_rfl) (by decide)⟩
instance qHm:TField Tryz.prog 24 5 5 22:=⟨by kernel_rfl,kne (k:=1) (by kernel_rfl) (by decide)⟩
instance qKO:TLay Tryz.prog 24 [.int .i64 0,.int .i64 0,.int .i64 0,.int .i64 0,.int .i64 0,.nilsl] [(0,1),(1,1),(2,1),(3,1),(4,1),(5,1)]:=⟨by kernel_rfl⟩
instance qKP:TZero Tryz.prog 24 (.agg [.int .i64 0,.int .i64 0,.int .i64 0,.int .i64 0,.int .i64 0,.nilsl]):=⟨by kernel_rfl,rfl,by decide⟩
instance qKQ:TSh Tryz.prog 25 .one:=⟨by kernel_rfl⟩
instance qKR:TSlice Tryz.prog 25 218 5:=⟨by kernel_rfl,by kernel_rfl,by decide⟩
instance qKS:TSh Tryz.prog 26 .one:=⟨by kernel_rfl⟩
instance qKT:TSlice Tryz.prog 26 138 4:=⟨by kernel_rfl,by kernel_rfl,by decide⟩
instance qKU:TSh Tryz.prog 28 (.many 2):=⟨by kernel_rfl⟩
instance qHn:TField Tryz.prog 28 0 0 25:=⟨by kernel_rfl,kne (k:=1) (by kernel_rfl) (by decide)⟩
instance qHo:TField Tryz.prog 28 1 1 26:=⟨by kernel_rfl,kne (k:=1) (by kernel_rfl) (by decide)⟩
instance qKV:TSh Tryz.prog 29 .one:=⟨by kernel_rfl⟩
instance qKW:TCells Tryz.prog 29 1:=⟨by kernel_rfl,by decide⟩
instance qKX:TSlice Tryz.prog 29 104 3:=⟨by kernel_rfl,by kernel_rfl,by decide⟩
instance qKY:TSh Tryz.prog 30 .one:=⟨by kernel_rfl⟩
instance qKZ:TSlice Tryz.prog 30 110 7:=⟨by kernel_rfl,by kernel_rfl,by decide⟩
instance qK0:TSh Tryz.prog 31 .one:=⟨by kernel_rfl⟩
instance qK1:TSlice Tryz.prog 31 141 4:=⟨by kernel_rfl,by kernel_rfl,by decide⟩
instance qK2:TSh Tryz.prog 32 .one:=⟨by kernel_rfl⟩
instance qK3:TCells Tryz.prog 32 1:=⟨by kernel_rfl,by decide⟩
instance qK4:TSlice Tryz.prog 32 37 8:=⟨by kernel_rfl,by kernel_rfl,by decide⟩
instance qK5:TSh Tryz.prog 34 (.many 12):=⟨by kernel_rfl⟩
instance qK6:TCells Tryz.prog 34 12:=⟨by kernel_rfl,by decide⟩
instance qHp:TField Tryz.prog 34 0 0 24:=⟨by kernel_rfl,kne (k:=6) (by kernel_rfl) (by decide)⟩
instance qHq:TField Tryz.prog 34 1 6 28:=⟨by kernel_rfl,kne (k:=2) (by kernel_rfl) (by decide)⟩
instance qHr:TField Tryz.prog 34 2 8 29:=⟨by kernel_rfl,kne (k:=1) (by kernel_rfl) (by decide)⟩
instance qHs:TField Tryz.prog 34 3 9 30:=⟨by kernel_rfl,kne (k:=1) (by kernel_rfl) (by decide)⟩
instance qHt:TField Tryz.prog 34 4 10 31:=⟨by kernel_rfl,kne (k:=1) (by kernel_rfl) (by decide)⟩
instance qHu:TField Tryz.prog 34 5 11 32:=⟨by kernel_rfl,kne (k:=1) (by kernel_rfl) (by decide)⟩
instance qK7:TZero Tryz.prog 34 (.agg [.int .i64 0,.int .i64 0,.int .i64 0,.int .i64 0,.int .i64 0,.nilsl,.nilsl,.nilsl,.nilsl,.nilsl,.nilsl,.nilsl]):=⟨by kernel_rfl,rfl,by decide⟩
instance qK8:TSh Tryz.prog 35 .one:=⟨by kernel_rfl⟩
instance qK9:TSlice Tryz.prog 35 146 3:=⟨by kernel_rfl,by kernel_rfl,by decide⟩
instance qLa:TSh Tryz.prog 37 (.many 8):=⟨by kernel_rfl⟩
instance qLb:TCells Tryz.prog 37 8:=⟨by kernel_rfl,by decide⟩
instance qHv:TField Tryz.prog 37 0 0 9:=⟨by kernel_rfl,kne (k:=1) (by kernel_rfl) (by decide)⟩
instance qHw:TField Tryz.prog 37 1 1 3:=⟨by kernel_rfl,kne (k:=1) (by kernel_rfl) (by decide)⟩
instance qHx:TField Tryz.prog 37 2 2 3:=⟨by kernel_rfl,kne (k:=1) (by kernel_rfl) (by decide)⟩
instance qHy:TField Tryz.prog 37 3 3 3:=⟨by kernel_rfl,kne (k:=1) (by kernel_rfl) (by decide)⟩
instance qHz:TField Tryz.prog 37 4 4 3:=⟨by kernel_rfl,kne (k:=1) (by kernel_rfl) (by decide)⟩
instance qHA:TField Tryz.prog 37 5 5 3:=⟨by kernel_rfl,kne (k:=1) (by kernel_rfl) (by decide)⟩
instance qHB:TField Tryz.prog 37 6 6 3:=⟨by kernel_rfl,kne (k:=1) (by kernel_rfl) (by decide)⟩
instance qHC:TField Tryz.prog 37 7 7 35:=⟨by kernel_rfl,kne (k:=1) (by kernel_rfl) (by decide)⟩
instance qLc:TLay Tryz.prog 37 [.str ByteArray.empty,.int .i64 0,.int .i64 0,.int .i64 0,.int .i64 0,.int .i64 0,.int .i64 0,.nilsl] [(0,1),(1,1),(2,1),(3,1),(4,1),(5,1),(6,1),(7,1)]:=⟨by kernel_rfl⟩
instance qLd:TZero Tryz.prog 37 (.agg [.str ByteArray.empty,.int .i64 0,.int .i64 0,.int .i64 0,.int .i64 0,.int .i64 0,.int .i64 0,.nilsl]):=⟨by kernel_rfl,rfl,by decide⟩
instance qLe:TSlice Tryz.prog 38 51 8:=⟨by kernel_rfl,by kernel_rfl,by decide⟩
instance qLf:TSh Tryz.prog 42 .one:=⟨by kernel_rfl⟩
instance qLg:TCells Tryz.prog 42 1:=⟨by kernel_rfl,by decide⟩
instance qLh:TSh Tryz.prog 51 (.many 8):=⟨by kernel_rfl⟩
instance qLi:TCells Tryz.prog 51 8:=⟨by kernel_rfl,by decide⟩
instance qHD:TField Tryz.prog 51 0 0 9:=⟨by kernel_rfl,kne (k:=1) (by kernel_rfl) (by decide)⟩
instance qHE:TField Tryz.prog 51 1 1 9:=⟨by kernel_rfl,kne (k:=1) (by kernel_rfl) (by decide)⟩
instance qHF:TField Tryz.prog 51 2 2 3:=⟨by kernel_rfl,kne (k:=1) (by kernel_rfl) (by decide)⟩
instance qHG:TField Tryz.prog 51 3 3 3:=⟨by kernel_rfl,kne (k:=1) (by kernel_rfl) (by decide)⟩
instance qHH:TField Tryz.prog 51 4 4 3:=⟨by kernel_rfl,kne (k:=1) (by kernel_rfl) (by decide)⟩
instance qHI:TField Tryz.prog 51 5 5 3:=⟨by kernel_rfl,kne (k:=1) (by kernel_rfl) (by decide)⟩
instance qHJ:TField Tryz.prog 51 6 6 3:=⟨by kernel_rfl,kne (k:=1) (by kernel_rfl) (by decide)⟩
instance qHK:TField Tryz.prog 51 7 7 3:=⟨by kernel_rfl,kne (k:=1) (by kernel_rfl) (by decide)⟩
instance qLj:TLay Tryz.prog 51 [.str ByteArray.empty,.str ByteArray.empty,.int .i64 0,.int .i64 0,.int .i64 0,.int .i64 0,.int .i64 0,.int .i64 0] [(0,1),(1,1),(2,1),(3,1),(4,1),(5,1),(6,1),(7,1)]:=⟨by kernel_rfl⟩
instance qLk:TZero Tryz.prog 51 (.agg [.str ByteArray.empty,.str ByteArray.empty,.int .i64 0,.int .i64 0,.int .i64 0,.int .i64 0,.int .i64 0,.int .i64 0]):=⟨by kernel_rfl,rfl,by decide⟩
instance qLl:TSh Tryz.prog 53 (.many 3):=⟨by kernel_rfl⟩
instance qLm:TCells Tryz.prog 53 3:=⟨by kernel_rfl,by decide⟩
instance qHL:TField Tryz.prog 53 0 0 3:=⟨by kernel_rfl,kne (k:=1) (by kernel_rfl) (by decide)⟩
instance qHM:TField Tryz.prog 53 2 2 42:=⟨by kernel_rfl,kne (k:=1) (by kernel_rfl) (by decide)⟩
instance qLn:TLay Tryz.prog 53 [.int .i64 0,.int .i64 0,.int .i64 0] [(0,1),(1,1),(2,1)]:=⟨by kernel_rfl⟩
instance qLo:TZero Tryz.prog 53 (.agg [.int .i64 0,.int .i64 0,.int .i64 0]):=⟨by kernel_rfl,rfl,by decide⟩
instance qLp:TSh Tryz.prog 66 .one:=⟨by kernel_rfl⟩
instance qLq:TCells Tryz.prog 66 1:=⟨by kernel_rfl,by decide⟩
instance qLr:TSlice Tryz.prog 66 22 1:=⟨by kernel_rfl,by kernel_rfl,by decide⟩
instance qLs:TSlice Tryz.prog 72 76 2:=⟨by kernel_rfl,by kernel_rfl,by decide⟩
instance qLt:TSh Tryz.prog 76 (.many 2):=⟨by kernel_rfl⟩
instance qLu:TCells Tryz.prog 76 2:=⟨by kernel_rfl,by decide⟩
instance qHN:TField Tryz.prog 76 0 0 9:=⟨by kernel_rfl,kne (k:=1) (by kernel_rfl) (by decide)⟩
instance qHO:TField Tryz.prog 76 1 1 3:=⟨by kernel_rfl,kne (k:=1) (by kernel_rfl) (by decide)⟩
instance qLv:TLay Tryz.prog 76 [.str ByteArray.empty,.int .i64 0] [(0,1),(1,1)]:=⟨by kernel_rfl⟩
instance qLw:TZero Tryz.prog 76 (.agg [.str ByteArray.empty,.int .i64 0]):=⟨by kernel_rfl,rfl,by decide⟩
instance qLx:TSlice Tryz.prog 91 191 2:=⟨by kernel_rfl,by kernel_rfl,by decide⟩
instance qLy:TSlice Tryz.prog 99 113 3:=⟨by kernel_rfl,by kernel_rfl,by decide⟩
instance qIx:TSh Tryz.prog 102 .one:=⟨by kernel_rfl⟩
instance qIy:TSlice Tryz.prog 102 108 2:=⟨by kernel_rfl,by kernel_rfl,by decide⟩
instance qIz:TSh Tryz.prog 104 (.many 3):=⟨by kernel_rfl⟩
instance qIA:TCells Tryz.prog 104 3:=⟨by kernel_rfl,by decide⟩
instance qF2:TField Tryz.prog 104 0 0 9:=⟨by kernel_rfl,kne (k:=1) (by kernel_rfl) (by decide)⟩
instance qF3:TField Tryz.prog 104 2 2 102:=⟨by kernel_rfl,kne (k:=1) (by kernel_rfl) (by decide)⟩
instance qIB:TZero Tryz.prog 104 (.agg [.str ByteArray.empty,.int .i64 0,.nilsl]):=⟨by kernel_rfl,rfl,by decide⟩
instance qIC:TSh Tryz.prog 108 (.many 2):=⟨by kernel_rfl⟩
instance qID:TCells Tryz.prog 108 2:=⟨by kernel_rfl,by decide⟩
instance qF4:TField Tryz.prog 108 0 0 3:=⟨by kernel_rfl,kne (k:=1) (by kernel_rfl) (by decide)⟩
instance qF5:TField Tryz.prog 108 1 1 3:=⟨by kernel_rfl,kne (k:=1) (by kernel_rfl) (by decide)⟩
instance qIE:TLay Tryz.prog 108 [.int .i64 0,.int .i64 0] [(0,1),(1,1)]:=⟨by kernel_rfl⟩
instance qIF:TZero Tryz.prog 108 (.agg [.int .i64 0,.int .i64 0]):=⟨by kernel_rfl,rfl,by decide⟩
instance qIG:TSh Tryz.prog 110 (.many 7):=⟨by kernel_rfl⟩
instance qIH:TCells Tryz.prog 110 7:=⟨by kernel_rfl,by decide⟩
instance qF6:TField Tryz.prog 110 0 0 9:=⟨by kernel_rfl,kne (k:=1) (by kernel_rfl) (by decide)⟩
instance qF7:TField Tryz.prog 110 1 1 108:=⟨by kernel_rfl,kne (k:=2) (by kernel_rfl) (by decide)⟩
instance qF8:TField Tryz.prog 110 2 3 108:=⟨by kernel_rfl,kne (k:=2) (by kernel_rfl) (by decide)⟩
instance qF9:TField Tryz.prog 110 3 5 3:=⟨by kernel_rfl,kne (k:=1) (by kernel_rfl) (by decide)⟩
instance qGa:TField Tryz.prog 110 4 6 3:=⟨by kernel_rfl,kne (k:=1) (by kernel_rfl) (by decide)⟩
instance qII:TZero Tryz.prog 110 (.agg [.str ByteArray.empty,.int .i64 0,.int .i64 0,.int .i64 0,.int .i64 0,.int .i64 0,.int .i64 0]):=⟨by kernel_rfl,rfl,by decide⟩
instance qIJ:TSh Tryz.prog 113 (.many 3):=⟨by kernel_rfl⟩
instance qIK:TCells Tryz.prog 113 3:=⟨by kernel_rfl,by decide⟩
instance qGb:TField Tryz.prog 113 0 0 3:=⟨by kernel_rfl,kne (k:=1) (by kernel_rfl) (by decide)⟩
instance qGc:TField Tryz.prog 113 1 1 3:=⟨by kernel_rfl,kne (k:=1) (by kernel_rfl) (by decide)⟩
instance qIL:TLay Tryz.prog 113 [.int .i64 0,.int .i64 0,.int .i64 0] [(0,1),(1,1),(2,1)]:=⟨by kernel_rfl⟩
instance qIM:TZero Tryz.prog 113 (.agg [.int .i64 0,.int .i64 0,.int .i64 0]):=⟨by kernel_rfl,rfl,by decide⟩
instance qIN:TSlice Tryz.prog 123 128 2:=⟨by kernel_rfl,by kernel_rfl,by decide⟩
instance qIO:TSh Tryz.prog 128 (.many 2):=⟨by kernel_rfl⟩
instance qIP:TCells Tryz.prog 128 2:=⟨by kernel_rfl,by decide⟩
instance qGd:TField Tryz.prog 128 0 0 3:=⟨by kernel_rfl,kne (k:=1) (by kernel_rfl) (by decide)⟩
instance qGe:TField Tryz.prog 128 1 1 3:=⟨by kernel_rfl,kne (k:=1) (by kernel_rfl) (by decide)⟩
instance qIQ:TLay Tryz.prog 128 [.int .i64 0,.int .i64 0] [(0,1),(1,1)]:=⟨by kernel_rfl⟩
instance qIR:TZero Tryz.prog 128 (.agg [.int .i64 0,.int .i64 0]):=⟨by kernel_rfl,rfl,by decide⟩
instance qIS:TSh Tryz.prog 136 .one:=⟨by kernel_rfl⟩
instance qIT:TSlice Tryz.prog 136 220 2:=⟨by kernel_rfl,by kernel_rfl,by decide⟩
instance qIU:TSh Tryz.prog 138 (.many 4):=⟨by kernel_rfl⟩
instance qIV:TCells Tryz.prog 138 4:=⟨by kernel_rfl,by decide⟩
instance qGf:TField Tryz.prog 138 0 0 9:=⟨by kernel_rfl,kne (k:=1) (by kernel_rfl) (by decide)⟩
instance qGg:TField Tryz.prog 138 1 1 3:=⟨by kernel_rfl,kne (k:=1) (by kernel_rfl) (by decide)⟩
instance qGh:TField Tryz.prog 138 2 2 3:=⟨by kernel_rfl,kne (k:=1) (by kernel_rfl) (by decide)⟩
instance qGi:TField Tryz.prog 138 3 3 136:=⟨by kernel_rfl,kne (k:=1) (by kernel_rfl) (by decide)⟩
instance qIW:TZero Tryz.prog 138 (.agg [.str ByteArray.empty,.int .i64 0,.int .i64 0,.nilsl]):=⟨by kernel_rfl,rfl,by decide⟩
instance qIX:TSh Tryz.prog 139 .one:=⟨by kernel_rfl⟩
instance qIY:TSlice Tryz.prog 139 222 2:=⟨by kernel_rfl,by kernel_rfl,by decide⟩
instance qIZ:TSh Tryz.prog 141 (.many 4):=⟨by kernel_rfl⟩
instance qI0:TCells Tryz.prog 141 4:=⟨by kernel_rfl,by decide⟩
instance qGj:TField Tryz.prog 141 0 0 9:=⟨by kernel_rfl,kne (k:=1) (by kernel_rfl) (by decide)⟩
instance qGk:TField Tryz.prog 141 1 1 3:=⟨by kernel_rfl,kne (k:=1) (by kernel_rfl) (by decide)⟩
instance qGl:TField Tryz.prog 141 2 2 3:=⟨by kernel_rfl,kne (k:=1) (by kernel_rfl) (by decide)⟩
instance qGm:TField Tryz.prog 141 3 3 139:=⟨by kernel_rfl,kne (k:=1) (by kernel_rfl) (by decide)⟩
instance qI1:TZero Tryz.prog 141 (.agg [.str ByteArray.empty,.int .i64 0,.int .i64 0,.nilsl]):=⟨by kernel_rfl,rfl,by decide⟩
instance qI2:TSh Tryz.prog 146 (.many 3):=⟨by kernel_rfl⟩
instance qI3:TCells Tryz.prog 146 3:=⟨by kernel_rfl,by decide⟩
instance qGn:TField Tryz.prog 146 0 0 9:=⟨by kernel_rfl,kne (k:=1) (by kernel_rfl) (by decide)⟩
instance qGo:TField Tryz.prog 146 1 1 3:=⟨by kernel_rfl,kne (k:=1) (by kernel_rfl) (by decide)⟩
instance qGp:TField Tryz.prog 146 2 2 3:=⟨by kernel_rfl,kne (k:=1) (by kernel_rfl) (by decide)⟩
instance qI4:TLay Tryz.prog 146 [.str ByteArray.empty,.int .i64 0,.int .i64 0] [(0,1),(1,1),(2,1)]:=⟨by kernel_rfl⟩
instance qI5:TZero Tryz.prog 146 (.agg [.str ByteArray.empty,.int .i64 0,.int .i64 0]):=⟨by kernel_rfl,rfl,by decide⟩
instance qI6:TSh Tryz.prog 149 .one:=⟨by kernel_rfl⟩
instance qI7:TZero Tryz.prog 149 (.nilfunc):=⟨by kernel_rfl,rfl,by decide⟩
instance qI8:TSlice Tryz.prog 154 149 1:=⟨by kernel_rfl,by kernel_rfl,by decide⟩
instance qI9:TSh Tryz.prog 168 .one:=⟨by kernel_rfl⟩
instance qJa:TCells Tryz.prog 168 1:=⟨by kernel_rfl,by decide⟩
instance qJb:TZero Tryz.prog 168 (.nilptr):=⟨by kernel_rfl,rfl,by decide⟩
instance qJc:TSh Tryz.prog 173 .one:=⟨by kernel_rfl⟩
instance qJd:TCells Tryz.prog 173 1:=⟨by kernel_rfl,by decide⟩
instance qJe:TSlice Tryz.prog 173 188 1:=⟨by kernel_rfl,by kernel_rfl,by decide⟩
instance qGq:TField Tryz.prog 175 0 0 3:=⟨by kernel_rfl,kne (k:=1) (by kernel_rfl) (by decide)⟩
instance qGr:TField Tryz.prog 175 1 1 173:=⟨by kernel_rfl,kne (k:=1) (by kernel_rfl) (by decide)⟩
instance qGs:TField Tryz.prog 175 2 2 66:=⟨by kernel_rfl,kne (k:=1) (by kernel_rfl) (by decide)⟩
instance qJf:TLay Tryz.prog 175 [.int .i64 0,.nilsl,.nilsl] [(0,1),(1,1),(2,1)]:=⟨by kernel_rfl⟩
instance qJg:TSlice Tryz.prog 186 4 1:=⟨by kernel_rfl,by kernel_rfl,by decide⟩
instance qJh:TSh Tryz.prog 188 .one:=⟨by kernel_rfl⟩
instance qJi:TSlice Tryz.prog 188 42 1:=⟨by kernel_rfl,by kernel_rfl,by decide⟩
instance qJj:TZero Tryz.prog 188 (.nilsl):=⟨by kernel_rfl,rfl,by decide⟩
instance qJk:TSh Tryz.prog 191 (.many 2):=⟨by kernel_rfl⟩
instance qJl:TCells Tryz.prog 191 2:=⟨by kernel_rfl,by decide⟩
instance qGt:TField Tryz.prog 191 0 0 3:=⟨by kernel_rfl,kne (k:=1) (by kernel_rfl) (by decide)⟩
instance qGu:TField Tryz.prog 191 1 1 188:=⟨by kernel_rfl,kne (k:=1) (by kernel_rfl) (by decide)⟩
instance qJm:TLay Tryz.prog 191 [.int .i64 0,.nilsl] [(0,1),(1,1)]:=⟨by kernel_rfl⟩
instance qJn:TZero Tryz.prog 191 (.agg [.int .i64 0,.nilsl]):=⟨by kernel_rfl,rfl,by decide⟩
instance qGv:TField Tryz.prog 216 0 0 3:=⟨by kernel_rfl,kne (k:=1) (by kernel_rfl) (by decide)⟩
instance qGw:TField Tryz.prog 216 1 1 3:=⟨by kernel_rfl,kne (k:=1) (by kernel_rfl) (by decide)⟩
instance qJo:TSh Tryz.prog 218 (.many 5):=⟨by kernel_rfl⟩
instance qJp:TCells Tryz.prog 218 5:=⟨by kernel_rfl,by decide⟩
instance qGx:TField Tryz.prog 218 0 0 9:=⟨by kernel_rfl,kne (k:=1) (by kernel_rfl) (by decide)⟩
instance qGy:TField Tryz.prog 218 1 1 3:=⟨by kernel_rfl,kne (k:=1) (by kernel_rfl) (by decide)⟩
instance qGz:TField Tryz.prog 218 2 2 3:=⟨by kernel_rfl,kne (k:=1) (by kernel_rfl) (by decide)⟩
instance qGA:TField Tryz.prog 218 3 3 216:=⟨by kernel_rfl,kne (k:=2) (by kernel_rfl) (by decide)⟩
instance qJq:TZero Tryz.prog 218 (.agg [.str ByteArray.empty,.int .i64 0,.int .i64 0,.int .i64 0,.int .i64 0]):=⟨by kernel_rfl,rfl,by decide⟩
instance qJr:TSh Tryz.prog 220 (.many 2):=⟨by kernel_rfl⟩
instance qJs:TCells Tryz.prog 220 2:=⟨by kernel_rfl,by decide⟩
instance qGB:TField Tryz.prog 220 0 0 3:=⟨by kernel_rfl,kne (k:=1) (by kernel_rfl) (by decide)⟩
instance qGC:TField Tryz.prog 220 1 1 9:=⟨by kernel_rfl,kne (k:=1) (by kernel_rfl) (by decide)⟩
instance qJt:TZero Tryz.prog 220 (.agg [.int .i64 0,.str ByteArray.empty]):=⟨by kernel_rfl,rfl,by decide⟩
instance qJu:TSh Tryz.prog 222 (.many 2):=⟨by kernel_rfl⟩
instance qJv:TCells Tryz.prog 222 2:=⟨by kernel_rfl,by decide⟩
instance qGD:TField Tryz.prog 222 0 0 3:=⟨by kernel_rfl,kne (k:=1) (by kernel_rfl) (by decide)⟩
instance qGE:TField Tryz.prog 222 1 1 3:=⟨by kernel_rfl,kne (k:=1) (by kernel_rfl) (by decide)⟩
instance qJw:TZero Tryz.prog 222 (.agg [.int .i64 0,.int .i64 0]):=⟨by kernel_rfl,rfl,by decide⟩
instance qJx:TSh Tryz.prog 227 .one:=⟨by kernel_rfl⟩
instance qJy:TSh Tryz.prog 230 (.many 2):=⟨by kernel_rfl⟩
instance qGF:TField Tryz.prog 230 0 0 28:=⟨by kernel_rfl,kne (k:=2) (by kernel_rfl) (by decide)⟩
instance qJz:TLay Tryz.prog 230 [.nilsl,.nilsl] [(0,2)]:=⟨by kernel_rfl⟩
instance qJA:TCells Tryz.prog 248 2:=⟨by kernel_rfl,by decide⟩
instance qGG:TField Tryz.prog 248 0 0 42:=⟨by kernel_rfl,kne (k:=1) (by kernel_rfl) (by decide)⟩
instance qGH:TField Tryz.prog 248 1 1 3:=⟨by kernel_rfl,kne (k:=1) (by kernel_rfl) (by decide)⟩
instance qJB:TLay Tryz.prog 248 [.int .i64 0,.int .i64 0] [(0,1),(1,1)]:=⟨by kernel_rfl⟩
instance qJC:TZero Tryz.prog 248 (.agg [.int .i64 0,.int .i64 0]):=⟨by kernel_rfl,rfl,by decide⟩
instance qJD:TSh Tryz.prog 249 .one:=⟨by kernel_rfl⟩
instance qGI:TField Tryz.prog 252 0 0 34:=⟨by kernel_rfl,kne (k:=12) (by kernel_rfl) (by decide)⟩
instance qGJ:TField Tryz.prog 252 1 12 24:=⟨by kernel_rfl,kne (k:=6) (by kernel_rfl) (by decide)⟩
instance qGK:TField Tryz.prog 252 2 18 51:=⟨by kernel_rfl,kne (k:=8) (by kernel_rfl) (by decide)⟩
instance qGL:TField Tryz.prog 252 3 26 37:=⟨by kernel_rfl,kne (k:=8) (by kernel_rfl) (by decide)⟩
instance qGM:TField Tryz.prog 252 4 34 22:=⟨by kernel_rfl,kne (k:=1) (by kernel_rfl) (by decide)⟩
instance qGN:TField Tryz.prog 252 5 35 24:=⟨by kernel_rfl,kne (k:=6) (by kernel_rfl) (by decide)⟩
instance qGO:TField Tryz.prog 252 6 41 22:=⟨by kernel_rfl,kne (k:=1) (by kernel_rfl) (by decide)⟩
instance qGP:TField Tryz.prog 252 7 42 128:=⟨by kernel_rfl,kne (k:=2) (by kernel_rfl) (by decide)⟩
instance qJE:TLay Tryz.prog 252 [.int .i64 0,.int .i64 0,.int .i64 0,.int .i64 0,.int .i64 0,.nilsl,.nilsl,.nilsl,.nilsl,.nilsl,.nilsl,.nilsl,.int .i64 0,.int .i64 0,.int .i64 0,.int .i64 0,.int .i64 0,.nilsl,.str ByteArray.empty,.str ByteArray.empty,.int .i64 0,.int .i64 0,.int .i64 0,.int .i64 0,.int .i64 0,.int .i64 0,.str ByteArray.empty,.int .i64 0,.int .i64 0,.int .i64 0,.int .i64 0,.int .i64 0,.int .i64 0,.nilsl,.nilsl,.int .i64 0,.int .i64 0,.int .i64 0,.int .i64 0,.int .i64 0,.nilsl,.nilsl,.int .i64 0,.int .i64 0] [(0,12),(12,6),(18,8),(26,8),(34,1),(35,6),(41,1),(42,2)]:=⟨by kernel_rfl⟩
instance qJF:TSlice Tryz.prog 253 256 3:=⟨by kernel_rfl,by kernel_rfl,by decide⟩
instance qJG:TSh Tryz.prog 256 (.many 3):=⟨by kernel_rfl⟩
instance qJH:TCells Tryz.prog 256 3:=⟨by kernel_rfl,by decide⟩
instance qGQ:TField Tryz.prog 256 0 0 9:=⟨by kernel_rfl,kne (k:=1) (by kernel_rfl) (by decide)⟩
instance qGR:TField Tryz.prog 256 1 1 3:=⟨by kernel_rfl,kne (k:=1) (by kernel_rfl) (by decide)⟩
instance qGS:TField Tryz.prog 256 2 2 3:=⟨by kernel_rfl,kne (k:=1) (by kernel_rfl) (by decide)⟩
instance qJI:TLay Tryz.prog 256 [.str ByteArray.empty,.int .i64 0,.int .i64 0] [(0,1),(1,1),(2,1)]:=⟨by kernel_rfl⟩
instance qJJ:TZero Tryz.prog 256 (.agg [.str ByteArray.empty,.int .i64 0,.int .i64 0]):=⟨by kernel_rfl,rfl,by decide⟩
instance qJK:TSh Tryz.prog 257 (.many 2):=⟨by kernel_rfl⟩
instance qJL:TCells Tryz.prog 257 2:=⟨by kernel_rfl,by decide⟩
instance qGT:TField Tryz.prog 257 0 0 3:=⟨by kernel_rfl,kne (k:=1) (by kernel_rfl) (by decide)⟩
instance qGU:TField Tryz.prog 257 1 1 3:=⟨by kernel_rfl,kne (k:=1) (by kernel_rfl) (by decide)⟩
instance qJM:TLay Tryz.prog 257 [.int .i64 0,.int .i64 0] [(0,1),(1,1)]:=⟨by kernel_rfl⟩
instance qJN:TZero Tryz.prog 257 (.agg [.int .i64 0,.int .i64 0]):=⟨by kernel_rfl,rfl,by decide⟩
instance qJO:TSh Tryz.prog 259 (.many 2):=⟨by kernel_rfl⟩
instance qJP:TCells Tryz.prog 259 2:=⟨by kernel_rfl,by decide⟩
instance qGV:TField Tryz.prog 259 0 0 3:=⟨by kernel_rfl,kne (k:=1) (by kernel_rfl) (by decide)⟩
instance qGW:TField Tryz.prog 259 1 1 3:=⟨by kernel_rfl,kne (k:=1) (by kernel_rfl) (by decide)⟩
instance qJQ:TLay Tryz.prog 259 [.int .i64 0,.int .i64 0] [(0,1),(1,1)]:=⟨by kernel_rfl⟩
instance qJR:TZero Tryz.prog 259 (.agg [.int .i64 0,.int .i64 0]):=⟨by kernel_rfl,rfl,by decide⟩
instance qJS:TSh Tryz.prog 281 (.many 7):=⟨by kernel_rfl⟩
instance qJT:TCells Tryz.prog 281 7:=⟨by kernel_rfl,by decide⟩
instance qGX:TField Tryz.prog 281 0 0 24:=⟨by kernel_rfl,kne (k:=6) (by kernel_rfl) (by decide)⟩
instance qGY:TField Tryz.prog 281 1 6 22:=⟨by kernel_rfl,kne (k:=1) (by kernel_rfl) (by decide)⟩
instance qJU:TLay Tryz.prog 281 [.int .i64 0,.int .i64 0,.int .i64 0,.int .i64 0,.int .i64 0,.nilsl,.nilsl] [(0,6),(6,1)]:=⟨by kernel_rfl⟩
instance qJV:TZero Tryz.prog 281 (.agg [.int .i64 0,.int .i64 0,.int .i64 0,.int .i64 0,.int .i64 0,.nilsl,.nilsl]):=⟨by kernel_rfl,rfl,by decide⟩
instance qJW:TSh Tryz.prog 287 .one:=⟨by kernel_rfl⟩
instance qJX:TSh Tryz.prog 292 .one:=⟨by kernel_rfl⟩
instance qJY:TSh Tryz.prog 294 (.many 2):=⟨by kernel_rfl⟩
instance qJZ:TCells Tryz.prog 294 2:=⟨by kernel_rfl,by decide⟩
instance qGZ:TField Tryz.prog 294 0 0 42:=⟨by kernel_rfl,kne (k:=1) (by kernel_rfl) (by decide)⟩
instance qG0:TField Tryz.prog 294 1 1 292:=⟨by kernel_rfl,kne (k:=1) (by kernel_rfl) (by decide)⟩
instance qJ0:TLay Tryz.prog 294 [.int .i64 0,.nilfunc] [(0,1),(1,1)]:=⟨by kernel_rfl⟩
instance qJ1:TZero Tryz.prog 294 (.agg [.int .i64 0,.nilfunc]):=⟨by kernel_rfl,rfl,by decide⟩
instance qJ2:TCells Tryz.prog 295 8:=⟨by kernel_rfl,by decide⟩
instance qJ3:TZero Tryz.prog 295 (.agg [.int .i64 0,.nilfunc,.int .i64 0,.nilfunc,.int .i64 0,.nilfunc,.int .i64 0,.nilfunc]):=⟨by kernel_rfl,rfl,by decide⟩
instance qJ4:TSh Tryz.prog 317 (.many 8):=⟨by kernel_rfl⟩
instance qJ5:TCells Tryz.prog 317 8:=⟨by kernel_rfl,by decide⟩
instance qJ6:TZero Tryz.prog 317 (.agg [.int .i64 0,.int .i64 0,.int .i64 0,.int .i64 0,.int .i64 0,.int .i64 0,.int .i64 0,.int .i64 0]):=⟨by kernel_rfl,rfl,by decide⟩
instance qJ7:TSlice Tryz.prog 320 24 6:=⟨by kernel_rfl,by kernel_rfl,by decide⟩
instance qLz:TArr Tryz.prog 60 2 1:=⟨5,by kernel_rfl,by kernel_rfl,by decide⟩
instance qJ8:TEq Tryz.prog 108 [.i,.i]:=⟨by kernel_rfl⟩
instance qJ9:TEq Tryz.prog 128 [.i,.i]:=⟨by kernel_rfl⟩
instance qKa:TArrE Tryz.prog 295 4 294 2:=⟨by kernel_rfl,by kernel_rfl,by decide⟩
instance qKb:TLay Tryz.prog 295 [.int .i64 0,.nilfunc,.int .i64 0,.nilfunc,.int .i64 0,.nilfunc,.int .i64 0,.nilfunc] [(0,2),(2,2),(4,2),(6,2)]:=⟨by kernel_rfl⟩
instance qKc:TArr Tryz.prog 317 4 2:=⟨108,by kernel_rfl,by kernel_rfl,by decide⟩
instance qKd:TArrE Tryz.prog 317 4 108 2:=⟨by kernel_rfl,by kernel_rfl,by decide⟩
instance tly317:TLay Tryz.prog 317 [.int .i64 0,.int .i64 0,.int .i64 0,.int .i64 0,.int .i64 0,.int .i64 0,.int .i64 0,.int .i64 0] [(0,2),(2,2),(4,2),(6,2)]:=⟨by kernel_rfl⟩
end Go.Pv.Tf
set_option maxHeartbeats 8000000
set_option maxRecDepth 100000
set_option linter.unusedSimpArgs false
set_option linter.unusedVariables false
namespace Go.Pv.Soil
theorem mix:Tryz.prog.follows .mixedOrders=true:=by decide +kernel
theorem c38(n lo hi:Int):Contract Tryz.prog 84 [.int .i64 n,.int .i64 lo,.int .i64 hi] (.ret (.bool (decide (lo≤n∧n≤hi)))):=by
 refine zT mix Tryz.func84 Tryz.ntmps84 Tryz.results84 rfl rfl rfl ?_;simp only[qab,Nat.reduceAdd]
 repeat'(first|refine zQ ?_|(refine zG ?_ ?_<;>first|intro h|simp)|refine zE ?_|fail)
 all_goals (simp at *;try omega)
theorem qD3(n lo hi:Int):Contract Tryz.prog 212 [.int .i64 n,.int .i64 lo,.int .i64 hi] (.ret (.bool (decide (lo≤n∧n≤hi)))):=by
 refine zT mix Tryz.func212 Tryz.ntmps212 Tryz.results212 rfl rfl rfl ?_;simp only[qab,Nat.reduceAdd]
 repeat'(first|refine zQ ?_|(refine zG ?_ ?_<;>first|intro h|simp)|refine zE ?_|fail)
 all_goals (simp at *;try omega)
def qf3(c:Int):Bool:=decide ((97≤c∧c≤122)∨(65≤c∧c≤90))
def qj4(i:Nat)(c:Int):Bool:=qf3 c||(decide (i≠0)&&decide (c=45∨(48≤c∧c≤57)))
def qaZ(s:ByteArray):Bool:=decide (1≤s.size∧s.size≤12)&&(List.range s.size).all fun i=>qj4 i (qdu s i)
theorem qc7{s:ByteArray}(h:s.size<1∨12<s.size):false=qaZ s:=by
 have:decide (1≤s.size∧s.size≤12)=false:=by simp;omega
 simp only[qaZ,this,Bool.false_and]
theorem qes{s:ByteArray}{i:Nat}(hi:i<s.size)(h:qj4 i (qdu s i)=false):false=qaZ s:=by
 have:((List.range s.size).all fun i=>qj4 i (qdu s i))=false:=by
  rw[List.all_eq_false]
  exact⟨i,by simpa using hi,by simp[h]⟩
 simp only[qaZ,this,Bool.and_false]
theorem qgP{s:ByteArray}(h1:¬s.size<1)(h2:¬12<s.size)(h:∀j,j<s.size→qj4 j (qdu s j)=true):true=qaZ s:=by
 have e:((List.range s.size).all fun i=>qj4 i (qdu s i))=true:=by
  rw[List.all_eq_true]
  exact fun j hj=>h j (by simpa using hj)
 have e2:decide (1≤s.size∧s.size≤12)=true:=by simp;omega
 simp only[qaZ,e,e2,Bool.and_true]
theorem qfo{s:ByteArray}{i:Nat}(hC:∀j,j<i→qj4 j (qdu s j)=true)(h:qj4 i (qdu s i)=true):∀j,j<i+1→qj4 j (qdu s j)=true:=fun j hj=>by
 rcases Nat.lt_succ_iff_lt_or_eq.1 hj with h'|rfl
 ·exact hC j h'
 ·exact h
theorem qsy{i:Nat}{c:Int}(h:((97≤c∧c≤122)∨(65≤c∧c≤90))∨(i≠0∧(c=45∨(48≤c∧c≤57)))):qj4 i c=true:=by
 simpa only[qj4,qf3,Bool.or_eq_true,Bool.and_eq_true,decide_eq_true_eq]using h
theorem qq9{i:Nat}{c:Int}(h:¬(((97≤c∧c≤122)∨(65≤c∧c≤90))∨(i≠0∧(c=45∨(48≤c∧c≤57))))):qj4 i c=false:=by
 rw[←Bool.not_eq_true]
 simpa only[qj4,qf3,Bool.or_eq_true,Bool.and_eq_true,decide_eq_true_eq]using h
theorem qHP(s:ByteArray):Contract Tryz.prog 223 [.str s] (.ret (.bool (qaZ s))):=by
 refine zT mix Tryz.func223 Tryz.ntmps223 Tryz.results223 rfl rfl rfl ?_;simp only[qab,Nat.reduceAdd]
 repeat'(first|refine zQ ?_|(refine zC ?_ ?_<;>first|intro h|simp)|(refine zG ?_ ?_<;>first|intro h|simp)|refine zE ?_|fail)
 ·exact qc7 (by omega)
 rotate_left
 ·exact qc7 (by omega)
 ·refine qad s.size (fun i=>⟨[(16,.int .i64 i),(15,.int .i64 s.size),(0,.str s)],[],0,55⟩) (fun i=>∀j,j<i→qj4 j (qdu s j)=true) (qaa (k:=0) (ns:=[]) (ks:=[16,15,0]) [] rfl (by simp) rfl) (by omega) ?_
  intro i hi hC
  repeat'(first|refine zQ ?_|(refine zC ?_ ?_<;>first|intro h|simp)|(refine zG ?_ ?_<;>first|intro h|simp)|refine zE ?_|fail)
  all_goals try simp only[Int.toNat_natCast]at*
  all_goals first
   |exact qes (i:=i) (by omega) (qq9 (by omega))
   |exact⟨by omega,qfo hC (qsy (by omega)),qaa (k:=0) (ns:=[]) (ks:=[16,15,0]) [] rfl (by simp) rfl⟩
   |exact qgP (by omega) (by omega) fun j hj=>hC j (by omega)
theorem c83(s:ByteArray):Contract Tryz.prog 83 [.str s] (.ret (.bool (qaZ s))):=by
 refine zT mix Tryz.func83 Tryz.ntmps83 Tryz.results83 rfl rfl rfl ?_;simp only[qab,Nat.reduceAdd]
 repeat'(first|refine zQ ?_|(refine zC ?_ ?_<;>first|intro h|simp)|(refine zG ?_ ?_<;>first|intro h|simp)|refine zE ?_|fail)
 ·exact qc7 (by omega)
 rotate_left
 ·exact qc7 (by omega)
 ·refine qad s.size (fun i=>⟨[(3,.int .i64 i),(0,.str s)],[],0,55⟩) (fun i=>∀j,j<i→qj4 j (qdu s j)=true) (qaa (k:=0) (ns:=[]) (ks:=[3,0]) [] rfl (by simp) rfl) (by omega) ?_
  intro i hi hC
  repeat'(first|refine zQ ?_|(refine zC ?_ ?_<;>first|intro h|simp)|(refine zG ?_ ?_<;>first|intro h|simp)|refine zE ?_|fail)
  all_goals try simp only[Int.toNat_natCast]at*
  all_goals first
   |exact qes (i:=i) (by omega) (qq9 (by omega))
   |exact⟨by omega,qfo hC (qsy (by omega)),qaa (k:=0) (ns:=[]) (ks:=[3,0]) [] rfl (by simp) rfl⟩
   |exact qgP (by omega) (by omega) fun j hj=>hC j (by omega)
end Go.Pv.Soil
