import Derived.Test.YtmhfeehkpndadaaGreatQC
import Derived.Test.YtmhfeehkpndadaaGreatProg
import Derived.KernelRfl
set_option linter.unusedSimpArgs false
set_option linter.unusedVariables false
namespace Go.Proofs.YtmhfeehkpndadaaGreat
open Go.PF
theorem mixed : Tryz.prog.follows .mixedOrders = true := by kernel_rfl
theorem one3 : one Tryz.prog 3 = true := by kernel_rfl
theorem sz3 : (Tryz.prog.info? 3).map (·.size) = some 1 := by kernel_rfl
theorem zc3 : zeroCells Tryz.prog 3 = some [.int .i64 0] := by kernel_rfl
theorem ze3 : (Tryz.prog.info? 3).bind (·.zero) = some (.int .i64 0) := by kernel_rfl
theorem one4 : one Tryz.prog 4 = true := by kernel_rfl
theorem sz4 : (Tryz.prog.info? 4).map (·.size) = some 1 := by kernel_rfl
theorem zc4 : zeroCells Tryz.prog 4 = some [.bool false] := by kernel_rfl
theorem ze4 : (Tryz.prog.info? 4).bind (·.zero) = some (.bool false) := by kernel_rfl
theorem one22 : one Tryz.prog 22 = true := by kernel_rfl
theorem sz22 : (Tryz.prog.info? 22).map (·.size) = some 1 := by kernel_rfl
theorem zc22 : zeroCells Tryz.prog 22 = some [.slice none 0 0] := by kernel_rfl
theorem eo22 : elemOK Tryz.prog 22 24 1 = true := by kernel_rfl
theorem go22 : growOK Tryz.prog 22 24 1 24 = true := by kernel_rfl
theorem one23 : one Tryz.prog 23 = true := by kernel_rfl
theorem eo23 : elemOK Tryz.prog 23 43 4 = true := by kernel_rfl
theorem go23 : growOK Tryz.prog 23 43 4 48 = true := by kernel_rfl
theorem one24 : one Tryz.prog 24 = true := by kernel_rfl
theorem sz24 : (Tryz.prog.info? 24).map (·.size) = some 1 := by kernel_rfl
theorem zc24 : zeroCells Tryz.prog 24 = some [.slice none 0 0] := by kernel_rfl
theorem eo24 : elemOK Tryz.prog 24 3 1 = true := by kernel_rfl
theorem go24 : growOK Tryz.prog 24 3 1 8 = true := by kernel_rfl
theorem sz43 : (Tryz.prog.info? 43).map (·.size) = some 4 := by kernel_rfl
theorem zc43 : zeroCells Tryz.prog 43 = some [.int .i64 0, .int .i64 0, .int .i64 0, .slice none 0 0] := by kernel_rfl
theorem fo43_0 : fieldOff Tryz.prog 43 0 = some 0 := by kernel_rfl
theorem fo43_1 : fieldOff Tryz.prog 43 1 = some 1 := by kernel_rfl
theorem fo43_2 : fieldOff Tryz.prog 43 2 = some 2 := by kernel_rfl
theorem fo43_3 : fieldOff Tryz.prog 43 3 = some 3 := by kernel_rfl
theorem one48 : one Tryz.prog 48 = true := by kernel_rfl
theorem one57 : one Tryz.prog 57 = true := by kernel_rfl
theorem one63 : one Tryz.prog 63 = true := by kernel_rfl
theorem eo63 : elemOK Tryz.prog 63 76 1 = true := by kernel_rfl
theorem go63 : growOK Tryz.prog 63 76 1 16 = true := by kernel_rfl
theorem one67 : one Tryz.prog 67 = true := by kernel_rfl
theorem sz67 : (Tryz.prog.info? 67).map (·.size) = some 1 := by kernel_rfl
theorem go67 : growOK Tryz.prog 67 71 1 4 = true := by kernel_rfl
theorem fo69_0 : fieldOff Tryz.prog 69 0 = some 0 := by kernel_rfl
theorem fo69_1 : fieldOff Tryz.prog 69 1 = some 1 := by kernel_rfl
theorem fo69_2 : fieldOff Tryz.prog 69 2 = some 2 := by kernel_rfl
theorem one71 : one Tryz.prog 71 = true := by kernel_rfl
theorem sz71 : (Tryz.prog.info? 71).map (·.size) = some 1 := by kernel_rfl
theorem ze71 : (Tryz.prog.info? 71).bind (·.zero) = some (.int .u32 0) := by kernel_rfl
theorem sz73 : (Tryz.prog.info? 73).map (·.size) = some 2 := by kernel_rfl
theorem zc73 : zeroCells Tryz.prog 73 = some [.int .u32 0, .int .i64 0] := by kernel_rfl
theorem fo73_0 : fieldOff Tryz.prog 73 0 = some 0 := by kernel_rfl
theorem fo73_1 : fieldOff Tryz.prog 73 1 = some 1 := by kernel_rfl
theorem one76 : one Tryz.prog 76 = true := by kernel_rfl
theorem sz76 : (Tryz.prog.info? 76).map (·.size) = some 1 := by kernel_rfl
theorem one80 : one Tryz.prog 80 = true := by kernel_rfl
theorem sz80 : (Tryz.prog.info? 80).map (·.size) = some 1 := by kernel_rfl
theorem zc80 : zeroCells Tryz.prog 80 = some [.map none] := by kernel_rfl
theorem one94 : one Tryz.prog 94 = true := by kernel_rfl
theorem sz97 : (Tryz.prog.info? 97).map (·.size) = some 1 := by kernel_rfl
theorem zc97 : zeroCells Tryz.prog 97 = some [.slice none 0 0] := by kernel_rfl
theorem go97 : growOK Tryz.prog 97 4 1 1 = true := by kernel_rfl
theorem fo103_0 : fieldOff Tryz.prog 103 0 = some 0 := by kernel_rfl
theorem fo103_1 : fieldOff Tryz.prog 103 1 = some 1 := by kernel_rfl
theorem sz111 : (Tryz.prog.info? 111).map (·.size) = some 3 := by kernel_rfl
theorem zc111 : zeroCells Tryz.prog 111 = some [.int .i64 0, .int .i64 0, .int .i64 0] := by kernel_rfl
theorem fo111_0 : fieldOff Tryz.prog 111 0 = some 0 := by kernel_rfl
theorem fo111_1 : fieldOff Tryz.prog 111 1 = some 1 := by kernel_rfl
theorem fo111_2 : fieldOff Tryz.prog 111 2 = some 2 := by kernel_rfl
theorem eo113 : elemOK Tryz.prog 113 73 2 = true := by kernel_rfl
theorem go113 : growOK Tryz.prog 113 73 2 16 = true := by kernel_rfl
theorem eo131 : elemOK Tryz.prog 131 136 7 = true := by kernel_rfl
theorem go131 : growOK Tryz.prog 131 136 7 56 = true := by kernel_rfl
theorem eo134 : elemOK Tryz.prog 134 139 4 = true := by kernel_rfl
theorem go134 : growOK Tryz.prog 134 139 4 32 = true := by kernel_rfl
theorem sz136 : (Tryz.prog.info? 136).map (·.size) = some 7 := by kernel_rfl
theorem zc136 : zeroCells Tryz.prog 136 = some [.int .i64 0, .int .i64 0, .int .i64 0, .int .i64 0, .int .i64 0, .int .i64 0, .int .i64 0] := by kernel_rfl
theorem fo136_0 : fieldOff Tryz.prog 136 0 = some 0 := by kernel_rfl
theorem fo136_1 : fieldOff Tryz.prog 136 1 = some 1 := by kernel_rfl
theorem fo136_2 : fieldOff Tryz.prog 136 2 = some 2 := by kernel_rfl
theorem fo136_3 : fieldOff Tryz.prog 136 3 = some 3 := by kernel_rfl
theorem fo136_4 : fieldOff Tryz.prog 136 4 = some 4 := by kernel_rfl
theorem fo136_5 : fieldOff Tryz.prog 136 5 = some 5 := by kernel_rfl
theorem fo136_6 : fieldOff Tryz.prog 136 6 = some 6 := by kernel_rfl
theorem sz139 : (Tryz.prog.info? 139).map (·.size) = some 4 := by kernel_rfl
theorem zc139 : zeroCells Tryz.prog 139 = some [.int .i64 0, .int .i64 0, .int .i64 0, .int .i64 0] := by kernel_rfl
theorem fo139_0 : fieldOff Tryz.prog 139 0 = some 0 := by kernel_rfl
theorem fo139_1 : fieldOff Tryz.prog 139 1 = some 1 := by kernel_rfl
theorem fo139_2 : fieldOff Tryz.prog 139 2 = some 2 := by kernel_rfl
theorem fo139_3 : fieldOff Tryz.prog 139 3 = some 3 := by kernel_rfl
theorem en11 : enters Tryz.prog 11 = true := by kernel_rfl
theorem en12 : enters Tryz.prog 12 = true := by kernel_rfl
theorem en13 : enters Tryz.prog 13 = true := by kernel_rfl
theorem en14 : enters Tryz.prog 14 = true := by kernel_rfl
theorem en15 : enters Tryz.prog 15 = true := by kernel_rfl
theorem en16 : enters Tryz.prog 16 = true := by kernel_rfl
theorem en17 : enters Tryz.prog 17 = true := by kernel_rfl
theorem en18 : enters Tryz.prog 18 = true := by kernel_rfl
theorem en19 : enters Tryz.prog 19 = true := by kernel_rfl
theorem en20 : enters Tryz.prog 20 = true := by kernel_rfl
theorem en21 : enters Tryz.prog 21 = true := by kernel_rfl
theorem en22 : enters Tryz.prog 22 = true := by kernel_rfl
theorem en23 : enters Tryz.prog 23 = true := by kernel_rfl
theorem en24 : enters Tryz.prog 24 = true := by kernel_rfl
theorem en25 : enters Tryz.prog 25 = true := by kernel_rfl
theorem en26 : enters Tryz.prog 26 = true := by kernel_rfl
theorem en27 : enters Tryz.prog 27 = true := by kernel_rfl
theorem en28 : enters Tryz.prog 28 = true := by kernel_rfl
theorem en29 : enters Tryz.prog 29 = true := by kernel_rfl
theorem en30 : enters Tryz.prog 30 = true := by kernel_rfl
theorem en31 : enters Tryz.prog 31 = true := by kernel_rfl
theorem en32 : enters Tryz.prog 32 = true := by kernel_rfl
theorem en33 : enters Tryz.prog 33 = true := by kernel_rfl
theorem en34 : enters Tryz.prog 34 = true := by kernel_rfl
theorem en35 : enters Tryz.prog 35 = true := by kernel_rfl
theorem en36 : enters Tryz.prog 36 = true := by kernel_rfl
theorem en37 : enters Tryz.prog 37 = true := by kernel_rfl
theorem en38 : enters Tryz.prog 38 = true := by kernel_rfl
theorem en39 : enters Tryz.prog 39 = true := by kernel_rfl
theorem en40 : enters Tryz.prog 40 = true := by kernel_rfl
theorem en41 : enters Tryz.prog 41 = true := by kernel_rfl
theorem en42 : enters Tryz.prog 42 = true := by kernel_rfl
theorem en43 : enters Tryz.prog 43 = true := by kernel_rfl
theorem en44 : enters Tryz.prog 44 = true := by kernel_rfl
theorem en45 : enters Tryz.prog 45 = true := by kernel_rfl
theorem en46 : enters Tryz.prog 46 = true := by kernel_rfl
theorem en47 : enters Tryz.prog 47 = true := by kernel_rfl
theorem en48 : enters Tryz.prog 48 = true := by kernel_rfl
theorem en49 : enters Tryz.prog 49 = true := by kernel_rfl
theorem en50 : enters Tryz.prog 50 = true := by kernel_rfl
theorem en51 : enters Tryz.prog 51 = true := by kernel_rfl
theorem en52 : enters Tryz.prog 52 = true := by kernel_rfl
theorem en53 : enters Tryz.prog 53 = true := by kernel_rfl
theorem en54 : enters Tryz.prog 54 = true := by kernel_rfl
theorem en55 : enters Tryz.prog 55 = true := by kernel_rfl
theorem en56 : enters Tryz.prog 56 = true := by kernel_rfl
theorem en57 : enters Tryz.prog 57 = true := by kernel_rfl
theorem en58 : enters Tryz.prog 58 = true := by kernel_rfl
theorem en59 : enters Tryz.prog 59 = true := by kernel_rfl
theorem en60 : enters Tryz.prog 60 = true := by kernel_rfl
theorem en61 : enters Tryz.prog 61 = true := by kernel_rfl
theorem en62 : enters Tryz.prog 62 = true := by kernel_rfl
theorem en63 : enters Tryz.prog 63 = true := by kernel_rfl
theorem en64 : enters Tryz.prog 64 = true := by kernel_rfl
theorem en65 : enters Tryz.prog 65 = true := by kernel_rfl
theorem en66 : enters Tryz.prog 66 = true := by kernel_rfl
theorem en69 : enters Tryz.prog 69 = true := by kernel_rfl
theorem en70 : enters Tryz.prog 70 = true := by kernel_rfl
theorem en71 : enters Tryz.prog 71 = true := by kernel_rfl
theorem en72 : enters Tryz.prog 72 = true := by kernel_rfl
theorem en73 : enters Tryz.prog 73 = true := by kernel_rfl
theorem en74 : enters Tryz.prog 74 = true := by kernel_rfl
theorem en75 : enters Tryz.prog 75 = true := by kernel_rfl
theorem en76 : enters Tryz.prog 76 = true := by kernel_rfl
theorem en78 : enters Tryz.prog 78 = true := by kernel_rfl
theorem en79 : enters Tryz.prog 79 = true := by kernel_rfl
theorem en80 : enters Tryz.prog 80 = true := by kernel_rfl
theorem en81 : enters Tryz.prog 81 = true := by kernel_rfl
theorem en82 : enters Tryz.prog 82 = true := by kernel_rfl
theorem en83 : enters Tryz.prog 83 = true := by kernel_rfl
theorem en85 : enters Tryz.prog 85 = true := by kernel_rfl
theorem en86 : enters Tryz.prog 86 = true := by kernel_rfl
theorem en87 : enters Tryz.prog 87 = true := by kernel_rfl
theorem en90 : enters Tryz.prog 90 = true := by kernel_rfl
theorem en91 : enters Tryz.prog 91 = true := by kernel_rfl
theorem en92 : enters Tryz.prog 92 = true := by kernel_rfl
theorem en93 : enters Tryz.prog 93 = true := by kernel_rfl
theorem en94 : enters Tryz.prog 94 = true := by kernel_rfl
theorem en95 : enters Tryz.prog 95 = true := by kernel_rfl
theorem en96 : enters Tryz.prog 96 = true := by kernel_rfl
theorem en107 : enters Tryz.prog 107 = true := by kernel_rfl
theorem en108 : enters Tryz.prog 108 = true := by kernel_rfl
theorem en109 : enters Tryz.prog 109 = true := by kernel_rfl
theorem en110 : enters Tryz.prog 110 = true := by kernel_rfl
theorem en111 : enters Tryz.prog 111 = true := by kernel_rfl
theorem en118 : enters Tryz.prog 118 = true := by kernel_rfl
theorem en119 : enters Tryz.prog 119 = true := by kernel_rfl
theorem en120 : enters Tryz.prog 120 = true := by kernel_rfl
theorem en144 : enters Tryz.prog 144 = true := by kernel_rfl
end Go.Proofs.YtmhfeehkpndadaaGreat
