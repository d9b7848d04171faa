import Derived.Test.YthjcgmjcpmodlaaDoorQC
import Derived.Test.YthjcgmjcpmodlaaDoorProg
import Derived.KernelRfl
set_option linter.unusedSimpArgs false
set_option linter.unusedVariables false
namespace Go.Proofs.YthjcgmjcpmodlaaDoor
open Go.PF
theorem mixed : Tryd.prog.follows .mixedOrders = true := by kernel_rfl
theorem one3 : one Tryd.prog 3 = true := by kernel_rfl
theorem sz3 : (Tryd.prog.info? 3).map (·.size) = some 1 := by kernel_rfl
theorem ze4 : (Tryd.prog.info? 4).bind (·.zero) = some (.bool false) := by kernel_rfl
theorem one9 : one Tryd.prog 9 = true := by kernel_rfl
theorem sz9 : (Tryd.prog.info? 9).map (·.size) = some 1 := by kernel_rfl
theorem one22 : one Tryd.prog 22 = true := by kernel_rfl
theorem eo22 : elemOK Tryd.prog 22 50 3 = true := by kernel_rfl
theorem one23 : one Tryd.prog 23 = true := by kernel_rfl
theorem eo23 : elemOK Tryd.prog 23 35 6 = true := by kernel_rfl
theorem go23 : growOK Tryd.prog 23 35 6 72 = true := by kernel_rfl
theorem one26 : one Tryd.prog 26 = true := by kernel_rfl
theorem sz26 : (Tryd.prog.info? 26).map (·.size) = some 1 := by kernel_rfl
theorem eo26 : elemOK Tryd.prog 26 31 4 = true := by kernel_rfl
theorem go26 : growOK Tryd.prog 26 31 4 48 = true := by kernel_rfl
theorem one29 : one Tryd.prog 29 = true := by kernel_rfl
theorem sz29 : (Tryd.prog.info? 29).map (·.size) = some 1 := by kernel_rfl
theorem eo29 : elemOK Tryd.prog 29 3 1 = true := by kernel_rfl
theorem go29 : growOK Tryd.prog 29 3 1 8 = true := by kernel_rfl
theorem ze29 : (Tryd.prog.info? 29).bind (·.zero) = some (.slice none 0 0) := by kernel_rfl
theorem sz31 : (Tryd.prog.info? 31).map (·.size) = some 4 := by kernel_rfl
theorem zc31 : zeroCells Tryd.prog 31 = some [.int .i64 0, .int .i64 0, .int .i64 0, .slice none 0 0] := by kernel_rfl
theorem fo31_0 : fieldOff Tryd.prog 31 0 = some 0 := by kernel_rfl
theorem fo31_1 : fieldOff Tryd.prog 31 1 = some 1 := by kernel_rfl
theorem fo31_2 : fieldOff Tryd.prog 31 2 = some 2 := by kernel_rfl
theorem fo31_3 : fieldOff Tryd.prog 31 3 = some 3 := by kernel_rfl
theorem one33 : one Tryd.prog 33 = true := by kernel_rfl
theorem eo33 : elemOK Tryd.prog 33 9 1 = true := by kernel_rfl
theorem go33 : growOK Tryd.prog 33 9 1 16 = true := by kernel_rfl
theorem sz35 : (Tryd.prog.info? 35).map (·.size) = some 6 := by kernel_rfl
theorem zc35 : zeroCells Tryd.prog 35 = some [.int .i64 0, .int .i64 0, .int .i64 0, .int .i64 0, .string ByteArray.empty, .slice none 0 0] := by kernel_rfl
theorem fo35_0 : fieldOff Tryd.prog 35 0 = some 0 := by kernel_rfl
theorem fo35_1 : fieldOff Tryd.prog 35 1 = some 1 := by kernel_rfl
theorem fo35_2 : fieldOff Tryd.prog 35 2 = some 2 := by kernel_rfl
theorem fo35_3 : fieldOff Tryd.prog 35 3 = some 3 := by kernel_rfl
theorem fo35_4 : fieldOff Tryd.prog 35 4 = some 4 := by kernel_rfl
theorem fo35_5 : fieldOff Tryd.prog 35 5 = some 5 := by kernel_rfl
theorem one46 : one Tryd.prog 46 = true := by kernel_rfl
theorem sz50 : (Tryd.prog.info? 50).map (·.size) = some 3 := by kernel_rfl
theorem zc50 : zeroCells Tryd.prog 50 = some [.int .i64 0, .int .i64 0, .int .i64 0] := by kernel_rfl
theorem fo50_0 : fieldOff Tryd.prog 50 0 = some 0 := by kernel_rfl
theorem fo50_1 : fieldOff Tryd.prog 50 1 = some 1 := by kernel_rfl
theorem fo50_2 : fieldOff Tryd.prog 50 2 = some 2 := by kernel_rfl
theorem one55 : one Tryd.prog 55 = true := by kernel_rfl
theorem fo57_0 : fieldOff Tryd.prog 57 0 = some 0 := by kernel_rfl
theorem fo57_1 : fieldOff Tryd.prog 57 1 = some 1 := by kernel_rfl
theorem fo57_2 : fieldOff Tryd.prog 57 2 = some 2 := by kernel_rfl
theorem fo57_3 : fieldOff Tryd.prog 57 3 = some 3 := by kernel_rfl
theorem one58 : one Tryd.prog 58 = true := by kernel_rfl
theorem sz58 : (Tryd.prog.info? 58).map (·.size) = some 1 := by kernel_rfl
theorem zc58 : zeroCells Tryd.prog 58 = some [.map none] := by kernel_rfl
theorem one59 : one Tryd.prog 59 = true := by kernel_rfl
theorem sz59 : (Tryd.prog.info? 59).map (·.size) = some 1 := by kernel_rfl
theorem zc59 : zeroCells Tryd.prog 59 = some [.nilFunc] := by kernel_rfl
theorem one67 : one Tryd.prog 67 = true := by kernel_rfl
theorem one82 : one Tryd.prog 82 = true := by kernel_rfl
theorem sz82 : (Tryd.prog.info? 82).map (·.size) = some 1 := by kernel_rfl
theorem zc82 : zeroCells Tryd.prog 82 = some [.map none] := by kernel_rfl
theorem en7 : enters Tryd.prog 7 = true := by kernel_rfl
theorem en8 : enters Tryd.prog 8 = true := by kernel_rfl
theorem en9 : enters Tryd.prog 9 = true := by kernel_rfl
theorem en10 : enters Tryd.prog 10 = true := by kernel_rfl
theorem en11 : enters Tryd.prog 11 = true := by kernel_rfl
theorem en12 : enters Tryd.prog 12 = true := by kernel_rfl
theorem en13 : enters Tryd.prog 13 = true := by kernel_rfl
theorem en14 : enters Tryd.prog 14 = true := by kernel_rfl
theorem en15 : enters Tryd.prog 15 = true := by kernel_rfl
theorem en16 : enters Tryd.prog 16 = true := by kernel_rfl
theorem en17 : enters Tryd.prog 17 = true := by kernel_rfl
theorem en18 : enters Tryd.prog 18 = true := by kernel_rfl
theorem en19 : enters Tryd.prog 19 = true := by kernel_rfl
theorem en20 : enters Tryd.prog 20 = true := by kernel_rfl
theorem en21 : enters Tryd.prog 21 = true := by kernel_rfl
theorem en22 : enters Tryd.prog 22 = true := by kernel_rfl
theorem en23 : enters Tryd.prog 23 = true := by kernel_rfl
theorem en24 : enters Tryd.prog 24 = true := by kernel_rfl
theorem en25 : enters Tryd.prog 25 = true := by kernel_rfl
theorem en26 : enters Tryd.prog 26 = true := by kernel_rfl
theorem en27 : enters Tryd.prog 27 = true := by kernel_rfl
theorem en28 : enters Tryd.prog 28 = true := by kernel_rfl
theorem en29 : enters Tryd.prog 29 = true := by kernel_rfl
theorem en30 : enters Tryd.prog 30 = true := by kernel_rfl
theorem en31 : enters Tryd.prog 31 = true := by kernel_rfl
theorem en32 : enters Tryd.prog 32 = true := by kernel_rfl
theorem en33 : enters Tryd.prog 33 = true := by kernel_rfl
theorem en34 : enters Tryd.prog 34 = true := by kernel_rfl
theorem en35 : enters Tryd.prog 35 = true := by kernel_rfl
theorem en36 : enters Tryd.prog 36 = true := by kernel_rfl
theorem en39 : enters Tryd.prog 39 = true := by kernel_rfl
theorem en40 : enters Tryd.prog 40 = true := by kernel_rfl
theorem en41 : enters Tryd.prog 41 = true := by kernel_rfl
theorem en42 : enters Tryd.prog 42 = true := by kernel_rfl
theorem en43 : enters Tryd.prog 43 = true := by kernel_rfl
theorem en44 : enters Tryd.prog 44 = true := by kernel_rfl
theorem en45 : enters Tryd.prog 45 = true := by kernel_rfl
theorem en46 : enters Tryd.prog 46 = true := by kernel_rfl
theorem en47 : enters Tryd.prog 47 = true := by kernel_rfl
theorem en48 : enters Tryd.prog 48 = true := by kernel_rfl
theorem en49 : enters Tryd.prog 49 = true := by kernel_rfl
theorem en65 : enters Tryd.prog 65 = true := by kernel_rfl
theorem en66 : enters Tryd.prog 66 = true := by kernel_rfl
theorem en67 : enters Tryd.prog 67 = true := by kernel_rfl
theorem en69 : enters Tryd.prog 69 = true := by kernel_rfl
theorem en75 : enters Tryd.prog 75 = true := by kernel_rfl
theorem en79 : enters Tryd.prog 79 = true := by kernel_rfl
end Go.Proofs.YthjcgmjcpmodlaaDoor
