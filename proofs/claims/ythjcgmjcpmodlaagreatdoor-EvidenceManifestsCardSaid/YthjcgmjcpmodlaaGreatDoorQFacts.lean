import Derived.Test.YthjcgmjcpmodlaaGreatDoorQC
import Derived.Test.YthjcgmjcpmodlaaGreatDoorProg
import Derived.KernelRfl
set_option linter.unusedSimpArgs false
set_option linter.unusedVariables false
namespace Go.Proofs.YthjcgmjcpmodlaaGreatDoor
open Go.PF
theorem mixed : Tryz.prog.follows .mixedOrders = true := by kernel_rfl
theorem zc1 : zeroCells Tryz.prog 1 = some [.nilFunc] := by kernel_rfl
theorem one3 : one Tryz.prog 3 = true := by kernel_rfl
theorem sz3 : (Tryz.prog.info? 3).map (·.size) = some 1 := by kernel_rfl
theorem ze4 : (Tryz.prog.info? 4).bind (·.zero) = some (.bool false) := by kernel_rfl
theorem one9 : one Tryz.prog 9 = true := by kernel_rfl
theorem sz9 : (Tryz.prog.info? 9).map (·.size) = some 1 := by kernel_rfl
theorem one22 : one Tryz.prog 22 = true := by kernel_rfl
theorem eo22 : elemOK Tryz.prog 22 54 3 = true := by kernel_rfl
theorem one23 : one Tryz.prog 23 = true := by kernel_rfl
theorem eo23 : elemOK Tryz.prog 23 37 6 = true := by kernel_rfl
theorem go23 : growOK Tryz.prog 23 37 6 72 = true := by kernel_rfl
theorem one24 : one Tryz.prog 24 = true := by kernel_rfl
theorem sz24 : (Tryz.prog.info? 24).map (·.size) = some 1 := by kernel_rfl
theorem eo24 : elemOK Tryz.prog 24 29 4 = true := by kernel_rfl
theorem go24 : growOK Tryz.prog 24 29 4 48 = true := by kernel_rfl
theorem one27 : one Tryz.prog 27 = true := by kernel_rfl
theorem sz27 : (Tryz.prog.info? 27).map (·.size) = some 1 := by kernel_rfl
theorem eo27 : elemOK Tryz.prog 27 3 1 = true := by kernel_rfl
theorem go27 : growOK Tryz.prog 27 3 1 8 = true := by kernel_rfl
theorem ze27 : (Tryz.prog.info? 27).bind (·.zero) = some (.slice none 0 0) := by kernel_rfl
theorem sz29 : (Tryz.prog.info? 29).map (·.size) = some 4 := by kernel_rfl
theorem zc29 : zeroCells Tryz.prog 29 = some [.int .i64 0, .int .i64 0, .int .i64 0, .slice none 0 0] := by kernel_rfl
theorem fo29_0 : fieldOff Tryz.prog 29 0 = some 0 := by kernel_rfl
theorem fo29_1 : fieldOff Tryz.prog 29 1 = some 1 := by kernel_rfl
theorem fo29_2 : fieldOff Tryz.prog 29 2 = some 2 := by kernel_rfl
theorem fo29_3 : fieldOff Tryz.prog 29 3 = some 3 := by kernel_rfl
theorem one35 : one Tryz.prog 35 = true := by kernel_rfl
theorem eo35 : elemOK Tryz.prog 35 9 1 = true := by kernel_rfl
theorem go35 : growOK Tryz.prog 35 9 1 16 = true := by kernel_rfl
theorem sz37 : (Tryz.prog.info? 37).map (·.size) = some 6 := by kernel_rfl
theorem zc37 : zeroCells Tryz.prog 37 = some [.int .i64 0, .int .i64 0, .int .i64 0, .int .i64 0, .string ByteArray.empty, .slice none 0 0] := by kernel_rfl
theorem fo37_0 : fieldOff Tryz.prog 37 0 = some 0 := by kernel_rfl
theorem fo37_1 : fieldOff Tryz.prog 37 1 = some 1 := by kernel_rfl
theorem fo37_2 : fieldOff Tryz.prog 37 2 = some 2 := by kernel_rfl
theorem fo37_3 : fieldOff Tryz.prog 37 3 = some 3 := by kernel_rfl
theorem fo37_4 : fieldOff Tryz.prog 37 4 = some 4 := by kernel_rfl
theorem fo37_5 : fieldOff Tryz.prog 37 5 = some 5 := by kernel_rfl
theorem one46 : one Tryz.prog 46 = true := by kernel_rfl
theorem sz54 : (Tryz.prog.info? 54).map (·.size) = some 3 := by kernel_rfl
theorem zc54 : zeroCells Tryz.prog 54 = some [.int .i64 0, .int .i64 0, .int .i64 0] := by kernel_rfl
theorem fo54_0 : fieldOff Tryz.prog 54 0 = some 0 := by kernel_rfl
theorem fo54_1 : fieldOff Tryz.prog 54 1 = some 1 := by kernel_rfl
theorem fo54_2 : fieldOff Tryz.prog 54 2 = some 2 := by kernel_rfl
theorem one56 : one Tryz.prog 56 = true := by kernel_rfl
theorem fo58_0 : fieldOff Tryz.prog 58 0 = some 0 := by kernel_rfl
theorem fo58_1 : fieldOff Tryz.prog 58 1 = some 1 := by kernel_rfl
theorem fo58_2 : fieldOff Tryz.prog 58 2 = some 2 := by kernel_rfl
theorem fo58_3 : fieldOff Tryz.prog 58 3 = some 3 := by kernel_rfl
theorem one59 : one Tryz.prog 59 = true := by kernel_rfl
theorem sz59 : (Tryz.prog.info? 59).map (·.size) = some 1 := by kernel_rfl
theorem zc59 : zeroCells Tryz.prog 59 = some [.map none] := by kernel_rfl
theorem one60 : one Tryz.prog 60 = true := by kernel_rfl
theorem sz60 : (Tryz.prog.info? 60).map (·.size) = some 1 := by kernel_rfl
theorem zc60 : zeroCells Tryz.prog 60 = some [.nilFunc] := by kernel_rfl
theorem one68 : one Tryz.prog 68 = true := by kernel_rfl
theorem one97 : one Tryz.prog 97 = true := by kernel_rfl
theorem sz97 : (Tryz.prog.info? 97).map (·.size) = some 1 := by kernel_rfl
theorem zc97 : zeroCells Tryz.prog 97 = some [.map none] := by kernel_rfl
theorem en5 : enters Tryz.prog 5 = true := by kernel_rfl
theorem en6 : enters Tryz.prog 6 = true := by kernel_rfl
theorem en7 : enters Tryz.prog 7 = true := by kernel_rfl
theorem en8 : enters Tryz.prog 8 = true := by kernel_rfl
theorem en9 : enters Tryz.prog 9 = true := by kernel_rfl
theorem en10 : enters Tryz.prog 10 = true := by kernel_rfl
theorem en11 : enters Tryz.prog 11 = true := by kernel_rfl
theorem en12 : enters Tryz.prog 12 = true := by kernel_rfl
theorem en13 : enters Tryz.prog 13 = true := by kernel_rfl
theorem en14 : enters Tryz.prog 14 = true := by kernel_rfl
theorem en15 : enters Tryz.prog 15 = true := by kernel_rfl
theorem en16 : enters Tryz.prog 16 = true := by kernel_rfl
theorem en17 : enters Tryz.prog 17 = true := by kernel_rfl
theorem en18 : enters Tryz.prog 18 = true := by kernel_rfl
theorem en19 : enters Tryz.prog 19 = true := by kernel_rfl
theorem en20 : enters Tryz.prog 20 = true := by kernel_rfl
theorem en21 : enters Tryz.prog 21 = true := by kernel_rfl
theorem en22 : enters Tryz.prog 22 = true := by kernel_rfl
theorem en23 : enters Tryz.prog 23 = true := by kernel_rfl
theorem en24 : enters Tryz.prog 24 = true := by kernel_rfl
theorem en25 : enters Tryz.prog 25 = true := by kernel_rfl
theorem en26 : enters Tryz.prog 26 = true := by kernel_rfl
theorem en27 : enters Tryz.prog 27 = true := by kernel_rfl
theorem en28 : enters Tryz.prog 28 = true := by kernel_rfl
theorem en29 : enters Tryz.prog 29 = true := by kernel_rfl
theorem en30 : enters Tryz.prog 30 = true := by kernel_rfl
theorem en31 : enters Tryz.prog 31 = true := by kernel_rfl
theorem en32 : enters Tryz.prog 32 = true := by kernel_rfl
theorem en33 : enters Tryz.prog 33 = true := by kernel_rfl
theorem en34 : enters Tryz.prog 34 = true := by kernel_rfl
theorem en35 : enters Tryz.prog 35 = true := by kernel_rfl
theorem en36 : enters Tryz.prog 36 = true := by kernel_rfl
theorem en37 : enters Tryz.prog 37 = true := by kernel_rfl
theorem en40 : enters Tryz.prog 40 = true := by kernel_rfl
theorem en41 : enters Tryz.prog 41 = true := by kernel_rfl
theorem en42 : enters Tryz.prog 42 = true := by kernel_rfl
theorem en43 : enters Tryz.prog 43 = true := by kernel_rfl
theorem en44 : enters Tryz.prog 44 = true := by kernel_rfl
theorem en45 : enters Tryz.prog 45 = true := by kernel_rfl
theorem en46 : enters Tryz.prog 46 = true := by kernel_rfl
theorem en47 : enters Tryz.prog 47 = true := by kernel_rfl
theorem en48 : enters Tryz.prog 48 = true := by kernel_rfl
theorem en49 : enters Tryz.prog 49 = true := by kernel_rfl
theorem en50 : enters Tryz.prog 50 = true := by kernel_rfl
theorem en51 : enters Tryz.prog 51 = true := by kernel_rfl
theorem en63 : enters Tryz.prog 63 = true := by kernel_rfl
theorem en64 : enters Tryz.prog 64 = true := by kernel_rfl
theorem en65 : enters Tryz.prog 65 = true := by kernel_rfl
theorem en66 : enters Tryz.prog 66 = true := by kernel_rfl
theorem en71 : enters Tryz.prog 71 = true := by kernel_rfl
theorem en72 : enters Tryz.prog 72 = true := by kernel_rfl
theorem en73 : enters Tryz.prog 73 = true := by kernel_rfl
theorem en74 : enters Tryz.prog 74 = true := by kernel_rfl
theorem en80 : enters Tryz.prog 80 = true := by kernel_rfl
theorem en82 : enters Tryz.prog 82 = true := by kernel_rfl
theorem en86 : enters Tryz.prog 86 = true := by kernel_rfl
theorem en88 : enters Tryz.prog 88 = true := by kernel_rfl
end Go.Proofs.YthjcgmjcpmodlaaGreatDoor
