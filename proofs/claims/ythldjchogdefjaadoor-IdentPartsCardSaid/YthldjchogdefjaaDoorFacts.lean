import Derived.Test.YthldjchogdefjaaDoorStr
import Derived.Test.YthldjchogdefjaaDoorProg
import Derived.KernelRfl
namespace Go.Proofs.YthldjchogdefjaaDoor
open Go.PF
theorem mixed : Tryd.prog.follows .mixedOrders = true := by kernel_rfl
theorem one1 : one Tryd.prog 1 = true := by kernel_rfl
theorem sz1 : (Tryd.prog.info? 1).map (·.size) = some 1 := by kernel_rfl
theorem zc1 : zeroCells Tryd.prog 1 = some [.nilFunc] := by kernel_rfl
theorem ze1 : (Tryd.prog.info? 1).bind (·.zero) = some (.nilFunc) := by kernel_rfl
theorem one2 : one Tryd.prog 2 = true := by kernel_rfl
theorem sz2 : (Tryd.prog.info? 2).map (·.size) = some 1 := by kernel_rfl
theorem zc2 : zeroCells Tryd.prog 2 = some [.int .i64 0] := by kernel_rfl
theorem ze2 : (Tryd.prog.info? 2).bind (·.zero) = some (.int .i64 0) := by kernel_rfl
theorem one3 : one Tryd.prog 3 = true := by kernel_rfl
theorem sz3 : (Tryd.prog.info? 3).map (·.size) = some 1 := by kernel_rfl
theorem zc3 : zeroCells Tryd.prog 3 = some [.int .i64 0] := by kernel_rfl
theorem ze3 : (Tryd.prog.info? 3).bind (·.zero) = some (.int .i64 0) := by kernel_rfl
theorem one4 : one Tryd.prog 4 = true := by kernel_rfl
theorem sz4 : (Tryd.prog.info? 4).map (·.size) = some 1 := by kernel_rfl
theorem zc4 : zeroCells Tryd.prog 4 = some [.bool false] := by kernel_rfl
theorem ze4 : (Tryd.prog.info? 4).bind (·.zero) = some (.bool false) := by kernel_rfl
theorem one5 : one Tryd.prog 5 = true := by kernel_rfl
theorem sz5 : (Tryd.prog.info? 5).map (·.size) = some 1 := by kernel_rfl
theorem zc5 : zeroCells Tryd.prog 5 = some [.int .u8 0] := by kernel_rfl
theorem ze5 : (Tryd.prog.info? 5).bind (·.zero) = some (.int .u8 0) := by kernel_rfl
theorem one6 : one Tryd.prog 6 = true := by kernel_rfl
theorem sz6 : (Tryd.prog.info? 6).map (·.size) = some 1 := by kernel_rfl
theorem zc6 : zeroCells Tryd.prog 6 = some [.int .u8 0] := by kernel_rfl
theorem ze6 : (Tryd.prog.info? 6).bind (·.zero) = some (.int .u8 0) := by kernel_rfl
theorem sz7 : (Tryd.prog.info? 7).map (·.size) = some 4 := by kernel_rfl
theorem zc7 : zeroCells Tryd.prog 7 = some [.int .i64 0, .int .i64 0, .bool false, .int .u8 0] := by kernel_rfl
theorem fo7_0 : fieldOff Tryd.prog 7 0 = some 0 := by kernel_rfl
theorem fo7_1 : fieldOff Tryd.prog 7 1 = some 1 := by kernel_rfl
theorem fo7_2 : fieldOff Tryd.prog 7 2 = some 2 := by kernel_rfl
theorem fo7_3 : fieldOff Tryd.prog 7 3 = some 3 := by kernel_rfl
theorem sz8 : (Tryd.prog.info? 8).map (·.size) = some 4 := by kernel_rfl
theorem zc8 : zeroCells Tryd.prog 8 = some [.int .i64 0, .int .i64 0, .bool false, .int .u8 0] := by kernel_rfl
theorem fo8_0 : fieldOff Tryd.prog 8 0 = some 0 := by kernel_rfl
theorem fo8_1 : fieldOff Tryd.prog 8 1 = some 1 := by kernel_rfl
theorem fo8_2 : fieldOff Tryd.prog 8 2 = some 2 := by kernel_rfl
theorem fo8_3 : fieldOff Tryd.prog 8 3 = some 3 := by kernel_rfl
theorem one9 : one Tryd.prog 9 = true := by kernel_rfl
theorem sz9 : (Tryd.prog.info? 9).map (·.size) = some 1 := by kernel_rfl
theorem zc9 : zeroCells Tryd.prog 9 = some [.string ByteArray.empty] := by kernel_rfl
theorem ze9 : (Tryd.prog.info? 9).bind (·.zero) = some (.string ByteArray.empty) := by kernel_rfl
theorem one10 : one Tryd.prog 10 = true := by kernel_rfl
theorem sz10 : (Tryd.prog.info? 10).map (·.size) = some 1 := by kernel_rfl
theorem zc10 : zeroCells Tryd.prog 10 = some [.string ByteArray.empty] := by kernel_rfl
theorem ze10 : (Tryd.prog.info? 10).bind (·.zero) = some (.string ByteArray.empty) := by kernel_rfl
theorem one11 : one Tryd.prog 11 = true := by kernel_rfl
theorem sz11 : (Tryd.prog.info? 11).map (·.size) = some 1 := by kernel_rfl
theorem zc11 : zeroCells Tryd.prog 11 = some [.string ByteArray.empty] := by kernel_rfl
theorem ze11 : (Tryd.prog.info? 11).bind (·.zero) = some (.string ByteArray.empty) := by kernel_rfl
theorem one12 : one Tryd.prog 12 = true := by kernel_rfl
theorem sz12 : (Tryd.prog.info? 12).map (·.size) = some 1 := by kernel_rfl
theorem zc12 : zeroCells Tryd.prog 12 = some [.int .u64 0] := by kernel_rfl
theorem ze12 : (Tryd.prog.info? 12).bind (·.zero) = some (.int .u64 0) := by kernel_rfl
theorem sz13 : (Tryd.prog.info? 13).map (·.size) = some 2 := by kernel_rfl
theorem zc13 : zeroCells Tryd.prog 13 = some [.string ByteArray.empty, .int .u64 0] := by kernel_rfl
theorem fo13_0 : fieldOff Tryd.prog 13 0 = some 0 := by kernel_rfl
theorem fo13_1 : fieldOff Tryd.prog 13 1 = some 1 := by kernel_rfl
theorem sz14 : (Tryd.prog.info? 14).map (·.size) = some 2 := by kernel_rfl
theorem zc14 : zeroCells Tryd.prog 14 = some [.string ByteArray.empty, .int .u64 0] := by kernel_rfl
theorem fo14_0 : fieldOff Tryd.prog 14 0 = some 0 := by kernel_rfl
theorem fo14_1 : fieldOff Tryd.prog 14 1 = some 1 := by kernel_rfl
theorem one15 : one Tryd.prog 15 = true := by kernel_rfl
theorem sz15 : (Tryd.prog.info? 15).map (·.size) = some 1 := by kernel_rfl
theorem zc15 : zeroCells Tryd.prog 15 = some [.pointer none] := by kernel_rfl
theorem ze15 : (Tryd.prog.info? 15).bind (·.zero) = some (.pointer none) := by kernel_rfl
theorem one16 : one Tryd.prog 16 = true := by kernel_rfl
theorem sz16 : (Tryd.prog.info? 16).map (·.size) = some 1 := by kernel_rfl
theorem zc16 : zeroCells Tryd.prog 16 = some [.pointer none] := by kernel_rfl
theorem ze16 : (Tryd.prog.info? 16).bind (·.zero) = some (.pointer none) := by kernel_rfl
theorem one17 : one Tryd.prog 17 = true := by kernel_rfl
theorem sz17 : (Tryd.prog.info? 17).map (·.size) = some 1 := by kernel_rfl
theorem zc17 : zeroCells Tryd.prog 17 = some [.pointer none] := by kernel_rfl
theorem ze17 : (Tryd.prog.info? 17).bind (·.zero) = some (.pointer none) := by kernel_rfl
theorem sz18 : (Tryd.prog.info? 18).map (·.size) = some 1 := by kernel_rfl
theorem zc18 : zeroCells Tryd.prog 18 = some [.pointer none] := by kernel_rfl
theorem fo18_0 : fieldOff Tryd.prog 18 0 = some 0 := by kernel_rfl
theorem sz19 : (Tryd.prog.info? 19).map (·.size) = some 1 := by kernel_rfl
theorem zc19 : zeroCells Tryd.prog 19 = some [.pointer none] := by kernel_rfl
theorem fo19_0 : fieldOff Tryd.prog 19 0 = some 0 := by kernel_rfl
theorem one20 : one Tryd.prog 20 = true := by kernel_rfl
theorem sz20 : (Tryd.prog.info? 20).map (·.size) = some 1 := by kernel_rfl
theorem zc20 : zeroCells Tryd.prog 20 = some [.nilIface] := by kernel_rfl
theorem ze20 : (Tryd.prog.info? 20).bind (·.zero) = some (.nilIface) := by kernel_rfl
theorem one21 : one Tryd.prog 21 = true := by kernel_rfl
theorem sz21 : (Tryd.prog.info? 21).map (·.size) = some 1 := by kernel_rfl
theorem zc21 : zeroCells Tryd.prog 21 = some [.int .i32 0] := by kernel_rfl
theorem ze21 : (Tryd.prog.info? 21).bind (·.zero) = some (.int .i32 0) := by kernel_rfl
theorem one22 : one Tryd.prog 22 = true := by kernel_rfl
theorem sz22 : (Tryd.prog.info? 22).map (·.size) = some 1 := by kernel_rfl
theorem zc22 : zeroCells Tryd.prog 22 = some [.nilFunc] := by kernel_rfl
theorem ze22 : (Tryd.prog.info? 22).bind (·.zero) = some (.nilFunc) := by kernel_rfl
theorem one23 : one Tryd.prog 23 = true := by kernel_rfl
theorem sz23 : (Tryd.prog.info? 23).map (·.size) = some 1 := by kernel_rfl
theorem zc23 : zeroCells Tryd.prog 23 = some [.int .i64 0] := by kernel_rfl
theorem ze23 : (Tryd.prog.info? 23).bind (·.zero) = some (.int .i64 0) := by kernel_rfl
theorem one25 : one Tryd.prog 25 = true := by kernel_rfl
theorem sz25 : (Tryd.prog.info? 25).map (·.size) = some 1 := by kernel_rfl
theorem zc25 : zeroCells Tryd.prog 25 = some [.nilFunc] := by kernel_rfl
theorem ze25 : (Tryd.prog.info? 25).bind (·.zero) = some (.nilFunc) := by kernel_rfl
theorem one27 : one Tryd.prog 27 = true := by kernel_rfl
theorem sz27 : (Tryd.prog.info? 27).map (·.size) = some 1 := by kernel_rfl
theorem zc27 : zeroCells Tryd.prog 27 = some [.nilFunc] := by kernel_rfl
theorem ze27 : (Tryd.prog.info? 27).bind (·.zero) = some (.nilFunc) := by kernel_rfl
theorem one28 : one Tryd.prog 28 = true := by kernel_rfl
theorem sz28 : (Tryd.prog.info? 28).map (·.size) = some 1 := by kernel_rfl
theorem zc28 : zeroCells Tryd.prog 28 = some [.nilFunc] := by kernel_rfl
theorem ze28 : (Tryd.prog.info? 28).bind (·.zero) = some (.nilFunc) := by kernel_rfl
theorem one29 : one Tryd.prog 29 = true := by kernel_rfl
theorem sz29 : (Tryd.prog.info? 29).map (·.size) = some 1 := by kernel_rfl
theorem zc29 : zeroCells Tryd.prog 29 = some [.nilFunc] := by kernel_rfl
theorem ze29 : (Tryd.prog.info? 29).bind (·.zero) = some (.nilFunc) := by kernel_rfl
theorem one30 : one Tryd.prog 30 = true := by kernel_rfl
theorem sz30 : (Tryd.prog.info? 30).map (·.size) = some 1 := by kernel_rfl
theorem zc30 : zeroCells Tryd.prog 30 = some [.slice none 0 0] := by kernel_rfl
theorem eo30 : elemOK Tryd.prog 30 9 1 = true := by kernel_rfl
theorem go30 : growOK Tryd.prog 30 9 1 16 = true := by kernel_rfl
theorem ze30 : (Tryd.prog.info? 30).bind (·.zero) = some (.slice none 0 0) := by kernel_rfl
theorem one31 : one Tryd.prog 31 = true := by kernel_rfl
theorem sz31 : (Tryd.prog.info? 31).map (·.size) = some 1 := by kernel_rfl
theorem zc31 : zeroCells Tryd.prog 31 = some [.nilFunc] := by kernel_rfl
theorem ze31 : (Tryd.prog.info? 31).bind (·.zero) = some (.nilFunc) := by kernel_rfl
theorem one32 : one Tryd.prog 32 = true := by kernel_rfl
theorem sz32 : (Tryd.prog.info? 32).map (·.size) = some 1 := by kernel_rfl
theorem zc32 : zeroCells Tryd.prog 32 = some [.nilFunc] := by kernel_rfl
theorem ze32 : (Tryd.prog.info? 32).bind (·.zero) = some (.nilFunc) := by kernel_rfl
theorem one33 : one Tryd.prog 33 = true := by kernel_rfl
theorem sz33 : (Tryd.prog.info? 33).map (·.size) = some 1 := by kernel_rfl
theorem zc33 : zeroCells Tryd.prog 33 = some [.nilFunc] := by kernel_rfl
theorem ze33 : (Tryd.prog.info? 33).bind (·.zero) = some (.nilFunc) := by kernel_rfl
theorem one34 : one Tryd.prog 34 = true := by kernel_rfl
theorem sz34 : (Tryd.prog.info? 34).map (·.size) = some 1 := by kernel_rfl
theorem zc34 : zeroCells Tryd.prog 34 = some [.nilFunc] := by kernel_rfl
theorem ze34 : (Tryd.prog.info? 34).bind (·.zero) = some (.nilFunc) := by kernel_rfl
theorem one35 : one Tryd.prog 35 = true := by kernel_rfl
theorem sz35 : (Tryd.prog.info? 35).map (·.size) = some 1 := by kernel_rfl
theorem zc35 : zeroCells Tryd.prog 35 = some [.nilFunc] := by kernel_rfl
theorem ze35 : (Tryd.prog.info? 35).bind (·.zero) = some (.nilFunc) := by kernel_rfl
theorem one36 : one Tryd.prog 36 = true := by kernel_rfl
theorem sz36 : (Tryd.prog.info? 36).map (·.size) = some 1 := by kernel_rfl
theorem zc36 : zeroCells Tryd.prog 36 = some [.nilFunc] := by kernel_rfl
theorem ze36 : (Tryd.prog.info? 36).bind (·.zero) = some (.nilFunc) := by kernel_rfl
theorem one37 : one Tryd.prog 37 = true := by kernel_rfl
theorem sz37 : (Tryd.prog.info? 37).map (·.size) = some 1 := by kernel_rfl
theorem zc37 : zeroCells Tryd.prog 37 = some [.nilFunc] := by kernel_rfl
theorem ze37 : (Tryd.prog.info? 37).bind (·.zero) = some (.nilFunc) := by kernel_rfl
theorem one38 : one Tryd.prog 38 = true := by kernel_rfl
theorem sz38 : (Tryd.prog.info? 38).map (·.size) = some 1 := by kernel_rfl
theorem zc38 : zeroCells Tryd.prog 38 = some [.slice none 0 0] := by kernel_rfl
theorem eo38 : elemOK Tryd.prog 38 5 1 = true := by kernel_rfl
theorem go38 : growOK Tryd.prog 38 5 1 1 = true := by kernel_rfl
theorem ze38 : (Tryd.prog.info? 38).bind (·.zero) = some (.slice none 0 0) := by kernel_rfl
theorem one39 : one Tryd.prog 39 = true := by kernel_rfl
theorem sz39 : (Tryd.prog.info? 39).map (·.size) = some 1 := by kernel_rfl
theorem zc39 : zeroCells Tryd.prog 39 = some [.nilFunc] := by kernel_rfl
theorem ze39 : (Tryd.prog.info? 39).bind (·.zero) = some (.nilFunc) := by kernel_rfl
theorem sz40 : (Tryd.prog.info? 40).map (·.size) = some 8 := by kernel_rfl
theorem zc40 : zeroCells Tryd.prog 40 = some [.int .i64 0, .int .i64 0, .int .i64 0, .int .i64 0, .int .i64 0, .int .i64 0, .int .i64 0, .int .i64 0] := by kernel_rfl
theorem one41 : one Tryd.prog 41 = true := by kernel_rfl
theorem sz41 : (Tryd.prog.info? 41).map (·.size) = some 1 := by kernel_rfl
theorem zc41 : zeroCells Tryd.prog 41 = some [.nilFunc] := by kernel_rfl
theorem ze41 : (Tryd.prog.info? 41).bind (·.zero) = some (.nilFunc) := by kernel_rfl
theorem one42 : one Tryd.prog 42 = true := by kernel_rfl
theorem sz42 : (Tryd.prog.info? 42).map (·.size) = some 1 := by kernel_rfl
theorem zc42 : zeroCells Tryd.prog 42 = some [.nilFunc] := by kernel_rfl
theorem ze42 : (Tryd.prog.info? 42).bind (·.zero) = some (.nilFunc) := by kernel_rfl
theorem one43 : one Tryd.prog 43 = true := by kernel_rfl
theorem sz43 : (Tryd.prog.info? 43).map (·.size) = some 1 := by kernel_rfl
theorem zc43 : zeroCells Tryd.prog 43 = some [.nilFunc] := by kernel_rfl
theorem ze43 : (Tryd.prog.info? 43).bind (·.zero) = some (.nilFunc) := by kernel_rfl
theorem one44 : one Tryd.prog 44 = true := by kernel_rfl
theorem sz44 : (Tryd.prog.info? 44).map (·.size) = some 1 := by kernel_rfl
theorem zc44 : zeroCells Tryd.prog 44 = some [.nilFunc] := by kernel_rfl
theorem ze44 : (Tryd.prog.info? 44).bind (·.zero) = some (.nilFunc) := by kernel_rfl
theorem one45 : one Tryd.prog 45 = true := by kernel_rfl
theorem sz45 : (Tryd.prog.info? 45).map (·.size) = some 1 := by kernel_rfl
theorem zc45 : zeroCells Tryd.prog 45 = some [.nilFunc] := by kernel_rfl
theorem ze45 : (Tryd.prog.info? 45).bind (·.zero) = some (.nilFunc) := by kernel_rfl
theorem one46 : one Tryd.prog 46 = true := by kernel_rfl
theorem sz46 : (Tryd.prog.info? 46).map (·.size) = some 1 := by kernel_rfl
theorem zc46 : zeroCells Tryd.prog 46 = some [.nilFunc] := by kernel_rfl
theorem ze46 : (Tryd.prog.info? 46).bind (·.zero) = some (.nilFunc) := by kernel_rfl
theorem one47 : one Tryd.prog 47 = true := by kernel_rfl
theorem sz47 : (Tryd.prog.info? 47).map (·.size) = some 1 := by kernel_rfl
theorem zc47 : zeroCells Tryd.prog 47 = some [.nilFunc] := by kernel_rfl
theorem ze47 : (Tryd.prog.info? 47).bind (·.zero) = some (.nilFunc) := by kernel_rfl
theorem one48 : one Tryd.prog 48 = true := by kernel_rfl
theorem sz48 : (Tryd.prog.info? 48).map (·.size) = some 1 := by kernel_rfl
theorem zc48 : zeroCells Tryd.prog 48 = some [.nilFunc] := by kernel_rfl
theorem ze48 : (Tryd.prog.info? 48).bind (·.zero) = some (.nilFunc) := by kernel_rfl
theorem one49 : one Tryd.prog 49 = true := by kernel_rfl
theorem sz49 : (Tryd.prog.info? 49).map (·.size) = some 1 := by kernel_rfl
theorem zc49 : zeroCells Tryd.prog 49 = some [.int .u64 0] := by kernel_rfl
theorem ze49 : (Tryd.prog.info? 49).bind (·.zero) = some (.int .u64 0) := by kernel_rfl
theorem one51 : one Tryd.prog 51 = true := by kernel_rfl
theorem sz51 : (Tryd.prog.info? 51).map (·.size) = some 1 := by kernel_rfl
theorem zc51 : zeroCells Tryd.prog 51 = some [.nilFunc] := by kernel_rfl
theorem ze51 : (Tryd.prog.info? 51).bind (·.zero) = some (.nilFunc) := by kernel_rfl
theorem one52 : one Tryd.prog 52 = true := by kernel_rfl
theorem sz52 : (Tryd.prog.info? 52).map (·.size) = some 1 := by kernel_rfl
theorem zc52 : zeroCells Tryd.prog 52 = some [.nilFunc] := by kernel_rfl
theorem ze52 : (Tryd.prog.info? 52).bind (·.zero) = some (.nilFunc) := by kernel_rfl
theorem one53 : one Tryd.prog 53 = true := by kernel_rfl
theorem sz53 : (Tryd.prog.info? 53).map (·.size) = some 1 := by kernel_rfl
theorem zc53 : zeroCells Tryd.prog 53 = some [.pointer none] := by kernel_rfl
theorem ze53 : (Tryd.prog.info? 53).bind (·.zero) = some (.pointer none) := by kernel_rfl
theorem sz54 : (Tryd.prog.info? 54).map (·.size) = some 2 := by kernel_rfl
theorem zc54 : zeroCells Tryd.prog 54 = some [.pointer none, .slice none 0 0] := by kernel_rfl
theorem fo54_0 : fieldOff Tryd.prog 54 0 = some 0 := by kernel_rfl
theorem fo54_1 : fieldOff Tryd.prog 54 1 = some 1 := by kernel_rfl
theorem sz55 : (Tryd.prog.info? 55).map (·.size) = some 2 := by kernel_rfl
theorem zc55 : zeroCells Tryd.prog 55 = some [.pointer none, .slice none 0 0] := by kernel_rfl
theorem fo55_0 : fieldOff Tryd.prog 55 0 = some 0 := by kernel_rfl
theorem fo55_1 : fieldOff Tryd.prog 55 1 = some 1 := by kernel_rfl
theorem one56 : one Tryd.prog 56 = true := by kernel_rfl
theorem sz56 : (Tryd.prog.info? 56).map (·.size) = some 1 := by kernel_rfl
theorem zc56 : zeroCells Tryd.prog 56 = some [.nilFunc] := by kernel_rfl
theorem ze56 : (Tryd.prog.info? 56).bind (·.zero) = some (.nilFunc) := by kernel_rfl
theorem one57 : one Tryd.prog 57 = true := by kernel_rfl
theorem sz57 : (Tryd.prog.info? 57).map (·.size) = some 1 := by kernel_rfl
theorem zc57 : zeroCells Tryd.prog 57 = some [.nilIface] := by kernel_rfl
theorem ze57 : (Tryd.prog.info? 57).bind (·.zero) = some (.nilIface) := by kernel_rfl
theorem one58 : one Tryd.prog 58 = true := by kernel_rfl
theorem sz58 : (Tryd.prog.info? 58).map (·.size) = some 1 := by kernel_rfl
theorem zc58 : zeroCells Tryd.prog 58 = some [.nilIface] := by kernel_rfl
theorem ze58 : (Tryd.prog.info? 58).bind (·.zero) = some (.nilIface) := by kernel_rfl
theorem one60 : one Tryd.prog 60 = true := by kernel_rfl
theorem sz60 : (Tryd.prog.info? 60).map (·.size) = some 1 := by kernel_rfl
theorem zc60 : zeroCells Tryd.prog 60 = some [.nilFunc] := by kernel_rfl
theorem ze60 : (Tryd.prog.info? 60).bind (·.zero) = some (.nilFunc) := by kernel_rfl
theorem one61 : one Tryd.prog 61 = true := by kernel_rfl
theorem sz61 : (Tryd.prog.info? 61).map (·.size) = some 1 := by kernel_rfl
theorem zc61 : zeroCells Tryd.prog 61 = some [.nilFunc] := by kernel_rfl
theorem ze61 : (Tryd.prog.info? 61).bind (·.zero) = some (.nilFunc) := by kernel_rfl
theorem one62 : one Tryd.prog 62 = true := by kernel_rfl
theorem sz62 : (Tryd.prog.info? 62).map (·.size) = some 1 := by kernel_rfl
theorem zc62 : zeroCells Tryd.prog 62 = some [.nilFunc] := by kernel_rfl
theorem ze62 : (Tryd.prog.info? 62).bind (·.zero) = some (.nilFunc) := by kernel_rfl
theorem one63 : one Tryd.prog 63 = true := by kernel_rfl
theorem sz63 : (Tryd.prog.info? 63).map (·.size) = some 1 := by kernel_rfl
theorem zc63 : zeroCells Tryd.prog 63 = some [.nilFunc] := by kernel_rfl
theorem ze63 : (Tryd.prog.info? 63).bind (·.zero) = some (.nilFunc) := by kernel_rfl
theorem one64 : one Tryd.prog 64 = true := by kernel_rfl
theorem sz64 : (Tryd.prog.info? 64).map (·.size) = some 1 := by kernel_rfl
theorem zc64 : zeroCells Tryd.prog 64 = some [.nilFunc] := by kernel_rfl
theorem ze64 : (Tryd.prog.info? 64).bind (·.zero) = some (.nilFunc) := by kernel_rfl
theorem one65 : one Tryd.prog 65 = true := by kernel_rfl
theorem sz65 : (Tryd.prog.info? 65).map (·.size) = some 1 := by kernel_rfl
theorem zc65 : zeroCells Tryd.prog 65 = some [.nilFunc] := by kernel_rfl
theorem ze65 : (Tryd.prog.info? 65).bind (·.zero) = some (.nilFunc) := by kernel_rfl
theorem one66 : one Tryd.prog 66 = true := by kernel_rfl
theorem sz66 : (Tryd.prog.info? 66).map (·.size) = some 1 := by kernel_rfl
theorem zc66 : zeroCells Tryd.prog 66 = some [.int .u32 0] := by kernel_rfl
theorem ze66 : (Tryd.prog.info? 66).bind (·.zero) = some (.int .u32 0) := by kernel_rfl
theorem one68 : one Tryd.prog 68 = true := by kernel_rfl
theorem sz68 : (Tryd.prog.info? 68).map (·.size) = some 1 := by kernel_rfl
theorem zc68 : zeroCells Tryd.prog 68 = some [.nilFunc] := by kernel_rfl
theorem ze68 : (Tryd.prog.info? 68).bind (·.zero) = some (.nilFunc) := by kernel_rfl
theorem one69 : one Tryd.prog 69 = true := by kernel_rfl
theorem sz69 : (Tryd.prog.info? 69).map (·.size) = some 1 := by kernel_rfl
theorem zc69 : zeroCells Tryd.prog 69 = some [.int .u64 0] := by kernel_rfl
theorem ze69 : (Tryd.prog.info? 69).bind (·.zero) = some (.int .u64 0) := by kernel_rfl
theorem one71 : one Tryd.prog 71 = true := by kernel_rfl
theorem sz71 : (Tryd.prog.info? 71).map (·.size) = some 1 := by kernel_rfl
theorem zc71 : zeroCells Tryd.prog 71 = some [.nilFunc] := by kernel_rfl
theorem ze71 : (Tryd.prog.info? 71).bind (·.zero) = some (.nilFunc) := by kernel_rfl
theorem one72 : one Tryd.prog 72 = true := by kernel_rfl
theorem sz72 : (Tryd.prog.info? 72).map (·.size) = some 1 := by kernel_rfl
theorem zc72 : zeroCells Tryd.prog 72 = some [.pointer none] := by kernel_rfl
theorem ze72 : (Tryd.prog.info? 72).bind (·.zero) = some (.pointer none) := by kernel_rfl
theorem one73 : one Tryd.prog 73 = true := by kernel_rfl
theorem sz73 : (Tryd.prog.info? 73).map (·.size) = some 1 := by kernel_rfl
theorem zc73 : zeroCells Tryd.prog 73 = some [.nilFunc] := by kernel_rfl
theorem ze73 : (Tryd.prog.info? 73).bind (·.zero) = some (.nilFunc) := by kernel_rfl
theorem one74 : one Tryd.prog 74 = true := by kernel_rfl
theorem sz74 : (Tryd.prog.info? 74).map (·.size) = some 1 := by kernel_rfl
theorem zc74 : zeroCells Tryd.prog 74 = some [.int .i64 0] := by kernel_rfl
theorem ze74 : (Tryd.prog.info? 74).bind (·.zero) = some (.int .i64 0) := by kernel_rfl
theorem one76 : one Tryd.prog 76 = true := by kernel_rfl
theorem sz76 : (Tryd.prog.info? 76).map (·.size) = some 1 := by kernel_rfl
theorem zc76 : zeroCells Tryd.prog 76 = some [.nilFunc] := by kernel_rfl
theorem ze76 : (Tryd.prog.info? 76).bind (·.zero) = some (.nilFunc) := by kernel_rfl
theorem one77 : one Tryd.prog 77 = true := by kernel_rfl
theorem sz77 : (Tryd.prog.info? 77).map (·.size) = some 1 := by kernel_rfl
theorem zc77 : zeroCells Tryd.prog 77 = some [.nilFunc] := by kernel_rfl
theorem ze77 : (Tryd.prog.info? 77).bind (·.zero) = some (.nilFunc) := by kernel_rfl
theorem one78 : one Tryd.prog 78 = true := by kernel_rfl
theorem sz78 : (Tryd.prog.info? 78).map (·.size) = some 1 := by kernel_rfl
theorem zc78 : zeroCells Tryd.prog 78 = some [.nilFunc] := by kernel_rfl
theorem ze78 : (Tryd.prog.info? 78).bind (·.zero) = some (.nilFunc) := by kernel_rfl
theorem one80 : one Tryd.prog 80 = true := by kernel_rfl
theorem sz80 : (Tryd.prog.info? 80).map (·.size) = some 1 := by kernel_rfl
theorem zc80 : zeroCells Tryd.prog 80 = some [.nilFunc] := by kernel_rfl
theorem ze80 : (Tryd.prog.info? 80).bind (·.zero) = some (.nilFunc) := by kernel_rfl
theorem one81 : one Tryd.prog 81 = true := by kernel_rfl
theorem sz81 : (Tryd.prog.info? 81).map (·.size) = some 1 := by kernel_rfl
theorem zc81 : zeroCells Tryd.prog 81 = some [.nilFunc] := by kernel_rfl
theorem ze81 : (Tryd.prog.info? 81).bind (·.zero) = some (.nilFunc) := by kernel_rfl
theorem one82 : one Tryd.prog 82 = true := by kernel_rfl
theorem sz82 : (Tryd.prog.info? 82).map (·.size) = some 1 := by kernel_rfl
theorem zc82 : zeroCells Tryd.prog 82 = some [.nilFunc] := by kernel_rfl
theorem ze82 : (Tryd.prog.info? 82).bind (·.zero) = some (.nilFunc) := by kernel_rfl
theorem sz83 : (Tryd.prog.info? 83).map (·.size) = some 24 := by kernel_rfl
theorem zc83 : zeroCells Tryd.prog 83 = some [.int .u8 0, .int .u8 0, .int .u8 0, .int .u8 0, .int .u8 0, .int .u8 0, .int .u8 0, .int .u8 0, .int .u8 0, .int .u8 0, .int .u8 0, .int .u8 0, .int .u8 0, .int .u8 0, .int .u8 0, .int .u8 0, .int .u8 0, .int .u8 0, .int .u8 0, .int .u8 0, .int .u8 0, .int .u8 0, .int .u8 0, .int .u8 0] := by kernel_rfl
theorem one84 : one Tryd.prog 84 = true := by kernel_rfl
theorem sz84 : (Tryd.prog.info? 84).map (·.size) = some 1 := by kernel_rfl
theorem zc84 : zeroCells Tryd.prog 84 = some [.nilFunc] := by kernel_rfl
theorem ze84 : (Tryd.prog.info? 84).bind (·.zero) = some (.nilFunc) := by kernel_rfl
theorem one86 : one Tryd.prog 86 = true := by kernel_rfl
theorem sz86 : (Tryd.prog.info? 86).map (·.size) = some 1 := by kernel_rfl
theorem zc86 : zeroCells Tryd.prog 86 = some [.nilFunc] := by kernel_rfl
theorem ze86 : (Tryd.prog.info? 86).bind (·.zero) = some (.nilFunc) := by kernel_rfl
theorem one87 : one Tryd.prog 87 = true := by kernel_rfl
theorem sz87 : (Tryd.prog.info? 87).map (·.size) = some 1 := by kernel_rfl
theorem one88 : one Tryd.prog 88 = true := by kernel_rfl
theorem sz88 : (Tryd.prog.info? 88).map (·.size) = some 1 := by kernel_rfl
theorem zc88 : zeroCells Tryd.prog 88 = some [.nilFunc] := by kernel_rfl
theorem ze88 : (Tryd.prog.info? 88).bind (·.zero) = some (.nilFunc) := by kernel_rfl
theorem one89 : one Tryd.prog 89 = true := by kernel_rfl
theorem sz89 : (Tryd.prog.info? 89).map (·.size) = some 1 := by kernel_rfl
theorem zc89 : zeroCells Tryd.prog 89 = some [.nilFunc] := by kernel_rfl
theorem ze89 : (Tryd.prog.info? 89).bind (·.zero) = some (.nilFunc) := by kernel_rfl
theorem one90 : one Tryd.prog 90 = true := by kernel_rfl
theorem sz90 : (Tryd.prog.info? 90).map (·.size) = some 1 := by kernel_rfl
theorem zc90 : zeroCells Tryd.prog 90 = some [.int .u64 0] := by kernel_rfl
theorem ze90 : (Tryd.prog.info? 90).bind (·.zero) = some (.int .u64 0) := by kernel_rfl
theorem one91 : one Tryd.prog 91 = true := by kernel_rfl
theorem sz91 : (Tryd.prog.info? 91).map (·.size) = some 1 := by kernel_rfl
theorem zc91 : zeroCells Tryd.prog 91 = some [.nilFunc] := by kernel_rfl
theorem ze91 : (Tryd.prog.info? 91).bind (·.zero) = some (.nilFunc) := by kernel_rfl
theorem one92 : one Tryd.prog 92 = true := by kernel_rfl
theorem sz92 : (Tryd.prog.info? 92).map (·.size) = some 1 := by kernel_rfl
theorem zc92 : zeroCells Tryd.prog 92 = some [.nilFunc] := by kernel_rfl
theorem ze92 : (Tryd.prog.info? 92).bind (·.zero) = some (.nilFunc) := by kernel_rfl
theorem one93 : one Tryd.prog 93 = true := by kernel_rfl
theorem sz93 : (Tryd.prog.info? 93).map (·.size) = some 1 := by kernel_rfl
theorem zc93 : zeroCells Tryd.prog 93 = some [.nilFunc] := by kernel_rfl
theorem ze93 : (Tryd.prog.info? 93).bind (·.zero) = some (.nilFunc) := by kernel_rfl
theorem one94 : one Tryd.prog 94 = true := by kernel_rfl
theorem sz94 : (Tryd.prog.info? 94).map (·.size) = some 1 := by kernel_rfl
theorem zc94 : zeroCells Tryd.prog 94 = some [.pointer none] := by kernel_rfl
theorem ze94 : (Tryd.prog.info? 94).bind (·.zero) = some (.pointer none) := by kernel_rfl
theorem one95 : one Tryd.prog 95 = true := by kernel_rfl
theorem sz95 : (Tryd.prog.info? 95).map (·.size) = some 1 := by kernel_rfl
theorem zc95 : zeroCells Tryd.prog 95 = some [.nilFunc] := by kernel_rfl
theorem ze95 : (Tryd.prog.info? 95).bind (·.zero) = some (.nilFunc) := by kernel_rfl
theorem one96 : one Tryd.prog 96 = true := by kernel_rfl
theorem sz96 : (Tryd.prog.info? 96).map (·.size) = some 1 := by kernel_rfl
theorem zc96 : zeroCells Tryd.prog 96 = some [.nilFunc] := by kernel_rfl
theorem ze96 : (Tryd.prog.info? 96).bind (·.zero) = some (.nilFunc) := by kernel_rfl
theorem sz97 : (Tryd.prog.info? 97).map (·.size) = some 20 := by kernel_rfl
theorem zc97 : zeroCells Tryd.prog 97 = some [.int .u64 0, .int .u64 0, .int .u64 0, .int .u64 0, .int .u64 0, .int .u64 0, .int .u64 0, .int .u64 0, .int .u64 0, .int .u64 0, .int .u64 0, .int .u64 0, .int .u64 0, .int .u64 0, .int .u64 0, .int .u64 0, .int .u64 0, .int .u64 0, .int .u64 0, .int .u64 0] := by kernel_rfl
theorem sz98 : (Tryd.prog.info? 98).map (·.size) = some 65 := by kernel_rfl
theorem one99 : one Tryd.prog 99 = true := by kernel_rfl
theorem sz99 : (Tryd.prog.info? 99).map (·.size) = some 1 := by kernel_rfl
theorem zc99 : zeroCells Tryd.prog 99 = some [.nilFunc] := by kernel_rfl
theorem ze99 : (Tryd.prog.info? 99).bind (·.zero) = some (.nilFunc) := by kernel_rfl
theorem one100 : one Tryd.prog 100 = true := by kernel_rfl
theorem sz100 : (Tryd.prog.info? 100).map (·.size) = some 1 := by kernel_rfl
theorem zc100 : zeroCells Tryd.prog 100 = some [.pointer none] := by kernel_rfl
theorem ze100 : (Tryd.prog.info? 100).bind (·.zero) = some (.pointer none) := by kernel_rfl
theorem one102 : one Tryd.prog 102 = true := by kernel_rfl
theorem sz102 : (Tryd.prog.info? 102).map (·.size) = some 1 := by kernel_rfl
theorem zc102 : zeroCells Tryd.prog 102 = some [.nilFunc] := by kernel_rfl
theorem ze102 : (Tryd.prog.info? 102).bind (·.zero) = some (.nilFunc) := by kernel_rfl
theorem sz103 : (Tryd.prog.info? 103).map (·.size) = some 32 := by kernel_rfl
theorem zc103 : zeroCells Tryd.prog 103 = some [.int .u8 0, .int .u8 0, .int .u8 0, .int .u8 0, .int .u8 0, .int .u8 0, .int .u8 0, .int .u8 0, .int .u8 0, .int .u8 0, .int .u8 0, .int .u8 0, .int .u8 0, .int .u8 0, .int .u8 0, .int .u8 0, .int .u8 0, .int .u8 0, .int .u8 0, .int .u8 0, .int .u8 0, .int .u8 0, .int .u8 0, .int .u8 0, .int .u8 0, .int .u8 0, .int .u8 0, .int .u8 0, .int .u8 0, .int .u8 0, .int .u8 0, .int .u8 0] := by kernel_rfl
theorem sz104 : (Tryd.prog.info? 104).map (·.size) = some 64 := by kernel_rfl
theorem sz105 : (Tryd.prog.info? 105).map (·.size) = some 4 := by kernel_rfl
theorem zc105 : zeroCells Tryd.prog 105 = some [.pointer none, .pointer none, .pointer none, .string ByteArray.empty] := by kernel_rfl
theorem fo105_0 : fieldOff Tryd.prog 105 0 = some 0 := by kernel_rfl
theorem fo105_1 : fieldOff Tryd.prog 105 1 = some 1 := by kernel_rfl
theorem fo105_2 : fieldOff Tryd.prog 105 2 = some 2 := by kernel_rfl
theorem fo105_3 : fieldOff Tryd.prog 105 3 = some 3 := by kernel_rfl
theorem sz106 : (Tryd.prog.info? 106).map (·.size) = some 4 := by kernel_rfl
theorem zc106 : zeroCells Tryd.prog 106 = some [.pointer none, .pointer none, .pointer none, .string ByteArray.empty] := by kernel_rfl
theorem fo106_0 : fieldOff Tryd.prog 106 0 = some 0 := by kernel_rfl
theorem fo106_1 : fieldOff Tryd.prog 106 1 = some 1 := by kernel_rfl
theorem fo106_2 : fieldOff Tryd.prog 106 2 = some 2 := by kernel_rfl
theorem fo106_3 : fieldOff Tryd.prog 106 3 = some 3 := by kernel_rfl
theorem sz107 : (Tryd.prog.info? 107).map (·.size) = some 0 := by kernel_rfl
theorem zc107 : zeroCells Tryd.prog 107 = some [] := by kernel_rfl
theorem sz108 : (Tryd.prog.info? 108).map (·.size) = some 0 := by kernel_rfl
theorem zc108 : zeroCells Tryd.prog 108 = some [] := by kernel_rfl
theorem sz109 : (Tryd.prog.info? 109).map (·.size) = some 0 := by kernel_rfl
theorem zc109 : zeroCells Tryd.prog 109 = some [] := by kernel_rfl
theorem one110 : one Tryd.prog 110 = true := by kernel_rfl
theorem sz110 : (Tryd.prog.info? 110).map (·.size) = some 1 := by kernel_rfl
theorem zc110 : zeroCells Tryd.prog 110 = some [.int .u8 0] := by kernel_rfl
theorem ze110 : (Tryd.prog.info? 110).bind (·.zero) = some (.int .u8 0) := by kernel_rfl
theorem one111 : one Tryd.prog 111 = true := by kernel_rfl
theorem sz111 : (Tryd.prog.info? 111).map (·.size) = some 1 := by kernel_rfl
theorem zc111 : zeroCells Tryd.prog 111 = some [.int .u8 0] := by kernel_rfl
theorem ze111 : (Tryd.prog.info? 111).bind (·.zero) = some (.int .u8 0) := by kernel_rfl
theorem one112 : one Tryd.prog 112 = true := by kernel_rfl
theorem sz112 : (Tryd.prog.info? 112).map (·.size) = some 1 := by kernel_rfl
theorem zc112 : zeroCells Tryd.prog 112 = some [.nilFunc] := by kernel_rfl
theorem ze112 : (Tryd.prog.info? 112).bind (·.zero) = some (.nilFunc) := by kernel_rfl
theorem one113 : one Tryd.prog 113 = true := by kernel_rfl
theorem sz113 : (Tryd.prog.info? 113).map (·.size) = some 1 := by kernel_rfl
theorem zc113 : zeroCells Tryd.prog 113 = some [.int .i32 0] := by kernel_rfl
theorem ze113 : (Tryd.prog.info? 113).bind (·.zero) = some (.int .i32 0) := by kernel_rfl
theorem one114 : one Tryd.prog 114 = true := by kernel_rfl
theorem sz114 : (Tryd.prog.info? 114).map (·.size) = some 1 := by kernel_rfl
theorem zc114 : zeroCells Tryd.prog 114 = some [.int .i32 0] := by kernel_rfl
theorem ze114 : (Tryd.prog.info? 114).bind (·.zero) = some (.int .i32 0) := by kernel_rfl
theorem sz115 : (Tryd.prog.info? 115).map (·.size) = some 11 := by kernel_rfl
theorem zc115 : zeroCells Tryd.prog 115 = some [.int .u64 0, .int .u64 0, .int .u32 0, .int .u8 0, .int .u8 0, .int .u8 0, .int .u8 0, .nilFunc, .pointer none, .int .i32 0, .int .i32 0] := by kernel_rfl
theorem fo115_0 : fieldOff Tryd.prog 115 0 = some 0 := by kernel_rfl
theorem fo115_1 : fieldOff Tryd.prog 115 1 = some 1 := by kernel_rfl
theorem fo115_2 : fieldOff Tryd.prog 115 2 = some 2 := by kernel_rfl
theorem fo115_3 : fieldOff Tryd.prog 115 3 = some 3 := by kernel_rfl
theorem fo115_4 : fieldOff Tryd.prog 115 4 = some 4 := by kernel_rfl
theorem fo115_5 : fieldOff Tryd.prog 115 5 = some 5 := by kernel_rfl
theorem fo115_6 : fieldOff Tryd.prog 115 6 = some 6 := by kernel_rfl
theorem fo115_7 : fieldOff Tryd.prog 115 7 = some 7 := by kernel_rfl
theorem fo115_8 : fieldOff Tryd.prog 115 8 = some 8 := by kernel_rfl
theorem fo115_9 : fieldOff Tryd.prog 115 9 = some 9 := by kernel_rfl
theorem fo115_10 : fieldOff Tryd.prog 115 10 = some 10 := by kernel_rfl
theorem sz116 : (Tryd.prog.info? 116).map (·.size) = some 11 := by kernel_rfl
theorem zc116 : zeroCells Tryd.prog 116 = some [.int .u64 0, .int .u64 0, .int .u32 0, .int .u8 0, .int .u8 0, .int .u8 0, .int .u8 0, .nilFunc, .pointer none, .int .i32 0, .int .i32 0] := by kernel_rfl
theorem fo116_0 : fieldOff Tryd.prog 116 0 = some 0 := by kernel_rfl
theorem fo116_1 : fieldOff Tryd.prog 116 1 = some 1 := by kernel_rfl
theorem fo116_2 : fieldOff Tryd.prog 116 2 = some 2 := by kernel_rfl
theorem fo116_3 : fieldOff Tryd.prog 116 3 = some 3 := by kernel_rfl
theorem fo116_4 : fieldOff Tryd.prog 116 4 = some 4 := by kernel_rfl
theorem fo116_5 : fieldOff Tryd.prog 116 5 = some 5 := by kernel_rfl
theorem fo116_6 : fieldOff Tryd.prog 116 6 = some 6 := by kernel_rfl
theorem fo116_7 : fieldOff Tryd.prog 116 7 = some 7 := by kernel_rfl
theorem fo116_8 : fieldOff Tryd.prog 116 8 = some 8 := by kernel_rfl
theorem fo116_9 : fieldOff Tryd.prog 116 9 = some 9 := by kernel_rfl
theorem fo116_10 : fieldOff Tryd.prog 116 10 = some 10 := by kernel_rfl
theorem en2 : enters Tryd.prog 2 = true := by kernel_rfl
theorem en3 : enters Tryd.prog 3 = true := by kernel_rfl
theorem en4 : enters Tryd.prog 4 = true := by kernel_rfl
theorem en5 : enters Tryd.prog 5 = true := by kernel_rfl
theorem en6 : enters Tryd.prog 6 = true := by kernel_rfl
theorem en7 : enters Tryd.prog 7 = true := by kernel_rfl
theorem en8 : enters Tryd.prog 8 = true := by kernel_rfl
theorem en9 : enters Tryd.prog 9 = true := by kernel_rfl
theorem en10 : enters Tryd.prog 10 = true := by kernel_rfl
theorem en11 : enters Tryd.prog 11 = true := by kernel_rfl
theorem en12 : enters Tryd.prog 12 = true := by kernel_rfl
theorem en13 : enters Tryd.prog 13 = true := by kernel_rfl
theorem en14 : enters Tryd.prog 14 = true := by kernel_rfl
theorem en15 : enters Tryd.prog 15 = true := by kernel_rfl
theorem en16 : enters Tryd.prog 16 = true := by kernel_rfl
theorem en17 : enters Tryd.prog 17 = true := by kernel_rfl
theorem en18 : enters Tryd.prog 18 = true := by kernel_rfl
theorem en19 : enters Tryd.prog 19 = true := by kernel_rfl
theorem en20 : enters Tryd.prog 20 = true := by kernel_rfl
theorem en21 : enters Tryd.prog 21 = true := by kernel_rfl
theorem en22 : enters Tryd.prog 22 = true := by kernel_rfl
theorem en23 : enters Tryd.prog 23 = true := by kernel_rfl
theorem en24 : enters Tryd.prog 24 = true := by kernel_rfl
theorem en25 : enters Tryd.prog 25 = true := by kernel_rfl
theorem en26 : enters Tryd.prog 26 = true := by kernel_rfl
theorem en27 : enters Tryd.prog 27 = true := by kernel_rfl
theorem en28 : enters Tryd.prog 28 = true := by kernel_rfl
theorem en29 : enters Tryd.prog 29 = true := by kernel_rfl
theorem en30 : enters Tryd.prog 30 = true := by kernel_rfl
theorem en31 : enters Tryd.prog 31 = true := by kernel_rfl
theorem en32 : enters Tryd.prog 32 = true := by kernel_rfl
theorem en33 : enters Tryd.prog 33 = true := by kernel_rfl
theorem en34 : enters Tryd.prog 34 = true := by kernel_rfl
theorem en35 : enters Tryd.prog 35 = true := by kernel_rfl
theorem en36 : enters Tryd.prog 36 = true := by kernel_rfl
theorem en37 : enters Tryd.prog 37 = true := by kernel_rfl
theorem en38 : enters Tryd.prog 38 = true := by kernel_rfl
theorem en39 : enters Tryd.prog 39 = true := by kernel_rfl
theorem en40 : enters Tryd.prog 40 = true := by kernel_rfl
theorem en41 : enters Tryd.prog 41 = true := by kernel_rfl
theorem en42 : enters Tryd.prog 42 = true := by kernel_rfl
theorem en43 : enters Tryd.prog 43 = true := by kernel_rfl
theorem en44 : enters Tryd.prog 44 = true := by kernel_rfl
theorem en45 : enters Tryd.prog 45 = true := by kernel_rfl
theorem en46 : enters Tryd.prog 46 = true := by kernel_rfl
theorem en47 : enters Tryd.prog 47 = true := by kernel_rfl
theorem en48 : enters Tryd.prog 48 = true := by kernel_rfl
theorem en49 : enters Tryd.prog 49 = true := by kernel_rfl
theorem en50 : enters Tryd.prog 50 = true := by kernel_rfl
theorem en51 : enters Tryd.prog 51 = true := by kernel_rfl
theorem en52 : enters Tryd.prog 52 = true := by kernel_rfl
theorem en53 : enters Tryd.prog 53 = true := by kernel_rfl
theorem en54 : enters Tryd.prog 54 = true := by kernel_rfl
theorem en55 : enters Tryd.prog 55 = true := by kernel_rfl
theorem en56 : enters Tryd.prog 56 = true := by kernel_rfl
theorem en57 : enters Tryd.prog 57 = true := by kernel_rfl
theorem en58 : enters Tryd.prog 58 = true := by kernel_rfl
theorem en59 : enters Tryd.prog 59 = true := by kernel_rfl
theorem en60 : enters Tryd.prog 60 = true := by kernel_rfl
theorem en61 : enters Tryd.prog 61 = true := by kernel_rfl
theorem en62 : enters Tryd.prog 62 = true := by kernel_rfl
theorem en63 : enters Tryd.prog 63 = true := by kernel_rfl
theorem en64 : enters Tryd.prog 64 = true := by kernel_rfl
theorem en65 : enters Tryd.prog 65 = true := by kernel_rfl
theorem en66 : enters Tryd.prog 66 = true := by kernel_rfl
theorem en67 : enters Tryd.prog 67 = true := by kernel_rfl
theorem en68 : enters Tryd.prog 68 = true := by kernel_rfl
theorem en71 : enters Tryd.prog 71 = true := by kernel_rfl
theorem en72 : enters Tryd.prog 72 = true := by kernel_rfl
theorem en73 : enters Tryd.prog 73 = true := by kernel_rfl
theorem en74 : enters Tryd.prog 74 = true := by kernel_rfl
theorem en75 : enters Tryd.prog 75 = true := by kernel_rfl
theorem en76 : enters Tryd.prog 76 = true := by kernel_rfl
theorem en77 : enters Tryd.prog 77 = true := by kernel_rfl
theorem en78 : enters Tryd.prog 78 = true := by kernel_rfl
theorem en79 : enters Tryd.prog 79 = true := by kernel_rfl
theorem en80 : enters Tryd.prog 80 = true := by kernel_rfl
theorem en81 : enters Tryd.prog 81 = true := by kernel_rfl
theorem en82 : enters Tryd.prog 82 = true := by kernel_rfl
theorem en83 : enters Tryd.prog 83 = true := by kernel_rfl
theorem en108 : enters Tryd.prog 108 = true := by kernel_rfl
end Go.Proofs.YthldjchogdefjaaDoor
