import Derived.Test.YtegmhdabedgloaaPr
import Derived.Test.YtegmhdabedgloaaProg
import Derived.KernelRfl
namespace Go.Proofs.Ytegmhdabedgloaa
open Go.PF
theorem mixed : Try.prog.follows .mixedOrders = true := by kernel_rfl
theorem one1 : one Try.prog 1 = true := by kernel_rfl
theorem sz1 : (Try.prog.info? 1).map (·.size) = some 1 := by kernel_rfl
theorem zc1 : zeroCells Try.prog 1 = some [.nilFunc] := by kernel_rfl
theorem ze1 : (Try.prog.info? 1).bind (·.zero) = some (.nilFunc) := by kernel_rfl
theorem one2 : one Try.prog 2 = true := by kernel_rfl
theorem sz2 : (Try.prog.info? 2).map (·.size) = some 1 := by kernel_rfl
theorem zc2 : zeroCells Try.prog 2 = some [.int .i64 0] := by kernel_rfl
theorem ze2 : (Try.prog.info? 2).bind (·.zero) = some (.int .i64 0) := by kernel_rfl
theorem one3 : one Try.prog 3 = true := by kernel_rfl
theorem sz3 : (Try.prog.info? 3).map (·.size) = some 1 := by kernel_rfl
theorem zc3 : zeroCells Try.prog 3 = some [.int .i64 0] := by kernel_rfl
theorem ze3 : (Try.prog.info? 3).bind (·.zero) = some (.int .i64 0) := by kernel_rfl
theorem one4 : one Try.prog 4 = true := by kernel_rfl
theorem sz4 : (Try.prog.info? 4).map (·.size) = some 1 := by kernel_rfl
theorem zc4 : zeroCells Try.prog 4 = some [.bool false] := by kernel_rfl
theorem ze4 : (Try.prog.info? 4).bind (·.zero) = some (.bool false) := by kernel_rfl
theorem one5 : one Try.prog 5 = true := by kernel_rfl
theorem sz5 : (Try.prog.info? 5).map (·.size) = some 1 := by kernel_rfl
theorem zc5 : zeroCells Try.prog 5 = some [.int .u8 0] := by kernel_rfl
theorem ze5 : (Try.prog.info? 5).bind (·.zero) = some (.int .u8 0) := by kernel_rfl
theorem one6 : one Try.prog 6 = true := by kernel_rfl
theorem sz6 : (Try.prog.info? 6).map (·.size) = some 1 := by kernel_rfl
theorem zc6 : zeroCells Try.prog 6 = some [.int .u8 0] := by kernel_rfl
theorem ze6 : (Try.prog.info? 6).bind (·.zero) = some (.int .u8 0) := by kernel_rfl
theorem sz7 : (Try.prog.info? 7).map (·.size) = some 4 := by kernel_rfl
theorem zc7 : zeroCells Try.prog 7 = some [.int .i64 0, .int .i64 0, .bool false, .int .u8 0] := by kernel_rfl
theorem fo7_0 : fieldOff Try.prog 7 0 = some 0 := by kernel_rfl
theorem fo7_1 : fieldOff Try.prog 7 1 = some 1 := by kernel_rfl
theorem fo7_2 : fieldOff Try.prog 7 2 = some 2 := by kernel_rfl
theorem fo7_3 : fieldOff Try.prog 7 3 = some 3 := by kernel_rfl
theorem sz8 : (Try.prog.info? 8).map (·.size) = some 4 := by kernel_rfl
theorem zc8 : zeroCells Try.prog 8 = some [.int .i64 0, .int .i64 0, .bool false, .int .u8 0] := by kernel_rfl
theorem fo8_0 : fieldOff Try.prog 8 0 = some 0 := by kernel_rfl
theorem fo8_1 : fieldOff Try.prog 8 1 = some 1 := by kernel_rfl
theorem fo8_2 : fieldOff Try.prog 8 2 = some 2 := by kernel_rfl
theorem fo8_3 : fieldOff Try.prog 8 3 = some 3 := by kernel_rfl
theorem one9 : one Try.prog 9 = true := by kernel_rfl
theorem sz9 : (Try.prog.info? 9).map (·.size) = some 1 := by kernel_rfl
theorem zc9 : zeroCells Try.prog 9 = some [.string ByteArray.empty] := by kernel_rfl
theorem ze9 : (Try.prog.info? 9).bind (·.zero) = some (.string ByteArray.empty) := by kernel_rfl
theorem one10 : one Try.prog 10 = true := by kernel_rfl
theorem sz10 : (Try.prog.info? 10).map (·.size) = some 1 := by kernel_rfl
theorem zc10 : zeroCells Try.prog 10 = some [.string ByteArray.empty] := by kernel_rfl
theorem ze10 : (Try.prog.info? 10).bind (·.zero) = some (.string ByteArray.empty) := by kernel_rfl
theorem one11 : one Try.prog 11 = true := by kernel_rfl
theorem sz11 : (Try.prog.info? 11).map (·.size) = some 1 := by kernel_rfl
theorem zc11 : zeroCells Try.prog 11 = some [.string ByteArray.empty] := by kernel_rfl
theorem ze11 : (Try.prog.info? 11).bind (·.zero) = some (.string ByteArray.empty) := by kernel_rfl
theorem one12 : one Try.prog 12 = true := by kernel_rfl
theorem sz12 : (Try.prog.info? 12).map (·.size) = some 1 := by kernel_rfl
theorem zc12 : zeroCells Try.prog 12 = some [.int .u64 0] := by kernel_rfl
theorem ze12 : (Try.prog.info? 12).bind (·.zero) = some (.int .u64 0) := by kernel_rfl
theorem sz13 : (Try.prog.info? 13).map (·.size) = some 2 := by kernel_rfl
theorem zc13 : zeroCells Try.prog 13 = some [.string ByteArray.empty, .int .u64 0] := by kernel_rfl
theorem fo13_0 : fieldOff Try.prog 13 0 = some 0 := by kernel_rfl
theorem fo13_1 : fieldOff Try.prog 13 1 = some 1 := by kernel_rfl
theorem sz14 : (Try.prog.info? 14).map (·.size) = some 2 := by kernel_rfl
theorem zc14 : zeroCells Try.prog 14 = some [.string ByteArray.empty, .int .u64 0] := by kernel_rfl
theorem fo14_0 : fieldOff Try.prog 14 0 = some 0 := by kernel_rfl
theorem fo14_1 : fieldOff Try.prog 14 1 = some 1 := by kernel_rfl
theorem one15 : one Try.prog 15 = true := by kernel_rfl
theorem sz15 : (Try.prog.info? 15).map (·.size) = some 1 := by kernel_rfl
theorem zc15 : zeroCells Try.prog 15 = some [.pointer none] := by kernel_rfl
theorem ze15 : (Try.prog.info? 15).bind (·.zero) = some (.pointer none) := by kernel_rfl
theorem one16 : one Try.prog 16 = true := by kernel_rfl
theorem sz16 : (Try.prog.info? 16).map (·.size) = some 1 := by kernel_rfl
theorem zc16 : zeroCells Try.prog 16 = some [.pointer none] := by kernel_rfl
theorem ze16 : (Try.prog.info? 16).bind (·.zero) = some (.pointer none) := by kernel_rfl
theorem one17 : one Try.prog 17 = true := by kernel_rfl
theorem sz17 : (Try.prog.info? 17).map (·.size) = some 1 := by kernel_rfl
theorem zc17 : zeroCells Try.prog 17 = some [.pointer none] := by kernel_rfl
theorem ze17 : (Try.prog.info? 17).bind (·.zero) = some (.pointer none) := by kernel_rfl
theorem sz18 : (Try.prog.info? 18).map (·.size) = some 1 := by kernel_rfl
theorem zc18 : zeroCells Try.prog 18 = some [.pointer none] := by kernel_rfl
theorem fo18_0 : fieldOff Try.prog 18 0 = some 0 := by kernel_rfl
theorem sz19 : (Try.prog.info? 19).map (·.size) = some 1 := by kernel_rfl
theorem zc19 : zeroCells Try.prog 19 = some [.pointer none] := by kernel_rfl
theorem fo19_0 : fieldOff Try.prog 19 0 = some 0 := by kernel_rfl
theorem one20 : one Try.prog 20 = true := by kernel_rfl
theorem sz20 : (Try.prog.info? 20).map (·.size) = some 1 := by kernel_rfl
theorem zc20 : zeroCells Try.prog 20 = some [.nilIface] := by kernel_rfl
theorem ze20 : (Try.prog.info? 20).bind (·.zero) = some (.nilIface) := by kernel_rfl
theorem one21 : one Try.prog 21 = true := by kernel_rfl
theorem sz21 : (Try.prog.info? 21).map (·.size) = some 1 := by kernel_rfl
theorem zc21 : zeroCells Try.prog 21 = some [.int .i32 0] := by kernel_rfl
theorem ze21 : (Try.prog.info? 21).bind (·.zero) = some (.int .i32 0) := by kernel_rfl
theorem one22 : one Try.prog 22 = true := by kernel_rfl
theorem sz22 : (Try.prog.info? 22).map (·.size) = some 1 := by kernel_rfl
theorem zc22 : zeroCells Try.prog 22 = some [.slice none 0 0] := by kernel_rfl
theorem eo22 : elemOK Try.prog 22 28 5 = true := by kernel_rfl
theorem go22 : growOK Try.prog 22 28 5 48 = true := by kernel_rfl
theorem ze22 : (Try.prog.info? 22).bind (·.zero) = some (.slice none 0 0) := by kernel_rfl
theorem one23 : one Try.prog 23 = true := by kernel_rfl
theorem sz23 : (Try.prog.info? 23).map (·.size) = some 1 := by kernel_rfl
theorem zc23 : zeroCells Try.prog 23 = some [.nilFunc] := by kernel_rfl
theorem ze23 : (Try.prog.info? 23).bind (·.zero) = some (.nilFunc) := by kernel_rfl
theorem one24 : one Try.prog 24 = true := by kernel_rfl
theorem sz24 : (Try.prog.info? 24).map (·.size) = some 1 := by kernel_rfl
theorem zc24 : zeroCells Try.prog 24 = some [.nilFunc] := by kernel_rfl
theorem ze24 : (Try.prog.info? 24).bind (·.zero) = some (.nilFunc) := by kernel_rfl
theorem one25 : one Try.prog 25 = true := by kernel_rfl
theorem sz25 : (Try.prog.info? 25).map (·.size) = some 1 := by kernel_rfl
theorem zc25 : zeroCells Try.prog 25 = some [.slice none 0 0] := by kernel_rfl
theorem eo25 : elemOK Try.prog 25 3 1 = true := by kernel_rfl
theorem go25 : growOK Try.prog 25 3 1 8 = true := by kernel_rfl
theorem ze25 : (Try.prog.info? 25).bind (·.zero) = some (.slice none 0 0) := by kernel_rfl
theorem one26 : one Try.prog 26 = true := by kernel_rfl
theorem sz26 : (Try.prog.info? 26).map (·.size) = some 1 := by kernel_rfl
theorem zc26 : zeroCells Try.prog 26 = some [.nilFunc] := by kernel_rfl
theorem ze26 : (Try.prog.info? 26).bind (·.zero) = some (.nilFunc) := by kernel_rfl
theorem sz27 : (Try.prog.info? 27).map (·.size) = some 5 := by kernel_rfl
theorem zc27 : zeroCells Try.prog 27 = some [.string ByteArray.empty, .int .i64 0, .int .i64 0, .int .i64 0, .bool false] := by kernel_rfl
theorem fo27_0 : fieldOff Try.prog 27 0 = some 0 := by kernel_rfl
theorem fo27_1 : fieldOff Try.prog 27 1 = some 1 := by kernel_rfl
theorem fo27_2 : fieldOff Try.prog 27 2 = some 2 := by kernel_rfl
theorem fo27_3 : fieldOff Try.prog 27 3 = some 3 := by kernel_rfl
theorem fo27_4 : fieldOff Try.prog 27 4 = some 4 := by kernel_rfl
theorem sz28 : (Try.prog.info? 28).map (·.size) = some 5 := by kernel_rfl
theorem zc28 : zeroCells Try.prog 28 = some [.string ByteArray.empty, .int .i64 0, .int .i64 0, .int .i64 0, .bool false] := by kernel_rfl
theorem fo28_0 : fieldOff Try.prog 28 0 = some 0 := by kernel_rfl
theorem fo28_1 : fieldOff Try.prog 28 1 = some 1 := by kernel_rfl
theorem fo28_2 : fieldOff Try.prog 28 2 = some 2 := by kernel_rfl
theorem fo28_3 : fieldOff Try.prog 28 3 = some 3 := by kernel_rfl
theorem fo28_4 : fieldOff Try.prog 28 4 = some 4 := by kernel_rfl
theorem one29 : one Try.prog 29 = true := by kernel_rfl
theorem sz29 : (Try.prog.info? 29).map (·.size) = some 1 := by kernel_rfl
theorem zc29 : zeroCells Try.prog 29 = some [.nilFunc] := by kernel_rfl
theorem ze29 : (Try.prog.info? 29).bind (·.zero) = some (.nilFunc) := by kernel_rfl
theorem one30 : one Try.prog 30 = true := by kernel_rfl
theorem sz30 : (Try.prog.info? 30).map (·.size) = some 1 := by kernel_rfl
theorem zc30 : zeroCells Try.prog 30 = some [.nilFunc] := by kernel_rfl
theorem ze30 : (Try.prog.info? 30).bind (·.zero) = some (.nilFunc) := by kernel_rfl
theorem one31 : one Try.prog 31 = true := by kernel_rfl
theorem sz31 : (Try.prog.info? 31).map (·.size) = some 1 := by kernel_rfl
theorem zc31 : zeroCells Try.prog 31 = some [.nilFunc] := by kernel_rfl
theorem ze31 : (Try.prog.info? 31).bind (·.zero) = some (.nilFunc) := by kernel_rfl
theorem one32 : one Try.prog 32 = true := by kernel_rfl
theorem sz32 : (Try.prog.info? 32).map (·.size) = some 1 := by kernel_rfl
theorem zc32 : zeroCells Try.prog 32 = some [.nilFunc] := by kernel_rfl
theorem ze32 : (Try.prog.info? 32).bind (·.zero) = some (.nilFunc) := by kernel_rfl
theorem one33 : one Try.prog 33 = true := by kernel_rfl
theorem sz33 : (Try.prog.info? 33).map (·.size) = some 1 := by kernel_rfl
theorem zc33 : zeroCells Try.prog 33 = some [.int .i64 0] := by kernel_rfl
theorem ze33 : (Try.prog.info? 33).bind (·.zero) = some (.int .i64 0) := by kernel_rfl
theorem one35 : one Try.prog 35 = true := by kernel_rfl
theorem sz35 : (Try.prog.info? 35).map (·.size) = some 1 := by kernel_rfl
theorem zc35 : zeroCells Try.prog 35 = some [.nilFunc] := by kernel_rfl
theorem ze35 : (Try.prog.info? 35).bind (·.zero) = some (.nilFunc) := by kernel_rfl
theorem one36 : one Try.prog 36 = true := by kernel_rfl
theorem sz36 : (Try.prog.info? 36).map (·.size) = some 1 := by kernel_rfl
theorem zc36 : zeroCells Try.prog 36 = some [.nilFunc] := by kernel_rfl
theorem ze36 : (Try.prog.info? 36).bind (·.zero) = some (.nilFunc) := by kernel_rfl
theorem one37 : one Try.prog 37 = true := by kernel_rfl
theorem sz37 : (Try.prog.info? 37).map (·.size) = some 1 := by kernel_rfl
theorem zc37 : zeroCells Try.prog 37 = some [.nilFunc] := by kernel_rfl
theorem ze37 : (Try.prog.info? 37).bind (·.zero) = some (.nilFunc) := by kernel_rfl
theorem one38 : one Try.prog 38 = true := by kernel_rfl
theorem sz38 : (Try.prog.info? 38).map (·.size) = some 1 := by kernel_rfl
theorem zc38 : zeroCells Try.prog 38 = some [.nilFunc] := by kernel_rfl
theorem ze38 : (Try.prog.info? 38).bind (·.zero) = some (.nilFunc) := by kernel_rfl
theorem one39 : one Try.prog 39 = true := by kernel_rfl
theorem sz39 : (Try.prog.info? 39).map (·.size) = some 1 := by kernel_rfl
theorem zc39 : zeroCells Try.prog 39 = some [.nilFunc] := by kernel_rfl
theorem ze39 : (Try.prog.info? 39).bind (·.zero) = some (.nilFunc) := by kernel_rfl
theorem one40 : one Try.prog 40 = true := by kernel_rfl
theorem sz40 : (Try.prog.info? 40).map (·.size) = some 1 := by kernel_rfl
theorem zc40 : zeroCells Try.prog 40 = some [.nilFunc] := by kernel_rfl
theorem ze40 : (Try.prog.info? 40).bind (·.zero) = some (.nilFunc) := by kernel_rfl
theorem one41 : one Try.prog 41 = true := by kernel_rfl
theorem sz41 : (Try.prog.info? 41).map (·.size) = some 1 := by kernel_rfl
theorem zc41 : zeroCells Try.prog 41 = some [.nilFunc] := by kernel_rfl
theorem ze41 : (Try.prog.info? 41).bind (·.zero) = some (.nilFunc) := by kernel_rfl
theorem one42 : one Try.prog 42 = true := by kernel_rfl
theorem sz42 : (Try.prog.info? 42).map (·.size) = some 1 := by kernel_rfl
theorem zc42 : zeroCells Try.prog 42 = some [.slice none 0 0] := by kernel_rfl
theorem eo42 : elemOK Try.prog 42 43 1 = true := by kernel_rfl
theorem go42 : growOK Try.prog 42 43 1 2 = true := by kernel_rfl
theorem ze42 : (Try.prog.info? 42).bind (·.zero) = some (.slice none 0 0) := by kernel_rfl
theorem one43 : one Try.prog 43 = true := by kernel_rfl
theorem sz43 : (Try.prog.info? 43).map (·.size) = some 1 := by kernel_rfl
theorem zc43 : zeroCells Try.prog 43 = some [.int .u16 0] := by kernel_rfl
theorem ze43 : (Try.prog.info? 43).bind (·.zero) = some (.int .u16 0) := by kernel_rfl
theorem one44 : one Try.prog 44 = true := by kernel_rfl
theorem sz44 : (Try.prog.info? 44).map (·.size) = some 1 := by kernel_rfl
theorem zc44 : zeroCells Try.prog 44 = some [.nilFunc] := by kernel_rfl
theorem ze44 : (Try.prog.info? 44).bind (·.zero) = some (.nilFunc) := by kernel_rfl
theorem one45 : one Try.prog 45 = true := by kernel_rfl
theorem sz45 : (Try.prog.info? 45).map (·.size) = some 1 := by kernel_rfl
theorem zc45 : zeroCells Try.prog 45 = some [.nilFunc] := by kernel_rfl
theorem ze45 : (Try.prog.info? 45).bind (·.zero) = some (.nilFunc) := by kernel_rfl
theorem one46 : one Try.prog 46 = true := by kernel_rfl
theorem sz46 : (Try.prog.info? 46).map (·.size) = some 1 := by kernel_rfl
theorem zc46 : zeroCells Try.prog 46 = some [.nilFunc] := by kernel_rfl
theorem ze46 : (Try.prog.info? 46).bind (·.zero) = some (.nilFunc) := by kernel_rfl
theorem one47 : one Try.prog 47 = true := by kernel_rfl
theorem sz47 : (Try.prog.info? 47).map (·.size) = some 1 := by kernel_rfl
theorem zc47 : zeroCells Try.prog 47 = some [.nilFunc] := by kernel_rfl
theorem ze47 : (Try.prog.info? 47).bind (·.zero) = some (.nilFunc) := by kernel_rfl
theorem one48 : one Try.prog 48 = true := by kernel_rfl
theorem sz48 : (Try.prog.info? 48).map (·.size) = some 1 := by kernel_rfl
theorem zc48 : zeroCells Try.prog 48 = some [.nilFunc] := by kernel_rfl
theorem ze48 : (Try.prog.info? 48).bind (·.zero) = some (.nilFunc) := by kernel_rfl
theorem one49 : one Try.prog 49 = true := by kernel_rfl
theorem sz49 : (Try.prog.info? 49).map (·.size) = some 1 := by kernel_rfl
theorem zc49 : zeroCells Try.prog 49 = some [.nilFunc] := by kernel_rfl
theorem ze49 : (Try.prog.info? 49).bind (·.zero) = some (.nilFunc) := by kernel_rfl
theorem one50 : one Try.prog 50 = true := by kernel_rfl
theorem sz50 : (Try.prog.info? 50).map (·.size) = some 1 := by kernel_rfl
theorem zc50 : zeroCells Try.prog 50 = some [.nilFunc] := by kernel_rfl
theorem ze50 : (Try.prog.info? 50).bind (·.zero) = some (.nilFunc) := by kernel_rfl
theorem one51 : one Try.prog 51 = true := by kernel_rfl
theorem sz51 : (Try.prog.info? 51).map (·.size) = some 1 := by kernel_rfl
theorem zc51 : zeroCells Try.prog 51 = some [.nilFunc] := by kernel_rfl
theorem ze51 : (Try.prog.info? 51).bind (·.zero) = some (.nilFunc) := by kernel_rfl
theorem sz52 : (Try.prog.info? 52).map (·.size) = some 2 := by kernel_rfl
theorem zc52 : zeroCells Try.prog 52 = some [.nilFunc, .int .i64 0] := by kernel_rfl
theorem fo52_0 : fieldOff Try.prog 52 0 = some 0 := by kernel_rfl
theorem fo52_1 : fieldOff Try.prog 52 1 = some 1 := by kernel_rfl
theorem sz53 : (Try.prog.info? 53).map (·.size) = some 2 := by kernel_rfl
theorem zc53 : zeroCells Try.prog 53 = some [.nilFunc, .int .i64 0] := by kernel_rfl
theorem fo53_0 : fieldOff Try.prog 53 0 = some 0 := by kernel_rfl
theorem fo53_1 : fieldOff Try.prog 53 1 = some 1 := by kernel_rfl
theorem one54 : one Try.prog 54 = true := by kernel_rfl
theorem sz54 : (Try.prog.info? 54).map (·.size) = some 1 := by kernel_rfl
theorem zc54 : zeroCells Try.prog 54 = some [.nilFunc] := by kernel_rfl
theorem ze54 : (Try.prog.info? 54).bind (·.zero) = some (.nilFunc) := by kernel_rfl
theorem one55 : one Try.prog 55 = true := by kernel_rfl
theorem sz55 : (Try.prog.info? 55).map (·.size) = some 1 := by kernel_rfl
theorem zc55 : zeroCells Try.prog 55 = some [.nilFunc] := by kernel_rfl
theorem ze55 : (Try.prog.info? 55).bind (·.zero) = some (.nilFunc) := by kernel_rfl
theorem one56 : one Try.prog 56 = true := by kernel_rfl
theorem sz56 : (Try.prog.info? 56).map (·.size) = some 1 := by kernel_rfl
theorem zc56 : zeroCells Try.prog 56 = some [.nilFunc] := by kernel_rfl
theorem ze56 : (Try.prog.info? 56).bind (·.zero) = some (.nilFunc) := by kernel_rfl
theorem one57 : one Try.prog 57 = true := by kernel_rfl
theorem sz57 : (Try.prog.info? 57).map (·.size) = some 1 := by kernel_rfl
theorem zc57 : zeroCells Try.prog 57 = some [.nilFunc] := by kernel_rfl
theorem ze57 : (Try.prog.info? 57).bind (·.zero) = some (.nilFunc) := by kernel_rfl
theorem one58 : one Try.prog 58 = true := by kernel_rfl
theorem sz58 : (Try.prog.info? 58).map (·.size) = some 1 := by kernel_rfl
theorem zc58 : zeroCells Try.prog 58 = some [.map none] := by kernel_rfl
theorem ze58 : (Try.prog.info? 58).bind (·.zero) = some (.map none) := by kernel_rfl
theorem one59 : one Try.prog 59 = true := by kernel_rfl
theorem sz59 : (Try.prog.info? 59).map (·.size) = some 1 := by kernel_rfl
theorem zc59 : zeroCells Try.prog 59 = some [.nilFunc] := by kernel_rfl
theorem ze59 : (Try.prog.info? 59).bind (·.zero) = some (.nilFunc) := by kernel_rfl
theorem one60 : one Try.prog 60 = true := by kernel_rfl
theorem sz60 : (Try.prog.info? 60).map (·.size) = some 1 := by kernel_rfl
theorem zc60 : zeroCells Try.prog 60 = some [.nilFunc] := by kernel_rfl
theorem ze60 : (Try.prog.info? 60).bind (·.zero) = some (.nilFunc) := by kernel_rfl
theorem one61 : one Try.prog 61 = true := by kernel_rfl
theorem sz61 : (Try.prog.info? 61).map (·.size) = some 1 := by kernel_rfl
theorem zc61 : zeroCells Try.prog 61 = some [.nilFunc] := by kernel_rfl
theorem ze61 : (Try.prog.info? 61).bind (·.zero) = some (.nilFunc) := by kernel_rfl
theorem one62 : one Try.prog 62 = true := by kernel_rfl
theorem sz62 : (Try.prog.info? 62).map (·.size) = some 1 := by kernel_rfl
theorem zc62 : zeroCells Try.prog 62 = some [.slice none 0 0] := by kernel_rfl
theorem eo62 : elemOK Try.prog 62 53 2 = true := by kernel_rfl
theorem go62 : growOK Try.prog 62 53 2 16 = true := by kernel_rfl
theorem ze62 : (Try.prog.info? 62).bind (·.zero) = some (.slice none 0 0) := by kernel_rfl
theorem one63 : one Try.prog 63 = true := by kernel_rfl
theorem sz63 : (Try.prog.info? 63).map (·.size) = some 1 := by kernel_rfl
theorem zc63 : zeroCells Try.prog 63 = some [.nilFunc] := by kernel_rfl
theorem ze63 : (Try.prog.info? 63).bind (·.zero) = some (.nilFunc) := by kernel_rfl
theorem one64 : one Try.prog 64 = true := by kernel_rfl
theorem sz64 : (Try.prog.info? 64).map (·.size) = some 1 := by kernel_rfl
theorem zc64 : zeroCells Try.prog 64 = some [.nilFunc] := by kernel_rfl
theorem ze64 : (Try.prog.info? 64).bind (·.zero) = some (.nilFunc) := by kernel_rfl
theorem one65 : one Try.prog 65 = true := by kernel_rfl
theorem sz65 : (Try.prog.info? 65).map (·.size) = some 1 := by kernel_rfl
theorem zc65 : zeroCells Try.prog 65 = some [.nilFunc] := by kernel_rfl
theorem ze65 : (Try.prog.info? 65).bind (·.zero) = some (.nilFunc) := by kernel_rfl
theorem one66 : one Try.prog 66 = true := by kernel_rfl
theorem sz66 : (Try.prog.info? 66).map (·.size) = some 1 := by kernel_rfl
theorem zc66 : zeroCells Try.prog 66 = some [.int .u64 0] := by kernel_rfl
theorem ze66 : (Try.prog.info? 66).bind (·.zero) = some (.int .u64 0) := by kernel_rfl
theorem one67 : one Try.prog 67 = true := by kernel_rfl
theorem sz67 : (Try.prog.info? 67).map (·.size) = some 1 := by kernel_rfl
theorem zc67 : zeroCells Try.prog 67 = some [.nilFunc] := by kernel_rfl
theorem ze67 : (Try.prog.info? 67).bind (·.zero) = some (.nilFunc) := by kernel_rfl
theorem one68 : one Try.prog 68 = true := by kernel_rfl
theorem sz68 : (Try.prog.info? 68).map (·.size) = some 1 := by kernel_rfl
theorem zc68 : zeroCells Try.prog 68 = some [.int .i64 0] := by kernel_rfl
theorem ze68 : (Try.prog.info? 68).bind (·.zero) = some (.int .i64 0) := by kernel_rfl
theorem one70 : one Try.prog 70 = true := by kernel_rfl
theorem sz70 : (Try.prog.info? 70).map (·.size) = some 1 := by kernel_rfl
theorem zc70 : zeroCells Try.prog 70 = some [.nilFunc] := by kernel_rfl
theorem ze70 : (Try.prog.info? 70).bind (·.zero) = some (.nilFunc) := by kernel_rfl
theorem one71 : one Try.prog 71 = true := by kernel_rfl
theorem sz71 : (Try.prog.info? 71).map (·.size) = some 1 := by kernel_rfl
theorem zc71 : zeroCells Try.prog 71 = some [.nilFunc] := by kernel_rfl
theorem ze71 : (Try.prog.info? 71).bind (·.zero) = some (.nilFunc) := by kernel_rfl
theorem one72 : one Try.prog 72 = true := by kernel_rfl
theorem sz72 : (Try.prog.info? 72).map (·.size) = some 1 := by kernel_rfl
theorem zc72 : zeroCells Try.prog 72 = some [.nilFunc] := by kernel_rfl
theorem ze72 : (Try.prog.info? 72).bind (·.zero) = some (.nilFunc) := by kernel_rfl
theorem one73 : one Try.prog 73 = true := by kernel_rfl
theorem sz73 : (Try.prog.info? 73).map (·.size) = some 1 := by kernel_rfl
theorem zc73 : zeroCells Try.prog 73 = some [.nilFunc] := by kernel_rfl
theorem ze73 : (Try.prog.info? 73).bind (·.zero) = some (.nilFunc) := by kernel_rfl
theorem one75 : one Try.prog 75 = true := by kernel_rfl
theorem sz75 : (Try.prog.info? 75).map (·.size) = some 1 := by kernel_rfl
theorem zc75 : zeroCells Try.prog 75 = some [.nilFunc] := by kernel_rfl
theorem ze75 : (Try.prog.info? 75).bind (·.zero) = some (.nilFunc) := by kernel_rfl
theorem one76 : one Try.prog 76 = true := by kernel_rfl
theorem sz76 : (Try.prog.info? 76).map (·.size) = some 1 := by kernel_rfl
theorem zc76 : zeroCells Try.prog 76 = some [.nilFunc] := by kernel_rfl
theorem ze76 : (Try.prog.info? 76).bind (·.zero) = some (.nilFunc) := by kernel_rfl
theorem one77 : one Try.prog 77 = true := by kernel_rfl
theorem sz77 : (Try.prog.info? 77).map (·.size) = some 1 := by kernel_rfl
theorem zc77 : zeroCells Try.prog 77 = some [.int .u32 0] := by kernel_rfl
theorem ze77 : (Try.prog.info? 77).bind (·.zero) = some (.int .u32 0) := by kernel_rfl
theorem one78 : one Try.prog 78 = true := by kernel_rfl
theorem sz78 : (Try.prog.info? 78).map (·.size) = some 1 := by kernel_rfl
theorem zc78 : zeroCells Try.prog 78 = some [.nilFunc] := by kernel_rfl
theorem ze78 : (Try.prog.info? 78).bind (·.zero) = some (.nilFunc) := by kernel_rfl
theorem one79 : one Try.prog 79 = true := by kernel_rfl
theorem sz79 : (Try.prog.info? 79).map (·.size) = some 1 := by kernel_rfl
theorem zc79 : zeroCells Try.prog 79 = some [.int .u64 0] := by kernel_rfl
theorem ze79 : (Try.prog.info? 79).bind (·.zero) = some (.int .u64 0) := by kernel_rfl
theorem one80 : one Try.prog 80 = true := by kernel_rfl
theorem sz80 : (Try.prog.info? 80).map (·.size) = some 1 := by kernel_rfl
theorem zc80 : zeroCells Try.prog 80 = some [.int .u64 0] := by kernel_rfl
theorem ze80 : (Try.prog.info? 80).bind (·.zero) = some (.int .u64 0) := by kernel_rfl
theorem one81 : one Try.prog 81 = true := by kernel_rfl
theorem sz81 : (Try.prog.info? 81).map (·.size) = some 1 := by kernel_rfl
theorem zc81 : zeroCells Try.prog 81 = some [.nilFunc] := by kernel_rfl
theorem ze81 : (Try.prog.info? 81).bind (·.zero) = some (.nilFunc) := by kernel_rfl
theorem one82 : one Try.prog 82 = true := by kernel_rfl
theorem sz82 : (Try.prog.info? 82).map (·.size) = some 1 := by kernel_rfl
theorem zc82 : zeroCells Try.prog 82 = some [.nilFunc] := by kernel_rfl
theorem ze82 : (Try.prog.info? 82).bind (·.zero) = some (.nilFunc) := by kernel_rfl
theorem one83 : one Try.prog 83 = true := by kernel_rfl
theorem sz83 : (Try.prog.info? 83).map (·.size) = some 1 := by kernel_rfl
theorem zc83 : zeroCells Try.prog 83 = some [.nilFunc] := by kernel_rfl
theorem ze83 : (Try.prog.info? 83).bind (·.zero) = some (.nilFunc) := by kernel_rfl
theorem one84 : one Try.prog 84 = true := by kernel_rfl
theorem sz84 : (Try.prog.info? 84).map (·.size) = some 1 := by kernel_rfl
theorem zc84 : zeroCells Try.prog 84 = some [.pointer none] := by kernel_rfl
theorem ze84 : (Try.prog.info? 84).bind (·.zero) = some (.pointer none) := by kernel_rfl
theorem one85 : one Try.prog 85 = true := by kernel_rfl
theorem sz85 : (Try.prog.info? 85).map (·.size) = some 1 := by kernel_rfl
theorem zc85 : zeroCells Try.prog 85 = some [.nilFunc] := by kernel_rfl
theorem ze85 : (Try.prog.info? 85).bind (·.zero) = some (.nilFunc) := by kernel_rfl
theorem one86 : one Try.prog 86 = true := by kernel_rfl
theorem sz86 : (Try.prog.info? 86).map (·.size) = some 1 := by kernel_rfl
theorem zc86 : zeroCells Try.prog 86 = some [.pointer none] := by kernel_rfl
theorem ze86 : (Try.prog.info? 86).bind (·.zero) = some (.pointer none) := by kernel_rfl
theorem one88 : one Try.prog 88 = true := by kernel_rfl
theorem sz88 : (Try.prog.info? 88).map (·.size) = some 1 := by kernel_rfl
theorem zc88 : zeroCells Try.prog 88 = some [.nilFunc] := by kernel_rfl
theorem ze88 : (Try.prog.info? 88).bind (·.zero) = some (.nilFunc) := by kernel_rfl
theorem one89 : one Try.prog 89 = true := by kernel_rfl
theorem sz89 : (Try.prog.info? 89).map (·.size) = some 1 := by kernel_rfl
theorem zc89 : zeroCells Try.prog 89 = some [.nilFunc] := by kernel_rfl
theorem ze89 : (Try.prog.info? 89).bind (·.zero) = some (.nilFunc) := by kernel_rfl
theorem sz90 : (Try.prog.info? 90).map (·.size) = some 4 := by kernel_rfl
theorem zc90 : zeroCells Try.prog 90 = some [.pointer none, .pointer none, .pointer none, .string ByteArray.empty] := by kernel_rfl
theorem fo90_0 : fieldOff Try.prog 90 0 = some 0 := by kernel_rfl
theorem fo90_1 : fieldOff Try.prog 90 1 = some 1 := by kernel_rfl
theorem fo90_2 : fieldOff Try.prog 90 2 = some 2 := by kernel_rfl
theorem fo90_3 : fieldOff Try.prog 90 3 = some 3 := by kernel_rfl
theorem sz91 : (Try.prog.info? 91).map (·.size) = some 4 := by kernel_rfl
theorem zc91 : zeroCells Try.prog 91 = some [.pointer none, .pointer none, .pointer none, .string ByteArray.empty] := by kernel_rfl
theorem fo91_0 : fieldOff Try.prog 91 0 = some 0 := by kernel_rfl
theorem fo91_1 : fieldOff Try.prog 91 1 = some 1 := by kernel_rfl
theorem fo91_2 : fieldOff Try.prog 91 2 = some 2 := by kernel_rfl
theorem fo91_3 : fieldOff Try.prog 91 3 = some 3 := by kernel_rfl
theorem sz92 : (Try.prog.info? 92).map (·.size) = some 0 := by kernel_rfl
theorem zc92 : zeroCells Try.prog 92 = some [] := by kernel_rfl
theorem sz93 : (Try.prog.info? 93).map (·.size) = some 0 := by kernel_rfl
theorem zc93 : zeroCells Try.prog 93 = some [] := by kernel_rfl
theorem sz94 : (Try.prog.info? 94).map (·.size) = some 0 := by kernel_rfl
theorem zc94 : zeroCells Try.prog 94 = some [] := by kernel_rfl
theorem one95 : one Try.prog 95 = true := by kernel_rfl
theorem sz95 : (Try.prog.info? 95).map (·.size) = some 1 := by kernel_rfl
theorem zc95 : zeroCells Try.prog 95 = some [.nilFunc] := by kernel_rfl
theorem ze95 : (Try.prog.info? 95).bind (·.zero) = some (.nilFunc) := by kernel_rfl
theorem one96 : one Try.prog 96 = true := by kernel_rfl
theorem sz96 : (Try.prog.info? 96).map (·.size) = some 1 := by kernel_rfl
theorem zc96 : zeroCells Try.prog 96 = some [.int .u8 0] := by kernel_rfl
theorem ze96 : (Try.prog.info? 96).bind (·.zero) = some (.int .u8 0) := by kernel_rfl
theorem one97 : one Try.prog 97 = true := by kernel_rfl
theorem sz97 : (Try.prog.info? 97).map (·.size) = some 1 := by kernel_rfl
theorem zc97 : zeroCells Try.prog 97 = some [.int .u8 0] := by kernel_rfl
theorem ze97 : (Try.prog.info? 97).bind (·.zero) = some (.int .u8 0) := by kernel_rfl
theorem one98 : one Try.prog 98 = true := by kernel_rfl
theorem sz98 : (Try.prog.info? 98).map (·.size) = some 1 := by kernel_rfl
theorem zc98 : zeroCells Try.prog 98 = some [.nilFunc] := by kernel_rfl
theorem ze98 : (Try.prog.info? 98).bind (·.zero) = some (.nilFunc) := by kernel_rfl
theorem one99 : one Try.prog 99 = true := by kernel_rfl
theorem sz99 : (Try.prog.info? 99).map (·.size) = some 1 := by kernel_rfl
theorem zc99 : zeroCells Try.prog 99 = some [.pointer none] := by kernel_rfl
theorem ze99 : (Try.prog.info? 99).bind (·.zero) = some (.pointer none) := by kernel_rfl
theorem one100 : one Try.prog 100 = true := by kernel_rfl
theorem sz100 : (Try.prog.info? 100).map (·.size) = some 1 := by kernel_rfl
theorem zc100 : zeroCells Try.prog 100 = some [.int .i32 0] := by kernel_rfl
theorem ze100 : (Try.prog.info? 100).bind (·.zero) = some (.int .i32 0) := by kernel_rfl
theorem one101 : one Try.prog 101 = true := by kernel_rfl
theorem sz101 : (Try.prog.info? 101).map (·.size) = some 1 := by kernel_rfl
theorem zc101 : zeroCells Try.prog 101 = some [.int .i32 0] := by kernel_rfl
theorem ze101 : (Try.prog.info? 101).bind (·.zero) = some (.int .i32 0) := by kernel_rfl
theorem sz102 : (Try.prog.info? 102).map (·.size) = some 11 := by kernel_rfl
theorem zc102 : zeroCells Try.prog 102 = some [.int .u64 0, .int .u64 0, .int .u32 0, .int .u8 0, .int .u8 0, .int .u8 0, .int .u8 0, .nilFunc, .pointer none, .int .i32 0, .int .i32 0] := by kernel_rfl
theorem fo102_0 : fieldOff Try.prog 102 0 = some 0 := by kernel_rfl
theorem fo102_1 : fieldOff Try.prog 102 1 = some 1 := by kernel_rfl
theorem fo102_2 : fieldOff Try.prog 102 2 = some 2 := by kernel_rfl
theorem fo102_3 : fieldOff Try.prog 102 3 = some 3 := by kernel_rfl
theorem fo102_4 : fieldOff Try.prog 102 4 = some 4 := by kernel_rfl
theorem fo102_5 : fieldOff Try.prog 102 5 = some 5 := by kernel_rfl
theorem fo102_6 : fieldOff Try.prog 102 6 = some 6 := by kernel_rfl
theorem fo102_7 : fieldOff Try.prog 102 7 = some 7 := by kernel_rfl
theorem fo102_8 : fieldOff Try.prog 102 8 = some 8 := by kernel_rfl
theorem fo102_9 : fieldOff Try.prog 102 9 = some 9 := by kernel_rfl
theorem fo102_10 : fieldOff Try.prog 102 10 = some 10 := by kernel_rfl
theorem sz103 : (Try.prog.info? 103).map (·.size) = some 11 := by kernel_rfl
theorem zc103 : zeroCells Try.prog 103 = some [.int .u64 0, .int .u64 0, .int .u32 0, .int .u8 0, .int .u8 0, .int .u8 0, .int .u8 0, .nilFunc, .pointer none, .int .i32 0, .int .i32 0] := by kernel_rfl
theorem fo103_0 : fieldOff Try.prog 103 0 = some 0 := by kernel_rfl
theorem fo103_1 : fieldOff Try.prog 103 1 = some 1 := by kernel_rfl
theorem fo103_2 : fieldOff Try.prog 103 2 = some 2 := by kernel_rfl
theorem fo103_3 : fieldOff Try.prog 103 3 = some 3 := by kernel_rfl
theorem fo103_4 : fieldOff Try.prog 103 4 = some 4 := by kernel_rfl
theorem fo103_5 : fieldOff Try.prog 103 5 = some 5 := by kernel_rfl
theorem fo103_6 : fieldOff Try.prog 103 6 = some 6 := by kernel_rfl
theorem fo103_7 : fieldOff Try.prog 103 7 = some 7 := by kernel_rfl
theorem fo103_8 : fieldOff Try.prog 103 8 = some 8 := by kernel_rfl
theorem fo103_9 : fieldOff Try.prog 103 9 = some 9 := by kernel_rfl
theorem fo103_10 : fieldOff Try.prog 103 10 = some 10 := by kernel_rfl
theorem one104 : one Try.prog 104 = true := by kernel_rfl
theorem sz104 : (Try.prog.info? 104).map (·.size) = some 1 := by kernel_rfl
theorem en2 : enters Try.prog 2 = true := by kernel_rfl
theorem en3 : enters Try.prog 3 = true := by kernel_rfl
theorem en4 : enters Try.prog 4 = true := by kernel_rfl
theorem en5 : enters Try.prog 5 = true := by kernel_rfl
theorem en6 : enters Try.prog 6 = true := by kernel_rfl
theorem en7 : enters Try.prog 7 = true := by kernel_rfl
theorem en8 : enters Try.prog 8 = true := by kernel_rfl
theorem en9 : enters Try.prog 9 = true := by kernel_rfl
theorem en10 : enters Try.prog 10 = true := by kernel_rfl
theorem en11 : enters Try.prog 11 = true := by kernel_rfl
theorem en12 : enters Try.prog 12 = true := by kernel_rfl
theorem en13 : enters Try.prog 13 = true := by kernel_rfl
theorem en14 : enters Try.prog 14 = true := by kernel_rfl
theorem en15 : enters Try.prog 15 = true := by kernel_rfl
theorem en16 : enters Try.prog 16 = true := by kernel_rfl
theorem en17 : enters Try.prog 17 = true := by kernel_rfl
theorem en18 : enters Try.prog 18 = true := by kernel_rfl
theorem en19 : enters Try.prog 19 = true := by kernel_rfl
theorem en20 : enters Try.prog 20 = true := by kernel_rfl
theorem en21 : enters Try.prog 21 = true := by kernel_rfl
theorem en22 : enters Try.prog 22 = true := by kernel_rfl
theorem en23 : enters Try.prog 23 = true := by kernel_rfl
theorem en24 : enters Try.prog 24 = true := by kernel_rfl
theorem en25 : enters Try.prog 25 = true := by kernel_rfl
theorem en26 : enters Try.prog 26 = true := by kernel_rfl
theorem en27 : enters Try.prog 27 = true := by kernel_rfl
theorem en28 : enters Try.prog 28 = true := by kernel_rfl
theorem en29 : enters Try.prog 29 = true := by kernel_rfl
theorem en30 : enters Try.prog 30 = true := by kernel_rfl
theorem en31 : enters Try.prog 31 = true := by kernel_rfl
theorem en32 : enters Try.prog 32 = true := by kernel_rfl
theorem en33 : enters Try.prog 33 = true := by kernel_rfl
theorem en34 : enters Try.prog 34 = true := by kernel_rfl
theorem en35 : enters Try.prog 35 = true := by kernel_rfl
theorem en36 : enters Try.prog 36 = true := by kernel_rfl
theorem en37 : enters Try.prog 37 = true := by kernel_rfl
theorem en38 : enters Try.prog 38 = true := by kernel_rfl
theorem en39 : enters Try.prog 39 = true := by kernel_rfl
theorem en40 : enters Try.prog 40 = true := by kernel_rfl
theorem en41 : enters Try.prog 41 = true := by kernel_rfl
theorem en42 : enters Try.prog 42 = true := by kernel_rfl
theorem en43 : enters Try.prog 43 = true := by kernel_rfl
theorem en44 : enters Try.prog 44 = true := by kernel_rfl
theorem en45 : enters Try.prog 45 = true := by kernel_rfl
theorem en46 : enters Try.prog 46 = true := by kernel_rfl
theorem en47 : enters Try.prog 47 = true := by kernel_rfl
theorem en48 : enters Try.prog 48 = true := by kernel_rfl
theorem en49 : enters Try.prog 49 = true := by kernel_rfl
theorem en50 : enters Try.prog 50 = true := by kernel_rfl
theorem en51 : enters Try.prog 51 = true := by kernel_rfl
theorem en52 : enters Try.prog 52 = true := by kernel_rfl
theorem en53 : enters Try.prog 53 = true := by kernel_rfl
theorem en54 : enters Try.prog 54 = true := by kernel_rfl
theorem en55 : enters Try.prog 55 = true := by kernel_rfl
theorem en56 : enters Try.prog 56 = true := by kernel_rfl
theorem en57 : enters Try.prog 57 = true := by kernel_rfl
theorem en58 : enters Try.prog 58 = true := by kernel_rfl
theorem en59 : enters Try.prog 59 = true := by kernel_rfl
theorem en60 : enters Try.prog 60 = true := by kernel_rfl
theorem en61 : enters Try.prog 61 = true := by kernel_rfl
theorem en62 : enters Try.prog 62 = true := by kernel_rfl
theorem en63 : enters Try.prog 63 = true := by kernel_rfl
theorem en64 : enters Try.prog 64 = true := by kernel_rfl
theorem en65 : enters Try.prog 65 = true := by kernel_rfl
theorem en66 : enters Try.prog 66 = true := by kernel_rfl
theorem en67 : enters Try.prog 67 = true := by kernel_rfl
theorem en68 : enters Try.prog 68 = true := by kernel_rfl
theorem en69 : enters Try.prog 69 = true := by kernel_rfl
theorem en70 : enters Try.prog 70 = true := by kernel_rfl
theorem en71 : enters Try.prog 71 = true := by kernel_rfl
theorem en72 : enters Try.prog 72 = true := by kernel_rfl
theorem en73 : enters Try.prog 73 = true := by kernel_rfl
theorem en74 : enters Try.prog 74 = true := by kernel_rfl
theorem en75 : enters Try.prog 75 = true := by kernel_rfl
theorem en76 : enters Try.prog 76 = true := by kernel_rfl
theorem en77 : enters Try.prog 77 = true := by kernel_rfl
theorem en78 : enters Try.prog 78 = true := by kernel_rfl
theorem en79 : enters Try.prog 79 = true := by kernel_rfl
theorem en80 : enters Try.prog 80 = true := by kernel_rfl
theorem en81 : enters Try.prog 81 = true := by kernel_rfl
theorem en82 : enters Try.prog 82 = true := by kernel_rfl
theorem en83 : enters Try.prog 83 = true := by kernel_rfl
theorem en84 : enters Try.prog 84 = true := by kernel_rfl
theorem en85 : enters Try.prog 85 = true := by kernel_rfl
theorem en86 : enters Try.prog 86 = true := by kernel_rfl
end Go.Proofs.Ytegmhdabedgloaa
